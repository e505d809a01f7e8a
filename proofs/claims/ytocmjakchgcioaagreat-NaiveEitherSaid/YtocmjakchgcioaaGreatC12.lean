import Derived.Test.YtocmjakchgcioaaGreatC9
import Derived.Test.YtocmjakchgcioaaGreatC8
import Derived.Test.YtocmjakchgcioaaGreatA8

namespace Go.Proofs.YtocmjakchgcioaaGreat
set_option linter.all false
variable {A:Au} {p:Nat}
attribute [-go_sem] Qw Qe rfOb V.cells
def mvAt (A:Au) (p:Nat):List Mv:=(A.moves[p]?).getD []
def QaA (hp:p < A.moves.length):A.moves[p]?=some (mvAt A p):=by simp [mvAt,List.getElem?_eq_getElem hp]
def Qnv (hp:p < A.moves.length):(A.moves.map mlC)[p]?=some [.sl ((mvAt A p).map mvC)]:=by
 rw[List.getElem?_map,QaA hp];rfl
def Qks {l:List Mv} {i:Nat} (hi:i < l.length):(l.map mvC)[i]?=some (mvC l[i]):=by
 rw[List.getElem?_map,List.getElem?_eq_getElem hi];rfl
def Yj (A:Au) (x:Cf) (b:Nat) (ms:List Mv):List Cf:=ms.filterMap fun m=>if Q2 (stAt A m.to) b then mayF A x m else none
def JD (A:Au) (x:Cf) (b:Nat):List Cf:=sdC (Yj A x b (mvAt A x.p.toNat))
def Qbc (A:Au) (x:Cf) (b:Nat) (ms:List Mv) (m:Mv):Yj A x b (ms++[m])=Yj A x b ms++(if Q2 (stAt A m.to) b then mayF A x m else none).toList:=by
 unfold Yj;rw[List.filterMap_append,List.filterMap_cons];generalize (if Q2 (stAt A m.to) b then mayF A x m else none)=z;cases z<;>rfl
def Vt (A:Au) (x:Cf) (b:Nat) (ms:List Mv):(Yj A x b ms).length≤ms.length:=List.length_filterMap_le _ _
set_option maxHeartbeats 2000000 in
def Qhz (hW:WF A) (hL:∀ l∈A.moves,l.length < 2147483648) {x:Cf} (hr:QA A x=true) {b:Nat} (hb:b < 256):Pu F 67 [.ag (auC A),.ag (cfC x),.i .u8 b] (.sl ((JD A x b).map cfC)):=by
 have h1:=QaW hW x;rw[hr] at h1;obtain⟨r1,r2,_⟩:=QM.1 hr;obtain⟨p,hp⟩:∃ p:Nat,x.p=p:=⟨x.p.toNat,OM⟩;have hpt:x.p.toNat=p:=by omega
 have hpp:(0:Int)≤(p:Int):=by omega
 have hpl:p < A.moves.length:=by rw[hW.lm,← hW.la];omega
 have hmo:=Qnv hpl;have hml:=hL _ (List.mem_of_getElem? (QaA hpl));have hmk:∀ m∈mvAt A p,MvOk A x.p.toNat m:=fun m hm=>mvOk hW (QaA (p:=x.p.toNat) (by rw[hpt];exact hpl)) (by rw[hpt];exact hm);unfold JD;rw[hpt];generalize mvAt A p=l at hmo hml hmk;refine Ql e67 rfl rfl (by simp only[go_sem,Bool.and_true]) ?_;dsimp only[fn67,c67];refine RN trivial ?_;refine PRN trivial (r:=.bo true) h1 ?_;refine RT (Ad3 hp hmo hpp) ?_;refine U_lp (fun r e o=>∃ i:Nat,i+r=l.length∧e 2=.i .u8 b∧e 3=.pt 3 0 0∧e 4=.pt 4 0 0∧e 21=.sl (l.map mvC)∧e 22=.i .i64 l.length∧e 23=.i .i64 i∧e 7=ownV 48 5 ((Yj A x b (l.take i)).map cfC)∧Own o 48 5 ((Yj A x b (l.take i)).map cfC)∧o 3=some (.row 15 [auC A])∧o 4=some (.row 5 [cfC x])) (k:=l.length) ?_ (Qa F) ?_
 ·exact⟨0,OM,Z0,Z0,Z0,Z0,by simp only[List.length_map,go_sem],Zr0,Zr0,⟨rfl,fun h=>absurd rfl h⟩,Z0,Z0⟩
 rintro r e o ⟨i,hir,r2,r3,r4,r21,r22,r23,r7,ho,o3,o4⟩;dsimp only[Qmb];have hln:=Vt A x b (l.take i);rw[List.length_take] at hln;refine RN (Ad2 r22 r23) ?_;refine Qx (q:=decide ((i:Int) < (l.length:Int))) (Z0) (fun hc=>?_) (fun hc=>?_)
 ·have hi:i < l.length:=by simpa using hc
  have hip:(0:Int)≤(i:Int):=by omega
  have hxi:=Qks hi;have hw:=Wb (i:=i) OM;have htk:Yj A x b (l.take (i+1))=Yj A x b (l.take i)++(if Q2 (stAt A l[i].to) b then mayF A x l[i] else none).toList:=by
   rw[← Qbc,List.take_add_one,List.getElem?_eq_getElem hi];rfl
  have hmi:=hmk l[i] (List.getElem_mem hi);generalize l[i]=m at hxi htk hmi;have hto:m.to < A.sets.length:=by rw[← hW.la];exact hmi.to
  have hst:=Qld hto;have htp:(0:Int)≤(m.to:Int):=by omega
  have hhas:=Qga (stAt A m.to) (st_w hW hto) b hb;have hmay:=Qlf hW hr hmi;refine RT (Ad5 r2 r3 r21 r23 (Ad5 o3 hip hxi htp hst)) ?_;refine PRN r2 (r:=.bo (Q2 (stAt A m.to) b)) hhas ?_;cases hbt:Q2 (stAt A m.to) b with
  | false =>
   rw[hbt] at htk;have htk:Yj A x b (l.take (i+1))=Yj A x b (l.take i):=by rw[htk];simp
   refine RN (Ad2 r23 hw) ?_
   refine⟨r - 1,OM,i+1,OM,Z1 r2,Z1 r3,Z1 r4,Z1 r21,Z1 r22,Z0,by rw[htk];simp only[r7,go_sem],?_,Z1 o3,Z1 o4⟩
   rw[htk];(repeat first|with_reducible assumption|refine .up rfl ?_|refine .sw rfl ?_|refine .swN rfl ?_)
  | true =>
   rw[hbt,if_pos rfl] at htk;refine RN (Ad4 r3 r4 o3 o4) ?_;cases hv:mayF A x m with
   | none =>
    rw[hv] at hmay htk;have htk:Yj A x b (l.take (i+1))=Yj A x b (l.take i):=by rw[htk];simp
    refine PRN (Ad2 r3 r4) (r:=.tp [.ag (cfC noC),.bo false]) hmay ?_;refine RN (Ad2 r23 hw) ?_
    refine⟨r - 1,OM,i+1,OM,Z1 r2,Z1 r3,Z1 r4,Z1 r21,Z1 r22,Z0,by rw[htk];simp only[r7,go_sem],?_,Z1 o3,Z1 o4⟩
    rw[htk];(repeat first|with_reducible assumption|refine .up rfl ?_|refine .sw rfl ?_|refine .swN rfl ?_)
   | some y =>
    rw[hv] at hmay htk;have htk:Yj A x b (l.take (i+1))=Yj A x b (l.take i)++[y]:=htk;refine PRN (Ad2 r3 r4) (r:=.tp [.ag (cfC y),.bo true]) hmay ?_;refine RN r7 ?_;refine Jr 48 (L:=(Yj A x b (l.take i)).map cfC) (ys:=[cfC y]) (Z1 r7) ?_ (by (simp only[src,go_sem]<;>rfl)) (by simp [HS]) SM OM ⟨by simp;omega,OM⟩ (Zs _ ho.c) rfl ?_
    ·exact Own.h (by (repeat first|with_reducible assumption|refine .up rfl ?_|refine .sw rfl ?_|refine .swN rfl ?_))
    refine RN (Ad2 r23 hw) ?_
    refine⟨r - 1,OM,i+1,OM,Z1 r2,Z1 r3,Z1 r4,Z1 r21,Z1 r22,Z0,by simp only[htk,List.map_append,go_sem],?_,Z1 o3,Z1 o4⟩
    rw[htk,List.map_append];exact Own.to (by have:=HT (Yj A x b (l.take i)++[y]);rw[List.map_append] at this;exact this)
 ·have hi:i=l.length:=by
   have:¬ i < l.length:=by simpa using hc
   omega
  subst hi;rw[List.take_length] at r7 ho hln;refine RN r7 ?_;refine QaX 48 (l0:=Yj A x b l) OM OM (Z0) ho fun e1 o1 v hv=>?_;refine RN trivial ?_;exact hv
def z64:((64:Int)=0)=False:=by simp
def z2:((2:Int)=0)=False:=by simp
attribute [go_sem] z64 z2
end Go.Proofs.YtocmjakchgcioaaGreat
