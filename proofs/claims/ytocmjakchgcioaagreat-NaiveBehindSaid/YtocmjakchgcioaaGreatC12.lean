import Derived.Test.YtocmjakchgcioaaGreatC9
import Derived.Test.YtocmjakchgcioaaGreatC8
import Derived.Test.YtocmjakchgcioaaGreatA8

namespace Go.Proofs.YtocmjakchgcioaaGreat
set_option linter.all false
variable {A:Au} {p:Nat}
attribute [-go_sem] Qp Qb rfOb V.cells
def mvAt (A:Au) (p:Nat):List Mv:=(A.moves[p]?).getD []
def XS (hp:p < A.moves.length):A.moves[p]?=some (mvAt A p):=by simp [mvAt,List.getElem?_eq_getElem hp]
def Qja (hp:p < A.moves.length):(A.moves.map mlC)[p]?=some [.sl ((mvAt A p).map mvC)]:=by
 rw[List.getElem?_map,XS hp];rfl
def Qfi {l:List Mv} {i:Nat} (hi:i < l.length):(l.map mvC)[i]?=some (mvC l[i]):=by
 rw[List.getElem?_map,List.getElem?_eq_getElem hi];rfl
def Zy (A:Au) (x:Cf) (b:Nat) (ms:List Mv):List Cf:=ms.filterMap fun m=>if Q0 (stAt A m.to) b then mayF A x m else none
def YI (A:Au) (x:Cf) (b:Nat):List Cf:=sdC (Zy A x b (mvAt A x.p.toNat))
def QaB (A:Au) (x:Cf) (b:Nat) (ms:List Mv) (m:Mv):Zy A x b (ms++[m])=Zy A x b ms++(if Q0 (stAt A m.to) b then mayF A x m else none).toList:=by
 unfold Zy;rw[List.filterMap_append,List.filterMap_cons];generalize (if Q0 (stAt A m.to) b then mayF A x m else none)=z;cases z<;>rfl
def HP (A:Au) (x:Cf) (b:Nat) (ms:List Mv):(Zy A x b ms).length≤ms.length:=List.length_filterMap_le _ _
set_option maxHeartbeats 2000000 in
def QgH (hW:WF A) (hL:∀ l∈A.moves,l.length < 2147483648) {x:Cf} (hr:Qx A x=true) {b:Nat} (hb:b < 256):Pu F 67 [.ag (auC A),.ag (cfC x),.i .u8 b] (.sl ((YI A x b).map cfC)):=by
 have h1:=D3 hW x;rw[hr] at h1;obtain⟨r1,r2,_⟩:=QH.1 hr;obtain⟨p,hp⟩:∃ p:Nat,x.p=p:=⟨x.p.toNat,OM⟩;have hpt:x.p.toNat=p:=by omega
 have hpp:(0:Int)≤(p:Int):=by omega
 have hpl:p < A.moves.length:=by rw[hW.lm,← hW.la];omega
 have hmo:=Qja hpl;have hml:=hL _ (List.mem_of_getElem? (XS hpl));have hmk:∀ m∈mvAt A p,MvOk A x.p.toNat m:=fun m hm=>mvOk hW (XS (p:=x.p.toNat) (by rw[hpt];exact hpl)) (by rw[hpt];exact hm);unfold YI;rw[hpt];generalize mvAt A p=l at hmo hml hmk;refine Qe e67 rfl rfl (by simp only[go_sem,Bool.and_true]) ?_;dsimp only[fn67,c67];refine RN trivial ?_;refine PRN trivial (r:=.bo true) h1 ?_;refine RT (Ad3 hp hmo hpp) ?_;refine U_lp (fun r e o=>∃ i:Nat,i+r=l.length∧e 2=.i .u8 b∧e 3=.pt 3 0 0∧e 4=.pt 4 0 0∧e 21=.sl (l.map mvC)∧e 22=.i .i64 l.length∧e 23=.i .i64 i∧e 7=ownV 48 5 ((Zy A x b (l.take i)).map cfC)∧Own o 48 5 ((Zy A x b (l.take i)).map cfC)∧o 3=some (.row 15 [auC A])∧o 4=some (.row 5 [cfC x])) (k:=l.length) ?_ (Qa F) ?_
 ·exact⟨0,OM,Z0,Z0,Z0,Z0,by simp only[List.length_map,go_sem],Zr0,Zr0,⟨rfl,fun h=>absurd rfl h⟩,Z0,Z0⟩
 rintro r e o ⟨i,hir,r2,r3,r4,r21,r22,r23,r7,ho,o3,o4⟩;dsimp only[Qkh];have hln:=HP A x b (l.take i);rw[List.length_take] at hln;refine RN (Ad2 r22 r23) ?_;refine Qh (q:=decide ((i:Int) < (l.length:Int))) (Z0) (fun hc=>?_) (fun hc=>?_)
 ·have hi:i < l.length:=by simpa using hc
  have hip:(0:Int)≤(i:Int):=by omega
  have hxi:=Qfi hi;have hw:=Zs (i:=i) OM;have htk:Zy A x b (l.take (i+1))=Zy A x b (l.take i)++(if Q0 (stAt A l[i].to) b then mayF A x l[i] else none).toList:=by
   rw[← QaB,List.take_add_one,List.getElem?_eq_getElem hi];rfl
  have hmi:=hmk l[i] (List.getElem_mem hi);generalize l[i]=m at hxi htk hmi;have hto:m.to < A.sets.length:=by rw[← hW.la];exact hmi.to
  have hst:=Qdw hto;have htp:(0:Int)≤(m.to:Int):=by omega
  have hhas:=Qe0 (stAt A m.to) (st_w hW hto) b hb;have hmay:=Qk8 hW hr hmi;refine RT (Ad5 r2 r3 r21 r23 (Ad5 o3 hip hxi htp hst)) ?_;refine PRN r2 (r:=.bo (Q0 (stAt A m.to) b)) hhas ?_;cases hbt:Q0 (stAt A m.to) b with
  | false =>
   rw[hbt] at htk;have htk:Zy A x b (l.take (i+1))=Zy A x b (l.take i):=by rw[htk];simp
   refine RN (Ad2 r23 hw) ?_
   refine⟨r - 1,OM,i+1,OM,Z1 r2,Z1 r3,Z1 r4,Z1 r21,Z1 r22,Z0,by rw[htk];simp only[r7,go_sem],?_,Z1 o3,Z1 o4⟩
   rw[htk];(repeat first|with_reducible assumption|refine .up rfl ?_|refine .sw rfl ?_|refine .swN rfl ?_)
  | true =>
   rw[hbt,if_pos rfl] at htk;refine RN (Ad4 r3 r4 o3 o4) ?_;cases hv:mayF A x m with
   | none =>
    rw[hv] at hmay htk;have htk:Zy A x b (l.take (i+1))=Zy A x b (l.take i):=by rw[htk];simp
    refine PRN (Ad2 r3 r4) (r:=.tp [.ag (cfC noC),.bo false]) hmay ?_;refine RN (Ad2 r23 hw) ?_
    refine⟨r - 1,OM,i+1,OM,Z1 r2,Z1 r3,Z1 r4,Z1 r21,Z1 r22,Z0,by rw[htk];simp only[r7,go_sem],?_,Z1 o3,Z1 o4⟩
    rw[htk];(repeat first|with_reducible assumption|refine .up rfl ?_|refine .sw rfl ?_|refine .swN rfl ?_)
   | some y =>
    rw[hv] at hmay htk;have htk:Zy A x b (l.take (i+1))=Zy A x b (l.take i)++[y]:=htk;refine PRN (Ad2 r3 r4) (r:=.tp [.ag (cfC y),.bo true]) hmay ?_;refine RN r7 ?_;refine Yi 48 (L:=(Zy A x b (l.take i)).map cfC) (ys:=[cfC y]) (Z1 r7) ?_ (by (simp only[src,go_sem]<;>rfl)) (by simp [Wh]) SM OM ⟨by simp;omega,OM⟩ (QY _ ho.c) rfl ?_
    ·exact Own.h (by (repeat first|with_reducible assumption|refine .up rfl ?_|refine .sw rfl ?_|refine .swN rfl ?_))
    refine RN (Ad2 r23 hw) ?_
    refine⟨r - 1,OM,i+1,OM,Z1 r2,Z1 r3,Z1 r4,Z1 r21,Z1 r22,Z0,by simp only[htk,List.map_append,go_sem],?_,Z1 o3,Z1 o4⟩
    rw[htk,List.map_append];exact Own.to (by have:=J8 (Zy A x b (l.take i)++[y]);rw[List.map_append] at this;exact this)
 ·have hi:i=l.length:=by
   have:¬ i < l.length:=by simpa using hc
   omega
  subst hi;rw[List.take_length] at r7 ho hln;refine RN r7 ?_;refine DV 48 (l0:=Zy A x b l) OM OM (Z0) ho fun e1 o1 v hv=>?_;refine RN trivial ?_;exact hv
def Qac (a b:Nat):(a:Int).tdiv (b:Int)=((a / b:Nat):Int):=by
 rw[Int.tdiv_eq_ediv_of_nonneg OM];exact (Int.natCast_ediv a b).symm
def z64:((64:Int)=0)=False:=by simp
def z2:((2:Int)=0)=False:=by simp
attribute [go_sem] z64 z2
def QcM (s:Nat→Nat) (hs:W64 s) (b:Nat) (hb:b < 256):Pu F 30 [.ag (u4 s),.i .i64 b] (.bo (Q0 s b)):=by
 have hq:b / 64 < 4:=by omega
 have w1:(b:Int).tdiv 64=((b / 64:Nat):Int):=Qac b 64;have w2:IntKind.i64.wrap (((b / 64:Nat)):Int)=((b / 64:Nat):Int):=Qg OM OM;have w3:(0:Int)≤((b / 64:Nat):Int):=by omega
 have w4:(((b / 64:Nat):Int) < 4)=True:=by simp only[eq_iff_iff,iff_true];omega
 have w5:(b:Int).tmod 64=((b % 64:Nat):Int):=De b 64;have hu:=Qfo s hq;refine Qe e30 rfl rfl (by simp only[go_sem,Bool.and_true];rfl) ?_;dsimp only[fn30,c30];refine RT (Ad5 w1 w2 w3 w4 hu) ?_;refine U_lp (fun r e o=>∃ k:Nat,k+r=b % 64∧e 1=.i .i64 b∧e 5=.i .u64 ((s (b / 64) / 2 ^ k:Nat):Int)∧e 6=.i .i64 k) (k:=b % 64) ?_ (Qa F) ?_
 ·exact⟨0,OM,Z0,by simp only[go_sem];simp,Zr0⟩
 rintro r e o ⟨k,hkr,r1,r5,r6⟩;dsimp only[QjF];refine RN (Ad3 r1 r6 w5) ?_;refine Qh (q:=decide ((k:Int) < ((b % 64:Nat):Int))) (Z0) (fun hc=>?_) (fun hc=>?_)
 ·have hk:k < b % 64:=by have:=of_decide_eq_true hc;omega
  have hw:=Zs (i:=k) OM;have v1:(((s (b / 64) / 2 ^ k:Nat)):Int).tdiv 2=((s (b / 64) / 2 ^ (k+1):Nat):Int):=by
   have:=Qac (s (b / 64) / 2 ^ k) 2
   rw[Nat.div_div_eq_div_mul,← Nat.pow_succ] at this;exact this
  have hlt:s (b / 64) / 2 ^ (k+1) < 18446744073709551616:=Nat.lt_of_le_of_lt (Nat.div_le_self _ _) (hs _ hq);have v2:IntKind.u64.wrap (((s (b / 64) / 2 ^ (k+1):Nat)):Int)=((s (b / 64) / 2 ^ (k+1):Nat):Int):=(fun (t:Nat) (h:t < 18446744073709551616)=>(Dv OM OM:IntKind.u64.wrap (t:Int)=t)) _ hlt;refine RN (Ad5 r5 r6 v1 v2 hw) ?_
  exact⟨r - 1,OM,k+1,OM,Z1 r1,Z0,Z0⟩
 ·have hk:k=b % 64:=by have:=of_decide_eq_false hc;omega
  subst hk;have v3:(((s (b / 64) / 2 ^ (b % 64):Nat)):Int).tmod 2=((s (b / 64) / 2 ^ (b % 64) % 2:Nat):Int):=De _ 2;have v4:((((s (b / 64) / 2 ^ (b % 64) % 2:Nat)):Int)==1)=Q0 s b:=by
   rw[← Qa3];rcases Nat.mod_two_eq_zero_or_one (s (b / 64) / 2 ^ (b % 64)) with h|h<;>rw[h]<;>rfl
  refine RN (Ad3 r5 v3 v4) ?_;exact Qy rfl rfl
def Ve (c:Cf) (l:List Cf) (hl:l.length < 4294967296):Pu F 14 [.sl (l.map cfC),.ag (cfC c)] (.bo (decide (c∈l))):=by
 refine Qe e14 rfl rfl (by simp only[go_sem,Bool.and_true]) ?_;dsimp only[fn14,c14];refine RN trivial ?_;refine U_lp (fun r e o=>∃ i:Nat,i+r=l.length∧e 0=.sl (l.map cfC)∧e 3=.pt 3 0 0∧e 5=.i .i64 i∧o 3=some (.row 5 [cfC c])∧c ∉ l.take i) (k:=l.length) ?_ (Qa F) ?_
 ·exact⟨0,OM,Z0,Z0,Zr0,Z0,SM⟩
 rintro r e o ⟨i,hir,r0,r3,r5,o3,hq⟩;dsimp only[QkI];refine RT (Ad2 r0 r5) ?_;refine Qh (q:=decide ((i:Int) < (l.length:Int))) (Z0) (fun hc=>?_) (fun hc=>?_)
 ·have hi:i < l.length:=by simpa using hc
  have hip:(0:Int)≤(i:Int):=by omega
  have hx:=Y9 hi;have hw:=Zs (i:=i) OM;refine RT (Ad2 r0 (Ad5 r3 r5 o3 hip hx)) ?_;refine Qh (q:=decide (l[i]=c)) (Z0) (fun hc2=>?_) (fun hc2=>?_)
  ·have he:l[i]=c:=by simpa using hc2
   have:decide (c∈l)=true:=by simp;rw[← he];exact List.getElem_mem hi
   refine RN trivial ?_;rw[this];exact Qy rfl rfl
  ·have he:¬ l[i]=c:=by simpa using hc2
   refine RN (Ad2 r5 hw) ?_
   refine⟨r - 1,OM,i+1,OM,Z1 r0,Z1 r3,Z0,Z1 o3,fun hm=>?_⟩
   rw[List.take_add_one,List.getElem?_eq_getElem hi] at hm;rcases List.mem_append.1 hm with h|h
   ·exact hq h
   ·simp at h;exact he h.symm
 ·have hi:i=l.length:=by
   have:¬ i < l.length:=by simpa using hc
   omega
  subst hi;rw[List.take_length] at hq
  have:decide (c∈l)=false:=by simpa using hq
  refine RN trivial ?_;rw[this];exact Qy rfl rfl
def QaE {l want:List Cf} (hl:l.length < 4294967296) (h1:l.length=want.length) (h2:∀ y∈l,y∈want) (h3:l.Pairwise fun x y=>ordC x y < 0):Pu F 15 [.sl (l.map cfC),.sl (want.map cfC)] (.bo true):=by
 refine Qe e15 rfl rfl (by simp only[go_sem,Bool.and_true]) ?_;dsimp only[fn15,c15];have c1:((l.length:Int) != (want.length:Int))=false:=by simp [h1]
 refine RT c1 ?_;refine U_lp (fun r e o=>∃ i:Nat,i+r=l.length∧e 0=.sl (l.map cfC)∧e 1=.sl (want.map cfC)∧e 5=.i .i64 i) (k:=l.length) ?_ (Qa F) ?_
 ·exact⟨0,OM,Z0,Z0,Zr0⟩
 rintro r e o ⟨i,hir,r0,r1,r5⟩;dsimp only[Qi2];refine RT (Ad2 r0 r5) ?_;refine Qh (q:=decide ((i:Int) < (l.length:Int))) (Z0) (fun hc=>?_) (fun hc=>?_)
 ·have hi:i < l.length:=by simpa using hc
  have hip:(0:Int)≤(i:Int):=by omega
  have hx:=Y9 hi;have hw:=Zs (i:=i) OM;have hm:=Ve l[i] want OM;rw[decide_eq_true (h2 _ (List.getElem_mem hi))] at hm;refine RT (Ad5 r0 r1 r5 hip hx) ?_;refine PRN r1 (r:=.bo true) hm ?_;by_cases h0:i=0
  ·have d1:decide ((i:Int) > 0)=false:=by simp;omega
   refine RN (Ad3 r5 d1 hw) ?_
   exact⟨r - 1,OM,i+1,OM,Z1 r0,Z1 r1,Z0⟩
  ·have d1:decide ((i:Int) > 0)=true:=by simp;omega
   have hw2:IntKind.i64.wrap ((i:Int) - 1)=((i - 1:Nat):Int):=by rw[Qg OM OM];omega
   have hip1:(0:Int)≤((i - 1:Nat):Int):=by omega
   have hy:=Y9 (l:=l) (i:=i - 1) OM;have hlt:ordC l[i - 1] l[i] < 0:=List.pairwise_iff_getElem.1 h3 (i - 1) i OM hi OM;have hod:=Hr l[i - 1] l[i];have d2:decide (ordC l[i - 1] l[i]≥0)=false:=by simp;omega
   generalize ordC l[i - 1] l[i]=w at hod d2;refine RT (Ad4 r0 r5 d1 (Ad5 hw2 hip hip1 hx hy)) ?_;refine PRN trivial (r:=.i .i64 w) hod ?_;refine RN (Ad3 r5 d2 hw) ?_
   exact⟨r - 1,OM,i+1,OM,Z1 r0,Z1 r1,Z0⟩
 ·refine RN trivial ?_;rfl
end Go.Proofs.YtocmjakchgcioaaGreat
