import Derived.Test.YtocmjakchgcioaaGreatC9
import Derived.Test.YtocmjakchgcioaaGreatC8
import Derived.Test.YtocmjakchgcioaaGreatA8

namespace Go.Proofs.YtocmjakchgcioaaGreat
set_option linter.all false
attribute [-go_sem] swpOb renOb rfOb V.cells
def mvAt (A:Au) (p:Nat):List Mv:=(A.moves[p]?).getD []
theorem mo_get {A:Au} {p:Nat} (hp:p < A.moves.length):A.moves[p]?=some (mvAt A p):=by simp [mvAt,List.getElem?_eq_getElem hp]
theorem mo_at {A:Au} {p:Nat} (hp:p < A.moves.length):(A.moves.map mlC)[p]?=some [.sl ((mvAt A p).map mvC)]:=by
 rw[List.getElem?_map,mo_get hp];rfl
theorem mvs_at {l:List Mv} {i:Nat} (hi:i < l.length):(l.map mvC)[i]?=some (mvC l[i]):=by
 rw[List.getElem?_map,List.getElem?_eq_getElem hi];rfl
def stepL (A:Au) (x:Cf) (b:Nat) (ms:List Mv):List Cf:=ms.filterMap fun m=>if bitOf (stAt A m.to) b then mayF A x m else none
def stepF (A:Au) (x:Cf) (b:Nat):List Cf:=sdC (stepL A x b (mvAt A x.p.toNat))
theorem stepL_snoc (A:Au) (x:Cf) (b:Nat) (ms:List Mv) (m:Mv):stepL A x b (ms++[m])=stepL A x b ms++(if bitOf (stAt A m.to) b then mayF A x m else none).toList:=by
 unfold stepL;rw[List.filterMap_append,List.filterMap_cons];generalize (if bitOf (stAt A m.to) b then mayF A x m else none)=z;cases z<;>rfl
theorem stepL_len (A:Au) (x:Cf) (b:Nat) (ms:List Mv):(stepL A x b ms).length≤ms.length:=List.length_filterMap_le _ _
set_option maxHeartbeats 2000000 in
theorem step_pu {A:Au} (hW:WF A) (hL:∀ l∈A.moves,l.length < 2147483648) {x:Cf} (hr:rightB A x=true) {b:Nat} (hb:b < 256):Pu F 67 [.ag (auC A),.ag (cfC x),.i .u8 b] (.sl ((stepF A x b).map cfC)):=by
 have h1:=right_pu hW x;rw[hr] at h1;obtain⟨r1,r2,_⟩:=rightB_iff.1 hr;obtain⟨p,hp⟩:∃ p:Nat,x.p=p:=⟨x.p.toNat,by omega⟩;have hpt:x.p.toNat=p:=by omega
 have hpp:(0:Int)≤(p:Int):=by omega
 have hpl:p < A.moves.length:=by rw[hW.lm,← hW.la];omega
 have hmo:=mo_at hpl;have hml:=hL _ (List.mem_of_getElem? (mo_get hpl));have hmk:∀ m∈mvAt A p,MvOk A x.p.toNat m:=fun m hm=>mvOk hW (mo_get (p:=x.p.toNat) (by rw[hpt];exact hpl)) (by rw[hpt];exact hm);unfold stepF;rw[hpt];generalize mvAt A p=l at hmo hml hmk;refine U_pure e67 rfl rfl (by simp only[go_sem,Bool.and_true]) ?_;dsimp only[fn67,c67];(repeat (with_reducible (first|refine U_nil ?_|refine UC_sq ?_|refine UC_rg ?_|refine X_nx ?_|((first|refine U_q (v:=?_) ?h1 ?_|refine U_ld (v:=?_) ?h1 ?_);case h1=>((try simp only[go_sem])<;>rfl))|(refine U_box (cs:=?_) (cs':=?_) (n:=?_) ?h1 ?h2 ?h3 ?h4 ?_;case h1|h2|h3|h4=>((try simp only[go_sem])<;>rfl)))))
 (refine U_pcr (r:=.bo true) h1 ?h1 ?h2 rfl ?_;(case h1=>((try simp only[go_sem])<;>rfl));(case h2=>simp only[List.all_cons,List.all_nil,Bool.and_true,go_sem]))
 (repeat (with_reducible (first|refine U_nil ?_|refine UC_sq ?_|refine UC_rg ?_|refine UC_bk ?_|refine UC_sk ?_|refine X_nx ?_|((first|refine U_q (v:=?_) ?h1 ?_|refine U_ld (v:=?_) ?h1 ?_);case h1=>((try simp only[hp,hmo,hpp,Int.toNat_natCast,List.length_map,go_sem])<;>rfl))|(refine UC_cdf ?h1 ?_;case h1=>((try simp only[hp,hmo,hpp,Int.toNat_natCast,List.length_map,go_sem])<;>rfl)))));refine U_lp (fun r e o=>∃ i:Nat,i+r=l.length∧e 2=.i .u8 b∧e 3=.pt 3 0 0∧e 4=.pt 4 0 0∧e 21=.sl (l.map mvC)∧e 22=.i .i64 l.length∧e 23=.i .i64 i∧e 7=ownV 48 5 ((stepL A x b (l.take i)).map cfC)∧Own o 48 5 ((stepL A x b (l.take i)).map cfC)∧o 3=some (.row 15 [auC A])∧o 4=some (.row 5 [cfC x])) (k:=l.length) ?_ (Call_le F) ?_
 ·exact⟨0,by omega,Z0,Z0,Z0,Z0,by simp only[List.length_map,go_sem],Zr0,Zr0,⟨rfl,fun h=>absurd rfl h⟩,Z0,Z0⟩
 rintro r e o ⟨i,hir,r2,r3,r4,r21,r22,r23,r7,ho,o3,o4⟩;dsimp only[b67_0];have hln:=stepL_len A x b (l.take i);rw[List.length_take] at hln;(repeat (with_reducible (first|refine U_nil ?_|refine UC_sq ?_|refine UC_rg ?_|refine X_nx ?_|(refine U_q (v:=?_) ?h1 ?_;case h1=>((try simp only[r22,r23,go_sem])<;>rfl)))));refine UC_cdb (q:=decide ((i:Int) < (l.length:Int))) (Z0) (fun hc=>?_) (fun hc=>?_)
 ·have hi:i < l.length:=by simpa using hc
  have hip:(0:Int)≤(i:Int):=by omega
  have hxi:=mvs_at hi;have hw:=wrap1 (i:=i) (by omega);have htk:stepL A x b (l.take (i+1))=stepL A x b (l.take i)++(if bitOf (stAt A l[i].to) b then mayF A x l[i] else none).toList:=by
   rw[← stepL_snoc,List.take_add_one,List.getElem?_eq_getElem hi];rfl
  have hmi:=hmk l[i] (List.getElem_mem hi);generalize l[i]=m at hxi htk hmi;have hto:m.to < A.sets.length:=by rw[← hW.la];exact hmi.to
  have hst:=st_at hto;have htp:(0:Int)≤(m.to:Int):=by omega
  have hhas:=has_pu (stAt A m.to) (st_w hW hto) b hb;have hmay:=may_pu hW hr hmi;(repeat (with_reducible (first|refine U_nil ?_|refine UC_sq ?_|refine UC_rg ?_|refine UC_bk ?_|refine UC_sk ?_|refine X_nx ?_|((first|refine U_q (v:=?_) ?h1 ?_|refine U_ld (v:=?_) ?h1 ?_|refine U_alc (n:=?_) ?h1 ?_);case h1=>((try simp only[r2,r3,r21,r23,o3,hip,hxi,htp,hst,Int.toNat_natCast,go_sem])<;>rfl))|(refine U_sto (id:=?_) (i:=?_) (j:=?_) (q:=?_) (es:=?_) (cs:=?_) (vs:=?_) (es':=?_) ?h1 ?h2 ?h3 ?h4 ?h5 ?h6 ?h7 ?_;case h1|h2|h3|h4|h5|h6|h7=>((try simp only[r2,r3,r21,r23,o3,hip,hxi,htp,hst,Int.toNat_natCast,go_sem])<;>rfl)))))
  (refine U_pcr (r:=.bo (bitOf (stAt A m.to) b)) hhas ?h1 ?h2 rfl ?_;(case h1=>((try simp only[r2,go_sem])<;>rfl));(case h2=>simp only[r2,List.all_cons,List.all_nil,Bool.and_true,go_sem]))
  cases hbt:bitOf (stAt A m.to) b with
  | false =>
   rw[hbt] at htk;have htk:stepL A x b (l.take (i+1))=stepL A x b (l.take i):=by rw[htk];simp
   (repeat (with_reducible (first|refine U_nil ?_|refine UC_rg ?_|refine UC_ex ?_|refine X_nx ?_|refine X_ex ?_|refine B_self ?_|((first|refine U_q (v:=?_) ?h1 ?_|refine UC_cdt ?h1 ?_);case h1=>((try simp only[r23,hw,go_sem])<;>rfl)))))
   refine⟨r - 1,by omega,i+1,by omega,Z1 r2,Z1 r3,Z1 r4,Z1 r21,Z1 r22,Z0,by rw[htk];simp only[r7,go_sem],?_,Z1 o3,Z1 o4⟩
   rw[htk];(repeat first|with_reducible assumption|refine .up rfl ?_|refine .sw rfl ?_|refine .swN rfl ?_)
  | true =>
   rw[hbt,if_pos rfl] at htk;(repeat (with_reducible (first|refine U_nil ?_|refine UC_sq ?_|refine UC_rg ?_|refine UC_sk ?_|refine X_nx ?_|((first|refine U_q (v:=?_) ?h1 ?_|refine U_ld (v:=?_) ?h1 ?_);case h1=>((try simp only[r3,r4,o3,o4,go_sem])<;>rfl))|(refine UC_cdf ?h1 ?_;case h1=>((try simp only[r3,r4,o3,o4,go_sem])<;>rfl)))));cases hv:mayF A x m with
   | none =>
    rw[hv] at hmay htk;have htk:stepL A x b (l.take (i+1))=stepL A x b (l.take i):=by rw[htk];simp
    (refine U_pcr (r:=.tp [.ag (cfC noC),.bo false]) hmay ?h1 ?h2 rfl ?_;(case h1=>((try simp only[r3,r4,go_sem])<;>rfl));(case h2=>simp only[r3,r4,List.all_cons,List.all_nil,Bool.and_true,go_sem]))
    (repeat (with_reducible (first|refine U_nil ?_|refine UC_sq ?_|refine UC_rg ?_|refine UC_sk ?_|refine X_nx ?_|refine B_nx ?_|((first|refine U_q (v:=?_) ?h1 ?_|refine U_alc (n:=?_) ?h1 ?_);case h1=>((try simp only[r23,hw,go_sem])<;>rfl))|(refine U_sto (id:=?_) (i:=?_) (j:=?_) (q:=?_) (es:=?_) (cs:=?_) (vs:=?_) (es':=?_) ?h1 ?h2 ?h3 ?h4 ?h5 ?h6 ?h7 ?_;case h1|h2|h3|h4|h5|h6|h7=>((try simp only[r23,hw,go_sem])<;>rfl))|(refine UC_cdf ?h1 ?_;case h1=>((try simp only[r23,hw,go_sem])<;>rfl)))))
    refine⟨r - 1,by omega,i+1,by omega,Z1 r2,Z1 r3,Z1 r4,Z1 r21,Z1 r22,Z0,by rw[htk];simp only[r7,go_sem],?_,Z1 o3,Z1 o4⟩
    rw[htk];(repeat first|with_reducible assumption|refine .up rfl ?_|refine .sw rfl ?_|refine .swN rfl ?_)
   | some y =>
    rw[hv] at hmay htk;have htk:stepL A x b (l.take (i+1))=stepL A x b (l.take i)++[y]:=htk
    (refine U_pcr (r:=.tp [.ag (cfC y),.bo true]) hmay ?h1 ?h2 rfl ?_;(case h1=>((try simp only[r3,r4,go_sem])<;>rfl));(case h2=>simp only[r3,r4,List.all_cons,List.all_nil,Bool.and_true,go_sem]))
    (repeat (with_reducible (first|refine U_nil ?_|refine UC_sq ?_|refine UC_rg ?_|refine X_nx ?_|((first|refine U_q (v:=?_) ?h1 ?_|refine U_ld (v:=?_) ?h1 ?_|refine U_alc (n:=?_) ?h1 ?_|refine UC_cdt ?h1 ?_);case h1=>((try simp only[r7,go_sem])<;>rfl))|(refine U_sto (id:=?_) (i:=?_) (j:=?_) (q:=?_) (es:=?_) (cs:=?_) (vs:=?_) (es':=?_) ?h1 ?h2 ?h3 ?h4 ?h5 ?h6 ?h7 ?_;case h1|h2|h3|h4|h5|h6|h7=>((try simp only[r7,go_sem])<;>rfl))|(refine U_bsl (es:=?_) (es':=?_) ?h1 ?h2 ?h3 ?_;case h1|h2|h3=>((try simp only[r7,go_sem])<;>rfl)))));refine U_appo 48 (L:=(stepL A x b (l.take i)).map cfC) (ys:=[cfC y]) (Z1 r7) ?_ (by (simp only[src,go_sem]<;>rfl)) (by simp [cf_len]) (by simp) (by omega) ⟨by simp;omega,by omega⟩ (swpR_cls _ ho.c) rfl ?_
    ·exact Own.h (by (repeat first|with_reducible assumption|refine .up rfl ?_|refine .sw rfl ?_|refine .swN rfl ?_))
    (repeat (with_reducible (first|refine U_nil ?_|refine UC_rg ?_|refine X_nx ?_|refine B_nx ?_|(refine U_q (v:=?_) ?h1 ?_;case h1=>((try simp only[r23,hw,go_sem])<;>rfl)))))
    refine⟨r - 1,by omega,i+1,by omega,Z1 r2,Z1 r3,Z1 r4,Z1 r21,Z1 r22,Z0,by simp only[htk,List.map_append,go_sem],?_,Z1 o3,Z1 o4⟩
    rw[htk,List.map_append];exact Own.to (by have:=cf_cls (stepL A x b (l.take i)++[y]);rw[List.map_append] at this;exact this)
 ·have hi:i=l.length:=by
   have:¬ i < l.length:=by simpa using hc
   omega
  subst hi;rw[List.take_length] at r7 ho hln;(repeat (with_reducible (first|refine UC_sq ?_|refine UC_rg ?_|refine UC_ex ?_|refine X_nx ?_|refine X_ex ?_|refine B_self ?_|(refine U_q (v:=?_) ?h1 ?_;case h1=>((try simp only[r7,go_sem])<;>rfl)))));refine U_sorted 48 (l0:=stepL A x b l) (by omega) (by omega) (Z0) ho fun e1 o1 v hv=>?_;(repeat (with_reducible (first|refine U_nil ?_|refine UC_rt ?_|refine X_nx ?_|((first|refine U_q (v:=?_) ?h1 ?_|refine E_1 (v:=?_) ?h1 ?_);case h1=>((try simp only[go_sem])<;>rfl)))));exact hv
theorem z64:((64:Int)=0)=False:=by simp
theorem z2:((2:Int)=0)=False:=by simp
attribute [go_sem] z64 z2
end Go.Proofs.YtocmjakchgcioaaGreat
