import Derived.Test.YtocmjakchgcioaaGreatC9
import Derived.Test.YtocmjakchgcioaaGreatC8
import Derived.Test.YtocmjakchgcioaaGreatA8

namespace Go.Proofs.YtocmjakchgcioaaGreat
set_option linter.all false
attribute [-go_sem] QE Qn rfOb V.cells
def mvAt (A:Au) (p:Nat):List Mv:=(A.moves[p]?).getD []
theorem X4 {A:Au} {p:Nat} (hp:p < A.moves.length):A.moves[p]?=some (mvAt A p):=by simp [mvAt,List.getElem?_eq_getElem hp]
theorem QjL {A:Au} {p:Nat} (hp:p < A.moves.length):(A.moves.map mlC)[p]?=some [.sl ((mvAt A p).map mvC)]:=by
 rw[List.getElem?_map,X4 hp];rfl
theorem Qfh {l:List Mv} {i:Nat} (hi:i < l.length):(l.map mvC)[i]?=some (mvC l[i]):=by
 rw[List.getElem?_map,List.getElem?_eq_getElem hi];rfl
def ZQ (A:Au) (x:Cf) (b:Nat) (ms:List Mv):List Cf:=ms.filterMap fun m=>if Zx (stAt A m.to) b then mayF A x m else none
def YE (A:Au) (x:Cf) (b:Nat):List Cf:=sdC (ZQ A x b (mvAt A x.p.toNat))
theorem Qaz (A:Au) (x:Cf) (b:Nat) (ms:List Mv) (m:Mv):ZQ A x b (ms++[m])=ZQ A x b ms++(if Zx (stAt A m.to) b then mayF A x m else none).toList:=by
 unfold ZQ;rw[List.filterMap_append,List.filterMap_cons];generalize (if Zx (stAt A m.to) b then mayF A x m else none)=z;cases z<;>rfl
theorem Hr (A:Au) (x:Cf) (b:Nat) (ms:List Mv):(ZQ A x b ms).length≤ms.length:=List.length_filterMap_le _ _
set_option maxHeartbeats 2000000 in
theorem Qhy {A:Au} (hW:WF A) (hL:∀ l∈A.moves,l.length < 2147483648) {x:Cf} (hr:QM A x=true) {b:Nat} (hb:b < 256):Pu F 67 [.ag (auC A),.ag (cfC x),.i .u8 b] (.sl ((YE A x b).map cfC)):=by
 have h1:=D9 hW x;rw[hr] at h1;obtain⟨r1,r2,_⟩:=QU.1 hr;obtain⟨p,hp⟩:∃ p:Nat,x.p=p:=⟨x.p.toNat,by omega⟩;have hpt:x.p.toNat=p:=by omega
 have hpp:(0:Int)≤(p:Int):=by omega
 have hpl:p < A.moves.length:=by rw[hW.lm,← hW.la];omega
 have hmo:=QjL hpl;have hml:=hL _ (List.mem_of_getElem? (X4 hpl));have hmk:∀ m∈mvAt A p,MvOk A x.p.toNat m:=fun m hm=>mvOk hW (X4 (p:=x.p.toNat) (by rw[hpt];exact hpl)) (by rw[hpt];exact hm);unfold YE;rw[hpt];generalize mvAt A p=l at hmo hml hmk;refine Qr e67 rfl rfl (by simp only[go_sem,Bool.and_true]) ?_;dsimp only[fn67,c67];(repeat (with_reducible (first|refine Qa ?_|refine Qc ?_|refine Qb ?_|refine X_nx ?_|((first|refine U_q (v:=?_) ?h1 ?_|refine U_ld (v:=?_) ?h1 ?_);case h1=>((try simp only[go_sem])<;>rfl))|(refine QC (cs:=?_) (cs':=?_) (n:=?_) ?h1 ?h2 ?h3 ?h4 ?_;case h1|h2|h3|h4=>((try simp only[go_sem])<;>rfl)))))
 (refine ZU (r:=.bo true) h1 ?h1 ?h2 rfl ?_;(case h1=>((try simp only[go_sem])<;>rfl));(case h2=>simp only[List.all_cons,List.all_nil,Bool.and_true,go_sem]))
 (repeat (with_reducible (first|refine Qa ?_|refine Qc ?_|refine Qb ?_|refine Ql ?_|refine Qg ?_|refine X_nx ?_|((first|refine U_q (v:=?_) ?h1 ?_|refine U_ld (v:=?_) ?h1 ?_);case h1=>((try simp only[hp,hmo,hpp,Int.toNat_natCast,List.length_map,go_sem])<;>rfl))|(refine Qk ?h1 ?_;case h1=>((try simp only[hp,hmo,hpp,Int.toNat_natCast,List.length_map,go_sem])<;>rfl)))));refine U_lp (fun r e o=>∃ i:Nat,i+r=l.length∧e 2=.i .u8 b∧e 3=.pt 3 0 0∧e 4=.pt 4 0 0∧e 21=.sl (l.map mvC)∧e 22=.i .i64 l.length∧e 23=.i .i64 i∧e 7=ownV 48 5 ((ZQ A x b (l.take i)).map cfC)∧Own o 48 5 ((ZQ A x b (l.take i)).map cfC)∧o 3=some (.row 15 [auC A])∧o 4=some (.row 5 [cfC x])) (k:=l.length) ?_ (Qh F) ?_
 ·exact⟨0,by omega,Z0,Z0,Z0,Z0,by simp only[List.length_map,go_sem],Zr0,Zr0,⟨rfl,fun h=>absurd rfl h⟩,Z0,Z0⟩
 rintro r e o ⟨i,hir,r2,r3,r4,r21,r22,r23,r7,ho,o3,o4⟩;dsimp only[Qin];have hln:=Hr A x b (l.take i);rw[List.length_take] at hln;(repeat (with_reducible (first|refine Qa ?_|refine Qc ?_|refine Qb ?_|refine X_nx ?_|(refine U_q (v:=?_) ?h1 ?_;case h1=>((try simp only[r22,r23,go_sem])<;>rfl)))));refine Qe (q:=decide ((i:Int) < (l.length:Int))) (Z0) (fun hc=>?_) (fun hc=>?_)
 ·have hi:i < l.length:=by simpa using hc
  have hip:(0:Int)≤(i:Int):=by omega
  have hxi:=Qfh hi;have hw:=Yc (i:=i) (by omega);have htk:ZQ A x b (l.take (i+1))=ZQ A x b (l.take i)++(if Zx (stAt A l[i].to) b then mayF A x l[i] else none).toList:=by
   rw[← Qaz,List.take_add_one,List.getElem?_eq_getElem hi];rfl
  have hmi:=hmk l[i] (List.getElem_mem hi);generalize l[i]=m at hxi htk hmi;have hto:m.to < A.sets.length:=by rw[← hW.la];exact hmi.to
  have hst:=Qf5 hto;have htp:(0:Int)≤(m.to:Int):=by omega
  have hhas:=Qe7 (stAt A m.to) (st_w hW hto) b hb;have hmay:=QjH hW hr hmi;(repeat (with_reducible (first|refine Qa ?_|refine Qc ?_|refine Qb ?_|refine Ql ?_|refine Qg ?_|refine X_nx ?_|((first|refine U_q (v:=?_) ?h1 ?_|refine U_ld (v:=?_) ?h1 ?_|refine QK (n:=?_) ?h1 ?_);case h1=>((try simp only[r2,r3,r21,r23,o3,hip,hxi,htp,hst,Int.toNat_natCast,go_sem])<;>rfl))|(refine Qq (id:=?_) (i:=?_) (j:=?_) (q:=?_) (es:=?_) (cs:=?_) (vs:=?_) (es':=?_) ?h1 ?h2 ?h3 ?h4 ?h5 ?h6 ?h7 ?_;case h1|h2|h3|h4|h5|h6|h7=>((try simp only[r2,r3,r21,r23,o3,hip,hxi,htp,hst,Int.toNat_natCast,go_sem])<;>rfl)))))
  (refine ZU (r:=.bo (Zx (stAt A m.to) b)) hhas ?h1 ?h2 rfl ?_;(case h1=>((try simp only[r2,go_sem])<;>rfl));(case h2=>simp only[r2,List.all_cons,List.all_nil,Bool.and_true,go_sem]))
  cases hbt:Zx (stAt A m.to) b with
  | false =>
   rw[hbt] at htk;have htk:ZQ A x b (l.take (i+1))=ZQ A x b (l.take i):=by rw[htk];simp
   (repeat (with_reducible (first|refine Qa ?_|refine Qb ?_|refine QW ?_|refine X_nx ?_|refine X_ex ?_|refine Qi ?_|((first|refine U_q (v:=?_) ?h1 ?_|refine Qm ?h1 ?_);case h1=>((try simp only[r23,hw,go_sem])<;>rfl)))))
   refine⟨r - 1,by omega,i+1,by omega,Z1 r2,Z1 r3,Z1 r4,Z1 r21,Z1 r22,Z0,by rw[htk];simp only[r7,go_sem],?_,Z1 o3,Z1 o4⟩
   rw[htk];(repeat first|with_reducible assumption|refine .up rfl ?_|refine .sw rfl ?_|refine .swN rfl ?_)
  | true =>
   rw[hbt,if_pos rfl] at htk;(repeat (with_reducible (first|refine Qa ?_|refine Qc ?_|refine Qb ?_|refine Qg ?_|refine X_nx ?_|((first|refine U_q (v:=?_) ?h1 ?_|refine U_ld (v:=?_) ?h1 ?_);case h1=>((try simp only[r3,r4,o3,o4,go_sem])<;>rfl))|(refine Qk ?h1 ?_;case h1=>((try simp only[r3,r4,o3,o4,go_sem])<;>rfl)))));cases hv:mayF A x m with
   | none =>
    rw[hv] at hmay htk;have htk:ZQ A x b (l.take (i+1))=ZQ A x b (l.take i):=by rw[htk];simp
    (refine ZU (r:=.tp [.ag (cfC noC),.bo false]) hmay ?h1 ?h2 rfl ?_;(case h1=>((try simp only[r3,r4,go_sem])<;>rfl));(case h2=>simp only[r3,r4,List.all_cons,List.all_nil,Bool.and_true,go_sem]))
    (repeat (with_reducible (first|refine Qa ?_|refine Qc ?_|refine Qb ?_|refine Qg ?_|refine X_nx ?_|refine B_nx ?_|((first|refine U_q (v:=?_) ?h1 ?_|refine QK (n:=?_) ?h1 ?_);case h1=>((try simp only[r23,hw,go_sem])<;>rfl))|(refine Qq (id:=?_) (i:=?_) (j:=?_) (q:=?_) (es:=?_) (cs:=?_) (vs:=?_) (es':=?_) ?h1 ?h2 ?h3 ?h4 ?h5 ?h6 ?h7 ?_;case h1|h2|h3|h4|h5|h6|h7=>((try simp only[r23,hw,go_sem])<;>rfl))|(refine Qk ?h1 ?_;case h1=>((try simp only[r23,hw,go_sem])<;>rfl)))))
    refine⟨r - 1,by omega,i+1,by omega,Z1 r2,Z1 r3,Z1 r4,Z1 r21,Z1 r22,Z0,by rw[htk];simp only[r7,go_sem],?_,Z1 o3,Z1 o4⟩
    rw[htk];(repeat first|with_reducible assumption|refine .up rfl ?_|refine .sw rfl ?_|refine .swN rfl ?_)
   | some y =>
    rw[hv] at hmay htk;have htk:ZQ A x b (l.take (i+1))=ZQ A x b (l.take i)++[y]:=htk
    (refine ZU (r:=.tp [.ag (cfC y),.bo true]) hmay ?h1 ?h2 rfl ?_;(case h1=>((try simp only[r3,r4,go_sem])<;>rfl));(case h2=>simp only[r3,r4,List.all_cons,List.all_nil,Bool.and_true,go_sem]))
    (repeat (with_reducible (first|refine Qa ?_|refine Qc ?_|refine Qb ?_|refine X_nx ?_|((first|refine U_q (v:=?_) ?h1 ?_|refine U_ld (v:=?_) ?h1 ?_|refine QK (n:=?_) ?h1 ?_|refine Qm ?h1 ?_);case h1=>((try simp only[r7,go_sem])<;>rfl))|(refine Qq (id:=?_) (i:=?_) (j:=?_) (q:=?_) (es:=?_) (cs:=?_) (vs:=?_) (es':=?_) ?h1 ?h2 ?h3 ?h4 ?h5 ?h6 ?h7 ?_;case h1|h2|h3|h4|h5|h6|h7=>((try simp only[r7,go_sem])<;>rfl))|(refine Yu (es:=?_) (es':=?_) ?h1 ?h2 ?h3 ?_;case h1|h2|h3=>((try simp only[r7,go_sem])<;>rfl)))));refine YR 48 (L:=(ZQ A x b (l.take i)).map cfC) (ys:=[cfC y]) (Z1 r7) ?_ (by (simp only[src,go_sem]<;>rfl)) (by simp [XB]) (by simp) (by omega) ⟨by simp;omega,by omega⟩ (Zj _ ho.c) rfl ?_
    ·exact Own.h (by (repeat first|with_reducible assumption|refine .up rfl ?_|refine .sw rfl ?_|refine .swN rfl ?_))
    (repeat (with_reducible (first|refine Qa ?_|refine Qb ?_|refine X_nx ?_|refine B_nx ?_|(refine U_q (v:=?_) ?h1 ?_;case h1=>((try simp only[r23,hw,go_sem])<;>rfl)))))
    refine⟨r - 1,by omega,i+1,by omega,Z1 r2,Z1 r3,Z1 r4,Z1 r21,Z1 r22,Z0,by simp only[htk,List.map_append,go_sem],?_,Z1 o3,Z1 o4⟩
    rw[htk,List.map_append];exact Own.to (by have:=XE (ZQ A x b (l.take i)++[y]);rw[List.map_append] at this;exact this)
 ·have hi:i=l.length:=by
   have:¬ i < l.length:=by simpa using hc
   omega
  subst hi;rw[List.take_length] at r7 ho hln;(repeat (with_reducible (first|refine Qc ?_|refine Qb ?_|refine QW ?_|refine X_nx ?_|refine X_ex ?_|refine Qi ?_|(refine U_q (v:=?_) ?h1 ?_;case h1=>((try simp only[r7,go_sem])<;>rfl)))));refine V4 48 (l0:=ZQ A x b l) (by omega) (by omega) (Z0) ho fun e1 o1 v hv=>?_;(repeat (with_reducible (first|refine Qa ?_|refine Qf ?_|refine X_nx ?_|((first|refine U_q (v:=?_) ?h1 ?_|refine E_1 (v:=?_) ?h1 ?_);case h1=>((try simp only[go_sem])<;>rfl)))));exact hv
theorem Dr (a b:Nat):(a:Int).tdiv (b:Int)=((a / b:Nat):Int):=by
 rw[Int.tdiv_eq_ediv_of_nonneg (by omega)];exact (Int.natCast_ediv a b).symm
theorem z64:((64:Int)=0)=False:=by simp
theorem z2:((2:Int)=0)=False:=by simp
attribute [go_sem] z64 z2
theorem QfO (s:Nat→Nat) (hs:W64 s) (b:Nat) (hb:b < 256):Pu F 30 [.ag (u4 s),.i .i64 b] (.bo (Zx s b)):=by
 have hq:b / 64 < 4:=by omega
 have w1:(b:Int).tdiv 64=((b / 64:Nat):Int):=Dr b 64;have w2:IntKind.i64.wrap (((b / 64:Nat)):Int)=((b / 64:Nat):Int):=Qt (by omega) (by omega);have w3:(0:Int)≤((b / 64:Nat):Int):=by omega
 have w4:(((b / 64:Nat):Int) < 4)=True:=by simp only[eq_iff_iff,iff_true];omega
 have w5:(b:Int).tmod 64=((b % 64:Nat):Int):=DH b 64;have hu:=Qfn s hq;refine Qr e30 rfl rfl (by simp only[go_sem,Bool.and_true];rfl) ?_;dsimp only[fn30,c30];(repeat (with_reducible (first|refine Qa ?_|refine Qc ?_|refine Qb ?_|refine Ql ?_|refine X_nx ?_|((first|refine U_q (v:=?_) ?h1 ?_|refine U_ld (v:=?_) ?h1 ?_);case h1=>((try simp only[w1,w2,w3,w4,hu,Int.toNat_natCast,Nat.mul_one,Nat.zero_add,go_sem])<;>rfl))|(refine QC (cs:=?_) (cs':=?_) (n:=?_) ?h1 ?h2 ?h3 ?h4 ?_;case h1|h2|h3|h4=>((try simp only[w1,w2,w3,w4,hu,Int.toNat_natCast,Nat.mul_one,Nat.zero_add,go_sem])<;>rfl)))));refine U_lp (fun r e o=>∃ k:Nat,k+r=b % 64∧e 1=.i .i64 b∧e 5=.i .u64 ((s (b / 64) / 2 ^ k:Nat):Int)∧e 6=.i .i64 k) (k:=b % 64) ?_ (Qh F) ?_
 ·exact⟨0,by omega,Z0,by simp only[go_sem];simp,Zr0⟩
 rintro r e o ⟨k,hkr,r1,r5,r6⟩;dsimp only[QkA];(repeat (with_reducible (first|refine Qa ?_|refine Qc ?_|refine Qb ?_|refine X_nx ?_|(refine U_q (v:=?_) ?h1 ?_;case h1=>((try simp only[r1,r6,w5,go_sem])<;>rfl)))));refine Qe (q:=decide ((k:Int) < ((b % 64:Nat):Int))) (Z0) (fun hc=>?_) (fun hc=>?_)
 ·have hk:k < b % 64:=by have:=of_decide_eq_true hc;omega
  have hw:=Yc (i:=k) (by omega);have v1:(((s (b / 64) / 2 ^ k:Nat)):Int).tdiv 2=((s (b / 64) / 2 ^ (k+1):Nat):Int):=by
   have:=Dr (s (b / 64) / 2 ^ k) 2
   rw[Nat.div_div_eq_div_mul,← Nat.pow_succ] at this;exact this
  have hlt:s (b / 64) / 2 ^ (k+1) < 18446744073709551616:=Nat.lt_of_le_of_lt (Nat.div_le_self _ _) (hs _ hq);have v2:IntKind.u64.wrap (((s (b / 64) / 2 ^ (k+1):Nat)):Int)=((s (b / 64) / 2 ^ (k+1):Nat):Int):=(fun (t:Nat) (h:t < 18446744073709551616)=>(Di (by omega) (by omega):IntKind.u64.wrap (t:Int)=t)) _ hlt;(repeat (with_reducible (first|refine Qa ?_|refine Qc ?_|refine Qb ?_|refine Ql ?_|refine Qg ?_|refine X_nx ?_|refine B_nx ?_|(refine U_q (v:=?_) ?h1 ?_;case h1=>((try simp only[r5,r6,v1,v2,hw,go_sem])<;>rfl)))))
  exact⟨r - 1,by omega,k+1,by omega,Z1 r1,Z0,Z0⟩
 ·have hk:k=b % 64:=by have:=of_decide_eq_false hc;omega
  subst hk;have v3:(((s (b / 64) / 2 ^ (b % 64):Nat)):Int).tmod 2=((s (b / 64) / 2 ^ (b % 64) % 2:Nat):Int):=DH _ 2;have v4:((((s (b / 64) / 2 ^ (b % 64) % 2:Nat)):Int)==1)=Zx s b:=by
   rw[← Qca];rcases Nat.mod_two_eq_zero_or_one (s (b / 64) / 2 ^ (b % 64)) with h|h<;>rw[h]<;>rfl
  (repeat (with_reducible (first|refine Qa ?_|refine Qc ?_|refine Qb ?_|refine QW ?_|refine Qf ?_|refine X_nx ?_|refine X_ex ?_|refine Qi ?_|((first|refine U_q (v:=?_) ?h1 ?_|refine E_1 (v:=?_) ?h1 ?_);case h1=>((try simp only[r5,v3,v4,go_sem])<;>rfl)))));exact QJ rfl rfl
theorem Vc (c:Cf) (l:List Cf) (hl:l.length < 4294967296):Pu F 14 [.sl (l.map cfC),.ag (cfC c)] (.bo (decide (c∈l))):=by
 refine Qr e14 rfl rfl (by simp only[go_sem,Bool.and_true]) ?_;dsimp only[fn14,c14];(repeat (with_reducible (first|refine Qa ?_|refine Qc ?_|refine Qb ?_|refine Ql ?_|refine X_nx ?_|(refine U_q (v:=?_) ?h1 ?_;case h1=>((try simp only[go_sem])<;>rfl))|(refine QC (cs:=?_) (cs':=?_) (n:=?_) ?h1 ?h2 ?h3 ?h4 ?_;case h1|h2|h3|h4=>((try simp only[go_sem])<;>rfl)))));refine U_lp (fun r e o=>∃ i:Nat,i+r=l.length∧e 0=.sl (l.map cfC)∧e 3=.pt 3 0 0∧e 5=.i .i64 i∧o 3=some (.row 5 [cfC c])∧c ∉ l.take i) (k:=l.length) ?_ (Qh F) ?_
 ·exact⟨0,by omega,Z0,Z0,Zr0,Z0,by simp⟩
 rintro r e o ⟨i,hir,r0,r3,r5,o3,hq⟩;dsimp only[QjF];(repeat (with_reducible (first|refine Qa ?_|refine Qc ?_|refine Qb ?_|refine X_nx ?_|(refine U_q (v:=?_) ?h1 ?_;case h1=>((try simp only[r0,r5,List.length_map,go_sem])<;>rfl)))));refine Qe (q:=decide ((i:Int) < (l.length:Int))) (Z0) (fun hc=>?_) (fun hc=>?_)
 ·have hi:i < l.length:=by simpa using hc
  have hip:(0:Int)≤(i:Int):=by omega
  have hx:=Ji hi;have hw:=Yc (i:=i) (by omega);(repeat (with_reducible (first|refine Qa ?_|refine Qc ?_|refine Qb ?_|refine Ql ?_|refine Qg ?_|refine X_nx ?_|((first|refine U_q (v:=?_) ?h1 ?_|refine U_ld (v:=?_) ?h1 ?_);case h1=>((try simp only[r0,r3,r5,o3,hip,hx,Int.toNat_natCast,go_sem])<;>rfl)))));refine Qe (q:=decide (l[i]=c)) (Z0) (fun hc2=>?_) (fun hc2=>?_)
  ·have he:l[i]=c:=by simpa using hc2
   have:decide (c∈l)=true:=by simp;rw[← he];exact List.getElem_mem hi
   (repeat (with_reducible (first|refine Qa ?_|refine Qc ?_|refine Qb ?_|refine Qf ?_|refine X_nx ?_|refine X_rt ?_|refine B_rt ?_|((first|refine U_q (v:=?_) ?h1 ?_|refine E_1 (v:=?_) ?h1 ?_);case h1=>((try simp only[go_sem])<;>rfl)))));rw[this];exact QJ rfl rfl
  ·have he:¬ l[i]=c:=by simpa using hc2
   (repeat (with_reducible (first|refine Qa ?_|refine Qb ?_|refine Qg ?_|refine X_nx ?_|refine B_nx ?_|(refine U_q (v:=?_) ?h1 ?_;case h1=>((try simp only[r5,hw,go_sem])<;>rfl)))))
   refine⟨r - 1,by omega,i+1,by omega,Z1 r0,Z1 r3,Z0,Z1 o3,fun hm=>?_⟩
   rw[List.take_add_one,List.getElem?_eq_getElem hi] at hm;rcases List.mem_append.1 hm with h|h
   ·exact hq h
   ·simp at h;exact he h.symm
 ·have hi:i=l.length:=by
   have:¬ i < l.length:=by simpa using hc
   omega
  subst hi;rw[List.take_length] at hq
  have:decide (c∈l)=false:=by simpa using hq
  (repeat (with_reducible (first|refine Qa ?_|refine Qc ?_|refine Qb ?_|refine QW ?_|refine Qf ?_|refine X_nx ?_|refine X_ex ?_|refine Qi ?_|((first|refine U_q (v:=?_) ?h1 ?_|refine E_1 (v:=?_) ?h1 ?_);case h1=>((try simp only[go_sem])<;>rfl)))));rw[this];exact QJ rfl rfl
theorem Qae {l want:List Cf} (hl:l.length < 4294967296) (h1:l.length=want.length) (h2:∀ y∈l,y∈want) (h3:l.Pairwise fun x y=>ordC x y < 0):Pu F 15 [.sl (l.map cfC),.sl (want.map cfC)] (.bo true):=by
 refine Qr e15 rfl rfl (by simp only[go_sem,Bool.and_true]) ?_;dsimp only[fn15,c15];have c1:((l.length:Int) != (want.length:Int))=false:=by simp [h1]
 (repeat (with_reducible (first|refine Qa ?_|refine Qc ?_|refine Qb ?_|refine Ql ?_|refine Qg ?_|refine X_nx ?_|(refine U_q (v:=?_) ?h1 ?_;case h1=>((try simp only[c1,List.length_map,go_sem])<;>rfl))|(refine Qk ?h1 ?_;case h1=>((try simp only[c1,List.length_map,go_sem])<;>rfl)))));refine U_lp (fun r e o=>∃ i:Nat,i+r=l.length∧e 0=.sl (l.map cfC)∧e 1=.sl (want.map cfC)∧e 5=.i .i64 i) (k:=l.length) ?_ (Qh F) ?_
 ·exact⟨0,by omega,Z0,Z0,Zr0⟩
 rintro r e o ⟨i,hir,r0,r1,r5⟩;dsimp only[Qkt];(repeat (with_reducible (first|refine Qa ?_|refine Qc ?_|refine Qb ?_|refine X_nx ?_|(refine U_q (v:=?_) ?h1 ?_;case h1=>((try simp only[r0,r5,List.length_map,go_sem])<;>rfl)))));refine Qe (q:=decide ((i:Int) < (l.length:Int))) (Z0) (fun hc=>?_) (fun hc=>?_)
 ·have hi:i < l.length:=by simpa using hc
  have hip:(0:Int)≤(i:Int):=by omega
  have hx:=Ji hi;have hw:=Yc (i:=i) (by omega);have hm:=Vc l[i] want (by omega);rw[decide_eq_true (h2 _ (List.getElem_mem hi))] at hm;(repeat (with_reducible (first|refine Qc ?_|refine Qb ?_|refine Ql ?_|refine Qg ?_|refine X_nx ?_|((first|refine U_q (v:=?_) ?h1 ?_|refine U_ld (v:=?_) ?h1 ?_);case h1=>((try simp only[r0,r1,r5,hip,hx,Int.toNat_natCast,go_sem])<;>rfl)))))
  (refine ZU (r:=.bo true) hm ?h1 ?h2 rfl ?_;(case h1=>((try simp only[r1,go_sem])<;>rfl));(case h2=>simp only[r1,List.all_cons,List.all_nil,Bool.and_true,go_sem]))
  by_cases h0:i=0
  ·have d1:decide ((i:Int) > 0)=false:=by simp;omega
   (repeat (with_reducible (first|refine Qa ?_|refine Qb ?_|refine Qg ?_|refine X_nx ?_|refine B_nx ?_|((first|refine U_q (v:=?_) ?h1 ?_|refine U_gt ?h1 ?_);case h1=>((try simp only[r5,d1,hw,go_sem])<;>rfl))|((first|refine Yi ?h1 ?_|refine Qk ?h1 ?_);case h1=>((try simp only[r5,d1,hw,go_sem])<;>rfl))|rw[Qd])))
   exact⟨r - 1,by omega,i+1,by omega,Z1 r0,Z1 r1,Z0⟩
  ·have d1:decide ((i:Int) > 0)=true:=by simp;omega
   have hw2:IntKind.i64.wrap ((i:Int) - 1)=((i - 1:Nat):Int):=by rw[Qt (by omega) (by omega)];omega
   have hip1:(0:Int)≤((i - 1:Nat):Int):=by omega
   have hy:=Ji (l:=l) (i:=i - 1) (by omega);have hlt:ordC l[i - 1] l[i] < 0:=List.pairwise_iff_getElem.1 h3 (i - 1) i (by omega) hi (by omega);have hod:=Hz l[i - 1] l[i];have d2:decide (ordC l[i - 1] l[i]≥0)=false:=by simp;omega
   generalize ordC l[i - 1] l[i]=w at hod d2;(repeat (with_reducible (first|((first|refine U_q (v:=?_) ?h1 ?_|refine U_ld (v:=?_) ?h1 ?_|refine U_gt ?h1 ?_);case h1=>((try simp only[r0,r5,d1,hw2,hip,hip1,hx,hy,Int.toNat_natCast,go_sem])<;>rfl)))))
   (refine ZU (r:=.i .i64 w) hod ?h1 ?h2 rfl ?_;(case h1=>((try simp only[go_sem])<;>rfl));(case h2=>simp only[List.all_cons,List.all_nil,Bool.and_true,go_sem]))
   (repeat (with_reducible (first|refine Qa ?_|refine Qb ?_|refine Qg ?_|refine X_nx ?_|refine B_nx ?_|((first|refine U_q (v:=?_) ?h1 ?_|refine U_gt ?h1 ?_);case h1=>((try simp only[r5,d2,hw,go_sem])<;>rfl))|(refine Qk ?h1 ?_;case h1=>((try simp only[r5,d2,hw,go_sem])<;>rfl)))))
   exact⟨r - 1,by omega,i+1,by omega,Z1 r0,Z1 r1,Z0⟩
 ·(repeat (with_reducible (first|refine Qa ?_|refine Qc ?_|refine Qb ?_|refine QW ?_|refine Qf ?_|refine X_nx ?_|refine X_ex ?_|refine Qi ?_|((first|refine U_q (v:=?_) ?h1 ?_|refine E_1 (v:=?_) ?h1 ?_);case h1=>((try simp only[go_sem])<;>rfl)))));rfl
end Go.Proofs.YtocmjakchgcioaaGreat
