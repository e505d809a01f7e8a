import Derived.Test.YtgiedknghbpdfaaGreatC9
import Derived.Test.YtgiedknghbpdfaaGreatC8
import Derived.Test.YtgiedknghbpdfaaGreatA8

namespace Go.Proofs.YtgiedknghbpdfaaGreat
set_option linter.all false
attribute [-go_sem] swpOb renOb rfOb V.cells
def mvAt (A:Au) (p:Nat):List Mv:=(A.moves[p]?).getD []
theorem mo_get {A:Au} {p:Nat} (hp:p < A.moves.length):A.moves[p]?=some (mvAt A p):=by simp [mvAt,List.getElem?_eq_getElem hp]
theorem mo_at {A:Au} {p:Nat} (hp:p < A.moves.length):(A.moves.map mlC)[p]?=some [.sl ((mvAt A p).map mvC)]:=by
 rw[List.getElem?_map,mo_get hp];rfl
theorem mvs_at {l:List Mv} {i:Nat} (hi:i < l.length):(l.map mvC)[i]?=some (mvC l[i]):=by
 rw[List.getElem?_map,List.getElem?_eq_getElem hi];rfl
def stepL (A:Au) (x:Cf) (b:Nat) (ms:List Mv):List Cf:=ms.filterMap fun m=>if bitOf (stAt A m.to) b then mayF A x m else none
def stepF (A:Au) (x:Cf) (b:Nat):List Cf:=sdC (stepL A x b (mvAt A x.p.toNat))
theorem stepL_snoc (A:Au) (x:Cf) (b:Nat) (ms:List Mv) (m:Mv):stepL A x b (ms++[m])=stepL A x b ms++(if bitOf (stAt A m.to) b then mayF A x m else none).toList:=by
 unfold stepL
 rw[List.filterMap_append,List.filterMap_cons]
 generalize (if bitOf (stAt A m.to) b then mayF A x m else none)=z
 cases z<;>rfl
theorem stepL_len (A:Au) (x:Cf) (b:Nat) (ms:List Mv):(stepL A x b ms).length≤ms.length:=List.length_filterMap_le _ _
set_option maxHeartbeats 2000000 in
theorem step_pu {A:Au} (hW:WF A) (hL:∀ l∈A.moves,l.length < 2147483648) {x:Cf} (hr:rightB A x=true) {b:Nat} (hb:b < 256):Pu F 20 [.ag (auC A),.ag (cfC x),.i .u8 b] (.sl ((stepF A x b).map cfC)):=by
 have h1:=right_pu hW x
 rw[hr] at h1
 obtain⟨r1,r2,_⟩:=rightB_iff.1 hr
 obtain⟨p,hp⟩:∃ p:Nat,x.p=p:=⟨x.p.toNat,by omega⟩
 have hpt:x.p.toNat=p:=by omega
 have hpp:(0:Int)≤(p:Int):=by omega
 have hpl:p < A.moves.length:=by rw[hW.lm,← hW.la];omega
 have hmo:=mo_at hpl
 have hml:=hL _ (List.mem_of_getElem? (mo_get hpl))
 have hmk:∀ m∈mvAt A p,MvOk A x.p.toNat m:=fun m hm=>mvOk hW (mo_get (p:=x.p.toNat) (by rw[hpt];exact hpl)) (by rw[hpt];exact hm)
 unfold stepF
 rw[hpt]
 generalize mvAt A p=l at hmo hml hmk
 refine U_pure e20 rfl rfl (by simp only[go_sem,Bool.and_true]) ?_
 dsimp only[fn20,c20]
 (repeat (with_reducible (first|refine U_nil ?_|refine UC_sq ?_|refine UC_rg ?_|refine X_nx ?_|((first|refine U_q (v:=?_) ?h1 ?_|refine U_ld (v:=?_) ?h1 ?_);case h1=>((try simp only[go_sem])<;>rfl))|(refine U_box (cs:=?_) (cs':=?_) (n:=?_) ?h1 ?h2 ?h3 ?h4 ?_;case h1|h2|h3|h4=>((try simp only[go_sem])<;>rfl)))))
 (refine U_pcr (r:=.bo true) h1 ?h1 ?h2 rfl ?_;(case h1=>((try simp only[go_sem])<;>rfl));(case h2=>simp only[List.all_cons,List.all_nil,Bool.and_true,go_sem]))
 (repeat (with_reducible (first|refine U_nil ?_|refine UC_sq ?_|refine UC_rg ?_|refine UC_bk ?_|refine UC_sk ?_|refine X_nx ?_|((first|refine U_q (v:=?_) ?h1 ?_|refine U_ld (v:=?_) ?h1 ?_);case h1=>((try simp only[hp,hmo,hpp,Int.toNat_natCast,List.length_map,go_sem])<;>rfl))|(refine UC_cdf ?h1 ?_;case h1=>((try simp only[hp,hmo,hpp,Int.toNat_natCast,List.length_map,go_sem])<;>rfl)))))
 refine U_lp (fun r e o=>∃ i:Nat,i+r=l.length∧e 2=.i .u8 b∧e 3=.pt 3 0 0∧e 4=.pt 4 0 0∧e 21=.sl (l.map mvC)∧e 22=.i .i64 l.length∧e 23=.i .i64 i∧e 7=ownV 48 5 ((stepL A x b (l.take i)).map cfC)∧Own o 48 5 ((stepL A x b (l.take i)).map cfC)∧o 3=some (.row 15 [auC A])∧o 4=some (.row 5 [cfC x])) (k:=l.length) ?_ (Call_le F) ?_
 ·exact⟨0,by omega,by simp only[go_sem],by simp only[go_sem],by simp only[go_sem],by simp only[go_sem],by simp only[List.length_map,go_sem],by (simp only[go_sem]<;>rfl),by (simp only[go_sem]<;>rfl),⟨rfl,fun h=>absurd rfl h⟩,by simp only[go_sem],by simp only[go_sem]⟩
 rintro r e o ⟨i,hir,r2,r3,r4,r21,r22,r23,r7,ho,o3,o4⟩
 dsimp only[b20_0]
 have hln:=stepL_len A x b (l.take i)
 rw[List.length_take] at hln
 (repeat (with_reducible (first|refine U_nil ?_|refine UC_sq ?_|refine UC_rg ?_|refine X_nx ?_|(refine U_q (v:=?_) ?h1 ?_;case h1=>((try simp only[r22,r23,go_sem])<;>rfl)))))
 refine UC_cdb (q:=decide ((i:Int) < (l.length:Int))) (by simp only[go_sem]) (fun hc=>?_) (fun hc=>?_)
 ·have hi:i < l.length:=by simpa using hc
  have hip:(0:Int)≤(i:Int):=by omega
  have hxi:=mvs_at hi
  have hw:=wrap1 (i:=i) (by omega)
  have htk:stepL A x b (l.take (i+1))=stepL A x b (l.take i)++(if bitOf (stAt A l[i].to) b then mayF A x l[i] else none).toList:=by
   rw[← stepL_snoc,List.take_add_one,List.getElem?_eq_getElem hi];rfl
  have hmi:=hmk l[i] (List.getElem_mem hi)
  generalize l[i]=m at hxi htk hmi
  have hto:m.to < A.sets.length:=by rw[← hW.la];exact hmi.to
  have hst:=st_at hto
  have htp:(0:Int)≤(m.to:Int):=by omega
  have hhas:=has_pu (stAt A m.to) (st_w hW hto) b hb
  have hmay:=may_pu hW hr hmi
  (repeat (with_reducible (first|refine U_nil ?_|refine UC_sq ?_|refine UC_rg ?_|refine UC_bk ?_|refine UC_sk ?_|refine X_nx ?_|((first|refine U_q (v:=?_) ?h1 ?_|refine U_ld (v:=?_) ?h1 ?_|refine U_alc (n:=?_) ?h1 ?_);case h1=>((try simp only[r2,r3,r21,r23,o3,hip,hxi,htp,hst,Int.toNat_natCast,go_sem])<;>rfl))|(refine U_sto (id:=?_) (i:=?_) (j:=?_) (q:=?_) (es:=?_) (cs:=?_) (vs:=?_) (es':=?_) ?h1 ?h2 ?h3 ?h4 ?h5 ?h6 ?h7 ?_;case h1|h2|h3|h4|h5|h6|h7=>((try simp only[r2,r3,r21,r23,o3,hip,hxi,htp,hst,Int.toNat_natCast,go_sem])<;>rfl)))))
  (refine U_pcr (r:=.bo (bitOf (stAt A m.to) b)) hhas ?h1 ?h2 rfl ?_;(case h1=>((try simp only[r2,go_sem])<;>rfl));(case h2=>simp only[r2,List.all_cons,List.all_nil,Bool.and_true,go_sem]))
  cases hbt:bitOf (stAt A m.to) b with
  | false =>
   rw[hbt] at htk
   have htk:stepL A x b (l.take (i+1))=stepL A x b (l.take i):=by rw[htk];simp
   (repeat (with_reducible (first|refine U_nil ?_|refine UC_rg ?_|refine UC_ex ?_|refine X_nx ?_|refine X_ex ?_|refine B_self ?_|(refine U_q (v:=?_) ?h1 ?_;case h1=>((try simp only[r23,hw,go_sem])<;>rfl))|(refine UC_cdt ?h1 ?_;case h1=>((try simp only[r23,hw,go_sem])<;>rfl)))))
   refine⟨r - 1,by omega,i+1,by omega,by simp only[r2,go_sem],by simp only[r3,go_sem],by simp only[r4,go_sem],by simp only[r21,go_sem],by simp only[r22,go_sem],by simp only[go_sem],by rw[htk];simp only[r7,go_sem],?_,by simp only[o3,go_sem],by simp only[o4,go_sem]⟩
   rw[htk];(repeat (first|with_reducible assumption|((with_reducible first|refine Own.up ?hh ?_|refine Own.sw ?hh ?_|refine Own.swN ?hh ?_);(case hh=>rfl))))
  | true =>
   rw[hbt,if_pos rfl] at htk
   (repeat (with_reducible (first|refine U_nil ?_|refine UC_sq ?_|refine UC_rg ?_|refine UC_sk ?_|refine X_nx ?_|((first|refine U_q (v:=?_) ?h1 ?_|refine U_ld (v:=?_) ?h1 ?_);case h1=>((try simp only[r3,r4,o3,o4,go_sem])<;>rfl))|(refine UC_cdf ?h1 ?_;case h1=>((try simp only[r3,r4,o3,o4,go_sem])<;>rfl)))))
   cases hv:mayF A x m with
   | none =>
    rw[hv] at hmay htk
    have htk:stepL A x b (l.take (i+1))=stepL A x b (l.take i):=by rw[htk];simp
    (refine U_pcr (r:=.tp [.ag (cfC noC),.bo false]) hmay ?h1 ?h2 rfl ?_;(case h1=>((try simp only[r3,r4,go_sem])<;>rfl));(case h2=>simp only[r3,r4,List.all_cons,List.all_nil,Bool.and_true,go_sem]))
    (repeat (with_reducible (first|refine U_nil ?_|refine UC_sq ?_|refine UC_rg ?_|refine UC_sk ?_|refine X_nx ?_|refine B_nx ?_|((first|refine U_q (v:=?_) ?h1 ?_|refine U_alc (n:=?_) ?h1 ?_);case h1=>((try simp only[r23,hw,go_sem])<;>rfl))|(refine U_sto (id:=?_) (i:=?_) (j:=?_) (q:=?_) (es:=?_) (cs:=?_) (vs:=?_) (es':=?_) ?h1 ?h2 ?h3 ?h4 ?h5 ?h6 ?h7 ?_;case h1|h2|h3|h4|h5|h6|h7=>((try simp only[r23,hw,go_sem])<;>rfl))|(refine UC_cdf ?h1 ?_;case h1=>((try simp only[r23,hw,go_sem])<;>rfl)))))
    refine⟨r - 1,by omega,i+1,by omega,by simp only[r2,go_sem],by simp only[r3,go_sem],by simp only[r4,go_sem],by simp only[r21,go_sem],by simp only[r22,go_sem],by simp only[go_sem],by rw[htk];simp only[r7,go_sem],?_,by simp only[o3,go_sem],by simp only[o4,go_sem]⟩
    rw[htk];(repeat (first|with_reducible assumption|((with_reducible first|refine Own.up ?hh ?_|refine Own.sw ?hh ?_|refine Own.swN ?hh ?_);(case hh=>rfl))))
   | some y =>
    rw[hv] at hmay htk
    have htk:stepL A x b (l.take (i+1))=stepL A x b (l.take i)++[y]:=htk
    (refine U_pcr (r:=.tp [.ag (cfC y),.bo true]) hmay ?h1 ?h2 rfl ?_;(case h1=>((try simp only[r3,r4,go_sem])<;>rfl));(case h2=>simp only[r3,r4,List.all_cons,List.all_nil,Bool.and_true,go_sem]))
    (repeat (with_reducible (first|refine U_nil ?_|refine UC_sq ?_|refine UC_rg ?_|refine X_nx ?_|((first|refine U_q (v:=?_) ?h1 ?_|refine U_ld (v:=?_) ?h1 ?_|refine U_alc (n:=?_) ?h1 ?_);case h1=>((try simp only[r7,go_sem])<;>rfl))|(refine U_sto (id:=?_) (i:=?_) (j:=?_) (q:=?_) (es:=?_) (cs:=?_) (vs:=?_) (es':=?_) ?h1 ?h2 ?h3 ?h4 ?h5 ?h6 ?h7 ?_;case h1|h2|h3|h4|h5|h6|h7=>((try simp only[r7,go_sem])<;>rfl))|(refine U_bsl (es:=?_) (es':=?_) ?h1 ?h2 ?h3 ?_;case h1|h2|h3=>((try simp only[r7,go_sem])<;>rfl))|(refine UC_cdt ?h1 ?_;case h1=>((try simp only[r7,go_sem])<;>rfl)))))
    refine U_appo 48 (L:=(stepL A x b (l.take i)).map cfC) (ys:=[cfC y]) (by simp only[r7,go_sem]) ?_ (by (simp only[src,go_sem]<;>rfl)) (by simp [cf_len]) (by simp) (by omega) ⟨by simp;omega,by omega⟩ (swpR_cls _ ho.c) rfl ?_
    ·exact Own.h (by (repeat (first|with_reducible assumption|((with_reducible first|refine Own.up ?hh ?_|refine Own.sw ?hh ?_|refine Own.swN ?hh ?_);(case hh=>rfl)))))
    (repeat (with_reducible (first|refine U_nil ?_|refine UC_rg ?_|refine X_nx ?_|refine B_nx ?_|(refine U_q (v:=?_) ?h1 ?_;case h1=>((try simp only[r23,hw,go_sem])<;>rfl)))))
    refine⟨r - 1,by omega,i+1,by omega,by simp only[r2,go_sem],by simp only[r3,go_sem],by simp only[r4,go_sem],by simp only[r21,go_sem],by simp only[r22,go_sem],by simp only[go_sem],by simp only[htk,List.map_append,go_sem],?_,by simp only[o3,go_sem],by simp only[o4,go_sem]⟩
    rw[htk,List.map_append]
    exact Own.to (by have:=cf_cls (stepL A x b (l.take i)++[y]);rw[List.map_append] at this;exact this)
 ·have hi:i=l.length:=by
   have:¬ i < l.length:=by simpa using hc
   omega
  subst hi
  rw[List.take_length] at r7 ho hln
  (repeat (with_reducible (first|refine UC_sq ?_|refine UC_rg ?_|refine UC_ex ?_|refine X_nx ?_|refine X_ex ?_|refine B_self ?_|(refine U_q (v:=?_) ?h1 ?_;case h1=>((try simp only[r7,go_sem])<;>rfl)))))
  refine U_sorted 48 (l0:=stepL A x b l) (by omega) (by omega) (by simp only[go_sem]) ho fun e1 o1 v hv=>?_
  (repeat (with_reducible (first|refine U_nil ?_|refine UC_rt ?_|refine X_nx ?_|((first|refine U_q (v:=?_) ?h1 ?_|refine E_1 (v:=?_) ?h1 ?_);case h1=>((try simp only[go_sem])<;>rfl)))))
  exact hv
theorem step_no {A:Au} (hW:WF A) {x:Cf} (hr:rightB A x=false) (b:Nat):Pu F 20 [.ag (auC A),.ag (cfC x),.i .u8 b] (.sl []):=by
 have h1:=right_pu hW x
 rw[hr] at h1
 refine U_pure e20 rfl rfl (by simp only[go_sem,Bool.and_true]) ?_
 dsimp only[fn20,c20]
 (repeat (with_reducible (first|refine U_nil ?_|refine UC_sq ?_|refine UC_rg ?_|refine X_nx ?_|((first|refine U_q (v:=?_) ?h1 ?_|refine U_ld (v:=?_) ?h1 ?_);case h1=>((try simp only[go_sem])<;>rfl))|(refine U_box (cs:=?_) (cs':=?_) (n:=?_) ?h1 ?h2 ?h3 ?h4 ?_;case h1|h2|h3|h4=>((try simp only[go_sem])<;>rfl)))))
 (refine U_pcr (r:=.bo false) h1 ?h1 ?h2 rfl ?_;(case h1=>((try simp only[go_sem])<;>rfl));(case h2=>simp only[List.all_cons,List.all_nil,Bool.and_true,go_sem]))
 (repeat (with_reducible (first|refine U_nil ?_|refine UC_sq ?_|refine UC_rg ?_|refine UC_rt ?_|refine X_nx ?_|refine X_rt ?_|((first|refine U_q (v:=?_) ?h1 ?_|refine E_1 (v:=?_) ?h1 ?_);case h1=>((try simp only[go_sem])<;>rfl))|(refine UC_cdt ?h1 ?_;case h1=>((try simp only[go_sem])<;>rfl)))))
 rfl
theorem tdiv_nat (a b:Nat):(a:Int).tdiv (b:Int)=((a / b:Nat):Int):=by
 rw[Int.tdiv_eq_ediv_of_nonneg (by omega)];exact (Int.natCast_ediv a b).symm
theorem z64:((64:Int)=0)=False:=by simp
theorem z2:((2:Int)=0)=False:=by simp
attribute [go_sem] z64 z2
theorem rhas_pu (s:Nat→Nat) (hs:W64 s) (b:Nat) (hb:b < 256):Pu F 40 [.ag (u4 s),.i .i64 b] (.bo (bitOf s b)):=by
 have hq:b / 64 < 4:=by omega
 have w1:(b:Int).tdiv 64=((b / 64:Nat):Int):=tdiv_nat b 64
 have w2:IntKind.i64.wrap (((b / 64:Nat)):Int)=((b / 64:Nat):Int):=wrap_i64 (by omega) (by omega)
 have w3:(0:Int)≤((b / 64:Nat):Int):=by omega
 have w4:(((b / 64:Nat):Int) < 4)=True:=by simp only[eq_iff_iff,iff_true];omega
 have w5:(b:Int).tmod 64=((b % 64:Nat):Int):=tmod_nat b 64
 have hu:=u4_get s hq
 refine U_pure e40 rfl rfl (by simp only[go_sem,Bool.and_true];rfl) ?_
 dsimp only[fn40,c40]
 (repeat (with_reducible (first|refine U_nil ?_|refine UC_sq ?_|refine UC_rg ?_|refine UC_bk ?_|refine X_nx ?_|((first|refine U_q (v:=?_) ?h1 ?_|refine U_ld (v:=?_) ?h1 ?_);case h1=>((try simp only[w1,w2,w3,w4,hu,Int.toNat_natCast,Nat.mul_one,Nat.zero_add,go_sem])<;>rfl))|(refine U_box (cs:=?_) (cs':=?_) (n:=?_) ?h1 ?h2 ?h3 ?h4 ?_;case h1|h2|h3|h4=>((try simp only[w1,w2,w3,w4,hu,Int.toNat_natCast,Nat.mul_one,Nat.zero_add,go_sem])<;>rfl)))))
 refine U_lp (fun r e o=>∃ k:Nat,k+r=b % 64∧e 1=.i .i64 b∧e 5=.i .u64 ((s (b / 64) / 2 ^ k:Nat):Int)∧e 6=.i .i64 k) (k:=b % 64) ?_ (Call_le F) ?_
 ·exact⟨0,by omega,by simp only[go_sem],by simp only[go_sem];simp,by (simp only[go_sem]<;>rfl)⟩
 rintro r e o ⟨k,hkr,r1,r5,r6⟩
 dsimp only[b40_0]
 (repeat (with_reducible (first|refine U_nil ?_|refine UC_sq ?_|refine UC_rg ?_|refine X_nx ?_|(refine U_q (v:=?_) ?h1 ?_;case h1=>((try simp only[r1,r6,w5,go_sem])<;>rfl)))))
 refine UC_cdb (q:=decide ((k:Int) < ((b % 64:Nat):Int))) (by simp only[go_sem]) (fun hc=>?_) (fun hc=>?_)
 ·have hk:k < b % 64:=by have:=of_decide_eq_true hc;omega
  have hw:=wrap1 (i:=k) (by omega)
  have v1:(((s (b / 64) / 2 ^ k:Nat)):Int).tdiv 2=((s (b / 64) / 2 ^ (k+1):Nat):Int):=by
   have:=tdiv_nat (s (b / 64) / 2 ^ k) 2
   rw[Nat.div_div_eq_div_mul,← Nat.pow_succ] at this;exact this
  have hlt:s (b / 64) / 2 ^ (k+1) < 18446744073709551616:=Nat.lt_of_le_of_lt (Nat.div_le_self _ _) (hs _ hq)
  have v2:IntKind.u64.wrap (((s (b / 64) / 2 ^ (k+1):Nat)):Int)=((s (b / 64) / 2 ^ (k+1):Nat):Int):=(fun (t:Nat) (h:t < 18446744073709551616)=>(wrap_u64 (by omega) (by omega):IntKind.u64.wrap (t:Int)=t)) _ hlt
  (repeat (with_reducible (first|refine U_nil ?_|refine UC_sq ?_|refine UC_rg ?_|refine UC_bk ?_|refine UC_sk ?_|refine X_nx ?_|refine B_nx ?_|(refine U_q (v:=?_) ?h1 ?_;case h1=>((try simp only[r5,r6,v1,v2,hw,go_sem])<;>rfl)))))
  exact⟨r - 1,by omega,k+1,by omega,by simp only[r1,go_sem],by simp only[go_sem],by simp only[go_sem]⟩
 ·have hk:k=b % 64:=by have:=of_decide_eq_false hc;omega
  subst hk
  have v3:(((s (b / 64) / 2 ^ (b % 64):Nat)):Int).tmod 2=((s (b / 64) / 2 ^ (b % 64) % 2:Nat):Int):=tmod_nat _ 2
  have v4:((((s (b / 64) / 2 ^ (b % 64) % 2:Nat)):Int)==1)=bitOf s b:=by
   rw[← bit_val]
   rcases Nat.mod_two_eq_zero_or_one (s (b / 64) / 2 ^ (b % 64)) with h|h<;>rw[h]<;>rfl
  (repeat (with_reducible (first|refine U_nil ?_|refine UC_sq ?_|refine UC_rg ?_|refine UC_ex ?_|refine UC_rt ?_|refine X_nx ?_|refine X_ex ?_|refine B_self ?_|((first|refine U_q (v:=?_) ?h1 ?_|refine E_1 (v:=?_) ?h1 ?_);case h1=>((try simp only[r5,v3,v4,go_sem])<;>rfl)))))
  exact fz_of rfl rfl
theorem hasc_pu (c:Cf) (l:List Cf) (hl:l.length < 4294967296):Pu F 39 [.sl (l.map cfC),.ag (cfC c)] (.bo (decide (c∈l))):=by
 refine U_pure e39 rfl rfl (by simp only[go_sem,Bool.and_true]) ?_
 dsimp only[fn39,c39]
 (repeat (with_reducible (first|refine U_nil ?_|refine UC_sq ?_|refine UC_rg ?_|refine UC_bk ?_|refine X_nx ?_|(refine U_q (v:=?_) ?h1 ?_;case h1=>((try simp only[go_sem])<;>rfl))|(refine U_box (cs:=?_) (cs':=?_) (n:=?_) ?h1 ?h2 ?h3 ?h4 ?_;case h1|h2|h3|h4=>((try simp only[go_sem])<;>rfl)))))
 refine U_lp (fun r e o=>∃ i:Nat,i+r=l.length∧e 0=.sl (l.map cfC)∧e 3=.pt 3 0 0∧e 5=.i .i64 i∧o 3=some (.row 5 [cfC c])∧c ∉ l.take i) (k:=l.length) ?_ (Call_le F) ?_
 ·exact⟨0,by omega,by simp only[go_sem],by simp only[go_sem],by (simp only[go_sem]<;>rfl),by simp only[go_sem],by simp⟩
 rintro r e o ⟨i,hir,r0,r3,r5,o3,hq⟩
 dsimp only[b39_0]
 (repeat (with_reducible (first|refine U_nil ?_|refine UC_sq ?_|refine UC_rg ?_|refine X_nx ?_|(refine U_q (v:=?_) ?h1 ?_;case h1=>((try simp only[r0,r5,List.length_map,go_sem])<;>rfl)))))
 refine UC_cdb (q:=decide ((i:Int) < (l.length:Int))) (by simp only[go_sem]) (fun hc=>?_) (fun hc=>?_)
 ·have hi:i < l.length:=by simpa using hc
  have hip:(0:Int)≤(i:Int):=by omega
  have hx:=cfs_at hi
  have hw:=wrap1 (i:=i) (by omega)
  (repeat (with_reducible (first|refine U_nil ?_|refine UC_sq ?_|refine UC_rg ?_|refine UC_bk ?_|refine UC_sk ?_|refine X_nx ?_|((first|refine U_q (v:=?_) ?h1 ?_|refine U_ld (v:=?_) ?h1 ?_);case h1=>((try simp only[r0,r3,r5,o3,hip,hx,Int.toNat_natCast,go_sem])<;>rfl)))))
  refine UC_cdb (q:=decide (l[i]=c)) (by simp only[go_sem]) (fun hc2=>?_) (fun hc2=>?_)
  ·have he:l[i]=c:=by simpa using hc2
   have:decide (c∈l)=true:=by simp;rw[← he];exact List.getElem_mem hi
   (repeat (with_reducible (first|refine U_nil ?_|refine UC_sq ?_|refine UC_rg ?_|refine UC_rt ?_|refine X_nx ?_|refine X_rt ?_|refine B_rt ?_|((first|refine U_q (v:=?_) ?h1 ?_|refine E_1 (v:=?_) ?h1 ?_);case h1=>((try simp only[go_sem])<;>rfl)))))
   rw[this];exact fz_of rfl rfl
  ·have he:¬ l[i]=c:=by simpa using hc2
   (repeat (with_reducible (first|refine U_nil ?_|refine UC_rg ?_|refine UC_sk ?_|refine X_nx ?_|refine B_nx ?_|(refine U_q (v:=?_) ?h1 ?_;case h1=>((try simp only[r5,hw,go_sem])<;>rfl)))))
   refine⟨r - 1,by omega,i+1,by omega,by simp only[r0,go_sem],by simp only[r3,go_sem],by simp only[go_sem],by simp only[o3,go_sem],fun hm=>?_⟩
   rw[List.take_add_one,List.getElem?_eq_getElem hi] at hm
   rcases List.mem_append.1 hm with h|h
   ·exact hq h
   ·simp at h;exact he h.symm
 ·have hi:i=l.length:=by
   have:¬ i < l.length:=by simpa using hc
   omega
  subst hi
  rw[List.take_length] at hq
  have:decide (c∈l)=false:=by simpa using hq
  (repeat (with_reducible (first|refine U_nil ?_|refine UC_sq ?_|refine UC_rg ?_|refine UC_ex ?_|refine UC_rt ?_|refine X_nx ?_|refine X_ex ?_|refine B_self ?_|((first|refine U_q (v:=?_) ?h1 ?_|refine E_1 (v:=?_) ?h1 ?_);case h1=>((try simp only[go_sem])<;>rfl)))))
  rw[this];exact fz_of rfl rfl
theorem rsorted_pu {l want:List Cf} (hl:l.length < 4294967296) (h1:l.length=want.length) (h2:∀ y∈l,y∈want) (h3:l.Pairwise fun x y=>ordC x y < 0):Pu F 18 [.sl (l.map cfC),.sl (want.map cfC)] (.bo true):=by
 refine U_pure e18 rfl rfl (by simp only[go_sem,Bool.and_true]) ?_
 dsimp only[fn18,c18]
 have c1:((l.length:Int) != (want.length:Int))=false:=by simp [h1]
 (repeat (with_reducible (first|refine U_nil ?_|refine UC_sq ?_|refine UC_rg ?_|refine UC_bk ?_|refine UC_sk ?_|refine X_nx ?_|(refine U_q (v:=?_) ?h1 ?_;case h1=>((try simp only[c1,List.length_map,go_sem])<;>rfl))|(refine UC_cdf ?h1 ?_;case h1=>((try simp only[c1,List.length_map,go_sem])<;>rfl)))))
 refine U_lp (fun r e o=>∃ i:Nat,i+r=l.length∧e 0=.sl (l.map cfC)∧e 1=.sl (want.map cfC)∧e 5=.i .i64 i) (k:=l.length) ?_ (Call_le F) ?_
 ·exact⟨0,by omega,by simp only[go_sem],by simp only[go_sem],by (simp only[go_sem]<;>rfl)⟩
 rintro r e o ⟨i,hir,r0,r1,r5⟩
 dsimp only[b18_0]
 (repeat (with_reducible (first|refine U_nil ?_|refine UC_sq ?_|refine UC_rg ?_|refine X_nx ?_|(refine U_q (v:=?_) ?h1 ?_;case h1=>((try simp only[r0,r5,List.length_map,go_sem])<;>rfl)))))
 refine UC_cdb (q:=decide ((i:Int) < (l.length:Int))) (by simp only[go_sem]) (fun hc=>?_) (fun hc=>?_)
 ·have hi:i < l.length:=by simpa using hc
  have hip:(0:Int)≤(i:Int):=by omega
  have hx:=cfs_at hi
  have hw:=wrap1 (i:=i) (by omega)
  have hm:=hasc_pu l[i] want (by omega)
  rw[decide_eq_true (h2 _ (List.getElem_mem hi))] at hm
  (repeat (with_reducible (first|refine UC_sq ?_|refine UC_rg ?_|refine UC_bk ?_|refine UC_sk ?_|refine X_nx ?_|((first|refine U_q (v:=?_) ?h1 ?_|refine U_ld (v:=?_) ?h1 ?_);case h1=>((try simp only[r0,r1,r5,hip,hx,Int.toNat_natCast,go_sem])<;>rfl)))))
  (refine U_pcr (r:=.bo true) hm ?h1 ?h2 rfl ?_;(case h1=>((try simp only[r1,go_sem])<;>rfl));(case h2=>simp only[r1,List.all_cons,List.all_nil,Bool.and_true,go_sem]))
  by_cases h0:i=0
  ·have d1:decide ((i:Int) > 0)=false:=by simp;omega
   (repeat (with_reducible (first|refine U_nil ?_|refine UC_rg ?_|refine UC_sk ?_|refine X_nx ?_|refine B_nx ?_|(refine U_q (v:=?_) ?h1 ?_;case h1=>((try simp only[r5,d1,hw,go_sem])<;>rfl))|(refine U_gt ?h1 ?_;case h1=>((try simp only[r5,d1,hw,go_sem])<;>rfl))|(refine U_gs2 ?h1 ?_;case h1=>((try simp only[r5,d1,hw,go_sem])<;>rfl))|(refine UC_cdf ?h1 ?_;case h1=>((try simp only[r5,d1,hw,go_sem])<;>rfl))|rw[put_some])))
   exact⟨r - 1,by omega,i+1,by omega,by simp only[r0,go_sem],by simp only[r1,go_sem],by simp only[go_sem]⟩
  ·have d1:decide ((i:Int) > 0)=true:=by simp;omega
   have hw2:IntKind.i64.wrap ((i:Int) - 1)=((i - 1:Nat):Int):=by rw[wrap_i64 (by omega) (by omega)];omega
   have hip1:(0:Int)≤((i - 1:Nat):Int):=by omega
   have hy:=cfs_at (l:=l) (i:=i - 1) (by omega)
   have hlt:ordC l[i - 1] l[i] < 0:=List.pairwise_iff_getElem.1 h3 (i - 1) i (by omega) hi (by omega)
   have hod:=ref_order_pu l[i - 1] l[i]
   have d2:decide (ordC l[i - 1] l[i]≥0)=false:=by simp;omega
   generalize ordC l[i - 1] l[i]=w at hod d2
   (repeat (with_reducible (first|((first|refine U_q (v:=?_) ?h1 ?_|refine U_ld (v:=?_) ?h1 ?_);case h1=>((try simp only[r0,r5,d1,hw2,hip,hip1,hx,hy,Int.toNat_natCast,go_sem])<;>rfl))|(refine U_gt ?h1 ?_;case h1=>((try simp only[r0,r5,d1,hw2,hip,hip1,hx,hy,Int.toNat_natCast,go_sem])<;>rfl)))))
   (refine U_pcr (r:=.i .i64 w) hod ?h1 ?h2 rfl ?_;(case h1=>((try simp only[go_sem])<;>rfl));(case h2=>simp only[List.all_cons,List.all_nil,Bool.and_true,go_sem]))
   (repeat (with_reducible (first|refine U_nil ?_|refine UC_rg ?_|refine UC_sk ?_|refine X_nx ?_|refine B_nx ?_|(refine U_q (v:=?_) ?h1 ?_;case h1=>((try simp only[r5,d2,hw,go_sem])<;>rfl))|(refine U_gt ?h1 ?_;case h1=>((try simp only[r5,d2,hw,go_sem])<;>rfl))|(refine UC_cdf ?h1 ?_;case h1=>((try simp only[r5,d2,hw,go_sem])<;>rfl)))))
   exact⟨r - 1,by omega,i+1,by omega,by simp only[r0,go_sem],by simp only[r1,go_sem],by simp only[go_sem]⟩
 ·(repeat (with_reducible (first|refine U_nil ?_|refine UC_sq ?_|refine UC_rg ?_|refine UC_ex ?_|refine UC_rt ?_|refine X_nx ?_|refine X_ex ?_|refine B_self ?_|((first|refine U_q (v:=?_) ?h1 ?_|refine E_1 (v:=?_) ?h1 ?_);case h1=>((try simp only[go_sem])<;>rfl)))))
  rfl
end Go.Proofs.YtgiedknghbpdfaaGreat
