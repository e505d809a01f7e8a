import Derived.Test.YtgiedknghbpdfaaGreatC1

namespace Go.Proofs.YtgiedknghbpdfaaGreat
set_option linter.all false
attribute [-go_sem] swpOb renOb rfOb V.cells
theorem ar_at {A:Au} {p:Nat} (hp:p < A.around.length):(A.around.map lsC)[p]?=some [.sl ((arAt A p).map inC)]:=by
 rw[List.getElem?_map,arAt_get hp];rfl
theorem sc_at {A:Au} {i:Nat} (hi:i < A.scopes.length):(A.scopes.map scC)[i]?=some (scC (scI A i)):=by
 rw[List.getElem?_map,scI_get hi];rfl
theorem in_at {l:List Nat} {i:Nat} (hi:i < l.length):(l.map inC)[i]?=some [.i .i64 l[i]]:=by
 rw[List.getElem?_map,List.getElem?_eq_getElem hi];rfl
theorem scs_at {l:List (Int × Int)} {i:Nat} (hi:i < l.length):(l.map scC)[i]?=some (scC l[i]):=by
 rw[List.getElem?_map,List.getElem?_eq_getElem hi];rfl
theorem i1_at {l:List Int} {i:Nat} (hi:i < l.length):(l.map i1)[i]?=some [.i .i64 l[i]]:=by
 rw[List.getElem?_map,List.getElem?_eq_getElem hi];rfl
theorem wrap1 {i:Nat} (h:i < 4294967296):IntKind.i64.wrap ((i:Int)+1)=((i+1:Nat):Int):=by rw[wrap_i64 (by omega) (by omega)];rfl
theorem sc_cls (l:List (Int × Int)):(l.map scC).all cls1L=true:=List.all_eq_true.2 fun c hc=>by obtain⟨x,_,rfl⟩:=List.mem_map.1 hc;rfl
theorem cf_cls (l:List Cf):(l.map cfC).all cls1L=true:=List.all_eq_true.2 fun c hc=>by obtain⟨x,_,rfl⟩:=List.mem_map.1 hc;rfl
theorem fza_cf (l:List Cf) {o:O}:∀ c∈l.map cfC,∀ v∈c,∀ n,frzU (n+1) o v=some v:=fun c hc v hv n=>by
 obtain⟨x,_,rfl⟩:=List.mem_map.1 hc
 simp [cfC] at hv
 rcases hv with rfl|rfl|rfl|rfl|rfl<;>rfl
theorem around_pu {A:Au} (hW:WF A) {p:Nat} (hp:p < A.around.length):Pu F 30 [.ag (auC A),.i .i64 p] (.sl ((scAt A p).map scC)):=by
 refine U_pure e30 rfl rfl (by simp only[go_sem,Bool.and_true]) ?_
 dsimp only[fn30,c30]
 have hra:=ar_at hp
 have hpp:(0:Int)≤(p:Int):=by omega
 have h4:=ar_4 hW hp
 have hlt:∀ i∈arAt A p,i < A.scopes.length:=fun i hi=>ar_lt hW hp hi
 have hsc:scAt A p=(arAt A p).map (scI A):=rfl
 rw[hsc]
 generalize arAt A p=l at hra h4 hlt
 (repeat (with_reducible (first|refine U_nil ?_|refine UC_sq ?_|refine UC_rg ?_|refine UC_bk ?_|refine X_nx ?_|((first|refine U_q (v:=?_) ?h1 ?_|refine U_ld (v:=?_) ?h1 ?_);case h1=>((try simp only[hra,hpp,Int.toNat_natCast,List.length_map,go_sem])<;>rfl))|(refine U_box (cs:=?_) (cs':=?_) (n:=?_) ?h1 ?h2 ?h3 ?h4 ?_;case h1|h2|h3|h4=>((try simp only[hra,hpp,Int.toNat_natCast,List.length_map,go_sem])<;>rfl)))))
 refine U_lp (fun r e o=>∃ i:Nat,i+r=l.length∧e 2=.pt 2 0 0∧e 13=.sl (l.map inC)∧e 14=.i .i64 l.length∧e 15=.i .i64 i∧e 5=ownV 27 2 (((l.take i).map (scI A)).map scC)∧Own o 27 2 (((l.take i).map (scI A)).map scC)∧o 2=some (.row 15 [auC A])) (k:=l.length) ?_ (Call_le F) ?_
 ·exact⟨0,by omega,by simp only[go_sem],by simp only[go_sem],by simp only[List.length_map,go_sem],by (simp only[go_sem]<;>rfl),by (simp only[go_sem]<;>rfl),⟨rfl,fun h=>absurd rfl h⟩,by simp only[go_sem]⟩
 rintro r e o ⟨i,hir,r2,r13,r14,r15,r5,ho,o2⟩
 dsimp only[b30_0]
 (repeat (with_reducible (first|refine U_nil ?_|refine UC_sq ?_|refine UC_rg ?_|refine X_nx ?_|(refine U_q (v:=?_) ?h1 ?_;case h1=>((try simp only[r14,r15,go_sem])<;>rfl)))))
 refine UC_cdb (q:=decide ((i:Int) < (l.length:Int))) (by simp only[go_sem]) (fun hc=>?_) (fun hc=>?_)
 ·have hi:i < l.length:=by simpa using hc
  have hip:(0:Int)≤(i:Int):=by omega
  have hxi:=in_at hi
  have hxp:(0:Int)≤(l[i]:Int):=by omega
  have hsi:=sc_at (hlt l[i] (List.getElem_mem hi))
  have hw:=wrap1 (i:=i) (by omega)
  have htk:((l.take (i+1)).map (scI A)).map scC=((l.take i).map (scI A)).map scC++[scC (scI A l[i])]:=by
   rw[List.take_add_one,List.getElem?_eq_getElem hi];simp only[Option.toList_some,List.map_append,List.map_cons,List.map_nil]
  (repeat (with_reducible (first|refine U_nil ?_|refine UC_sq ?_|refine UC_rg ?_|refine UC_bk ?_|refine UC_sk ?_|refine X_nx ?_|((first|refine U_q (v:=?_) ?h1 ?_|refine U_ld (v:=?_) ?h1 ?_);case h1=>((try simp only[r2,r13,r15,r5,o2,hip,hxi,hxp,hsi,Int.toNat_natCast,go_sem])<;>rfl))|(refine U_bsl (es:=?_) (es':=?_) ?h1 ?h2 ?h3 ?_;case h1|h2|h3=>((try simp only[r2,r13,r15,r5,o2,hip,hxi,hxp,hsi,Int.toNat_natCast,go_sem])<;>rfl)))))
  refine U_appo 27 (L:=((l.take i).map (scI A)).map scC) (ys:=[scC (scI A l[i])]) (by simp only[go_sem]) ((ho.sw (by rfl)).up (by rfl)).h (by (simp only[src,go_sem]<;>rfl)) (by simp [sc_len]) (by simp) (by omega) ⟨by simp;omega,by omega⟩ (swpR_cls _ ho.c) rfl ?_
  (repeat (with_reducible (first|refine U_nil ?_|refine UC_rg ?_|refine X_nx ?_|refine B_nx ?_|(refine U_q (v:=?_) ?h1 ?_;case h1=>((try simp only[r15,hw,go_sem])<;>rfl)))))
  refine⟨r - 1,by omega,i+1,by omega,by simp only[r2,go_sem],by simp only[r13,go_sem],by simp only[r14,go_sem],by simp only[go_sem],by simp only[htk,go_sem],?_,by simp only[o2,go_sem]⟩
  rw[htk]
  exact Own.to (by rw[← htk];exact sc_cls _)
 ·have hi:i=l.length:=by
   have:¬ i < l.length:=by simpa using hc
   omega
  subst hi
  rw[List.take_length] at r5 ho
  (repeat (with_reducible (first|refine U_nil ?_|refine UC_sq ?_|refine UC_rg ?_|refine UC_ex ?_|refine UC_rt ?_|refine X_nx ?_|refine X_ex ?_|refine B_self ?_|((first|refine U_q (v:=?_) ?h1 ?_|refine E_1 (v:=?_) ?h1 ?_);case h1=>((try simp only[r5,go_sem])<;>rfl)))))
  exact frz_own ho (fza_sc _) 22
theorem leaves_pu {l:List (Int × Int)} {cs:List Int} (hl:l.length≤cs.length) (h4:l.length≤4):Pu F 32 [.sl (l.map scC),.sl (cs.map i1)] (.bo (leavesL l cs)):=by
 refine U_pure e32 rfl rfl (by simp only[go_sem,Bool.and_true]) ?_
 dsimp only[fn32,c32]
 (repeat (with_reducible (first|refine U_nil ?_|refine UC_sq ?_|refine UC_rg ?_|refine UC_bk ?_|refine X_nx ?_|(refine U_q (v:=?_) ?h1 ?_;case h1=>((try simp only[List.length_map,go_sem])<;>rfl)))))
 refine U_lp (fun r e o=>∃ i:Nat,i+r=l.length∧e 1=.sl (cs.map i1)∧e 7=.sl (l.map scC)∧e 8=.i .i64 l.length∧e 9=.i .i64 i∧∀ j,j < i→low l j≤(cs[j]?).getD 0) (k:=l.length) ?_ (Call_le F) ?_
 ·exact⟨0,by omega,by simp only[go_sem],by simp only[go_sem],by simp only[List.length_map,go_sem],by (simp only[go_sem]<;>rfl),fun j h=>absurd h (by omega)⟩
 rintro r e o ⟨i,hir,r1,r7,r8,r9,hp⟩
 dsimp only[b32_0]
 (repeat (with_reducible (first|refine U_nil ?_|refine UC_sq ?_|refine UC_rg ?_|refine X_nx ?_|(refine U_q (v:=?_) ?h1 ?_;case h1=>((try simp only[r8,r9,go_sem])<;>rfl)))))
 refine UC_cdb (q:=decide ((i:Int) < (l.length:Int))) (by simp only[go_sem]) (fun hc=>?_) (fun hc=>?_)
 ·have hi:i < l.length:=by simpa using hc
  have hic:i < cs.length:=by omega
  have hip:(0:Int)≤(i:Int):=by omega
  have hxi:=scs_at hi
  have hci:=i1_at hic
  have hw:=wrap1 (i:=i) (by omega)
  have hlow:low l i=l[i].1:=by simp [low,List.getElem?_eq_getElem hi]
  have hcs:(cs[i]?).getD 0=cs[i]:=by simp [List.getElem?_eq_getElem hic]
  have hd:=done_pu l[i] cs[i]
  (repeat (with_reducible (first|refine U_nil ?_|refine UC_sq ?_|refine UC_rg ?_|refine UC_bk ?_|refine UC_sk ?_|refine X_nx ?_|((first|refine U_q (v:=?_) ?h1 ?_|refine U_ld (v:=?_) ?h1 ?_|refine U_alc (n:=?_) ?h1 ?_);case h1=>((try simp only[r1,r7,r9,hip,hxi,hci,Int.toNat_natCast,go_sem])<;>rfl))|(refine U_sto (id:=?_) (i:=?_) (j:=?_) (q:=?_) (es:=?_) (cs:=?_) (vs:=?_) (es':=?_) ?h1 ?h2 ?h3 ?h4 ?h5 ?h6 ?h7 ?_;case h1|h2|h3|h4|h5|h6|h7=>((try simp only[r1,r7,r9,hip,hxi,hci,Int.toNat_natCast,go_sem])<;>rfl)))))
  (refine U_pcr (r:=.bo (decide (l[i].1≤cs[i]))) hd ?h1 ?h2 rfl ?_;(case h1=>((try simp only[r1,r7,r9,go_sem])<;>rfl));(case h2=>simp only[r1,r7,r9,List.all_cons,List.all_nil,Bool.and_true,go_sem]))
  (repeat (with_reducible (first|refine U_nil ?_|refine X_nx ?_|(refine U_q (v:=?_) ?h1 ?_;case h1=>((try simp only[go_sem])<;>rfl)))))
  refine UC_cdb (q:=!decide (l[i].1≤cs[i])) (by simp only[go_sem]) (fun hc2=>?_) (fun hc2=>?_)
  ·have h2:¬ l[i].1≤cs[i]:=by simpa using hc2
   have h3:leavesL l cs=false:=by
    simp only[leavesL,decide_eq_false_iff_not]
    intro h
    have:=h i hi
    rw[hlow,hcs] at this;exact h2 this
   (repeat (with_reducible (first|refine U_nil ?_|refine UC_sq ?_|refine UC_rg ?_|refine UC_rt ?_|refine X_nx ?_|refine X_rt ?_|refine B_rt ?_|((first|refine U_q (v:=?_) ?h1 ?_|refine E_1 (v:=?_) ?h1 ?_);case h1=>((try simp only[go_sem])<;>rfl)))))
   rw[h3];exact fz_of (by simp) rfl
  ·have h2:l[i].1≤cs[i]:=by simpa using hc2
   (repeat (with_reducible (first|refine U_nil ?_|refine UC_rg ?_|refine UC_sk ?_|refine X_nx ?_|refine B_nx ?_|(refine U_q (v:=?_) ?h1 ?_;case h1=>((try simp only[r9,hw,go_sem])<;>rfl)))))
   refine⟨r - 1,by omega,i+1,by omega,by simp only[r1,go_sem],by simp only[r7,go_sem],by simp only[r8,go_sem],by simp only[go_sem],fun j hj=>?_⟩
   by_cases hji:j=i
   ·subst hji;rw[hlow,hcs];exact h2
   ·exact hp j (by omega)
 ·have hi:i=l.length:=by
   have:¬ i < l.length:=by simpa using hc
   omega
  subst hi
  have h3:leavesL l cs=true:=by
   simp only[leavesL,decide_eq_true_eq];exact hp
  (repeat (with_reducible (first|refine U_nil ?_|refine UC_sq ?_|refine UC_rg ?_|refine UC_ex ?_|refine UC_rt ?_|refine X_nx ?_|refine X_ex ?_|refine B_self ?_|((first|refine U_q (v:=?_) ?h1 ?_|refine E_1 (v:=?_) ?h1 ?_);case h1=>((try simp only[go_sem])<;>rfl)))))
  rw[h3];exact fz_of (by simp) rfl
def entI (p:Nat) (i:Nat):Cf:=mkCf p fun j=>if j < i then 1 else 0
theorem entI_set (p i:Nat) (h:i < 4):(entI p i).setC i 1=entI p (i+1):=by
 refine cf_ext rfl fun j hj=>?_
 rw[setC_c _ _ _ _ hj,entI,entI,mkCf_c _ _ hj,mkCf_c _ _ hj]
 split
 ·rename_i h;subst h;rw[if_pos (by omega)]
 ·rename_i h
  by_cases h2:j < i
  ·rw[if_pos h2,if_pos (by omega)]
  ·rw[if_neg h2,if_neg (by omega)]
theorem entI_spl (p n:Nat) (kept:List Int) (h:kept.length≤4):splice 1 ((kept.map i1).take 4).flatten (cfC (entI p n))=cfC (mkCf p (entN n kept)):=by
 match kept,h with
 | [],_=>rfl
 | [a],_=>rfl
 | [a,b],_=>rfl
 | [a,b,c],_=>rfl
 | [a,b,c,d],_=>rfl
theorem enter_pu {A:Au} (hW:WF A) {p:Nat} (hp:p < A.around.length) {kept:List Int} (hk:kept.length≤4):Pu F 37 [.ag (auC A),.i .i64 p,.sl (kept.map i1)] (.ag (cfC (enterF A p kept))):=by
 refine U_pure e37 rfl rfl (by simp only[go_sem,Bool.and_true]) ?_
 dsimp only[fn37,c37]
 have hra:=ar_at hp
 have hpp:(0:Int)≤(p:Int):=by omega
 have h4:=ar_4 hW hp
 unfold enterF
 generalize arAt A p=l at hra h4
 (repeat (with_reducible (first|refine U_nil ?_|refine UC_sq ?_|refine UC_rg ?_|refine UC_bk ?_|refine X_nx ?_|((first|refine U_q (v:=?_) ?h1 ?_|refine U_ld (v:=?_) ?h1 ?_|refine U_alc (n:=?_) ?h1 ?_);case h1=>((try simp only[hra,hpp,Int.toNat_natCast,List.length_map,go_sem])<;>rfl))|(refine U_box (cs:=?_) (cs':=?_) (n:=?_) ?h1 ?h2 ?h3 ?h4 ?_;case h1|h2|h3|h4=>((try simp only[hra,hpp,Int.toNat_natCast,List.length_map,go_sem])<;>rfl))|(refine U_sto (id:=?_) (i:=?_) (j:=?_) (q:=?_) (es:=?_) (cs:=?_) (vs:=?_) (es':=?_) ?h1 ?h2 ?h3 ?h4 ?h5 ?h6 ?h7 ?_;case h1|h2|h3|h4|h5|h6|h7=>((try simp only[hra,hpp,Int.toNat_natCast,List.length_map,go_sem])<;>rfl)))))
 refine UC_cutx (fun e o=>e 2=.sl (kept.map i1)∧e 6=.pt 6 0 0∧e 7=.pt 7 0 0∧o 6=some (.row 5 [cfC noC])∧o 7=some (.row 5 [cfC (entI p l.length)])) ?_ ?_
 ·refine U_lp (fun r e o=>∃ i:Nat,i+r=l.length∧e 2=.sl (kept.map i1)∧e 6=.pt 6 0 0∧e 7=.pt 7 0 0∧e 17=.i .i64 l.length∧e 18=.i .i64 i∧o 6=some (.row 5 [cfC noC])∧o 7=some (.row 5 [cfC (entI p i)])) (k:=l.length) ?_ (Call_le F) ?_
  ·exact⟨0,by omega,by simp only[go_sem],by simp only[go_sem],by simp only[go_sem],by simp only[List.length_map,go_sem],by (simp only[go_sem]<;>rfl),by (simp only[go_sem]<;>rfl),by (simp only[go_sem]<;>rfl)⟩
  rintro r e o ⟨i,hir,r2,r6,r7,r17,r18,o6,o7⟩
  dsimp only[b37_0]
  (repeat (with_reducible (first|refine U_nil ?_|refine UC_sq ?_|refine UC_rg ?_|refine X_nx ?_|(refine U_q (v:=?_) ?h1 ?_;case h1=>((try simp only[r17,r18,go_sem])<;>rfl)))))
  refine UC_cdb (q:=decide ((i:Int) < (l.length:Int))) (by simp only[go_sem]) (fun hc=>?_) (fun hc=>?_)
  ·have hi:i < l.length:=by simpa using hc
   have hi4:i < 4:=by omega
   have hip:(0:Int)≤(i:Int):=by omega
   have hi4':((i:Int) < 4)=True:=by simp;omega
   have hspl:=cf_spl (entI p i) 1 hi4
   rw[entI_set p i hi4] at hspl
   have hle:1+i+1≤5:=by omega
   have hw:=wrap1 (i:=i) (by omega)
   (repeat (with_reducible (first|refine U_nil ?_|refine UC_sq ?_|refine UC_rg ?_|refine UC_bk ?_|refine UC_sk ?_|refine X_nx ?_|refine B_nx ?_|(refine U_q (v:=?_) ?h1 ?_;case h1=>((try simp only[r7,r18,o7,hip,hi4',hspl,hle,Int.toNat_natCast,Nat.mul_one,List.set_cons_zero,hw,List.getElem?_cons_zero,go_sem])<;>rfl))|(refine U_sto (id:=?_) (i:=?_) (j:=?_) (q:=?_) (es:=?_) (cs:=?_) (vs:=?_) (es':=?_) ?h1 ?h2 ?h3 ?h4 ?h5 ?h6 ?h7 ?_;case h1|h2|h3|h4|h5|h6|h7=>((try simp only[r7,r18,o7,hip,hi4',hspl,hle,Int.toNat_natCast,Nat.mul_one,List.set_cons_zero,hw,List.getElem?_cons_zero,go_sem])<;>rfl)))))
   refine⟨r - 1,by omega,i+1,by omega,by simp only[r2,go_sem],by simp only[r6,go_sem],by simp only[r7,go_sem],by simp only[r17,go_sem],by simp only[go_sem],by simp only[o6,go_sem],by simp only[go_sem]⟩
  ·have hi:i=l.length:=by
    have:¬ i < l.length:=by simpa using hc
    omega
   subst hi
   (repeat (with_reducible (first|refine UC_ex ?_|refine X_ex ?_)))
   exact⟨rfl,r2,r6,r7,o6,o7⟩
 rintro e o ⟨r2,r6,r7,o6,o7⟩
 have hspl:=entI_spl p l.length kept hk
 (repeat (with_reducible (first|refine UC_sq ?_|refine UC_rg ?_|refine X_nx ?_|(refine U_q (v:=?_) ?h1 ?_;case h1=>((try simp only[r2,r6,r7,o6,o7,go_sem])<;>rfl)))))
 refine U_cpya (es':=[cfC (mkCf p (entN l.length kept))]) (ys:=kept.map i1) (by (simp only[go_sem]<;>rfl)) (by simp only[src,go_sem]) (fun c hc=>by obtain⟨x,_,rfl⟩:=List.mem_map.1 hc;rfl) (by (simp only[o7,go_sem]<;>rfl)) rfl (by simp only[go_sem]) rfl (by simp only[List.set_cons_zero,hspl]) ?_
 (repeat (with_reducible (first|refine U_nil ?_|refine UC_sq ?_|refine UC_rg ?_|refine UC_rt ?_|refine X_nx ?_|((first|refine U_ld (v:=?_) ?h1 ?_|refine E_1 (v:=?_) ?h1 ?_);case h1=>((try simp only[r6,r7,o6,go_sem])<;>rfl))|(refine U_sto (id:=?_) (i:=?_) (j:=?_) (q:=?_) (es:=?_) (cs:=?_) (vs:=?_) (es':=?_) ?h1 ?h2 ?h3 ?h4 ?h5 ?h6 ?h7 ?_;case h1|h2|h3|h4|h5|h6|h7=>((try simp only[r6,r7,o6,go_sem])<;>rfl)))))
 exact fz_of (by simp) rfl
theorem okAt_lt {l:List (Int × Int)} {x:Cf} {i:Nat} (h:i < l.length):okAt l x i=(decide (1≤x.c i)&&decide (x.c i≤topS l[i])):=by simp [okAt,List.getElem?_eq_getElem h]
theorem okAt_ge {l:List (Int × Int)} {x:Cf} {i:Nat} (h:¬ i < l.length):okAt l x i=(x.c i==0):=by simp [okAt,List.getElem?_eq_none (Nat.le_of_not_lt h)]
end Go.Proofs.YtgiedknghbpdfaaGreat
