import Derived.Test.YtgiedknghbpdfaaGreatC10

/-
  ConfigMoves answers true.
-/
namespace Go.Proofs.YtgiedknghbpdfaaGreat
set_option linter.all false
attribute [-go_sem] swpOb renOb rfOb V.cells
theorem okf_m1:okf FZ (.ag [V.i .i64 1,.i .i64 0,.bo false])=true:=rfl
theorem okf_m0:okf FZ (.ag [V.i .i64 0,.i .i64 0,.bo false])=true:=rfl
set_option maxHeartbeats 2000000 in
theorem moves_law (n:Nd) (hs:small n) (c:Cf) (as':Bool):Pu F 6 [.ag (cel n),.ag (cfC c),.bo as'] (.bo true):=by
 have haw:=cawake_pu
 obtain ⟨A,ok,hA,hok⟩:=auto_pu n hs
 refine U_pure e6 rfl rfl (by simp only [go_sem,Bool.and_true]) ?_
 dsimp only [fn6,c6]
 (repeat (with_reducible (first | refine U_nil ?_ | refine UC_sq ?_ | refine UC_rg ?_ | refine X_nx ?_ | (refine U_q (v:=?_) ?h1 ?_;case h1=>((try simp only [List.take_succ_cons,List.take_zero,List.drop_succ_cons,List.drop_zero,go_sem])<;>rfl)) | (refine U_box (cs:=?_) (cs':=?_) (n:=?_) ?h1 ?h2 ?h3 ?h4 ?_;case h1 | h2 | h3 | h4=>((try simp only [List.take_succ_cons,List.take_zero,List.drop_succ_cons,List.drop_zero,go_sem])<;>rfl)))))
 (refine U_pcr (r:=.bo true) haw ?h1 ?h2 rfl ?_;(case h1=>((try simp only [List.take_succ_cons,List.take_zero,List.drop_succ_cons,List.drop_zero,go_sem])<;>rfl));(case h2=>simp only [List.all_cons,List.all_nil,Bool.and_true,go_sem]))
 (repeat (with_reducible (first | refine U_nil ?_ | refine UC_sq ?_ | refine UC_rg ?_ | refine UC_sk ?_ | refine X_nx ?_ | ((first | refine U_q (v:=?_) ?h1 ?_ | refine U_ld (v:=?_) ?h1 ?_);case h1=>((try simp only [List.take_succ_cons,List.take_zero,List.drop_succ_cons,List.drop_zero,go_sem])<;>rfl)) | (refine UC_cdf ?h1 ?_;case h1=>((try simp only [List.take_succ_cons,List.take_zero,List.drop_succ_cons,List.drop_zero,go_sem])<;>rfl)))))
 refine U_pc (vs:=[.ag (cel n)]) (ws:=[.ag (cel n)]) (by simp only [go_sem]) (fzs_cel n _) (Bool.or_eq_true_iff.2 (.inl (clos_cel n))) (by simp only [Bool.and_true,go_sem]) hA ?_
 cases ok with
 | false =>
  (repeat (with_reducible (first | refine U_nil ?_ | refine UC_sq ?_ | refine UC_rg ?_ | refine UC_rt ?_ | refine X_nx ?_ | refine X_rt ?_ | ((first | refine U_q (v:=?_) ?h1 ?_ | refine E_1 (v:=?_) ?h1 ?_ | refine U_alc (n:=?_) ?h1 ?_);case h1=>((try simp only [List.take_succ_cons,List.take_zero,List.drop_succ_cons,List.drop_zero,go_sem])<;>rfl)) | (refine U_sto (id:=?_) (i:=?_) (j:=?_) (q:=?_) (es:=?_) (cs:=?_) (vs:=?_) (es':=?_) ?h1 ?h2 ?h3 ?h4 ?h5 ?h6 ?h7 ?_;case h1 | h2 | h3 | h4 | h5 | h6 | h7=>((try simp only [List.take_succ_cons,List.take_zero,List.drop_succ_cons,List.drop_zero,go_sem])<;>rfl)) | (refine UC_cdt ?h1 ?_;case h1=>((try simp only [List.take_succ_cons,List.take_zero,List.drop_succ_cons,List.drop_zero,go_sem])<;>rfl)))))
  rfl
 | true =>
  obtain ⟨_,_,hW,hL,_⟩:=hok rfl
  have hn:=near_pu hW c as'
  generalize nearC A c as'=x at hn
  have h1:=rright_pu hW x
  (repeat (with_reducible (first | refine U_nil ?_ | refine UC_sq ?_ | refine UC_rg ?_ | refine UC_sk ?_ | refine X_nx ?_ | ((first | refine U_q (v:=?_) ?h1 ?_ | refine U_ld (v:=?_) ?h1 ?_ | refine U_alc (n:=?_) ?h1 ?_);case h1=>((try simp only [List.take_succ_cons,List.take_zero,List.drop_succ_cons,List.drop_zero,go_sem])<;>rfl)) | (refine U_sto (id:=?_) (i:=?_) (j:=?_) (q:=?_) (es:=?_) (cs:=?_) (vs:=?_) (es':=?_) ?h1 ?h2 ?h3 ?h4 ?h5 ?h6 ?h7 ?_;case h1 | h2 | h3 | h4 | h5 | h6 | h7=>((try simp only [List.take_succ_cons,List.take_zero,List.drop_succ_cons,List.drop_zero,go_sem])<;>rfl)) | (refine UC_cdf ?h1 ?_;case h1=>((try simp only [List.take_succ_cons,List.take_zero,List.drop_succ_cons,List.drop_zero,go_sem])<;>rfl)))))
  (refine U_pcr (r:=.ag (cfC x)) hn ?h1 ?h2 rfl ?_;(case h1=>((try simp only [List.take_succ_cons,List.take_zero,List.drop_succ_cons,List.drop_zero,go_sem])<;>rfl));(case h2=>simp only [List.all_cons,List.all_nil,Bool.and_true,go_sem]))
  (repeat (with_reducible (first | refine U_nil ?_ | refine UC_sq ?_ | refine UC_rg ?_ | refine X_nx ?_ | (refine U_ld (v:=?_) ?h1 ?_;case h1=>((try simp only [List.take_succ_cons,List.take_zero,List.drop_succ_cons,List.drop_zero,go_sem])<;>rfl)) | (refine U_sto (id:=?_) (i:=?_) (j:=?_) (q:=?_) (es:=?_) (cs:=?_) (vs:=?_) (es':=?_) ?h1 ?h2 ?h3 ?h4 ?h5 ?h6 ?h7 ?_;case h1 | h2 | h3 | h4 | h5 | h6 | h7=>((try simp only [List.take_succ_cons,List.take_zero,List.drop_succ_cons,List.drop_zero,go_sem])<;>rfl)))))
  (refine U_pcr (r:=.bo (rightB A x)) h1 ?h1 ?h2 rfl ?_;(case h1=>((try simp only [List.take_succ_cons,List.take_zero,List.drop_succ_cons,List.drop_zero,go_sem])<;>rfl));(case h2=>simp only [List.all_cons,List.all_nil,Bool.and_true,go_sem]))
  cases hr:rightB A x with
  | false =>
   have h2:=cmay_pu hW hL x ⟨1,0,false⟩
   have h3:mayR A x ⟨1,0,false⟩=none:=by simp [mayR,hr]
   rw [h3] at h2
   have h4:=step_no hW hr 97
   have h2':Pu F 22 [.ag (auC A),.ag (cfC x),.ag [.i .i64 1,.i .i64 0,.bo false]] (.tp [.ag (cfC noC),.bo false]):=h2
   (repeat (with_reducible (first | refine U_nil ?_ | refine UC_sq ?_ | refine UC_rg ?_ | refine X_nx ?_ | ((first | refine U_q (v:=?_) ?h1 ?_ | refine U_ld (v:=?_) ?h1 ?_);case h1=>((try simp only [List.take_succ_cons,List.take_zero,List.drop_succ_cons,List.drop_zero,go_sem])<;>rfl)) | (refine UC_cdt ?h1 ?_;case h1=>((try simp only [List.take_succ_cons,List.take_zero,List.drop_succ_cons,List.drop_zero,go_sem])<;>rfl)))))
   (refine U_pcr (r:=.tp [.ag (cfC noC),.bo false]) h2' ?h1 ?h2 rfl ?_;(case h1=>((try simp only [List.take_succ_cons,List.take_zero,List.drop_succ_cons,List.drop_zero,okf_m0,okf_m1,go_sem])<;>rfl));(case h2=>simp only [okf_m0,okf_m1,List.all_cons,List.all_nil,Bool.and_true,go_sem]))
   (repeat (with_reducible (first | refine U_nil ?_ | refine UC_sq ?_ | refine UC_rg ?_ | refine X_nx ?_ | ((first | refine U_q (v:=?_) ?h1 ?_ | refine U_ld (v:=?_) ?h1 ?_ | refine U_alc (n:=?_) ?h1 ?_);case h1=>((try simp only [List.take_succ_cons,List.take_zero,List.drop_succ_cons,List.drop_zero,go_sem])<;>rfl)) | (refine U_sto (id:=?_) (i:=?_) (j:=?_) (q:=?_) (es:=?_) (cs:=?_) (vs:=?_) (es':=?_) ?h1 ?h2 ?h3 ?h4 ?h5 ?h6 ?h7 ?_;case h1 | h2 | h3 | h4 | h5 | h6 | h7=>((try simp only [List.take_succ_cons,List.take_zero,List.drop_succ_cons,List.drop_zero,go_sem])<;>rfl)) | (refine U_gt ?h1 ?_;case h1=>((try simp only [List.take_succ_cons,List.take_zero,List.drop_succ_cons,List.drop_zero,go_sem])<;>rfl)))))
   (refine U_pc (g:=20) (r:=.sl []) (vs:=?_) (ws:=?_) ?h1 ?h2 ?h3 ?h4 ?h5 ?_;(case h1=>((try simp only [List.take_succ_cons,List.take_zero,List.drop_succ_cons,List.drop_zero,go_sem])<;>rfl));(case h2=>refine fzsU_ok ?_;first | rfl | simp only [List.all_cons,List.all_nil,Bool.and_true,go_sem]);(case h5=>exact h4);(case h3=>first | exact Bool.or_eq_true_iff.2 (.inr rfl) | (refine Bool.or_eq_true_iff.2 (.inl ?_);simp only [clos,List.all_cons,List.all_nil,Bool.and_true,go_sem]));(case h4=>first | rfl | simp only [go_sem,Bool.and_true]))
   (repeat (with_reducible (first | refine U_nil ?_ | refine UC_rt ?_ | refine X_nx ?_ | refine X_rt ?_ | ((first | refine U_q (v:=?_) ?h1 ?_ | refine E_1 (v:=?_) ?h1 ?_);case h1=>((try simp only [List.take_succ_cons,List.take_zero,List.drop_succ_cons,List.drop_zero,go_sem])<;>rfl)) | (refine U_gt ?h1 ?_;case h1=>((try simp only [List.take_succ_cons,List.take_zero,List.drop_succ_cons,List.drop_zero,go_sem])<;>rfl)))))
   rfl
  | true =>
   obtain ⟨r1,r2,_⟩:=rightB_iff.1 hr
   obtain ⟨p,hp⟩:∃ p:Nat,x.p=p:=⟨x.p.toNat,by omega⟩
   have hpt:x.p.toNat=p:=by omega
   have hpp:(0:Int)≤(p:Int):=by omega
   have hpl:p < A.moves.length:=by rw [hW.lm,← hW.la];omega
   have hmo:=mo_at hpl
   have hml:=hL _ (List.mem_of_getElem? (mo_get hpl))
   (repeat (with_reducible (first | refine U_nil ?_ | refine UC_sq ?_ | refine UC_rg ?_ | refine UC_bk ?_ | refine UC_sk ?_ | refine X_nx ?_ | (refine U_q (v:=?_) ?h1 ?_;case h1=>((try simp only [List.take_succ_cons,List.take_zero,List.drop_succ_cons,List.drop_zero,go_sem])<;>rfl)) | (refine UC_cdf ?h1 ?_;case h1=>((try simp only [List.take_succ_cons,List.take_zero,List.drop_succ_cons,List.drop_zero,go_sem])<;>rfl)))))
   refine U_lp (fun r e o=>∃ i:Nat,i+r=(mvAt A p).length∧e 4=.pt 4 0 0∧e 7=.pt 7 0 0∧e 11=.i .i64 i∧o 4=some (.row 5 [cfC x])∧o 7=some (.row 15 [auC A])) (k:=(mvAt A p).length) ?_ (Call_le F) ?_
   ·exact ⟨0,by omega,by simp only [go_sem],by simp only [go_sem],by (simp only [go_sem]<;>rfl),by simp only [go_sem],by simp only [go_sem]⟩
   rintro r e o ⟨i,hir,r4,r7,r11,o4,o7⟩
   dsimp only [b6_0]
   (repeat (with_reducible (first | refine U_nil ?_ | refine UC_sq ?_ | refine UC_rg ?_ | refine X_nx ?_ | ((first | refine U_q (v:=?_) ?h1 ?_ | refine U_ld (v:=?_) ?h1 ?_);case h1=>((try simp only [hp,r4,r7,r11,o4,o7,hmo,hpp,Int.toNat_natCast,List.length_map,List.take_succ_cons,List.take_zero,List.drop_succ_cons,List.drop_zero,go_sem])<;>rfl)))))
   refine UC_cdb (q:=decide ((i:Int) < ((mvAt A p).length:Int))) (by simp only [go_sem]) (fun hc=>?_) (fun hc=>?_)
   ·have hi:i < (mvAt A p).length:=by simpa using hc
    have hip:(0:Int)≤(i:Int):=by omega
    have hx:=mvs_at hi
    have hw:=wrap1 (i:=i) (by omega)
    have hmem:(mvAt A p)[i]∈mvAt A p:=List.getElem_mem hi
    generalize (mvAt A p)[i]=m at hx hmem
    have hmk:=mvOk hW (mo_get (p:=x.p.toNat) (by rw [hpt];exact hpl)) (by rw [hpt];exact hmem)
    have h2:=cmay_pu hW hL x m
    rw [mayR,if_pos ⟨hr,by rw [hpt];exact hmem⟩] at h2
    have h3:=rmay_pu hW hr hmk
    cases hv:mayF A x m with
    | none =>
     rw [hv] at h2 h3
     (repeat (with_reducible (first | refine UC_sq ?_ | refine UC_rg ?_ | refine UC_bk ?_ | refine UC_sk ?_ | refine X_nx ?_ | ((first | refine U_q (v:=?_) ?h1 ?_ | refine U_ld (v:=?_) ?h1 ?_);case h1=>((try simp only [hp,r4,r7,r11,o4,o7,hmo,hpp,hip,hx,Int.toNat_natCast,List.take_succ_cons,List.take_zero,List.drop_succ_cons,List.drop_zero,go_sem])<;>rfl)))))
     (refine U_pcr (r:=.tp [.ag (cfC noC),.bo false]) h2 ?h1 ?h2 rfl ?_;(case h1=>((try simp only [List.take_succ_cons,List.take_zero,List.drop_succ_cons,List.drop_zero,mayV,go_sem])<;>rfl));(case h2=>simp only [mayV,List.all_cons,List.all_nil,Bool.and_true,go_sem]))
     (repeat (with_reducible (first | refine U_nil ?_ | refine UC_sq ?_ | refine UC_rg ?_ | refine X_nx ?_ | ((first | refine U_q (v:=?_) ?h1 ?_ | refine U_ld (v:=?_) ?h1 ?_ | refine U_alc (n:=?_) ?h1 ?_);case h1=>((try simp only [hp,r4,r7,r11,o4,o7,hmo,hpp,hip,hx,Int.toNat_natCast,List.take_succ_cons,List.take_zero,List.drop_succ_cons,List.drop_zero,go_sem])<;>rfl)) | (refine U_sto (id:=?_) (i:=?_) (j:=?_) (q:=?_) (es:=?_) (cs:=?_) (vs:=?_) (es':=?_) ?h1 ?h2 ?h3 ?h4 ?h5 ?h6 ?h7 ?_;case h1 | h2 | h3 | h4 | h5 | h6 | h7=>((try simp only [hp,r4,r7,r11,o4,o7,hmo,hpp,hip,hx,Int.toNat_natCast,List.take_succ_cons,List.take_zero,List.drop_succ_cons,List.drop_zero,go_sem])<;>rfl)))))
     (refine U_pcr (r:=.tp [.ag (cfC noC),.bo false]) h3 ?h1 ?h2 rfl ?_;(case h1=>((try simp only [List.take_succ_cons,List.take_zero,List.drop_succ_cons,List.drop_zero,mayV,go_sem])<;>rfl));(case h2=>simp only [mayV,List.all_cons,List.all_nil,Bool.and_true,go_sem]))
     (repeat (with_reducible (first | refine U_nil ?_ | refine UC_sq ?_ | refine UC_rg ?_ | refine UC_sk ?_ | refine X_nx ?_ | refine B_nx ?_ | ((first | refine U_q (v:=?_) ?h1 ?_ | refine U_ld (v:=?_) ?h1 ?_ | refine U_alc (n:=?_) ?h1 ?_);case h1=>((try simp only [r11,hw,decide_true,Bool.not_true,beq_self_eq_true,List.take_succ_cons,List.take_zero,List.drop_succ_cons,List.drop_zero,go_sem])<;>rfl)) | (refine U_sto (id:=?_) (i:=?_) (j:=?_) (q:=?_) (es:=?_) (cs:=?_) (vs:=?_) (es':=?_) ?h1 ?h2 ?h3 ?h4 ?h5 ?h6 ?h7 ?_;case h1 | h2 | h3 | h4 | h5 | h6 | h7=>((try simp only [r11,hw,decide_true,Bool.not_true,beq_self_eq_true,List.take_succ_cons,List.take_zero,List.drop_succ_cons,List.drop_zero,go_sem])<;>rfl)) | (refine U_gt ?h1 ?_;case h1=>((try simp only [r11,hw,decide_true,Bool.not_true,beq_self_eq_true,List.take_succ_cons,List.take_zero,List.drop_succ_cons,List.drop_zero,go_sem])<;>rfl)) | (refine U_gs2 ?h1 ?_;case h1=>((try simp only [r11,hw,decide_true,Bool.not_true,beq_self_eq_true,List.take_succ_cons,List.take_zero,List.drop_succ_cons,List.drop_zero,go_sem])<;>rfl)) | (refine UC_cdf ?h1 ?_;case h1=>((try simp only [r11,hw,decide_true,Bool.not_true,beq_self_eq_true,List.take_succ_cons,List.take_zero,List.drop_succ_cons,List.drop_zero,go_sem])<;>rfl)) | rw [put_some])))
     exact ⟨r - 1,by omega,i+1,by omega,by simp only [r4,go_sem],by simp only [r7,go_sem],by simp only [go_sem],by simp only [o4,go_sem],by simp only [o7,go_sem]⟩
    | some y =>
     rw [hv] at h2 h3
     have h4:=right_pu hW y
     rw [(may_right hW hr hmk hv).1] at h4
     (repeat (with_reducible (first | refine UC_sq ?_ | refine UC_rg ?_ | refine UC_bk ?_ | refine UC_sk ?_ | refine X_nx ?_ | ((first | refine U_q (v:=?_) ?h1 ?_ | refine U_ld (v:=?_) ?h1 ?_);case h1=>((try simp only [hp,r4,r7,r11,o4,o7,hmo,hpp,hip,hx,Int.toNat_natCast,List.take_succ_cons,List.take_zero,List.drop_succ_cons,List.drop_zero,go_sem])<;>rfl)))))
     (refine U_pcr (r:=.tp [.ag (cfC y),.bo true]) h2 ?h1 ?h2 rfl ?_;(case h1=>((try simp only [List.take_succ_cons,List.take_zero,List.drop_succ_cons,List.drop_zero,mayV,go_sem])<;>rfl));(case h2=>simp only [mayV,List.all_cons,List.all_nil,Bool.and_true,go_sem]))
     (repeat (with_reducible (first | refine U_nil ?_ | refine UC_sq ?_ | refine UC_rg ?_ | refine X_nx ?_ | ((first | refine U_q (v:=?_) ?h1 ?_ | refine U_ld (v:=?_) ?h1 ?_ | refine U_alc (n:=?_) ?h1 ?_);case h1=>((try simp only [hp,r4,r7,r11,o4,o7,hmo,hpp,hip,hx,Int.toNat_natCast,List.take_succ_cons,List.take_zero,List.drop_succ_cons,List.drop_zero,go_sem])<;>rfl)) | (refine U_sto (id:=?_) (i:=?_) (j:=?_) (q:=?_) (es:=?_) (cs:=?_) (vs:=?_) (es':=?_) ?h1 ?h2 ?h3 ?h4 ?h5 ?h6 ?h7 ?_;case h1 | h2 | h3 | h4 | h5 | h6 | h7=>((try simp only [hp,r4,r7,r11,o4,o7,hmo,hpp,hip,hx,Int.toNat_natCast,List.take_succ_cons,List.take_zero,List.drop_succ_cons,List.drop_zero,go_sem])<;>rfl)))))
     (refine U_pcr (r:=.tp [.ag (cfC y),.bo true]) h3 ?h1 ?h2 rfl ?_;(case h1=>((try simp only [List.take_succ_cons,List.take_zero,List.drop_succ_cons,List.drop_zero,mayV,go_sem])<;>rfl));(case h2=>simp only [mayV,List.all_cons,List.all_nil,Bool.and_true,go_sem]))
     (repeat (with_reducible (first | refine U_nil ?_ | refine UC_sq ?_ | refine UC_rg ?_ | refine X_nx ?_ | ((first | refine U_q (v:=?_) ?h1 ?_ | refine U_ld (v:=?_) ?h1 ?_ | refine U_alc (n:=?_) ?h1 ?_);case h1=>((try simp only [r7,o7,decide_true,Bool.not_true,beq_self_eq_true,List.take_succ_cons,List.take_zero,List.drop_succ_cons,List.drop_zero,go_sem])<;>rfl)) | (refine U_sto (id:=?_) (i:=?_) (j:=?_) (q:=?_) (es:=?_) (cs:=?_) (vs:=?_) (es':=?_) ?h1 ?h2 ?h3 ?h4 ?h5 ?h6 ?h7 ?_;case h1 | h2 | h3 | h4 | h5 | h6 | h7=>((try simp only [r7,o7,decide_true,Bool.not_true,beq_self_eq_true,List.take_succ_cons,List.take_zero,List.drop_succ_cons,List.drop_zero,go_sem])<;>rfl)) | (refine U_gt ?h1 ?_;case h1=>((try simp only [r7,o7,decide_true,Bool.not_true,beq_self_eq_true,List.take_succ_cons,List.take_zero,List.drop_succ_cons,List.drop_zero,go_sem])<;>rfl)))))
     (refine U_pcr (r:=.bo true) h4 ?h1 ?h2 rfl ?_;(case h1=>((try simp only [List.take_succ_cons,List.take_zero,List.drop_succ_cons,List.drop_zero,go_sem])<;>rfl));(case h2=>simp only [List.all_cons,List.all_nil,Bool.and_true,go_sem]))
     (repeat (with_reducible (first | refine U_nil ?_ | refine UC_rg ?_ | refine UC_sk ?_ | refine X_nx ?_ | refine B_nx ?_ | (refine U_q (v:=?_) ?h1 ?_;case h1=>((try simp only [r11,hw,decide_true,Bool.not_true,beq_self_eq_true,List.take_succ_cons,List.take_zero,List.drop_succ_cons,List.drop_zero,go_sem])<;>rfl)) | (refine U_gt ?h1 ?_;case h1=>((try simp only [r11,hw,decide_true,Bool.not_true,beq_self_eq_true,List.take_succ_cons,List.take_zero,List.drop_succ_cons,List.drop_zero,go_sem])<;>rfl)) | (refine UC_cdf ?h1 ?_;case h1=>((try simp only [r11,hw,decide_true,Bool.not_true,beq_self_eq_true,List.take_succ_cons,List.take_zero,List.drop_succ_cons,List.drop_zero,go_sem])<;>rfl)))))
     exact ⟨r - 1,by omega,i+1,by omega,by simp only [r4,go_sem],by simp only [r7,go_sem],by simp only [go_sem],by simp only [o4,go_sem],by simp only [o7,go_sem]⟩
   ·have h2:=cmay_pu hW hL x ⟨0,0,false⟩
    have h3:mayR A x ⟨0,0,false⟩=none:=by
     rw [mayR,if_neg]
     rintro ⟨_,hm⟩
     have:=(mvOk hW (mo_get (p:=x.p.toNat) (by rw [hpt];exact hpl)) hm).to1
     simp at this
    rw [h3] at h2
    (repeat (with_reducible (first | refine UC_sq ?_ | refine UC_rg ?_ | refine UC_ex ?_ | refine X_nx ?_ | refine X_ex ?_ | refine B_self ?_ | ((first | refine U_q (v:=?_) ?h1 ?_ | refine U_ld (v:=?_) ?h1 ?_);case h1=>((try simp only [r4,r7,o4,o7,List.take_succ_cons,List.take_zero,List.drop_succ_cons,List.drop_zero,go_sem])<;>rfl)))))
    have h2':Pu F 22 [.ag (auC A),.ag (cfC x),.ag [.i .i64 0,.i .i64 0,.bo false]] (.tp [.ag (cfC noC),.bo false]):=h2
    (refine U_pcr (r:=.tp [.ag (cfC noC),.bo false]) h2' ?h1 ?h2 rfl ?_;(case h1=>((try simp only [List.take_succ_cons,List.take_zero,List.drop_succ_cons,List.drop_zero,okf_m0,okf_m1,go_sem])<;>rfl));(case h2=>simp only [okf_m0,okf_m1,List.all_cons,List.all_nil,Bool.and_true,go_sem]))
    (repeat (with_reducible (first | refine U_nil ?_ | refine UC_sq ?_ | refine UC_rg ?_ | refine UC_rt ?_ | refine X_nx ?_ | ((first | refine U_q (v:=?_) ?h1 ?_ | refine U_ld (v:=?_) ?h1 ?_ | refine E_1 (v:=?_) ?h1 ?_ | refine U_alc (n:=?_) ?h1 ?_);case h1=>((try simp only [List.take_succ_cons,List.take_zero,List.drop_succ_cons,List.drop_zero,go_sem])<;>rfl)) | (refine U_sto (id:=?_) (i:=?_) (j:=?_) (q:=?_) (es:=?_) (cs:=?_) (vs:=?_) (es':=?_) ?h1 ?h2 ?h3 ?h4 ?h5 ?h6 ?h7 ?_;case h1 | h2 | h3 | h4 | h5 | h6 | h7=>((try simp only [List.take_succ_cons,List.take_zero,List.drop_succ_cons,List.drop_zero,go_sem])<;>rfl)) | (refine U_gt ?h1 ?_;case h1=>((try simp only [List.take_succ_cons,List.take_zero,List.drop_succ_cons,List.drop_zero,go_sem])<;>rfl)))))
    rfl
end Go.Proofs.YtgiedknghbpdfaaGreat
