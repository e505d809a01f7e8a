import Derived.Test.YtcnmcbkmfmcdjaaM20

/-
  MovesPlain answers true.
-/
namespace Go.Proofs.Ytcnmcbkmfmcdjaa
set_option linter.all false
attribute [-go_sem] swpOb renOb rfOb V.cells

theorem ml_cld (l : List (List Mv)) : cldLL (l.map mlC) = true := cldLL_map (fun x => by
  rw [mlC, cldL, cld, cldLL_map (fun _ => rfl)]; rfl) l
theorem bo_cld (l : List Bool) : cldLL (l.map boC) = true := cldLL_map (fun _ => rfl) l

theorem ltimes_pu : ∀ (n : Nd), small n → Pu F 18 [.ag (cel n)] (.bo (timesB n))
  | .mk k s ps lo hi, hs => by
    have ih : ∀ p ∈ ps, Pu F 18 [.ag (cel p)] (.bo (timesB p)) := fun p hp => ltimes_pu p ((smallL_all ps).1 hs.2.2 p hp)
    have hlen := hs.2.1
    have hb : timesB (.mk k s ps lo hi) = (ps.any timesB || k == 4) := by rw [timesB, timesL_any]
    rw [hb, cel_mk]
    simp only [nd8]
    refine U_pure e18 rfl rfl (by simp only [go_sem, Bool.and_true]) ?_
    dsimp only [fn18, c18]
    (repeat (with_reducible (first | refine U_nil ?_ | refine UC_sq ?_ | refine UC_rg ?_ | refine UC_bk ?_ | refine X_nx ?_ | (refine U_q (v := ?_) ?h1 ?_; case h1 => ((try simp only [go_sem]) <;> rfl)) | (refine U_box (cs := ?_) (cs' := ?_) (n := ?_) ?h1 ?h2 ?h3 ?h4 ?_; case h1 | h2 | h3 | h4 => ((try simp only [go_sem]) <;> rfl)))))
    refine U_lp (fun r e o => ∃ i : Nat, i + r = ps.length ∧ e 1 = .pt 1 0 0 ∧ e 3 = .i .i64 i ∧ o 1 = some (.row 8 [[.i .i64 k, .i .u64 (s 0), .i .u64 (s 1), .i .u64 (s 2), .i .u64 (s 3), .sl (ps.map cel), .i .i64 lo, .i .i64 hi]]) ∧ ∀ x ∈ ps.take i, timesB x = false) (k := ps.length) ?_ (Call_le F) ?_
    · exact ⟨0, by omega, by simp only [go_sem], by (simp only [go_sem] <;> rfl), by simp only [go_sem], by simp⟩
    rintro r e o ⟨i, hir, r1, r3, o1, hp⟩
    dsimp only [b18_0]
    (repeat (with_reducible (first | refine U_nil ?_ | refine UC_sq ?_ | refine UC_rg ?_ | refine X_nx ?_ | ((first | refine U_q (v := ?_) ?h1 ?_ | refine U_ld (v := ?_) ?h1 ?_); case h1 => ((try simp only [r1, r3, o1, List.length_map, go_sem]) <;> rfl)))))
    refine UC_cdb (q := decide ((i : Int) < (ps.length : Int))) (by simp only [go_sem]) (fun hc => ?_) (fun hc => ?_)
    · have hi : i < ps.length := by simpa using hc
      have hip : (0 : Int) ≤ (i : Int) := by omega
      have hxi : ps[i]? = some ps[i] := List.getElem?_eq_getElem hi
      have hw : IntKind.i64.wrap ((i : Int) + 1) = ((i + 1 : Nat) : Int) := by rw [wrap_i64 (by omega) (by omega)]; rfl
      (repeat (with_reducible (first | refine UC_sq ?_ | refine UC_rg ?_ | refine UC_bk ?_ | refine UC_sk ?_ | refine X_nx ?_ | ((first | refine U_q (v := ?_) ?h1 ?_ | refine U_ld (v := ?_) ?h1 ?_); case h1 => ((try simp only [r1, r3, o1, go_sem]) <;> rfl)))))
      refine U_q (v := .ip (cel ps[i]) 0) (by simp only [r1, r3, o1, go_sem]; rw [if_pos (by omega)]; simp [hxi, cel_len]) ?_
      refine U_ld (v := .ag (cel ps[i])) (by simp only [go_sem]; first | done | (simp [cel_len]; exact List.take_of_length_le (by rw [cel_len]; omega))) ?_
      refine U_pc (vs := [.ag (cel ps[i])]) (ws := [.ag (cel ps[i])]) (r := .bo (timesB ps[i])) (by simp only [go_sem]) (fzsU_ok (by simp only [List.all_cons, List.all_nil, Bool.and_true, go_sem])) (Bool.or_eq_true_iff.2 (.inr rfl)) rfl (ih _ (List.getElem_mem _)) ?_
      (repeat (with_reducible (first | refine U_nil ?_ | refine X_nx ?_)))
      refine UC_cdb (q := timesB ps[i]) (by simp only [go_sem]) (fun hc2 => ?_) (fun hc2 => ?_)
      · (repeat (with_reducible (first | refine U_nil ?_ | refine UC_sq ?_ | refine UC_rg ?_ | refine UC_rt ?_ | refine X_nx ?_ | refine X_rt ?_ | refine B_rt ?_ | ((first | refine U_q (v := ?_) ?h1 ?_ | refine E_1 (v := ?_) ?h1 ?_); case h1 => ((try simp only [go_sem]) <;> rfl)))))
        refine fz_of ?_ rfl
        congr 1
        have : ps.any timesB = true := List.any_eq_true.2 ⟨ps[i], List.getElem_mem _, hc2⟩
        rw [this]; rfl
      · (repeat (with_reducible (first | refine U_nil ?_ | refine UC_rg ?_ | refine UC_sk ?_ | refine X_nx ?_ | refine B_nx ?_ | (refine U_q (v := ?_) ?h1 ?_; case h1 => ((try simp only [r3, hw, go_sem]) <;> rfl)))))
        refine ⟨r - 1, by omega, i + 1, by omega, by simp only [r1, go_sem], by simp only [go_sem], o1, fun x hx => ?_⟩
        rw [List.take_add_one, List.getElem?_eq_getElem hi] at hx
        rcases List.mem_append.1 hx with hx | hx
        · exact hp x hx
        · simp at hx; rw [hx]; exact hc2
    · have hi : i = ps.length := by
        have : ¬ i < ps.length := by simpa using hc
        omega
      subst hi
      rw [List.take_length] at hp
      have : ps.any timesB = false := by
        rw [Bool.eq_false_iff]
        intro h
        obtain ⟨x, hx, hpx⟩ := List.any_eq_true.1 h
        rw [hp x hx] at hpx; cases hpx
      rw [this]
      (repeat (with_reducible (first | refine U_nil ?_ | refine UC_sq ?_ | refine UC_rg ?_ | refine UC_ex ?_ | refine UC_rt ?_ | refine X_nx ?_ | refine X_ex ?_ | refine B_self ?_ | ((first | refine U_q (v := ?_) ?h1 ?_ | refine U_ld (v := ?_) ?h1 ?_ | refine E_1 (v := ?_) ?h1 ?_); case h1 => ((try simp only [r1, o1, go_sem]) <;> rfl)))))
      exact fz_of (by simp) rfl

theorem plain_law (n : Nd) (hs : small n) : Pu F 7 [.ag (cel n)] (.bo true) := by
  have hsz : Pu F 9 [.ag (cel n), .i .i64 100] (.i .i64 (sizeF n 100)) := size_ok n hs 100 (by omega) (by omega) emp _ (fun _ => rfl)
  have haw := awake_pu
  have htm := ltimes_pu n hs
  refine U_pure e7 rfl rfl (by simp only [go_sem, Bool.and_true]) ?_
  dsimp only [fn7, c7]
  by_cases hA : sizeF n 100 > 100
  · have hA1 : decide (sizeF n 100 > 100) = true := by simpa using hA
    (repeat' (first | (with_reducible (first | refine U_nil ?_ | refine UC_sq ?_ | refine UC_rg ?_ | refine UC_rt ?_ | refine X_nx ?_ | refine X_rt ?_ | ((first | refine U_q (v := ?_) ?h1 ?_ | refine U_ld (v := ?_) ?h1 ?_ | refine E_1 (v := ?_) ?h1 ?_); case h1 => ((try simp only [hA1, List.take_succ_cons, List.take_zero, List.drop_succ_cons, List.drop_zero, go_sem]) <;> rfl)) | (refine U_box (cs := ?_) (cs' := ?_) (n := ?_) ?h1 ?h2 ?h3 ?h4 ?_; case h1 | h2 | h3 | h4 => ((try simp only [hA1, List.take_succ_cons, List.take_zero, List.drop_succ_cons, List.drop_zero, go_sem]) <;> rfl)) | (refine U_gt ?h1 ?_; case h1 => ((try simp only [hA1, List.take_succ_cons, List.take_zero, List.drop_succ_cons, List.drop_zero, go_sem]) <;> rfl)) | (refine U_gs1 ?h1 ?_; case h1 => ((try simp only [hA1, List.take_succ_cons, List.take_zero, List.drop_succ_cons, List.drop_zero, go_sem]) <;> rfl)) | (refine UC_cdt ?h1 ?_; case h1 => ((try simp only [hA1, List.take_succ_cons, List.take_zero, List.drop_succ_cons, List.drop_zero, go_sem]) <;> rfl)) | rw [put_some])) | ((with_reducible refine U_pc (g := 8) (r := .bo true) (vs := ?_) (ws := ?_) ?h1 ?h2 ?h3 ?h4 ?h5 ?_); (case h1 => ((try simp only [hA1, List.take_succ_cons, List.take_zero, List.drop_succ_cons, List.drop_zero, go_sem]) <;> rfl)); (case h2 => refine fzsU_ok ?_; first | rfl | simp only [List.all_cons, List.all_nil, Bool.and_true, go_sem]); (case h5 => exact haw); (case h3 => first | exact Bool.or_eq_true_iff.2 (.inr rfl) | (refine Bool.or_eq_true_iff.2 (.inl ?_); simp only [clos, List.all_cons, List.all_nil, Bool.and_true, go_sem])); (case h4 => first | rfl | simp only [go_sem, Bool.and_true])) | ((with_reducible refine U_pc (g := 9) (r := .i .i64 (sizeF n 100)) (vs := ?_) (ws := ?_) ?h1 ?h2 ?h3 ?h4 ?h5 ?_); (case h1 => ((try simp only [hA1, List.take_succ_cons, List.take_zero, List.drop_succ_cons, List.drop_zero, go_sem]) <;> rfl)); (case h2 => refine fzsU_ok ?_; first | rfl | simp only [List.all_cons, List.all_nil, Bool.and_true, go_sem]); (case h5 => exact hsz); (case h3 => first | exact Bool.or_eq_true_iff.2 (.inr rfl) | (refine Bool.or_eq_true_iff.2 (.inl ?_); simp only [clos, List.all_cons, List.all_nil, Bool.and_true, go_sem])); (case h4 => first | rfl | simp only [go_sem, Bool.and_true])) | with_reducible (refine U_gb (q := ?_) ?h1 (fun _ => ?_) (fun _ => ?_); case h1 => ((try simp only [hA1, List.take_succ_cons, List.take_zero, List.drop_succ_cons, List.drop_zero, go_sem]) <;> rfl)) | with_reducible (refine UC_cdb (q := ?_) ?h1 (fun _ => ?_) (fun _ => ?_); case h1 => ((try simp only [hA1, List.take_succ_cons, List.take_zero, List.drop_succ_cons, List.drop_zero, go_sem]) <;> rfl))))
    rfl
  have hA1 : decide (sizeF n 100 > 100) = false := by simpa using hA
  have hc : cntN n ≤ 900 := by
    have := sizeF_cnt n 100 (by omega) (by omega)
    omega
  obtain ⟨A, er, hM, hA2⟩ := make_pu n hs hc
  cases ht : timesB n with
  | true =>
    rw [ht] at htm
    (repeat' (first | (with_reducible (first | refine U_nil ?_ | refine UC_sq ?_ | refine UC_rg ?_ | refine UC_rt ?_ | refine X_nx ?_ | refine X_rt ?_ | ((first | refine U_q (v := ?_) ?h1 ?_ | refine U_ld (v := ?_) ?h1 ?_ | refine E_1 (v := ?_) ?h1 ?_); case h1 => ((try simp only [hA1, List.take_succ_cons, List.take_zero, List.drop_succ_cons, List.drop_zero, go_sem]) <;> rfl)) | (refine U_box (cs := ?_) (cs' := ?_) (n := ?_) ?h1 ?h2 ?h3 ?h4 ?_; case h1 | h2 | h3 | h4 => ((try simp only [hA1, List.take_succ_cons, List.take_zero, List.drop_succ_cons, List.drop_zero, go_sem]) <;> rfl)) | (refine U_gt ?h1 ?_; case h1 => ((try simp only [hA1, List.take_succ_cons, List.take_zero, List.drop_succ_cons, List.drop_zero, go_sem]) <;> rfl)) | (refine UC_cdt ?h1 ?_; case h1 => ((try simp only [hA1, List.take_succ_cons, List.take_zero, List.drop_succ_cons, List.drop_zero, go_sem]) <;> rfl)))) | ((with_reducible refine U_pc (g := 8) (r := .bo true) (vs := ?_) (ws := ?_) ?h1 ?h2 ?h3 ?h4 ?h5 ?_); (case h1 => ((try simp only [hA1, List.take_succ_cons, List.take_zero, List.drop_succ_cons, List.drop_zero, go_sem]) <;> rfl)); (case h2 => refine fzsU_ok ?_; first | rfl | simp only [List.all_cons, List.all_nil, Bool.and_true, go_sem]); (case h5 => exact haw); (case h3 => first | exact Bool.or_eq_true_iff.2 (.inr rfl) | (refine Bool.or_eq_true_iff.2 (.inl ?_); simp only [clos, List.all_cons, List.all_nil, Bool.and_true, go_sem])); (case h4 => first | rfl | simp only [go_sem, Bool.and_true])) | ((with_reducible refine U_pc (g := 9) (r := .i .i64 (sizeF n 100)) (vs := ?_) (ws := ?_) ?h1 ?h2 ?h3 ?h4 ?h5 ?_); (case h1 => ((try simp only [hA1, List.take_succ_cons, List.take_zero, List.drop_succ_cons, List.drop_zero, go_sem]) <;> rfl)); (case h2 => refine fzsU_ok ?_; first | rfl | simp only [List.all_cons, List.all_nil, Bool.and_true, go_sem]); (case h5 => exact hsz); (case h3 => first | exact Bool.or_eq_true_iff.2 (.inr rfl) | (refine Bool.or_eq_true_iff.2 (.inl ?_); simp only [clos, List.all_cons, List.all_nil, Bool.and_true, go_sem])); (case h4 => first | rfl | simp only [go_sem, Bool.and_true])) | ((with_reducible refine U_pc (g := 18) (r := .bo true) (vs := ?_) (ws := ?_) ?h1 ?h2 ?h3 ?h4 ?h5 ?_); (case h1 => ((try simp only [hA1, List.take_succ_cons, List.take_zero, List.drop_succ_cons, List.drop_zero, go_sem]) <;> rfl)); (case h2 => refine fzsU_ok ?_; first | rfl | simp only [List.all_cons, List.all_nil, Bool.and_true, go_sem]); (case h5 => exact htm); (case h3 => first | exact Bool.or_eq_true_iff.2 (.inr rfl) | (refine Bool.or_eq_true_iff.2 (.inl ?_); simp only [clos, List.all_cons, List.all_nil, Bool.and_true, go_sem])); (case h4 => first | rfl | simp only [go_sem, Bool.and_true])) | with_reducible (refine U_gb (q := ?_) ?h1 (fun _ => ?_) (fun _ => ?_); case h1 => ((try simp only [hA1, List.take_succ_cons, List.take_zero, List.drop_succ_cons, List.drop_zero, go_sem]) <;> rfl)) | with_reducible (refine UC_cdb (q := ?_) ?h1 (fun _ => ?_) (fun _ => ?_); case h1 => ((try simp only [hA1, List.take_succ_cons, List.take_zero, List.drop_succ_cons, List.drop_zero, go_sem]) <;> rfl))))
    rfl
  | false =>
    rw [ht] at htm
    have hpl : (∀ (p : Nat) (l : List Mv), A.moves[p]? = some l → (∀ m ∈ l, p < m.to ∧ m.keep = 0 ∧ m.again = false) ∧ l.length < 2147483648) ∧ A.moves.length ≤ 41 ∧ ((er != 0) = true ∨ (er = 0 ∧ A.scopes = [])) := by
      rcases hA2 with ⟨h0, rfl⟩ | ⟨rfl, hf, hfs, rfl, hW, hLn⟩
      · exact ⟨fun p l h => by simp [noA] at h, by simp [noA], .inl (by simpa using h0)⟩
      · have hnt := simple_nt n ht
        refine ⟨fun p l h => ⟨plain_moves hnt h, hLn l (List.mem_of_getElem? h)⟩, ?_, .inr ⟨rfl, plain_scopes hnt⟩⟩
        rw [hW.lm]; exact hW.n
    clear hA2
    obtain ⟨⟨ak, as_, ap, al, ah⟩, S, Cs, R, Fi, Mo, La, Em⟩ := A
    obtain ⟨w1, w2, w3⟩ := hpl
    dsimp only at w1 w2 w3
    simp only [auC, mpC, cel_mk, nd8, List.cons_append, List.nil_append] at hM
    (repeat' (first | (with_reducible (first | refine U_nil ?_ | refine UC_sq ?_ | refine UC_rg ?_ | refine UC_sk ?_ | refine X_nx ?_ | ((first | refine U_q (v := ?_) ?h1 ?_ | refine U_ld (v := ?_) ?h1 ?_); case h1 => ((try simp only [hA1, List.take_succ_cons, List.take_zero, List.drop_succ_cons, List.drop_zero, go_sem]) <;> rfl)) | (refine U_box (cs := ?_) (cs' := ?_) (n := ?_) ?h1 ?h2 ?h3 ?h4 ?_; case h1 | h2 | h3 | h4 => ((try simp only [hA1, List.take_succ_cons, List.take_zero, List.drop_succ_cons, List.drop_zero, go_sem]) <;> rfl)) | (refine U_gt ?h1 ?_; case h1 => ((try simp only [hA1, List.take_succ_cons, List.take_zero, List.drop_succ_cons, List.drop_zero, go_sem]) <;> rfl)) | (refine UC_cdf ?h1 ?_; case h1 => ((try simp only [hA1, List.take_succ_cons, List.take_zero, List.drop_succ_cons, List.drop_zero, go_sem]) <;> rfl)))) | ((with_reducible refine U_pc (g := 8) (r := .bo true) (vs := ?_) (ws := ?_) ?h1 ?h2 ?h3 ?h4 ?h5 ?_); (case h1 => ((try simp only [hA1, List.take_succ_cons, List.take_zero, List.drop_succ_cons, List.drop_zero, go_sem]) <;> rfl)); (case h2 => refine fzsU_ok ?_; first | rfl | simp only [List.all_cons, List.all_nil, Bool.and_true, go_sem]); (case h5 => exact haw); (case h3 => first | exact Bool.or_eq_true_iff.2 (.inr rfl) | (refine Bool.or_eq_true_iff.2 (.inl ?_); simp only [clos, List.all_cons, List.all_nil, Bool.and_true, go_sem])); (case h4 => first | rfl | simp only [go_sem, Bool.and_true])) | ((with_reducible refine U_pc (g := 9) (r := .i .i64 (sizeF n 100)) (vs := ?_) (ws := ?_) ?h1 ?h2 ?h3 ?h4 ?h5 ?_); (case h1 => ((try simp only [hA1, List.take_succ_cons, List.take_zero, List.drop_succ_cons, List.drop_zero, go_sem]) <;> rfl)); (case h2 => refine fzsU_ok ?_; first | rfl | simp only [List.all_cons, List.all_nil, Bool.and_true, go_sem]); (case h5 => exact hsz); (case h3 => first | exact Bool.or_eq_true_iff.2 (.inr rfl) | (refine Bool.or_eq_true_iff.2 (.inl ?_); simp only [clos, List.all_cons, List.all_nil, Bool.and_true, go_sem])); (case h4 => first | rfl | simp only [go_sem, Bool.and_true])) | ((with_reducible refine U_pc (g := 18) (r := .bo false) (vs := ?_) (ws := ?_) ?h1 ?h2 ?h3 ?h4 ?h5 ?_); (case h1 => ((try simp only [hA1, List.take_succ_cons, List.take_zero, List.drop_succ_cons, List.drop_zero, go_sem]) <;> rfl)); (case h2 => refine fzsU_ok ?_; first | rfl | simp only [List.all_cons, List.all_nil, Bool.and_true, go_sem]); (case h5 => exact htm); (case h3 => first | exact Bool.or_eq_true_iff.2 (.inr rfl) | (refine Bool.or_eq_true_iff.2 (.inl ?_); simp only [clos, List.all_cons, List.all_nil, Bool.and_true, go_sem])); (case h4 => first | rfl | simp only [go_sem, Bool.and_true])) | with_reducible (refine U_gb (q := ?_) ?h1 (fun _ => ?_) (fun _ => ?_); case h1 => ((try simp only [hA1, List.take_succ_cons, List.take_zero, List.drop_succ_cons, List.drop_zero, go_sem]) <;> rfl)) | with_reducible (refine UC_cdb (q := ?_) ?h1 (fun _ => ?_) (fun _ => ?_); case h1 => ((try simp only [hA1, List.take_succ_cons, List.take_zero, List.drop_succ_cons, List.drop_zero, go_sem]) <;> rfl))))
    refine U_pc (vs := [.ag (cel n)]) (ws := [.ag (cel n)]) (by simp only [go_sem]) (fzsU_ok (by simp only [List.all_cons, List.all_nil, Bool.and_true, go_sem])) (Bool.or_eq_true_iff.2 (.inl (by simp only [clos, List.all_cons, List.all_nil, Bool.and_true, go_sem]))) ?_ hM ?_
    · simp only [go_sem, u4_cld, sc_cld, ls_cld, cldLL_in, ml_cld, bo_cld, Bool.and_true]
    (repeat (with_reducible (first | refine U_nil ?_ | refine UC_sq ?_ | refine UC_rg ?_ | refine UC_bk ?_ | refine X_nx ?_ | ((first | refine U_q (v := ?_) ?h1 ?_ | refine U_alc (n := ?_) ?h1 ?_); case h1 => ((try simp only [List.length_map, List.take_succ_cons, List.take_zero, List.drop_succ_cons, List.drop_zero, go_sem]) <;> rfl)) | (refine U_sto (id := ?_) (i := ?_) (j := ?_) (q := ?_) (es := ?_) (cs := ?_) (vs := ?_) (es' := ?_) ?h1 ?h2 ?h3 ?h4 ?h5 ?h6 ?h7 ?_; case h1 | h2 | h3 | h4 | h5 | h6 | h7 => ((try simp only [List.length_map, List.take_succ_cons, List.take_zero, List.drop_succ_cons, List.drop_zero, go_sem]) <;> rfl)))))
    refine UC_cutx (fun e o => e 3 = .pt 3 0 0 ∧ e 4 = .i .i64 er ∧ o 3 = some (.row 15 [[.i .i64 ak, .i .u64 (as_ 0), .i .u64 (as_ 1), .i .u64 (as_ 2), .i .u64 (as_ 3), .sl (ap.map cel), .i .i64 al, .i .i64 ah, .sl (S.map u4), .sl (Cs.map scC), .sl (R.map lsC), .sl (Fi.map inC), .sl (Mo.map mlC), .sl (La.map boC), .bo Em]])) ?_ ?_
    · refine U_lp (fun r e o => ∃ p : Nat, p + r = Mo.length ∧ e 3 = .pt 3 0 0 ∧ e 4 = .i .i64 er ∧ e 5 = .i .i64 p ∧ o 3 = some (.row 15 [[.i .i64 ak, .i .u64 (as_ 0), .i .u64 (as_ 1), .i .u64 (as_ 2), .i .u64 (as_ 3), .sl (ap.map cel), .i .i64 al, .i .i64 ah, .sl (S.map u4), .sl (Cs.map scC), .sl (R.map lsC), .sl (Fi.map inC), .sl (Mo.map mlC), .sl (La.map boC), .bo Em]])) (k := Mo.length) ?_ (Call_le F) ?_
      · exact ⟨0, by omega, by simp only [go_sem], by simp only [go_sem], by (simp only [go_sem] <;> rfl), by simp only [go_sem]⟩
      rintro r e o ⟨p, hpr, r3, r4, r5, o3⟩
      dsimp only [b7_1]
      (repeat (with_reducible (first | refine U_nil ?_ | refine UC_sq ?_ | refine UC_rg ?_ | refine X_nx ?_ | ((first | refine U_q (v := ?_) ?h1 ?_ | refine U_ld (v := ?_) ?h1 ?_); case h1 => ((try simp only [r3, r5, o3, List.length_map, go_sem]) <;> rfl)))))
      refine UC_cdb (q := decide ((p : Int) < (Mo.length : Int))) (by simp only [go_sem]) (fun hc1 => ?_) (fun hc1 => ?_)
      · have hp : p < Mo.length := by simpa using hc1
        have hpp : (0 : Int) ≤ (p : Int) := by omega
        have hmp : (Mo.map mlC)[p]? = some [.sl (Mo[p].map mvC)] := by rw [List.getElem?_map, List.getElem?_eq_getElem hp]; rfl
        obtain ⟨hmv, hll⟩ := w1 p Mo[p] (List.getElem?_eq_getElem hp)
        generalize Mo[p] = l at hmp hmv hll
        have hwp : IntKind.i64.wrap ((p : Int) + 1) = ((p + 1 : Nat) : Int) := by rw [wrap_i64 (by omega) (by omega)]; rfl
        (repeat (with_reducible (first | refine U_nil ?_ | refine UC_sq ?_ | refine UC_rg ?_ | refine UC_bk ?_ | refine UC_sk ?_ | refine X_nx ?_ | (refine U_q (v := ?_) ?h1 ?_; case h1 => ((try simp only [r3, r5, o3, hpp, hmp, Int.toNat_natCast, go_sem]) <;> rfl)))))
        refine UC_cutx (fun e o => e 3 = .pt 3 0 0 ∧ e 4 = .i .i64 er ∧ e 5 = .i .i64 p ∧ o 3 = some (.row 15 [[.i .i64 ak, .i .u64 (as_ 0), .i .u64 (as_ 1), .i .u64 (as_ 2), .i .u64 (as_ 3), .sl (ap.map cel), .i .i64 al, .i .i64 ah, .sl (S.map u4), .sl (Cs.map scC), .sl (R.map lsC), .sl (Fi.map inC), .sl (Mo.map mlC), .sl (La.map boC), .bo Em]])) ?_ ?_
        · refine U_lp (fun r e o => ∃ i : Nat, i + r = l.length ∧ e 3 = .pt 3 0 0 ∧ e 4 = .i .i64 er ∧ e 5 = .i .i64 p ∧ e 6 = .i .i64 i ∧ o 3 = some (.row 15 [[.i .i64 ak, .i .u64 (as_ 0), .i .u64 (as_ 1), .i .u64 (as_ 2), .i .u64 (as_ 3), .sl (ap.map cel), .i .i64 al, .i .i64 ah, .sl (S.map u4), .sl (Cs.map scC), .sl (R.map lsC), .sl (Fi.map inC), .sl (Mo.map mlC), .sl (La.map boC), .bo Em]])) (k := l.length) ?_ (Call_le F) ?_
          · exact ⟨0, by omega, by simp only [r3, go_sem], by simp only [r4, go_sem], by simp only [r5, go_sem], by (simp only [go_sem] <;> rfl), o3⟩
          clear r3 r4 r5 o3
          rintro r' e o ⟨i, hir, r3, r4, r5, r6, o3⟩
          dsimp only [b7_0]
          (repeat (with_reducible (first | refine U_nil ?_ | refine UC_sq ?_ | refine UC_rg ?_ | refine X_nx ?_ | ((first | refine U_q (v := ?_) ?h1 ?_ | refine U_ld (v := ?_) ?h1 ?_); case h1 => ((try simp only [r3, r5, r6, o3, hpp, hmp, Int.toNat_natCast, List.length_map, go_sem]) <;> rfl)))))
          refine UC_cdb (q := decide ((i : Int) < (l.length : Int))) (by simp only [go_sem]) (fun hc2 => ?_) (fun hc2 => ?_)
          · have hi : i < l.length := by simpa using hc2
            have hip : (0 : Int) ≤ (i : Int) := by omega
            obtain ⟨h1, h2, h3⟩ := hmv l[i] (List.getElem_mem hi)
            have hmi : (l.map mvC)[i]? = some [.i .i64 l[i].to, .i .i64 l[i].keep, .bo l[i].again] := by rw [List.getElem?_map, List.getElem?_eq_getElem hi]; rfl
            generalize l[i] = m at h1 h2 h3 hmi
            obtain ⟨mt, mk, ma⟩ := m
            dsimp only at h1 h2 h3 hmi
            subst h2; subst h3
            have hwi : IntKind.i64.wrap ((i : Int) + 1) = ((i + 1 : Nat) : Int) := by rw [wrap_i64 (by omega) (by omega)]; rfl
            have c1 : decide ((mt : Int) ≤ (p : Int)) = false := by simp; omega
            (repeat (with_reducible (first | refine UC_sq ?_ | refine UC_rg ?_ | refine UC_bk ?_ | refine UC_sk ?_ | refine X_nx ?_ | ((first | refine U_q (v := ?_) ?h1 ?_ | refine U_ld (v := ?_) ?h1 ?_); case h1 => ((try simp only [r3, r5, r6, o3, hpp, hmp, hip, hmi, Int.toNat_natCast, List.take_succ_cons, List.take_zero, List.drop_succ_cons, List.drop_zero, go_sem]) <;> rfl)))))
            refine U_q (v := .bo false) (by simp only [go_sem]; simp [eqV, eqps, lfEq, V.isAg, V.cells]) ?_
            (repeat (with_reducible (first | refine U_nil ?_ | refine UC_rg ?_ | refine UC_sk ?_ | refine X_nx ?_ | refine B_nx ?_ | ((first | refine U_q (v := ?_) ?h1 ?_ | refine U_ld (v := ?_) ?h1 ?_); case h1 => ((try simp only [r3, r5, r6, o3, hpp, hmp, hip, hmi, hwi, c1, Int.toNat_natCast, List.take_succ_cons, List.take_zero, List.drop_succ_cons, List.drop_zero, go_sem]) <;> rfl)) | (refine U_gt ?h1 ?_; case h1 => ((try simp only [r3, r5, r6, o3, hpp, hmp, hip, hmi, hwi, c1, Int.toNat_natCast, List.take_succ_cons, List.take_zero, List.drop_succ_cons, List.drop_zero, go_sem]) <;> rfl)) | (refine UC_cdf ?h1 ?_; case h1 => ((try simp only [r3, r5, r6, o3, hpp, hmp, hip, hmi, hwi, c1, Int.toNat_natCast, List.take_succ_cons, List.take_zero, List.drop_succ_cons, List.drop_zero, go_sem]) <;> rfl)))))
            exact ⟨r' - 1, by omega, i + 1, by omega, by simp only [r3, go_sem], by simp only [r4, go_sem], by simp only [r5, go_sem], by simp only [go_sem], o3⟩
          · (repeat (with_reducible (first | refine UC_ex ?_ | refine X_ex ?_)))
            exact ⟨rfl, by simp only [r3, go_sem], by simp only [r4, go_sem], by simp only [r5, go_sem], o3⟩
        · clear r3 r4 r5 o3
          rintro e o ⟨r3, r4, r5, o3⟩
          (repeat (with_reducible (first | refine U_nil ?_ | refine UC_rg ?_ | refine X_nx ?_ | refine B_nx ?_ | (refine U_q (v := ?_) ?h1 ?_; case h1 => ((try simp only [r5, hwp, go_sem]) <;> rfl)))))
          exact ⟨r - 1, by omega, p + 1, by omega, by simp only [r3, go_sem], by simp only [r4, go_sem], by simp only [go_sem], o3⟩
      · (repeat (with_reducible (first | refine UC_ex ?_ | refine X_ex ?_)))
        exact ⟨rfl, by simp only [r3, go_sem], by simp only [r4, go_sem], o3⟩
    · rintro e o ⟨r3, r4, o3⟩
      rcases w3 with w3 | ⟨rfl, w3⟩
      · (repeat (with_reducible (first | refine U_nil ?_ | refine UC_sq ?_ | refine UC_rg ?_ | refine UC_rt ?_ | refine X_nx ?_ | ((first | refine U_q (v := ?_) ?h1 ?_ | refine E_1 (v := ?_) ?h1 ?_); case h1 => ((try simp only [r3, r4, o3, w3, List.length_map, go_sem]) <;> rfl)) | (refine U_gs1 ?h1 ?_; case h1 => ((try simp only [r3, r4, o3, w3, List.length_map, go_sem]) <;> rfl)))))
        exact fz_of (by simp) rfl
      · subst w3
        (repeat (with_reducible (first | refine U_nil ?_ | refine UC_sq ?_ | refine UC_rg ?_ | refine UC_rt ?_ | refine X_nx ?_ | ((first | refine U_q (v := ?_) ?h1 ?_ | refine U_ld (v := ?_) ?h1 ?_ | refine E_1 (v := ?_) ?h1 ?_); case h1 => ((try simp only [r3, r4, o3, List.length_map, List.length_nil, List.map_nil, go_sem]) <;> rfl)) | (refine U_gt ?h1 ?_; case h1 => ((try simp only [r3, r4, o3, List.length_map, List.length_nil, List.map_nil, go_sem]) <;> rfl)))))
        first | rfl | exact fz_of (by simp) rfl

end Go.Proofs.Ytcnmcbkmfmcdjaa
