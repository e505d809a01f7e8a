import Derived.Test.YtiadalheipbpcaaT4

/-
  Trees, as the named machine sees them; void trees.
-/
namespace Go.Proofs.Ytiadalheipbpcaa
set_option linter.all false

theorem cls1_cel (n : Nd) : cls1L (cel n) = true := by cases n; rfl
theorem swpL_cel (d : Nat) (n : Nd) : swpL d (cel n) = cel n := swpL_cls d (cls1_cel n)
theorem okf_cel (n : Nd) : okf FZ (.ag (cel n)) = true := by cases n; rfl
theorem clo_celN (n : Nd) : clo FZ (.ag (cel n)) = true := by cases n; rfl
mutual
theorem cld_cel : ∀ (n : Nd), cldL (cel n) = true
  | .mk k s ps lo hi => by
    have := cld_cels ps
    simp [cel, nd8, cldL, cld, this]
theorem cld_cels : ∀ (ps : List Nd), cldLL (cels ps) = true
  | [] => rfl
  | p :: ps => by rw [cels, cldLL, cld_cel p, cld_cels ps]; rfl
end
theorem cld_celsM (ps : List Nd) : cldLL (ps.map cel) = true := by rw [← cels_map]; exact cld_cels ps
theorem celTake (n : Nd) : (cel n).take 8 = cel n := List.take_of_length_le (by rw [cel_len]; omega)
theorem splice_cel (n : Nd) (a b c d e f g h : V) : splice 0 (cel n) [a, b, c, d, e, f, g, h] = cel n := splice_all (by rw [cel_len]; rfl)

attribute [go_sem] swpL_cel okf_cel clo_celN cld_cel cld_celsM cel_len celTake splice_cel List.drop_zero

theorem nat0 (n : Nat) : ((n : Int) == 0) = (n == 0) := by cases n <;> rfl

theorem PuEq {F : Nat → Option Fn} {g : Nat} {vs : List V} {r r' : V} (h : Pu F g vs r) (hr : r = r') : Pu F g vs r' := hr ▸ h

/-! class.Empty, again as a pure call -/
theorem empty_pu (s : Nat → Nat) : Pu F 35 [.ag (u4 s)] (.bo (emptyS s)) := empty_ok s emp _ (fun _ => rfl)

mutual
def voidB : Nd → Bool
  | .mk k s ps lo _ =>
    if k = 1 then emptyS s
    else if k = 2 then voidAny ps
    else if k = 3 then voidAll ps
    else if k = 4 then decide (0 < lo) && voidHd ps
    else false
def voidAny : List Nd → Bool
  | [] => false
  | p :: ps => voidB p || voidAny ps
def voidAll : List Nd → Bool
  | [] => true
  | p :: ps => voidB p && voidAll ps
def voidHd : List Nd → Bool
  | [] => false
  | p :: _ => voidB p
end
theorem voidAny_any (ps : List Nd) : voidAny ps = ps.any voidB := by induction ps with
  | nil => rfl
  | cons p ps ih => simp [voidAny, ih]
theorem voidAll_all (ps : List Nd) : voidAll ps = ps.all voidB := by induction ps with
  | nil => rfl
  | cons p ps ih => simp [voidAll, ih]

theorem cont_pu (ps : List Nd) (hl : ps.length < 9223372036854775808) (g : Nat) (p : Nd → Bool) (h : ∀ x ∈ ps, Pu F g [.ag (cel x)] (.bo (p x))) : Pu F 23 [.sl (ps.map cel), .fn g []] (.bo (ps.any p)) :=
  cont_ok cel cel_len ps hl g [] rfl p (fun x hx => ⟨[.ag (cel x)], fun o => fzs_ok (by simp [FZ, okd, cel_okd]), h x hx⟩) emp _ (fun _ => rfl)

theorem shape4 {s : Nat → Nat} {n : Nat} {lo hi : Int} (h : shapedB 4 s n lo hi = true) : n = 1 ∧ 0 ≤ lo ∧ lo ≤ 2147483647 ∧ (hi = -1 ∨ lo ≤ hi ∧ hi ≤ 2147483647) := by
  simp [shapedB] at h
  omega

set_option maxHeartbeats 1000000 in
theorem void_pu : ∀ (n : Nd), small n → formed n = true → Pu F 25 [.ag (cel n)] (.bo (voidB n))
  | .mk k s ps lo hi, hs, hf => by
    have hf2 : shapedB k s ps.length lo hi = true ∧ ps.all formed = true := by
      rw [formed, Bool.and_eq_true, formedL_all] at hf; exact hf
    have ih : ∀ p ∈ ps, Pu F 25 [.ag (cel p)] (.bo (voidB p)) := fun p hp => void_pu p ((smallL_all ps).1 hs.2.2 p hp) (List.all_eq_true.1 hf2.2 p hp)
    have ih2 : ∀ p ∈ ps, Pu F 37 [.ag (cel p)] (.bo (!voidB p)) := fun p hp => by
      refine U_pure e37 rfl rfl (by simp only [go_sem, Bool.and_true]) ?_
      dsimp only [fn37, c37]
      (repeat' (first | (with_reducible (first | refine U_nil ?_ | refine UC_sq ?_ | refine UC_rg ?_ | refine UC_bk ?_ | refine UC_sk ?_ | refine UC_ex ?_ | refine UC_rt ?_ | refine X_nx ?_ | refine X_ex ?_ | refine X_rt ?_ | refine B_nx ?_ | refine B_self ?_ | (refine B_ne (by rfl) ?_) | refine B_rt ?_ | ((first | refine U_q (v := ?_) ?h1 ?_ | refine U_ld (v := ?_) ?h1 ?_ | refine U_isn (v := ?_) ?h1 ?_ | refine E_1 (v := ?_) ?h1 ?_ | refine E_1n (v := ?_) ?h1 ?_ | refine U_alc (n := ?_) ?h1 ?_); case h1 => ((try simp only [go_sem]) <;> rfl)) | (refine U_box (cs := ?_) (cs' := ?_) (n := ?_) ?h1 ?h2 ?h3 ?h4 ?_; (case h1 => ((try simp only [go_sem]) <;> rfl)); (case h2 => ((try simp only [go_sem]) <;> rfl)); (case h3 => ((try simp only [go_sem]) <;> rfl)); (case h4 => ((try simp only [go_sem]) <;> rfl))) | (refine U_sto (id := ?_) (i := ?_) (j := ?_) (q := ?_) (es := ?_) (cs := ?_) (vs := ?_) (es' := ?_) ?h1 ?h2 ?h3 ?h4 ?h5 ?h6 ?h7 ?_; (case h1 => ((try simp only [go_sem]) <;> rfl)); (case h2 => ((try simp only [go_sem]) <;> rfl)); (case h3 => ((try simp only [go_sem]) <;> rfl)); (case h4 => ((try simp only [go_sem]) <;> rfl)); (case h5 => ((try simp only [go_sem]) <;> rfl)); (case h6 => (simp only [go_sem])); (case h7 => ((try simp only [go_sem]) <;> rfl))) | (refine U_bsl (es := ?_) (es' := ?_) ?h1 ?h2 ?h3 ?_; (case h1 => ((try simp only [go_sem]) <;> rfl)); (case h2 => ((try simp only [go_sem]) <;> rfl)); (case h3 => ((try simp only [go_sem]) <;> rfl))) | refine U_bsl0 ?_ | ((first | refine U_gt ?h1 ?_); case h1 => ((try simp only [go_sem]) <;> rfl)) | ((first | refine U_gs1 ?h1 ?_); case h1 => ((try simp only [go_sem]) <;> rfl)) | ((first | refine U_gs2 ?h1 ?_); case h1 => ((try simp only [go_sem]) <;> rfl)) | ((first | refine U_gj (vs := ?_) ?h1 ?_); case h1 => ((try simp only [go_sem]) <;> rfl)) | ((first | refine UC_cdt ?h1 ?_); case h1 => ((try simp only [go_sem]) <;> rfl)) | ((first | refine UC_cdf ?h1 ?_); case h1 => ((try simp only [go_sem]) <;> rfl)) | ((first | refine E_2 (v := ?_) (u := ?_) ?h1 ?h2 ?_ | refine E_2n (v := ?_) (u := ?_) ?h1 ?h2 ?_); (case h1 => ((try simp only [go_sem]) <;> rfl)); (case h2 => ((try simp only [go_sem]) <;> rfl))) | refine E_0 ?_ | refine E_0n ?_ | rw [put_some])) | ((with_reducible refine U_pc (g := 25) (r := .bo (voidB p)) (vs := ?_) (ws := ?_) ?h1 ?h2 ?h3 ?h4 ?h5 ?_); (case h1 => ((try simp only [go_sem]) <;> rfl)); (case h2 => refine fzsU_ok ?_; first | rfl | simp only [List.all_cons, List.all_nil, Bool.and_true, go_sem]); (case h5 => exact ih p hp); (case h3 => first | exact Bool.or_eq_true_iff.2 (.inr rfl) | (refine Bool.or_eq_true_iff.2 (.inl ?_); simp only [clos, List.all_cons, List.all_nil, Bool.and_true, go_sem])); (case h4 => first | rfl | simp only [go_sem, Bool.and_true])) | with_reducible (refine U_gb (q := ?_) ?h1 (fun _ => ?_) (fun _ => ?_); case h1 => ((try simp only [go_sem]) <;> rfl)) | with_reducible (refine UC_cdb (q := ?_) ?h1 (fun _ => ?_) (fun _ => ?_); case h1 => ((try simp only [go_sem]) <;> rfl))))
      rfl
    have hc1 := cont_pu ps hs.2.1 25 voidB ih
    have hc2 := cont_pu ps hs.2.1 37 (fun p => !voidB p) ih2
    by_cases h4 : k = 4
    · subst h4
      obtain ⟨hl1, _, _, _⟩ := shape4 hf2.1
      obtain ⟨p, rfl⟩ := List.length_eq_one_iff.1 hl1
      have ihp := ih p (by simp)
      refine U_pure e25 rfl rfl (by simp only [go_sem, Bool.and_true]) ?_
      dsimp only [fn25, c25]
      rw [cel_mk]
      (repeat' (first | (with_reducible (first | refine U_nil ?_ | refine UC_sq ?_ | refine UC_rg ?_ | refine UC_bk ?_ | refine UC_sk ?_ | refine UC_ex ?_ | refine UC_rt ?_ | refine X_nx ?_ | refine X_ex ?_ | refine X_rt ?_ | refine B_nx ?_ | refine B_self ?_ | (refine B_ne (by rfl) ?_) | refine B_rt ?_ | ((first | refine U_q (v := ?_) ?h1 ?_ | refine U_ld (v := ?_) ?h1 ?_ | refine U_isn (v := ?_) ?h1 ?_ | refine E_1 (v := ?_) ?h1 ?_ | refine E_1n (v := ?_) ?h1 ?_ | refine U_alc (n := ?_) ?h1 ?_); case h1 => ((try simp only [nd8, List.take_succ_cons, List.take_zero, List.drop_succ_cons, go_sem]) <;> rfl)) | (refine U_box (cs := ?_) (cs' := ?_) (n := ?_) ?h1 ?h2 ?h3 ?h4 ?_; (case h1 => ((try simp only [nd8, List.take_succ_cons, List.take_zero, List.drop_succ_cons, go_sem]) <;> rfl)); (case h2 => ((try simp only [nd8, List.take_succ_cons, List.take_zero, List.drop_succ_cons, go_sem]) <;> rfl)); (case h3 => ((try simp only [nd8, List.take_succ_cons, List.take_zero, List.drop_succ_cons, go_sem]) <;> rfl)); (case h4 => ((try simp only [nd8, List.take_succ_cons, List.take_zero, List.drop_succ_cons, go_sem]) <;> rfl))) | (refine U_sto (id := ?_) (i := ?_) (j := ?_) (q := ?_) (es := ?_) (cs := ?_) (vs := ?_) (es' := ?_) ?h1 ?h2 ?h3 ?h4 ?h5 ?h6 ?h7 ?_; (case h1 => ((try simp only [nd8, List.take_succ_cons, List.take_zero, List.drop_succ_cons, go_sem]) <;> rfl)); (case h2 => ((try simp only [nd8, List.take_succ_cons, List.take_zero, List.drop_succ_cons, go_sem]) <;> rfl)); (case h3 => ((try simp only [nd8, List.take_succ_cons, List.take_zero, List.drop_succ_cons, go_sem]) <;> rfl)); (case h4 => ((try simp only [nd8, List.take_succ_cons, List.take_zero, List.drop_succ_cons, go_sem]) <;> rfl)); (case h5 => ((try simp only [nd8, List.take_succ_cons, List.take_zero, List.drop_succ_cons, go_sem]) <;> rfl)); (case h6 => (simp only [nd8, List.take_succ_cons, List.take_zero, List.drop_succ_cons, go_sem])); (case h7 => ((try simp only [nd8, List.take_succ_cons, List.take_zero, List.drop_succ_cons, go_sem]) <;> rfl))) | (refine U_bsl (es := ?_) (es' := ?_) ?h1 ?h2 ?h3 ?_; (case h1 => ((try simp only [nd8, List.take_succ_cons, List.take_zero, List.drop_succ_cons, go_sem]) <;> rfl)); (case h2 => ((try simp only [nd8, List.take_succ_cons, List.take_zero, List.drop_succ_cons, go_sem]) <;> rfl)); (case h3 => ((try simp only [nd8, List.take_succ_cons, List.take_zero, List.drop_succ_cons, go_sem]) <;> rfl))) | refine U_bsl0 ?_ | ((first | refine U_gt ?h1 ?_); case h1 => ((try simp only [nd8, List.take_succ_cons, List.take_zero, List.drop_succ_cons, go_sem]) <;> rfl)) | ((first | refine U_gs1 ?h1 ?_); case h1 => ((try simp only [nd8, List.take_succ_cons, List.take_zero, List.drop_succ_cons, go_sem]) <;> rfl)) | ((first | refine U_gs2 ?h1 ?_); case h1 => ((try simp only [nd8, List.take_succ_cons, List.take_zero, List.drop_succ_cons, go_sem]) <;> rfl)) | ((first | refine U_gj (vs := ?_) ?h1 ?_); case h1 => ((try simp only [nd8, List.take_succ_cons, List.take_zero, List.drop_succ_cons, go_sem]) <;> rfl)) | ((first | refine UC_cdt ?h1 ?_); case h1 => ((try simp only [nd8, List.take_succ_cons, List.take_zero, List.drop_succ_cons, go_sem]) <;> rfl)) | ((first | refine UC_cdf ?h1 ?_); case h1 => ((try simp only [nd8, List.take_succ_cons, List.take_zero, List.drop_succ_cons, go_sem]) <;> rfl)) | ((first | refine E_2 (v := ?_) (u := ?_) ?h1 ?h2 ?_ | refine E_2n (v := ?_) (u := ?_) ?h1 ?h2 ?_); (case h1 => ((try simp only [nd8, List.take_succ_cons, List.take_zero, List.drop_succ_cons, go_sem]) <;> rfl)); (case h2 => ((try simp only [nd8, List.take_succ_cons, List.take_zero, List.drop_succ_cons, go_sem]) <;> rfl))) | refine E_0 ?_ | refine E_0n ?_ | rw [put_some])) | ((with_reducible refine U_pc (g := 25) (r := .bo (voidB p)) (vs := ?_) (ws := ?_) ?h1 ?h2 ?h3 ?h4 ?h5 ?_); (case h1 => ((try simp only [nd8, List.take_succ_cons, List.take_zero, List.drop_succ_cons, go_sem]) <;> rfl)); (case h2 => refine fzsU_ok ?_; first | rfl | simp only [List.all_cons, List.all_nil, Bool.and_true, go_sem]); (case h5 => exact ihp); (case h3 => first | exact Bool.or_eq_true_iff.2 (.inr rfl) | (refine Bool.or_eq_true_iff.2 (.inl ?_); simp only [clos, List.all_cons, List.all_nil, Bool.and_true, go_sem])); (case h4 => first | rfl | simp only [go_sem, Bool.and_true])) | with_reducible (refine U_gb (q := ?_) ?h1 (fun _ => ?_) (fun _ => ?_); case h1 => ((try simp only [nd8, List.take_succ_cons, List.take_zero, List.drop_succ_cons, go_sem]) <;> rfl)) | with_reducible (refine UC_cdb (q := ?_) ?h1 (fun _ => ?_) (fun _ => ?_); case h1 => ((try simp only [nd8, List.take_succ_cons, List.take_zero, List.drop_succ_cons, go_sem]) <;> rfl))))
      all_goals (refine congrArg some (congrArg V.bo ?_); clear ih ih2 hc1 hc2 ihp hf hf2 hs; simp_all [voidB, voidHd]; try omega)
    · refine U_pure e25 rfl rfl (by simp only [go_sem, Bool.and_true]) ?_
      dsimp only [fn25, c25]
      rw [cel_mk]
      (repeat' (first | (with_reducible (first | refine U_nil ?_ | refine UC_sq ?_ | refine UC_rg ?_ | refine UC_bk ?_ | refine UC_sk ?_ | refine UC_ex ?_ | refine UC_rt ?_ | refine X_nx ?_ | refine X_ex ?_ | refine X_rt ?_ | refine B_nx ?_ | refine B_self ?_ | (refine B_ne (by rfl) ?_) | refine B_rt ?_ | ((first | refine U_q (v := ?_) ?h1 ?_ | refine U_ld (v := ?_) ?h1 ?_ | refine U_isn (v := ?_) ?h1 ?_ | refine E_1 (v := ?_) ?h1 ?_ | refine E_1n (v := ?_) ?h1 ?_ | refine U_alc (n := ?_) ?h1 ?_); case h1 => ((try simp only [nd8, List.take_succ_cons, List.take_zero, List.drop_succ_cons, go_sem]) <;> rfl)) | (refine U_box (cs := ?_) (cs' := ?_) (n := ?_) ?h1 ?h2 ?h3 ?h4 ?_; (case h1 => ((try simp only [nd8, List.take_succ_cons, List.take_zero, List.drop_succ_cons, go_sem]) <;> rfl)); (case h2 => ((try simp only [nd8, List.take_succ_cons, List.take_zero, List.drop_succ_cons, go_sem]) <;> rfl)); (case h3 => ((try simp only [nd8, List.take_succ_cons, List.take_zero, List.drop_succ_cons, go_sem]) <;> rfl)); (case h4 => ((try simp only [nd8, List.take_succ_cons, List.take_zero, List.drop_succ_cons, go_sem]) <;> rfl))) | (refine U_sto (id := ?_) (i := ?_) (j := ?_) (q := ?_) (es := ?_) (cs := ?_) (vs := ?_) (es' := ?_) ?h1 ?h2 ?h3 ?h4 ?h5 ?h6 ?h7 ?_; (case h1 => ((try simp only [nd8, List.take_succ_cons, List.take_zero, List.drop_succ_cons, go_sem]) <;> rfl)); (case h2 => ((try simp only [nd8, List.take_succ_cons, List.take_zero, List.drop_succ_cons, go_sem]) <;> rfl)); (case h3 => ((try simp only [nd8, List.take_succ_cons, List.take_zero, List.drop_succ_cons, go_sem]) <;> rfl)); (case h4 => ((try simp only [nd8, List.take_succ_cons, List.take_zero, List.drop_succ_cons, go_sem]) <;> rfl)); (case h5 => ((try simp only [nd8, List.take_succ_cons, List.take_zero, List.drop_succ_cons, go_sem]) <;> rfl)); (case h6 => (simp only [nd8, List.take_succ_cons, List.take_zero, List.drop_succ_cons, go_sem])); (case h7 => ((try simp only [nd8, List.take_succ_cons, List.take_zero, List.drop_succ_cons, go_sem]) <;> rfl))) | (refine U_bsl (es := ?_) (es' := ?_) ?h1 ?h2 ?h3 ?_; (case h1 => ((try simp only [nd8, List.take_succ_cons, List.take_zero, List.drop_succ_cons, go_sem]) <;> rfl)); (case h2 => ((try simp only [nd8, List.take_succ_cons, List.take_zero, List.drop_succ_cons, go_sem]) <;> rfl)); (case h3 => ((try simp only [nd8, List.take_succ_cons, List.take_zero, List.drop_succ_cons, go_sem]) <;> rfl))) | refine U_bsl0 ?_ | ((first | refine U_gt ?h1 ?_); case h1 => ((try simp only [nd8, List.take_succ_cons, List.take_zero, List.drop_succ_cons, go_sem]) <;> rfl)) | ((first | refine U_gs1 ?h1 ?_); case h1 => ((try simp only [nd8, List.take_succ_cons, List.take_zero, List.drop_succ_cons, go_sem]) <;> rfl)) | ((first | refine U_gs2 ?h1 ?_); case h1 => ((try simp only [nd8, List.take_succ_cons, List.take_zero, List.drop_succ_cons, go_sem]) <;> rfl)) | ((first | refine U_gj (vs := ?_) ?h1 ?_); case h1 => ((try simp only [nd8, List.take_succ_cons, List.take_zero, List.drop_succ_cons, go_sem]) <;> rfl)) | ((first | refine UC_cdt ?h1 ?_); case h1 => ((try simp only [nd8, List.take_succ_cons, List.take_zero, List.drop_succ_cons, go_sem]) <;> rfl)) | ((first | refine UC_cdf ?h1 ?_); case h1 => ((try simp only [nd8, List.take_succ_cons, List.take_zero, List.drop_succ_cons, go_sem]) <;> rfl)) | ((first | refine E_2 (v := ?_) (u := ?_) ?h1 ?h2 ?_ | refine E_2n (v := ?_) (u := ?_) ?h1 ?h2 ?_); (case h1 => ((try simp only [nd8, List.take_succ_cons, List.take_zero, List.drop_succ_cons, go_sem]) <;> rfl)); (case h2 => ((try simp only [nd8, List.take_succ_cons, List.take_zero, List.drop_succ_cons, go_sem]) <;> rfl))) | refine E_0 ?_ | refine E_0n ?_ | rw [put_some])) | ((with_reducible refine U_pc (g := 35) (r := .bo (emptyS s)) (vs := ?_) (ws := ?_) ?h1 ?h2 ?h3 ?h4 ?h5 ?_); (case h1 => ((try simp only [nd8, List.take_succ_cons, List.take_zero, List.drop_succ_cons, go_sem]) <;> rfl)); (case h2 => refine fzsU_ok ?_; first | rfl | simp only [List.all_cons, List.all_nil, Bool.and_true, go_sem]); (case h5 => exact empty_pu s); (case h3 => first | exact Bool.or_eq_true_iff.2 (.inr rfl) | (refine Bool.or_eq_true_iff.2 (.inl ?_); simp only [clos, List.all_cons, List.all_nil, Bool.and_true, go_sem])); (case h4 => first | rfl | simp only [go_sem, Bool.and_true])) | ((with_reducible refine U_pc (g := 23) (r := .bo (ps.any voidB)) (vs := ?_) (ws := ?_) ?h1 ?h2 ?h3 ?h4 ?h5 ?_); (case h1 => ((try simp only [nd8, List.take_succ_cons, List.take_zero, List.drop_succ_cons, go_sem]) <;> rfl)); (case h2 => refine fzsU_ok ?_; first | rfl | simp only [List.all_cons, List.all_nil, Bool.and_true, go_sem]); (case h5 => exact hc1); (case h3 => first | exact Bool.or_eq_true_iff.2 (.inr rfl) | (refine Bool.or_eq_true_iff.2 (.inl ?_); simp only [clos, List.all_cons, List.all_nil, Bool.and_true, go_sem])); (case h4 => first | rfl | simp only [go_sem, Bool.and_true])) | ((with_reducible refine U_pc (g := 23) (r := .bo (ps.any fun p => !voidB p)) (vs := ?_) (ws := ?_) ?h1 ?h2 ?h3 ?h4 ?h5 ?_); (case h1 => ((try simp only [nd8, List.take_succ_cons, List.take_zero, List.drop_succ_cons, go_sem]) <;> rfl)); (case h2 => refine fzsU_ok ?_; first | rfl | simp only [List.all_cons, List.all_nil, Bool.and_true, go_sem]); (case h5 => exact hc2); (case h3 => first | exact Bool.or_eq_true_iff.2 (.inr rfl) | (refine Bool.or_eq_true_iff.2 (.inl ?_); simp only [clos, List.all_cons, List.all_nil, Bool.and_true, go_sem])); (case h4 => first | rfl | simp only [go_sem, Bool.and_true])) | with_reducible (refine U_gb (q := ?_) ?h1 (fun _ => ?_) (fun _ => ?_); case h1 => ((try simp only [nd8, List.take_succ_cons, List.take_zero, List.drop_succ_cons, go_sem]) <;> rfl)) | with_reducible (refine UC_cdb (q := ?_) ?h1 (fun _ => ?_) (fun _ => ?_); case h1 => ((try simp only [nd8, List.take_succ_cons, List.take_zero, List.drop_succ_cons, go_sem]) <;> rfl))))
      all_goals clear ih ih2 hc1 hc2 hf hf2 hs
      all_goals first
        | (refine congrArg some (congrArg V.bo ?_); simp_all [voidB, voidAny_any, voidAll_all]; done)
        | (refine congrArg some (congrArg V.bo ?_); simp_all [voidB, voidAny_any, voidAll_all, List.all_eq_not_any_not]; done)
        | (exfalso; simp_all; done)
termination_by n => SizeOf.sizeOf n
decreasing_by
  have := List.sizeOf_lt_of_mem hp
  simp; omega

end Go.Proofs.Ytiadalheipbpcaa
