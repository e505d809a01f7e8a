import Derived.Test.YtiadalheipbpcaaDa
import Derived.Test.YtiadalheipbpcaaIr

/-
  Searching a slice.
-/
namespace Go.Proofs.Ytiadalheipbpcaa
set_option linter.all false

def idxF {α : Type} (p : α → Bool) (xs : List α) : Int := if xs.any p then ((xs.findIdx p : Nat) : Int) else -1

theorem idxF_pos {α : Type} (p : α → Bool) (xs : List α) : decide (idxF p xs ≥ 0) = xs.any p := by
  unfold idxF
  split
  · rename_i h; rw [h]; simp
  · rename_i h; rw [Bool.not_eq_true] at h; rw [h]; simp

theorem idx_ok {α : Type} (enc : α → List V) (henc : ∀ x, (enc x).length = 8) (xs : List α) (hlen : xs.length < 9223372036854775808) (g : Nat) (cs : List V) (p : α → Bool)
    (hcall : ∀ x ∈ xs, ∃ ws, (∀ o : O, fzs o ([.ag (enc x)] ++ cs) = some ws) ∧ Call F g ws emp (fun v o' => fz o' v = some (.bo (p x)))) (o : O) (K : V → O → Prop)
    (hK : ∀ o', K (.i .i64 (idxF p xs)) o') : Call F 36 [.sl (xs.map enc), .fn g cs] o K := by
  refine Call_fn e36 rfl ?_
  dsimp only [fn36, c36]
  (repeat (with_reducible (first | refine R_nil ?_ | refine C_sq ?_ | refine C_rg ?_ | refine C_bk ?_ | refine C_sk ?_ | refine C_ex ?_ | refine C_rt ?_ | refine X_nx ?_ | refine X_ex ?_ | refine X_rt ?_ | refine B_nx ?_ | refine B_self ?_ | (refine B_ne (by rfl) ?_) | refine B_rt ?_ | ((first | refine R_q (v := ?_) ?h1 ?_ | refine R_ld (v := ?_) ?h1 ?_ | refine R_isn (v := ?_) ?h1 ?_ | refine E_1 (v := ?_) ?h1 ?_ | refine E_1n (v := ?_) ?h1 ?_); case h1 => (simp only [List.length_map, go_sem] <;> rfl)) | ((first | refine R_gt ?h1 ?_); case h1 => (simp only [List.length_map, go_sem] <;> rfl)) | ((first | refine R_gs1 ?h1 ?_); case h1 => (simp only [List.length_map, go_sem] <;> rfl)) | ((first | refine R_gs2 ?h1 ?_); case h1 => (simp only [List.length_map, go_sem] <;> rfl)) | ((first | refine R_gj (vs := ?_) ?h1 ?_); case h1 => (simp only [List.length_map, go_sem] <;> rfl)) | ((first | refine C_cdt ?h1 ?_); case h1 => (simp only [List.length_map, go_sem] <;> rfl)) | ((first | refine C_cdf ?h1 ?_); case h1 => (simp only [List.length_map, go_sem] <;> rfl)) | ((first | refine E_2 (v := ?_) (u := ?_) ?h1 ?h2 ?_ | refine E_2n (v := ?_) (u := ?_) ?h1 ?h2 ?_); (case h1 => (simp only [List.length_map, go_sem] <;> rfl)); (case h2 => (simp only [List.length_map, go_sem] <;> rfl))) | refine E_0 ?_ | refine E_0n ?_ | rw [put_some])))
  refine C_lp (fun r e o => ∃ i : Nat, i + r = xs.length ∧ e 8 = .i .i64 i ∧ e 7 = .i .i64 xs.length ∧ e 0 = .sl (xs.map enc) ∧ e 1 = .fn g cs ∧ ∀ x ∈ xs.take i, p x = false) (k := xs.length) ?_ (Call_le F) ?_
  · exact ⟨0, by omega, by (simp only [List.length_map, go_sem] <;> rfl), by simp only [List.length_map, go_sem], by simp only [go_sem], by simp only [go_sem], by simp⟩
  rintro r e o ⟨i, hir, h8, h7, h0, h1, hp⟩
  dsimp only [b36_0]
  (repeat (with_reducible (first | refine R_nil ?_ | refine C_sq ?_ | refine C_rg ?_ | refine C_bk ?_ | refine C_sk ?_ | refine C_ex ?_ | refine C_rt ?_ | refine X_nx ?_ | refine X_ex ?_ | refine X_rt ?_ | refine B_nx ?_ | refine B_self ?_ | (refine B_ne (by rfl) ?_) | refine B_rt ?_ | ((first | refine R_q (v := ?_) ?h1 ?_ | refine R_ld (v := ?_) ?h1 ?_ | refine R_isn (v := ?_) ?h1 ?_ | refine E_1 (v := ?_) ?h1 ?_ | refine E_1n (v := ?_) ?h1 ?_); case h1 => (simp only [h8, h7, go_sem] <;> rfl)) | ((first | refine R_gt ?h1 ?_); case h1 => (simp only [h8, h7, go_sem] <;> rfl)) | ((first | refine R_gs1 ?h1 ?_); case h1 => (simp only [h8, h7, go_sem] <;> rfl)) | ((first | refine R_gs2 ?h1 ?_); case h1 => (simp only [h8, h7, go_sem] <;> rfl)) | ((first | refine R_gj (vs := ?_) ?h1 ?_); case h1 => (simp only [h8, h7, go_sem] <;> rfl)) | ((first | refine C_cdt ?h1 ?_); case h1 => (simp only [h8, h7, go_sem] <;> rfl)) | ((first | refine C_cdf ?h1 ?_); case h1 => (simp only [h8, h7, go_sem] <;> rfl)) | ((first | refine E_2 (v := ?_) (u := ?_) ?h1 ?h2 ?_ | refine E_2n (v := ?_) (u := ?_) ?h1 ?h2 ?_); (case h1 => (simp only [h8, h7, go_sem] <;> rfl)); (case h2 => (simp only [h8, h7, go_sem] <;> rfl))) | refine E_0 ?_ | refine E_0n ?_ | rw [put_some])))
  refine C_cd (by (simp only [go_sem] <;> rfl)) (fun hc => ?_) (fun hc => ?_)
  · have hi : i < xs.length := by simpa using hc
    have hxi : xs[i]? = some xs[i] := List.getElem?_eq_getElem hi
    (repeat (with_reducible (first | refine R_nil ?_ | refine C_sq ?_ | refine C_rg ?_ | refine C_bk ?_ | refine C_sk ?_ | refine C_ex ?_ | refine C_rt ?_ | refine X_nx ?_ | refine X_ex ?_ | refine X_rt ?_ | refine B_nx ?_ | refine B_self ?_ | (refine B_ne (by rfl) ?_) | refine B_rt ?_ | ((first | refine R_q (v := ?_) ?h1 ?_ | refine R_ld (v := ?_) ?h1 ?_ | refine R_isn (v := ?_) ?h1 ?_ | refine E_1 (v := ?_) ?h1 ?_ | refine E_1n (v := ?_) ?h1 ?_); case h1 => (simp only [h8, h7, h0, h1, go_sem] <;> rfl)) | ((first | refine R_gt ?h1 ?_); case h1 => (simp only [h8, h7, h0, h1, go_sem] <;> rfl)) | ((first | refine R_gs1 ?h1 ?_); case h1 => (simp only [h8, h7, h0, h1, go_sem] <;> rfl)) | ((first | refine R_gs2 ?h1 ?_); case h1 => (simp only [h8, h7, h0, h1, go_sem] <;> rfl)) | ((first | refine R_gj (vs := ?_) ?h1 ?_); case h1 => (simp only [h8, h7, h0, h1, go_sem] <;> rfl)) | ((first | refine C_cdt ?h1 ?_); case h1 => (simp only [h8, h7, h0, h1, go_sem] <;> rfl)) | ((first | refine C_cdf ?h1 ?_); case h1 => (simp only [h8, h7, h0, h1, go_sem] <;> rfl)) | ((first | refine E_2 (v := ?_) (u := ?_) ?h1 ?h2 ?_ | refine E_2n (v := ?_) (u := ?_) ?h1 ?h2 ?_); (case h1 => (simp only [h8, h7, h0, h1, go_sem] <;> rfl)); (case h2 => (simp only [h8, h7, h0, h1, go_sem] <;> rfl))) | refine E_0 ?_ | refine E_0n ?_ | rw [put_some])))
    refine R_q (v := .ip (enc xs[i]) 0) (by simp only [h0, h8, go_sem]; rw [if_pos (by omega)]; simp [hxi, henc]) ?_
    refine R_ld (v := .ag (enc xs[i])) (by simp only [go_sem]; simp [henc]; exact List.take_of_length_le (by rw [henc]; omega)) ?_
    obtain ⟨ws, hw1, hw2⟩ := hcall xs[i] (List.getElem_mem _)
    refine R_pv (g := g) (cs := cs) (by simp only [h1, go_sem]) rfl (by simp only [go_sem]; exact hw1 _) (by simp [flat, FZ]) hw2 ?_
    (repeat (with_reducible (first | refine R_nil ?_ | refine C_sq ?_ | refine C_rg ?_ | refine C_bk ?_ | refine C_sk ?_ | refine C_ex ?_ | refine C_rt ?_ | refine X_nx ?_ | refine X_ex ?_ | refine X_rt ?_ | refine B_nx ?_ | refine B_self ?_ | (refine B_ne (by rfl) ?_) | refine B_rt ?_ | ((first | refine R_q (v := ?_) ?h1 ?_ | refine R_ld (v := ?_) ?h1 ?_ | refine R_isn (v := ?_) ?h1 ?_ | refine E_1 (v := ?_) ?h1 ?_ | refine E_1n (v := ?_) ?h1 ?_); case h1 => (simp only [go_sem] <;> rfl)) | ((first | refine R_gt ?h1 ?_); case h1 => (simp only [go_sem] <;> rfl)) | ((first | refine R_gs1 ?h1 ?_); case h1 => (simp only [go_sem] <;> rfl)) | ((first | refine R_gs2 ?h1 ?_); case h1 => (simp only [go_sem] <;> rfl)) | ((first | refine R_gj (vs := ?_) ?h1 ?_); case h1 => (simp only [go_sem] <;> rfl)) | ((first | refine C_cdt ?h1 ?_); case h1 => (simp only [go_sem] <;> rfl)) | ((first | refine C_cdf ?h1 ?_); case h1 => (simp only [go_sem] <;> rfl)) | ((first | refine E_2 (v := ?_) (u := ?_) ?h1 ?h2 ?_ | refine E_2n (v := ?_) (u := ?_) ?h1 ?h2 ?_); (case h1 => (simp only [go_sem] <;> rfl)); (case h2 => (simp only [go_sem] <;> rfl))) | refine E_0 ?_ | refine E_0n ?_ | rw [put_some])))
    refine C_cd (by (simp only [go_sem] <;> rfl)) (fun hc => ?_) (fun hc => ?_)
    · (repeat (with_reducible (first | refine R_nil ?_ | refine C_sq ?_ | refine C_rg ?_ | refine C_bk ?_ | refine C_sk ?_ | refine C_ex ?_ | refine C_rt ?_ | refine X_nx ?_ | refine X_ex ?_ | refine X_rt ?_ | refine B_nx ?_ | refine B_self ?_ | (refine B_ne (by rfl) ?_) | refine B_rt ?_ | ((first | refine R_q (v := ?_) ?h1 ?_ | refine R_ld (v := ?_) ?h1 ?_ | refine R_isn (v := ?_) ?h1 ?_ | refine E_1 (v := ?_) ?h1 ?_ | refine E_1n (v := ?_) ?h1 ?_); case h1 => (simp only [h8, go_sem] <;> rfl)) | ((first | refine R_gt ?h1 ?_); case h1 => (simp only [h8, go_sem] <;> rfl)) | ((first | refine R_gs1 ?h1 ?_); case h1 => (simp only [h8, go_sem] <;> rfl)) | ((first | refine R_gs2 ?h1 ?_); case h1 => (simp only [h8, go_sem] <;> rfl)) | ((first | refine R_gj (vs := ?_) ?h1 ?_); case h1 => (simp only [h8, go_sem] <;> rfl)) | ((first | refine C_cdt ?h1 ?_); case h1 => (simp only [h8, go_sem] <;> rfl)) | ((first | refine C_cdf ?h1 ?_); case h1 => (simp only [h8, go_sem] <;> rfl)) | ((first | refine E_2 (v := ?_) (u := ?_) ?h1 ?h2 ?_ | refine E_2n (v := ?_) (u := ?_) ?h1 ?h2 ?_); (case h1 => (simp only [h8, go_sem] <;> rfl)); (case h2 => (simp only [h8, go_sem] <;> rfl))) | refine E_0 ?_ | refine E_0n ?_ | rw [put_some])))
      have h2 : xs.any p = true := List.any_eq_true.2 ⟨xs[i], List.getElem_mem _, hc⟩
      have h3 : xs.findIdx p = i := (List.findIdx_eq hi).2 ⟨hc, fun j hj => hp _ (by rw [List.mem_take_iff_getElem]; exact ⟨j, by omega, rfl⟩)⟩
      have h4 : ((i : Nat) : Int) = idxF p xs := by simp [idxF, h2, h3]
      rw [h4]
      exact hK _
    · (repeat (with_reducible (first | refine R_nil ?_ | refine C_sq ?_ | refine C_rg ?_ | refine C_bk ?_ | refine C_sk ?_ | refine C_ex ?_ | refine C_rt ?_ | refine X_nx ?_ | refine X_ex ?_ | refine X_rt ?_ | refine B_nx ?_ | refine B_self ?_ | (refine B_ne (by rfl) ?_) | refine B_rt ?_ | ((first | refine R_q (v := ?_) ?h1 ?_ | refine R_ld (v := ?_) ?h1 ?_ | refine R_isn (v := ?_) ?h1 ?_ | refine E_1 (v := ?_) ?h1 ?_ | refine E_1n (v := ?_) ?h1 ?_); case h1 => (simp only [h8, go_sem] <;> rfl)) | ((first | refine R_gt ?h1 ?_); case h1 => (simp only [h8, go_sem] <;> rfl)) | ((first | refine R_gs1 ?h1 ?_); case h1 => (simp only [h8, go_sem] <;> rfl)) | ((first | refine R_gs2 ?h1 ?_); case h1 => (simp only [h8, go_sem] <;> rfl)) | ((first | refine R_gj (vs := ?_) ?h1 ?_); case h1 => (simp only [h8, go_sem] <;> rfl)) | ((first | refine C_cdt ?h1 ?_); case h1 => (simp only [h8, go_sem] <;> rfl)) | ((first | refine C_cdf ?h1 ?_); case h1 => (simp only [h8, go_sem] <;> rfl)) | ((first | refine E_2 (v := ?_) (u := ?_) ?h1 ?h2 ?_ | refine E_2n (v := ?_) (u := ?_) ?h1 ?h2 ?_); (case h1 => (simp only [h8, go_sem] <;> rfl)); (case h2 => (simp only [h8, go_sem] <;> rfl))) | refine E_0 ?_ | refine E_0n ?_ | rw [put_some])))
      refine ⟨r - 1, by omega, i + 1, by omega, ?_, by simp only [h7, go_sem], by simp only [h0, go_sem], by simp only [h1, go_sem], ?_⟩
      · simp only [go_sem]
        rw [wrap_i64 (by omega) (by omega)]; rfl
      · intro x hx
        rw [List.take_add_one, hxi] at hx
        rcases List.mem_append.1 hx with hx | hx
        · exact hp x hx
        · simp at hx; rw [hx]; exact hc
  · (repeat (with_reducible (first | refine R_nil ?_ | refine C_sq ?_ | refine C_rg ?_ | refine C_bk ?_ | refine C_sk ?_ | refine C_ex ?_ | refine C_rt ?_ | refine X_nx ?_ | refine X_ex ?_ | refine X_rt ?_ | refine B_nx ?_ | refine B_self ?_ | (refine B_ne (by rfl) ?_) | refine B_rt ?_ | ((first | refine R_q (v := ?_) ?h1 ?_ | refine R_ld (v := ?_) ?h1 ?_ | refine R_isn (v := ?_) ?h1 ?_ | refine E_1 (v := ?_) ?h1 ?_ | refine E_1n (v := ?_) ?h1 ?_); case h1 => (simp only [go_sem] <;> rfl)) | ((first | refine R_gt ?h1 ?_); case h1 => (simp only [go_sem] <;> rfl)) | ((first | refine R_gs1 ?h1 ?_); case h1 => (simp only [go_sem] <;> rfl)) | ((first | refine R_gs2 ?h1 ?_); case h1 => (simp only [go_sem] <;> rfl)) | ((first | refine R_gj (vs := ?_) ?h1 ?_); case h1 => (simp only [go_sem] <;> rfl)) | ((first | refine C_cdt ?h1 ?_); case h1 => (simp only [go_sem] <;> rfl)) | ((first | refine C_cdf ?h1 ?_); case h1 => (simp only [go_sem] <;> rfl)) | ((first | refine E_2 (v := ?_) (u := ?_) ?h1 ?h2 ?_ | refine E_2n (v := ?_) (u := ?_) ?h1 ?h2 ?_); (case h1 => (simp only [go_sem] <;> rfl)); (case h2 => (simp only [go_sem] <;> rfl))) | refine E_0 ?_ | refine E_0n ?_ | rw [put_some])))
    have hi : i = xs.length := by
      have : ¬ i < xs.length := by simpa using hc
      omega
    subst hi
    rw [List.take_length] at hp
    have : xs.any p = false := by
      rw [Bool.eq_false_iff]
      intro h
      obtain ⟨x, hx, hpx⟩ := List.any_eq_true.1 h
      rw [hp x hx] at hpx; cases hpx
    have h4 : (-1 : Int) = idxF p xs := by simp [idxF, this]
    rw [h4]
    exact hK _

/-- slices.ContainsFunc -/
theorem cont_ok {α : Type} (enc : α → List V) (henc : ∀ x, (enc x).length = 8) (xs : List α) (hlen : xs.length < 9223372036854775808) (g : Nat) (cs : List V) (hcs : cs.all (okd 23) = true) (p : α → Bool)
    (hcall : ∀ x ∈ xs, ∃ ws, (∀ o : O, fzs o ([.ag (enc x)] ++ cs) = some ws) ∧ Call F g ws emp (fun v o' => fz o' v = some (.bo (p x)))) (o : O) (K : V → O → Prop)
    (hK : ∀ o', K (.bo (xs.any p)) o') : Call F 23 [.sl (xs.map enc), .fn g cs] o K := by
  refine Call_fn e23 rfl ?_
  dsimp only [fn23, c23]
  (repeat (with_reducible (first | refine R_nil ?_ | refine C_sq ?_ | refine C_rg ?_ | refine C_bk ?_ | refine C_sk ?_ | refine C_ex ?_ | refine C_rt ?_ | refine X_nx ?_ | refine X_ex ?_ | refine X_rt ?_ | refine B_nx ?_ | refine B_self ?_ | (refine B_ne (by rfl) ?_) | refine B_rt ?_ | ((first | refine R_q (v := ?_) ?h1 ?_ | refine R_ld (v := ?_) ?h1 ?_ | refine R_isn (v := ?_) ?h1 ?_ | refine E_1 (v := ?_) ?h1 ?_ | refine E_1n (v := ?_) ?h1 ?_); case h1 => (simp only [go_sem] <;> rfl)) | ((first | refine R_gt ?h1 ?_); case h1 => (simp only [go_sem] <;> rfl)) | ((first | refine R_gs1 ?h1 ?_); case h1 => (simp only [go_sem] <;> rfl)) | ((first | refine R_gs2 ?h1 ?_); case h1 => (simp only [go_sem] <;> rfl)) | ((first | refine R_gj (vs := ?_) ?h1 ?_); case h1 => (simp only [go_sem] <;> rfl)) | ((first | refine C_cdt ?h1 ?_); case h1 => (simp only [go_sem] <;> rfl)) | ((first | refine C_cdf ?h1 ?_); case h1 => (simp only [go_sem] <;> rfl)) | ((first | refine E_2 (v := ?_) (u := ?_) ?h1 ?h2 ?_ | refine E_2n (v := ?_) (u := ?_) ?h1 ?h2 ?_); (case h1 => (simp only [go_sem] <;> rfl)); (case h2 => (simp only [go_sem] <;> rfl))) | refine E_0 ?_ | refine E_0n ?_ | rw [put_some])))
  refine R_pcf (r := .i .i64 (idxF p xs)) rfl (ws := [.sl (xs.map enc), .fn g cs]) ?_ rfl (idx_ok enc henc xs hlen g cs p hcall emp _ (fun o' => rfl)) ?_
  · simp only [go_sem]
    exact fzs_ok (by simp [okd, FZ, hcs])
  (repeat (with_reducible (first | refine R_nil ?_ | refine C_sq ?_ | refine C_rg ?_ | refine C_bk ?_ | refine C_sk ?_ | refine C_ex ?_ | refine C_rt ?_ | refine X_nx ?_ | refine X_ex ?_ | refine X_rt ?_ | refine B_nx ?_ | refine B_self ?_ | (refine B_ne (by rfl) ?_) | refine B_rt ?_ | ((first | refine R_q (v := ?_) ?h1 ?_ | refine R_ld (v := ?_) ?h1 ?_ | refine R_isn (v := ?_) ?h1 ?_ | refine E_1 (v := ?_) ?h1 ?_ | refine E_1n (v := ?_) ?h1 ?_); case h1 => (simp only [idxF_pos, go_sem] <;> rfl)) | ((first | refine R_gt ?h1 ?_); case h1 => (simp only [idxF_pos, go_sem] <;> rfl)) | ((first | refine R_gs1 ?h1 ?_); case h1 => (simp only [idxF_pos, go_sem] <;> rfl)) | ((first | refine R_gs2 ?h1 ?_); case h1 => (simp only [idxF_pos, go_sem] <;> rfl)) | ((first | refine R_gj (vs := ?_) ?h1 ?_); case h1 => (simp only [idxF_pos, go_sem] <;> rfl)) | ((first | refine C_cdt ?h1 ?_); case h1 => (simp only [idxF_pos, go_sem] <;> rfl)) | ((first | refine C_cdf ?h1 ?_); case h1 => (simp only [idxF_pos, go_sem] <;> rfl)) | ((first | refine E_2 (v := ?_) (u := ?_) ?h1 ?h2 ?_ | refine E_2n (v := ?_) (u := ?_) ?h1 ?h2 ?_); (case h1 => (simp only [idxF_pos, go_sem] <;> rfl)); (case h2 => (simp only [idxF_pos, go_sem] <;> rfl))) | refine E_0 ?_ | refine E_0n ?_ | rw [put_some])))
  exact hK _

end Go.Proofs.Ytiadalheipbpcaa
