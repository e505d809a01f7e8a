import Derived.Test.YtiadalheipbpcaaT5

/-
  Sizes.
-/
namespace Go.Proofs.Ytiadalheipbpcaa
set_option linter.all false

mutual
def sizeF : Nd → Int → Int
  | .mk _ _ ps _ _, m => sizeL ps 1 m
def sizeL : List Nd → Int → Int → Int
  | [], k, _ => k
  | p :: ps, k, m => if k ≤ m then sizeL ps (k + sizeF p (m - k)) m else k
end

mutual
theorem sizeF_le : ∀ (n : Nd) (m : Int), 0 ≤ m → 1 ≤ sizeF n m ∧ sizeF n m ≤ m + 1
  | .mk _ _ ps _ _, m, hm => by
    have := sizeL_le ps 1 m hm (by omega) (by omega)
    simpa [sizeF] using this
theorem sizeL_le : ∀ (ps : List Nd) (k m : Int), 0 ≤ m → 1 ≤ k → k ≤ m + 1 → 1 ≤ sizeL ps k m ∧ sizeL ps k m ≤ m + 1
  | [], k, m, _, h1, h2 => by simp [sizeL]; omega
  | p :: ps, k, m, hm, h1, h2 => by
    simp only [sizeL]
    split
    · rename_i hk
      have := sizeF_le p (m - k) (by omega)
      exact sizeL_le ps _ m hm (by omega) (by omega)
    · exact ⟨h1, h2⟩
end

theorem size_ok : ∀ (n : Nd), small n → ∀ (m : Int), 0 ≤ m → m ≤ 1000 → ∀ (o : O) (K : V → O → Prop), (∀ o', K (.i .i64 (sizeF n m)) o') → Call F 14 [.ag (cel n), .i .i64 m] o K
  | .mk k s ps lo hi, hs, m, hm0, hm1, o, K, hK => by
    have ih : ∀ p ∈ ps, ∀ m, 0 ≤ m → m ≤ 1000 → Call F 14 [.ag (cel p), .i .i64 m] emp (fun v o' => fz o' v = some (.i .i64 (sizeF p m))) := by
      intro p hp m h1 h2
      exact size_ok p ((smallL_all ps).1 hs.2.2 p hp) m h1 h2 emp _ (fun _ => rfl)
    have hlen := hs.2.1
    refine Call_fn e14 rfl ?_
    dsimp only [fn14, c14]
    rw [cel_mk]
    (repeat (with_reducible (first | refine R_nil ?_ | refine C_sq ?_ | refine C_rg ?_ | refine C_bk ?_ | refine C_sk ?_ | refine C_ex ?_ | refine C_rt ?_ | refine X_nx ?_ | refine X_ex ?_ | refine X_rt ?_ | refine B_nx ?_ | refine B_self ?_ | (refine B_ne (by rfl) ?_) | refine B_rt ?_ | ((first | refine R_q (v := ?_) ?h1 ?_ | refine R_ld (v := ?_) ?h1 ?_ | refine R_isn (v := ?_) ?h1 ?_ | refine E_1 (v := ?_) ?h1 ?_ | refine E_1n (v := ?_) ?h1 ?_); case h1 => (simp only [go_sem] <;> rfl)) | ((first | refine R_gt ?h1 ?_); case h1 => (simp only [go_sem] <;> rfl)) | ((first | refine R_gs1 ?h1 ?_); case h1 => (simp only [go_sem] <;> rfl)) | ((first | refine R_gs2 ?h1 ?_); case h1 => (simp only [go_sem] <;> rfl)) | ((first | refine R_gj (vs := ?_) ?h1 ?_); case h1 => (simp only [go_sem] <;> rfl)) | ((first | refine C_cdt ?h1 ?_); case h1 => (simp only [go_sem] <;> rfl)) | ((first | refine C_cdf ?h1 ?_); case h1 => (simp only [go_sem] <;> rfl)) | ((first | refine E_2 (v := ?_) (u := ?_) ?h1 ?h2 ?_ | refine E_2n (v := ?_) (u := ?_) ?h1 ?h2 ?_); (case h1 => (simp only [go_sem] <;> rfl)); (case h2 => (simp only [go_sem] <;> rfl))) | refine E_0 ?_ | refine E_0n ?_ | rw [put_some])))
    refine R_box (by (simp only [go_sem] <;> rfl)) (by (simp only [go_sem] <;> rfl)) rfl fun id hid => ?_
    (repeat (with_reducible (first | refine R_nil ?_ | refine C_sq ?_ | refine C_rg ?_ | refine C_bk ?_ | refine C_sk ?_ | refine C_ex ?_ | refine C_rt ?_ | refine X_nx ?_ | refine X_ex ?_ | refine X_rt ?_ | refine B_nx ?_ | refine B_self ?_ | (refine B_ne (by rfl) ?_) | refine B_rt ?_ | ((first | refine R_q (v := ?_) ?h1 ?_ | refine R_ld (v := ?_) ?h1 ?_ | refine R_isn (v := ?_) ?h1 ?_ | refine E_1 (v := ?_) ?h1 ?_ | refine E_1n (v := ?_) ?h1 ?_); case h1 => (simp only [nd8, go_sem] <;> rfl)) | ((first | refine R_gt ?h1 ?_); case h1 => (simp only [nd8, go_sem] <;> rfl)) | ((first | refine R_gs1 ?h1 ?_); case h1 => (simp only [nd8, go_sem] <;> rfl)) | ((first | refine R_gs2 ?h1 ?_); case h1 => (simp only [nd8, go_sem] <;> rfl)) | ((first | refine R_gj (vs := ?_) ?h1 ?_); case h1 => (simp only [nd8, go_sem] <;> rfl)) | ((first | refine C_cdt ?h1 ?_); case h1 => (simp only [nd8, go_sem] <;> rfl)) | ((first | refine C_cdf ?h1 ?_); case h1 => (simp only [nd8, go_sem] <;> rfl)) | ((first | refine E_2 (v := ?_) (u := ?_) ?h1 ?h2 ?_ | refine E_2n (v := ?_) (u := ?_) ?h1 ?h2 ?_); (case h1 => (simp only [nd8, go_sem] <;> rfl)); (case h2 => (simp only [nd8, go_sem] <;> rfl))) | refine E_0 ?_ | refine E_0n ?_ | rw [put_some])))
    refine C_lp (fun r e o => ∃ (i : Nat) (q : Int), i + r = ps.length ∧ e 1 = .i .i64 m ∧ e 2 = .pt id 0 0 ∧ e 5 = .i .i64 q ∧ e 6 = .i .i64 i ∧ o id = some (.row 8 [nd8 k s (.sl (ps.map cel)) lo hi]) ∧ 1 ≤ q ∧ q ≤ m + 1 ∧ sizeL (ps.drop i) q m = sizeF (.mk k s ps lo hi) m) (k := ps.length) ?_ (Call_le F) ?_
    · exact ⟨0, 1, by omega, by simp only [go_sem], by simp only [go_sem], by simp only [go_sem], by (simp only [go_sem] <;> rfl), by (simp only [go_sem] <;> rfl), by omega, by omega, by simp [sizeF]⟩
    clear hid
    rintro r e o ⟨i, q, hir, h1, h2, h5, h6, ho, hq1, hq2, hsz⟩
    dsimp only [b14_0]
    (repeat (with_reducible (first | refine R_nil ?_ | refine C_sq ?_ | refine C_rg ?_ | refine C_bk ?_ | refine C_sk ?_ | refine C_ex ?_ | refine C_rt ?_ | refine X_nx ?_ | refine X_ex ?_ | refine X_rt ?_ | refine B_nx ?_ | refine B_self ?_ | (refine B_ne (by rfl) ?_) | refine B_rt ?_ | ((first | refine R_q (v := ?_) ?h1 ?_ | refine R_ld (v := ?_) ?h1 ?_ | refine R_isn (v := ?_) ?h1 ?_ | refine E_1 (v := ?_) ?h1 ?_ | refine E_1n (v := ?_) ?h1 ?_); case h1 => (simp only [h1, h2, h5, h6, ho, nd8, List.length_map, go_sem] <;> rfl)) | ((first | refine R_gt ?h1 ?_); case h1 => (simp only [h1, h2, h5, h6, ho, nd8, List.length_map, go_sem] <;> rfl)) | ((first | refine R_gs1 ?h1 ?_); case h1 => (simp only [h1, h2, h5, h6, ho, nd8, List.length_map, go_sem] <;> rfl)) | ((first | refine R_gs2 ?h1 ?_); case h1 => (simp only [h1, h2, h5, h6, ho, nd8, List.length_map, go_sem] <;> rfl)) | ((first | refine R_gj (vs := ?_) ?h1 ?_); case h1 => (simp only [h1, h2, h5, h6, ho, nd8, List.length_map, go_sem] <;> rfl)) | ((first | refine C_cdt ?h1 ?_); case h1 => (simp only [h1, h2, h5, h6, ho, nd8, List.length_map, go_sem] <;> rfl)) | ((first | refine C_cdf ?h1 ?_); case h1 => (simp only [h1, h2, h5, h6, ho, nd8, List.length_map, go_sem] <;> rfl)) | ((first | refine E_2 (v := ?_) (u := ?_) ?h1 ?h2 ?_ | refine E_2n (v := ?_) (u := ?_) ?h1 ?h2 ?_); (case h1 => (simp only [h1, h2, h5, h6, ho, nd8, List.length_map, go_sem] <;> rfl)); (case h2 => (simp only [h1, h2, h5, h6, ho, nd8, List.length_map, go_sem] <;> rfl))) | refine E_0 ?_ | refine E_0n ?_ | rw [put_some])))
    refine R_gb (q := decide ((i : Int) < (ps.length : Int))) (by simp only [go_sem]) (fun hc => ?_) (fun hc => ?_)
    · have hil : i < ps.length := by simpa using hc
      have hxi : ps[i]? = some ps[i] := List.getElem?_eq_getElem hil
      have hdrop : ps.drop i = ps[i] :: ps.drop (i + 1) := List.drop_eq_getElem_cons hil
      (repeat (with_reducible (first | refine R_nil ?_ | refine C_sq ?_ | refine C_rg ?_ | refine C_bk ?_ | refine C_sk ?_ | refine C_ex ?_ | refine C_rt ?_ | refine X_nx ?_ | refine X_ex ?_ | refine X_rt ?_ | refine B_nx ?_ | refine B_self ?_ | (refine B_ne (by rfl) ?_) | refine B_rt ?_ | ((first | refine R_q (v := ?_) ?h1 ?_ | refine R_ld (v := ?_) ?h1 ?_ | refine R_isn (v := ?_) ?h1 ?_ | refine E_1 (v := ?_) ?h1 ?_ | refine E_1n (v := ?_) ?h1 ?_); case h1 => (simp only [h1, h2, h5, h6, ho, nd8, List.length_map, go_sem] <;> rfl)) | ((first | refine R_gt ?h1 ?_); case h1 => (simp only [h1, h2, h5, h6, ho, nd8, List.length_map, go_sem] <;> rfl)) | ((first | refine R_gs1 ?h1 ?_); case h1 => (simp only [h1, h2, h5, h6, ho, nd8, List.length_map, go_sem] <;> rfl)) | ((first | refine R_gs2 ?h1 ?_); case h1 => (simp only [h1, h2, h5, h6, ho, nd8, List.length_map, go_sem] <;> rfl)) | ((first | refine R_gj (vs := ?_) ?h1 ?_); case h1 => (simp only [h1, h2, h5, h6, ho, nd8, List.length_map, go_sem] <;> rfl)) | ((first | refine C_cdt ?h1 ?_); case h1 => (simp only [h1, h2, h5, h6, ho, nd8, List.length_map, go_sem] <;> rfl)) | ((first | refine C_cdf ?h1 ?_); case h1 => (simp only [h1, h2, h5, h6, ho, nd8, List.length_map, go_sem] <;> rfl)) | ((first | refine E_2 (v := ?_) (u := ?_) ?h1 ?h2 ?_ | refine E_2n (v := ?_) (u := ?_) ?h1 ?h2 ?_); (case h1 => (simp only [h1, h2, h5, h6, ho, nd8, List.length_map, go_sem] <;> rfl)); (case h2 => (simp only [h1, h2, h5, h6, ho, nd8, List.length_map, go_sem] <;> rfl))) | refine E_0 ?_ | refine E_0n ?_ | rw [put_some])))
      refine C_cdb (q := decide (q ≤ m)) (by simp only [h1, h5, go_sem]) (fun hc2 => ?_) (fun hc2 => ?_)
      · have hqm : q ≤ m := by simpa using hc2
        have hb := sizeF_le ps[i] (m - q) (by omega)
        (repeat (with_reducible (first | refine R_nil ?_ | refine C_sq ?_ | refine C_rg ?_ | refine C_bk ?_ | refine C_sk ?_ | refine C_ex ?_ | refine C_rt ?_ | refine X_nx ?_ | refine X_ex ?_ | refine X_rt ?_ | refine B_nx ?_ | refine B_self ?_ | (refine B_ne (by rfl) ?_) | refine B_rt ?_ | ((first | refine R_q (v := ?_) ?h1 ?_ | refine R_ld (v := ?_) ?h1 ?_ | refine R_isn (v := ?_) ?h1 ?_ | refine E_1 (v := ?_) ?h1 ?_ | refine E_1n (v := ?_) ?h1 ?_); case h1 => (simp only [h1, h2, h5, h6, ho, nd8, go_sem] <;> rfl)) | ((first | refine R_gt ?h1 ?_); case h1 => (simp only [h1, h2, h5, h6, ho, nd8, go_sem] <;> rfl)) | ((first | refine R_gs1 ?h1 ?_); case h1 => (simp only [h1, h2, h5, h6, ho, nd8, go_sem] <;> rfl)) | ((first | refine R_gs2 ?h1 ?_); case h1 => (simp only [h1, h2, h5, h6, ho, nd8, go_sem] <;> rfl)) | ((first | refine R_gj (vs := ?_) ?h1 ?_); case h1 => (simp only [h1, h2, h5, h6, ho, nd8, go_sem] <;> rfl)) | ((first | refine C_cdt ?h1 ?_); case h1 => (simp only [h1, h2, h5, h6, ho, nd8, go_sem] <;> rfl)) | ((first | refine C_cdf ?h1 ?_); case h1 => (simp only [h1, h2, h5, h6, ho, nd8, go_sem] <;> rfl)) | ((first | refine E_2 (v := ?_) (u := ?_) ?h1 ?h2 ?_ | refine E_2n (v := ?_) (u := ?_) ?h1 ?h2 ?_); (case h1 => (simp only [h1, h2, h5, h6, ho, nd8, go_sem] <;> rfl)); (case h2 => (simp only [h1, h2, h5, h6, ho, nd8, go_sem] <;> rfl))) | refine E_0 ?_ | refine E_0n ?_ | rw [put_some])))
        refine R_q (v := .ip (cel ps[i]) 0) (by simp only [h6, go_sem]; rw [if_pos (by omega)]; simp [hxi, cel_len]) ?_
        refine R_ld (v := .ag (cel ps[i])) (by simp only [go_sem]; simp [cel_len]; exact List.take_of_length_le (by rw [cel_len]; omega)) ?_
        have hw : IntKind.i64.wrap (m - q) = m - q := wrap_i64 (by omega) (by omega)
        (repeat (with_reducible (first | refine R_nil ?_ | refine C_sq ?_ | refine C_rg ?_ | refine C_bk ?_ | refine C_sk ?_ | refine C_ex ?_ | refine C_rt ?_ | refine X_nx ?_ | refine X_ex ?_ | refine X_rt ?_ | refine B_nx ?_ | refine B_self ?_ | (refine B_ne (by rfl) ?_) | refine B_rt ?_ | ((first | refine R_q (v := ?_) ?h1 ?_ | refine R_ld (v := ?_) ?h1 ?_ | refine R_isn (v := ?_) ?h1 ?_ | refine E_1 (v := ?_) ?h1 ?_ | refine E_1n (v := ?_) ?h1 ?_); case h1 => (simp only [h1, h5, hw, go_sem] <;> rfl)) | ((first | refine R_gt ?h1 ?_); case h1 => (simp only [h1, h5, hw, go_sem] <;> rfl)) | ((first | refine R_gs1 ?h1 ?_); case h1 => (simp only [h1, h5, hw, go_sem] <;> rfl)) | ((first | refine R_gs2 ?h1 ?_); case h1 => (simp only [h1, h5, hw, go_sem] <;> rfl)) | ((first | refine R_gj (vs := ?_) ?h1 ?_); case h1 => (simp only [h1, h5, hw, go_sem] <;> rfl)) | ((first | refine C_cdt ?h1 ?_); case h1 => (simp only [h1, h5, hw, go_sem] <;> rfl)) | ((first | refine C_cdf ?h1 ?_); case h1 => (simp only [h1, h5, hw, go_sem] <;> rfl)) | ((first | refine E_2 (v := ?_) (u := ?_) ?h1 ?h2 ?_ | refine E_2n (v := ?_) (u := ?_) ?h1 ?h2 ?_); (case h1 => (simp only [h1, h5, hw, go_sem] <;> rfl)); (case h2 => (simp only [h1, h5, hw, go_sem] <;> rfl))) | refine E_0 ?_ | refine E_0n ?_ | rw [put_some])))
        refine R_pcf (g := 14) (r := .i .i64 (sizeF ps[i] (m - q))) (vs := [.ag (cel ps[i]), .i .i64 (m - q)]) (ws := [.ag (cel ps[i]), .i .i64 (m - q)]) (by simp only [go_sem]) (fzs_ok (by simp [FZ, okd, cel_okd])) rfl (ih _ (List.getElem_mem _) _ (by omega) (by omega)) ?_
        have hw2 : IntKind.i64.wrap (q + sizeF ps[i] (m - q)) = q + sizeF ps[i] (m - q) := wrap_i64 (by omega) (by omega)
        (repeat (with_reducible (first | refine R_nil ?_ | refine C_sq ?_ | refine C_rg ?_ | refine C_bk ?_ | refine C_sk ?_ | refine C_ex ?_ | refine C_rt ?_ | refine X_nx ?_ | refine X_ex ?_ | refine X_rt ?_ | refine B_nx ?_ | refine B_self ?_ | (refine B_ne (by rfl) ?_) | refine B_rt ?_ | ((first | refine R_q (v := ?_) ?h1 ?_ | refine R_ld (v := ?_) ?h1 ?_ | refine R_isn (v := ?_) ?h1 ?_ | refine E_1 (v := ?_) ?h1 ?_ | refine E_1n (v := ?_) ?h1 ?_); case h1 => (simp only [h5, h6, hw2, go_sem] <;> rfl)) | ((first | refine R_gt ?h1 ?_); case h1 => (simp only [h5, h6, hw2, go_sem] <;> rfl)) | ((first | refine R_gs1 ?h1 ?_); case h1 => (simp only [h5, h6, hw2, go_sem] <;> rfl)) | ((first | refine R_gs2 ?h1 ?_); case h1 => (simp only [h5, h6, hw2, go_sem] <;> rfl)) | ((first | refine R_gj (vs := ?_) ?h1 ?_); case h1 => (simp only [h5, h6, hw2, go_sem] <;> rfl)) | ((first | refine C_cdt ?h1 ?_); case h1 => (simp only [h5, h6, hw2, go_sem] <;> rfl)) | ((first | refine C_cdf ?h1 ?_); case h1 => (simp only [h5, h6, hw2, go_sem] <;> rfl)) | ((first | refine E_2 (v := ?_) (u := ?_) ?h1 ?h2 ?_ | refine E_2n (v := ?_) (u := ?_) ?h1 ?h2 ?_); (case h1 => (simp only [h5, h6, hw2, go_sem] <;> rfl)); (case h2 => (simp only [h5, h6, hw2, go_sem] <;> rfl))) | refine E_0 ?_ | refine E_0n ?_ | rw [put_some])))
        refine ⟨r - 1, by omega, i + 1, q + sizeF ps[i] (m - q), by omega, by simp only [h1, go_sem], by simp only [h2, go_sem], by simp only [go_sem], ?_, ho, by omega, by omega, ?_⟩
        · simp only [go_sem]
          rw [wrap_i64 (by omega) (by omega)]; rfl
        · rw [← hsz, hdrop]
          simp [sizeL, hqm]
      · have hqm : ¬ q ≤ m := by simpa using hc2
        (repeat (with_reducible (first | refine R_nil ?_ | refine C_sq ?_ | refine C_rg ?_ | refine C_bk ?_ | refine C_sk ?_ | refine C_ex ?_ | refine C_rt ?_ | refine X_nx ?_ | refine X_ex ?_ | refine X_rt ?_ | refine B_nx ?_ | refine B_self ?_ | (refine B_ne (by rfl) ?_) | refine B_rt ?_ | ((first | refine R_q (v := ?_) ?h1 ?_ | refine R_ld (v := ?_) ?h1 ?_ | refine R_isn (v := ?_) ?h1 ?_ | refine E_1 (v := ?_) ?h1 ?_ | refine E_1n (v := ?_) ?h1 ?_); case h1 => (simp only [h5, go_sem] <;> rfl)) | ((first | refine R_gt ?h1 ?_); case h1 => (simp only [h5, go_sem] <;> rfl)) | ((first | refine R_gs1 ?h1 ?_); case h1 => (simp only [h5, go_sem] <;> rfl)) | ((first | refine R_gs2 ?h1 ?_); case h1 => (simp only [h5, go_sem] <;> rfl)) | ((first | refine R_gj (vs := ?_) ?h1 ?_); case h1 => (simp only [h5, go_sem] <;> rfl)) | ((first | refine C_cdt ?h1 ?_); case h1 => (simp only [h5, go_sem] <;> rfl)) | ((first | refine C_cdf ?h1 ?_); case h1 => (simp only [h5, go_sem] <;> rfl)) | ((first | refine E_2 (v := ?_) (u := ?_) ?h1 ?h2 ?_ | refine E_2n (v := ?_) (u := ?_) ?h1 ?h2 ?_); (case h1 => (simp only [h5, go_sem] <;> rfl)); (case h2 => (simp only [h5, go_sem] <;> rfl))) | refine E_0 ?_ | refine E_0n ?_ | rw [put_some])))
        have : sizeF (.mk k s ps lo hi) m = q := by rw [← hsz, hdrop]; simp [sizeL, hqm]
        rw [← this]
        exact hK _
    · (repeat (with_reducible (first | refine R_nil ?_ | refine C_sq ?_ | refine C_rg ?_ | refine C_bk ?_ | refine C_sk ?_ | refine C_ex ?_ | refine C_rt ?_ | refine X_nx ?_ | refine X_ex ?_ | refine X_rt ?_ | refine B_nx ?_ | refine B_self ?_ | (refine B_ne (by rfl) ?_) | refine B_rt ?_ | ((first | refine R_q (v := ?_) ?h1 ?_ | refine R_ld (v := ?_) ?h1 ?_ | refine R_isn (v := ?_) ?h1 ?_ | refine E_1 (v := ?_) ?h1 ?_ | refine E_1n (v := ?_) ?h1 ?_); case h1 => (simp only [h1, h5, h6, ho, nd8, List.length_map, go_sem] <;> rfl)) | ((first | refine R_gt ?h1 ?_); case h1 => (simp only [h1, h5, h6, ho, nd8, List.length_map, go_sem] <;> rfl)) | ((first | refine R_gs1 ?h1 ?_); case h1 => (simp only [h1, h5, h6, ho, nd8, List.length_map, go_sem] <;> rfl)) | ((first | refine R_gs2 ?h1 ?_); case h1 => (simp only [h1, h5, h6, ho, nd8, List.length_map, go_sem] <;> rfl)) | ((first | refine R_gj (vs := ?_) ?h1 ?_); case h1 => (simp only [h1, h5, h6, ho, nd8, List.length_map, go_sem] <;> rfl)) | ((first | refine C_cdt ?h1 ?_); case h1 => (simp only [h1, h5, h6, ho, nd8, List.length_map, go_sem] <;> rfl)) | ((first | refine C_cdf ?h1 ?_); case h1 => (simp only [h1, h5, h6, ho, nd8, List.length_map, go_sem] <;> rfl)) | ((first | refine E_2 (v := ?_) (u := ?_) ?h1 ?h2 ?_ | refine E_2n (v := ?_) (u := ?_) ?h1 ?h2 ?_); (case h1 => (simp only [h1, h5, h6, ho, nd8, List.length_map, go_sem] <;> rfl)); (case h2 => (simp only [h1, h5, h6, ho, nd8, List.length_map, go_sem] <;> rfl))) | refine E_0 ?_ | refine E_0n ?_ | rw [put_some])))
      have hil : i = ps.length := by
        have : ¬ i < ps.length := by simpa using hc
        omega
      subst hil
      have : sizeF (.mk k s ps lo hi) m = q := by rw [← hsz]; simp [sizeL]
      rw [← this]
      exact hK _
termination_by n => SizeOf.sizeOf n
decreasing_by
  have := List.sizeOf_lt_of_mem hp
  simp; omega

end Go.Proofs.Ytiadalheipbpcaa
