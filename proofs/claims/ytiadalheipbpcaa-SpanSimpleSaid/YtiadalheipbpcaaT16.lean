import Derived.Test.YtiadalheipbpcaaT15

/-
  span.Spans: the inner loop.
-/
namespace Go.Proofs.Ytiadalheipbpcaa
set_option linter.all false

def blR (p : Nat → Bool) (j : Nat) : List (List V) := (List.range j).map fun k => [.bo (p k)]
theorem blR_len (p : Nat → Bool) (j : Nat) : (blR p j).length = j := by simp [blR]
theorem blR_succ (p : Nat → Bool) (j : Nat) : blR p (j + 1) = blR p j ++ [[.bo (p j)]] := by simp [blR, List.range_succ]

theorem inner_ok (p : Nat → Bool) (n : Nat) (hn0 : 0 < n) (hn : n ≤ 256) (K : X → E → O → Prop) (e0 : E) (o0 : O) (id8 : Nat) (h8 : e0 8 = .pt id8 0 0) (ho8 : o0 id8 = some (.row 4 [row p])) (h9 : e0 9 = .nil) (h29 : e0 29 = .i .i64 n) (h30 : e0 30 = .i .i64 0)
    (hK : ∀ e o idl, e 9 = .rw idl 1 0 n → o idl = some (.row 1 (blR p n)) → o0 idl = none → Old o0 o → e 1 = e0 1 → e 2 = e0 2 → e 6 = e0 6 → e 21 = e0 21 → e 22 = e0 22 → e 23 = e0 23 → K (.ex 3) e o) : wpC (Call F) (.lp b17_0) K e0 o0 := by
  refine C_lp (fun r e o' => ∃ j : Nat, j + r = n ∧ e 8 = .pt id8 0 0 ∧ e 29 = .i .i64 n ∧ e 30 = .i .i64 j ∧ ((j = 0 ∧ e 9 = .nil) ∨ (∃ idl, 0 < j ∧ e 9 = .rw idl 1 0 j ∧ o' idl = some (.row 1 (blR p j)) ∧ o0 idl = none)) ∧ Old o0 o' ∧
    e 1 = e0 1 ∧ e 2 = e0 2 ∧ e 6 = e0 6 ∧ e 21 = e0 21 ∧ e 22 = e0 22 ∧ e 23 = e0 23) (k := n) ?_ (Call_le F) ?_
  · exact ⟨0, by omega, h8, h29, h30, .inl ⟨rfl, h9⟩, fun _ _ h => h, rfl, rfl, rfl, rfl, rfl, rfl⟩
  clear h8 h9 h29 h30
  rintro r e o' ⟨j, hjr, h8, h29, h30, h9, hold, k1, k2, k6, k21, k22, k23⟩
  have ho8' := hold _ _ ho8
  dsimp only [b17_0]
  (repeat (with_reducible (first | refine R_nil ?_ | refine C_sq ?_ | refine C_rg ?_ | refine C_bk ?_ | refine C_sk ?_ | refine C_ex ?_ | refine C_rt ?_ | refine X_nx ?_ | refine X_ex ?_ | refine X_rt ?_ | refine B_nx ?_ | refine B_self ?_ | (refine B_ne (by rfl) ?_) | refine B_rt ?_ | ((first | refine R_q (v := ?_) ?h1 ?_ | refine R_ld (v := ?_) ?h1 ?_ | refine R_isn (v := ?_) ?h1 ?_ | refine E_1 (v := ?_) ?h1 ?_ | refine E_1n (v := ?_) ?h1 ?_); case h1 => (simp only [h29, h30, go_sem] <;> rfl)) | ((first | refine R_gt ?h1 ?_); case h1 => (simp only [h29, h30, go_sem] <;> rfl)) | ((first | refine R_gs1 ?h1 ?_); case h1 => (simp only [h29, h30, go_sem] <;> rfl)) | ((first | refine R_gs2 ?h1 ?_); case h1 => (simp only [h29, h30, go_sem] <;> rfl)) | ((first | refine R_gj (vs := ?_) ?h1 ?_); case h1 => (simp only [h29, h30, go_sem] <;> rfl)) | ((first | refine C_cdt ?h1 ?_); case h1 => (simp only [h29, h30, go_sem] <;> rfl)) | ((first | refine C_cdf ?h1 ?_); case h1 => (simp only [h29, h30, go_sem] <;> rfl)) | ((first | refine E_2 (v := ?_) (u := ?_) ?h1 ?h2 ?_ | refine E_2n (v := ?_) (u := ?_) ?h1 ?h2 ?_); (case h1 => (simp only [h29, h30, go_sem] <;> rfl)); (case h2 => (simp only [h29, h30, go_sem] <;> rfl))) | refine E_0 ?_ | refine E_0n ?_ | rw [put_some])))
  refine C_cdb (q := decide ((j : Int) < (n : Int))) (by simp only [go_sem]) (fun hc => ?_) (fun hc => ?_)
  · have hj : j < n := by simpa using hc
    have hw1 : IntKind.i64.wrap ((j : Int) + 1) = ((j + 1 : Nat) : Int) := by rw [wrap_i64 (by omega) (by omega)]; rfl
    have hcall : ∀ q : Nat, q < 256 → Call F 21 [.ag (row p), .i .i64 (q : Int)] emp (fun v o' => fz o' v = some (.bo (p q))) := fun q hq => rhas_ok p q hq emp _ (fun _ => rfl)
    rcases h9 with ⟨rfl, h9⟩ | ⟨idl, hj0, h9, hol, hon⟩
    · (repeat (with_reducible (first | refine R_nil ?_ | refine C_sq ?_ | refine C_rg ?_ | refine C_bk ?_ | refine C_sk ?_ | refine C_ex ?_ | refine C_rt ?_ | refine X_nx ?_ | refine X_ex ?_ | refine X_rt ?_ | refine B_nx ?_ | refine B_self ?_ | (refine B_ne (by rfl) ?_) | refine B_rt ?_ | ((first | refine R_q (v := ?_) ?h1 ?_ | refine R_ld (v := ?_) ?h1 ?_ | refine R_isn (v := ?_) ?h1 ?_ | refine E_1 (v := ?_) ?h1 ?_ | refine E_1n (v := ?_) ?h1 ?_); case h1 => (simp only [h8, h9, h30, ho8', row, u4, List.drop_zero, List.take_succ_cons, List.take_zero, go_sem] <;> rfl)) | ((first | refine R_gt ?h1 ?_); case h1 => (simp only [h8, h9, h30, ho8', row, u4, List.drop_zero, List.take_succ_cons, List.take_zero, go_sem] <;> rfl)) | ((first | refine R_gs1 ?h1 ?_); case h1 => (simp only [h8, h9, h30, ho8', row, u4, List.drop_zero, List.take_succ_cons, List.take_zero, go_sem] <;> rfl)) | ((first | refine R_gs2 ?h1 ?_); case h1 => (simp only [h8, h9, h30, ho8', row, u4, List.drop_zero, List.take_succ_cons, List.take_zero, go_sem] <;> rfl)) | ((first | refine R_gj (vs := ?_) ?h1 ?_); case h1 => (simp only [h8, h9, h30, ho8', row, u4, List.drop_zero, List.take_succ_cons, List.take_zero, go_sem] <;> rfl)) | ((first | refine C_cdt ?h1 ?_); case h1 => (simp only [h8, h9, h30, ho8', row, u4, List.drop_zero, List.take_succ_cons, List.take_zero, go_sem] <;> rfl)) | ((first | refine C_cdf ?h1 ?_); case h1 => (simp only [h8, h9, h30, ho8', row, u4, List.drop_zero, List.take_succ_cons, List.take_zero, go_sem] <;> rfl)) | ((first | refine E_2 (v := ?_) (u := ?_) ?h1 ?h2 ?_ | refine E_2n (v := ?_) (u := ?_) ?h1 ?h2 ?_); (case h1 => (simp only [h8, h9, h30, ho8', row, u4, List.drop_zero, List.take_succ_cons, List.take_zero, go_sem] <;> rfl)); (case h2 => (simp only [h8, h9, h30, ho8', row, u4, List.drop_zero, List.take_succ_cons, List.take_zero, go_sem] <;> rfl))) | refine E_0 ?_ | refine E_0n ?_ | rw [put_some])))
      refine R_pcf (g := 21) (r := .bo (p 0)) (vs := [.ag (row p), .i .i64 ((0 : Nat) : Int)]) (ws := [.ag (row p), .i .i64 ((0 : Nat) : Int)]) (by (simp only [go_sem] <;> rfl)) (fzs_ok (by rfl)) rfl (hcall 0 (by omega)) ?_
      refine R_bsl (es := [[.bo (p 0)]]) rfl (by (simp only [go_sem] <;> rfl)) fun idb hidb => ?_
      refine R_appn (yv := .rw idb 1 0 1) (ys := [[.bo (p 0)]]) (by simp only [h9, go_sem]) (by simp only [go_sem]) (by simp [src, upd]) (by simp) (by simp) ⟨by simp, by omega⟩ fun idl hidl => ?_
      have hon : o0 idl = none := by
        cases h : o0 idl with
        | none => rfl
        | some ob =>
          have h2 := hold _ _ h
          have hne : idl ≠ idb := fun hh => by rw [hh, hidb] at h2; cases h2
          rw [upd_ne _ _ _ _ (by simpa using hne), h2] at hidl; cases hidl
      (repeat (with_reducible (first | refine R_nil ?_ | refine C_sq ?_ | refine C_rg ?_ | refine C_bk ?_ | refine C_sk ?_ | refine C_ex ?_ | refine C_rt ?_ | refine X_nx ?_ | refine X_ex ?_ | refine X_rt ?_ | refine B_nx ?_ | refine B_self ?_ | (refine B_ne (by rfl) ?_) | refine B_rt ?_ | ((first | refine R_q (v := ?_) ?h1 ?_ | refine R_ld (v := ?_) ?h1 ?_ | refine R_isn (v := ?_) ?h1 ?_ | refine E_1 (v := ?_) ?h1 ?_ | refine E_1n (v := ?_) ?h1 ?_); case h1 => (simp only [h30, hw1, go_sem] <;> rfl)) | ((first | refine R_gt ?h1 ?_); case h1 => (simp only [h30, hw1, go_sem] <;> rfl)) | ((first | refine R_gs1 ?h1 ?_); case h1 => (simp only [h30, hw1, go_sem] <;> rfl)) | ((first | refine R_gs2 ?h1 ?_); case h1 => (simp only [h30, hw1, go_sem] <;> rfl)) | ((first | refine R_gj (vs := ?_) ?h1 ?_); case h1 => (simp only [h30, hw1, go_sem] <;> rfl)) | ((first | refine C_cdt ?h1 ?_); case h1 => (simp only [h30, hw1, go_sem] <;> rfl)) | ((first | refine C_cdf ?h1 ?_); case h1 => (simp only [h30, hw1, go_sem] <;> rfl)) | ((first | refine E_2 (v := ?_) (u := ?_) ?h1 ?h2 ?_ | refine E_2n (v := ?_) (u := ?_) ?h1 ?h2 ?_); (case h1 => (simp only [h30, hw1, go_sem] <;> rfl)); (case h2 => (simp only [h30, hw1, go_sem] <;> rfl))) | refine E_0 ?_ | refine E_0n ?_ | rw [put_some])))
      refine ⟨r - 1, by omega, 1, by omega, by simp only [h8, go_sem], by simp only [h29, go_sem], by simp only [(show IntKind.i64.wrap 1 = 1 from by decide), go_sem], .inr ⟨idl, by omega, by (simp only [go_sem] <;> rfl), by rw [upd_eq]; rfl, hon⟩, fun q ob hq => ?_, by simp only [k1, go_sem], by simp only [k2, go_sem], by simp only [k6, go_sem], by simp only [k21, go_sem], by simp only [k22, go_sem], by simp only [k23, go_sem]⟩
      have h2 := hold _ _ hq
      have n1 : q ≠ idl := fun hh => by rw [hh, hon] at hq; cases hq
      have n2 : q ≠ idb := fun hh => by rw [hh, hidb] at h2; cases h2
      rw [upd_ne _ _ _ _ (by simpa using n1), upd_ne _ _ _ _ (by simpa using n2)]; exact h2
    · (repeat (with_reducible (first | refine R_nil ?_ | refine C_sq ?_ | refine C_rg ?_ | refine C_bk ?_ | refine C_sk ?_ | refine C_ex ?_ | refine C_rt ?_ | refine X_nx ?_ | refine X_ex ?_ | refine X_rt ?_ | refine B_nx ?_ | refine B_self ?_ | (refine B_ne (by rfl) ?_) | refine B_rt ?_ | ((first | refine R_q (v := ?_) ?h1 ?_ | refine R_ld (v := ?_) ?h1 ?_ | refine R_isn (v := ?_) ?h1 ?_ | refine E_1 (v := ?_) ?h1 ?_ | refine E_1n (v := ?_) ?h1 ?_); case h1 => (simp only [h8, h9, h30, ho8', row, u4, List.drop_zero, List.take_succ_cons, List.take_zero, go_sem] <;> rfl)) | ((first | refine R_gt ?h1 ?_); case h1 => (simp only [h8, h9, h30, ho8', row, u4, List.drop_zero, List.take_succ_cons, List.take_zero, go_sem] <;> rfl)) | ((first | refine R_gs1 ?h1 ?_); case h1 => (simp only [h8, h9, h30, ho8', row, u4, List.drop_zero, List.take_succ_cons, List.take_zero, go_sem] <;> rfl)) | ((first | refine R_gs2 ?h1 ?_); case h1 => (simp only [h8, h9, h30, ho8', row, u4, List.drop_zero, List.take_succ_cons, List.take_zero, go_sem] <;> rfl)) | ((first | refine R_gj (vs := ?_) ?h1 ?_); case h1 => (simp only [h8, h9, h30, ho8', row, u4, List.drop_zero, List.take_succ_cons, List.take_zero, go_sem] <;> rfl)) | ((first | refine C_cdt ?h1 ?_); case h1 => (simp only [h8, h9, h30, ho8', row, u4, List.drop_zero, List.take_succ_cons, List.take_zero, go_sem] <;> rfl)) | ((first | refine C_cdf ?h1 ?_); case h1 => (simp only [h8, h9, h30, ho8', row, u4, List.drop_zero, List.take_succ_cons, List.take_zero, go_sem] <;> rfl)) | ((first | refine E_2 (v := ?_) (u := ?_) ?h1 ?h2 ?_ | refine E_2n (v := ?_) (u := ?_) ?h1 ?h2 ?_); (case h1 => (simp only [h8, h9, h30, ho8', row, u4, List.drop_zero, List.take_succ_cons, List.take_zero, go_sem] <;> rfl)); (case h2 => (simp only [h8, h9, h30, ho8', row, u4, List.drop_zero, List.take_succ_cons, List.take_zero, go_sem] <;> rfl))) | refine E_0 ?_ | refine E_0n ?_ | rw [put_some])))
      refine R_pcf (g := 21) (r := .bo (p j)) (vs := [.ag (row p), .i .i64 (j : Int)]) (ws := [.ag (row p), .i .i64 (j : Int)]) (by (simp only [go_sem] <;> rfl)) (fzs_ok (by rfl)) rfl (hcall j (by omega)) ?_
      refine R_bsl (es := [[.bo (p j)]]) rfl (by (simp only [go_sem] <;> rfl)) fun idb hidb => ?_
      have hlb : idl ≠ idb := fun hh => by rw [hh, hidb] at hol; cases hol
      have hol2 : ∀ z, upd o' idb z idl = some (.row 1 (blR p j)) := fun z => by rw [upd_ne _ _ _ _ (by simpa using hlb)]; exact hol
      refine R_appr (id0 := idl) (len := j) (yv := .rw idb 1 0 1) (ys := [[.bo (p j)]]) (by simp only [h9, go_sem]) (hol2 _) (by rw [blR_len]; omega) (by simp only [go_sem]) (by simp [src, upd]) (by simp) (by simp) ⟨by simp; omega, by omega⟩ fun id2 hid2 => ?_
      have hon2 : o0 id2 = none := by
        cases h : o0 id2 with
        | none => rfl
        | some ob =>
          have h2 := hold _ _ h
          have hne : id2 ≠ idb := fun hh => by rw [hh, hidb] at h2; cases h2
          have hnl : id2 ≠ idl := fun hh => by rw [hh, hon] at h; cases h
          rw [upd_ne _ _ _ _ (by simpa using hnl), upd_ne _ _ _ _ (by simpa using hne), h2] at hid2; cases hid2
      (repeat (with_reducible (first | refine R_nil ?_ | refine C_sq ?_ | refine C_rg ?_ | refine C_bk ?_ | refine C_sk ?_ | refine C_ex ?_ | refine C_rt ?_ | refine X_nx ?_ | refine X_ex ?_ | refine X_rt ?_ | refine B_nx ?_ | refine B_self ?_ | (refine B_ne (by rfl) ?_) | refine B_rt ?_ | ((first | refine R_q (v := ?_) ?h1 ?_ | refine R_ld (v := ?_) ?h1 ?_ | refine R_isn (v := ?_) ?h1 ?_ | refine E_1 (v := ?_) ?h1 ?_ | refine E_1n (v := ?_) ?h1 ?_); case h1 => (simp only [h30, hw1, go_sem] <;> rfl)) | ((first | refine R_gt ?h1 ?_); case h1 => (simp only [h30, hw1, go_sem] <;> rfl)) | ((first | refine R_gs1 ?h1 ?_); case h1 => (simp only [h30, hw1, go_sem] <;> rfl)) | ((first | refine R_gs2 ?h1 ?_); case h1 => (simp only [h30, hw1, go_sem] <;> rfl)) | ((first | refine R_gj (vs := ?_) ?h1 ?_); case h1 => (simp only [h30, hw1, go_sem] <;> rfl)) | ((first | refine C_cdt ?h1 ?_); case h1 => (simp only [h30, hw1, go_sem] <;> rfl)) | ((first | refine C_cdf ?h1 ?_); case h1 => (simp only [h30, hw1, go_sem] <;> rfl)) | ((first | refine E_2 (v := ?_) (u := ?_) ?h1 ?h2 ?_ | refine E_2n (v := ?_) (u := ?_) ?h1 ?h2 ?_); (case h1 => (simp only [h30, hw1, go_sem] <;> rfl)); (case h2 => (simp only [h30, hw1, go_sem] <;> rfl))) | refine E_0 ?_ | refine E_0n ?_ | rw [put_some])))
      refine ⟨r - 1, by omega, j + 1, by omega, by simp only [h8, go_sem], by simp only [h29, go_sem], by simp only [go_sem], .inr ⟨id2, by omega, by simp only [go_sem], ?_, hon2⟩, fun q ob hq => ?_, by simp only [k1, go_sem], by simp only [k2, go_sem], by simp only [k6, go_sem], by simp only [k21, go_sem], by simp only [k22, go_sem], by simp only [k23, go_sem]⟩
      · rw [upd_eq, blR_succ]
        have : (blR p j).take j = blR p j := List.take_of_length_le (by rw [blR_len]; omega)
        rw [this]
      · have h2 := hold _ _ hq
        have n1 : q ≠ id2 := fun hh => by rw [hh, hon2] at hq; cases hq
        have n2 : q ≠ idb := fun hh => by rw [hh, hidb] at h2; cases h2
        have n3 : q ≠ idl := fun hh => by rw [hh, hon] at hq; cases hq
        rw [upd_ne _ _ _ _ (by simpa using n1), upd_ne _ _ _ _ (by simpa using n3), upd_ne _ _ _ _ (by simpa using n2)]; exact h2
  · have hj : j = n := by
      have : ¬ j < n := by simpa using hc
      omega
    subst hj
    rcases h9 with ⟨hj0, _⟩ | ⟨idl, _, h9, hol, hon⟩
    · omega
    · (repeat (with_reducible (first | refine R_nil ?_ | refine C_sq ?_ | refine C_rg ?_ | refine C_bk ?_ | refine C_sk ?_ | refine C_ex ?_ | refine C_rt ?_ | refine X_nx ?_ | refine X_ex ?_ | refine X_rt ?_ | refine B_nx ?_ | refine B_self ?_ | (refine B_ne (by rfl) ?_) | refine B_rt ?_ | ((first | refine R_q (v := ?_) ?h1 ?_ | refine R_ld (v := ?_) ?h1 ?_ | refine R_isn (v := ?_) ?h1 ?_ | refine E_1 (v := ?_) ?h1 ?_ | refine E_1n (v := ?_) ?h1 ?_); case h1 => (simp only [go_sem] <;> rfl)) | ((first | refine R_gt ?h1 ?_); case h1 => (simp only [go_sem] <;> rfl)) | ((first | refine R_gs1 ?h1 ?_); case h1 => (simp only [go_sem] <;> rfl)) | ((first | refine R_gs2 ?h1 ?_); case h1 => (simp only [go_sem] <;> rfl)) | ((first | refine R_gj (vs := ?_) ?h1 ?_); case h1 => (simp only [go_sem] <;> rfl)) | ((first | refine C_cdt ?h1 ?_); case h1 => (simp only [go_sem] <;> rfl)) | ((first | refine C_cdf ?h1 ?_); case h1 => (simp only [go_sem] <;> rfl)) | ((first | refine E_2 (v := ?_) (u := ?_) ?h1 ?h2 ?_ | refine E_2n (v := ?_) (u := ?_) ?h1 ?h2 ?_); (case h1 => (simp only [go_sem] <;> rfl)); (case h2 => (simp only [go_sem] <;> rfl))) | refine E_0 ?_ | refine E_0n ?_ | rw [put_some])))
      exact hK _ _ idl (by simp only [h9, go_sem]) hol hon hold (by simp only [k1, go_sem]) (by simp only [k2, go_sem]) (by simp only [k6, go_sem]) (by simp only [k21, go_sem]) (by simp only [k22, go_sem]) (by simp only [k23, go_sem])

end Go.Proofs.Ytiadalheipbpcaa
