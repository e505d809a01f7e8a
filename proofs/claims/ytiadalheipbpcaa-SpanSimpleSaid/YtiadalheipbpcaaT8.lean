import Derived.Test.YtiadalheipbpcaaT7

/-
  One row's places put into another's.
-/
namespace Go.Proofs.Ytiadalheipbpcaa
set_option linter.all false

def Fr (o o' : O) (id : Nat) : Prop := ∀ j, j ≠ id → ∀ ob, o j = some ob → o' j = some ob

theorem rowN_or (p q : Nat → Bool) (j : Nat) : rowN p j ||| rowN q j = rowN (fun i => p i || q i) j := by
  apply Nat.eq_of_testBit_eq
  intro i
  rw [Nat.testBit_or]
  unfold rowN
  rw [packB_bit, packB_bit, packB_bit]
  cases decide (i < 64) <;> simp

def mixN (p q : Nat → Bool) (n j : Nat) : Nat := if j < n then rowN p j ||| rowN q j else rowN p j

theorem mix4 (p q : Nat → Bool) : u4 (mixN p q 4) = row fun i => p i || q i := by
  simp [u4, row, mixN, rowN_or]
theorem mix0 (p q : Nat → Bool) : u4 (mixN p q 0) = row p := by simp [u4, row, mixN]

/-- (row).or -/
theorem ror_ok (id i : Nat) (o : O) (es : List (List V)) (p q : Nat → Bool) (ho : o id = some (.row 4 es)) (hi : es[i]? = some (row p)) (K : V → O → Prop)
    (hK : ∀ o', o' id = some (.row 4 (es.set i (row fun j => p j || q j))) → Fr o o' id → K (.tp []) o') : Call F 41 [.pt id i 0, .ag (row q)] o K := by
  have hil : i < es.length := (List.getElem?_eq_some_iff.1 hi).1
  refine Call_fn e41 rfl ?_
  dsimp only [fn41, c41]
  (repeat (with_reducible (first | refine R_nil ?_ | refine C_sq ?_ | refine C_rg ?_ | refine C_bk ?_ | refine C_sk ?_ | refine C_ex ?_ | refine C_rt ?_ | refine X_nx ?_ | refine X_ex ?_ | refine X_rt ?_ | refine B_nx ?_ | refine B_self ?_ | (refine B_ne (by rfl) ?_) | refine B_rt ?_ | ((first | refine R_q (v := ?_) ?h1 ?_ | refine R_ld (v := ?_) ?h1 ?_ | refine R_isn (v := ?_) ?h1 ?_ | refine E_1 (v := ?_) ?h1 ?_ | refine E_1n (v := ?_) ?h1 ?_); case h1 => (simp only [go_sem] <;> rfl)) | ((first | refine R_gt ?h1 ?_); case h1 => (simp only [go_sem] <;> rfl)) | ((first | refine R_gs1 ?h1 ?_); case h1 => (simp only [go_sem] <;> rfl)) | ((first | refine R_gs2 ?h1 ?_); case h1 => (simp only [go_sem] <;> rfl)) | ((first | refine R_gj (vs := ?_) ?h1 ?_); case h1 => (simp only [go_sem] <;> rfl)) | ((first | refine C_cdt ?h1 ?_); case h1 => (simp only [go_sem] <;> rfl)) | ((first | refine C_cdf ?h1 ?_); case h1 => (simp only [go_sem] <;> rfl)) | ((first | refine E_2 (v := ?_) (u := ?_) ?h1 ?h2 ?_ | refine E_2n (v := ?_) (u := ?_) ?h1 ?h2 ?_); (case h1 => (simp only [go_sem] <;> rfl)); (case h2 => (simp only [go_sem] <;> rfl))) | refine E_0 ?_ | refine E_0n ?_ | rw [put_some])))
  refine R_box (by (simp only [go_sem] <;> rfl)) (by (simp only [go_sem] <;> rfl)) rfl fun idb hidb => ?_
  have hne : id ≠ idb := fun h => by rw [h, hidb] at ho; cases ho
  (repeat (with_reducible (first | refine R_nil ?_ | refine C_sq ?_ | refine C_rg ?_ | refine C_bk ?_ | refine C_sk ?_ | refine C_ex ?_ | refine C_rt ?_ | refine X_nx ?_ | refine X_ex ?_ | refine X_rt ?_ | refine B_nx ?_ | refine B_self ?_ | (refine B_ne (by rfl) ?_) | refine B_rt ?_ | ((first | refine R_q (v := ?_) ?h1 ?_ | refine R_ld (v := ?_) ?h1 ?_ | refine R_isn (v := ?_) ?h1 ?_ | refine E_1 (v := ?_) ?h1 ?_ | refine E_1n (v := ?_) ?h1 ?_); case h1 => (simp only [row, u4, List.drop_zero, List.take_succ_cons, List.take_zero, go_sem] <;> rfl)) | ((first | refine R_gt ?h1 ?_); case h1 => (simp only [row, u4, List.drop_zero, List.take_succ_cons, List.take_zero, go_sem] <;> rfl)) | ((first | refine R_gs1 ?h1 ?_); case h1 => (simp only [row, u4, List.drop_zero, List.take_succ_cons, List.take_zero, go_sem] <;> rfl)) | ((first | refine R_gs2 ?h1 ?_); case h1 => (simp only [row, u4, List.drop_zero, List.take_succ_cons, List.take_zero, go_sem] <;> rfl)) | ((first | refine R_gj (vs := ?_) ?h1 ?_); case h1 => (simp only [row, u4, List.drop_zero, List.take_succ_cons, List.take_zero, go_sem] <;> rfl)) | ((first | refine C_cdt ?h1 ?_); case h1 => (simp only [row, u4, List.drop_zero, List.take_succ_cons, List.take_zero, go_sem] <;> rfl)) | ((first | refine C_cdf ?h1 ?_); case h1 => (simp only [row, u4, List.drop_zero, List.take_succ_cons, List.take_zero, go_sem] <;> rfl)) | ((first | refine E_2 (v := ?_) (u := ?_) ?h1 ?h2 ?_ | refine E_2n (v := ?_) (u := ?_) ?h1 ?h2 ?_); (case h1 => (simp only [row, u4, List.drop_zero, List.take_succ_cons, List.take_zero, go_sem] <;> rfl)); (case h2 => (simp only [row, u4, List.drop_zero, List.take_succ_cons, List.take_zero, go_sem] <;> rfl))) | refine E_0 ?_ | refine E_0n ?_ | rw [put_some])))
  refine C_lp (fun r e o' => ∃ n : Nat, n + r = 4 ∧ e 0 = .pt id i 0 ∧ e 6 = .ag (row q) ∧ e 7 = .i .i64 n ∧ o' id = some (.row 4 (es.set i (u4 (mixN p q n)))) ∧ Fr o o' id) (k := 4) ?_ (Call_le F) ?_
  · refine ⟨0, by omega, by simp only [go_sem], by simp only [row, u4, go_sem], by (simp only [go_sem] <;> rfl), ?_, fun j hj ob h => ?_⟩
    · rw [upd_ne _ _ _ _ (by simpa using hne), ho, mix0]
      congr 2
      rw [← (List.getElem?_eq_some_iff.1 hi).2, List.set_getElem_self]
    · have : j ≠ idb := fun hh => by rw [hh, hidb] at h; cases h
      rw [upd_ne _ _ _ _ (by simpa using this)]; exact h
  rintro r e o' ⟨n, hnr, h0, h6, h7, hoo, hfr⟩
  dsimp only [b41_0]
  (repeat (with_reducible (first | refine R_nil ?_ | refine C_sq ?_ | refine C_rg ?_ | refine C_bk ?_ | refine C_sk ?_ | refine C_ex ?_ | refine C_rt ?_ | refine X_nx ?_ | refine X_ex ?_ | refine X_rt ?_ | refine B_nx ?_ | refine B_self ?_ | (refine B_ne (by rfl) ?_) | refine B_rt ?_ | ((first | refine R_q (v := ?_) ?h1 ?_ | refine R_ld (v := ?_) ?h1 ?_ | refine R_isn (v := ?_) ?h1 ?_ | refine E_1 (v := ?_) ?h1 ?_ | refine E_1n (v := ?_) ?h1 ?_); case h1 => (simp only [h7, go_sem] <;> rfl)) | ((first | refine R_gt ?h1 ?_); case h1 => (simp only [h7, go_sem] <;> rfl)) | ((first | refine R_gs1 ?h1 ?_); case h1 => (simp only [h7, go_sem] <;> rfl)) | ((first | refine R_gs2 ?h1 ?_); case h1 => (simp only [h7, go_sem] <;> rfl)) | ((first | refine R_gj (vs := ?_) ?h1 ?_); case h1 => (simp only [h7, go_sem] <;> rfl)) | ((first | refine C_cdt ?h1 ?_); case h1 => (simp only [h7, go_sem] <;> rfl)) | ((first | refine C_cdf ?h1 ?_); case h1 => (simp only [h7, go_sem] <;> rfl)) | ((first | refine E_2 (v := ?_) (u := ?_) ?h1 ?h2 ?_ | refine E_2n (v := ?_) (u := ?_) ?h1 ?h2 ?_); (case h1 => (simp only [h7, go_sem] <;> rfl)); (case h2 => (simp only [h7, go_sem] <;> rfl))) | refine E_0 ?_ | refine E_0n ?_ | rw [put_some])))
  refine C_cdb (q := decide ((n : Int) < 4)) (by simp only [go_sem]) (fun hc => ?_) (fun hc => ?_)
  · have hn : n < 4 := by
      have := of_decide_eq_true hc
      omega
    have hes : (es.set i (u4 (mixN p q n)))[i]? = some (u4 (mixN p q n)) := by rw [List.getElem?_set_self hil]
    have hm : mixN p q n n = rowN p n := by simp [mixN]
    have e2 : orI .u64 (rowN p n : Int) (rowN q n : Int) = ((rowN p n ||| rowN q n : Nat) : Int) := or_u64 (row_w p n hn) (row_w q n hn)
    (repeat (with_reducible (first | refine R_nil ?_ | refine C_sq ?_ | refine C_rg ?_ | refine C_bk ?_ | refine C_sk ?_ | refine C_ex ?_ | refine C_rt ?_ | refine X_nx ?_ | refine X_ex ?_ | refine X_rt ?_ | refine B_nx ?_ | refine B_self ?_ | (refine B_ne (by rfl) ?_) | refine B_rt ?_ | ((first | refine R_q (v := ?_) ?h1 ?_ | refine R_ld (v := ?_) ?h1 ?_ | refine R_isn (v := ?_) ?h1 ?_ | refine E_1 (v := ?_) ?h1 ?_ | refine E_1n (v := ?_) ?h1 ?_); case h1 => (simp only [h7, go_sem] <;> rfl)) | ((first | refine R_gt ?h1 ?_); case h1 => (simp only [h7, go_sem] <;> rfl)) | ((first | refine R_gs1 ?h1 ?_); case h1 => (simp only [h7, go_sem] <;> rfl)) | ((first | refine R_gs2 ?h1 ?_); case h1 => (simp only [h7, go_sem] <;> rfl)) | ((first | refine R_gj (vs := ?_) ?h1 ?_); case h1 => (simp only [h7, go_sem] <;> rfl)) | ((first | refine C_cdt ?h1 ?_); case h1 => (simp only [h7, go_sem] <;> rfl)) | ((first | refine C_cdf ?h1 ?_); case h1 => (simp only [h7, go_sem] <;> rfl)) | ((first | refine E_2 (v := ?_) (u := ?_) ?h1 ?h2 ?_ | refine E_2n (v := ?_) (u := ?_) ?h1 ?h2 ?_); (case h1 => (simp only [h7, go_sem] <;> rfl)); (case h2 => (simp only [h7, go_sem] <;> rfl))) | refine E_0 ?_ | refine E_0n ?_ | rw [put_some])))
    refine R_q (v := .i .u64 (rowN q n)) (by simp only [h6, h7, go_sem]; rw [if_pos (by omega)]; simp; exact u4_get _ hn) ?_
    (repeat (with_reducible (first | refine R_nil ?_ | refine C_sq ?_ | refine C_rg ?_ | refine C_bk ?_ | refine C_sk ?_ | refine C_ex ?_ | refine C_rt ?_ | refine X_nx ?_ | refine X_ex ?_ | refine X_rt ?_ | refine B_nx ?_ | refine B_self ?_ | (refine B_ne (by rfl) ?_) | refine B_rt ?_ | ((first | refine R_q (v := ?_) ?h1 ?_ | refine R_ld (v := ?_) ?h1 ?_ | refine R_isn (v := ?_) ?h1 ?_ | refine E_1 (v := ?_) ?h1 ?_ | refine E_1n (v := ?_) ?h1 ?_); case h1 => (simp only [h0, h7, go_sem] <;> rfl)) | ((first | refine R_gt ?h1 ?_); case h1 => (simp only [h0, h7, go_sem] <;> rfl)) | ((first | refine R_gs1 ?h1 ?_); case h1 => (simp only [h0, h7, go_sem] <;> rfl)) | ((first | refine R_gs2 ?h1 ?_); case h1 => (simp only [h0, h7, go_sem] <;> rfl)) | ((first | refine R_gj (vs := ?_) ?h1 ?_); case h1 => (simp only [h0, h7, go_sem] <;> rfl)) | ((first | refine C_cdt ?h1 ?_); case h1 => (simp only [h0, h7, go_sem] <;> rfl)) | ((first | refine C_cdf ?h1 ?_); case h1 => (simp only [h0, h7, go_sem] <;> rfl)) | ((first | refine E_2 (v := ?_) (u := ?_) ?h1 ?h2 ?_ | refine E_2n (v := ?_) (u := ?_) ?h1 ?h2 ?_); (case h1 => (simp only [h0, h7, go_sem] <;> rfl)); (case h2 => (simp only [h0, h7, go_sem] <;> rfl))) | refine E_0 ?_ | refine E_0n ?_ | rw [put_some])))
    refine R_q (v := .pt id i n) (by simp only [go_sem]; rw [if_pos (by omega), Int.toNat_natCast]) ?_
    (repeat (with_reducible (first | refine R_nil ?_ | refine C_sq ?_ | refine C_rg ?_ | refine C_bk ?_ | refine C_sk ?_ | refine C_ex ?_ | refine C_rt ?_ | refine X_nx ?_ | refine X_ex ?_ | refine X_rt ?_ | refine B_nx ?_ | refine B_self ?_ | (refine B_ne (by rfl) ?_) | refine B_rt ?_ | ((first | refine R_q (v := ?_) ?h1 ?_ | refine R_ld (v := ?_) ?h1 ?_ | refine R_isn (v := ?_) ?h1 ?_ | refine E_1 (v := ?_) ?h1 ?_ | refine E_1n (v := ?_) ?h1 ?_); case h1 => (simp only [h0, h7, go_sem] <;> rfl)) | ((first | refine R_gt ?h1 ?_); case h1 => (simp only [h0, h7, go_sem] <;> rfl)) | ((first | refine R_gs1 ?h1 ?_); case h1 => (simp only [h0, h7, go_sem] <;> rfl)) | ((first | refine R_gs2 ?h1 ?_); case h1 => (simp only [h0, h7, go_sem] <;> rfl)) | ((first | refine R_gj (vs := ?_) ?h1 ?_); case h1 => (simp only [h0, h7, go_sem] <;> rfl)) | ((first | refine C_cdt ?h1 ?_); case h1 => (simp only [h0, h7, go_sem] <;> rfl)) | ((first | refine C_cdf ?h1 ?_); case h1 => (simp only [h0, h7, go_sem] <;> rfl)) | ((first | refine E_2 (v := ?_) (u := ?_) ?h1 ?h2 ?_ | refine E_2n (v := ?_) (u := ?_) ?h1 ?h2 ?_); (case h1 => (simp only [h0, h7, go_sem] <;> rfl)); (case h2 => (simp only [h0, h7, go_sem] <;> rfl))) | refine E_0 ?_ | refine E_0n ?_ | rw [put_some])))
    refine R_ld (v := .i .u64 (rowN p n)) (by simp only [hoo, hes, go_sem]; rw [u4_get _ hn, hm]) ?_
    (repeat (with_reducible (first | refine R_nil ?_ | refine C_sq ?_ | refine C_rg ?_ | refine C_bk ?_ | refine C_sk ?_ | refine C_ex ?_ | refine C_rt ?_ | refine X_nx ?_ | refine X_ex ?_ | refine X_rt ?_ | refine B_nx ?_ | refine B_self ?_ | (refine B_ne (by rfl) ?_) | refine B_rt ?_ | ((first | refine R_q (v := ?_) ?h1 ?_ | refine R_ld (v := ?_) ?h1 ?_ | refine R_isn (v := ?_) ?h1 ?_ | refine E_1 (v := ?_) ?h1 ?_ | refine E_1n (v := ?_) ?h1 ?_); case h1 => (simp only [e2, go_sem] <;> rfl)) | ((first | refine R_gt ?h1 ?_); case h1 => (simp only [e2, go_sem] <;> rfl)) | ((first | refine R_gs1 ?h1 ?_); case h1 => (simp only [e2, go_sem] <;> rfl)) | ((first | refine R_gs2 ?h1 ?_); case h1 => (simp only [e2, go_sem] <;> rfl)) | ((first | refine R_gj (vs := ?_) ?h1 ?_); case h1 => (simp only [e2, go_sem] <;> rfl)) | ((first | refine C_cdt ?h1 ?_); case h1 => (simp only [e2, go_sem] <;> rfl)) | ((first | refine C_cdf ?h1 ?_); case h1 => (simp only [e2, go_sem] <;> rfl)) | ((first | refine E_2 (v := ?_) (u := ?_) ?h1 ?h2 ?_ | refine E_2n (v := ?_) (u := ?_) ?h1 ?h2 ?_); (case h1 => (simp only [e2, go_sem] <;> rfl)); (case h2 => (simp only [e2, go_sem] <;> rfl))) | refine E_0 ?_ | refine E_0n ?_ | rw [put_some])))
    refine R_q (v := .pt id i n) (by simp only [go_sem]; rw [if_pos (by omega), Int.toNat_natCast]) ?_
    refine R_sto (id := id) (i := i) (j := n) (vs := [.i .u64 ((rowN p n ||| rowN q n : Nat) : Int)]) (by simp only [go_sem]) hoo hes (by (simp only [go_sem] <;> rfl)) (by simp only [go_sem]) rfl (by rw [u4_len]; omega) ?_
    (repeat (with_reducible (first | refine R_nil ?_ | refine C_sq ?_ | refine C_rg ?_ | refine C_bk ?_ | refine C_sk ?_ | refine C_ex ?_ | refine C_rt ?_ | refine X_nx ?_ | refine X_ex ?_ | refine X_rt ?_ | refine B_nx ?_ | refine B_self ?_ | (refine B_ne (by rfl) ?_) | refine B_rt ?_ | ((first | refine R_q (v := ?_) ?h1 ?_ | refine R_ld (v := ?_) ?h1 ?_ | refine R_isn (v := ?_) ?h1 ?_ | refine E_1 (v := ?_) ?h1 ?_ | refine E_1n (v := ?_) ?h1 ?_); case h1 => (simp only [h7, go_sem] <;> rfl)) | ((first | refine R_gt ?h1 ?_); case h1 => (simp only [h7, go_sem] <;> rfl)) | ((first | refine R_gs1 ?h1 ?_); case h1 => (simp only [h7, go_sem] <;> rfl)) | ((first | refine R_gs2 ?h1 ?_); case h1 => (simp only [h7, go_sem] <;> rfl)) | ((first | refine R_gj (vs := ?_) ?h1 ?_); case h1 => (simp only [h7, go_sem] <;> rfl)) | ((first | refine C_cdt ?h1 ?_); case h1 => (simp only [h7, go_sem] <;> rfl)) | ((first | refine C_cdf ?h1 ?_); case h1 => (simp only [h7, go_sem] <;> rfl)) | ((first | refine E_2 (v := ?_) (u := ?_) ?h1 ?h2 ?_ | refine E_2n (v := ?_) (u := ?_) ?h1 ?h2 ?_); (case h1 => (simp only [h7, go_sem] <;> rfl)); (case h2 => (simp only [h7, go_sem] <;> rfl))) | refine E_0 ?_ | refine E_0n ?_ | rw [put_some])))
    refine ⟨r - 1, by omega, n + 1, by omega, by simp only [h0, go_sem], by simp only [h6, go_sem], ?_, ?_, fun j hj ob h => ?_⟩
    · simp only [go_sem]
      rw [wrap_i64 (by omega) (by omega)]; rfl
    · rw [upd_eq, List.set_set, splice_u4 _ _ _ hn]
      congr 4
      funext j
      simp only [mixN]
      by_cases hj : j = n
      · subst hj; simp
      · have : (j < n + 1) = (j < n) := by rw [eq_iff_iff]; omega
        simp [hj, this]
    all_goals (rw [upd_ne _ _ _ _ (by simpa using hj)]; exact hfr j hj ob h)
  · have hn : n = 4 := by
      have := of_decide_eq_false hc
      omega
    subst hn
    (repeat (with_reducible (first | refine R_nil ?_ | refine C_sq ?_ | refine C_rg ?_ | refine C_bk ?_ | refine C_sk ?_ | refine C_ex ?_ | refine C_rt ?_ | refine X_nx ?_ | refine X_ex ?_ | refine X_rt ?_ | refine B_nx ?_ | refine B_self ?_ | (refine B_ne (by rfl) ?_) | refine B_rt ?_ | ((first | refine R_q (v := ?_) ?h1 ?_ | refine R_ld (v := ?_) ?h1 ?_ | refine R_isn (v := ?_) ?h1 ?_ | refine E_1 (v := ?_) ?h1 ?_ | refine E_1n (v := ?_) ?h1 ?_); case h1 => (simp only [go_sem] <;> rfl)) | ((first | refine R_gt ?h1 ?_); case h1 => (simp only [go_sem] <;> rfl)) | ((first | refine R_gs1 ?h1 ?_); case h1 => (simp only [go_sem] <;> rfl)) | ((first | refine R_gs2 ?h1 ?_); case h1 => (simp only [go_sem] <;> rfl)) | ((first | refine R_gj (vs := ?_) ?h1 ?_); case h1 => (simp only [go_sem] <;> rfl)) | ((first | refine C_cdt ?h1 ?_); case h1 => (simp only [go_sem] <;> rfl)) | ((first | refine C_cdf ?h1 ?_); case h1 => (simp only [go_sem] <;> rfl)) | ((first | refine E_2 (v := ?_) (u := ?_) ?h1 ?h2 ?_ | refine E_2n (v := ?_) (u := ?_) ?h1 ?h2 ?_); (case h1 => (simp only [go_sem] <;> rfl)); (case h2 => (simp only [go_sem] <;> rfl))) | refine E_0 ?_ | refine E_0n ?_ | rw [put_some])))
    refine hK _ ?_ hfr
    rw [hoo, mix4]

end Go.Proofs.Ytiadalheipbpcaa
