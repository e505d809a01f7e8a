import Derived.Test.YtiadalheipbpcaaT6

/-
  Rows of bits.
-/
namespace Go.Proofs.Ytiadalheipbpcaa
set_option linter.all false

def packB (f : Nat → Bool) : Nat → Nat
  | 0 => 0
  | n + 1 => packB f n ||| (if f n then 2 ^ n else 0)

theorem packB_bit (f : Nat → Bool) : ∀ (n i : Nat), (packB f n).testBit i = (decide (i < n) && f i) := by
  intro n
  induction n with
  | zero => intro i; simp [packB]
  | succ n ih =>
    intro i
    rw [packB, Nat.testBit_or, ih]
    by_cases hn : i = n
    · subst hn
      cases f i <;> simp
    · have hne : ¬ n = i := fun h => hn h.symm
      have hlt : decide (i < n + 1) = decide (i < n) := by
        rw [decide_eq_decide]; omega
      rw [hlt]
      cases hf : f n <;> simp [hne]

theorem packB_lt (f : Nat → Bool) : ∀ n, packB f n < 2 ^ n := by
  intro n
  induction n with
  | zero => simp [packB]
  | succ n ih =>
    rw [packB]
    refine Nat.or_lt_two_pow (Nat.lt_of_lt_of_le ih (Nat.pow_le_pow_right (by omega) (by omega))) ?_
    split
    · exact Nat.pow_lt_pow_right (by omega) (by omega)
    · exact Nat.two_pow_pos _

def rowN (p : Nat → Bool) : Nat → Nat := fun j => packB (fun i => p (64 * j + i)) 64
def row (p : Nat → Bool) : List V := u4 (rowN p)
theorem row_w (p : Nat → Bool) : W64 (rowN p) := fun j _ => packB_lt _ 64
theorem row_bit (p : Nat → Bool) (k : Nat) : bitOf (rowN p) k = p k := by
  unfold bitOf rowN
  rw [packB_bit]
  have : 64 * (k / 64) + k % 64 = k := Nat.div_add_mod k 64
  rw [this]
  simp [Nat.mod_lt]
theorem row_len (p : Nat → Bool) : (row p).length = 4 := rfl

theorem rowN_put (p : Nat → Bool) (k j : Nat) : (if j = k / 64 then rowN p j ||| 2 ^ (k % 64) else rowN p j) = rowN (fun i => p i || i == k) j := by
  apply Nat.eq_of_testBit_eq
  intro i
  have e : (rowN (fun i => p i || i == k) j).testBit i = (decide (i < 64) && (p (64 * j + i) || (64 * j + i == k))) := by unfold rowN; rw [packB_bit]
  have e2 : (rowN p j).testBit i = (decide (i < 64) && p (64 * j + i)) := by unfold rowN; rw [packB_bit]
  rw [e]
  split
  · rename_i hj
    rw [Nat.testBit_or, e2, Nat.testBit_two_pow]
    by_cases hi : k % 64 = i
    · have h1 : i < 64 := by omega
      have h2 : 64 * j + i = k := by omega
      simp [hi, h1, h2]
    · have h2 : ¬ 64 * j + i = k ∨ ¬ i < 64 := by omega
      rcases h2 with h2 | h2
      · have h3 : (64 * j + i == k) = false := by rw [beq_eq_false_iff_ne]; exact h2
        rw [h3]; simp [hi]
      · simp [hi, h2]
  · rename_i hj
    rw [e2]
    by_cases h1 : i < 64
    · have h3 : (64 * j + i == k) = false := by rw [beq_eq_false_iff_ne]; omega
      rw [h3, Bool.or_false]
    · simp [h1]

theorem splice_u4 (s : Nat → Nat) (x j : Nat) (h : j < 4) : splice j [.i .u64 x] (u4 s) = u4 (fun i => if i = j then x else s i) := by
  match j, h with
  | 0, _ => rfl
  | 1, _ => rfl
  | 2, _ => rfl
  | 3, _ => rfl

theorem wu64 (z : Nat) (h : z < 18446744073709551616) : IntKind.u64.wrap (z : Int) = z := wrap_u64 (by omega) (by omega)

/-- (row).has -/
theorem rhas_ok (p : Nat → Bool) (k : Nat) (hk : k < 256) (o : O) (K : V → O → Prop) (hK : ∀ o', K (.bo (p k)) o') : Call F 21 [.ag (row p), .i .i64 k] o K := by
  have hq : k / 64 < 4 := by omega
  have e0 : (k : Int).fdiv 64 = ((k / 64 : Nat) : Int) := fdiv64 k
  have e1 : andI .i64 (k : Int) 63 = ((k % 64 : Nat) : Int) := and_63 (by omega)
  have h1 : rowN p (k / 64) / 2 ^ (k % 64) < 18446744073709551616 := Nat.lt_of_le_of_lt (Nat.div_le_self _ _) (row_w p _ hq)
  have e2 : andI .u64 ((rowN p (k / 64) / 2 ^ (k % 64) : Nat) : Int) 1 = ((rowN p (k / 64) / 2 ^ (k % 64) % 2 : Nat) : Int) := and_u1 h1
  refine Call_fn e21 rfl ?_
  dsimp only [fn21, c21]
  (repeat (with_reducible (first | refine R_nil ?_ | refine C_sq ?_ | refine C_rg ?_ | refine C_bk ?_ | refine C_sk ?_ | refine C_ex ?_ | refine C_rt ?_ | refine X_nx ?_ | refine X_ex ?_ | refine X_rt ?_ | refine B_nx ?_ | refine B_self ?_ | (refine B_ne (by rfl) ?_) | refine B_rt ?_ | ((first | refine R_q (v := ?_) ?h1 ?_ | refine R_ld (v := ?_) ?h1 ?_ | refine R_isn (v := ?_) ?h1 ?_ | refine E_1 (v := ?_) ?h1 ?_ | refine E_1n (v := ?_) ?h1 ?_); case h1 => (simp only [go_sem] <;> rfl)) | ((first | refine R_gt ?h1 ?_); case h1 => (simp only [go_sem] <;> rfl)) | ((first | refine R_gs1 ?h1 ?_); case h1 => (simp only [go_sem] <;> rfl)) | ((first | refine R_gs2 ?h1 ?_); case h1 => (simp only [go_sem] <;> rfl)) | ((first | refine R_gj (vs := ?_) ?h1 ?_); case h1 => (simp only [go_sem] <;> rfl)) | ((first | refine C_cdt ?h1 ?_); case h1 => (simp only [go_sem] <;> rfl)) | ((first | refine C_cdf ?h1 ?_); case h1 => (simp only [go_sem] <;> rfl)) | ((first | refine E_2 (v := ?_) (u := ?_) ?h1 ?h2 ?_ | refine E_2n (v := ?_) (u := ?_) ?h1 ?h2 ?_); (case h1 => (simp only [go_sem] <;> rfl)); (case h2 => (simp only [go_sem] <;> rfl))) | refine E_0 ?_ | refine E_0n ?_ | rw [put_some])))
  refine R_box (by (simp only [go_sem] <;> rfl)) (by (simp only [go_sem] <;> rfl)) rfl fun id hid => ?_
  (repeat (with_reducible (first | refine R_nil ?_ | refine C_sq ?_ | refine C_rg ?_ | refine C_bk ?_ | refine C_sk ?_ | refine C_ex ?_ | refine C_rt ?_ | refine X_nx ?_ | refine X_ex ?_ | refine X_rt ?_ | refine B_nx ?_ | refine B_self ?_ | (refine B_ne (by rfl) ?_) | refine B_rt ?_ | ((first | refine R_q (v := ?_) ?h1 ?_ | refine R_ld (v := ?_) ?h1 ?_ | refine R_isn (v := ?_) ?h1 ?_ | refine E_1 (v := ?_) ?h1 ?_ | refine E_1n (v := ?_) ?h1 ?_); case h1 => (simp only [e0, go_sem] <;> rfl)) | ((first | refine R_gt ?h1 ?_); case h1 => (simp only [e0, go_sem] <;> rfl)) | ((first | refine R_gs1 ?h1 ?_); case h1 => (simp only [e0, go_sem] <;> rfl)) | ((first | refine R_gs2 ?h1 ?_); case h1 => (simp only [e0, go_sem] <;> rfl)) | ((first | refine R_gj (vs := ?_) ?h1 ?_); case h1 => (simp only [e0, go_sem] <;> rfl)) | ((first | refine C_cdt ?h1 ?_); case h1 => (simp only [e0, go_sem] <;> rfl)) | ((first | refine C_cdf ?h1 ?_); case h1 => (simp only [e0, go_sem] <;> rfl)) | ((first | refine E_2 (v := ?_) (u := ?_) ?h1 ?h2 ?_ | refine E_2n (v := ?_) (u := ?_) ?h1 ?h2 ?_); (case h1 => (simp only [e0, go_sem] <;> rfl)); (case h2 => (simp only [e0, go_sem] <;> rfl))) | refine E_0 ?_ | refine E_0n ?_ | rw [put_some])))
  refine R_q (v := .pt id 0 (k / 64)) (by simp only [go_sem]; rw [if_pos (by omega), Int.toNat_natCast]) ?_
  refine R_ld (v := .i .u64 (rowN p (k / 64))) (by simp only [go_sem]; exact u4_get _ hq) ?_
  (repeat (with_reducible (first | refine R_nil ?_ | refine C_sq ?_ | refine C_rg ?_ | refine C_bk ?_ | refine C_sk ?_ | refine C_ex ?_ | refine C_rt ?_ | refine X_nx ?_ | refine X_ex ?_ | refine X_rt ?_ | refine B_nx ?_ | refine B_self ?_ | (refine B_ne (by rfl) ?_) | refine B_rt ?_ | ((first | refine R_q (v := ?_) ?h1 ?_ | refine R_ld (v := ?_) ?h1 ?_ | refine R_isn (v := ?_) ?h1 ?_ | refine E_1 (v := ?_) ?h1 ?_ | refine E_1n (v := ?_) ?h1 ?_); case h1 => (simp only [e1, go_sem] <;> rfl)) | ((first | refine R_gt ?h1 ?_); case h1 => (simp only [e1, go_sem] <;> rfl)) | ((first | refine R_gs1 ?h1 ?_); case h1 => (simp only [e1, go_sem] <;> rfl)) | ((first | refine R_gs2 ?h1 ?_); case h1 => (simp only [e1, go_sem] <;> rfl)) | ((first | refine R_gj (vs := ?_) ?h1 ?_); case h1 => (simp only [e1, go_sem] <;> rfl)) | ((first | refine C_cdt ?h1 ?_); case h1 => (simp only [e1, go_sem] <;> rfl)) | ((first | refine C_cdf ?h1 ?_); case h1 => (simp only [e1, go_sem] <;> rfl)) | ((first | refine E_2 (v := ?_) (u := ?_) ?h1 ?h2 ?_ | refine E_2n (v := ?_) (u := ?_) ?h1 ?h2 ?_); (case h1 => (simp only [e1, go_sem] <;> rfl)); (case h2 => (simp only [e1, go_sem] <;> rfl))) | refine E_0 ?_ | refine E_0n ?_ | rw [put_some])))
  refine R_q (v := .i .u64 ((rowN p (k / 64) / 2 ^ (k % 64) : Nat) : Int)) (by simp only [go_sem]; rw [if_neg (by omega), Int.toNat_natCast, Nat.min_eq_left (by omega), shr_nat]) ?_
  (repeat (with_reducible (first | refine R_nil ?_ | refine C_sq ?_ | refine C_rg ?_ | refine C_bk ?_ | refine C_sk ?_ | refine C_ex ?_ | refine C_rt ?_ | refine X_nx ?_ | refine X_ex ?_ | refine X_rt ?_ | refine B_nx ?_ | refine B_self ?_ | (refine B_ne (by rfl) ?_) | refine B_rt ?_ | ((first | refine R_q (v := ?_) ?h1 ?_ | refine R_ld (v := ?_) ?h1 ?_ | refine R_isn (v := ?_) ?h1 ?_ | refine E_1 (v := ?_) ?h1 ?_ | refine E_1n (v := ?_) ?h1 ?_); case h1 => (simp only [e2, go_sem] <;> rfl)) | ((first | refine R_gt ?h1 ?_); case h1 => (simp only [e2, go_sem] <;> rfl)) | ((first | refine R_gs1 ?h1 ?_); case h1 => (simp only [e2, go_sem] <;> rfl)) | ((first | refine R_gs2 ?h1 ?_); case h1 => (simp only [e2, go_sem] <;> rfl)) | ((first | refine R_gj (vs := ?_) ?h1 ?_); case h1 => (simp only [e2, go_sem] <;> rfl)) | ((first | refine C_cdt ?h1 ?_); case h1 => (simp only [e2, go_sem] <;> rfl)) | ((first | refine C_cdf ?h1 ?_); case h1 => (simp only [e2, go_sem] <;> rfl)) | ((first | refine E_2 (v := ?_) (u := ?_) ?h1 ?h2 ?_ | refine E_2n (v := ?_) (u := ?_) ?h1 ?h2 ?_); (case h1 => (simp only [e2, go_sem] <;> rfl)); (case h2 => (simp only [e2, go_sem] <;> rfl))) | refine E_0 ?_ | refine E_0n ?_ | rw [put_some])))
  have e3 : ((((rowN p (k / 64) / 2 ^ (k % 64) % 2 : Nat) : Int)) == 1) = p k := by
    rw [← row_bit p k, ← bit_val]
    rcases Nat.mod_two_eq_zero_or_one (rowN p (k / 64) / 2 ^ (k % 64)) with h | h <;> rw [h] <;> rfl
  rw [e3]
  exact hK _

set_option maxRecDepth 20000 in
/-- (row).put -/
theorem rput_ok (id i : Nat) (o : O) (es : List (List V)) (p : Nat → Bool) (ho : o id = some (.row 4 es)) (hi : es[i]? = some (row p)) (k : Nat) (hk : k < 256) (K : V → O → Prop)
    (hK : K (.tp []) (upd o id (some (.row 4 (es.set i (row fun j => p j || j == k)))))) : Call F 30 [.pt id i 0, .i .i64 k] o K := by
  have hq : k / 64 < 4 := by omega
  have e0 : (k : Int).fdiv 64 = ((k / 64 : Nat) : Int) := fdiv64 k
  have e1 : andI .i64 (k : Int) 63 = ((k % 64 : Nat) : Int) := and_63 (by omega)
  have hp2 : 2 ^ (k % 64) < 18446744073709551616 := by
    have : 2 ^ (k % 64) < 2 ^ 64 := Nat.pow_lt_pow_right (by omega) (by omega)
    exact this
  have e4 : IntKind.u64.wrap (1 * 2 ^ (k % 64)) = ((2 ^ (k % 64) : Nat) : Int) := by
    rw [Int.one_mul, show ((2 : Int) ^ (k % 64)) = ((2 ^ (k % 64) : Nat) : Int) by simp]
    exact wu64 _ hp2
  have e2 : orI .u64 (rowN p (k / 64) : Int) ((2 ^ (k % 64) : Nat) : Int) = ((rowN p (k / 64) ||| 2 ^ (k % 64) : Nat) : Int) := or_u64 (row_w p _ hq) hp2
  refine Call_fn e30 rfl ?_
  dsimp only [fn30, c30]
  (repeat (with_reducible (first | refine R_nil ?_ | refine C_sq ?_ | refine C_rg ?_ | refine C_bk ?_ | refine C_sk ?_ | refine C_ex ?_ | refine C_rt ?_ | refine X_nx ?_ | refine X_ex ?_ | refine X_rt ?_ | refine B_nx ?_ | refine B_self ?_ | (refine B_ne (by rfl) ?_) | refine B_rt ?_ | ((first | refine R_q (v := ?_) ?h1 ?_ | refine R_ld (v := ?_) ?h1 ?_ | refine R_isn (v := ?_) ?h1 ?_ | refine E_1 (v := ?_) ?h1 ?_ | refine E_1n (v := ?_) ?h1 ?_); case h1 => (simp only [e0, go_sem] <;> rfl)) | ((first | refine R_gt ?h1 ?_); case h1 => (simp only [e0, go_sem] <;> rfl)) | ((first | refine R_gs1 ?h1 ?_); case h1 => (simp only [e0, go_sem] <;> rfl)) | ((first | refine R_gs2 ?h1 ?_); case h1 => (simp only [e0, go_sem] <;> rfl)) | ((first | refine R_gj (vs := ?_) ?h1 ?_); case h1 => (simp only [e0, go_sem] <;> rfl)) | ((first | refine C_cdt ?h1 ?_); case h1 => (simp only [e0, go_sem] <;> rfl)) | ((first | refine C_cdf ?h1 ?_); case h1 => (simp only [e0, go_sem] <;> rfl)) | ((first | refine E_2 (v := ?_) (u := ?_) ?h1 ?h2 ?_ | refine E_2n (v := ?_) (u := ?_) ?h1 ?h2 ?_); (case h1 => (simp only [e0, go_sem] <;> rfl)); (case h2 => (simp only [e0, go_sem] <;> rfl))) | refine E_0 ?_ | refine E_0n ?_ | rw [put_some])))
  refine R_q (v := .pt id i (k / 64)) (by simp only [go_sem]; rw [if_pos (by omega), Int.toNat_natCast]) ?_
  (repeat (with_reducible (first | refine R_nil ?_ | refine C_sq ?_ | refine C_rg ?_ | refine C_bk ?_ | refine C_sk ?_ | refine C_ex ?_ | refine C_rt ?_ | refine X_nx ?_ | refine X_ex ?_ | refine X_rt ?_ | refine B_nx ?_ | refine B_self ?_ | (refine B_ne (by rfl) ?_) | refine B_rt ?_ | ((first | refine R_q (v := ?_) ?h1 ?_ | refine R_ld (v := ?_) ?h1 ?_ | refine R_isn (v := ?_) ?h1 ?_ | refine E_1 (v := ?_) ?h1 ?_ | refine E_1n (v := ?_) ?h1 ?_); case h1 => (simp only [e1, go_sem] <;> rfl)) | ((first | refine R_gt ?h1 ?_); case h1 => (simp only [e1, go_sem] <;> rfl)) | ((first | refine R_gs1 ?h1 ?_); case h1 => (simp only [e1, go_sem] <;> rfl)) | ((first | refine R_gs2 ?h1 ?_); case h1 => (simp only [e1, go_sem] <;> rfl)) | ((first | refine R_gj (vs := ?_) ?h1 ?_); case h1 => (simp only [e1, go_sem] <;> rfl)) | ((first | refine C_cdt ?h1 ?_); case h1 => (simp only [e1, go_sem] <;> rfl)) | ((first | refine C_cdf ?h1 ?_); case h1 => (simp only [e1, go_sem] <;> rfl)) | ((first | refine E_2 (v := ?_) (u := ?_) ?h1 ?h2 ?_ | refine E_2n (v := ?_) (u := ?_) ?h1 ?h2 ?_); (case h1 => (simp only [e1, go_sem] <;> rfl)); (case h2 => (simp only [e1, go_sem] <;> rfl))) | refine E_0 ?_ | refine E_0n ?_ | rw [put_some])))
  refine R_q (v := .i .u64 ((2 ^ (k % 64) : Nat) : Int)) (by simp only [go_sem]; rw [if_neg (by omega), Int.toNat_natCast, Nat.min_eq_left (by omega), e4]) ?_
  (repeat (with_reducible (first | refine R_nil ?_ | refine C_sq ?_ | refine C_rg ?_ | refine C_bk ?_ | refine C_sk ?_ | refine C_ex ?_ | refine C_rt ?_ | refine X_nx ?_ | refine X_ex ?_ | refine X_rt ?_ | refine B_nx ?_ | refine B_self ?_ | (refine B_ne (by rfl) ?_) | refine B_rt ?_ | ((first | refine R_q (v := ?_) ?h1 ?_ | refine R_ld (v := ?_) ?h1 ?_ | refine R_isn (v := ?_) ?h1 ?_ | refine E_1 (v := ?_) ?h1 ?_ | refine E_1n (v := ?_) ?h1 ?_); case h1 => (simp only [go_sem] <;> rfl)) | ((first | refine R_gt ?h1 ?_); case h1 => (simp only [go_sem] <;> rfl)) | ((first | refine R_gs1 ?h1 ?_); case h1 => (simp only [go_sem] <;> rfl)) | ((first | refine R_gs2 ?h1 ?_); case h1 => (simp only [go_sem] <;> rfl)) | ((first | refine R_gj (vs := ?_) ?h1 ?_); case h1 => (simp only [go_sem] <;> rfl)) | ((first | refine C_cdt ?h1 ?_); case h1 => (simp only [go_sem] <;> rfl)) | ((first | refine C_cdf ?h1 ?_); case h1 => (simp only [go_sem] <;> rfl)) | ((first | refine E_2 (v := ?_) (u := ?_) ?h1 ?h2 ?_ | refine E_2n (v := ?_) (u := ?_) ?h1 ?h2 ?_); (case h1 => (simp only [go_sem] <;> rfl)); (case h2 => (simp only [go_sem] <;> rfl))) | refine E_0 ?_ | refine E_0n ?_ | rw [put_some])))
  refine R_ld (v := .i .u64 (rowN p (k / 64))) (by simp only [ho, hi, go_sem]; exact u4_get _ hq) ?_
  (repeat (with_reducible (first | refine R_nil ?_ | refine C_sq ?_ | refine C_rg ?_ | refine C_bk ?_ | refine C_sk ?_ | refine C_ex ?_ | refine C_rt ?_ | refine X_nx ?_ | refine X_ex ?_ | refine X_rt ?_ | refine B_nx ?_ | refine B_self ?_ | (refine B_ne (by rfl) ?_) | refine B_rt ?_ | ((first | refine R_q (v := ?_) ?h1 ?_ | refine R_ld (v := ?_) ?h1 ?_ | refine R_isn (v := ?_) ?h1 ?_ | refine E_1 (v := ?_) ?h1 ?_ | refine E_1n (v := ?_) ?h1 ?_); case h1 => (simp only [e2, go_sem] <;> rfl)) | ((first | refine R_gt ?h1 ?_); case h1 => (simp only [e2, go_sem] <;> rfl)) | ((first | refine R_gs1 ?h1 ?_); case h1 => (simp only [e2, go_sem] <;> rfl)) | ((first | refine R_gs2 ?h1 ?_); case h1 => (simp only [e2, go_sem] <;> rfl)) | ((first | refine R_gj (vs := ?_) ?h1 ?_); case h1 => (simp only [e2, go_sem] <;> rfl)) | ((first | refine C_cdt ?h1 ?_); case h1 => (simp only [e2, go_sem] <;> rfl)) | ((first | refine C_cdf ?h1 ?_); case h1 => (simp only [e2, go_sem] <;> rfl)) | ((first | refine E_2 (v := ?_) (u := ?_) ?h1 ?h2 ?_ | refine E_2n (v := ?_) (u := ?_) ?h1 ?h2 ?_); (case h1 => (simp only [e2, go_sem] <;> rfl)); (case h2 => (simp only [e2, go_sem] <;> rfl))) | refine E_0 ?_ | refine E_0n ?_ | rw [put_some])))
  refine R_q (v := .pt id i (k / 64)) (by simp only [go_sem]; rw [if_pos (by omega), Int.toNat_natCast]) ?_
  refine R_sto (id := id) (i := i) (j := k / 64) (vs := [.i .u64 ((rowN p (k / 64) ||| 2 ^ (k % 64) : Nat) : Int)]) (by simp only [go_sem]) ho hi (by (simp only [go_sem] <;> rfl)) (by simp only [go_sem]) rfl (by rw [row_len]; omega) ?_
  (repeat (with_reducible (first | refine R_nil ?_ | refine C_sq ?_ | refine C_rg ?_ | refine C_bk ?_ | refine C_sk ?_ | refine C_ex ?_ | refine C_rt ?_ | refine X_nx ?_ | refine X_ex ?_ | refine X_rt ?_ | refine B_nx ?_ | refine B_self ?_ | (refine B_ne (by rfl) ?_) | refine B_rt ?_ | ((first | refine R_q (v := ?_) ?h1 ?_ | refine R_ld (v := ?_) ?h1 ?_ | refine R_isn (v := ?_) ?h1 ?_ | refine E_1 (v := ?_) ?h1 ?_ | refine E_1n (v := ?_) ?h1 ?_); case h1 => (simp only [go_sem] <;> rfl)) | ((first | refine R_gt ?h1 ?_); case h1 => (simp only [go_sem] <;> rfl)) | ((first | refine R_gs1 ?h1 ?_); case h1 => (simp only [go_sem] <;> rfl)) | ((first | refine R_gs2 ?h1 ?_); case h1 => (simp only [go_sem] <;> rfl)) | ((first | refine R_gj (vs := ?_) ?h1 ?_); case h1 => (simp only [go_sem] <;> rfl)) | ((first | refine C_cdt ?h1 ?_); case h1 => (simp only [go_sem] <;> rfl)) | ((first | refine C_cdf ?h1 ?_); case h1 => (simp only [go_sem] <;> rfl)) | ((first | refine E_2 (v := ?_) (u := ?_) ?h1 ?h2 ?_ | refine E_2n (v := ?_) (u := ?_) ?h1 ?h2 ?_); (case h1 => (simp only [go_sem] <;> rfl)); (case h2 => (simp only [go_sem] <;> rfl))) | refine E_0 ?_ | refine E_0n ?_ | rw [put_some])))
  have : splice (k / 64) [.i .u64 ((rowN p (k / 64) ||| 2 ^ (k % 64) : Nat) : Int)] (row p) = row fun j => p j || j == k := by
    unfold row
    rw [splice_u4 _ _ _ hq]
    congr 1
    funext j
    rw [← rowN_put p k j]
    split
    · rename_i h; rw [h]
    · rfl
  rw [this]
  exact hK

end Go.Proofs.Ytiadalheipbpcaa
