/-
  SpanLong: what it computes.
-/
import Derived.Test.YtiadalheipbpcaaT25
namespace Go.Proofs.Ytiadalheipbpcaa
set_option linter.all false

def ndA : Nd := .mk 1 (fun j => if j = 1 then 2 else 0) [] 0 0
def lngV (l h : Int) : Nd := timN ndA l h
def wrd (k : Nat) : List Nat := List.replicate k 65
theorem wrd_len (k : Nat) : (wrd k).length = k := by simp [wrd]
theorem wrd_lt (k : Nat) : ∀ b ∈ wrd k, b < 256 := by intro b hb; simp [wrd] at hb; omega

theorem small_ndA : small ndA := ⟨fun j _ => by show (if j = 1 then 2 else 0) < _; split <;> omega, by simp, trivial⟩
theorem formed_lng {l h : Int} (h0 : 0 ≤ l) (h1 : l ≤ h) (h2 : h ≤ 65535) : formed (lngV l h) = true := by
  have : formed ndA = true := rfl
  simp [lngV, timN, formed, formedL, this, shapedB, emptyS, zS]
  omega

def longB (l h : Int) (k : Nat) : Bool := if 200 < k then true else (sp (wrd k) (lngV l h) 0 k == (decide (l ≤ k) && decide ((k : Int) ≤ h)))

def filled (j k : Nat) : List (List V) := List.replicate j [.i .u8 65] ++ List.replicate (k - j) [.i .u8 0]
theorem filled_len {j k : Nat} (h : j ≤ k) : (filled j k).length = k := by simp [filled]; omega
theorem filled_get {j k : Nat} (h : j < k) : (filled j k)[j]? = some [.i .u8 0] := by
  rw [filled, List.getElem?_append_right (by simp), List.length_replicate, Nat.sub_self]
  exact List.getElem?_replicate_of_lt (by omega)
theorem filled_set {j k : Nat} (h : j < k) : (filled j k).set j [.i .u8 65] = filled (j + 1) k := by
  rw [filled, List.set_append_right _ _ (by simp)]
  have : k - j = (k - (j + 1)) + 1 := by omega
  rw [this, List.replicate_succ, List.length_replicate, Nat.sub_self, List.set_cons_zero, filled, List.replicate_succ', List.append_assoc]
  rfl
theorem fz_filled {o : O} {id k : Nat} (h : o id = some (.row 1 (filled k k))) : fz o (.rw id 1 0 k) = some (wordV (wrd k)) := by
  have hs : src o (.rw id 1 0 k) = some (filled k k) := by
    simp only [src, h]
    rw [if_pos (by rw [filled_len (Nat.le_refl _)]; omega)]
    simp [List.take_of_length_le, filled_len]
  unfold fz FZ
  simp only [frz, hs]
  rw [mapM_self2 fun c hc v hv => by simp [filled] at hc; rw [hc.2] at hv; simp at hv; subst hv; rfl]
  simp [wordV, wrd, filled]

theorem long_ok (lo hi sz : Int) (hl0 : 0 ≤ lo) (hl1 : lo ≤ 65535) (hh0 : 0 ≤ hi) (hh1 : hi ≤ 65535) (hs0 : 0 ≤ sz) (hs1 : sz ≤ 65535) (K : V → O → Prop)
    (hK : ∀ o', K (.bo (longB (if hi < lo then hi else lo) (if hi > lo then hi else lo) (sz.tmod 260).toNat)) o') : Call F 7 [.i .u16 lo, .i .u16 hi, .i .u16 sz] emp K := by
  have ha := fun v (h : v = V.bo true) => awake_ok emp (fun u o' => fz o' u = some v) (fun _ => by rw [h]; rfl)
  have hs2 := Int.tmod_lt_of_pos sz (show (0 : Int) < 260 by omega)
  have hs3 := Int.tmod_nonneg 260 hs0
  obtain ⟨k, hk⟩ := Int.eq_ofNat_of_zero_le hs3
  have e0 : (260 : Int) = 0 ↔ False := by simp
  rw [hk, Int.toNat_natCast] at hK
  have hk2 : k < 260 := by omega
  have hkw : IntKind.wrap .i64 (k : Int) = (k : Int) := wrap_i64 (by omega) (by omega)
  have hA : IntKind.wrap .i64 (if hi < lo then hi else lo) = if hi < lo then hi else lo := by split <;> exact wrap_i64 (by omega) (by omega)
  have hB : IntKind.wrap .i64 (if hi > lo then hi else lo) = if hi > lo then hi else lo := by split <;> exact wrap_i64 (by omega) (by omega)
  have hLH : 0 ≤ (if hi < lo then hi else lo) ∧ (if hi < lo then hi else lo) ≤ (if hi > lo then hi else lo) ∧ (if hi > lo then hi else lo) ≤ 65535 := by split <;> split <;> omega
  generalize hL : (if hi < lo then hi else lo) = L at *
  generalize hH : (if hi > lo then hi else lo) = H at *
  refine Call_fn e7 rfl ?_
  dsimp only [fn7, c7]
  (repeat' (first | (with_reducible (first | refine R_nil ?_ | refine C_sq ?_ | refine C_rg ?_ | refine C_bk ?_ | refine C_sk ?_ | refine C_ex ?_ | refine C_rt ?_ | refine X_nx ?_ | refine X_ex ?_ | refine X_rt ?_ | refine B_nx ?_ | refine B_self ?_ | (refine B_ne (by rfl) ?_) | refine B_rt ?_ | ((first | refine R_q (v := ?_) ?h1 ?_ | refine R_ld (v := ?_) ?h1 ?_ | refine R_isn (v := ?_) ?h1 ?_ | refine E_1 (v := ?_) ?h1 ?_ | refine E_1n (v := ?_) ?h1 ?_); case h1 => (simp only [go_sem] <;> rfl)) | ((first | refine R_gt ?h1 ?_); case h1 => (simp only [go_sem] <;> rfl)) | ((first | refine R_gs1 ?h1 ?_); case h1 => (simp only [go_sem] <;> rfl)) | ((first | refine R_gs2 ?h1 ?_); case h1 => (simp only [go_sem] <;> rfl)) | ((first | refine R_gj (vs := ?_) ?h1 ?_); case h1 => (simp only [go_sem] <;> rfl)) | ((first | refine C_cdt ?h1 ?_); case h1 => (simp only [go_sem] <;> rfl)) | ((first | refine C_cdf ?h1 ?_); case h1 => (simp only [go_sem] <;> rfl)) | ((first | refine E_2 (v := ?_) (u := ?_) ?h1 ?h2 ?_ | refine E_2n (v := ?_) (u := ?_) ?h1 ?h2 ?_); (case h1 => (simp only [go_sem] <;> rfl)); (case h2 => (simp only [go_sem] <;> rfl))) | refine E_0 ?_ | refine E_0n ?_ | rw [put_some])) | ((with_reducible refine R_pcf (g := 9) (r := .bo true) (vs := ?_) (ws := ?_) ?h1 ?h2 ?h3 ?h4 ?_); (case h1 => (simp only [go_sem] <;> rfl)); (case h2 => first | rw [fzs_ok (by rfl)] | rw [fzs_ok (by simp [FZ, okd, cel_okd, wordV])]); (case h3 => rfl); (case h4 => exact ha _ rfl)) | with_reducible (refine R_gb (q := ?_) ?h1 (fun _ => ?_) (fun _ => ?_); case h1 => (simp only [go_sem] <;> rfl)) | with_reducible (refine C_cdb (q := ?_) ?h1 (fun _ => ?_) (fun _ => ?_); case h1 => (simp only [go_sem] <;> rfl))))
  refine R_bsl (es := [(cel ndA).set 5 .nil]) rfl (by simp only [go_sem]; rfl) fun ib hib => ?_
  (repeat (with_reducible (first | refine R_nil ?_ | refine C_sq ?_ | refine C_rg ?_ | refine C_bk ?_ | refine C_sk ?_ | refine C_ex ?_ | refine C_rt ?_ | refine X_nx ?_ | refine X_ex ?_ | refine X_rt ?_ | refine B_nx ?_ | refine B_self ?_ | (refine B_ne (by rfl) ?_) | refine B_rt ?_ | ((first | refine R_q (v := ?_) ?h1 ?_ | refine R_ld (v := ?_) ?h1 ?_ | refine R_isn (v := ?_) ?h1 ?_ | refine E_1 (v := ?_) ?h1 ?_ | refine E_1n (v := ?_) ?h1 ?_); case h1 => (simp only [hL, hH, hA, hB, go_sem] <;> rfl)) | ((first | refine R_gt ?h1 ?_); case h1 => (simp only [hL, hH, hA, hB, go_sem] <;> rfl)) | ((first | refine R_gs1 ?h1 ?_); case h1 => (simp only [hL, hH, hA, hB, go_sem] <;> rfl)) | ((first | refine R_gs2 ?h1 ?_); case h1 => (simp only [hL, hH, hA, hB, go_sem] <;> rfl)) | ((first | refine R_gj (vs := ?_) ?h1 ?_); case h1 => (simp only [hL, hH, hA, hB, go_sem] <;> rfl)) | ((first | refine C_cdt ?h1 ?_); case h1 => (simp only [hL, hH, hA, hB, go_sem] <;> rfl)) | ((first | refine C_cdf ?h1 ?_); case h1 => (simp only [hL, hH, hA, hB, go_sem] <;> rfl)) | ((first | refine E_2 (v := ?_) (u := ?_) ?h1 ?h2 ?_ | refine E_2n (v := ?_) (u := ?_) ?h1 ?h2 ?_); (case h1 => (simp only [hL, hH, hA, hB, go_sem] <;> rfl)); (case h2 => (simp only [hL, hH, hA, hB, go_sem] <;> rfl))) | refine E_0 ?_ | refine E_0n ?_ | rw [put_some])))
  refine R_alc fun ia hia => ?_
  have hba : (ib == ia) = false := fresh_ne (upd_eq _ _ _) hia
  refine R_sto (id := ia) (i := 0) (j := 0) (vs := nd8 4 zS (.rw ib 8 0 1) L H) (by simp only [go_sem]) (upd_eq _ _ _) rfl (by simp only [go_sem]; rfl) rfl rfl (by simp) ?_
  have hsp : ∀ p lo hi, splice 0 (nd8 4 zS p lo hi) [.i .i64 0, .i .u64 0, .i .u64 0, .i .u64 0, .i .u64 0, .nil, .i .i64 0, .i .i64 0] = nd8 4 zS p lo hi := fun _ _ _ => rfl
  rw [hsp]
  (repeat (with_reducible (first | refine R_nil ?_ | refine C_sq ?_ | refine C_rg ?_ | refine C_bk ?_ | refine C_sk ?_ | refine C_ex ?_ | refine C_rt ?_ | refine X_nx ?_ | refine X_ex ?_ | refine X_rt ?_ | refine B_nx ?_ | refine B_self ?_ | (refine B_ne (by rfl) ?_) | refine B_rt ?_ | ((first | refine R_q (v := ?_) ?h1 ?_ | refine R_ld (v := ?_) ?h1 ?_ | refine R_isn (v := ?_) ?h1 ?_ | refine E_1 (v := ?_) ?h1 ?_ | refine E_1n (v := ?_) ?h1 ?_); case h1 => (simp only [e0, hk, hkw, go_sem] <;> rfl)) | ((first | refine R_gt ?h1 ?_); case h1 => (simp only [e0, hk, hkw, go_sem] <;> rfl)) | ((first | refine R_gs1 ?h1 ?_); case h1 => (simp only [e0, hk, hkw, go_sem] <;> rfl)) | ((first | refine R_gs2 ?h1 ?_); case h1 => (simp only [e0, hk, hkw, go_sem] <;> rfl)) | ((first | refine R_gj (vs := ?_) ?h1 ?_); case h1 => (simp only [e0, hk, hkw, go_sem] <;> rfl)) | ((first | refine C_cdt ?h1 ?_); case h1 => (simp only [e0, hk, hkw, go_sem] <;> rfl)) | ((first | refine C_cdf ?h1 ?_); case h1 => (simp only [e0, hk, hkw, go_sem] <;> rfl)) | ((first | refine E_2 (v := ?_) (u := ?_) ?h1 ?h2 ?_ | refine E_2n (v := ?_) (u := ?_) ?h1 ?h2 ?_); (case h1 => (simp only [e0, hk, hkw, go_sem] <;> rfl)); (case h2 => (simp only [e0, hk, hkw, go_sem] <;> rfl))) | refine E_0 ?_ | refine E_0n ?_ | rw [put_some])))
  refine R_mks (n := k) (c := k) (by simp only [hkw, go_sem]; rw [if_pos (by omega), Int.toNat_natCast]) (by simp only [hkw, go_sem]; rw [if_pos (by omega), Int.toNat_natCast]) (Nat.le_refl _) ⟨by omega, by omega⟩ fun iw hiw => ?_
  have haw : (ia == iw) = false := fresh_ne (upd_eq _ _ _) hiw
  have hbw : (ib == iw) = false := fresh_ne (by rw [upd_ne _ _ _ _ hba, upd_ne _ _ _ _ hba, upd_eq]) hiw
  (repeat (with_reducible (first | refine R_nil ?_ | refine C_sq ?_ | refine C_rg ?_ | refine C_bk ?_ | refine C_sk ?_ | refine C_ex ?_ | refine C_rt ?_ | refine X_nx ?_ | refine X_ex ?_ | refine X_rt ?_ | refine B_nx ?_ | refine B_self ?_ | (refine B_ne (by rfl) ?_) | refine B_rt ?_ | ((first | refine R_q (v := ?_) ?h1 ?_ | refine R_ld (v := ?_) ?h1 ?_ | refine R_isn (v := ?_) ?h1 ?_ | refine E_1 (v := ?_) ?h1 ?_ | refine E_1n (v := ?_) ?h1 ?_); case h1 => (simp only [go_sem] <;> rfl)) | ((first | refine R_gt ?h1 ?_); case h1 => (simp only [go_sem] <;> rfl)) | ((first | refine R_gs1 ?h1 ?_); case h1 => (simp only [go_sem] <;> rfl)) | ((first | refine R_gs2 ?h1 ?_); case h1 => (simp only [go_sem] <;> rfl)) | ((first | refine R_gj (vs := ?_) ?h1 ?_); case h1 => (simp only [go_sem] <;> rfl)) | ((first | refine C_cdt ?h1 ?_); case h1 => (simp only [go_sem] <;> rfl)) | ((first | refine C_cdf ?h1 ?_); case h1 => (simp only [go_sem] <;> rfl)) | ((first | refine E_2 (v := ?_) (u := ?_) ?h1 ?h2 ?_ | refine E_2n (v := ?_) (u := ?_) ?h1 ?h2 ?_); (case h1 => (simp only [go_sem] <;> rfl)); (case h2 => (simp only [go_sem] <;> rfl))) | refine E_0 ?_ | refine E_0n ?_ | rw [put_some])))
  refine C_lp (fun r e o' => ∃ j : Nat, j + r = k ∧ e 7 = .pt ia 0 0 ∧ e 8 = .rw iw 1 0 k ∧ e 9 = .i .i64 j ∧ o' iw = some (.row 1 (filled j k)) ∧ o' ia = some (.row 8 [nd8 4 zS (.rw ib 8 0 1) L H]) ∧ o' ib = some (.row 8 [(cel ndA).set 5 .nil])) (k := k) ?_ (Call_le F) ?_
  · refine ⟨0, by omega, by simp only [go_sem], by simp only [go_sem], by simp only [go_sem]; rfl, by rw [upd_eq]; simp [filled], ?_, ?_⟩
    · rw [upd_ne _ _ _ _ haw, upd_eq]; rfl
    · rw [upd_ne _ _ _ _ hbw, upd_ne _ _ _ _ hba, upd_ne _ _ _ _ hba, upd_eq]
  rintro r e o' ⟨j, hjr, h7, h8, h9, how, hoa, hob⟩
  have hw1 : IntKind.i64.wrap ((j : Int) + 1) = ((j + 1 : Nat) : Int) := by rw [wrap_i64 (by omega) (by omega)]; rfl
  dsimp only [b7_0]
  (repeat (with_reducible (first | refine R_nil ?_ | refine C_sq ?_ | refine C_rg ?_ | refine C_bk ?_ | refine C_sk ?_ | refine C_ex ?_ | refine C_rt ?_ | refine X_nx ?_ | refine X_ex ?_ | refine X_rt ?_ | refine B_nx ?_ | refine B_self ?_ | (refine B_ne (by rfl) ?_) | refine B_rt ?_ | ((first | refine R_q (v := ?_) ?h1 ?_ | refine R_ld (v := ?_) ?h1 ?_ | refine R_isn (v := ?_) ?h1 ?_ | refine E_1 (v := ?_) ?h1 ?_ | refine E_1n (v := ?_) ?h1 ?_); case h1 => (simp only [h8, h9, go_sem] <;> rfl)) | ((first | refine R_gt ?h1 ?_); case h1 => (simp only [h8, h9, go_sem] <;> rfl)) | ((first | refine R_gs1 ?h1 ?_); case h1 => (simp only [h8, h9, go_sem] <;> rfl)) | ((first | refine R_gs2 ?h1 ?_); case h1 => (simp only [h8, h9, go_sem] <;> rfl)) | ((first | refine R_gj (vs := ?_) ?h1 ?_); case h1 => (simp only [h8, h9, go_sem] <;> rfl)) | ((first | refine C_cdt ?h1 ?_); case h1 => (simp only [h8, h9, go_sem] <;> rfl)) | ((first | refine C_cdf ?h1 ?_); case h1 => (simp only [h8, h9, go_sem] <;> rfl)) | ((first | refine E_2 (v := ?_) (u := ?_) ?h1 ?h2 ?_ | refine E_2n (v := ?_) (u := ?_) ?h1 ?h2 ?_); (case h1 => (simp only [h8, h9, go_sem] <;> rfl)); (case h2 => (simp only [h8, h9, go_sem] <;> rfl))) | refine E_0 ?_ | refine E_0n ?_ | rw [put_some])))
  refine C_cdb (q := decide ((j : Int) < (k : Int))) (by simp only [go_sem]) (fun hc => ?_) (fun hc => ?_)
  · have hj : j < k := by
      have := of_decide_eq_true hc
      omega
    (repeat (with_reducible (first | refine R_nil ?_ | refine C_sq ?_ | refine C_rg ?_ | refine C_bk ?_ | refine C_sk ?_ | refine C_ex ?_ | refine C_rt ?_ | refine X_nx ?_ | refine X_ex ?_ | refine X_rt ?_ | refine B_nx ?_ | refine B_self ?_ | (refine B_ne (by rfl) ?_) | refine B_rt ?_ | ((first | refine R_q (v := ?_) ?h1 ?_ | refine R_ld (v := ?_) ?h1 ?_ | refine R_isn (v := ?_) ?h1 ?_ | refine E_1 (v := ?_) ?h1 ?_ | refine E_1n (v := ?_) ?h1 ?_); case h1 => (simp only [h8, h9, go_sem] <;> rfl)) | ((first | refine R_gt ?h1 ?_); case h1 => (simp only [h8, h9, go_sem] <;> rfl)) | ((first | refine R_gs1 ?h1 ?_); case h1 => (simp only [h8, h9, go_sem] <;> rfl)) | ((first | refine R_gs2 ?h1 ?_); case h1 => (simp only [h8, h9, go_sem] <;> rfl)) | ((first | refine R_gj (vs := ?_) ?h1 ?_); case h1 => (simp only [h8, h9, go_sem] <;> rfl)) | ((first | refine C_cdt ?h1 ?_); case h1 => (simp only [h8, h9, go_sem] <;> rfl)) | ((first | refine C_cdf ?h1 ?_); case h1 => (simp only [h8, h9, go_sem] <;> rfl)) | ((first | refine E_2 (v := ?_) (u := ?_) ?h1 ?h2 ?_ | refine E_2n (v := ?_) (u := ?_) ?h1 ?h2 ?_); (case h1 => (simp only [h8, h9, go_sem] <;> rfl)); (case h2 => (simp only [h8, h9, go_sem] <;> rfl))) | refine E_0 ?_ | refine E_0n ?_ | rw [put_some])))
    refine R_q (v := .pt iw j 0) (by simp only [go_sem]; rw [if_pos (by omega)]; simp) ?_
    refine R_sto (id := iw) (i := j) (j := 0) (vs := [.i .u8 65]) (by simp only [go_sem]) how (filled_get hj) (by simp only [go_sem]; rfl) rfl rfl (by simp) ?_
    have hsp1 : splice 0 [V.i .u8 65] [V.i .u8 0] = [.i .u8 65] := rfl
    rw [hsp1, filled_set hj]
    (repeat (with_reducible (first | refine R_nil ?_ | refine C_sq ?_ | refine C_rg ?_ | refine C_bk ?_ | refine C_sk ?_ | refine C_ex ?_ | refine C_rt ?_ | refine X_nx ?_ | refine X_ex ?_ | refine X_rt ?_ | refine B_nx ?_ | refine B_self ?_ | (refine B_ne (by rfl) ?_) | refine B_rt ?_ | ((first | refine R_q (v := ?_) ?h1 ?_ | refine R_ld (v := ?_) ?h1 ?_ | refine R_isn (v := ?_) ?h1 ?_ | refine E_1 (v := ?_) ?h1 ?_ | refine E_1n (v := ?_) ?h1 ?_); case h1 => (simp only [h9, hw1, go_sem] <;> rfl)) | ((first | refine R_gt ?h1 ?_); case h1 => (simp only [h9, hw1, go_sem] <;> rfl)) | ((first | refine R_gs1 ?h1 ?_); case h1 => (simp only [h9, hw1, go_sem] <;> rfl)) | ((first | refine R_gs2 ?h1 ?_); case h1 => (simp only [h9, hw1, go_sem] <;> rfl)) | ((first | refine R_gj (vs := ?_) ?h1 ?_); case h1 => (simp only [h9, hw1, go_sem] <;> rfl)) | ((first | refine C_cdt ?h1 ?_); case h1 => (simp only [h9, hw1, go_sem] <;> rfl)) | ((first | refine C_cdf ?h1 ?_); case h1 => (simp only [h9, hw1, go_sem] <;> rfl)) | ((first | refine E_2 (v := ?_) (u := ?_) ?h1 ?h2 ?_ | refine E_2n (v := ?_) (u := ?_) ?h1 ?h2 ?_); (case h1 => (simp only [h9, hw1, go_sem] <;> rfl)); (case h2 => (simp only [h9, hw1, go_sem] <;> rfl))) | refine E_0 ?_ | refine E_0n ?_ | rw [put_some])))
    refine ⟨r - 1, by omega, j + 1, by omega, by simp only [h7, go_sem], by simp only [h8, go_sem], by simp only [hw1, go_sem], upd_eq _ _ _, ?_, ?_⟩
    · rw [upd_ne _ _ _ _ haw]; exact hoa
    · rw [upd_ne _ _ _ _ hbw]; exact hob
  · have hj : j = k := by
      have := of_decide_eq_false hc
      omega
    subst hj
    have h8' : ∀ p lo hi, (nd8 4 zS p lo hi).take 8 = nd8 4 zS p lo hi := fun _ _ _ => rfl
    have l8 : ∀ p lo hi, (nd8 4 zS p lo hi).length = 8 := fun _ _ _ => rfl
    have hfm := formed_lng hLH.1 hLH.2.1 hLH.2.2
    have hsm : small (lngV L H) := small_tim small_ndA _ _
    have hfz : fz o' (.ag (nd8 4 zS (.rw ib 8 0 1) L H)) = some (.ag (cel (lngV L H))) := by
      have hs : src o' (.rw ib 8 0 1) = some [(cel ndA).set 5 .nil] := by
        simp only [src, hob]; rfl
      have h1 : frz 23 o' (.rw ib 8 0 1) = some (.sl [cel ndA]) := by
        simp only [frz, hs]; rfl
      unfold fz FZ
      show (([V.i .i64 4, .i .u64 0, .i .u64 0, .i .u64 0, .i .u64 0, .rw ib 8 0 1, .i .i64 L, .i .i64 H]).mapM (frz 23 _)).map V.ag = _
      simp only [List.mapM_cons, h1]
      rfl
    have hr : isR (wrd j) (lngV L H) = if 200 < j then .tp [.bo false, .i .i64 3] else .tp [.bo (sp (wrd j) (lngV L H) 0 j), .i .i64 0] := by
      unfold isR
      rw [if_neg (by rw [hfm]; simp), wrd_len]
    have hflat : flat FZ (isR (wrd j) (lngV L H)) = true := by rw [hr]; split <;> rfl
    (repeat (with_reducible (first | refine R_nil ?_ | refine C_sq ?_ | refine C_rg ?_ | refine C_bk ?_ | refine C_sk ?_ | refine C_ex ?_ | refine C_rt ?_ | refine X_nx ?_ | refine X_ex ?_ | refine X_rt ?_ | refine B_nx ?_ | refine B_self ?_ | (refine B_ne (by rfl) ?_) | refine B_rt ?_ | ((first | refine R_q (v := ?_) ?h1 ?_ | refine R_ld (v := ?_) ?h1 ?_ | refine R_isn (v := ?_) ?h1 ?_ | refine E_1 (v := ?_) ?h1 ?_ | refine E_1n (v := ?_) ?h1 ?_); case h1 => (simp only [h7, h8, hoa, l8, h8', List.drop_zero, go_sem] <;> rfl)) | ((first | refine R_gt ?h1 ?_); case h1 => (simp only [h7, h8, hoa, l8, h8', List.drop_zero, go_sem] <;> rfl)) | ((first | refine R_gs1 ?h1 ?_); case h1 => (simp only [h7, h8, hoa, l8, h8', List.drop_zero, go_sem] <;> rfl)) | ((first | refine R_gs2 ?h1 ?_); case h1 => (simp only [h7, h8, hoa, l8, h8', List.drop_zero, go_sem] <;> rfl)) | ((first | refine R_gj (vs := ?_) ?h1 ?_); case h1 => (simp only [h7, h8, hoa, l8, h8', List.drop_zero, go_sem] <;> rfl)) | ((first | refine C_cdt ?h1 ?_); case h1 => (simp only [h7, h8, hoa, l8, h8', List.drop_zero, go_sem] <;> rfl)) | ((first | refine C_cdf ?h1 ?_); case h1 => (simp only [h7, h8, hoa, l8, h8', List.drop_zero, go_sem] <;> rfl)) | ((first | refine E_2 (v := ?_) (u := ?_) ?h1 ?h2 ?_ | refine E_2n (v := ?_) (u := ?_) ?h1 ?h2 ?_); (case h1 => (simp only [h7, h8, hoa, l8, h8', List.drop_zero, go_sem] <;> rfl)); (case h2 => (simp only [h7, h8, hoa, l8, h8', List.drop_zero, go_sem] <;> rfl))) | refine E_0 ?_ | refine E_0n ?_ | rw [put_some])))
    refine R_pcf (g := 13) (r := isR (wrd j) (lngV L H)) (vs := [.ag (nd8 4 zS (.rw ib 8 0 1) L H), .rw iw 1 0 j]) (ws := [.ag (cel (lngV L H)), wordV (wrd j)]) (by simp only [go_sem]) (fzs2 hfz (fz_filled how)) hflat (Is_ok (wrd j) (wrd_lt j) (by rw [wrd_len]; omega) _ hsm emp _ (fun _ => isR_fz _ _ _)) ?_
    rw [hr]
    split
    · rename_i h200
      (repeat (with_reducible (first | refine R_nil ?_ | refine C_sq ?_ | refine C_rg ?_ | refine C_bk ?_ | refine C_sk ?_ | refine C_ex ?_ | refine C_rt ?_ | refine X_nx ?_ | refine X_ex ?_ | refine X_rt ?_ | refine B_nx ?_ | refine B_self ?_ | (refine B_ne (by rfl) ?_) | refine B_rt ?_ | ((first | refine R_q (v := ?_) ?h1 ?_ | refine R_ld (v := ?_) ?h1 ?_ | refine R_isn (v := ?_) ?h1 ?_ | refine E_1 (v := ?_) ?h1 ?_ | refine E_1n (v := ?_) ?h1 ?_); case h1 => (simp only [List.getElem?_cons_zero, h8, go_sem] <;> rfl)) | ((first | refine R_gt ?h1 ?_); case h1 => (simp only [List.getElem?_cons_zero, h8, go_sem] <;> rfl)) | ((first | refine R_gs1 ?h1 ?_); case h1 => (simp only [List.getElem?_cons_zero, h8, go_sem] <;> rfl)) | ((first | refine R_gs2 ?h1 ?_); case h1 => (simp only [List.getElem?_cons_zero, h8, go_sem] <;> rfl)) | ((first | refine R_gj (vs := ?_) ?h1 ?_); case h1 => (simp only [List.getElem?_cons_zero, h8, go_sem] <;> rfl)) | ((first | refine C_cdt ?h1 ?_); case h1 => (simp only [List.getElem?_cons_zero, h8, go_sem] <;> rfl)) | ((first | refine C_cdf ?h1 ?_); case h1 => (simp only [List.getElem?_cons_zero, h8, go_sem] <;> rfl)) | ((first | refine E_2 (v := ?_) (u := ?_) ?h1 ?h2 ?_ | refine E_2n (v := ?_) (u := ?_) ?h1 ?h2 ?_); (case h1 => (simp only [List.getElem?_cons_zero, h8, go_sem] <;> rfl)); (case h2 => (simp only [List.getElem?_cons_zero, h8, go_sem] <;> rfl))) | refine E_0 ?_ | refine E_0n ?_ | rw [put_some])))
      refine C_cdb (q := decide ((j : Int) > 200)) (by simp only [go_sem]) (fun hc => ?_) (fun hc => by have := of_decide_eq_false hc; omega)
      (repeat (with_reducible (first | refine R_nil ?_ | refine C_sq ?_ | refine C_rg ?_ | refine C_bk ?_ | refine C_sk ?_ | refine C_ex ?_ | refine C_rt ?_ | refine X_nx ?_ | refine X_ex ?_ | refine X_rt ?_ | refine B_nx ?_ | refine B_self ?_ | (refine B_ne (by rfl) ?_) | refine B_rt ?_ | ((first | refine R_q (v := ?_) ?h1 ?_ | refine R_ld (v := ?_) ?h1 ?_ | refine R_isn (v := ?_) ?h1 ?_ | refine E_1 (v := ?_) ?h1 ?_ | refine E_1n (v := ?_) ?h1 ?_); case h1 => (simp only [go_sem] <;> rfl)) | ((first | refine R_gt ?h1 ?_); case h1 => (simp only [go_sem] <;> rfl)) | ((first | refine R_gs1 ?h1 ?_); case h1 => (simp only [go_sem] <;> rfl)) | ((first | refine R_gs2 ?h1 ?_); case h1 => (simp only [go_sem] <;> rfl)) | ((first | refine R_gj (vs := ?_) ?h1 ?_); case h1 => (simp only [go_sem] <;> rfl)) | ((first | refine C_cdt ?h1 ?_); case h1 => (simp only [go_sem] <;> rfl)) | ((first | refine C_cdf ?h1 ?_); case h1 => (simp only [go_sem] <;> rfl)) | ((first | refine E_2 (v := ?_) (u := ?_) ?h1 ?h2 ?_ | refine E_2n (v := ?_) (u := ?_) ?h1 ?h2 ?_); (case h1 => (simp only [go_sem] <;> rfl)); (case h2 => (simp only [go_sem] <;> rfl))) | refine E_0 ?_ | refine E_0n ?_ | rw [put_some])))
      refine bo_eq ?_ (hK _)
      simp [longB, h200]
    · rename_i h200
      (repeat (with_reducible (first | refine R_nil ?_ | refine C_sq ?_ | refine C_rg ?_ | refine C_bk ?_ | refine C_sk ?_ | refine C_ex ?_ | refine C_rt ?_ | refine X_nx ?_ | refine X_ex ?_ | refine X_rt ?_ | refine B_nx ?_ | refine B_self ?_ | (refine B_ne (by rfl) ?_) | refine B_rt ?_ | ((first | refine R_q (v := ?_) ?h1 ?_ | refine R_ld (v := ?_) ?h1 ?_ | refine R_isn (v := ?_) ?h1 ?_ | refine E_1 (v := ?_) ?h1 ?_ | refine E_1n (v := ?_) ?h1 ?_); case h1 => (simp only [List.getElem?_cons_zero, h8, go_sem] <;> rfl)) | ((first | refine R_gt ?h1 ?_); case h1 => (simp only [List.getElem?_cons_zero, h8, go_sem] <;> rfl)) | ((first | refine R_gs1 ?h1 ?_); case h1 => (simp only [List.getElem?_cons_zero, h8, go_sem] <;> rfl)) | ((first | refine R_gs2 ?h1 ?_); case h1 => (simp only [List.getElem?_cons_zero, h8, go_sem] <;> rfl)) | ((first | refine R_gj (vs := ?_) ?h1 ?_); case h1 => (simp only [List.getElem?_cons_zero, h8, go_sem] <;> rfl)) | ((first | refine C_cdt ?h1 ?_); case h1 => (simp only [List.getElem?_cons_zero, h8, go_sem] <;> rfl)) | ((first | refine C_cdf ?h1 ?_); case h1 => (simp only [List.getElem?_cons_zero, h8, go_sem] <;> rfl)) | ((first | refine E_2 (v := ?_) (u := ?_) ?h1 ?h2 ?_ | refine E_2n (v := ?_) (u := ?_) ?h1 ?h2 ?_); (case h1 => (simp only [List.getElem?_cons_zero, h8, go_sem] <;> rfl)); (case h2 => (simp only [List.getElem?_cons_zero, h8, go_sem] <;> rfl))) | refine E_0 ?_ | refine E_0n ?_ | rw [put_some])))
      refine C_cdb (q := decide ((j : Int) > 200)) (by simp only [go_sem]) (fun hc => by have := of_decide_eq_true hc; omega) (fun hc => ?_)
      have g6 : ∀ p lo hi, (nd8 4 zS p lo hi)[6]? = some (.i .i64 lo) := fun _ _ _ => rfl
      have g7 : ∀ p lo hi, (nd8 4 zS p lo hi)[7]? = some (.i .i64 hi) := fun _ _ _ => rfl
      (repeat' (first | (with_reducible (first | refine R_nil ?_ | refine C_sq ?_ | refine C_rg ?_ | refine C_bk ?_ | refine C_sk ?_ | refine C_ex ?_ | refine C_rt ?_ | refine X_nx ?_ | refine X_ex ?_ | refine X_rt ?_ | refine B_nx ?_ | refine B_self ?_ | (refine B_ne (by rfl) ?_) | refine B_rt ?_ | ((first | refine R_q (v := ?_) ?h1 ?_ | refine R_ld (v := ?_) ?h1 ?_ | refine R_isn (v := ?_) ?h1 ?_ | refine E_1 (v := ?_) ?h1 ?_ | refine E_1n (v := ?_) ?h1 ?_); case h1 => (simp only [h7, h8, hoa, g6, g7, go_sem] <;> rfl)) | ((first | refine R_gt ?h1 ?_); case h1 => (simp only [h7, h8, hoa, g6, g7, go_sem] <;> rfl)) | ((first | refine R_gs1 ?h1 ?_); case h1 => (simp only [h7, h8, hoa, g6, g7, go_sem] <;> rfl)) | ((first | refine R_gs2 ?h1 ?_); case h1 => (simp only [h7, h8, hoa, g6, g7, go_sem] <;> rfl)) | ((first | refine R_gj (vs := ?_) ?h1 ?_); case h1 => (simp only [h7, h8, hoa, g6, g7, go_sem] <;> rfl)) | ((first | refine C_cdt ?h1 ?_); case h1 => (simp only [h7, h8, hoa, g6, g7, go_sem] <;> rfl)) | ((first | refine C_cdf ?h1 ?_); case h1 => (simp only [h7, h8, hoa, g6, g7, go_sem] <;> rfl)) | ((first | refine E_2 (v := ?_) (u := ?_) ?h1 ?h2 ?_ | refine E_2n (v := ?_) (u := ?_) ?h1 ?h2 ?_); (case h1 => (simp only [h7, h8, hoa, g6, g7, go_sem] <;> rfl)); (case h2 => (simp only [h7, h8, hoa, g6, g7, go_sem] <;> rfl))) | refine E_0 ?_ | refine E_0n ?_ | rw [put_some])) | with_reducible (refine R_gb (q := ?_) ?h1 (fun _ => ?_) (fun _ => ?_); case h1 => (simp only [h7, h8, hoa, g6, g7, go_sem] <;> rfl)) | with_reducible (refine C_cdb (q := ?_) ?h1 (fun _ => ?_) (fun _ => ?_); case h1 => (simp only [h7, h8, hoa, g6, g7, go_sem] <;> rfl))))
      all_goals refine bo_eq ?_ (hK _)
      all_goals clear hK ha
      all_goals simp only [longB, if_neg h200]
      all_goals simp_all
      all_goals rw [decide_eq_false (show ¬ (L ≤ (j : Int)) by omega)]
      all_goals simp

end Go.Proofs.Ytiadalheipbpcaa
