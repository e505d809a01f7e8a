import Derived.Test.YtiadalheipbpcaaT13

/-
  Where a tree reaches in a word.
-/
namespace Go.Proofs.Ytiadalheipbpcaa
set_option linter.all false

mutual
def sp (w : List Nat) : Nd → Nat → Nat → Bool
  | .mk k s ps lo hi =>
    if k = 1 then byteR w s
    else if k = 3 then spAlt w ps (fun _ _ => false)
    else if k = 2 then spCat w ps idR
    else if k = 4 then
      thenN (pw (w.length + 1) idR (spHead w ps) lo.toNat) (pw (w.length + 1) idR (orR (spHead w ps) idR) (if hi = -1 then w.length + 1 else (hi - lo).toNat)) (w.length + 1)
    else idR
def spAlt (w : List Nat) : List Nd → (Nat → Nat → Bool) → (Nat → Nat → Bool)
  | [], a => a
  | p :: ps, a => spAlt w ps (orR a (sp w p))
def spCat (w : List Nat) : List Nd → (Nat → Nat → Bool) → (Nat → Nat → Bool)
  | [], a => a
  | p :: ps, a => spCat w ps (thenN a (sp w p) (w.length + 1))
def spHead (w : List Nat) : List Nd → (Nat → Nat → Bool)
  | [] => idR
  | p :: _ => sp w p
end

section
variable (w : List Nat) (hl : w.length ≤ 254) (ps : List Nd) (hlen : ps.length < 9223372036854775808)
  (ih : ∀ p ∈ ps, Call F 20 [.ag (cel p), wordV w] emp (fun v o' => fz o' v = some (.sl (rel (sp w p) (w.length + 1)))))
include hl hlen ih

theorem altLoop_ok (K : X → E → O → Prop) (e : E) (o : O) (A : Nat → Nat → Bool) (id : Nat) (h1 : e 1 = wordV w) (h9 : e 9 = .rw id 4 0 (w.length + 1)) (ho : o id = some (.row 4 (rel A (w.length + 1))))
    (h51 : e 51 = .sl (ps.map cel)) (h52 : e 52 = .i .i64 ps.length) (h53 : e 53 = .i .i64 0)
    (hK : ∀ e o id, e 9 = .rw id 4 0 (w.length + 1) → o id = some (.row 4 (rel (spAlt w ps A) (w.length + 1))) → K (.ex 3) e o) : wpC (Call F) (.lp b20_1) K e o := by
  refine C_lp (fun r e o' => ∃ (j : Nat) (B : Nat → Nat → Bool) (id : Nat), j + r = ps.length ∧ e 1 = wordV w ∧ e 9 = .rw id 4 0 (w.length + 1) ∧ o' id = some (.row 4 (rel B (w.length + 1))) ∧ e 51 = .sl (ps.map cel) ∧ e 52 = .i .i64 ps.length ∧ e 53 = .i .i64 j ∧ spAlt w (ps.drop j) B = spAlt w ps A) (k := ps.length) ?_ (Call_le F) ?_
  · exact ⟨0, A, id, by omega, h1, h9, ho, h51, h52, h53, rfl⟩
  clear h1 h9 ho h51 h52 h53
  rintro r e o' ⟨j, B, id, hjr, h1, h9, ho, h51, h52, h53, hsp⟩
  dsimp only [b20_1]
  (repeat (with_reducible (first | refine R_nil ?_ | refine C_sq ?_ | refine C_rg ?_ | refine C_bk ?_ | refine C_sk ?_ | refine C_ex ?_ | refine C_rt ?_ | refine X_nx ?_ | refine X_ex ?_ | refine X_rt ?_ | refine B_nx ?_ | refine B_self ?_ | (refine B_ne (by rfl) ?_) | refine B_rt ?_ | ((first | refine R_q (v := ?_) ?h1 ?_ | refine R_ld (v := ?_) ?h1 ?_ | refine R_isn (v := ?_) ?h1 ?_ | refine E_1 (v := ?_) ?h1 ?_ | refine E_1n (v := ?_) ?h1 ?_); case h1 => (simp only [h52, h53, go_sem] <;> rfl)) | ((first | refine R_gt ?h1 ?_); case h1 => (simp only [h52, h53, go_sem] <;> rfl)) | ((first | refine R_gs1 ?h1 ?_); case h1 => (simp only [h52, h53, go_sem] <;> rfl)) | ((first | refine R_gs2 ?h1 ?_); case h1 => (simp only [h52, h53, go_sem] <;> rfl)) | ((first | refine R_gj (vs := ?_) ?h1 ?_); case h1 => (simp only [h52, h53, go_sem] <;> rfl)) | ((first | refine C_cdt ?h1 ?_); case h1 => (simp only [h52, h53, go_sem] <;> rfl)) | ((first | refine C_cdf ?h1 ?_); case h1 => (simp only [h52, h53, go_sem] <;> rfl)) | ((first | refine E_2 (v := ?_) (u := ?_) ?h1 ?h2 ?_ | refine E_2n (v := ?_) (u := ?_) ?h1 ?h2 ?_); (case h1 => (simp only [h52, h53, go_sem] <;> rfl)); (case h2 => (simp only [h52, h53, go_sem] <;> rfl))) | refine E_0 ?_ | refine E_0n ?_ | rw [put_some])))
  refine C_cdb (q := decide ((j : Int) < (ps.length : Int))) (by simp only [go_sem]) (fun hc => ?_) (fun hc => ?_)
  · have hj : j < ps.length := by simpa using hc
    have hp : ps[j]? = some ps[j] := List.getElem?_eq_getElem hj
    have hdrop : ps.drop j = ps[j] :: ps.drop (j + 1) := List.drop_eq_getElem_cons hj
    (repeat (with_reducible (first | refine R_nil ?_ | refine C_sq ?_ | refine C_rg ?_ | refine C_bk ?_ | refine C_sk ?_ | refine C_ex ?_ | refine C_rt ?_ | refine X_nx ?_ | refine X_ex ?_ | refine X_rt ?_ | refine B_nx ?_ | refine B_self ?_ | (refine B_ne (by rfl) ?_) | refine B_rt ?_ | ((first | refine R_q (v := ?_) ?h1 ?_ | refine R_ld (v := ?_) ?h1 ?_ | refine R_isn (v := ?_) ?h1 ?_ | refine E_1 (v := ?_) ?h1 ?_ | refine E_1n (v := ?_) ?h1 ?_); case h1 => (simp only [h53, go_sem] <;> rfl)) | ((first | refine R_gt ?h1 ?_); case h1 => (simp only [h53, go_sem] <;> rfl)) | ((first | refine R_gs1 ?h1 ?_); case h1 => (simp only [h53, go_sem] <;> rfl)) | ((first | refine R_gs2 ?h1 ?_); case h1 => (simp only [h53, go_sem] <;> rfl)) | ((first | refine R_gj (vs := ?_) ?h1 ?_); case h1 => (simp only [h53, go_sem] <;> rfl)) | ((first | refine C_cdt ?h1 ?_); case h1 => (simp only [h53, go_sem] <;> rfl)) | ((first | refine C_cdf ?h1 ?_); case h1 => (simp only [h53, go_sem] <;> rfl)) | ((first | refine E_2 (v := ?_) (u := ?_) ?h1 ?h2 ?_ | refine E_2n (v := ?_) (u := ?_) ?h1 ?h2 ?_); (case h1 => (simp only [h53, go_sem] <;> rfl)); (case h2 => (simp only [h53, go_sem] <;> rfl))) | refine E_0 ?_ | refine E_0n ?_ | rw [put_some])))
    refine R_q (v := .ip (cel ps[j]) 0) (by simp only [h51, h53, go_sem]; rw [if_pos (by omega)]; simp [hp, cel_len]) ?_
    refine R_ld (v := .ag (cel ps[j])) (by simp only [go_sem]; simp [cel_len]; exact List.take_of_length_le (by rw [cel_len]; omega)) ?_
    refine R_alc fun ida hida => ?_
    have hne : id ≠ ida := fun h => by rw [h, hida] at ho; cases ho
    refine R_sto (id := ida) (i := 0) (j := 0) (vs := cel ps[j]) (by simp only [go_sem]) (upd_eq _ _ _) rfl (by (simp only [go_sem] <;> rfl)) rfl (cel_len _) (by simp) ?_
    have hsp8 : splice 0 (cel ps[j]) [.i .i64 0, .i .u64 0, .i .u64 0, .i .u64 0, .i .u64 0, .nil, .i .i64 0, .i .i64 0] = cel ps[j] := splice_all (by rw [cel_len]; rfl)
    rw [hsp8]
    (repeat (with_reducible (first | refine R_nil ?_ | refine C_sq ?_ | refine C_rg ?_ | refine C_bk ?_ | refine C_sk ?_ | refine C_ex ?_ | refine C_rt ?_ | refine X_nx ?_ | refine X_ex ?_ | refine X_rt ?_ | refine B_nx ?_ | refine B_self ?_ | (refine B_ne (by rfl) ?_) | refine B_rt ?_ | ((first | refine R_q (v := ?_) ?h1 ?_ | refine R_ld (v := ?_) ?h1 ?_ | refine R_isn (v := ?_) ?h1 ?_ | refine E_1 (v := ?_) ?h1 ?_ | refine E_1n (v := ?_) ?h1 ?_); case h1 => (simp only [h9, go_sem] <;> rfl)) | ((first | refine R_gt ?h1 ?_); case h1 => (simp only [h9, go_sem] <;> rfl)) | ((first | refine R_gs1 ?h1 ?_); case h1 => (simp only [h9, go_sem] <;> rfl)) | ((first | refine R_gs2 ?h1 ?_); case h1 => (simp only [h9, go_sem] <;> rfl)) | ((first | refine R_gj (vs := ?_) ?h1 ?_); case h1 => (simp only [h9, go_sem] <;> rfl)) | ((first | refine C_cdt ?h1 ?_); case h1 => (simp only [h9, go_sem] <;> rfl)) | ((first | refine C_cdf ?h1 ?_); case h1 => (simp only [h9, go_sem] <;> rfl)) | ((first | refine E_2 (v := ?_) (u := ?_) ?h1 ?h2 ?_ | refine E_2n (v := ?_) (u := ?_) ?h1 ?h2 ?_); (case h1 => (simp only [h9, go_sem] <;> rfl)); (case h2 => (simp only [h9, go_sem] <;> rfl))) | refine E_0 ?_ | refine E_0n ?_ | rw [put_some])))
    refine R_ld (v := .ag (cel ps[j])) (by simp only [go_sem]; simp [cel_len]; exact List.take_of_length_le (by rw [cel_len]; omega)) ?_
    (repeat (with_reducible (first | refine R_nil ?_ | refine C_sq ?_ | refine C_rg ?_ | refine C_bk ?_ | refine C_sk ?_ | refine C_ex ?_ | refine C_rt ?_ | refine X_nx ?_ | refine X_ex ?_ | refine X_rt ?_ | refine B_nx ?_ | refine B_self ?_ | (refine B_ne (by rfl) ?_) | refine B_rt ?_ | ((first | refine R_q (v := ?_) ?h1 ?_ | refine R_ld (v := ?_) ?h1 ?_ | refine R_isn (v := ?_) ?h1 ?_ | refine E_1 (v := ?_) ?h1 ?_ | refine E_1n (v := ?_) ?h1 ?_); case h1 => (simp only [h1, go_sem] <;> rfl)) | ((first | refine R_gt ?h1 ?_); case h1 => (simp only [h1, go_sem] <;> rfl)) | ((first | refine R_gs1 ?h1 ?_); case h1 => (simp only [h1, go_sem] <;> rfl)) | ((first | refine R_gs2 ?h1 ?_); case h1 => (simp only [h1, go_sem] <;> rfl)) | ((first | refine R_gj (vs := ?_) ?h1 ?_); case h1 => (simp only [h1, go_sem] <;> rfl)) | ((first | refine C_cdt ?h1 ?_); case h1 => (simp only [h1, go_sem] <;> rfl)) | ((first | refine C_cdf ?h1 ?_); case h1 => (simp only [h1, go_sem] <;> rfl)) | ((first | refine E_2 (v := ?_) (u := ?_) ?h1 ?h2 ?_ | refine E_2n (v := ?_) (u := ?_) ?h1 ?h2 ?_); (case h1 => (simp only [h1, go_sem] <;> rfl)); (case h2 => (simp only [h1, go_sem] <;> rfl))) | refine E_0 ?_ | refine E_0n ?_ | rw [put_some])))
    refine R_pcc (g := 20) (r := .sl (rel (sp w ps[j]) (w.length + 1))) (vs := [.ag (cel ps[j]), wordV w]) (by simp only [h1, go_sem]) (by simp [FZ, okd, cel_okd, wordV]) (by
      have : clo FZ (.ag (cel ps[j])) = true := by
        cases ps[j]; rfl
      simp [clos, this]; rfl) (ih _ (List.getElem_mem _)) ?_
    refine R_nc (vs := [.rw id 4 0 (w.length + 1), .sl (rel (sp w ps[j]) (w.length + 1))]) (by simp only [h9, go_sem]) ?_
    have ho2 : ∀ z, upd (upd o' ida z) ida z id = some (.row 4 (rel B (w.length + 1))) := fun z => by
      rw [upd_ne _ _ _ _ (by simpa using hne), upd_ne _ _ _ _ (by simpa using hne)]; exact ho
    refine relorG_ok (.rw id 4 0 (w.length + 1)) B (sp w ps[j]) (w.length + 1) (by omega) _ rfl (fun q hq => ⟨.pt id q 0, by simp only [ixpV]; rw [if_pos (by refine ⟨?_, ?_, ?_⟩ <;> first | rfl | trivial | omega)]; simp, fun o2 hold => ?_⟩) _ (fun id2 o2 hid2 hold => ?_)
    · have h3 := hold id (.row 4 (rel B (w.length + 1))) (by rw [upd_ne _ _ _ _ (by simpa using hne), upd_ne _ _ _ _ (by simpa using hne)]; exact ho)
      simp only [cellsAt, h3, rel_get B hq]
    · have hw1 : IntKind.i64.wrap ((j : Int) + 1) = ((j + 1 : Nat) : Int) := by rw [wrap_i64 (by omega) (by omega)]; rfl
      (repeat (with_reducible (first | refine R_nil ?_ | refine C_sq ?_ | refine C_rg ?_ | refine C_bk ?_ | refine C_sk ?_ | refine C_ex ?_ | refine C_rt ?_ | refine X_nx ?_ | refine X_ex ?_ | refine X_rt ?_ | refine B_nx ?_ | refine B_self ?_ | (refine B_ne (by rfl) ?_) | refine B_rt ?_ | ((first | refine R_q (v := ?_) ?h1 ?_ | refine R_ld (v := ?_) ?h1 ?_ | refine R_isn (v := ?_) ?h1 ?_ | refine E_1 (v := ?_) ?h1 ?_ | refine E_1n (v := ?_) ?h1 ?_); case h1 => (simp only [h53, hw1, go_sem] <;> rfl)) | ((first | refine R_gt ?h1 ?_); case h1 => (simp only [h53, hw1, go_sem] <;> rfl)) | ((first | refine R_gs1 ?h1 ?_); case h1 => (simp only [h53, hw1, go_sem] <;> rfl)) | ((first | refine R_gs2 ?h1 ?_); case h1 => (simp only [h53, hw1, go_sem] <;> rfl)) | ((first | refine R_gj (vs := ?_) ?h1 ?_); case h1 => (simp only [h53, hw1, go_sem] <;> rfl)) | ((first | refine C_cdt ?h1 ?_); case h1 => (simp only [h53, hw1, go_sem] <;> rfl)) | ((first | refine C_cdf ?h1 ?_); case h1 => (simp only [h53, hw1, go_sem] <;> rfl)) | ((first | refine E_2 (v := ?_) (u := ?_) ?h1 ?h2 ?_ | refine E_2n (v := ?_) (u := ?_) ?h1 ?h2 ?_); (case h1 => (simp only [h53, hw1, go_sem] <;> rfl)); (case h2 => (simp only [h53, hw1, go_sem] <;> rfl))) | refine E_0 ?_ | refine E_0n ?_ | rw [put_some])))
      refine ⟨r - 1, by omega, j + 1, _, id2, by omega, by simp only [h1, go_sem], by simp only [go_sem], hid2, by simp only [h51, go_sem], by simp only [h52, go_sem], by simp only [go_sem], ?_⟩
      rw [← hsp, hdrop, spAlt]
  · have hj : j = ps.length := by
      have : ¬ j < ps.length := by simpa using hc
      omega
    subst hj
    (repeat (with_reducible (first | refine R_nil ?_ | refine C_sq ?_ | refine C_rg ?_ | refine C_bk ?_ | refine C_sk ?_ | refine C_ex ?_ | refine C_rt ?_ | refine X_nx ?_ | refine X_ex ?_ | refine X_rt ?_ | refine B_nx ?_ | refine B_self ?_ | (refine B_ne (by rfl) ?_) | refine B_rt ?_ | ((first | refine R_q (v := ?_) ?h1 ?_ | refine R_ld (v := ?_) ?h1 ?_ | refine R_isn (v := ?_) ?h1 ?_ | refine E_1 (v := ?_) ?h1 ?_ | refine E_1n (v := ?_) ?h1 ?_); case h1 => (simp only [go_sem] <;> rfl)) | ((first | refine R_gt ?h1 ?_); case h1 => (simp only [go_sem] <;> rfl)) | ((first | refine R_gs1 ?h1 ?_); case h1 => (simp only [go_sem] <;> rfl)) | ((first | refine R_gs2 ?h1 ?_); case h1 => (simp only [go_sem] <;> rfl)) | ((first | refine R_gj (vs := ?_) ?h1 ?_); case h1 => (simp only [go_sem] <;> rfl)) | ((first | refine C_cdt ?h1 ?_); case h1 => (simp only [go_sem] <;> rfl)) | ((first | refine C_cdf ?h1 ?_); case h1 => (simp only [go_sem] <;> rfl)) | ((first | refine E_2 (v := ?_) (u := ?_) ?h1 ?h2 ?_ | refine E_2n (v := ?_) (u := ?_) ?h1 ?h2 ?_); (case h1 => (simp only [go_sem] <;> rfl)); (case h2 => (simp only [go_sem] <;> rfl))) | refine E_0 ?_ | refine E_0n ?_ | rw [put_some])))
    rw [List.drop_length, spAlt] at hsp
    exact hK _ _ id (by simp only [h9, go_sem]) (by rw [ho, hsp])

theorem catLoop_ok (K : X → E → O → Prop) (e : E) (o : O) (A : Nat → Nat → Bool) (h1 : e 1 = wordV w) (h12 : e 12 = .sl (rel A (w.length + 1)))
    (h69 : e 69 = .sl (ps.map cel)) (h70 : e 70 = .i .i64 ps.length) (h71 : e 71 = .i .i64 0)
    (hK : ∀ e o, e 12 = .sl (rel (spCat w ps A) (w.length + 1)) → K (.ex 5) e o) : wpC (Call F) (.lp b20_2) K e o := by
  refine C_lp (fun r e o' => ∃ (j : Nat) (B : Nat → Nat → Bool), j + r = ps.length ∧ e 1 = wordV w ∧ e 12 = .sl (rel B (w.length + 1)) ∧ e 69 = .sl (ps.map cel) ∧ e 70 = .i .i64 ps.length ∧ e 71 = .i .i64 j ∧ spCat w (ps.drop j) B = spCat w ps A) (k := ps.length) ?_ (Call_le F) ?_
  · exact ⟨0, A, by omega, h1, h12, h69, h70, h71, rfl⟩
  clear h1 h12 h69 h70 h71
  rintro r e o' ⟨j, B, hjr, h1, h12, h69, h70, h71, hsp⟩
  dsimp only [b20_2]
  (repeat (with_reducible (first | refine R_nil ?_ | refine C_sq ?_ | refine C_rg ?_ | refine C_bk ?_ | refine C_sk ?_ | refine C_ex ?_ | refine C_rt ?_ | refine X_nx ?_ | refine X_ex ?_ | refine X_rt ?_ | refine B_nx ?_ | refine B_self ?_ | (refine B_ne (by rfl) ?_) | refine B_rt ?_ | ((first | refine R_q (v := ?_) ?h1 ?_ | refine R_ld (v := ?_) ?h1 ?_ | refine R_isn (v := ?_) ?h1 ?_ | refine E_1 (v := ?_) ?h1 ?_ | refine E_1n (v := ?_) ?h1 ?_); case h1 => (simp only [h70, h71, go_sem] <;> rfl)) | ((first | refine R_gt ?h1 ?_); case h1 => (simp only [h70, h71, go_sem] <;> rfl)) | ((first | refine R_gs1 ?h1 ?_); case h1 => (simp only [h70, h71, go_sem] <;> rfl)) | ((first | refine R_gs2 ?h1 ?_); case h1 => (simp only [h70, h71, go_sem] <;> rfl)) | ((first | refine R_gj (vs := ?_) ?h1 ?_); case h1 => (simp only [h70, h71, go_sem] <;> rfl)) | ((first | refine C_cdt ?h1 ?_); case h1 => (simp only [h70, h71, go_sem] <;> rfl)) | ((first | refine C_cdf ?h1 ?_); case h1 => (simp only [h70, h71, go_sem] <;> rfl)) | ((first | refine E_2 (v := ?_) (u := ?_) ?h1 ?h2 ?_ | refine E_2n (v := ?_) (u := ?_) ?h1 ?h2 ?_); (case h1 => (simp only [h70, h71, go_sem] <;> rfl)); (case h2 => (simp only [h70, h71, go_sem] <;> rfl))) | refine E_0 ?_ | refine E_0n ?_ | rw [put_some])))
  refine C_cdb (q := decide ((j : Int) < (ps.length : Int))) (by simp only [go_sem]) (fun hc => ?_) (fun hc => ?_)
  · have hj : j < ps.length := by simpa using hc
    have hp : ps[j]? = some ps[j] := List.getElem?_eq_getElem hj
    have hdrop : ps.drop j = ps[j] :: ps.drop (j + 1) := List.drop_eq_getElem_cons hj
    (repeat (with_reducible (first | refine R_nil ?_ | refine C_sq ?_ | refine C_rg ?_ | refine C_bk ?_ | refine C_sk ?_ | refine C_ex ?_ | refine C_rt ?_ | refine X_nx ?_ | refine X_ex ?_ | refine X_rt ?_ | refine B_nx ?_ | refine B_self ?_ | (refine B_ne (by rfl) ?_) | refine B_rt ?_ | ((first | refine R_q (v := ?_) ?h1 ?_ | refine R_ld (v := ?_) ?h1 ?_ | refine R_isn (v := ?_) ?h1 ?_ | refine E_1 (v := ?_) ?h1 ?_ | refine E_1n (v := ?_) ?h1 ?_); case h1 => (simp only [h71, go_sem] <;> rfl)) | ((first | refine R_gt ?h1 ?_); case h1 => (simp only [h71, go_sem] <;> rfl)) | ((first | refine R_gs1 ?h1 ?_); case h1 => (simp only [h71, go_sem] <;> rfl)) | ((first | refine R_gs2 ?h1 ?_); case h1 => (simp only [h71, go_sem] <;> rfl)) | ((first | refine R_gj (vs := ?_) ?h1 ?_); case h1 => (simp only [h71, go_sem] <;> rfl)) | ((first | refine C_cdt ?h1 ?_); case h1 => (simp only [h71, go_sem] <;> rfl)) | ((first | refine C_cdf ?h1 ?_); case h1 => (simp only [h71, go_sem] <;> rfl)) | ((first | refine E_2 (v := ?_) (u := ?_) ?h1 ?h2 ?_ | refine E_2n (v := ?_) (u := ?_) ?h1 ?h2 ?_); (case h1 => (simp only [h71, go_sem] <;> rfl)); (case h2 => (simp only [h71, go_sem] <;> rfl))) | refine E_0 ?_ | refine E_0n ?_ | rw [put_some])))
    refine R_q (v := .ip (cel ps[j]) 0) (by simp only [h69, h71, go_sem]; rw [if_pos (by omega)]; simp [hp, cel_len]) ?_
    refine R_ld (v := .ag (cel ps[j])) (by simp only [go_sem]; simp [cel_len]; exact List.take_of_length_le (by rw [cel_len]; omega)) ?_
    refine R_alc fun ida hida => ?_
    refine R_sto (id := ida) (i := 0) (j := 0) (vs := cel ps[j]) (by simp only [go_sem]) (upd_eq _ _ _) rfl (by (simp only [go_sem] <;> rfl)) rfl (cel_len _) (by simp) ?_
    have hsp8 : splice 0 (cel ps[j]) [.i .i64 0, .i .u64 0, .i .u64 0, .i .u64 0, .i .u64 0, .nil, .i .i64 0, .i .i64 0] = cel ps[j] := splice_all (by rw [cel_len]; rfl)
    rw [hsp8]
    (repeat (with_reducible (first | refine R_nil ?_ | refine C_sq ?_ | refine C_rg ?_ | refine C_bk ?_ | refine C_sk ?_ | refine C_ex ?_ | refine C_rt ?_ | refine X_nx ?_ | refine X_ex ?_ | refine X_rt ?_ | refine B_nx ?_ | refine B_self ?_ | (refine B_ne (by rfl) ?_) | refine B_rt ?_ | ((first | refine R_q (v := ?_) ?h1 ?_ | refine R_ld (v := ?_) ?h1 ?_ | refine R_isn (v := ?_) ?h1 ?_ | refine E_1 (v := ?_) ?h1 ?_ | refine E_1n (v := ?_) ?h1 ?_); case h1 => (simp only [h12, go_sem] <;> rfl)) | ((first | refine R_gt ?h1 ?_); case h1 => (simp only [h12, go_sem] <;> rfl)) | ((first | refine R_gs1 ?h1 ?_); case h1 => (simp only [h12, go_sem] <;> rfl)) | ((first | refine R_gs2 ?h1 ?_); case h1 => (simp only [h12, go_sem] <;> rfl)) | ((first | refine R_gj (vs := ?_) ?h1 ?_); case h1 => (simp only [h12, go_sem] <;> rfl)) | ((first | refine C_cdt ?h1 ?_); case h1 => (simp only [h12, go_sem] <;> rfl)) | ((first | refine C_cdf ?h1 ?_); case h1 => (simp only [h12, go_sem] <;> rfl)) | ((first | refine E_2 (v := ?_) (u := ?_) ?h1 ?h2 ?_ | refine E_2n (v := ?_) (u := ?_) ?h1 ?h2 ?_); (case h1 => (simp only [h12, go_sem] <;> rfl)); (case h2 => (simp only [h12, go_sem] <;> rfl))) | refine E_0 ?_ | refine E_0n ?_ | rw [put_some])))
    refine R_ld (v := .ag (cel ps[j])) (by simp only [go_sem]; simp [cel_len]; exact List.take_of_length_le (by rw [cel_len]; omega)) ?_
    (repeat (with_reducible (first | refine R_nil ?_ | refine C_sq ?_ | refine C_rg ?_ | refine C_bk ?_ | refine C_sk ?_ | refine C_ex ?_ | refine C_rt ?_ | refine X_nx ?_ | refine X_ex ?_ | refine X_rt ?_ | refine B_nx ?_ | refine B_self ?_ | (refine B_ne (by rfl) ?_) | refine B_rt ?_ | ((first | refine R_q (v := ?_) ?h1 ?_ | refine R_ld (v := ?_) ?h1 ?_ | refine R_isn (v := ?_) ?h1 ?_ | refine E_1 (v := ?_) ?h1 ?_ | refine E_1n (v := ?_) ?h1 ?_); case h1 => (simp only [h1, go_sem] <;> rfl)) | ((first | refine R_gt ?h1 ?_); case h1 => (simp only [h1, go_sem] <;> rfl)) | ((first | refine R_gs1 ?h1 ?_); case h1 => (simp only [h1, go_sem] <;> rfl)) | ((first | refine R_gs2 ?h1 ?_); case h1 => (simp only [h1, go_sem] <;> rfl)) | ((first | refine R_gj (vs := ?_) ?h1 ?_); case h1 => (simp only [h1, go_sem] <;> rfl)) | ((first | refine C_cdt ?h1 ?_); case h1 => (simp only [h1, go_sem] <;> rfl)) | ((first | refine C_cdf ?h1 ?_); case h1 => (simp only [h1, go_sem] <;> rfl)) | ((first | refine E_2 (v := ?_) (u := ?_) ?h1 ?h2 ?_ | refine E_2n (v := ?_) (u := ?_) ?h1 ?h2 ?_); (case h1 => (simp only [h1, go_sem] <;> rfl)); (case h2 => (simp only [h1, go_sem] <;> rfl))) | refine E_0 ?_ | refine E_0n ?_ | rw [put_some])))
    refine R_pcc (g := 20) (r := .sl (rel (sp w ps[j]) (w.length + 1))) (vs := [.ag (cel ps[j]), wordV w]) (by simp only [h1, go_sem]) (by simp [FZ, okd, cel_okd, wordV]) (by
      have : clo FZ (.ag (cel ps[j])) = true := by
        cases ps[j]; rfl
      simp [clos, this]; rfl) (ih _ (List.getElem_mem _)) ?_
    refine R_pcc (g := 33) (r := .sl (rel (thenN B (sp w ps[j]) (w.length + 1)) (w.length + 1))) (vs := [.sl (rel B (w.length + 1)), .sl (rel (sp w ps[j]) (w.length + 1))]) (by simp only [h12, go_sem]) rfl rfl (relthen_ok _ _ _ (by omega) emp _ (fun id o' h => fz_rel h)) ?_
    have hw1 : IntKind.i64.wrap ((j : Int) + 1) = ((j + 1 : Nat) : Int) := by rw [wrap_i64 (by omega) (by omega)]; rfl
    (repeat (with_reducible (first | refine R_nil ?_ | refine C_sq ?_ | refine C_rg ?_ | refine C_bk ?_ | refine C_sk ?_ | refine C_ex ?_ | refine C_rt ?_ | refine X_nx ?_ | refine X_ex ?_ | refine X_rt ?_ | refine B_nx ?_ | refine B_self ?_ | (refine B_ne (by rfl) ?_) | refine B_rt ?_ | ((first | refine R_q (v := ?_) ?h1 ?_ | refine R_ld (v := ?_) ?h1 ?_ | refine R_isn (v := ?_) ?h1 ?_ | refine E_1 (v := ?_) ?h1 ?_ | refine E_1n (v := ?_) ?h1 ?_); case h1 => (simp only [h71, hw1, go_sem] <;> rfl)) | ((first | refine R_gt ?h1 ?_); case h1 => (simp only [h71, hw1, go_sem] <;> rfl)) | ((first | refine R_gs1 ?h1 ?_); case h1 => (simp only [h71, hw1, go_sem] <;> rfl)) | ((first | refine R_gs2 ?h1 ?_); case h1 => (simp only [h71, hw1, go_sem] <;> rfl)) | ((first | refine R_gj (vs := ?_) ?h1 ?_); case h1 => (simp only [h71, hw1, go_sem] <;> rfl)) | ((first | refine C_cdt ?h1 ?_); case h1 => (simp only [h71, hw1, go_sem] <;> rfl)) | ((first | refine C_cdf ?h1 ?_); case h1 => (simp only [h71, hw1, go_sem] <;> rfl)) | ((first | refine E_2 (v := ?_) (u := ?_) ?h1 ?h2 ?_ | refine E_2n (v := ?_) (u := ?_) ?h1 ?h2 ?_); (case h1 => (simp only [h71, hw1, go_sem] <;> rfl)); (case h2 => (simp only [h71, hw1, go_sem] <;> rfl))) | refine E_0 ?_ | refine E_0n ?_ | rw [put_some])))
    refine ⟨r - 1, by omega, j + 1, thenN B (sp w ps[j]) (w.length + 1), by omega, by simp only [h1, go_sem], by simp only [go_sem], by simp only [h69, go_sem], by simp only [h70, go_sem], by simp only [go_sem], ?_⟩
    rw [← hsp, hdrop, spCat]
  · have hj : j = ps.length := by
      have : ¬ j < ps.length := by simpa using hc
      omega
    subst hj
    (repeat (with_reducible (first | refine R_nil ?_ | refine C_sq ?_ | refine C_rg ?_ | refine C_bk ?_ | refine C_sk ?_ | refine C_ex ?_ | refine C_rt ?_ | refine X_nx ?_ | refine X_ex ?_ | refine X_rt ?_ | refine B_nx ?_ | refine B_self ?_ | (refine B_ne (by rfl) ?_) | refine B_rt ?_ | ((first | refine R_q (v := ?_) ?h1 ?_ | refine R_ld (v := ?_) ?h1 ?_ | refine R_isn (v := ?_) ?h1 ?_ | refine E_1 (v := ?_) ?h1 ?_ | refine E_1n (v := ?_) ?h1 ?_); case h1 => (simp only [go_sem] <;> rfl)) | ((first | refine R_gt ?h1 ?_); case h1 => (simp only [go_sem] <;> rfl)) | ((first | refine R_gs1 ?h1 ?_); case h1 => (simp only [go_sem] <;> rfl)) | ((first | refine R_gs2 ?h1 ?_); case h1 => (simp only [go_sem] <;> rfl)) | ((first | refine R_gj (vs := ?_) ?h1 ?_); case h1 => (simp only [go_sem] <;> rfl)) | ((first | refine C_cdt ?h1 ?_); case h1 => (simp only [go_sem] <;> rfl)) | ((first | refine C_cdf ?h1 ?_); case h1 => (simp only [go_sem] <;> rfl)) | ((first | refine E_2 (v := ?_) (u := ?_) ?h1 ?h2 ?_ | refine E_2n (v := ?_) (u := ?_) ?h1 ?h2 ?_); (case h1 => (simp only [go_sem] <;> rfl)); (case h2 => (simp only [go_sem] <;> rfl))) | refine E_0 ?_ | refine E_0n ?_ | rw [put_some])))
    rw [List.drop_length, spCat] at hsp
    exact hK _ _ (by simp only [h12, go_sem]; rw [hsp])

end

end Go.Proofs.Ytiadalheipbpcaa
