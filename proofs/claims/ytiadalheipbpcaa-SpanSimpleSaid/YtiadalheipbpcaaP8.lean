import Derived.Test.YtiadalheipbpcaaJ1
import Derived.Test.YtiadalheipbpcaaK7
import Derived.Test.YtiadalheipbpcaaRows
import Derived.ProofKit

/-
  SpanSimple is true for every input; each argument reads behind the call as it did. (No condition.)
-/
namespace Go.Proofs.Ytiadalheipbpcaa
set_option linter.all false
open Go.ChangeShapes Go.WideShapes Go.ChangeAt Go.RowKit

theorem map_ne {α β : Type} {x : Option α} {f : α → β} {y : β} (hf : ∀ a, f a ≠ y) (h : x.map f = some y) : False := by
  cases x with
  | none => cases h
  | some a => injection h with h; exact hf a h
theorem fz_bo {o : O} {v : V} (h : fz o v = some (.bo true)) : v = .bo true := by
  have h : frz (23 + 1) o v = some (.bo true) := h
  cases v <;> rw [frz] at h
  all_goals first
    | exact (map_ne (fun a h => by cases h) h).elim
    | (cases h; done)
    | (injection h; done)
    | (split at h; exact (map_ne (fun a h => by cases h) h).elim; cases h)
    | (intros; contradiction)

theorem simple_snd (xs : List V) (h : Args Try.prog Try.f8.params.toList xs) : Snd Try.prog 8 xs emp (fun v _ => v = .bo true) := by
  rw [Try.params8] at h
  obtain ⟨v0, as0, n0, h0, rfl, v2, as2, n2, h2, rfl, rfl⟩ := h
  obtain ⟨n, rfl, hn⟩ := isv_node h0
  obtain ⟨w, rfl, hw, hl⟩ := isv_word h2
  simp only [argV, isA_node, isA_word, if_true]
  exact sound mixed (Call_le F _ _ _ _ _ (fun _ _ h => fz_bo h) (simple_law n hn w hw hl))

def lL : List TypeId := [4, 3, 2, 5, 22, 32, 38, 24, 25, 27, 28, 33, 36]

set_option maxRecDepth 100000 in
theorem simple_lifted (os : Os) (started : os.Started) (H : Type) (enc : TypeId × Value → H) :
    ReturnsInHanded {} Try.checked os 8 .any (Rows.spanSimpleSpec.pre6 enc Try.prog Try.f8 Rows.spanSimpleRow.domain false) (Rows.spanSimpleSpec.post enc Try.prog Try.f8 false true false false) := by
  refine returnsInHanded_of_change (C := Try.checked) own started (by kernel_rfl) Try.func8
    (ChangeSpec.witness6 (enc := enc) (C := Try.checked) false ⟨#[], #[.agg #[.int .i64 0, .int .u64 0, .int .u64 0, .int .u64 0, .int .u64 0, .slice none 0 0, .int .i64 0, .int .i64 0], .slice none 0 0], []⟩ 8 (by kernel_rfl) (by kernel_rfl) (by kernel_rfl) (by kernel_rfl)) ?_
  intro W base args ds gs before hval hW _ _
  exact law_contract (fn := Try.f8) (L := lL) (tb := 4) (fresh := true) (handsOn := false) Try.func8 (by kernel_rfl) laidOut mapsRow slicesFull rfl (by rw [Try.params8]; decide) rfl Try.underlying4
    (fun ds hl => by
      rw [Try.params8] at hl
      match ds, hl with
      | [d1, d2], _ => exact ⟨rfl, rfl, rfl⟩) hval hW simple_snd

theorem simple_holds : Rows.SpanSimpleSaid :=
  OpenClaim.holds_of_wide 8 Try.f8 rfl rfl rfl rfl rfl rfl rfl ⟨rfl, rfl, rfl, rfl, rfl⟩ rfl rfl rfl rfl rfl (by kernel_rfl) Try.func8 (by kernel_rfl)
    (of_decide_eq_true (by kernel_rfl)) (by unfold Func.isWrapper; first | (rw [if_pos (by decide +kernel)]; kernel_rfl) | (rw [if_neg (by decide +kernel)]; exact ⟨rfl, rfl⟩))
    (fun os started H enc _ => simple_lifted os started H enc)

#print axioms simple_holds
end Go.Proofs.Ytiadalheipbpcaa
