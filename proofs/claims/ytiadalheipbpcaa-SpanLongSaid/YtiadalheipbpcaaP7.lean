/-
  SpanLong is true for every input; each argument reads behind the call as it did. (No condition.)
-/
import Derived.Test.YtiadalheipbpcaaJ1
import Derived.Test.YtiadalheipbpcaaRows
import Derived.ProofKit
namespace Go.Proofs.Ytiadalheipbpcaa
set_option linter.all false
open Go.ChangeShapes Go.WideShapes Go.ChangeAt Go.RowKit

theorem isA_u16 : isA Try.prog 38 = false := by kernel_rfl

theorem long_snd (xs : List V) (h : Args Try.prog Try.f7.params.toList xs) : Snd Try.prog 7 xs emp (fun v _ => v = .bo true) := by
  rw [Try.params7] at h
  obtain ⟨v0, as0, n0, h0, rfl, v1, as1, n1, h1, rfl, v2, as2, n2, h2, rfl, rfl⟩ := h
  obtain ⟨lo, rfl, hlo⟩ := isv_int Try.underlying38 h0
  obtain ⟨hi, rfl, hhi⟩ := isv_int Try.underlying38 h1
  obtain ⟨sz, rfl, hsz⟩ := isv_int Try.underlying38 h2
  simp only [argV, isA_u16]
  have h1 := wf_u16 hlo
  have h2 := wf_u16 hhi
  have h3 := wf_u16 hsz
  exact sound mixed (long_ok lo hi sz h1.1 h1.2 h2.1 h2.2 h3.1 h3.2 _ fun _ => by rw [longB_true _ _ _ (by split <;> omega) (by split <;> split <;> omega) (by split <;> omega)])

def lL : List TypeId := [4, 3, 2, 5, 22, 32, 38, 24, 25, 27, 28, 33, 36]

set_option maxRecDepth 100000 in
theorem long_lifted (os : Os) (started : os.Started) (H : Type) (enc : TypeId × Value → H) :
    ReturnsInHanded {} Try.checked os 7 .any (Rows.spanLongSpec.pre6 enc Try.prog Try.f7 Rows.spanLongRow.domain false) (Rows.spanLongSpec.post enc Try.prog Try.f7 false true false false) := by
  refine returnsInHanded_of_change (C := Try.checked) own started (by kernel_rfl) Try.func7
    (ChangeSpec.witness6 (enc := enc) (C := Try.checked) false ⟨#[], #[.int .u16 0, .int .u16 0, .int .u16 0], []⟩ 8 (by kernel_rfl) (by kernel_rfl) (by kernel_rfl) (by kernel_rfl)) ?_
  intro W base args ds gs before hval hW _ _
  exact law_contract (fn := Try.f7) (L := lL) (tb := 4) (fresh := true) (handsOn := false) Try.func7 (by kernel_rfl) laidOut mapsRow slicesFull rfl (by rw [Try.params7]; decide) rfl Try.underlying4
    (fun ds hl => by
      rw [Try.params7] at hl
      match ds, hl with
      | [d1, d2, d3], _ => exact ⟨rfl, rfl, rfl⟩) hval hW long_snd

theorem long_holds : Rows.SpanLongSaid :=
  OpenClaim.holds_of_wide 7 Try.f7 rfl rfl rfl rfl rfl rfl rfl ⟨rfl, rfl, rfl, rfl, rfl⟩ rfl rfl rfl rfl rfl (by kernel_rfl) Try.func7 (by kernel_rfl)
    (of_decide_eq_true (by kernel_rfl)) (by unfold Func.isWrapper; first | (rw [if_pos (by decide +kernel)]; kernel_rfl) | (rw [if_neg (by decide +kernel)]; exact ⟨rfl, rfl⟩))
    (fun os started H enc _ => long_lifted os started H enc)

#print axioms long_holds
end Go.Proofs.Ytiadalheipbpcaa
