/-
  SpanCuts is true for every input; each argument reads behind the call as it did. (No condition.)
-/
import Derived.Test.YtiadalheipbpcaaJ1
import Derived.Test.YtiadalheipbpcaaRows
import Derived.ProofKit
namespace Go.Proofs.Ytiadalheipbpcaa
set_option linter.all false
open Go.ChangeShapes Go.WideShapes Go.ChangeAt Go.RowKit

theorem cuts_snd (xs : List V) (h : Args Try.prog Try.f3.params.toList xs) : Snd Try.prog 3 xs emp (fun v _ => v = .bo true) := by
  rw [Try.params3] at h
  obtain ⟨v0, as0, n0, h0, rfl, v1, as1, n1, h1, rfl, v2, as2, n2, h2, rfl, rfl⟩ := h
  obtain ⟨n, rfl, hn⟩ := isv_node h0
  obtain ⟨m, rfl, hm⟩ := isv_node h1
  obtain ⟨w, rfl, hw, hl⟩ := isv_word h2
  simp only [argV, isA_node, isA_word, if_true]
  exact sound mixed (cuts_ok n m hn hm w hw hl _ fun _ => by rw [cutsB_true])

def lL : List TypeId := [4, 3, 2, 5, 22, 32, 38, 24, 25, 27, 28, 33, 36]

set_option maxRecDepth 100000 in
theorem cuts_lifted (os : Os) (started : os.Started) (H : Type) (enc : TypeId × Value → H) :
    ReturnsInHanded {} Try.checked os 3 .any (Rows.spanCutsSpec.pre6 enc Try.prog Try.f3 Rows.spanCutsRow.domain false) (Rows.spanCutsSpec.post enc Try.prog Try.f3 false true false false) := by
  refine returnsInHanded_of_change (C := Try.checked) own started (by kernel_rfl) Try.func3
    (ChangeSpec.witness6 (enc := enc) (C := Try.checked) false ⟨#[], #[.agg #[.int .i64 0, .int .u64 0, .int .u64 0, .int .u64 0, .int .u64 0, .slice none 0 0, .int .i64 0, .int .i64 0], .agg #[.int .i64 0, .int .u64 0, .int .u64 0, .int .u64 0, .int .u64 0, .slice none 0 0, .int .i64 0, .int .i64 0], .slice none 0 0], []⟩ 8 (by kernel_rfl) (by kernel_rfl) (by kernel_rfl) (by kernel_rfl)) ?_
  intro W base args ds gs before hval hW _ _
  exact law_contract (fn := Try.f3) (L := lL) (tb := 4) (fresh := true) (handsOn := false) Try.func3 (by kernel_rfl) laidOut mapsRow slicesFull rfl (by rw [Try.params3]; decide) rfl Try.underlying4
    (fun ds hl => by
      rw [Try.params3] at hl
      match ds, hl with
      | [d1, d2, d3], _ => exact ⟨rfl, rfl, rfl⟩) hval hW cuts_snd

theorem cuts_holds : Rows.SpanCutsSaid :=
  OpenClaim.holds_of_wide 3 Try.f3 rfl rfl rfl rfl rfl rfl rfl ⟨rfl, rfl, rfl, rfl, rfl⟩ rfl rfl rfl rfl rfl (by kernel_rfl) Try.func3 (by kernel_rfl)
    (of_decide_eq_true (by kernel_rfl)) (by unfold Func.isWrapper; first | (rw [if_pos (by decide +kernel)]; kernel_rfl) | (rw [if_neg (by decide +kernel)]; exact ⟨rfl, rfl⟩))
    (fun os started H enc _ => cuts_lifted os started H enc)

#print axioms cuts_holds
end Go.Proofs.Ytiadalheipbpcaa
