/-
  SpanTimes is true for every input; each argument reads behind the call as it did. (No condition.)
-/
import Derived.Test.YtiadalheipbpcaaJ1
import Derived.Test.YtiadalheipbpcaaRows
import Derived.ProofKit
namespace Go.Proofs.Ytiadalheipbpcaa
set_option linter.all false
open Go.ChangeShapes Go.WideShapes Go.ChangeAt Go.RowKit

theorem isA_a2 : isA Try.prog 33 = true := by kernel_rfl

theorem times_snd (xs : List V) (h : Args Try.prog Try.f5.params.toList xs) : Snd Try.prog 5 xs emp (fun v _ => v = .bo true) := by
  rw [Try.params5] at h
  obtain ⟨v0, as0, n0, h0, rfl, v1, as1, n1, h1, rfl, v2, as2, n2, h2, rfl, rfl⟩ := h
  obtain ⟨n, rfl, hn⟩ := isv_node h0
  obtain ⟨w, rfl, hw, hl⟩ := isv_word h1
  obtain ⟨zs, rfl, hzl, hz⟩ := isv_ints Try.underlying33 Try.underlying32 h2
  simp only [argV, isA_node, isA_word, isA_a2, if_true]
  match zs, hzl with
  | [x, y], _ =>
    have hx := wf_u32 (hz x (by simp))
    have hy := wf_u32 (hz y (by simp))
    have hx1 := Int.tmod_lt_of_pos x (show (0 : Int) < 1000000000 by omega)
    have hx2 := Int.tmod_nonneg 1000000000 hx.1
    have hy1 := Int.tmod_lt_of_pos y (show (0 : Int) < 1000000000 by omega)
    have hy2 := Int.tmod_nonneg 1000000000 hy.1
    exact sound mixed (times_ok n hn w hw hl x y hx.1 hy.1 _ fun _ => by rw [timesB_true n w _ _ hx2 hx1 hy2 hy1])

def lL : List TypeId := [4, 3, 2, 5, 22, 32, 38, 24, 25, 27, 28, 33, 36]

set_option maxRecDepth 100000 in
theorem times_lifted (os : Os) (started : os.Started) (H : Type) (enc : TypeId × Value → H) :
    ReturnsInHanded {} Try.checked os 5 .any (Rows.spanTimesSpec.pre6 enc Try.prog Try.f5 Rows.spanTimesRow.domain false) (Rows.spanTimesSpec.post enc Try.prog Try.f5 false true false false) := by
  refine returnsInHanded_of_change (C := Try.checked) own started (by kernel_rfl) Try.func5
    (ChangeSpec.witness6 (enc := enc) (C := Try.checked) false ⟨#[], #[.agg #[.int .i64 0, .int .u64 0, .int .u64 0, .int .u64 0, .int .u64 0, .slice none 0 0, .int .i64 0, .int .i64 0], .slice none 0 0, .agg #[.int .u32 0, .int .u32 0]], []⟩ 8 (by kernel_rfl) (by kernel_rfl) (by kernel_rfl) (by kernel_rfl)) ?_
  intro W base args ds gs before hval hW _ _
  exact law_contract (fn := Try.f5) (L := lL) (tb := 4) (fresh := true) (handsOn := false) Try.func5 (by kernel_rfl) laidOut mapsRow slicesFull rfl (by rw [Try.params5]; decide) rfl Try.underlying4
    (fun ds hl => by
      rw [Try.params5] at hl
      match ds, hl with
      | [d1, d2, d3], _ => exact ⟨rfl, rfl, rfl⟩) hval hW times_snd

theorem times_holds : Rows.SpanTimesSaid :=
  OpenClaim.holds_of_wide 5 Try.f5 rfl rfl rfl rfl rfl rfl rfl ⟨rfl, rfl, rfl, rfl, rfl⟩ rfl rfl rfl rfl rfl (by kernel_rfl) Try.func5 (by kernel_rfl)
    (of_decide_eq_true (by kernel_rfl)) (by unfold Func.isWrapper; first | (rw [if_pos (by decide +kernel)]; kernel_rfl) | (rw [if_neg (by decide +kernel)]; exact ⟨rfl, rfl⟩))
    (fun os started H enc _ => times_lifted os started H enc)

#print axioms times_holds
end Go.Proofs.Ytiadalheipbpcaa
