/-
  SpanMore is true for every input; each argument reads behind the call as it did. (No condition.)
-/
import Derived.Test.YtiadalheipbpcaaJ1
import Derived.Test.YtiadalheipbpcaaRows
import Derived.ProofKit
namespace Go.Proofs.Ytiadalheipbpcaa
set_option linter.all false
open Go.ChangeShapes Go.WideShapes Go.ChangeAt Go.RowKit

theorem isA_a4 : isA Try.prog 36 = true := by kernel_rfl

theorem more_snd (xs : List V) (h : Args Try.prog Try.f6.params.toList xs) : Snd Try.prog 6 xs emp (fun v _ => v = .bo true) := by
  rw [Try.params6] at h
  obtain ⟨v0, as0, n0, h0, rfl, v1, as1, n1, h1, rfl, v2, as2, n2, h2, rfl, rfl⟩ := h
  obtain ⟨n, rfl, hn⟩ := isv_node h0
  obtain ⟨w, rfl, hw, hl⟩ := isv_word h1
  obtain ⟨zs, rfl, hzl, hz⟩ := isv_ints Try.underlying36 Try.underlying5 h2
  simp only [argV, isA_node, isA_word, isA_a4, if_true]
  match zs, hzl with
  | [a, b, c, d], _ =>
    have ha := wf_u8 (hz a (by simp))
    have hb := wf_u8 (hz b (by simp))
    have hc := wf_u8 (hz c (by simp))
    have hd := wf_u8 (hz d (by simp))
    exact sound mixed (more_ok n hn w hw hl a b c d ha.1 ha.2 hb.1 hb.2 hc.1 hc.2 hd.1 hd.2 _ fun _ => by rw [moreB_true n w a b c d ha.1 ha.2 hb.1 hb.2 hc.1 hc.2 hd.1 hd.2])

def lL : List TypeId := [4, 3, 2, 5, 22, 32, 38, 24, 25, 27, 28, 33, 36]

set_option maxRecDepth 100000 in
theorem more_lifted (os : Os) (started : os.Started) (H : Type) (enc : TypeId × Value → H) :
    ReturnsInHanded {} Try.checked os 6 .any (Rows.spanMoreSpec.pre6 enc Try.prog Try.f6 Rows.spanMoreRow.domain false) (Rows.spanMoreSpec.post enc Try.prog Try.f6 false true false false) := by
  refine returnsInHanded_of_change (C := Try.checked) own started (by kernel_rfl) Try.func6
    (ChangeSpec.witness6 (enc := enc) (C := Try.checked) false ⟨#[], #[.agg #[.int .i64 0, .int .u64 0, .int .u64 0, .int .u64 0, .int .u64 0, .slice none 0 0, .int .i64 0, .int .i64 0], .slice none 0 0, .agg #[.int .u8 0, .int .u8 0, .int .u8 0, .int .u8 0]], []⟩ 8 (by kernel_rfl) (by kernel_rfl) (by kernel_rfl) (by kernel_rfl)) ?_
  intro W base args ds gs before hval hW _ _
  exact law_contract (fn := Try.f6) (L := lL) (tb := 4) (fresh := true) (handsOn := false) Try.func6 (by kernel_rfl) laidOut mapsRow slicesFull rfl (by rw [Try.params6]; decide) rfl Try.underlying4
    (fun ds hl => by
      rw [Try.params6] at hl
      match ds, hl with
      | [d1, d2, d3], _ => exact ⟨rfl, rfl, rfl⟩) hval hW more_snd

theorem more_holds : Rows.SpanMoreSaid :=
  OpenClaim.holds_of_wide 6 Try.f6 rfl rfl rfl rfl rfl rfl rfl ⟨rfl, rfl, rfl, rfl, rfl⟩ rfl rfl rfl rfl rfl (by kernel_rfl) Try.func6 (by kernel_rfl)
    (of_decide_eq_true (by kernel_rfl)) (by unfold Func.isWrapper; first | (rw [if_pos (by decide +kernel)]; kernel_rfl) | (rw [if_neg (by decide +kernel)]; exact ⟨rfl, rfl⟩))
    (fun os started H enc _ => more_lifted os started H enc)

#print axioms more_holds
end Go.Proofs.Ytiadalheipbpcaa
