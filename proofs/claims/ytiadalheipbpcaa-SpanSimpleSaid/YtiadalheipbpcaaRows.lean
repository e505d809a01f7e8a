/-
  NARROWER THAN 'FOR EVERY INPUT', by the rows' own cells (each row's printed sentence says how): SpanCuts: loops · SpanEither: loops · SpanTimes: loops · SpanMore: loops · SpanSimple: loops.
  DERIVED. THE GIVEN ROWS OF THIS SEAT. 6 by the template 'for every input the law returns true; each argument reads behind the call as it read before'; 0 by the template 'total and deterministic' (their statements: YtiadalheipbpcaaTotals.lean).
  GIVEN WITH THE SEED: the statements are not yours to turn. If you find one false, say at which input.
  Laid BY PROGRAM, IN A SANDBOX (cutbox-rows.mjs): the forced cells as the released guide's own fill.sh prints them over the translation 91360dfa70b4027f… (all of the seat's roots in one cut). By AI agents, Wed Nov 11 2026. No macro, syntax, notation, axiom, sorry.
-/
import Derived.Test.YtiadalheipbpcaaChecked
import GoSem.Claim
import GoSem.ClaimJoined
import GoSem.ClaimMapViews
import Derived.JoinedTies
import Derived.KernelRfl
namespace Go.Proofs.Ytiadalheipbpcaa
/- THE CELL 'sum', in the pinned program and in every row, IS THE sha256 OF THE DUMP (.gsa) THAT YtiadalheipbpcaaProg.lean LOADS. Nothing in Lean hashes anything: it is a label: what it is worth is what the hold of that sum in a sandbox is worth. -/
noncomputable def Try.pinned : Pinned := { name := "ytiadalheipbpcaa", sum := "91360dfa70b4027fad944e57f921410b33ee9698eb25e12aa316e4a0bcd8169a", checked := Try.checked }
namespace Rows
def none {H : Type} : Left H := { results := [], args := [] }

/-- 'ostinatolaw11.SpanCuts': WHATEVER THE INPUT: true; the input reads as it did. -/
def spanCutsSpec : ChangeSpec := { name := "spanCuts", fn := fun _ => fun
  | [d1, d2, d3] => { results := [.lit (.bool true)], args := [d1, d2, d3] }
  | _ => none }
def spanCutsRow : OpenClaim := { program := "ytiadalheipbpcaa", sum := "91360dfa70b4027fad944e57f921410b33ee9698eb25e12aa316e4a0bcd8169a", func := "ostinato/ostinatolaw11.SpanCuts", spec := "spanCuts", unfollowed := true, recurses := true, loops := true, apart := false }
def SpanCutsSaid : Prop := spanCutsRow.holds Try.pinned (OpenSpec.ofChange spanCutsSpec)

/-- ITS FALSE NEIGHBOUR: 'it returns false'. Refute it at one input. -/
def spanCutsWrong : ChangeSpec := { name := "spanCuts", fn := fun _ => fun
  | [d1, d2, d3] => { results := [.lit (.bool false)], args := [d1, d2, d3] }
  | _ => none }
def SpanCutsWrongFalsely : Prop := spanCutsRow.holds Try.pinned (OpenSpec.ofChange spanCutsWrong)

/-- 'ostinatolaw11.SpanEither': WHATEVER THE INPUT: true; the input reads as it did. -/
def spanEitherSpec : ChangeSpec := { name := "spanEither", fn := fun _ => fun
  | [d1, d2, d3] => { results := [.lit (.bool true)], args := [d1, d2, d3] }
  | _ => none }
def spanEitherRow : OpenClaim := { program := "ytiadalheipbpcaa", sum := "91360dfa70b4027fad944e57f921410b33ee9698eb25e12aa316e4a0bcd8169a", func := "ostinato/ostinatolaw11.SpanEither", spec := "spanEither", unfollowed := true, recurses := true, loops := true, apart := false }
def SpanEitherSaid : Prop := spanEitherRow.holds Try.pinned (OpenSpec.ofChange spanEitherSpec)

/-- ITS FALSE NEIGHBOUR: 'it returns false'. Refute it at one input. -/
def spanEitherWrong : ChangeSpec := { name := "spanEither", fn := fun _ => fun
  | [d1, d2, d3] => { results := [.lit (.bool false)], args := [d1, d2, d3] }
  | _ => none }
def SpanEitherWrongFalsely : Prop := spanEitherRow.holds Try.pinned (OpenSpec.ofChange spanEitherWrong)

/-- 'ostinatolaw11.SpanTimes': WHATEVER THE INPUT: true; the input reads as it did. -/
def spanTimesSpec : ChangeSpec := { name := "spanTimes", fn := fun _ => fun
  | [d1, d2, d3] => { results := [.lit (.bool true)], args := [d1, d2, d3] }
  | _ => none }
def spanTimesRow : OpenClaim := { program := "ytiadalheipbpcaa", sum := "91360dfa70b4027fad944e57f921410b33ee9698eb25e12aa316e4a0bcd8169a", func := "ostinato/ostinatolaw11.SpanTimes", spec := "spanTimes", unfollowed := true, recurses := true, loops := true, apart := false }
def SpanTimesSaid : Prop := spanTimesRow.holds Try.pinned (OpenSpec.ofChange spanTimesSpec)

/-- ITS FALSE NEIGHBOUR: 'it returns false'. Refute it at one input. -/
def spanTimesWrong : ChangeSpec := { name := "spanTimes", fn := fun _ => fun
  | [d1, d2, d3] => { results := [.lit (.bool false)], args := [d1, d2, d3] }
  | _ => none }
def SpanTimesWrongFalsely : Prop := spanTimesRow.holds Try.pinned (OpenSpec.ofChange spanTimesWrong)

/-- 'ostinatolaw11.SpanMore': WHATEVER THE INPUT: true; the input reads as it did. -/
def spanMoreSpec : ChangeSpec := { name := "spanMore", fn := fun _ => fun
  | [d1, d2, d3] => { results := [.lit (.bool true)], args := [d1, d2, d3] }
  | _ => none }
def spanMoreRow : OpenClaim := { program := "ytiadalheipbpcaa", sum := "91360dfa70b4027fad944e57f921410b33ee9698eb25e12aa316e4a0bcd8169a", func := "ostinato/ostinatolaw11.SpanMore", spec := "spanMore", unfollowed := true, recurses := true, loops := true, apart := false }
def SpanMoreSaid : Prop := spanMoreRow.holds Try.pinned (OpenSpec.ofChange spanMoreSpec)

/-- ITS FALSE NEIGHBOUR: 'it returns false'. Refute it at one input. -/
def spanMoreWrong : ChangeSpec := { name := "spanMore", fn := fun _ => fun
  | [d1, d2, d3] => { results := [.lit (.bool false)], args := [d1, d2, d3] }
  | _ => none }
def SpanMoreWrongFalsely : Prop := spanMoreRow.holds Try.pinned (OpenSpec.ofChange spanMoreWrong)

/-- 'ostinatolaw11.SpanLong': WHATEVER THE INPUT: true; the input reads as it did. -/
def spanLongSpec : ChangeSpec := { name := "spanLong", fn := fun _ => fun
  | [d1, d2, d3] => { results := [.lit (.bool true)], args := [d1, d2, d3] }
  | _ => none }
def spanLongRow : OpenClaim := { program := "ytiadalheipbpcaa", sum := "91360dfa70b4027fad944e57f921410b33ee9698eb25e12aa316e4a0bcd8169a", func := "ostinato/ostinatolaw11.SpanLong", spec := "spanLong", unfollowed := true, recurses := true, apart := false }
def SpanLongSaid : Prop := spanLongRow.holds Try.pinned (OpenSpec.ofChange spanLongSpec)

/-- ITS FALSE NEIGHBOUR: 'it returns false'. Refute it at one input. -/
def spanLongWrong : ChangeSpec := { name := "spanLong", fn := fun _ => fun
  | [d1, d2, d3] => { results := [.lit (.bool false)], args := [d1, d2, d3] }
  | _ => none }
def SpanLongWrongFalsely : Prop := spanLongRow.holds Try.pinned (OpenSpec.ofChange spanLongWrong)

/-- 'ostinatolaw11.SpanSimple': WHATEVER THE INPUT: true; the input reads as it did. -/
def spanSimpleSpec : ChangeSpec := { name := "spanSimple", fn := fun _ => fun
  | [d1, d2] => { results := [.lit (.bool true)], args := [d1, d2] }
  | _ => none }
def spanSimpleRow : OpenClaim := { program := "ytiadalheipbpcaa", sum := "91360dfa70b4027fad944e57f921410b33ee9698eb25e12aa316e4a0bcd8169a", func := "ostinato/ostinatolaw11.SpanSimple", spec := "spanSimple", unfollowed := true, recurses := true, loops := true, apart := false }
def SpanSimpleSaid : Prop := spanSimpleRow.holds Try.pinned (OpenSpec.ofChange spanSimpleSpec)

/-- ITS FALSE NEIGHBOUR: 'it returns false'. Refute it at one input. -/
def spanSimpleWrong : ChangeSpec := { name := "spanSimple", fn := fun _ => fun
  | [d1, d2] => { results := [.lit (.bool false)], args := [d1, d2] }
  | _ => none }
def SpanSimpleWrongFalsely : Prop := spanSimpleRow.holds Try.pinned (OpenSpec.ofChange spanSimpleWrong)

/- THE SECOND FORM. 'bulk': how many values and letters a reading holds, each counted each time it is reached (what is shared counts as often as it is met; a slice's spare places count too). A statement '..UptoSaid' is the law's where the arguments, and the package variables that the reading takes, are together of bulk at most 1048576: NARROWER than '..Said'. Prove '..Said' where nothing that the law and all that it calls make is longer than what came in: it says more and counts as full. Else prove '..UptoSaid'. A law counts once. -/
mutual
def uptoBulk {H : Type} : DataW H → Nat
  | .lit (.string bytes) => bytes.length + 1
  | .lit _ => 1
  | .nil => 1
  | .ptr d => uptoBulk d + 1
  | .slice elems spare => uptoBulkAll elems + uptoBulkAll spare + 1
  | .agg parts => uptoBulkAll parts + 1
  | .iface _ d => uptoBulk d + 1
  | .map entries => uptoBulkEntries entries + 1
  | .held _ => 1
def uptoBulkAll {H : Type} : List (DataW H) → Nat
  | [] => 0
  | d :: r => uptoBulk d + uptoBulkAll r
def uptoBulkEntries {H : Type} : List (Lit × DataW H) → Nat
  | [] => 0
  | x :: r => uptoBulkEntry x + uptoBulkEntries r
def uptoBulkEntry {H : Type} : Lit × DataW H → Nat
  | (.string bytes, d) => bytes.length + uptoBulk d + 1
  | (_, d) => uptoBulk d + 1
 end
def uptoSmall : (H : Type) → List (DataW H) → Bool := fun _ ds => decide (uptoBulkAll ds ≤ 1048576)
def OpenSpec.upto (s : _root_.Go.ChangeSpec) : _root_.Go.OpenSpec := { _root_.Go.OpenSpec.ofChange s with cond := some uptoSmall }

/-- 'ostinatolaw11.SpanCuts', WHERE WHAT IT READS IS OF BULK AT MOST 1048576: true; the input reads as it did. -/
def spanCutsUptoRow : OpenClaim := { program := "ytiadalheipbpcaa", sum := "91360dfa70b4027fad944e57f921410b33ee9698eb25e12aa316e4a0bcd8169a", func := "ostinato/ostinatolaw11.SpanCuts", spec := "spanCuts", unfollowed := true, recurses := true, loops := true, apart := false, narrowed := true }
def SpanCutsUptoSaid : Prop := spanCutsUptoRow.holds Try.pinned (OpenSpec.upto spanCutsSpec)

/-- 'ostinatolaw11.SpanEither', WHERE WHAT IT READS IS OF BULK AT MOST 1048576: true; the input reads as it did. -/
def spanEitherUptoRow : OpenClaim := { program := "ytiadalheipbpcaa", sum := "91360dfa70b4027fad944e57f921410b33ee9698eb25e12aa316e4a0bcd8169a", func := "ostinato/ostinatolaw11.SpanEither", spec := "spanEither", unfollowed := true, recurses := true, loops := true, apart := false, narrowed := true }
def SpanEitherUptoSaid : Prop := spanEitherUptoRow.holds Try.pinned (OpenSpec.upto spanEitherSpec)

/-- 'ostinatolaw11.SpanTimes', WHERE WHAT IT READS IS OF BULK AT MOST 1048576: true; the input reads as it did. -/
def spanTimesUptoRow : OpenClaim := { program := "ytiadalheipbpcaa", sum := "91360dfa70b4027fad944e57f921410b33ee9698eb25e12aa316e4a0bcd8169a", func := "ostinato/ostinatolaw11.SpanTimes", spec := "spanTimes", unfollowed := true, recurses := true, loops := true, apart := false, narrowed := true }
def SpanTimesUptoSaid : Prop := spanTimesUptoRow.holds Try.pinned (OpenSpec.upto spanTimesSpec)

/-- 'ostinatolaw11.SpanMore', WHERE WHAT IT READS IS OF BULK AT MOST 1048576: true; the input reads as it did. -/
def spanMoreUptoRow : OpenClaim := { program := "ytiadalheipbpcaa", sum := "91360dfa70b4027fad944e57f921410b33ee9698eb25e12aa316e4a0bcd8169a", func := "ostinato/ostinatolaw11.SpanMore", spec := "spanMore", unfollowed := true, recurses := true, loops := true, apart := false, narrowed := true }
def SpanMoreUptoSaid : Prop := spanMoreUptoRow.holds Try.pinned (OpenSpec.upto spanMoreSpec)

/-- 'ostinatolaw11.SpanLong', WHERE WHAT IT READS IS OF BULK AT MOST 1048576: true; the input reads as it did. -/
def spanLongUptoRow : OpenClaim := { program := "ytiadalheipbpcaa", sum := "91360dfa70b4027fad944e57f921410b33ee9698eb25e12aa316e4a0bcd8169a", func := "ostinato/ostinatolaw11.SpanLong", spec := "spanLong", unfollowed := true, recurses := true, apart := false, narrowed := true }
def SpanLongUptoSaid : Prop := spanLongUptoRow.holds Try.pinned (OpenSpec.upto spanLongSpec)

/-- 'ostinatolaw11.SpanSimple', WHERE WHAT IT READS IS OF BULK AT MOST 1048576: true; the input reads as it did. -/
def spanSimpleUptoRow : OpenClaim := { program := "ytiadalheipbpcaa", sum := "91360dfa70b4027fad944e57f921410b33ee9698eb25e12aa316e4a0bcd8169a", func := "ostinato/ostinatolaw11.SpanSimple", spec := "spanSimple", unfollowed := true, recurses := true, loops := true, apart := false, narrowed := true }
def SpanSimpleUptoSaid : Prop := spanSimpleUptoRow.holds Try.pinned (OpenSpec.upto spanSimpleSpec)

end Rows
end Go.Proofs.Ytiadalheipbpcaa
