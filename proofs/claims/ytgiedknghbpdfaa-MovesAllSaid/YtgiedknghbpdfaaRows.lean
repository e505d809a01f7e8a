/-
  NARROWER THAN 'FOR EVERY INPUT', by the rows' own cells (each row's printed sentence says how): MovesReach: loops · MovesEnds: loops · MovesAll: loops · MovesKeep: loops · MovesPlain: loops.
  DERIVED. THE GIVEN ROWS OF THIS SEAT. 5 by the template 'for every input the law returns true; each argument reads behind the call as it read before'; 0 by the template 'total and deterministic' (their statements: YtgiedknghbpdfaaTotals.lean).
  GIVEN WITH THE SEED: the statements are not yours to turn. If you find one false, say at which input.
  Laid BY PROGRAM, IN A SANDBOX (cutbox-rows.mjs): the forced cells as the released guide's own fill.sh prints them over the translation e77661cc8138104e… (all of the seat's roots in one cut). By AI agents, Wed Nov 11 2026. No macro, syntax, notation, axiom, sorry.
-/
import Derived.Test.YtgiedknghbpdfaaChecked
import GoSem.Claim
import GoSem.ClaimJoined
import GoSem.ClaimMapViews
import Derived.JoinedTies
import Derived.KernelRfl
namespace Go.Proofs.Ytgiedknghbpdfaa
/- THE CELL 'sum', in the pinned program and in every row, IS THE sha256 OF THE DUMP (.gsa) THAT YtgiedknghbpdfaaProg.lean LOADS. Nothing in Lean hashes anything: it is a label: what it is worth is what the hold of that sum in a sandbox is worth. -/
noncomputable def Try.pinned : Pinned := { name := "ytgiedknghbpdfaa", sum := "e77661cc8138104e3d3f95c9f4c45267775bd48c34e402b1f4d8cbf8d10464f1", checked := Try.checked }
namespace Rows
def none {H : Type} : Left H := { results := [], args := [] }

/-- 'ostinatolaw06.MovesReach': WHATEVER THE INPUT: true; the input reads as it did. -/
def movesReachSpec : ChangeSpec := { name := "movesReach", fn := fun _ => fun
  | [d] => { results := [.lit (.bool true)], args := [d] }
  | _ => none }
def movesReachRow : OpenClaim := { program := "ytgiedknghbpdfaa", sum := "e77661cc8138104e3d3f95c9f4c45267775bd48c34e402b1f4d8cbf8d10464f1", func := "ostinato/ostinatolaw06.MovesReach", spec := "movesReach", unfollowed := true, recurses := true, loops := true, plainKeys := false, apart := false }
def MovesReachSaid : Prop := movesReachRow.holds Try.pinned (OpenSpec.ofChange movesReachSpec)

/-- ITS FALSE NEIGHBOUR: 'it returns false'. Refute it at one input. -/
def movesReachWrong : ChangeSpec := { name := "movesReach", fn := fun _ => fun
  | [d] => { results := [.lit (.bool false)], args := [d] }
  | _ => none }
def MovesReachWrongFalsely : Prop := movesReachRow.holds Try.pinned (OpenSpec.ofChange movesReachWrong)

/-- 'ostinatolaw06.MovesEnds': WHATEVER THE INPUT: true; the input reads as it did. -/
def movesEndsSpec : ChangeSpec := { name := "movesEnds", fn := fun _ => fun
  | [d] => { results := [.lit (.bool true)], args := [d] }
  | _ => none }
def movesEndsRow : OpenClaim := { program := "ytgiedknghbpdfaa", sum := "e77661cc8138104e3d3f95c9f4c45267775bd48c34e402b1f4d8cbf8d10464f1", func := "ostinato/ostinatolaw06.MovesEnds", spec := "movesEnds", unfollowed := true, recurses := true, loops := true, plainKeys := false, apart := false }
def MovesEndsSaid : Prop := movesEndsRow.holds Try.pinned (OpenSpec.ofChange movesEndsSpec)

/-- ITS FALSE NEIGHBOUR: 'it returns false'. Refute it at one input. -/
def movesEndsWrong : ChangeSpec := { name := "movesEnds", fn := fun _ => fun
  | [d] => { results := [.lit (.bool false)], args := [d] }
  | _ => none }
def MovesEndsWrongFalsely : Prop := movesEndsRow.holds Try.pinned (OpenSpec.ofChange movesEndsWrong)

/-- 'ostinatolaw06.MovesAll': WHATEVER THE INPUT: true; the input reads as it did. -/
def movesAllSpec : ChangeSpec := { name := "movesAll", fn := fun _ => fun
  | [d] => { results := [.lit (.bool true)], args := [d] }
  | _ => none }
def movesAllRow : OpenClaim := { program := "ytgiedknghbpdfaa", sum := "e77661cc8138104e3d3f95c9f4c45267775bd48c34e402b1f4d8cbf8d10464f1", func := "ostinato/ostinatolaw06.MovesAll", spec := "movesAll", unfollowed := true, recurses := true, loops := true, plainKeys := false, apart := false }
def MovesAllSaid : Prop := movesAllRow.holds Try.pinned (OpenSpec.ofChange movesAllSpec)

/-- ITS FALSE NEIGHBOUR: 'it returns false'. Refute it at one input. -/
def movesAllWrong : ChangeSpec := { name := "movesAll", fn := fun _ => fun
  | [d] => { results := [.lit (.bool false)], args := [d] }
  | _ => none }
def MovesAllWrongFalsely : Prop := movesAllRow.holds Try.pinned (OpenSpec.ofChange movesAllWrong)

/-- 'ostinatolaw06.MovesKeep': WHATEVER THE INPUT: true; the input reads as it did. -/
def movesKeepSpec : ChangeSpec := { name := "movesKeep", fn := fun _ => fun
  | [d] => { results := [.lit (.bool true)], args := [d] }
  | _ => none }
def movesKeepRow : OpenClaim := { program := "ytgiedknghbpdfaa", sum := "e77661cc8138104e3d3f95c9f4c45267775bd48c34e402b1f4d8cbf8d10464f1", func := "ostinato/ostinatolaw06.MovesKeep", spec := "movesKeep", unfollowed := true, recurses := true, loops := true, plainKeys := false, apart := false }
def MovesKeepSaid : Prop := movesKeepRow.holds Try.pinned (OpenSpec.ofChange movesKeepSpec)

/-- ITS FALSE NEIGHBOUR: 'it returns false'. Refute it at one input. -/
def movesKeepWrong : ChangeSpec := { name := "movesKeep", fn := fun _ => fun
  | [d] => { results := [.lit (.bool false)], args := [d] }
  | _ => none }
def MovesKeepWrongFalsely : Prop := movesKeepRow.holds Try.pinned (OpenSpec.ofChange movesKeepWrong)

/-- 'ostinatolaw06.MovesPlain': WHATEVER THE INPUT: true; the input reads as it did. -/
def movesPlainSpec : ChangeSpec := { name := "movesPlain", fn := fun _ => fun
  | [d] => { results := [.lit (.bool true)], args := [d] }
  | _ => none }
def movesPlainRow : OpenClaim := { program := "ytgiedknghbpdfaa", sum := "e77661cc8138104e3d3f95c9f4c45267775bd48c34e402b1f4d8cbf8d10464f1", func := "ostinato/ostinatolaw06.MovesPlain", spec := "movesPlain", unfollowed := true, recurses := true, loops := true, plainKeys := false, apart := false }
def MovesPlainSaid : Prop := movesPlainRow.holds Try.pinned (OpenSpec.ofChange movesPlainSpec)

/-- ITS FALSE NEIGHBOUR: 'it returns false'. Refute it at one input. -/
def movesPlainWrong : ChangeSpec := { name := "movesPlain", fn := fun _ => fun
  | [d] => { results := [.lit (.bool false)], args := [d] }
  | _ => none }
def MovesPlainWrongFalsely : Prop := movesPlainRow.holds Try.pinned (OpenSpec.ofChange movesPlainWrong)

/- THE SECOND FORM. 'bulk': how many values and letters a reading holds, each counted each time it is reached (what is shared counts as often as it is met; a slice's spare places count too). A statement '..UptoSaid' is the law's where the arguments, and the package variables that the reading takes, are together of bulk at most 1048576: NARROWER than '..Said'. Prove '..Said' where nothing that the law and all that it calls make is longer than what came in: it says more and counts as full. Else prove '..UptoSaid'. A law counts once. -/
mutual
def uptoBulk {H : Type} : DataW H → Nat
  | .lit (.string bytes) => bytes.length + 1
  | .lit _ => 1
  | .nil => 1
  | .ptr d => uptoBulk d + 1
  | .slice elems spare => uptoBulkAll elems + uptoBulkAll spare + 1
  | .agg parts => uptoBulkAll parts + 1
  | .iface _ d => uptoBulk d + 1
  | .map entries => uptoBulkEntries entries + 1
  | .held _ => 1
def uptoBulkAll {H : Type} : List (DataW H) → Nat
  | [] => 0
  | d :: r => uptoBulk d + uptoBulkAll r
def uptoBulkEntries {H : Type} : List (Lit × DataW H) → Nat
  | [] => 0
  | x :: r => uptoBulkEntry x + uptoBulkEntries r
def uptoBulkEntry {H : Type} : Lit × DataW H → Nat
  | (.string bytes, d) => bytes.length + uptoBulk d + 1
  | (_, d) => uptoBulk d + 1
 end
def uptoSmall : (H : Type) → List (DataW H) → Bool := fun _ ds => decide (uptoBulkAll ds ≤ 1048576)
def OpenSpec.upto (s : _root_.Go.ChangeSpec) : _root_.Go.OpenSpec := { _root_.Go.OpenSpec.ofChange s with cond := some uptoSmall }

/-- 'ostinatolaw06.MovesReach', WHERE WHAT IT READS IS OF BULK AT MOST 1048576: true; the input reads as it did. -/
def movesReachUptoRow : OpenClaim := { program := "ytgiedknghbpdfaa", sum := "e77661cc8138104e3d3f95c9f4c45267775bd48c34e402b1f4d8cbf8d10464f1", func := "ostinato/ostinatolaw06.MovesReach", spec := "movesReach", unfollowed := true, recurses := true, loops := true, plainKeys := false, apart := false, narrowed := true }
def MovesReachUptoSaid : Prop := movesReachUptoRow.holds Try.pinned (OpenSpec.upto movesReachSpec)

/-- 'ostinatolaw06.MovesEnds', WHERE WHAT IT READS IS OF BULK AT MOST 1048576: true; the input reads as it did. -/
def movesEndsUptoRow : OpenClaim := { program := "ytgiedknghbpdfaa", sum := "e77661cc8138104e3d3f95c9f4c45267775bd48c34e402b1f4d8cbf8d10464f1", func := "ostinato/ostinatolaw06.MovesEnds", spec := "movesEnds", unfollowed := true, recurses := true, loops := true, plainKeys := false, apart := false, narrowed := true }
def MovesEndsUptoSaid : Prop := movesEndsUptoRow.holds Try.pinned (OpenSpec.upto movesEndsSpec)

/-- 'ostinatolaw06.MovesAll', WHERE WHAT IT READS IS OF BULK AT MOST 1048576: true; the input reads as it did. -/
def movesAllUptoRow : OpenClaim := { program := "ytgiedknghbpdfaa", sum := "e77661cc8138104e3d3f95c9f4c45267775bd48c34e402b1f4d8cbf8d10464f1", func := "ostinato/ostinatolaw06.MovesAll", spec := "movesAll", unfollowed := true, recurses := true, loops := true, plainKeys := false, apart := false, narrowed := true }
def MovesAllUptoSaid : Prop := movesAllUptoRow.holds Try.pinned (OpenSpec.upto movesAllSpec)

/-- 'ostinatolaw06.MovesKeep', WHERE WHAT IT READS IS OF BULK AT MOST 1048576: true; the input reads as it did. -/
def movesKeepUptoRow : OpenClaim := { program := "ytgiedknghbpdfaa", sum := "e77661cc8138104e3d3f95c9f4c45267775bd48c34e402b1f4d8cbf8d10464f1", func := "ostinato/ostinatolaw06.MovesKeep", spec := "movesKeep", unfollowed := true, recurses := true, loops := true, plainKeys := false, apart := false, narrowed := true }
def MovesKeepUptoSaid : Prop := movesKeepUptoRow.holds Try.pinned (OpenSpec.upto movesKeepSpec)

/-- 'ostinatolaw06.MovesPlain', WHERE WHAT IT READS IS OF BULK AT MOST 1048576: true; the input reads as it did. -/
def movesPlainUptoRow : OpenClaim := { program := "ytgiedknghbpdfaa", sum := "e77661cc8138104e3d3f95c9f4c45267775bd48c34e402b1f4d8cbf8d10464f1", func := "ostinato/ostinatolaw06.MovesPlain", spec := "movesPlain", unfollowed := true, recurses := true, loops := true, plainKeys := false, apart := false, narrowed := true }
def MovesPlainUptoSaid : Prop := movesPlainUptoRow.holds Try.pinned (OpenSpec.upto movesPlainSpec)

end Rows
end Go.Proofs.Ytgiedknghbpdfaa
