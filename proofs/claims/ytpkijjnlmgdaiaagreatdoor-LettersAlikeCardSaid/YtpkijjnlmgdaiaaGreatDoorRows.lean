/-
  NARROWER THAN 'FOR EVERY INPUT', by the rows' own cells (each row's printed sentence says how): LettersAlike: loops, laid · DfaDead: loops, laid · DfaMakes: loops, laid · DfaBudget: loops, laid · DfaRuns: loops, laid.
  DERIVED. THE GIVEN ROWS OF THIS SEAT. 5 by the template 'for every input the law returns true; each argument reads behind the call as it read before'; 0 by the template 'total and deterministic' (their statements: YtpkijjnlmgdaiaaGreatDoorTotals.lean).
  GIVEN WITH THE SEED: the statements are not yours to turn. If you find one false, say at which input.
  Laid BY PROGRAM, IN A SANDBOX (cutbox-rows.mjs): the forced cells as the released guide's own fill.sh prints them over the translation 828284519377e85f… (all of the seat's roots in one cut). By AI agents, Wed Nov 11 2026. No macro, syntax, notation, axiom, sorry.
-/
import Derived.Test.YtpkijjnlmgdaiaaGreatDoorChecked
import GoSem.Claim
import GoSem.ClaimJoined
import GoSem.ClaimMapViews
import Derived.JoinedTies
import Derived.KernelRfl
namespace Go.Proofs.YtpkijjnlmgdaiaaGreatDoor
/- THE CELL 'sum', in the pinned program and in every row, IS THE sha256 OF THE DUMP (.gsa) THAT YtpkijjnlmgdaiaaGreatDoorProg.lean LOADS. Nothing in Lean hashes anything: it is a label: what it is worth is what the hold of that sum in a sandbox is worth. -/
noncomputable def Tryz.pinned : Pinned := { name := "ytpkijjnlmgdaiaagreatdoor", sum := "828284519377e85f88e41abb5bb38ca64a12af5d65701b879928c195f8c85ea0", checked := Tryz.checked }
namespace Rows
def none {H : Type} : Left H := { results := [], args := [] }

/- WHAT THE LISTED PACKAGE-LEVEL VARIABLES READ AS WHEN THE CALL BEGINS. Each datum BY PROGRAM (the guide's laid-datum.mjs) off the statement by which the dump's own 'gosem.cut.vars' lays the variable. In a bare row this is a premise. The card (YtpkijjnlmgdaiaaGreatDoorCards.lean) ties it to the program's text. -/
def laid_math_bits_deBruijn64tab {H : Type} : DataW H := .agg [.lit (.int .u8 0), .lit (.int .u8 1), .lit (.int .u8 56), .lit (.int .u8 2), .lit (.int .u8 57), .lit (.int .u8 49), .lit (.int .u8 28), .lit (.int .u8 3), .lit (.int .u8 61), .lit (.int .u8 58), .lit (.int .u8 42), .lit (.int .u8 50), .lit (.int .u8 38), .lit (.int .u8 29), .lit (.int .u8 17), .lit (.int .u8 4), .lit (.int .u8 62), .lit (.int .u8 47), .lit (.int .u8 59), .lit (.int .u8 36), .lit (.int .u8 45), .lit (.int .u8 43), .lit (.int .u8 51), .lit (.int .u8 22), .lit (.int .u8 53), .lit (.int .u8 39), .lit (.int .u8 33), .lit (.int .u8 30), .lit (.int .u8 24), .lit (.int .u8 18), .lit (.int .u8 12), .lit (.int .u8 5), .lit (.int .u8 63), .lit (.int .u8 55), .lit (.int .u8 48), .lit (.int .u8 27), .lit (.int .u8 60), .lit (.int .u8 41), .lit (.int .u8 37), .lit (.int .u8 16), .lit (.int .u8 46), .lit (.int .u8 35), .lit (.int .u8 44), .lit (.int .u8 21), .lit (.int .u8 52), .lit (.int .u8 32), .lit (.int .u8 23), .lit (.int .u8 11), .lit (.int .u8 54), .lit (.int .u8 26), .lit (.int .u8 40), .lit (.int .u8 15), .lit (.int .u8 34), .lit (.int .u8 20), .lit (.int .u8 31), .lit (.int .u8 10), .lit (.int .u8 25), .lit (.int .u8 14), .lit (.int .u8 19), .lit (.int .u8 9), .lit (.int .u8 13), .lit (.int .u8 8), .lit (.int .u8 7), .lit (.int .u8 6)]
def laid_ostinato_class_all {H : Type} : DataW H := .lit (.int .i64 256)

/-- 'ostinatolaw13.LettersAlike': WHATEVER THE INPUT: true; the input reads as it did. -/
def lettersAlikeSpec : ChangeSpec := { name := "lettersAlike", fn := fun _ => fun
  | [d1, d2, d3] => { results := [.lit (.bool true)], args := [d1, d2, d3] }
  | _ => none }
def lettersAlikeRow : OpenClaim := { program := "ytpkijjnlmgdaiaagreatdoor", sum := "828284519377e85f88e41abb5bb38ca64a12af5d65701b879928c195f8c85ea0", func := "ostinato/ostinatolaw13.LettersAlike", spec := "lettersAlike", unfollowed := true, recurses := true, named := ["ostinato/class.all", "math/bits.deBruijn64tab"], loops := true, plainKeys := false, apart := false, laid := [("math/bits.deBruijn64tab", laid_math_bits_deBruijn64tab), ("ostinato/class.all", laid_ostinato_class_all)] }
def LettersAlikeSaid : Prop := lettersAlikeRow.holds Tryz.pinned (OpenSpec.ofChange lettersAlikeSpec)

/-- ITS FALSE NEIGHBOUR: 'it returns false'. Refute it at one input. -/
def lettersAlikeWrong : ChangeSpec := { name := "lettersAlike", fn := fun _ => fun
  | [d1, d2, d3] => { results := [.lit (.bool false)], args := [d1, d2, d3] }
  | _ => none }
def LettersAlikeWrongFalsely : Prop := lettersAlikeRow.holds Tryz.pinned (OpenSpec.ofChange lettersAlikeWrong)

/-- 'ostinatolaw14.DfaDead': WHATEVER THE INPUT: true; the input reads as it did. -/
def dfaDeadSpec : ChangeSpec := { name := "dfaDead", fn := fun _ => fun
  | [d] => { results := [.lit (.bool true)], args := [d] }
  | _ => none }
def dfaDeadRow : OpenClaim := { program := "ytpkijjnlmgdaiaagreatdoor", sum := "828284519377e85f88e41abb5bb38ca64a12af5d65701b879928c195f8c85ea0", func := "ostinato/ostinatolaw14.DfaDead", spec := "dfaDead", unfollowed := true, recurses := true, named := ["ostinato/class.all", "math/bits.deBruijn64tab"], loops := true, plainKeys := false, apart := false, laid := [("math/bits.deBruijn64tab", laid_math_bits_deBruijn64tab), ("ostinato/class.all", laid_ostinato_class_all)] }
def DfaDeadSaid : Prop := dfaDeadRow.holds Tryz.pinned (OpenSpec.ofChange dfaDeadSpec)

/-- ITS FALSE NEIGHBOUR: 'it returns false'. Refute it at one input. -/
def dfaDeadWrong : ChangeSpec := { name := "dfaDead", fn := fun _ => fun
  | [d] => { results := [.lit (.bool false)], args := [d] }
  | _ => none }
def DfaDeadWrongFalsely : Prop := dfaDeadRow.holds Tryz.pinned (OpenSpec.ofChange dfaDeadWrong)

/-- 'ostinatolaw14.DfaMakes': WHATEVER THE INPUT: true; the input reads as it did. -/
def dfaMakesSpec : ChangeSpec := { name := "dfaMakes", fn := fun _ => fun
  | [d1, d2] => { results := [.lit (.bool true)], args := [d1, d2] }
  | _ => none }
def dfaMakesRow : OpenClaim := { program := "ytpkijjnlmgdaiaagreatdoor", sum := "828284519377e85f88e41abb5bb38ca64a12af5d65701b879928c195f8c85ea0", func := "ostinato/ostinatolaw14.DfaMakes", spec := "dfaMakes", unfollowed := true, recurses := true, named := ["ostinato/class.all", "math/bits.deBruijn64tab"], loops := true, plainKeys := false, apart := false, laid := [("math/bits.deBruijn64tab", laid_math_bits_deBruijn64tab), ("ostinato/class.all", laid_ostinato_class_all)] }
def DfaMakesSaid : Prop := dfaMakesRow.holds Tryz.pinned (OpenSpec.ofChange dfaMakesSpec)

/-- ITS FALSE NEIGHBOUR: 'it returns false'. Refute it at one input. -/
def dfaMakesWrong : ChangeSpec := { name := "dfaMakes", fn := fun _ => fun
  | [d1, d2] => { results := [.lit (.bool false)], args := [d1, d2] }
  | _ => none }
def DfaMakesWrongFalsely : Prop := dfaMakesRow.holds Tryz.pinned (OpenSpec.ofChange dfaMakesWrong)

/-- 'ostinatolaw14.DfaBudget': WHATEVER THE INPUT: true; the input reads as it did. -/
def dfaBudgetSpec : ChangeSpec := { name := "dfaBudget", fn := fun _ => fun
  | [d] => { results := [.lit (.bool true)], args := [d] }
  | _ => none }
def dfaBudgetRow : OpenClaim := { program := "ytpkijjnlmgdaiaagreatdoor", sum := "828284519377e85f88e41abb5bb38ca64a12af5d65701b879928c195f8c85ea0", func := "ostinato/ostinatolaw14.DfaBudget", spec := "dfaBudget", unfollowed := true, recurses := true, named := ["ostinato/class.all", "math/bits.deBruijn64tab"], loops := true, plainKeys := false, apart := false, laid := [("math/bits.deBruijn64tab", laid_math_bits_deBruijn64tab), ("ostinato/class.all", laid_ostinato_class_all)] }
def DfaBudgetSaid : Prop := dfaBudgetRow.holds Tryz.pinned (OpenSpec.ofChange dfaBudgetSpec)

/-- ITS FALSE NEIGHBOUR: 'it returns false'. Refute it at one input. -/
def dfaBudgetWrong : ChangeSpec := { name := "dfaBudget", fn := fun _ => fun
  | [d] => { results := [.lit (.bool false)], args := [d] }
  | _ => none }
def DfaBudgetWrongFalsely : Prop := dfaBudgetRow.holds Tryz.pinned (OpenSpec.ofChange dfaBudgetWrong)

/-- 'ostinatolaw14.DfaRuns': WHATEVER THE INPUT: true; the input reads as it did. -/
def dfaRunsSpec : ChangeSpec := { name := "dfaRuns", fn := fun _ => fun
  | [d1, d2] => { results := [.lit (.bool true)], args := [d1, d2] }
  | _ => none }
def dfaRunsRow : OpenClaim := { program := "ytpkijjnlmgdaiaagreatdoor", sum := "828284519377e85f88e41abb5bb38ca64a12af5d65701b879928c195f8c85ea0", func := "ostinato/ostinatolaw14.DfaRuns", spec := "dfaRuns", unfollowed := true, recurses := true, named := ["ostinato/class.all", "math/bits.deBruijn64tab"], loops := true, plainKeys := false, apart := false, laid := [("math/bits.deBruijn64tab", laid_math_bits_deBruijn64tab), ("ostinato/class.all", laid_ostinato_class_all)] }
def DfaRunsSaid : Prop := dfaRunsRow.holds Tryz.pinned (OpenSpec.ofChange dfaRunsSpec)

/-- ITS FALSE NEIGHBOUR: 'it returns false'. Refute it at one input. -/
def dfaRunsWrong : ChangeSpec := { name := "dfaRuns", fn := fun _ => fun
  | [d1, d2] => { results := [.lit (.bool false)], args := [d1, d2] }
  | _ => none }
def DfaRunsWrongFalsely : Prop := dfaRunsRow.holds Tryz.pinned (OpenSpec.ofChange dfaRunsWrong)

/- THE SECOND FORM. 'bulk': how many values and letters a reading holds, each counted each time it is reached (what is shared counts as often as it is met; a slice's spare places count too). A statement '..UptoSaid' is the law's where the arguments, and the package variables that the reading takes, are together of bulk at most 1048576: NARROWER than '..Said'. Prove '..Said' where nothing that the law and all that it calls make is longer than what came in: it says more and counts as full. Else prove '..UptoSaid'. A law counts once. -/
mutual
def uptoBulk {H : Type} : DataW H → Nat
  | .lit (.string bytes) => bytes.length + 1
  | .lit _ => 1
  | .nil => 1
  | .ptr d => uptoBulk d + 1
  | .slice elems spare => uptoBulkAll elems + uptoBulkAll spare + 1
  | .agg parts => uptoBulkAll parts + 1
  | .iface _ d => uptoBulk d + 1
  | .map entries => uptoBulkEntries entries + 1
  | .held _ => 1
def uptoBulkAll {H : Type} : List (DataW H) → Nat
  | [] => 0
  | d :: r => uptoBulk d + uptoBulkAll r
def uptoBulkEntries {H : Type} : List (Lit × DataW H) → Nat
  | [] => 0
  | x :: r => uptoBulkEntry x + uptoBulkEntries r
def uptoBulkEntry {H : Type} : Lit × DataW H → Nat
  | (.string bytes, d) => bytes.length + uptoBulk d + 1
  | (_, d) => uptoBulk d + 1
 end
def uptoSmall : (H : Type) → List (DataW H) → Bool := fun _ ds => decide (uptoBulkAll ds ≤ 1048576)
def OpenSpec.upto (s : _root_.Go.ChangeSpec) : _root_.Go.OpenSpec := { _root_.Go.OpenSpec.ofChange s with cond := some uptoSmall }

/-- 'ostinatolaw13.LettersAlike', WHERE WHAT IT READS IS OF BULK AT MOST 1048576: true; the input reads as it did. -/
def lettersAlikeUptoRow : OpenClaim := { program := "ytpkijjnlmgdaiaagreatdoor", sum := "828284519377e85f88e41abb5bb38ca64a12af5d65701b879928c195f8c85ea0", func := "ostinato/ostinatolaw13.LettersAlike", spec := "lettersAlike", unfollowed := true, recurses := true, named := ["ostinato/class.all", "math/bits.deBruijn64tab"], loops := true, plainKeys := false, apart := false, laid := [("math/bits.deBruijn64tab", laid_math_bits_deBruijn64tab), ("ostinato/class.all", laid_ostinato_class_all)], narrowed := true }
def LettersAlikeUptoSaid : Prop := lettersAlikeUptoRow.holds Tryz.pinned (OpenSpec.upto lettersAlikeSpec)

/-- 'ostinatolaw14.DfaDead', WHERE WHAT IT READS IS OF BULK AT MOST 1048576: true; the input reads as it did. -/
def dfaDeadUptoRow : OpenClaim := { program := "ytpkijjnlmgdaiaagreatdoor", sum := "828284519377e85f88e41abb5bb38ca64a12af5d65701b879928c195f8c85ea0", func := "ostinato/ostinatolaw14.DfaDead", spec := "dfaDead", unfollowed := true, recurses := true, named := ["ostinato/class.all", "math/bits.deBruijn64tab"], loops := true, plainKeys := false, apart := false, laid := [("math/bits.deBruijn64tab", laid_math_bits_deBruijn64tab), ("ostinato/class.all", laid_ostinato_class_all)], narrowed := true }
def DfaDeadUptoSaid : Prop := dfaDeadUptoRow.holds Tryz.pinned (OpenSpec.upto dfaDeadSpec)

/-- 'ostinatolaw14.DfaMakes', WHERE WHAT IT READS IS OF BULK AT MOST 1048576: true; the input reads as it did. -/
def dfaMakesUptoRow : OpenClaim := { program := "ytpkijjnlmgdaiaagreatdoor", sum := "828284519377e85f88e41abb5bb38ca64a12af5d65701b879928c195f8c85ea0", func := "ostinato/ostinatolaw14.DfaMakes", spec := "dfaMakes", unfollowed := true, recurses := true, named := ["ostinato/class.all", "math/bits.deBruijn64tab"], loops := true, plainKeys := false, apart := false, laid := [("math/bits.deBruijn64tab", laid_math_bits_deBruijn64tab), ("ostinato/class.all", laid_ostinato_class_all)], narrowed := true }
def DfaMakesUptoSaid : Prop := dfaMakesUptoRow.holds Tryz.pinned (OpenSpec.upto dfaMakesSpec)

/-- 'ostinatolaw14.DfaBudget', WHERE WHAT IT READS IS OF BULK AT MOST 1048576: true; the input reads as it did. -/
def dfaBudgetUptoRow : OpenClaim := { program := "ytpkijjnlmgdaiaagreatdoor", sum := "828284519377e85f88e41abb5bb38ca64a12af5d65701b879928c195f8c85ea0", func := "ostinato/ostinatolaw14.DfaBudget", spec := "dfaBudget", unfollowed := true, recurses := true, named := ["ostinato/class.all", "math/bits.deBruijn64tab"], loops := true, plainKeys := false, apart := false, laid := [("math/bits.deBruijn64tab", laid_math_bits_deBruijn64tab), ("ostinato/class.all", laid_ostinato_class_all)], narrowed := true }
def DfaBudgetUptoSaid : Prop := dfaBudgetUptoRow.holds Tryz.pinned (OpenSpec.upto dfaBudgetSpec)

/-- 'ostinatolaw14.DfaRuns', WHERE WHAT IT READS IS OF BULK AT MOST 1048576: true; the input reads as it did. -/
def dfaRunsUptoRow : OpenClaim := { program := "ytpkijjnlmgdaiaagreatdoor", sum := "828284519377e85f88e41abb5bb38ca64a12af5d65701b879928c195f8c85ea0", func := "ostinato/ostinatolaw14.DfaRuns", spec := "dfaRuns", unfollowed := true, recurses := true, named := ["ostinato/class.all", "math/bits.deBruijn64tab"], loops := true, plainKeys := false, apart := false, laid := [("math/bits.deBruijn64tab", laid_math_bits_deBruijn64tab), ("ostinato/class.all", laid_ostinato_class_all)], narrowed := true }
def DfaRunsUptoSaid : Prop := dfaRunsUptoRow.holds Tryz.pinned (OpenSpec.upto dfaRunsSpec)

end Rows
end Go.Proofs.YtpkijjnlmgdaiaaGreatDoor
