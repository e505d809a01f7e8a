/-
  NARROWER THAN 'FOR EVERY INPUT', by the rows' own cells (each row's printed sentence says how): ConfigRight: loops · ConfigSteps: loops · ConfigMoves: loops · NaiveDead: loops.
  DERIVED. THE GIVEN ROWS OF THIS SEAT. 5 by the template 'for every input the law returns true; each argument reads behind the call as it read before'; 0 by the template 'total and deterministic' (their statements: YtgiedknghbpdfaaGreatTotals.lean).
  GIVEN WITH THE SEED: the statements are not yours to turn. If you find one false, say at which input.
  Laid BY PROGRAM, IN A SANDBOX (cutbox-rows.mjs): the forced cells as the released guide's own fill.sh prints them over the translation ab0f2fc5940ee3d9… (all of the seat's roots in one cut). By AI agents, Wed Nov 11 2026. No macro, syntax, notation, axiom, sorry.
-/
import Derived.Test.YtgiedknghbpdfaaGreatChecked
import GoSem.Claim
import GoSem.ClaimJoined
import GoSem.ClaimMapViews
import Derived.JoinedTies
import Derived.KernelRfl
namespace Go.Proofs.YtgiedknghbpdfaaGreat
/- THE CELL 'sum', in the pinned program and in every row, IS THE sha256 OF THE DUMP (.gsa) THAT YtgiedknghbpdfaaGreatProg.lean LOADS. Nothing in Lean hashes anything: it is a label: what it is worth is what the hold of that sum in a sandbox is worth. -/
noncomputable def Tryz.pinned : Pinned := { name := "ytgiedknghbpdfaagreat", sum := "ab0f2fc5940ee3d90c22e5693f444c2ad5365ff563017821909860061f9e9422", checked := Tryz.checked }
namespace Rows
def none {H : Type} : Left H := { results := [], args := [] }

/-- 'ostinatolaw07.ConfigRight': WHATEVER THE INPUT: true; the input reads as it did. -/
def configRightSpec : ChangeSpec := { name := "configRight", fn := fun _ => fun
  | [d1, d2, d3] => { results := [.lit (.bool true)], args := [d1, d2, d3] }
  | _ => none }
def configRightRow : OpenClaim := { program := "ytgiedknghbpdfaagreat", sum := "ab0f2fc5940ee3d90c22e5693f444c2ad5365ff563017821909860061f9e9422", func := "ostinato/ostinatolaw07.ConfigRight", spec := "configRight", unfollowed := true, recurses := true, loops := true, plainKeys := false, apart := false }
def ConfigRightSaid : Prop := configRightRow.holds Tryz.pinned (OpenSpec.ofChange configRightSpec)

/-- ITS FALSE NEIGHBOUR: 'it returns false'. Refute it at one input. -/
def configRightWrong : ChangeSpec := { name := "configRight", fn := fun _ => fun
  | [d1, d2, d3] => { results := [.lit (.bool false)], args := [d1, d2, d3] }
  | _ => none }
def ConfigRightWrongFalsely : Prop := configRightRow.holds Tryz.pinned (OpenSpec.ofChange configRightWrong)

/-- 'ostinatolaw07.ConfigOrders': WHATEVER THE INPUT: true; the input reads as it did. -/
def configOrdersSpec : ChangeSpec := { name := "configOrders", fn := fun _ => fun
  | [d1, d2, d3] => { results := [.lit (.bool true)], args := [d1, d2, d3] }
  | _ => none }
def configOrdersRow : OpenClaim := { program := "ytgiedknghbpdfaagreat", sum := "ab0f2fc5940ee3d90c22e5693f444c2ad5365ff563017821909860061f9e9422", func := "ostinato/ostinatolaw07.ConfigOrders", spec := "configOrders", unfollowed := true, recurses := true, plainKeys := false, apart := false }
def ConfigOrdersSaid : Prop := configOrdersRow.holds Tryz.pinned (OpenSpec.ofChange configOrdersSpec)

/-- ITS FALSE NEIGHBOUR: 'it returns false'. Refute it at one input. -/
def configOrdersWrong : ChangeSpec := { name := "configOrders", fn := fun _ => fun
  | [d1, d2, d3] => { results := [.lit (.bool false)], args := [d1, d2, d3] }
  | _ => none }
def ConfigOrdersWrongFalsely : Prop := configOrdersRow.holds Tryz.pinned (OpenSpec.ofChange configOrdersWrong)

/-- 'ostinatolaw07.ConfigSteps': WHATEVER THE INPUT: true; the input reads as it did. -/
def configStepsSpec : ChangeSpec := { name := "configSteps", fn := fun _ => fun
  | [d1, d2, d3] => { results := [.lit (.bool true)], args := [d1, d2, d3] }
  | _ => none }
def configStepsRow : OpenClaim := { program := "ytgiedknghbpdfaagreat", sum := "ab0f2fc5940ee3d90c22e5693f444c2ad5365ff563017821909860061f9e9422", func := "ostinato/ostinatolaw07.ConfigSteps", spec := "configSteps", unfollowed := true, recurses := true, loops := true, plainKeys := false, apart := false }
def ConfigStepsSaid : Prop := configStepsRow.holds Tryz.pinned (OpenSpec.ofChange configStepsSpec)

/-- ITS FALSE NEIGHBOUR: 'it returns false'. Refute it at one input. -/
def configStepsWrong : ChangeSpec := { name := "configSteps", fn := fun _ => fun
  | [d1, d2, d3] => { results := [.lit (.bool false)], args := [d1, d2, d3] }
  | _ => none }
def ConfigStepsWrongFalsely : Prop := configStepsRow.holds Tryz.pinned (OpenSpec.ofChange configStepsWrong)

/-- 'ostinatolaw07.ConfigMoves': WHATEVER THE INPUT: true; the input reads as it did. -/
def configMovesSpec : ChangeSpec := { name := "configMoves", fn := fun _ => fun
  | [d1, d2, d3] => { results := [.lit (.bool true)], args := [d1, d2, d3] }
  | _ => none }
def configMovesRow : OpenClaim := { program := "ytgiedknghbpdfaagreat", sum := "ab0f2fc5940ee3d90c22e5693f444c2ad5365ff563017821909860061f9e9422", func := "ostinato/ostinatolaw07.ConfigMoves", spec := "configMoves", unfollowed := true, recurses := true, loops := true, plainKeys := false, apart := false }
def ConfigMovesSaid : Prop := configMovesRow.holds Tryz.pinned (OpenSpec.ofChange configMovesSpec)

/-- ITS FALSE NEIGHBOUR: 'it returns false'. Refute it at one input. -/
def configMovesWrong : ChangeSpec := { name := "configMoves", fn := fun _ => fun
  | [d1, d2, d3] => { results := [.lit (.bool false)], args := [d1, d2, d3] }
  | _ => none }
def ConfigMovesWrongFalsely : Prop := configMovesRow.holds Tryz.pinned (OpenSpec.ofChange configMovesWrong)

/-- 'ostinatolaw08.NaiveDead': WHATEVER THE INPUT: true; the input reads as it did. -/
def naiveDeadSpec : ChangeSpec := { name := "naiveDead", fn := fun _ => fun
  | [d1, d2, d3] => { results := [.lit (.bool true)], args := [d1, d2, d3] }
  | _ => none }
def naiveDeadRow : OpenClaim := { program := "ytgiedknghbpdfaagreat", sum := "ab0f2fc5940ee3d90c22e5693f444c2ad5365ff563017821909860061f9e9422", func := "ostinato/ostinatolaw08.NaiveDead", spec := "naiveDead", unfollowed := true, recurses := true, loops := true, plainKeys := false, apart := false }
def NaiveDeadSaid : Prop := naiveDeadRow.holds Tryz.pinned (OpenSpec.ofChange naiveDeadSpec)

/-- ITS FALSE NEIGHBOUR: 'it returns false'. Refute it at one input. -/
def naiveDeadWrong : ChangeSpec := { name := "naiveDead", fn := fun _ => fun
  | [d1, d2, d3] => { results := [.lit (.bool false)], args := [d1, d2, d3] }
  | _ => none }
def NaiveDeadWrongFalsely : Prop := naiveDeadRow.holds Tryz.pinned (OpenSpec.ofChange naiveDeadWrong)

/- THE SECOND FORM. 'bulk': how many values and letters a reading holds, each counted each time it is reached (what is shared counts as often as it is met; a slice's spare places count too). A statement '..UptoSaid' is the law's where the arguments, and the package variables that the reading takes, are together of bulk at most 1048576: NARROWER than '..Said'. Prove '..Said' where nothing that the law and all that it calls make is longer than what came in: it says more and counts as full. Else prove '..UptoSaid'. A law counts once. -/
mutual
def uptoBulk {H : Type} : DataW H → Nat
  | .lit (.string bytes) => bytes.length + 1
  | .lit _ => 1
  | .nil => 1
  | .ptr d => uptoBulk d + 1
  | .slice elems spare => uptoBulkAll elems + uptoBulkAll spare + 1
  | .agg parts => uptoBulkAll parts + 1
  | .iface _ d => uptoBulk d + 1
  | .map entries => uptoBulkEntries entries + 1
  | .held _ => 1
def uptoBulkAll {H : Type} : List (DataW H) → Nat
  | [] => 0
  | d :: r => uptoBulk d + uptoBulkAll r
def uptoBulkEntries {H : Type} : List (Lit × DataW H) → Nat
  | [] => 0
  | x :: r => uptoBulkEntry x + uptoBulkEntries r
def uptoBulkEntry {H : Type} : Lit × DataW H → Nat
  | (.string bytes, d) => bytes.length + uptoBulk d + 1
  | (_, d) => uptoBulk d + 1
 end
def uptoSmall : (H : Type) → List (DataW H) → Bool := fun _ ds => decide (uptoBulkAll ds ≤ 1048576)
def OpenSpec.upto (s : _root_.Go.ChangeSpec) : _root_.Go.OpenSpec := { _root_.Go.OpenSpec.ofChange s with cond := some uptoSmall }

/-- 'ostinatolaw07.ConfigRight', WHERE WHAT IT READS IS OF BULK AT MOST 1048576: true; the input reads as it did. -/
def configRightUptoRow : OpenClaim := { program := "ytgiedknghbpdfaagreat", sum := "ab0f2fc5940ee3d90c22e5693f444c2ad5365ff563017821909860061f9e9422", func := "ostinato/ostinatolaw07.ConfigRight", spec := "configRight", unfollowed := true, recurses := true, loops := true, plainKeys := false, apart := false, narrowed := true }
def ConfigRightUptoSaid : Prop := configRightUptoRow.holds Tryz.pinned (OpenSpec.upto configRightSpec)

/-- 'ostinatolaw07.ConfigOrders', WHERE WHAT IT READS IS OF BULK AT MOST 1048576: true; the input reads as it did. -/
def configOrdersUptoRow : OpenClaim := { program := "ytgiedknghbpdfaagreat", sum := "ab0f2fc5940ee3d90c22e5693f444c2ad5365ff563017821909860061f9e9422", func := "ostinato/ostinatolaw07.ConfigOrders", spec := "configOrders", unfollowed := true, recurses := true, plainKeys := false, apart := false, narrowed := true }
def ConfigOrdersUptoSaid : Prop := configOrdersUptoRow.holds Tryz.pinned (OpenSpec.upto configOrdersSpec)

/-- 'ostinatolaw07.ConfigSteps', WHERE WHAT IT READS IS OF BULK AT MOST 1048576: true; the input reads as it did. -/
def configStepsUptoRow : OpenClaim := { program := "ytgiedknghbpdfaagreat", sum := "ab0f2fc5940ee3d90c22e5693f444c2ad5365ff563017821909860061f9e9422", func := "ostinato/ostinatolaw07.ConfigSteps", spec := "configSteps", unfollowed := true, recurses := true, loops := true, plainKeys := false, apart := false, narrowed := true }
def ConfigStepsUptoSaid : Prop := configStepsUptoRow.holds Tryz.pinned (OpenSpec.upto configStepsSpec)

/-- 'ostinatolaw07.ConfigMoves', WHERE WHAT IT READS IS OF BULK AT MOST 1048576: true; the input reads as it did. -/
def configMovesUptoRow : OpenClaim := { program := "ytgiedknghbpdfaagreat", sum := "ab0f2fc5940ee3d90c22e5693f444c2ad5365ff563017821909860061f9e9422", func := "ostinato/ostinatolaw07.ConfigMoves", spec := "configMoves", unfollowed := true, recurses := true, loops := true, plainKeys := false, apart := false, narrowed := true }
def ConfigMovesUptoSaid : Prop := configMovesUptoRow.holds Tryz.pinned (OpenSpec.upto configMovesSpec)

/-- 'ostinatolaw08.NaiveDead', WHERE WHAT IT READS IS OF BULK AT MOST 1048576: true; the input reads as it did. -/
def naiveDeadUptoRow : OpenClaim := { program := "ytgiedknghbpdfaagreat", sum := "ab0f2fc5940ee3d90c22e5693f444c2ad5365ff563017821909860061f9e9422", func := "ostinato/ostinatolaw08.NaiveDead", spec := "naiveDead", unfollowed := true, recurses := true, loops := true, plainKeys := false, apart := false, narrowed := true }
def NaiveDeadUptoSaid : Prop := naiveDeadUptoRow.holds Tryz.pinned (OpenSpec.upto naiveDeadSpec)

end Rows
end Go.Proofs.YtgiedknghbpdfaaGreat
