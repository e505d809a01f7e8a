/-
  NARROWER THAN 'FOR EVERY INPUT', by the rows' own cells (each row's printed sentence says how): NaiveDead: loops · NaiveEither: loops · NaiveMatch: loops · NaiveOn: loops · NaiveBehind: loops.
  DERIVED. THE GIVEN ROWS OF THIS SEAT. 5 by the template 'for every input the law returns true; each argument reads behind the call as it read before'; 0 by the template 'total and deterministic' (their statements: YtocmjakchgcioaaGreatTotals.lean).
  GIVEN WITH THE SEED: the statements are not yours to turn. If you find one false, say at which input.
  Laid BY PROGRAM, IN A SANDBOX (cutbox-rows.mjs): the forced cells as the released guide's own fill.sh prints them over the translation c611c6fd28877b7d… (all of the seat's roots in one cut). By AI agents, Wed Nov 11 2026. No macro, syntax, notation, axiom, sorry.
-/
import Derived.Test.YtocmjakchgcioaaGreatChecked
import GoSem.Claim
import GoSem.ClaimJoined
import GoSem.ClaimMapViews
import Derived.JoinedTies
import Derived.KernelRfl
namespace Go.Proofs.YtocmjakchgcioaaGreat
/- THE CELL 'sum', in the pinned program and in every row, IS THE sha256 OF THE DUMP (.gsa) THAT YtocmjakchgcioaaGreatProg.lean LOADS. Nothing in Lean hashes anything: it is a label: what it is worth is what the hold of that sum in a sandbox is worth. -/
noncomputable def Tryz.pinned : Pinned := { name := "ytocmjakchgcioaagreat", sum := "c611c6fd28877b7db87a2b83957ed6cc2eeff21d4ab902becaf20530ffd5fede", checked := Tryz.checked }
namespace Rows
def none {H : Type} : Left H := { results := [], args := [] }

/-- 'ostinatolaw08.NaiveDead': WHATEVER THE INPUT: true; the input reads as it did. -/
def naiveDeadSpec : ChangeSpec := { name := "naiveDead", fn := fun _ => fun
  | [d1, d2, d3] => { results := [.lit (.bool true)], args := [d1, d2, d3] }
  | _ => none }
def naiveDeadRow : OpenClaim := { program := "ytocmjakchgcioaagreat", sum := "c611c6fd28877b7db87a2b83957ed6cc2eeff21d4ab902becaf20530ffd5fede", func := "ostinato/ostinatolaw08.NaiveDead", spec := "naiveDead", unfollowed := true, recurses := true, loops := true, plainKeys := false, apart := false }
def NaiveDeadSaid : Prop := naiveDeadRow.holds Tryz.pinned (OpenSpec.ofChange naiveDeadSpec)

/-- ITS FALSE NEIGHBOUR: 'it returns false'. Refute it at one input. -/
def naiveDeadWrong : ChangeSpec := { name := "naiveDead", fn := fun _ => fun
  | [d1, d2, d3] => { results := [.lit (.bool false)], args := [d1, d2, d3] }
  | _ => none }
def NaiveDeadWrongFalsely : Prop := naiveDeadRow.holds Tryz.pinned (OpenSpec.ofChange naiveDeadWrong)

/-- 'ostinatolaw08.NaiveEither': WHATEVER THE INPUT: true; the input reads as it did. -/
def naiveEitherSpec : ChangeSpec := { name := "naiveEither", fn := fun _ => fun
  | [d1, d2, d3] => { results := [.lit (.bool true)], args := [d1, d2, d3] }
  | _ => none }
def naiveEitherRow : OpenClaim := { program := "ytocmjakchgcioaagreat", sum := "c611c6fd28877b7db87a2b83957ed6cc2eeff21d4ab902becaf20530ffd5fede", func := "ostinato/ostinatolaw08.NaiveEither", spec := "naiveEither", unfollowed := true, recurses := true, loops := true, plainKeys := false, apart := false }
def NaiveEitherSaid : Prop := naiveEitherRow.holds Tryz.pinned (OpenSpec.ofChange naiveEitherSpec)

/-- ITS FALSE NEIGHBOUR: 'it returns false'. Refute it at one input. -/
def naiveEitherWrong : ChangeSpec := { name := "naiveEither", fn := fun _ => fun
  | [d1, d2, d3] => { results := [.lit (.bool false)], args := [d1, d2, d3] }
  | _ => none }
def NaiveEitherWrongFalsely : Prop := naiveEitherRow.holds Tryz.pinned (OpenSpec.ofChange naiveEitherWrong)

/-- 'ostinatolaw08.NaiveMatch': WHATEVER THE INPUT: true; the input reads as it did. -/
def naiveMatchSpec : ChangeSpec := { name := "naiveMatch", fn := fun _ => fun
  | [d1, d2] => { results := [.lit (.bool true)], args := [d1, d2] }
  | _ => none }
def naiveMatchRow : OpenClaim := { program := "ytocmjakchgcioaagreat", sum := "c611c6fd28877b7db87a2b83957ed6cc2eeff21d4ab902becaf20530ffd5fede", func := "ostinato/ostinatolaw08.NaiveMatch", spec := "naiveMatch", unfollowed := true, recurses := true, loops := true, plainKeys := false, apart := false }
def NaiveMatchSaid : Prop := naiveMatchRow.holds Tryz.pinned (OpenSpec.ofChange naiveMatchSpec)

/-- ITS FALSE NEIGHBOUR: 'it returns false'. Refute it at one input. -/
def naiveMatchWrong : ChangeSpec := { name := "naiveMatch", fn := fun _ => fun
  | [d1, d2] => { results := [.lit (.bool false)], args := [d1, d2] }
  | _ => none }
def NaiveMatchWrongFalsely : Prop := naiveMatchRow.holds Tryz.pinned (OpenSpec.ofChange naiveMatchWrong)

/-- 'ostinatolaw08.NaiveOn': WHATEVER THE INPUT: true; the input reads as it did. -/
def naiveOnSpec : ChangeSpec := { name := "naiveOn", fn := fun _ => fun
  | [d1, d2] => { results := [.lit (.bool true)], args := [d1, d2] }
  | _ => none }
def naiveOnRow : OpenClaim := { program := "ytocmjakchgcioaagreat", sum := "c611c6fd28877b7db87a2b83957ed6cc2eeff21d4ab902becaf20530ffd5fede", func := "ostinato/ostinatolaw08.NaiveOn", spec := "naiveOn", unfollowed := true, recurses := true, loops := true, plainKeys := false, apart := false }
def NaiveOnSaid : Prop := naiveOnRow.holds Tryz.pinned (OpenSpec.ofChange naiveOnSpec)

/-- ITS FALSE NEIGHBOUR: 'it returns false'. Refute it at one input. -/
def naiveOnWrong : ChangeSpec := { name := "naiveOn", fn := fun _ => fun
  | [d1, d2] => { results := [.lit (.bool false)], args := [d1, d2] }
  | _ => none }
def NaiveOnWrongFalsely : Prop := naiveOnRow.holds Tryz.pinned (OpenSpec.ofChange naiveOnWrong)

/-- 'ostinatolaw08.NaiveBehind': WHATEVER THE INPUT: true; the input reads as it did. -/
def naiveBehindSpec : ChangeSpec := { name := "naiveBehind", fn := fun _ => fun
  | [d1, d2] => { results := [.lit (.bool true)], args := [d1, d2] }
  | _ => none }
def naiveBehindRow : OpenClaim := { program := "ytocmjakchgcioaagreat", sum := "c611c6fd28877b7db87a2b83957ed6cc2eeff21d4ab902becaf20530ffd5fede", func := "ostinato/ostinatolaw08.NaiveBehind", spec := "naiveBehind", unfollowed := true, recurses := true, loops := true, plainKeys := false, apart := false }
def NaiveBehindSaid : Prop := naiveBehindRow.holds Tryz.pinned (OpenSpec.ofChange naiveBehindSpec)

/-- ITS FALSE NEIGHBOUR: 'it returns false'. Refute it at one input. -/
def naiveBehindWrong : ChangeSpec := { name := "naiveBehind", fn := fun _ => fun
  | [d1, d2] => { results := [.lit (.bool false)], args := [d1, d2] }
  | _ => none }
def NaiveBehindWrongFalsely : Prop := naiveBehindRow.holds Tryz.pinned (OpenSpec.ofChange naiveBehindWrong)

/- THE SECOND FORM. 'bulk': how many values and letters a reading holds, each counted each time it is reached (what is shared counts as often as it is met; a slice's spare places count too). A statement '..UptoSaid' is the law's where the arguments, and the package variables that the reading takes, are together of bulk at most 1048576: NARROWER than '..Said'. Prove '..Said' where nothing that the law and all that it calls make is longer than what came in: it says more and counts as full. Else prove '..UptoSaid'. A law counts once. -/
mutual
def uptoBulk {H : Type} : DataW H → Nat
  | .lit (.string bytes) => bytes.length + 1
  | .lit _ => 1
  | .nil => 1
  | .ptr d => uptoBulk d + 1
  | .slice elems spare => uptoBulkAll elems + uptoBulkAll spare + 1
  | .agg parts => uptoBulkAll parts + 1
  | .iface _ d => uptoBulk d + 1
  | .map entries => uptoBulkEntries entries + 1
  | .held _ => 1
def uptoBulkAll {H : Type} : List (DataW H) → Nat
  | [] => 0
  | d :: r => uptoBulk d + uptoBulkAll r
def uptoBulkEntries {H : Type} : List (Lit × DataW H) → Nat
  | [] => 0
  | x :: r => uptoBulkEntry x + uptoBulkEntries r
def uptoBulkEntry {H : Type} : Lit × DataW H → Nat
  | (.string bytes, d) => bytes.length + uptoBulk d + 1
  | (_, d) => uptoBulk d + 1
 end
def uptoSmall : (H : Type) → List (DataW H) → Bool := fun _ ds => decide (uptoBulkAll ds ≤ 1048576)
def OpenSpec.upto (s : _root_.Go.ChangeSpec) : _root_.Go.OpenSpec := { _root_.Go.OpenSpec.ofChange s with cond := some uptoSmall }

/-- 'ostinatolaw08.NaiveDead', WHERE WHAT IT READS IS OF BULK AT MOST 1048576: true; the input reads as it did. -/
def naiveDeadUptoRow : OpenClaim := { program := "ytocmjakchgcioaagreat", sum := "c611c6fd28877b7db87a2b83957ed6cc2eeff21d4ab902becaf20530ffd5fede", func := "ostinato/ostinatolaw08.NaiveDead", spec := "naiveDead", unfollowed := true, recurses := true, loops := true, plainKeys := false, apart := false, narrowed := true }
def NaiveDeadUptoSaid : Prop := naiveDeadUptoRow.holds Tryz.pinned (OpenSpec.upto naiveDeadSpec)

/-- 'ostinatolaw08.NaiveEither', WHERE WHAT IT READS IS OF BULK AT MOST 1048576: true; the input reads as it did. -/
def naiveEitherUptoRow : OpenClaim := { program := "ytocmjakchgcioaagreat", sum := "c611c6fd28877b7db87a2b83957ed6cc2eeff21d4ab902becaf20530ffd5fede", func := "ostinato/ostinatolaw08.NaiveEither", spec := "naiveEither", unfollowed := true, recurses := true, loops := true, plainKeys := false, apart := false, narrowed := true }
def NaiveEitherUptoSaid : Prop := naiveEitherUptoRow.holds Tryz.pinned (OpenSpec.upto naiveEitherSpec)

/-- 'ostinatolaw08.NaiveMatch', WHERE WHAT IT READS IS OF BULK AT MOST 1048576: true; the input reads as it did. -/
def naiveMatchUptoRow : OpenClaim := { program := "ytocmjakchgcioaagreat", sum := "c611c6fd28877b7db87a2b83957ed6cc2eeff21d4ab902becaf20530ffd5fede", func := "ostinato/ostinatolaw08.NaiveMatch", spec := "naiveMatch", unfollowed := true, recurses := true, loops := true, plainKeys := false, apart := false, narrowed := true }
def NaiveMatchUptoSaid : Prop := naiveMatchUptoRow.holds Tryz.pinned (OpenSpec.upto naiveMatchSpec)

/-- 'ostinatolaw08.NaiveOn', WHERE WHAT IT READS IS OF BULK AT MOST 1048576: true; the input reads as it did. -/
def naiveOnUptoRow : OpenClaim := { program := "ytocmjakchgcioaagreat", sum := "c611c6fd28877b7db87a2b83957ed6cc2eeff21d4ab902becaf20530ffd5fede", func := "ostinato/ostinatolaw08.NaiveOn", spec := "naiveOn", unfollowed := true, recurses := true, loops := true, plainKeys := false, apart := false, narrowed := true }
def NaiveOnUptoSaid : Prop := naiveOnUptoRow.holds Tryz.pinned (OpenSpec.upto naiveOnSpec)

/-- 'ostinatolaw08.NaiveBehind', WHERE WHAT IT READS IS OF BULK AT MOST 1048576: true; the input reads as it did. -/
def naiveBehindUptoRow : OpenClaim := { program := "ytocmjakchgcioaagreat", sum := "c611c6fd28877b7db87a2b83957ed6cc2eeff21d4ab902becaf20530ffd5fede", func := "ostinato/ostinatolaw08.NaiveBehind", spec := "naiveBehind", unfollowed := true, recurses := true, loops := true, plainKeys := false, apart := false, narrowed := true }
def NaiveBehindUptoSaid : Prop := naiveBehindUptoRow.holds Tryz.pinned (OpenSpec.upto naiveBehindSpec)

end Rows
end Go.Proofs.YtocmjakchgcioaaGreat
