/-
  DERIVED. GIVEN WITH THE SEED: THE CARDS: each row of YtkmanhmdppfaiaaGreatDoorRows.lean that lists a variable, with what it lists TIED to the program's text (the seventh form; the later family's looks); each row that meets fmt, with fmt's text TOLD by the authors' own Lean function (tested against real Go, not proved from fmt's source: count such statements apart). THE CARD IS WHAT COUNTS. Prove the row's statement (the work); the ties are given (YtkmanhmdppfaiaaGreatDoorTie.lean); close each card by the builder's one call (the guide's Derived/Test/ToyasCard.lean, 'card_holds'). Laid BY PROGRAM, IN A SANDBOX (cutbox-door.mjs). By AI agents, Wed Nov 11 2026. No macro, syntax, notation, axiom, sorry.
-/
import Derived.Test.YtkmanhmdppfaiaaGreatDoorRows
import GoSem.ClaimSeven
namespace Go.Proofs.YtkmanhmdppfaiaaGreatDoor
namespace Rows

/-- THE TIED CARD OF 'ostinatolaw15.ForkTrue'. -/
def forkTrueCard : Claim7 := { stood := { row := forkTrueRow, standIns := [], harness := (true, "0164e6ff1801a7af5da84e54f127afa280d5a017b3efa0895c95b2bba58759b0"), looks := false }, kinds := [], alts := [], laidByText := true, laidKinds := [.data], laidTests := true, laidLooks := .later }
def ForkTrueCardSaid : Prop := Claim7.holds Tryz.pinned (.plain (OpenSpec.ofChange forkTrueSpec)) forkTrueCard

/-- THE TIED CARD OF 'ostinatolaw15.ForkNone'. -/
def forkNoneCard : Claim7 := { stood := { row := forkNoneRow, standIns := [], harness := (true, "0164e6ff1801a7af5da84e54f127afa280d5a017b3efa0895c95b2bba58759b0"), looks := false }, kinds := [], alts := [], laidByText := true, laidKinds := [.data], laidTests := true, laidLooks := .later }
def ForkNoneCardSaid : Prop := Claim7.holds Tryz.pinned (.plain (OpenSpec.ofChange forkNoneSpec)) forkNoneCard

/-- THE SECOND FORM's CARD OF 'ostinatolaw15.ForkTrue'. -/
def forkTrueUptoCard : Claim7 := { stood := { row := forkTrueUptoRow, standIns := [], harness := (true, "0164e6ff1801a7af5da84e54f127afa280d5a017b3efa0895c95b2bba58759b0"), looks := false }, kinds := [], alts := [], laidByText := true, laidKinds := [.data], laidTests := true, laidLooks := .later }
def ForkTrueUptoCardSaid : Prop := Claim7.holds Tryz.pinned (.plain (OpenSpec.upto forkTrueSpec)) forkTrueUptoCard

/-- THE SECOND FORM's CARD OF 'ostinatolaw15.ForkNone'. -/
def forkNoneUptoCard : Claim7 := { stood := { row := forkNoneUptoRow, standIns := [], harness := (true, "0164e6ff1801a7af5da84e54f127afa280d5a017b3efa0895c95b2bba58759b0"), looks := false }, kinds := [], alts := [], laidByText := true, laidKinds := [.data], laidTests := true, laidLooks := .later }
def ForkNoneUptoCardSaid : Prop := Claim7.holds Tryz.pinned (.plain (OpenSpec.upto forkNoneSpec)) forkNoneUptoCard
end Rows
end Go.Proofs.YtkmanhmdppfaiaaGreatDoor
