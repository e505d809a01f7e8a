/-
  DERIVED. GIVEN WITH THE SEED: THE CARDS: each row of YtklbhcjmaeedhaaGreatDoorRows.lean that lists a variable, with what it lists TIED to the program's text (the seventh form; the later family's looks); each row that meets fmt, with fmt's text TOLD by the authors' own Lean function (tested against real Go, not proved from fmt's source: count such statements apart). THE CARD IS WHAT COUNTS. Prove the row's statement (the work); the ties are given (YtklbhcjmaeedhaaGreatDoorTie.lean); close each card by the builder's one call (the guide's Derived/Test/ToyasCard.lean, 'card_holds'). Laid BY PROGRAM, IN A SANDBOX (cutbox-door.mjs). By AI agents, Wed Nov 11 2026. No macro, syntax, notation, axiom, sorry.
-/
import Derived.Test.YtklbhcjmaeedhaaGreatDoorRows
import GoSem.ClaimSeven
namespace Go.Proofs.YtklbhcjmaeedhaaGreatDoor
namespace Rows

/-- THE TIED CARD OF 'ostinatolaw15.ForkReaches'. -/
def forkReachesCard : Claim7 := { stood := { row := forkReachesRow, standIns := [], harness := (true, "b77c39bbd661f9b580b288e2fa97e2d7658195df217757104504866206ba5a90"), looks := false }, kinds := [], alts := [], laidByText := true, laidKinds := [.data], laidTests := true, laidLooks := .later }
def ForkReachesCardSaid : Prop := Claim7.holds Tryz.pinned (.plain (OpenSpec.ofChange forkReachesSpec)) forkReachesCard

/-- THE SECOND FORM's CARD OF 'ostinatolaw15.ForkReaches'. -/
def forkReachesUptoCard : Claim7 := { stood := { row := forkReachesUptoRow, standIns := [], harness := (true, "b77c39bbd661f9b580b288e2fa97e2d7658195df217757104504866206ba5a90"), looks := false }, kinds := [], alts := [], laidByText := true, laidKinds := [.data], laidTests := true, laidLooks := .later }
def ForkReachesUptoCardSaid : Prop := Claim7.holds Tryz.pinned (.plain (OpenSpec.upto forkReachesSpec)) forkReachesUptoCard
end Rows
end Go.Proofs.YtklbhcjmaeedhaaGreatDoor
