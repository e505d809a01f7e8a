/-
  DERIVED. GIVEN WITH THE SEED: THE CARDS: each row of YtgiedknghbpdfaaDoorRows.lean that lists a variable, with what it lists TIED to the program's text (the seventh form; the later family's looks); each row that meets fmt, with fmt's text TOLD by the authors' own Lean function (tested against real Go, not proved from fmt's source: count such statements apart). THE CARD IS WHAT COUNTS. Prove the row's statement (the work); the ties are given (YtgiedknghbpdfaaDoorTie.lean); close each card by the builder's one call (the guide's Derived/Test/ToyasCard.lean, 'card_holds'). Laid BY PROGRAM, IN A SANDBOX (cutbox-door.mjs). By AI agents, Wed Nov 11 2026. No macro, syntax, notation, axiom, sorry.
-/
import Derived.Test.YtgiedknghbpdfaaDoorRows
import GoSem.ClaimSeven
namespace Go.Proofs.YtgiedknghbpdfaaDoor
namespace Rows

/-- THE TIED CARD OF 'ostinatolaw15.ForkFinds'. -/
def forkFindsCard : Claim7 := { stood := { row := forkFindsRow, standIns := [], harness := (true, "abe1bc93b0a2e0a16fe5a9ba699bf4cb8c5a97f7f034be9084740cf5ee799b49"), looks := false }, kinds := [], alts := [], laidByText := true, laidKinds := [.data], laidTests := true, laidLooks := .later }
def ForkFindsCardSaid : Prop := Claim7.holds Tryd.pinned (.plain (OpenSpec.ofChange forkFindsSpec)) forkFindsCard

/-- THE TIED CARD OF 'ostinatolaw15.ForkAgrees'. -/
def forkAgreesCard : Claim7 := { stood := { row := forkAgreesRow, standIns := [], harness := (true, "abe1bc93b0a2e0a16fe5a9ba699bf4cb8c5a97f7f034be9084740cf5ee799b49"), looks := false }, kinds := [], alts := [], laidByText := true, laidKinds := [.data], laidTests := true, laidLooks := .later }
def ForkAgreesCardSaid : Prop := Claim7.holds Tryd.pinned (.plain (OpenSpec.ofChange forkAgreesSpec)) forkAgreesCard

/-- THE SECOND FORM's CARD OF 'ostinatolaw15.ForkFinds'. -/
def forkFindsUptoCard : Claim7 := { stood := { row := forkFindsUptoRow, standIns := [], harness := (true, "abe1bc93b0a2e0a16fe5a9ba699bf4cb8c5a97f7f034be9084740cf5ee799b49"), looks := false }, kinds := [], alts := [], laidByText := true, laidKinds := [.data], laidTests := true, laidLooks := .later }
def ForkFindsUptoCardSaid : Prop := Claim7.holds Tryd.pinned (.plain (OpenSpec.upto forkFindsSpec)) forkFindsUptoCard

/-- THE SECOND FORM's CARD OF 'ostinatolaw15.ForkAgrees'. -/
def forkAgreesUptoCard : Claim7 := { stood := { row := forkAgreesUptoRow, standIns := [], harness := (true, "abe1bc93b0a2e0a16fe5a9ba699bf4cb8c5a97f7f034be9084740cf5ee799b49"), looks := false }, kinds := [], alts := [], laidByText := true, laidKinds := [.data], laidTests := true, laidLooks := .later }
def ForkAgreesUptoCardSaid : Prop := Claim7.holds Tryd.pinned (.plain (OpenSpec.upto forkAgreesSpec)) forkAgreesUptoCard
end Rows
end Go.Proofs.YtgiedknghbpdfaaDoor
