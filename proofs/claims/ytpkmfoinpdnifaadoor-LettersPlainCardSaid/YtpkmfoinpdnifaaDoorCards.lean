/-
  DERIVED. GIVEN WITH THE SEED: THE CARDS: each row of YtpkmfoinpdnifaaDoorRows.lean that lists a variable, with what it lists TIED to the program's text (the seventh form; the later family's looks); each row that meets fmt, with fmt's text TOLD by the authors' own Lean function (tested against real Go, not proved from fmt's source: count such statements apart). THE CARD IS WHAT COUNTS. Prove the row's statement (the work); the ties are given (YtpkmfoinpdnifaaDoorTie.lean); close each card by the builder's one call (the guide's Derived/Test/ToyasCard.lean, 'card_holds'). Laid BY PROGRAM, IN A SANDBOX (cutbox-door.mjs). By AI agents, Wed Nov 11 2026. No macro, syntax, notation, axiom, sorry.
-/
import Derived.Test.YtpkmfoinpdnifaaDoorRows
import GoSem.ClaimSeven
namespace Go.Proofs.YtpkmfoinpdnifaaDoor
namespace Rows

/-- THE TIED CARD OF 'ostinatolaw13.LettersMakes'. -/
def lettersMakesCard : Claim7 := { stood := { row := lettersMakesRow, standIns := [], harness := (true, "6dd807880f8be36c98742c8d779659f0f0381945821b4216e5c05b1fd2a164a5"), looks := false }, kinds := [], alts := [], laidByText := true, laidKinds := [.data, .data], laidTests := true, laidLooks := .later }
def LettersMakesCardSaid : Prop := Claim7.holds Tryd.pinned (.plain (OpenSpec.ofChange lettersMakesSpec)) lettersMakesCard

/-- THE TIED CARD OF 'ostinatolaw13.LettersPlain'. -/
def lettersPlainCard : Claim7 := { stood := { row := lettersPlainRow, standIns := [], harness := (true, "6dd807880f8be36c98742c8d779659f0f0381945821b4216e5c05b1fd2a164a5"), looks := false }, kinds := [], alts := [], laidByText := true, laidKinds := [.data, .data], laidTests := true, laidLooks := .later }
def LettersPlainCardSaid : Prop := Claim7.holds Tryd.pinned (.plain (OpenSpec.ofChange lettersPlainSpec)) lettersPlainCard

/-- THE SECOND FORM's CARD OF 'ostinatolaw13.LettersMakes'. -/
def lettersMakesUptoCard : Claim7 := { stood := { row := lettersMakesUptoRow, standIns := [], harness := (true, "6dd807880f8be36c98742c8d779659f0f0381945821b4216e5c05b1fd2a164a5"), looks := false }, kinds := [], alts := [], laidByText := true, laidKinds := [.data, .data], laidTests := true, laidLooks := .later }
def LettersMakesUptoCardSaid : Prop := Claim7.holds Tryd.pinned (.plain (OpenSpec.upto lettersMakesSpec)) lettersMakesUptoCard

/-- THE SECOND FORM's CARD OF 'ostinatolaw13.LettersPlain'. -/
def lettersPlainUptoCard : Claim7 := { stood := { row := lettersPlainUptoRow, standIns := [], harness := (true, "6dd807880f8be36c98742c8d779659f0f0381945821b4216e5c05b1fd2a164a5"), looks := false }, kinds := [], alts := [], laidByText := true, laidKinds := [.data, .data], laidTests := true, laidLooks := .later }
def LettersPlainUptoCardSaid : Prop := Claim7.holds Tryd.pinned (.plain (OpenSpec.upto lettersPlainSpec)) lettersPlainUptoCard
end Rows
end Go.Proofs.YtpkmfoinpdnifaaDoor
