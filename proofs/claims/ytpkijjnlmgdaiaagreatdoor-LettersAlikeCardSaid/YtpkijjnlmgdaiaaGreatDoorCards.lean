/-
  DERIVED. GIVEN WITH THE SEED: THE CARDS: each row of YtpkijjnlmgdaiaaGreatDoorRows.lean that lists a variable, with what it lists TIED to the program's text (the seventh form; the later family's looks); each row that meets fmt, with fmt's text TOLD by the authors' own Lean function (tested against real Go, not proved from fmt's source: count such statements apart). THE CARD IS WHAT COUNTS. Prove the row's statement (the work); the ties are given (YtpkijjnlmgdaiaaGreatDoorTie.lean); close each card by the builder's one call (the guide's Derived/Test/ToyasCard.lean, 'card_holds'). Laid BY PROGRAM, IN A SANDBOX (cutbox-door.mjs). By AI agents, Wed Nov 11 2026. No macro, syntax, notation, axiom, sorry.
-/
import Derived.Test.YtpkijjnlmgdaiaaGreatDoorRows
import GoSem.ClaimSeven
namespace Go.Proofs.YtpkijjnlmgdaiaaGreatDoor
namespace Rows

/-- THE TIED CARD OF 'ostinatolaw13.LettersAlike'. -/
def lettersAlikeCard : Claim7 := { stood := { row := lettersAlikeRow, standIns := [], harness := (true, "7c87be85164ff477595dd7cd5414d21bf98f1fa17d4e816c3b683ea0128ab1ee"), looks := false }, kinds := [], alts := [], laidByText := true, laidKinds := [.data, .data], laidTests := true, laidLooks := .later }
def LettersAlikeCardSaid : Prop := Claim7.holds Tryz.pinned (.plain (OpenSpec.ofChange lettersAlikeSpec)) lettersAlikeCard

/-- THE TIED CARD OF 'ostinatolaw14.DfaDead'. -/
def dfaDeadCard : Claim7 := { stood := { row := dfaDeadRow, standIns := [], harness := (true, "7c87be85164ff477595dd7cd5414d21bf98f1fa17d4e816c3b683ea0128ab1ee"), looks := false }, kinds := [], alts := [], laidByText := true, laidKinds := [.data, .data], laidTests := true, laidLooks := .later }
def DfaDeadCardSaid : Prop := Claim7.holds Tryz.pinned (.plain (OpenSpec.ofChange dfaDeadSpec)) dfaDeadCard

/-- THE TIED CARD OF 'ostinatolaw14.DfaMakes'. -/
def dfaMakesCard : Claim7 := { stood := { row := dfaMakesRow, standIns := [], harness := (true, "7c87be85164ff477595dd7cd5414d21bf98f1fa17d4e816c3b683ea0128ab1ee"), looks := false }, kinds := [], alts := [], laidByText := true, laidKinds := [.data, .data], laidTests := true, laidLooks := .later }
def DfaMakesCardSaid : Prop := Claim7.holds Tryz.pinned (.plain (OpenSpec.ofChange dfaMakesSpec)) dfaMakesCard

/-- THE TIED CARD OF 'ostinatolaw14.DfaBudget'. -/
def dfaBudgetCard : Claim7 := { stood := { row := dfaBudgetRow, standIns := [], harness := (true, "7c87be85164ff477595dd7cd5414d21bf98f1fa17d4e816c3b683ea0128ab1ee"), looks := false }, kinds := [], alts := [], laidByText := true, laidKinds := [.data, .data], laidTests := true, laidLooks := .later }
def DfaBudgetCardSaid : Prop := Claim7.holds Tryz.pinned (.plain (OpenSpec.ofChange dfaBudgetSpec)) dfaBudgetCard

/-- THE TIED CARD OF 'ostinatolaw14.DfaRuns'. -/
def dfaRunsCard : Claim7 := { stood := { row := dfaRunsRow, standIns := [], harness := (true, "7c87be85164ff477595dd7cd5414d21bf98f1fa17d4e816c3b683ea0128ab1ee"), looks := false }, kinds := [], alts := [], laidByText := true, laidKinds := [.data, .data], laidTests := true, laidLooks := .later }
def DfaRunsCardSaid : Prop := Claim7.holds Tryz.pinned (.plain (OpenSpec.ofChange dfaRunsSpec)) dfaRunsCard

/-- THE SECOND FORM's CARD OF 'ostinatolaw13.LettersAlike'. -/
def lettersAlikeUptoCard : Claim7 := { stood := { row := lettersAlikeUptoRow, standIns := [], harness := (true, "7c87be85164ff477595dd7cd5414d21bf98f1fa17d4e816c3b683ea0128ab1ee"), looks := false }, kinds := [], alts := [], laidByText := true, laidKinds := [.data, .data], laidTests := true, laidLooks := .later }
def LettersAlikeUptoCardSaid : Prop := Claim7.holds Tryz.pinned (.plain (OpenSpec.upto lettersAlikeSpec)) lettersAlikeUptoCard

/-- THE SECOND FORM's CARD OF 'ostinatolaw14.DfaDead'. -/
def dfaDeadUptoCard : Claim7 := { stood := { row := dfaDeadUptoRow, standIns := [], harness := (true, "7c87be85164ff477595dd7cd5414d21bf98f1fa17d4e816c3b683ea0128ab1ee"), looks := false }, kinds := [], alts := [], laidByText := true, laidKinds := [.data, .data], laidTests := true, laidLooks := .later }
def DfaDeadUptoCardSaid : Prop := Claim7.holds Tryz.pinned (.plain (OpenSpec.upto dfaDeadSpec)) dfaDeadUptoCard

/-- THE SECOND FORM's CARD OF 'ostinatolaw14.DfaMakes'. -/
def dfaMakesUptoCard : Claim7 := { stood := { row := dfaMakesUptoRow, standIns := [], harness := (true, "7c87be85164ff477595dd7cd5414d21bf98f1fa17d4e816c3b683ea0128ab1ee"), looks := false }, kinds := [], alts := [], laidByText := true, laidKinds := [.data, .data], laidTests := true, laidLooks := .later }
def DfaMakesUptoCardSaid : Prop := Claim7.holds Tryz.pinned (.plain (OpenSpec.upto dfaMakesSpec)) dfaMakesUptoCard

/-- THE SECOND FORM's CARD OF 'ostinatolaw14.DfaBudget'. -/
def dfaBudgetUptoCard : Claim7 := { stood := { row := dfaBudgetUptoRow, standIns := [], harness := (true, "7c87be85164ff477595dd7cd5414d21bf98f1fa17d4e816c3b683ea0128ab1ee"), looks := false }, kinds := [], alts := [], laidByText := true, laidKinds := [.data, .data], laidTests := true, laidLooks := .later }
def DfaBudgetUptoCardSaid : Prop := Claim7.holds Tryz.pinned (.plain (OpenSpec.upto dfaBudgetSpec)) dfaBudgetUptoCard

/-- THE SECOND FORM's CARD OF 'ostinatolaw14.DfaRuns'. -/
def dfaRunsUptoCard : Claim7 := { stood := { row := dfaRunsUptoRow, standIns := [], harness := (true, "7c87be85164ff477595dd7cd5414d21bf98f1fa17d4e816c3b683ea0128ab1ee"), looks := false }, kinds := [], alts := [], laidByText := true, laidKinds := [.data, .data], laidTests := true, laidLooks := .later }
def DfaRunsUptoCardSaid : Prop := Claim7.holds Tryz.pinned (.plain (OpenSpec.upto dfaRunsSpec)) dfaRunsUptoCard
end Rows
end Go.Proofs.YtpkijjnlmgdaiaaGreatDoor
