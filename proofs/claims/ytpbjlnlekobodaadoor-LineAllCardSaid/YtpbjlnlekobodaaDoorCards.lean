/-
  DERIVED. GIVEN WITH THE SEED: THE CARDS: each row of YtpbjlnlekobodaaDoorRows.lean that lists a variable, with what it lists TIED to the program's text (the seventh form; the later family's looks); each row that meets fmt, with fmt's text TOLD by the authors' own Lean function (tested against real Go, not proved from fmt's source: count such statements apart). THE CARD IS WHAT COUNTS. Prove the row's statement (the work); the ties are given (YtpbjlnlekobodaaDoorTie.lean); close each card by the builder's one call (the guide's Derived/Test/ToyasCard.lean, 'card_holds'). Laid BY PROGRAM, IN A SANDBOX (cutbox-door.mjs). By AI agents, Wed Nov 11 2026. No macro, syntax, notation, axiom, sorry.
-/
import Derived.Test.YtpbjlnlekobodaaDoorRows
import GoSem.ClaimSeven
namespace Go.Proofs.YtpbjlnlekobodaaDoor
namespace Rows

/-- THE TIED CARD OF 'spandrellaw2.LexTokens'. -/
def lexTokensCard : Claim7 := { stood := { row := lexTokensRow, standIns := [], harness := (true, "c70ca99f8a67370a6cc45372cbabf61b26a9287dfac3afb3f213db2e47886043"), looks := true }, kinds := [], alts := [], laidByText := true, laidKinds := [.data, .data, .data, .sentinel, .sentinel], laidTests := true, laidLooks := .later }
def LexTokensCardSaid : Prop := Claim7.holds Tryd.pinned (.plain (OpenSpec.ofChange lexTokensSpec)) lexTokensCard

/-- THE TIED CARD OF 'spandrellaw2.LexAgain'. -/
def lexAgainCard : Claim7 := { stood := { row := lexAgainRow, standIns := [], harness := (true, "c70ca99f8a67370a6cc45372cbabf61b26a9287dfac3afb3f213db2e47886043"), looks := true }, kinds := [], alts := [], laidByText := true, laidKinds := [.data, .data, .data, .sentinel, .sentinel], laidTests := true, laidLooks := .later }
def LexAgainCardSaid : Prop := Claim7.holds Tryd.pinned (.plain (OpenSpec.ofChange lexAgainSpec)) lexAgainCard

/-- THE TIED CARD OF 'spandrellaw2.LexCut'. -/
def lexCutCard : Claim7 := { stood := { row := lexCutRow, standIns := [], harness := (true, "c70ca99f8a67370a6cc45372cbabf61b26a9287dfac3afb3f213db2e47886043"), looks := true }, kinds := [], alts := [], laidByText := true, laidKinds := [.data, .data, .data, .sentinel, .sentinel], laidTests := true, laidLooks := .later }
def LexCutCardSaid : Prop := Claim7.holds Tryd.pinned (.plain (OpenSpec.ofChange lexCutSpec)) lexCutCard

/-- THE TIED CARD OF 'spandrellaw2.LexKept'. -/
def lexKeptCard : Claim7 := { stood := { row := lexKeptRow, standIns := [], harness := (true, "c70ca99f8a67370a6cc45372cbabf61b26a9287dfac3afb3f213db2e47886043"), looks := true }, kinds := [], alts := [], laidByText := true, laidKinds := [.data, .data, .data, .sentinel, .sentinel], laidTests := true, laidLooks := .later }
def LexKeptCardSaid : Prop := Claim7.holds Tryd.pinned (.plain (OpenSpec.ofChange lexKeptSpec)) lexKeptCard

/-- THE TIED CARD OF 'spandrellaw2.LexNumbers'. -/
def lexNumbersCard : Claim7 := { stood := { row := lexNumbersRow, standIns := [], harness := (true, "c70ca99f8a67370a6cc45372cbabf61b26a9287dfac3afb3f213db2e47886043"), looks := true }, kinds := [], alts := [], laidByText := true, laidKinds := [.data, .data, .data, .sentinel, .sentinel], laidTests := true, laidLooks := .later }
def LexNumbersCardSaid : Prop := Claim7.holds Tryd.pinned (.plain (OpenSpec.ofChange lexNumbersSpec)) lexNumbersCard

/-- THE TIED CARD OF 'spandrellaw2.LexNames'. -/
def lexNamesCard : Claim7 := { stood := { row := lexNamesRow, standIns := [], harness := (true, "c70ca99f8a67370a6cc45372cbabf61b26a9287dfac3afb3f213db2e47886043"), looks := true }, kinds := [], alts := [], laidByText := true, laidKinds := [.data, .data, .data, .sentinel, .sentinel], laidTests := true, laidLooks := .later }
def LexNamesCardSaid : Prop := Claim7.holds Tryd.pinned (.plain (OpenSpec.ofChange lexNamesSpec)) lexNamesCard

/-- THE TIED CARD OF 'spandrellaw3.LineParses'. -/
def lineParsesCard : Claim7 := { stood := { row := lineParsesRow, standIns := [], harness := (true, "c70ca99f8a67370a6cc45372cbabf61b26a9287dfac3afb3f213db2e47886043"), looks := true }, kinds := [], alts := [], laidByText := true, laidKinds := [.data, .data, .data, .sentinel, .sentinel], laidTests := true, laidLooks := .later }
def LineParsesCardSaid : Prop := Claim7.holds Tryd.pinned (.plain (OpenSpec.ofChange lineParsesSpec)) lineParsesCard

/-- THE TIED CARD OF 'spandrellaw3.LineSpaced'. -/
def lineSpacedCard : Claim7 := { stood := { row := lineSpacedRow, standIns := [], harness := (true, "c70ca99f8a67370a6cc45372cbabf61b26a9287dfac3afb3f213db2e47886043"), looks := true }, kinds := [], alts := [], laidByText := true, laidKinds := [.data, .data, .data, .sentinel, .sentinel], laidTests := true, laidLooks := .later }
def LineSpacedCardSaid : Prop := Claim7.holds Tryd.pinned (.plain (OpenSpec.ofChange lineSpacedSpec)) lineSpacedCard

/-- THE TIED CARD OF 'spandrellaw3.LineKept'. -/
def lineKeptCard : Claim7 := { stood := { row := lineKeptRow, standIns := [], harness := (true, "c70ca99f8a67370a6cc45372cbabf61b26a9287dfac3afb3f213db2e47886043"), looks := true }, kinds := [], alts := [], laidByText := true, laidKinds := [.data, .data, .data, .sentinel, .sentinel], laidTests := true, laidLooks := .later }
def LineKeptCardSaid : Prop := Claim7.holds Tryd.pinned (.plain (OpenSpec.ofChange lineKeptSpec)) lineKeptCard

/-- THE TIED CARD OF 'spandrellaw3.LineNumbers'. -/
def lineNumbersCard : Claim7 := { stood := { row := lineNumbersRow, standIns := [], harness := (true, "c70ca99f8a67370a6cc45372cbabf61b26a9287dfac3afb3f213db2e47886043"), looks := true }, kinds := [], alts := [], laidByText := true, laidKinds := [.data, .data, .data, .sentinel, .sentinel], laidTests := true, laidLooks := .later }
def LineNumbersCardSaid : Prop := Claim7.holds Tryd.pinned (.plain (OpenSpec.ofChange lineNumbersSpec)) lineNumbersCard

/-- THE TIED CARD OF 'spandrellaw3.LineAll'. -/
def lineAllCard : Claim7 := { stood := { row := lineAllRow, standIns := [], harness := (true, "c70ca99f8a67370a6cc45372cbabf61b26a9287dfac3afb3f213db2e47886043"), looks := true }, kinds := [], alts := [], laidByText := true, laidKinds := [.data, .data, .data, .sentinel, .sentinel], laidTests := true, laidLooks := .later }
def LineAllCardSaid : Prop := Claim7.holds Tryd.pinned (.plain (OpenSpec.ofChange lineAllSpec)) lineAllCard

/-- THE TIED CARD OF 'spandrellaw4.ExprParses'. -/
def exprParsesCard : Claim7 := { stood := { row := exprParsesRow, standIns := [], harness := (true, "c70ca99f8a67370a6cc45372cbabf61b26a9287dfac3afb3f213db2e47886043"), looks := true }, kinds := [], alts := [], laidByText := true, laidKinds := [.data, .data, .data], laidTests := true, laidLooks := .later }
def ExprParsesCardSaid : Prop := Claim7.holds Tryd.pinned (.plain (OpenSpec.ofChange exprParsesSpec)) exprParsesCard

/-- THE TIED CARD OF 'spandrellaw4.ExprValues'. -/
def exprValuesCard : Claim7 := { stood := { row := exprValuesRow, standIns := [], harness := (true, "c70ca99f8a67370a6cc45372cbabf61b26a9287dfac3afb3f213db2e47886043"), looks := true }, kinds := [], alts := [], laidByText := true, laidKinds := [.data, .data, .data], laidTests := true, laidLooks := .later }
def ExprValuesCardSaid : Prop := Claim7.holds Tryd.pinned (.plain (OpenSpec.ofChange exprValuesSpec)) exprValuesCard

/-- THE TIED CARD OF 'spandrellaw4.ExprKept'. -/
def exprKeptCard : Claim7 := { stood := { row := exprKeptRow, standIns := [], harness := (true, "c70ca99f8a67370a6cc45372cbabf61b26a9287dfac3afb3f213db2e47886043"), looks := true }, kinds := [], alts := [], laidByText := true, laidKinds := [.data, .data, .data], laidTests := true, laidLooks := .later }
def ExprKeptCardSaid : Prop := Claim7.holds Tryd.pinned (.plain (OpenSpec.ofChange exprKeptSpec)) exprKeptCard

/-- THE TIED CARD OF 'spandrellaw4.ExprNumbers'. -/
def exprNumbersCard : Claim7 := { stood := { row := exprNumbersRow, standIns := [], harness := (true, "c70ca99f8a67370a6cc45372cbabf61b26a9287dfac3afb3f213db2e47886043"), looks := true }, kinds := [], alts := [], laidByText := true, laidKinds := [.data, .data, .data], laidTests := true, laidLooks := .later }
def ExprNumbersCardSaid : Prop := Claim7.holds Tryd.pinned (.plain (OpenSpec.ofChange exprNumbersSpec)) exprNumbersCard

/-- THE TIED CARD OF 'spandrellaw4.ExprBack'. -/
def exprBackCard : Claim7 := { stood := { row := exprBackRow, standIns := [], harness := (true, "c70ca99f8a67370a6cc45372cbabf61b26a9287dfac3afb3f213db2e47886043"), looks := true }, kinds := [], alts := [], laidByText := true, laidKinds := [.data, .data, .data], laidTests := true, laidLooks := .later }
def ExprBackCardSaid : Prop := Claim7.holds Tryd.pinned (.plain (OpenSpec.ofChange exprBackSpec)) exprBackCard

/-- THE TIED CARD OF 'spandrellaw4.ExprGroups'. -/
def exprGroupsCard : Claim7 := { stood := { row := exprGroupsRow, standIns := [], harness := (true, "c70ca99f8a67370a6cc45372cbabf61b26a9287dfac3afb3f213db2e47886043"), looks := true }, kinds := [], alts := [], laidByText := true, laidKinds := [.data, .data, .data], laidTests := true, laidLooks := .later }
def ExprGroupsCardSaid : Prop := Claim7.holds Tryd.pinned (.plain (OpenSpec.ofChange exprGroupsSpec)) exprGroupsCard

/-- THE SECOND FORM's CARD OF 'spandrellaw2.LexTokens'. -/
def lexTokensUptoCard : Claim7 := { stood := { row := lexTokensUptoRow, standIns := [], harness := (true, "c70ca99f8a67370a6cc45372cbabf61b26a9287dfac3afb3f213db2e47886043"), looks := true }, kinds := [], alts := [], laidByText := true, laidKinds := [.data, .data, .data, .sentinel, .sentinel], laidTests := true, laidLooks := .later }
def LexTokensUptoCardSaid : Prop := Claim7.holds Tryd.pinned (.plain (OpenSpec.upto lexTokensSpec)) lexTokensUptoCard

/-- THE SECOND FORM's CARD OF 'spandrellaw2.LexAgain'. -/
def lexAgainUptoCard : Claim7 := { stood := { row := lexAgainUptoRow, standIns := [], harness := (true, "c70ca99f8a67370a6cc45372cbabf61b26a9287dfac3afb3f213db2e47886043"), looks := true }, kinds := [], alts := [], laidByText := true, laidKinds := [.data, .data, .data, .sentinel, .sentinel], laidTests := true, laidLooks := .later }
def LexAgainUptoCardSaid : Prop := Claim7.holds Tryd.pinned (.plain (OpenSpec.upto lexAgainSpec)) lexAgainUptoCard

/-- THE SECOND FORM's CARD OF 'spandrellaw2.LexCut'. -/
def lexCutUptoCard : Claim7 := { stood := { row := lexCutUptoRow, standIns := [], harness := (true, "c70ca99f8a67370a6cc45372cbabf61b26a9287dfac3afb3f213db2e47886043"), looks := true }, kinds := [], alts := [], laidByText := true, laidKinds := [.data, .data, .data, .sentinel, .sentinel], laidTests := true, laidLooks := .later }
def LexCutUptoCardSaid : Prop := Claim7.holds Tryd.pinned (.plain (OpenSpec.upto lexCutSpec)) lexCutUptoCard

/-- THE SECOND FORM's CARD OF 'spandrellaw2.LexKept'. -/
def lexKeptUptoCard : Claim7 := { stood := { row := lexKeptUptoRow, standIns := [], harness := (true, "c70ca99f8a67370a6cc45372cbabf61b26a9287dfac3afb3f213db2e47886043"), looks := true }, kinds := [], alts := [], laidByText := true, laidKinds := [.data, .data, .data, .sentinel, .sentinel], laidTests := true, laidLooks := .later }
def LexKeptUptoCardSaid : Prop := Claim7.holds Tryd.pinned (.plain (OpenSpec.upto lexKeptSpec)) lexKeptUptoCard

/-- THE SECOND FORM's CARD OF 'spandrellaw2.LexNumbers'. -/
def lexNumbersUptoCard : Claim7 := { stood := { row := lexNumbersUptoRow, standIns := [], harness := (true, "c70ca99f8a67370a6cc45372cbabf61b26a9287dfac3afb3f213db2e47886043"), looks := true }, kinds := [], alts := [], laidByText := true, laidKinds := [.data, .data, .data, .sentinel, .sentinel], laidTests := true, laidLooks := .later }
def LexNumbersUptoCardSaid : Prop := Claim7.holds Tryd.pinned (.plain (OpenSpec.upto lexNumbersSpec)) lexNumbersUptoCard

/-- THE SECOND FORM's CARD OF 'spandrellaw2.LexNames'. -/
def lexNamesUptoCard : Claim7 := { stood := { row := lexNamesUptoRow, standIns := [], harness := (true, "c70ca99f8a67370a6cc45372cbabf61b26a9287dfac3afb3f213db2e47886043"), looks := true }, kinds := [], alts := [], laidByText := true, laidKinds := [.data, .data, .data, .sentinel, .sentinel], laidTests := true, laidLooks := .later }
def LexNamesUptoCardSaid : Prop := Claim7.holds Tryd.pinned (.plain (OpenSpec.upto lexNamesSpec)) lexNamesUptoCard

/-- THE SECOND FORM's CARD OF 'spandrellaw3.LineParses'. -/
def lineParsesUptoCard : Claim7 := { stood := { row := lineParsesUptoRow, standIns := [], harness := (true, "c70ca99f8a67370a6cc45372cbabf61b26a9287dfac3afb3f213db2e47886043"), looks := true }, kinds := [], alts := [], laidByText := true, laidKinds := [.data, .data, .data, .sentinel, .sentinel], laidTests := true, laidLooks := .later }
def LineParsesUptoCardSaid : Prop := Claim7.holds Tryd.pinned (.plain (OpenSpec.upto lineParsesSpec)) lineParsesUptoCard

/-- THE SECOND FORM's CARD OF 'spandrellaw3.LineSpaced'. -/
def lineSpacedUptoCard : Claim7 := { stood := { row := lineSpacedUptoRow, standIns := [], harness := (true, "c70ca99f8a67370a6cc45372cbabf61b26a9287dfac3afb3f213db2e47886043"), looks := true }, kinds := [], alts := [], laidByText := true, laidKinds := [.data, .data, .data, .sentinel, .sentinel], laidTests := true, laidLooks := .later }
def LineSpacedUptoCardSaid : Prop := Claim7.holds Tryd.pinned (.plain (OpenSpec.upto lineSpacedSpec)) lineSpacedUptoCard

/-- THE SECOND FORM's CARD OF 'spandrellaw3.LineKept'. -/
def lineKeptUptoCard : Claim7 := { stood := { row := lineKeptUptoRow, standIns := [], harness := (true, "c70ca99f8a67370a6cc45372cbabf61b26a9287dfac3afb3f213db2e47886043"), looks := true }, kinds := [], alts := [], laidByText := true, laidKinds := [.data, .data, .data, .sentinel, .sentinel], laidTests := true, laidLooks := .later }
def LineKeptUptoCardSaid : Prop := Claim7.holds Tryd.pinned (.plain (OpenSpec.upto lineKeptSpec)) lineKeptUptoCard

/-- THE SECOND FORM's CARD OF 'spandrellaw3.LineNumbers'. -/
def lineNumbersUptoCard : Claim7 := { stood := { row := lineNumbersUptoRow, standIns := [], harness := (true, "c70ca99f8a67370a6cc45372cbabf61b26a9287dfac3afb3f213db2e47886043"), looks := true }, kinds := [], alts := [], laidByText := true, laidKinds := [.data, .data, .data, .sentinel, .sentinel], laidTests := true, laidLooks := .later }
def LineNumbersUptoCardSaid : Prop := Claim7.holds Tryd.pinned (.plain (OpenSpec.upto lineNumbersSpec)) lineNumbersUptoCard

/-- THE SECOND FORM's CARD OF 'spandrellaw3.LineAll'. -/
def lineAllUptoCard : Claim7 := { stood := { row := lineAllUptoRow, standIns := [], harness := (true, "c70ca99f8a67370a6cc45372cbabf61b26a9287dfac3afb3f213db2e47886043"), looks := true }, kinds := [], alts := [], laidByText := true, laidKinds := [.data, .data, .data, .sentinel, .sentinel], laidTests := true, laidLooks := .later }
def LineAllUptoCardSaid : Prop := Claim7.holds Tryd.pinned (.plain (OpenSpec.upto lineAllSpec)) lineAllUptoCard

/-- THE SECOND FORM's CARD OF 'spandrellaw4.ExprParses'. -/
def exprParsesUptoCard : Claim7 := { stood := { row := exprParsesUptoRow, standIns := [], harness := (true, "c70ca99f8a67370a6cc45372cbabf61b26a9287dfac3afb3f213db2e47886043"), looks := true }, kinds := [], alts := [], laidByText := true, laidKinds := [.data, .data, .data], laidTests := true, laidLooks := .later }
def ExprParsesUptoCardSaid : Prop := Claim7.holds Tryd.pinned (.plain (OpenSpec.upto exprParsesSpec)) exprParsesUptoCard

/-- THE SECOND FORM's CARD OF 'spandrellaw4.ExprValues'. -/
def exprValuesUptoCard : Claim7 := { stood := { row := exprValuesUptoRow, standIns := [], harness := (true, "c70ca99f8a67370a6cc45372cbabf61b26a9287dfac3afb3f213db2e47886043"), looks := true }, kinds := [], alts := [], laidByText := true, laidKinds := [.data, .data, .data], laidTests := true, laidLooks := .later }
def ExprValuesUptoCardSaid : Prop := Claim7.holds Tryd.pinned (.plain (OpenSpec.upto exprValuesSpec)) exprValuesUptoCard

/-- THE SECOND FORM's CARD OF 'spandrellaw4.ExprKept'. -/
def exprKeptUptoCard : Claim7 := { stood := { row := exprKeptUptoRow, standIns := [], harness := (true, "c70ca99f8a67370a6cc45372cbabf61b26a9287dfac3afb3f213db2e47886043"), looks := true }, kinds := [], alts := [], laidByText := true, laidKinds := [.data, .data, .data], laidTests := true, laidLooks := .later }
def ExprKeptUptoCardSaid : Prop := Claim7.holds Tryd.pinned (.plain (OpenSpec.upto exprKeptSpec)) exprKeptUptoCard

/-- THE SECOND FORM's CARD OF 'spandrellaw4.ExprNumbers'. -/
def exprNumbersUptoCard : Claim7 := { stood := { row := exprNumbersUptoRow, standIns := [], harness := (true, "c70ca99f8a67370a6cc45372cbabf61b26a9287dfac3afb3f213db2e47886043"), looks := true }, kinds := [], alts := [], laidByText := true, laidKinds := [.data, .data, .data], laidTests := true, laidLooks := .later }
def ExprNumbersUptoCardSaid : Prop := Claim7.holds Tryd.pinned (.plain (OpenSpec.upto exprNumbersSpec)) exprNumbersUptoCard

/-- THE SECOND FORM's CARD OF 'spandrellaw4.ExprBack'. -/
def exprBackUptoCard : Claim7 := { stood := { row := exprBackUptoRow, standIns := [], harness := (true, "c70ca99f8a67370a6cc45372cbabf61b26a9287dfac3afb3f213db2e47886043"), looks := true }, kinds := [], alts := [], laidByText := true, laidKinds := [.data, .data, .data], laidTests := true, laidLooks := .later }
def ExprBackUptoCardSaid : Prop := Claim7.holds Tryd.pinned (.plain (OpenSpec.upto exprBackSpec)) exprBackUptoCard

/-- THE SECOND FORM's CARD OF 'spandrellaw4.ExprGroups'. -/
def exprGroupsUptoCard : Claim7 := { stood := { row := exprGroupsUptoRow, standIns := [], harness := (true, "c70ca99f8a67370a6cc45372cbabf61b26a9287dfac3afb3f213db2e47886043"), looks := true }, kinds := [], alts := [], laidByText := true, laidKinds := [.data, .data, .data], laidTests := true, laidLooks := .later }
def ExprGroupsUptoCardSaid : Prop := Claim7.holds Tryd.pinned (.plain (OpenSpec.upto exprGroupsSpec)) exprGroupsUptoCard
end Rows
end Go.Proofs.YtpbjlnlekobodaaDoor
