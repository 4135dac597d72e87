/-
  DERIVED. GIVEN WITH THE SEED: THE CARDS: each row of YtnjohginlglonaaDoorRows.lean that lists a variable, with what it lists TIED to the program's text (the seventh form; the later family's looks); each row that meets fmt, with fmt's text TOLD by the authors' own Lean function (tested against real Go, not proved from fmt's source: count such statements apart). THE CARD IS WHAT COUNTS. Prove the row's statement (the work); the ties are given (YtnjohginlglonaaDoorTie.lean); close each card by the builder's one call (the guide's Derived/Test/ToyasCard.lean, 'card_holds'). Laid BY PROGRAM, IN A SANDBOX (cutbox-door.mjs). By AI agents, Wed Nov 11 2026. No macro, syntax, notation, axiom, sorry.
-/
import Derived.Test.YtnjohginlglonaaDoorRows
import GoSem.ClaimSeven
namespace Go.Proofs.YtnjohginlglonaaDoor
namespace Rows

/-- THE TIED CARD OF 'spandrellaw10.ObjectNumbers'. -/
def objectNumbersCard : Claim7 := { stood := { row := objectNumbersRow, standIns := [], harness := (true, "b85b73f51b9b3487b4d2ce077a6ab66d047c2c110ec7685050edce9a7ba4165f"), looks := true }, kinds := [], alts := [], laidByText := true, laidKinds := [.data, .data, .data, .widerDeep], laidTests := true, laidLooks := .later }
def ObjectNumbersCardSaid : Prop := Claim7.holds Tryd.pinned (.plain (OpenSpec.ofChange objectNumbersSpec)) objectNumbersCard

/-- THE TIED CARD OF 'spandrellaw10.ObjectBack'. -/
def objectBackCard : Claim7 := { stood := { row := objectBackRow, standIns := [], harness := (true, "b85b73f51b9b3487b4d2ce077a6ab66d047c2c110ec7685050edce9a7ba4165f"), looks := true }, kinds := [], alts := [], laidByText := true, laidKinds := [.data, .data, .data, .widerDeep], laidTests := true, laidLooks := .later }
def ObjectBackCardSaid : Prop := Claim7.holds Tryd.pinned (.plain (OpenSpec.ofChange objectBackSpec)) objectBackCard

/-- THE TIED CARD OF 'spandrellaw10.ObjectCuts'. -/
def objectCutsCard : Claim7 := { stood := { row := objectCutsRow, standIns := [], harness := (true, "b85b73f51b9b3487b4d2ce077a6ab66d047c2c110ec7685050edce9a7ba4165f"), looks := true }, kinds := [], alts := [], laidByText := true, laidKinds := [.data, .data, .data, .widerDeep], laidTests := true, laidLooks := .later }
def ObjectCutsCardSaid : Prop := Claim7.holds Tryd.pinned (.plain (OpenSpec.ofChange objectCutsSpec)) objectCutsCard

/-- THE SECOND FORM's CARD OF 'spandrellaw10.ObjectNumbers'. -/
def objectNumbersUptoCard : Claim7 := { stood := { row := objectNumbersUptoRow, standIns := [], harness := (true, "b85b73f51b9b3487b4d2ce077a6ab66d047c2c110ec7685050edce9a7ba4165f"), looks := true }, kinds := [], alts := [], laidByText := true, laidKinds := [.data, .data, .data, .widerDeep], laidTests := true, laidLooks := .later }
def ObjectNumbersUptoCardSaid : Prop := Claim7.holds Tryd.pinned (.plain (OpenSpec.upto objectNumbersSpec)) objectNumbersUptoCard

/-- THE SECOND FORM's CARD OF 'spandrellaw10.ObjectBack'. -/
def objectBackUptoCard : Claim7 := { stood := { row := objectBackUptoRow, standIns := [], harness := (true, "b85b73f51b9b3487b4d2ce077a6ab66d047c2c110ec7685050edce9a7ba4165f"), looks := true }, kinds := [], alts := [], laidByText := true, laidKinds := [.data, .data, .data, .widerDeep], laidTests := true, laidLooks := .later }
def ObjectBackUptoCardSaid : Prop := Claim7.holds Tryd.pinned (.plain (OpenSpec.upto objectBackSpec)) objectBackUptoCard

/-- THE SECOND FORM's CARD OF 'spandrellaw10.ObjectCuts'. -/
def objectCutsUptoCard : Claim7 := { stood := { row := objectCutsUptoRow, standIns := [], harness := (true, "b85b73f51b9b3487b4d2ce077a6ab66d047c2c110ec7685050edce9a7ba4165f"), looks := true }, kinds := [], alts := [], laidByText := true, laidKinds := [.data, .data, .data, .widerDeep], laidTests := true, laidLooks := .later }
def ObjectCutsUptoCardSaid : Prop := Claim7.holds Tryd.pinned (.plain (OpenSpec.upto objectCutsSpec)) objectCutsUptoCard
end Rows
end Go.Proofs.YtnjohginlglonaaDoor
