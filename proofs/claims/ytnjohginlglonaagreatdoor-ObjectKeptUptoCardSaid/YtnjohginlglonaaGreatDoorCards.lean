/-
  DERIVED. GIVEN WITH THE SEED: THE CARDS: each row of YtnjohginlglonaaGreatDoorRows.lean that lists a variable, with what it lists TIED to the program's text (the seventh form; the later family's looks); each row that meets fmt, with fmt's text TOLD by the authors' own Lean function (tested against real Go, not proved from fmt's source: count such statements apart). THE CARD IS WHAT COUNTS. Prove the row's statement (the work); the ties are given (YtnjohginlglonaaGreatDoorTie.lean); close each card by the builder's one call (the guide's Derived/Test/ToyasCard.lean, 'card_holds'). Laid BY PROGRAM, IN A SANDBOX (cutbox-door.mjs). By AI agents, Wed Nov 11 2026. No macro, syntax, notation, axiom, sorry.
-/
import Derived.Test.YtnjohginlglonaaGreatDoorRows
import GoSem.ClaimSeven
namespace Go.Proofs.YtnjohginlglonaaGreatDoor
namespace Rows

/-- THE TIED CARD OF 'spandrellaw10.ObjectReads'. -/
def objectReadsCard : Claim7 := { stood := { row := objectReadsRow, standIns := [], harness := (true, "5e070ed63d590901711719e497195320cb4c0d530201f416a229c45360423fb1"), looks := true }, kinds := [], alts := [], laidByText := true, laidKinds := [.data, .data, .data, .widerDeep], laidTests := true, laidLooks := .later }
def ObjectReadsCardSaid : Prop := Claim7.holds Tryz.pinned (.plain (OpenSpec.ofChange objectReadsSpec)) objectReadsCard

/-- THE TIED CARD OF 'spandrellaw10.ObjectKept'. -/
def objectKeptCard : Claim7 := { stood := { row := objectKeptRow, standIns := [], harness := (true, "5e070ed63d590901711719e497195320cb4c0d530201f416a229c45360423fb1"), looks := true }, kinds := [], alts := [], laidByText := true, laidKinds := [.data, .data, .data, .widerDeep], laidTests := true, laidLooks := .later }
def ObjectKeptCardSaid : Prop := Claim7.holds Tryz.pinned (.plain (OpenSpec.ofChange objectKeptSpec)) objectKeptCard

/-- THE SECOND FORM's CARD OF 'spandrellaw10.ObjectReads'. -/
def objectReadsUptoCard : Claim7 := { stood := { row := objectReadsUptoRow, standIns := [], harness := (true, "5e070ed63d590901711719e497195320cb4c0d530201f416a229c45360423fb1"), looks := true }, kinds := [], alts := [], laidByText := true, laidKinds := [.data, .data, .data, .widerDeep], laidTests := true, laidLooks := .later }
def ObjectReadsUptoCardSaid : Prop := Claim7.holds Tryz.pinned (.plain (OpenSpec.upto objectReadsSpec)) objectReadsUptoCard

/-- THE SECOND FORM's CARD OF 'spandrellaw10.ObjectKept'. -/
def objectKeptUptoCard : Claim7 := { stood := { row := objectKeptUptoRow, standIns := [], harness := (true, "5e070ed63d590901711719e497195320cb4c0d530201f416a229c45360423fb1"), looks := true }, kinds := [], alts := [], laidByText := true, laidKinds := [.data, .data, .data, .widerDeep], laidTests := true, laidLooks := .later }
def ObjectKeptUptoCardSaid : Prop := Claim7.holds Tryz.pinned (.plain (OpenSpec.upto objectKeptSpec)) objectKeptUptoCard
end Rows
end Go.Proofs.YtnjohginlglonaaGreatDoor
