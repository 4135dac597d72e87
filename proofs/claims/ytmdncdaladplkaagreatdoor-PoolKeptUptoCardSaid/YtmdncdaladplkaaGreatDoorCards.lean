/-
  DERIVED. GIVEN WITH THE SEED: THE CARDS: each row of YtmdncdaladplkaaGreatDoorRows.lean that lists a variable, with what it lists TIED to the program's text (the seventh form; the later family's looks); each row that meets fmt, with fmt's text TOLD by the authors' own Lean function (tested against real Go, not proved from fmt's source: count such statements apart). THE CARD IS WHAT COUNTS. Prove the row's statement (the work); the ties are given (YtmdncdaladplkaaGreatDoorTie.lean); close each card by the builder's one call (the guide's Derived/Test/ToyasCard.lean, 'card_holds'). Laid BY PROGRAM, IN A SANDBOX (cutbox-door.mjs). By AI agents, Wed Nov 11 2026. No macro, syntax, notation, axiom, sorry.
-/
import Derived.Test.YtmdncdaladplkaaGreatDoorRows
import GoSem.ClaimSeven
namespace Go.Proofs.YtmdncdaladplkaaGreatDoor
namespace Rows

/-- THE TIED CARD OF 'spandrellaw13.PoolNumbers'. -/
def poolNumbersCard : Claim7 := { stood := { row := poolNumbersRow, standIns := [], harness := (true, "fdebb4bce3927f145eeb220c5d487bf7b7ef8749252c2ca4764b6765cf842db8"), looks := false }, kinds := [], alts := [], laidByText := true, laidKinds := [.data, .data, .data, .widerDeep], laidTests := true, laidLooks := .later }
def PoolNumbersCardSaid : Prop := Claim7.holds Tryz.pinned (.plain (OpenSpec.ofChange poolNumbersSpec)) poolNumbersCard

/-- THE TIED CARD OF 'spandrellaw13.PoolPools'. -/
def poolPoolsCard : Claim7 := { stood := { row := poolPoolsRow, standIns := [], harness := (true, "fdebb4bce3927f145eeb220c5d487bf7b7ef8749252c2ca4764b6765cf842db8"), looks := false }, kinds := [], alts := [], laidByText := true, laidKinds := [.data, .data, .data, .widerDeep], laidTests := true, laidLooks := .later }
def PoolPoolsCardSaid : Prop := Claim7.holds Tryz.pinned (.plain (OpenSpec.ofChange poolPoolsSpec)) poolPoolsCard

/-- THE TIED CARD OF 'spandrellaw13.PoolShares'. -/
def poolSharesCard : Claim7 := { stood := { row := poolSharesRow, standIns := [], harness := (true, "fdebb4bce3927f145eeb220c5d487bf7b7ef8749252c2ca4764b6765cf842db8"), looks := false }, kinds := [], alts := [], laidByText := true, laidKinds := [.data, .data, .data, .widerDeep], laidTests := true, laidLooks := .later }
def PoolSharesCardSaid : Prop := Claim7.holds Tryz.pinned (.plain (OpenSpec.ofChange poolSharesSpec)) poolSharesCard

/-- THE TIED CARD OF 'spandrellaw13.PoolKept'. -/
def poolKeptCard : Claim7 := { stood := { row := poolKeptRow, standIns := [], harness := (true, "fdebb4bce3927f145eeb220c5d487bf7b7ef8749252c2ca4764b6765cf842db8"), looks := false }, kinds := [], alts := [], laidByText := true, laidKinds := [.data, .data, .data, .widerDeep], laidTests := true, laidLooks := .later }
def PoolKeptCardSaid : Prop := Claim7.holds Tryz.pinned (.plain (OpenSpec.ofChange poolKeptSpec)) poolKeptCard

/-- THE SECOND FORM's CARD OF 'spandrellaw13.PoolNumbers'. -/
def poolNumbersUptoCard : Claim7 := { stood := { row := poolNumbersUptoRow, standIns := [], harness := (true, "fdebb4bce3927f145eeb220c5d487bf7b7ef8749252c2ca4764b6765cf842db8"), looks := false }, kinds := [], alts := [], laidByText := true, laidKinds := [.data, .data, .data, .widerDeep], laidTests := true, laidLooks := .later }
def PoolNumbersUptoCardSaid : Prop := Claim7.holds Tryz.pinned (.plain (OpenSpec.upto poolNumbersSpec)) poolNumbersUptoCard

/-- THE SECOND FORM's CARD OF 'spandrellaw13.PoolPools'. -/
def poolPoolsUptoCard : Claim7 := { stood := { row := poolPoolsUptoRow, standIns := [], harness := (true, "fdebb4bce3927f145eeb220c5d487bf7b7ef8749252c2ca4764b6765cf842db8"), looks := false }, kinds := [], alts := [], laidByText := true, laidKinds := [.data, .data, .data, .widerDeep], laidTests := true, laidLooks := .later }
def PoolPoolsUptoCardSaid : Prop := Claim7.holds Tryz.pinned (.plain (OpenSpec.upto poolPoolsSpec)) poolPoolsUptoCard

/-- THE SECOND FORM's CARD OF 'spandrellaw13.PoolShares'. -/
def poolSharesUptoCard : Claim7 := { stood := { row := poolSharesUptoRow, standIns := [], harness := (true, "fdebb4bce3927f145eeb220c5d487bf7b7ef8749252c2ca4764b6765cf842db8"), looks := false }, kinds := [], alts := [], laidByText := true, laidKinds := [.data, .data, .data, .widerDeep], laidTests := true, laidLooks := .later }
def PoolSharesUptoCardSaid : Prop := Claim7.holds Tryz.pinned (.plain (OpenSpec.upto poolSharesSpec)) poolSharesUptoCard

/-- THE SECOND FORM's CARD OF 'spandrellaw13.PoolKept'. -/
def poolKeptUptoCard : Claim7 := { stood := { row := poolKeptUptoRow, standIns := [], harness := (true, "fdebb4bce3927f145eeb220c5d487bf7b7ef8749252c2ca4764b6765cf842db8"), looks := false }, kinds := [], alts := [], laidByText := true, laidKinds := [.data, .data, .data, .widerDeep], laidTests := true, laidLooks := .later }
def PoolKeptUptoCardSaid : Prop := Claim7.holds Tryz.pinned (.plain (OpenSpec.upto poolKeptSpec)) poolKeptUptoCard
end Rows
end Go.Proofs.YtmdncdaladplkaaGreatDoor
