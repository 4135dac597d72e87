/-
  DERIVED. GIVEN WITH THE SEED: THE CARDS: each row of YtfkjiiapldkoeaaGreatDoorRows.lean that lists a variable, with what it lists TIED to the program's text (the seventh form; the later family's looks); each row that meets fmt, with fmt's text TOLD by the authors' own Lean function (tested against real Go, not proved from fmt's source: count such statements apart). THE CARD IS WHAT COUNTS. Prove the row's statement (the work); the ties are given (YtfkjiiapldkoeaaGreatDoorTie.lean); close each card by the builder's one call (the guide's Derived/Test/ToyasCard.lean, 'card_holds'). Laid BY PROGRAM, IN A SANDBOX (cutbox-door.mjs). By AI agents, Wed Nov 11 2026. No macro, syntax, notation, axiom, sorry.
-/
import Derived.Test.YtfkjiiapldkoeaaGreatDoorRows
import GoSem.ClaimSeven
namespace Go.Proofs.YtfkjiiapldkoeaaGreatDoor
namespace Rows

/-- THE TIED CARD OF 'spandrellaw9.UnitAssembles'. -/
def unitAssemblesCard : Claim7 := { stood := { row := unitAssemblesRow, standIns := [], harness := (true, "5498b6cedf65f0ebcd3cbb3dce743c893e21b86ea12e3c306920fe59c4f74dd6"), looks := true }, kinds := [], alts := [], laidByText := true, laidKinds := [.data, .data, .data, .widerDeep, .sentinel, .sentinel], laidTests := true, laidLooks := .later }
def UnitAssemblesCardSaid : Prop := Claim7.holds Tryz.pinned (.plain (OpenSpec.ofChange unitAssemblesSpec)) unitAssemblesCard

/-- THE TIED CARD OF 'spandrellaw9.UnitNumbers'. -/
def unitNumbersCard : Claim7 := { stood := { row := unitNumbersRow, standIns := [], harness := (true, "5498b6cedf65f0ebcd3cbb3dce743c893e21b86ea12e3c306920fe59c4f74dd6"), looks := true }, kinds := [], alts := [], laidByText := true, laidKinds := [.data, .data, .data, .widerDeep, .sentinel, .sentinel], laidTests := true, laidLooks := .later }
def UnitNumbersCardSaid : Prop := Claim7.holds Tryz.pinned (.plain (OpenSpec.ofChange unitNumbersSpec)) unitNumbersCard

/-- THE TIED CARD OF 'spandrellaw9.UnitRight'. -/
def unitRightCard : Claim7 := { stood := { row := unitRightRow, standIns := [], harness := (true, "5498b6cedf65f0ebcd3cbb3dce743c893e21b86ea12e3c306920fe59c4f74dd6"), looks := true }, kinds := [], alts := [], laidByText := true, laidKinds := [.data, .data, .data, .widerDeep, .sentinel, .sentinel], laidTests := true, laidLooks := .later }
def UnitRightCardSaid : Prop := Claim7.holds Tryz.pinned (.plain (OpenSpec.ofChange unitRightSpec)) unitRightCard

/-- THE TIED CARD OF 'spandrellaw9.UnitKept'. -/
def unitKeptCard : Claim7 := { stood := { row := unitKeptRow, standIns := [], harness := (true, "5498b6cedf65f0ebcd3cbb3dce743c893e21b86ea12e3c306920fe59c4f74dd6"), looks := true }, kinds := [], alts := [], laidByText := true, laidKinds := [.data, .data, .data, .widerDeep, .sentinel, .sentinel], laidTests := true, laidLooks := .later }
def UnitKeptCardSaid : Prop := Claim7.holds Tryz.pinned (.plain (OpenSpec.ofChange unitKeptSpec)) unitKeptCard

/-- THE TIED CARD OF 'spandrellaw9.UnitFine'. -/
def unitFineCard : Claim7 := { stood := { row := unitFineRow, standIns := [], harness := (true, "5498b6cedf65f0ebcd3cbb3dce743c893e21b86ea12e3c306920fe59c4f74dd6"), looks := true }, kinds := [], alts := [], laidByText := true, laidKinds := [.data, .data, .data, .widerDeep, .handle, .sentinel, .sentinel], laidTests := true, laidLooks := .later }
def UnitFineCardSaid : Prop := Claim7.holds Tryz.pinned (.plain (OpenSpec.ofChange unitFineSpec)) unitFineCard

/-- THE TIED CARD OF 'spandrellaw9.UnitMore'. -/
def unitMoreCard : Claim7 := { stood := { row := unitMoreRow, standIns := [], harness := (true, "5498b6cedf65f0ebcd3cbb3dce743c893e21b86ea12e3c306920fe59c4f74dd6"), looks := true }, kinds := [], alts := [], laidByText := true, laidKinds := [.data, .data, .data, .widerDeep, .handle, .sentinel, .sentinel], laidTests := true, laidLooks := .later }
def UnitMoreCardSaid : Prop := Claim7.holds Tryz.pinned (.plain (OpenSpec.ofChange unitMoreSpec)) unitMoreCard

/-- THE SECOND FORM's CARD OF 'spandrellaw9.UnitAssembles'. -/
def unitAssemblesUptoCard : Claim7 := { stood := { row := unitAssemblesUptoRow, standIns := [], harness := (true, "5498b6cedf65f0ebcd3cbb3dce743c893e21b86ea12e3c306920fe59c4f74dd6"), looks := true }, kinds := [], alts := [], laidByText := true, laidKinds := [.data, .data, .data, .widerDeep, .sentinel, .sentinel], laidTests := true, laidLooks := .later }
def UnitAssemblesUptoCardSaid : Prop := Claim7.holds Tryz.pinned (.plain (OpenSpec.upto unitAssemblesSpec)) unitAssemblesUptoCard

/-- THE SECOND FORM's CARD OF 'spandrellaw9.UnitNumbers'. -/
def unitNumbersUptoCard : Claim7 := { stood := { row := unitNumbersUptoRow, standIns := [], harness := (true, "5498b6cedf65f0ebcd3cbb3dce743c893e21b86ea12e3c306920fe59c4f74dd6"), looks := true }, kinds := [], alts := [], laidByText := true, laidKinds := [.data, .data, .data, .widerDeep, .sentinel, .sentinel], laidTests := true, laidLooks := .later }
def UnitNumbersUptoCardSaid : Prop := Claim7.holds Tryz.pinned (.plain (OpenSpec.upto unitNumbersSpec)) unitNumbersUptoCard

/-- THE SECOND FORM's CARD OF 'spandrellaw9.UnitRight'. -/
def unitRightUptoCard : Claim7 := { stood := { row := unitRightUptoRow, standIns := [], harness := (true, "5498b6cedf65f0ebcd3cbb3dce743c893e21b86ea12e3c306920fe59c4f74dd6"), looks := true }, kinds := [], alts := [], laidByText := true, laidKinds := [.data, .data, .data, .widerDeep, .sentinel, .sentinel], laidTests := true, laidLooks := .later }
def UnitRightUptoCardSaid : Prop := Claim7.holds Tryz.pinned (.plain (OpenSpec.upto unitRightSpec)) unitRightUptoCard

/-- THE SECOND FORM's CARD OF 'spandrellaw9.UnitKept'. -/
def unitKeptUptoCard : Claim7 := { stood := { row := unitKeptUptoRow, standIns := [], harness := (true, "5498b6cedf65f0ebcd3cbb3dce743c893e21b86ea12e3c306920fe59c4f74dd6"), looks := true }, kinds := [], alts := [], laidByText := true, laidKinds := [.data, .data, .data, .widerDeep, .sentinel, .sentinel], laidTests := true, laidLooks := .later }
def UnitKeptUptoCardSaid : Prop := Claim7.holds Tryz.pinned (.plain (OpenSpec.upto unitKeptSpec)) unitKeptUptoCard

/-- THE SECOND FORM's CARD OF 'spandrellaw9.UnitFine'. -/
def unitFineUptoCard : Claim7 := { stood := { row := unitFineUptoRow, standIns := [], harness := (true, "5498b6cedf65f0ebcd3cbb3dce743c893e21b86ea12e3c306920fe59c4f74dd6"), looks := true }, kinds := [], alts := [], laidByText := true, laidKinds := [.data, .data, .data, .widerDeep, .handle, .sentinel, .sentinel], laidTests := true, laidLooks := .later }
def UnitFineUptoCardSaid : Prop := Claim7.holds Tryz.pinned (.plain (OpenSpec.upto unitFineSpec)) unitFineUptoCard

/-- THE SECOND FORM's CARD OF 'spandrellaw9.UnitMore'. -/
def unitMoreUptoCard : Claim7 := { stood := { row := unitMoreUptoRow, standIns := [], harness := (true, "5498b6cedf65f0ebcd3cbb3dce743c893e21b86ea12e3c306920fe59c4f74dd6"), looks := true }, kinds := [], alts := [], laidByText := true, laidKinds := [.data, .data, .data, .widerDeep, .handle, .sentinel, .sentinel], laidTests := true, laidLooks := .later }
def UnitMoreUptoCardSaid : Prop := Claim7.holds Tryz.pinned (.plain (OpenSpec.upto unitMoreSpec)) unitMoreUptoCard
end Rows
end Go.Proofs.YtfkjiiapldkoeaaGreatDoor
