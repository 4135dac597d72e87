/-
  DERIVED. GIVEN WITH THE SEED: THE CARDS: each row of YtgnhjkofpmchpaaGreatDoorRows.lean that lists a variable, with what it lists TIED to the program's text (the seventh form; the later family's looks); each row that meets fmt, with fmt's text TOLD by the authors' own Lean function (tested against real Go, not proved from fmt's source: count such statements apart). THE CARD IS WHAT COUNTS. Prove the row's statement (the work); the ties are given (YtgnhjkofpmchpaaGreatDoorTie.lean); close each card by the builder's one call (the guide's Derived/Test/ToyasCard.lean, 'card_holds'). Laid BY PROGRAM, IN A SANDBOX (cutbox-door.mjs). By AI agents, Wed Nov 11 2026. No macro, syntax, notation, axiom, sorry.
-/
import Derived.Test.YtgnhjkofpmchpaaGreatDoorRows
import GoSem.ClaimSeven
namespace Go.Proofs.YtgnhjkofpmchpaaGreatDoor
namespace Rows

/-- THE TIED CARD OF 'spandrellaw8.ItemReads'. -/
def itemReadsCard : Claim7 := { stood := { row := itemReadsRow, standIns := [], harness := (true, "a7191d8b51b2bd2e21c4ae1a03a1bd479d2f92bbcf4c60da93f538e3bb4055fa"), looks := true }, kinds := [], alts := [], laidByText := true, laidKinds := [.data, .data, .data, .widerDeep, .sentinel, .sentinel], laidTests := true, laidLooks := .later }
def ItemReadsCardSaid : Prop := Claim7.holds Tryz.pinned (.plain (OpenSpec.ofChange itemReadsSpec)) itemReadsCard

/-- THE TIED CARD OF 'spandrellaw8.ItemKept'. -/
def itemKeptCard : Claim7 := { stood := { row := itemKeptRow, standIns := [], harness := (true, "a7191d8b51b2bd2e21c4ae1a03a1bd479d2f92bbcf4c60da93f538e3bb4055fa"), looks := true }, kinds := [], alts := [], laidByText := true, laidKinds := [.data, .data, .data, .widerDeep, .sentinel, .sentinel], laidTests := true, laidLooks := .later }
def ItemKeptCardSaid : Prop := Claim7.holds Tryz.pinned (.plain (OpenSpec.ofChange itemKeptSpec)) itemKeptCard

/-- THE TIED CARD OF 'spandrellaw8.ItemNumbers'. -/
def itemNumbersCard : Claim7 := { stood := { row := itemNumbersRow, standIns := [], harness := (true, "a7191d8b51b2bd2e21c4ae1a03a1bd479d2f92bbcf4c60da93f538e3bb4055fa"), looks := true }, kinds := [], alts := [], laidByText := true, laidKinds := [.data, .data, .data, .widerDeep, .sentinel, .sentinel], laidTests := true, laidLooks := .later }
def ItemNumbersCardSaid : Prop := Claim7.holds Tryz.pinned (.plain (OpenSpec.ofChange itemNumbersSpec)) itemNumbersCard

/-- THE TIED CARD OF 'spandrellaw8.ItemRight'. -/
def itemRightCard : Claim7 := { stood := { row := itemRightRow, standIns := [], harness := (true, "a7191d8b51b2bd2e21c4ae1a03a1bd479d2f92bbcf4c60da93f538e3bb4055fa"), looks := true }, kinds := [], alts := [], laidByText := true, laidKinds := [.data, .data, .data, .widerDeep, .sentinel, .sentinel], laidTests := true, laidLooks := .later }
def ItemRightCardSaid : Prop := Claim7.holds Tryz.pinned (.plain (OpenSpec.ofChange itemRightSpec)) itemRightCard

/-- THE TIED CARD OF 'spandrellaw8.ItemFine'. -/
def itemFineCard : Claim7 := { stood := { row := itemFineRow, standIns := [], harness := (true, "a7191d8b51b2bd2e21c4ae1a03a1bd479d2f92bbcf4c60da93f538e3bb4055fa"), looks := true }, kinds := [], alts := [], laidByText := true, laidKinds := [.data, .data, .data, .widerDeep, .sentinel, .sentinel], laidTests := true, laidLooks := .later }
def ItemFineCardSaid : Prop := Claim7.holds Tryz.pinned (.plain (OpenSpec.ofChange itemFineSpec)) itemFineCard

/-- THE SECOND FORM's CARD OF 'spandrellaw8.ItemReads'. -/
def itemReadsUptoCard : Claim7 := { stood := { row := itemReadsUptoRow, standIns := [], harness := (true, "a7191d8b51b2bd2e21c4ae1a03a1bd479d2f92bbcf4c60da93f538e3bb4055fa"), looks := true }, kinds := [], alts := [], laidByText := true, laidKinds := [.data, .data, .data, .widerDeep, .sentinel, .sentinel], laidTests := true, laidLooks := .later }
def ItemReadsUptoCardSaid : Prop := Claim7.holds Tryz.pinned (.plain (OpenSpec.upto itemReadsSpec)) itemReadsUptoCard

/-- THE SECOND FORM's CARD OF 'spandrellaw8.ItemKept'. -/
def itemKeptUptoCard : Claim7 := { stood := { row := itemKeptUptoRow, standIns := [], harness := (true, "a7191d8b51b2bd2e21c4ae1a03a1bd479d2f92bbcf4c60da93f538e3bb4055fa"), looks := true }, kinds := [], alts := [], laidByText := true, laidKinds := [.data, .data, .data, .widerDeep, .sentinel, .sentinel], laidTests := true, laidLooks := .later }
def ItemKeptUptoCardSaid : Prop := Claim7.holds Tryz.pinned (.plain (OpenSpec.upto itemKeptSpec)) itemKeptUptoCard

/-- THE SECOND FORM's CARD OF 'spandrellaw8.ItemNumbers'. -/
def itemNumbersUptoCard : Claim7 := { stood := { row := itemNumbersUptoRow, standIns := [], harness := (true, "a7191d8b51b2bd2e21c4ae1a03a1bd479d2f92bbcf4c60da93f538e3bb4055fa"), looks := true }, kinds := [], alts := [], laidByText := true, laidKinds := [.data, .data, .data, .widerDeep, .sentinel, .sentinel], laidTests := true, laidLooks := .later }
def ItemNumbersUptoCardSaid : Prop := Claim7.holds Tryz.pinned (.plain (OpenSpec.upto itemNumbersSpec)) itemNumbersUptoCard

/-- THE SECOND FORM's CARD OF 'spandrellaw8.ItemRight'. -/
def itemRightUptoCard : Claim7 := { stood := { row := itemRightUptoRow, standIns := [], harness := (true, "a7191d8b51b2bd2e21c4ae1a03a1bd479d2f92bbcf4c60da93f538e3bb4055fa"), looks := true }, kinds := [], alts := [], laidByText := true, laidKinds := [.data, .data, .data, .widerDeep, .sentinel, .sentinel], laidTests := true, laidLooks := .later }
def ItemRightUptoCardSaid : Prop := Claim7.holds Tryz.pinned (.plain (OpenSpec.upto itemRightSpec)) itemRightUptoCard

/-- THE SECOND FORM's CARD OF 'spandrellaw8.ItemFine'. -/
def itemFineUptoCard : Claim7 := { stood := { row := itemFineUptoRow, standIns := [], harness := (true, "a7191d8b51b2bd2e21c4ae1a03a1bd479d2f92bbcf4c60da93f538e3bb4055fa"), looks := true }, kinds := [], alts := [], laidByText := true, laidKinds := [.data, .data, .data, .widerDeep, .sentinel, .sentinel], laidTests := true, laidLooks := .later }
def ItemFineUptoCardSaid : Prop := Claim7.holds Tryz.pinned (.plain (OpenSpec.upto itemFineSpec)) itemFineUptoCard
end Rows
end Go.Proofs.YtgnhjkofpmchpaaGreatDoor
