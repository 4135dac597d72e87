/-
  DERIVED. GIVEN WITH THE SEED: THE CARDS: each row of YtlpcncdglfjnoaaGreatDoorRows.lean that lists a variable, with what it lists TIED to the program's text (the seventh form; the later family's looks); each row that meets fmt, with fmt's text TOLD by the authors' own Lean function (tested against real Go, not proved from fmt's source: count such statements apart). THE CARD IS WHAT COUNTS. Prove the row's statement (the work); the ties are given (YtlpcncdglfjnoaaGreatDoorTie.lean); close each card by the builder's one call (the guide's Derived/Test/ToyasCard.lean, 'card_holds'). Laid BY PROGRAM, IN A SANDBOX (cutbox-door.mjs). By AI agents, Wed Nov 11 2026. No macro, syntax, notation, axiom, sorry.
-/
import Derived.Test.YtlpcncdglfjnoaaGreatDoorRows
import GoSem.ClaimSeven
namespace Go.Proofs.YtlpcncdglfjnoaaGreatDoor
namespace Rows

/-- THE TIED CARD OF 'spandrellaw12.LinkRenamed'. -/
def linkRenamedCard : Claim7 := { stood := { row := linkRenamedRow, standIns := [], harness := (true, "ee5cd2bcb8bab2fe889ad488d653c6699e1fdabeb776c7919584d3193b170dc4"), looks := false }, kinds := [], alts := [], laidByText := true, laidKinds := [.data, .data, .data, .widerDeep], laidTests := true, laidLooks := .later }
def LinkRenamedCardSaid : Prop := Claim7.holds Tryz.pinned (.plain (OpenSpec.ofChange linkRenamedSpec)) linkRenamedCard

/-- THE TIED CARD OF 'spandrellaw12.LinkMore'. -/
def linkMoreCard : Claim7 := { stood := { row := linkMoreRow, standIns := [], harness := (true, "ee5cd2bcb8bab2fe889ad488d653c6699e1fdabeb776c7919584d3193b170dc4"), looks := false }, kinds := [], alts := [], laidByText := true, laidKinds := [.data, .data, .data, .widerDeep], laidTests := true, laidLooks := .later }
def LinkMoreCardSaid : Prop := Claim7.holds Tryz.pinned (.plain (OpenSpec.ofChange linkMoreSpec)) linkMoreCard

/-- THE TIED CARD OF 'spandrellaw12.LinkKept'. -/
def linkKeptCard : Claim7 := { stood := { row := linkKeptRow, standIns := [], harness := (true, "ee5cd2bcb8bab2fe889ad488d653c6699e1fdabeb776c7919584d3193b170dc4"), looks := false }, kinds := [], alts := [], laidByText := true, laidKinds := [.data, .data, .data, .widerDeep], laidTests := true, laidLooks := .later }
def LinkKeptCardSaid : Prop := Claim7.holds Tryz.pinned (.plain (OpenSpec.ofChange linkKeptSpec)) linkKeptCard

/-- THE TIED CARD OF 'spandrellaw12.LinkNumbers'. -/
def linkNumbersCard : Claim7 := { stood := { row := linkNumbersRow, standIns := [], harness := (true, "ee5cd2bcb8bab2fe889ad488d653c6699e1fdabeb776c7919584d3193b170dc4"), looks := false }, kinds := [], alts := [], laidByText := true, laidKinds := [.data, .data, .data, .widerDeep], laidTests := true, laidLooks := .later }
def LinkNumbersCardSaid : Prop := Claim7.holds Tryz.pinned (.plain (OpenSpec.ofChange linkNumbersSpec)) linkNumbersCard

/-- THE TIED CARD OF 'spandrellaw12.LinkLinks'. -/
def linkLinksCard : Claim7 := { stood := { row := linkLinksRow, standIns := [], harness := (true, "ee5cd2bcb8bab2fe889ad488d653c6699e1fdabeb776c7919584d3193b170dc4"), looks := false }, kinds := [], alts := [], laidByText := true, laidKinds := [.data, .data, .data, .widerDeep], laidTests := true, laidLooks := .later }
def LinkLinksCardSaid : Prop := Claim7.holds Tryz.pinned (.plain (OpenSpec.ofChange linkLinksSpec)) linkLinksCard

/-- THE SECOND FORM's CARD OF 'spandrellaw12.LinkRenamed'. -/
def linkRenamedUptoCard : Claim7 := { stood := { row := linkRenamedUptoRow, standIns := [], harness := (true, "ee5cd2bcb8bab2fe889ad488d653c6699e1fdabeb776c7919584d3193b170dc4"), looks := false }, kinds := [], alts := [], laidByText := true, laidKinds := [.data, .data, .data, .widerDeep], laidTests := true, laidLooks := .later }
def LinkRenamedUptoCardSaid : Prop := Claim7.holds Tryz.pinned (.plain (OpenSpec.upto linkRenamedSpec)) linkRenamedUptoCard

/-- THE SECOND FORM's CARD OF 'spandrellaw12.LinkMore'. -/
def linkMoreUptoCard : Claim7 := { stood := { row := linkMoreUptoRow, standIns := [], harness := (true, "ee5cd2bcb8bab2fe889ad488d653c6699e1fdabeb776c7919584d3193b170dc4"), looks := false }, kinds := [], alts := [], laidByText := true, laidKinds := [.data, .data, .data, .widerDeep], laidTests := true, laidLooks := .later }
def LinkMoreUptoCardSaid : Prop := Claim7.holds Tryz.pinned (.plain (OpenSpec.upto linkMoreSpec)) linkMoreUptoCard

/-- THE SECOND FORM's CARD OF 'spandrellaw12.LinkKept'. -/
def linkKeptUptoCard : Claim7 := { stood := { row := linkKeptUptoRow, standIns := [], harness := (true, "ee5cd2bcb8bab2fe889ad488d653c6699e1fdabeb776c7919584d3193b170dc4"), looks := false }, kinds := [], alts := [], laidByText := true, laidKinds := [.data, .data, .data, .widerDeep], laidTests := true, laidLooks := .later }
def LinkKeptUptoCardSaid : Prop := Claim7.holds Tryz.pinned (.plain (OpenSpec.upto linkKeptSpec)) linkKeptUptoCard

/-- THE SECOND FORM's CARD OF 'spandrellaw12.LinkNumbers'. -/
def linkNumbersUptoCard : Claim7 := { stood := { row := linkNumbersUptoRow, standIns := [], harness := (true, "ee5cd2bcb8bab2fe889ad488d653c6699e1fdabeb776c7919584d3193b170dc4"), looks := false }, kinds := [], alts := [], laidByText := true, laidKinds := [.data, .data, .data, .widerDeep], laidTests := true, laidLooks := .later }
def LinkNumbersUptoCardSaid : Prop := Claim7.holds Tryz.pinned (.plain (OpenSpec.upto linkNumbersSpec)) linkNumbersUptoCard

/-- THE SECOND FORM's CARD OF 'spandrellaw12.LinkLinks'. -/
def linkLinksUptoCard : Claim7 := { stood := { row := linkLinksUptoRow, standIns := [], harness := (true, "ee5cd2bcb8bab2fe889ad488d653c6699e1fdabeb776c7919584d3193b170dc4"), looks := false }, kinds := [], alts := [], laidByText := true, laidKinds := [.data, .data, .data, .widerDeep], laidTests := true, laidLooks := .later }
def LinkLinksUptoCardSaid : Prop := Claim7.holds Tryz.pinned (.plain (OpenSpec.upto linkLinksSpec)) linkLinksUptoCard
end Rows
end Go.Proofs.YtlpcncdglfjnoaaGreatDoor
