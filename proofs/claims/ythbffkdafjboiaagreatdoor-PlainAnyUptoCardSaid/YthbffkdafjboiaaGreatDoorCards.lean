/-
  DERIVED. GIVEN WITH THE SEED: THE CARDS: each row of YthbffkdafjboiaaGreatDoorRows.lean that lists a variable, with what it lists TIED to the program's text (the seventh form; the later family's looks); each row that meets fmt, with fmt's text TOLD by the authors' own Lean function (tested against real Go, not proved from fmt's source: count such statements apart). THE CARD IS WHAT COUNTS. Prove the row's statement (the work); the ties are given (YthbffkdafjboiaaGreatDoorTie.lean); close each card by the builder's one call (the guide's Derived/Test/ToyasCard.lean, 'card_holds'). Laid BY PROGRAM, IN A SANDBOX (cutbox-door.mjs). By AI agents, Wed Nov 11 2026. No macro, syntax, notation, axiom, sorry.
-/
import Derived.Test.YthbffkdafjboiaaGreatDoorRows
import GoSem.ClaimSeven
namespace Go.Proofs.YthbffkdafjboiaaGreatDoor
namespace Rows

/-- THE TIED CARD OF 'spandrellaw21.PlainNumbers'. -/
def plainNumbersCard : Claim7 := { stood := { row := plainNumbersRow, standIns := [], harness := (true, "9cbff0020a4efb0fad1d1630e1cbe349369293419971d84bfc309fa82710c061"), looks := false }, kinds := [], alts := [], laidByText := true, laidKinds := [.data, .data, .data, .widerDeep], laidTests := true, laidLooks := .later }
def PlainNumbersCardSaid : Prop := Claim7.holds Tryz.pinned (.plain (OpenSpec.ofChange plainNumbersSpec)) plainNumbersCard

/-- THE TIED CARD OF 'spandrellaw21.PlainAny'. -/
def plainAnyCard : Claim7 := { stood := { row := plainAnyRow, standIns := [], harness := (true, "9cbff0020a4efb0fad1d1630e1cbe349369293419971d84bfc309fa82710c061"), looks := false }, kinds := [], alts := [], laidByText := true, laidKinds := [.data, .data, .data, .widerDeep], laidTests := true, laidLooks := .later }
def PlainAnyCardSaid : Prop := Claim7.holds Tryz.pinned (.plain (OpenSpec.ofChange plainAnySpec)) plainAnyCard

/-- THE TIED CARD OF 'spandrellaw21.PlainParts'. -/
def plainPartsCard : Claim7 := { stood := { row := plainPartsRow, standIns := [], harness := (true, "9cbff0020a4efb0fad1d1630e1cbe349369293419971d84bfc309fa82710c061"), looks := false }, kinds := [], alts := [], laidByText := true, laidKinds := [.data, .data, .data, .widerDeep], laidTests := true, laidLooks := .later }
def PlainPartsCardSaid : Prop := Claim7.holds Tryz.pinned (.plain (OpenSpec.ofChange plainPartsSpec)) plainPartsCard

/-- THE TIED CARD OF 'spandrellaw21.PlainMore'. -/
def plainMoreCard : Claim7 := { stood := { row := plainMoreRow, standIns := [], harness := (true, "9cbff0020a4efb0fad1d1630e1cbe349369293419971d84bfc309fa82710c061"), looks := false }, kinds := [], alts := [], laidByText := true, laidKinds := [.data, .data, .data, .widerDeep], laidTests := true, laidLooks := .later }
def PlainMoreCardSaid : Prop := Claim7.holds Tryz.pinned (.plain (OpenSpec.ofChange plainMoreSpec)) plainMoreCard

/-- THE SECOND FORM's CARD OF 'spandrellaw21.PlainNumbers'. -/
def plainNumbersUptoCard : Claim7 := { stood := { row := plainNumbersUptoRow, standIns := [], harness := (true, "9cbff0020a4efb0fad1d1630e1cbe349369293419971d84bfc309fa82710c061"), looks := false }, kinds := [], alts := [], laidByText := true, laidKinds := [.data, .data, .data, .widerDeep], laidTests := true, laidLooks := .later }
def PlainNumbersUptoCardSaid : Prop := Claim7.holds Tryz.pinned (.plain (OpenSpec.upto plainNumbersSpec)) plainNumbersUptoCard

/-- THE SECOND FORM's CARD OF 'spandrellaw21.PlainAny'. -/
def plainAnyUptoCard : Claim7 := { stood := { row := plainAnyUptoRow, standIns := [], harness := (true, "9cbff0020a4efb0fad1d1630e1cbe349369293419971d84bfc309fa82710c061"), looks := false }, kinds := [], alts := [], laidByText := true, laidKinds := [.data, .data, .data, .widerDeep], laidTests := true, laidLooks := .later }
def PlainAnyUptoCardSaid : Prop := Claim7.holds Tryz.pinned (.plain (OpenSpec.upto plainAnySpec)) plainAnyUptoCard

/-- THE SECOND FORM's CARD OF 'spandrellaw21.PlainParts'. -/
def plainPartsUptoCard : Claim7 := { stood := { row := plainPartsUptoRow, standIns := [], harness := (true, "9cbff0020a4efb0fad1d1630e1cbe349369293419971d84bfc309fa82710c061"), looks := false }, kinds := [], alts := [], laidByText := true, laidKinds := [.data, .data, .data, .widerDeep], laidTests := true, laidLooks := .later }
def PlainPartsUptoCardSaid : Prop := Claim7.holds Tryz.pinned (.plain (OpenSpec.upto plainPartsSpec)) plainPartsUptoCard

/-- THE SECOND FORM's CARD OF 'spandrellaw21.PlainMore'. -/
def plainMoreUptoCard : Claim7 := { stood := { row := plainMoreUptoRow, standIns := [], harness := (true, "9cbff0020a4efb0fad1d1630e1cbe349369293419971d84bfc309fa82710c061"), looks := false }, kinds := [], alts := [], laidByText := true, laidKinds := [.data, .data, .data, .widerDeep], laidTests := true, laidLooks := .later }
def PlainMoreUptoCardSaid : Prop := Claim7.holds Tryz.pinned (.plain (OpenSpec.upto plainMoreSpec)) plainMoreUptoCard
end Rows
end Go.Proofs.YthbffkdafjboiaaGreatDoor
