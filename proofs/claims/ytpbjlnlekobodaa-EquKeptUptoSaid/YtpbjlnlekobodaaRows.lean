/-
  No cell of these rows narrows 'for every input' (looked for: loops, veiled, ifaces, maps, wideKeys, modest, calm, conditions, laid).
  DERIVED. THE GIVEN ROWS OF THIS SEAT. 4 by the template 'for every input the law returns true; each argument reads behind the call as it read before'; 0 by the template 'total and deterministic' (their statements: YtpbjlnlekobodaaTotals.lean).
  GIVEN WITH THE SEED: the statements are not yours to turn. If you find one false, say at which input.
  Laid BY PROGRAM, IN A SANDBOX (cutbox-rows.mjs): the forced cells as the released guide's own fill.sh prints them over the translation de9cd42fba4b2774… (all of the seat's roots in one cut). By AI agents, Wed Nov 11 2026. No macro, syntax, notation, axiom, sorry.
-/
import Derived.Test.YtpbjlnlekobodaaChecked
import GoSem.Claim
import GoSem.ClaimJoined
import GoSem.ClaimMapViews
import Derived.JoinedTies
import Derived.KernelRfl
namespace Go.Proofs.Ytpbjlnlekobodaa
/- THE CELL 'sum', in the pinned program and in every row, IS THE sha256 OF THE DUMP (.gsa) THAT YtpbjlnlekobodaaProg.lean LOADS. Nothing in Lean hashes anything: it is a label: what it is worth is what the hold of that sum in a sandbox is worth. -/
noncomputable def Try.pinned : Pinned := { name := "ytpbjlnlekobodaa", sum := "de9cd42fba4b277423026193b7d52879b43b99b341536e6052d2ff0fd3427297", checked := Try.checked }
namespace Rows
def none {H : Type} : Left H := { results := [], args := [] }

/-- 'spandrellaw11.EquValues': WHATEVER THE INPUT: true; the input reads as it did. -/
def equValuesSpec : ChangeSpec := { name := "equValues", fn := fun _ => fun
  | [d1, d2] => { results := [.lit (.bool true)], args := [d1, d2] }
  | _ => none }
def equValuesRow : OpenClaim := { program := "ytpbjlnlekobodaa", sum := "de9cd42fba4b277423026193b7d52879b43b99b341536e6052d2ff0fd3427297", func := "spandrel/spandrellaw11.EquValues", spec := "equValues", unfollowed := true, recurses := true, apart := false }
def EquValuesSaid : Prop := equValuesRow.holds Try.pinned (OpenSpec.ofChange equValuesSpec)

/-- ITS FALSE NEIGHBOUR: 'it returns false'. Refute it at one input. -/
def equValuesWrong : ChangeSpec := { name := "equValues", fn := fun _ => fun
  | [d1, d2] => { results := [.lit (.bool false)], args := [d1, d2] }
  | _ => none }
def EquValuesWrongFalsely : Prop := equValuesRow.holds Try.pinned (OpenSpec.ofChange equValuesWrong)

/-- 'spandrellaw11.EquKept': WHATEVER THE INPUT: true; the input reads as it did. -/
def equKeptSpec : ChangeSpec := { name := "equKept", fn := fun _ => fun
  | [d1, d2] => { results := [.lit (.bool true)], args := [d1, d2] }
  | _ => none }
def equKeptRow : OpenClaim := { program := "ytpbjlnlekobodaa", sum := "de9cd42fba4b277423026193b7d52879b43b99b341536e6052d2ff0fd3427297", func := "spandrel/spandrellaw11.EquKept", spec := "equKept", unfollowed := true, recurses := true, apart := false }
def EquKeptSaid : Prop := equKeptRow.holds Try.pinned (OpenSpec.ofChange equKeptSpec)

/-- ITS FALSE NEIGHBOUR: 'it returns false'. Refute it at one input. -/
def equKeptWrong : ChangeSpec := { name := "equKept", fn := fun _ => fun
  | [d1, d2] => { results := [.lit (.bool false)], args := [d1, d2] }
  | _ => none }
def EquKeptWrongFalsely : Prop := equKeptRow.holds Try.pinned (OpenSpec.ofChange equKeptWrong)

/-- 'spandrellaw11.EquNumbers': WHATEVER THE INPUT: true; the input reads as it did. -/
def equNumbersSpec : ChangeSpec := { name := "equNumbers", fn := fun _ => fun
  | [] => { results := [.lit (.bool true)], args := [] }
  | _ => none }
def equNumbersRow : OpenClaim := { program := "ytpbjlnlekobodaa", sum := "de9cd42fba4b277423026193b7d52879b43b99b341536e6052d2ff0fd3427297", func := "spandrel/spandrellaw11.EquNumbers", spec := "equNumbers", unfollowed := true, recurses := true, apart := false }
def EquNumbersSaid : Prop := equNumbersRow.holds Try.pinned (OpenSpec.ofChange equNumbersSpec)

/-- ITS FALSE NEIGHBOUR: 'it returns false'. Refute it at one input. -/
def equNumbersWrong : ChangeSpec := { name := "equNumbers", fn := fun _ => fun
  | [] => { results := [.lit (.bool false)], args := [] }
  | _ => none }
def EquNumbersWrongFalsely : Prop := equNumbersRow.holds Try.pinned (OpenSpec.ofChange equNumbersWrong)

/-- 'spandrellaw11.EquTurned': WHATEVER THE INPUT: true; the input reads as it did. -/
def equTurnedSpec : ChangeSpec := { name := "equTurned", fn := fun _ => fun
  | [d1, d2] => { results := [.lit (.bool true)], args := [d1, d2] }
  | _ => none }
def equTurnedRow : OpenClaim := { program := "ytpbjlnlekobodaa", sum := "de9cd42fba4b277423026193b7d52879b43b99b341536e6052d2ff0fd3427297", func := "spandrel/spandrellaw11.EquTurned", spec := "equTurned", unfollowed := true, recurses := true, apart := false }
def EquTurnedSaid : Prop := equTurnedRow.holds Try.pinned (OpenSpec.ofChange equTurnedSpec)

/-- ITS FALSE NEIGHBOUR: 'it returns false'. Refute it at one input. -/
def equTurnedWrong : ChangeSpec := { name := "equTurned", fn := fun _ => fun
  | [d1, d2] => { results := [.lit (.bool false)], args := [d1, d2] }
  | _ => none }
def EquTurnedWrongFalsely : Prop := equTurnedRow.holds Try.pinned (OpenSpec.ofChange equTurnedWrong)

/- THE SECOND FORM. 'bulk': how many values and letters a reading holds, each counted each time it is reached (what is shared counts as often as it is met; a slice's spare places count too). A statement '..UptoSaid' is the law's where the arguments, and the package variables that the reading takes, are together of bulk at most 1048576: NARROWER than '..Said'. Prove '..Said' where nothing that the law and all that it calls make is longer than what came in: it says more and counts as full. Else prove '..UptoSaid'. A law counts once. -/
mutual
def uptoBulk {H : Type} : DataW H → Nat
  | .lit (.string bytes) => bytes.length + 1
  | .lit _ => 1
  | .nil => 1
  | .ptr d => uptoBulk d + 1
  | .slice elems spare => uptoBulkAll elems + uptoBulkAll spare + 1
  | .agg parts => uptoBulkAll parts + 1
  | .iface _ d => uptoBulk d + 1
  | .map entries => uptoBulkEntries entries + 1
  | .held _ => 1
def uptoBulkAll {H : Type} : List (DataW H) → Nat
  | [] => 0
  | d :: r => uptoBulk d + uptoBulkAll r
def uptoBulkEntries {H : Type} : List (Lit × DataW H) → Nat
  | [] => 0
  | x :: r => uptoBulkEntry x + uptoBulkEntries r
def uptoBulkEntry {H : Type} : Lit × DataW H → Nat
  | (.string bytes, d) => bytes.length + uptoBulk d + 1
  | (_, d) => uptoBulk d + 1
 end
def uptoSmall : (H : Type) → List (DataW H) → Bool := fun _ ds => decide (uptoBulkAll ds ≤ 1048576)
def OpenSpec.upto (s : _root_.Go.ChangeSpec) : _root_.Go.OpenSpec := { _root_.Go.OpenSpec.ofChange s with cond := some uptoSmall }

/-- 'spandrellaw11.EquValues', WHERE WHAT IT READS IS OF BULK AT MOST 1048576: true; the input reads as it did. -/
def equValuesUptoRow : OpenClaim := { program := "ytpbjlnlekobodaa", sum := "de9cd42fba4b277423026193b7d52879b43b99b341536e6052d2ff0fd3427297", func := "spandrel/spandrellaw11.EquValues", spec := "equValues", unfollowed := true, recurses := true, apart := false, narrowed := true }
def EquValuesUptoSaid : Prop := equValuesUptoRow.holds Try.pinned (OpenSpec.upto equValuesSpec)

/-- 'spandrellaw11.EquKept', WHERE WHAT IT READS IS OF BULK AT MOST 1048576: true; the input reads as it did. -/
def equKeptUptoRow : OpenClaim := { program := "ytpbjlnlekobodaa", sum := "de9cd42fba4b277423026193b7d52879b43b99b341536e6052d2ff0fd3427297", func := "spandrel/spandrellaw11.EquKept", spec := "equKept", unfollowed := true, recurses := true, apart := false, narrowed := true }
def EquKeptUptoSaid : Prop := equKeptUptoRow.holds Try.pinned (OpenSpec.upto equKeptSpec)

/-- 'spandrellaw11.EquNumbers', WHERE WHAT IT READS IS OF BULK AT MOST 1048576: true; the input reads as it did. -/
def equNumbersUptoRow : OpenClaim := { program := "ytpbjlnlekobodaa", sum := "de9cd42fba4b277423026193b7d52879b43b99b341536e6052d2ff0fd3427297", func := "spandrel/spandrellaw11.EquNumbers", spec := "equNumbers", unfollowed := true, recurses := true, apart := false, narrowed := true }
def EquNumbersUptoSaid : Prop := equNumbersUptoRow.holds Try.pinned (OpenSpec.upto equNumbersSpec)

/-- 'spandrellaw11.EquTurned', WHERE WHAT IT READS IS OF BULK AT MOST 1048576: true; the input reads as it did. -/
def equTurnedUptoRow : OpenClaim := { program := "ytpbjlnlekobodaa", sum := "de9cd42fba4b277423026193b7d52879b43b99b341536e6052d2ff0fd3427297", func := "spandrel/spandrellaw11.EquTurned", spec := "equTurned", unfollowed := true, recurses := true, apart := false, narrowed := true }
def EquTurnedUptoSaid : Prop := equTurnedUptoRow.holds Try.pinned (OpenSpec.upto equTurnedSpec)

end Rows
end Go.Proofs.Ytpbjlnlekobodaa
