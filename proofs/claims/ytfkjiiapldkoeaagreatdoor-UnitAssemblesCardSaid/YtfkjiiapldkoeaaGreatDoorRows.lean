/-
  NARROWER THAN 'FOR EVERY INPUT', by the rows' own cells (each row's printed sentence says how): UnitAssembles: laid · UnitNumbers: laid · UnitRight: laid · UnitKept: laid · UnitFine: laid · UnitMore: laid.
  DERIVED. THE GIVEN ROWS OF THIS SEAT. 6 by the template 'for every input the law returns true; each argument reads behind the call as it read before'; 0 by the template 'total and deterministic' (their statements: YtfkjiiapldkoeaaGreatDoorTotals.lean).
  GIVEN WITH THE SEED: the statements are not yours to turn. If you find one false, say at which input.
  Laid BY PROGRAM, IN A SANDBOX (cutbox-rows.mjs): the forced cells as the released guide's own fill.sh prints them over the translation 14314df0ccb6e542… (all of the seat's roots in one cut). By AI agents, Wed Nov 11 2026. No macro, syntax, notation, axiom, sorry.
-/
import Derived.Test.YtfkjiiapldkoeaaGreatDoorChecked
import GoSem.Claim
import GoSem.ClaimJoined
import GoSem.ClaimMapViews
import Derived.JoinedTies
import Derived.KernelRfl
namespace Go.Proofs.YtfkjiiapldkoeaaGreatDoor
/- THE CELL 'sum', in the pinned program and in every row, IS THE sha256 OF THE DUMP (.gsa) THAT YtfkjiiapldkoeaaGreatDoorProg.lean LOADS. Nothing in Lean hashes anything: it is a label: what it is worth is what the hold of that sum in a sandbox is worth. -/
noncomputable def Tryz.pinned : Pinned := { name := "ytfkjiiapldkoeaagreatdoor", sum := "14314df0ccb6e54212a90a596f3336cbd0ee6a9307b006ec81a64f02e5e9aa21", checked := Tryz.checked }
namespace Rows
def none {H : Type} : Left H := { results := [], args := [] }

/- WHAT THE LISTED PACKAGE-LEVEL VARIABLES READ AS WHEN THE CALL BEGINS. Each datum BY PROGRAM (the guide's laid-datum.mjs) off the statement by which the dump's own 'gosem.cut.vars' lays the variable. In a bare row this is a premise. The card (YtfkjiiapldkoeaaGreatDoorCards.lean) ties it to the program's text. -/
def laid_math_bits_deBruijn32tab {H : Type} : DataW H := .agg [.lit (.int .u8 0), .lit (.int .u8 1), .lit (.int .u8 28), .lit (.int .u8 2), .lit (.int .u8 29), .lit (.int .u8 14), .lit (.int .u8 24), .lit (.int .u8 3), .lit (.int .u8 30), .lit (.int .u8 22), .lit (.int .u8 20), .lit (.int .u8 15), .lit (.int .u8 25), .lit (.int .u8 17), .lit (.int .u8 4), .lit (.int .u8 8), .lit (.int .u8 31), .lit (.int .u8 27), .lit (.int .u8 13), .lit (.int .u8 23), .lit (.int .u8 21), .lit (.int .u8 19), .lit (.int .u8 16), .lit (.int .u8 7), .lit (.int .u8 26), .lit (.int .u8 12), .lit (.int .u8 18), .lit (.int .u8 6), .lit (.int .u8 11), .lit (.int .u8 5), .lit (.int .u8 10), .lit (.int .u8 9)]
def laid_math_bits_deBruijn64tab {H : Type} : DataW H := .agg [.lit (.int .u8 0), .lit (.int .u8 1), .lit (.int .u8 56), .lit (.int .u8 2), .lit (.int .u8 57), .lit (.int .u8 49), .lit (.int .u8 28), .lit (.int .u8 3), .lit (.int .u8 61), .lit (.int .u8 58), .lit (.int .u8 42), .lit (.int .u8 50), .lit (.int .u8 38), .lit (.int .u8 29), .lit (.int .u8 17), .lit (.int .u8 4), .lit (.int .u8 62), .lit (.int .u8 47), .lit (.int .u8 59), .lit (.int .u8 36), .lit (.int .u8 45), .lit (.int .u8 43), .lit (.int .u8 51), .lit (.int .u8 22), .lit (.int .u8 53), .lit (.int .u8 39), .lit (.int .u8 33), .lit (.int .u8 30), .lit (.int .u8 24), .lit (.int .u8 18), .lit (.int .u8 12), .lit (.int .u8 5), .lit (.int .u8 63), .lit (.int .u8 55), .lit (.int .u8 48), .lit (.int .u8 27), .lit (.int .u8 60), .lit (.int .u8 41), .lit (.int .u8 37), .lit (.int .u8 16), .lit (.int .u8 46), .lit (.int .u8 35), .lit (.int .u8 44), .lit (.int .u8 21), .lit (.int .u8 52), .lit (.int .u8 32), .lit (.int .u8 23), .lit (.int .u8 11), .lit (.int .u8 54), .lit (.int .u8 26), .lit (.int .u8 40), .lit (.int .u8 15), .lit (.int .u8 34), .lit (.int .u8 20), .lit (.int .u8 31), .lit (.int .u8 10), .lit (.int .u8 25), .lit (.int .u8 14), .lit (.int .u8 19), .lit (.int .u8 9), .lit (.int .u8 13), .lit (.int .u8 8), .lit (.int .u8 7), .lit (.int .u8 6)]
def laid_internal_strconv_uint64pow10 {H : Type} : DataW H := .agg [.lit (.int .u64 1), .lit (.int .u64 10), .lit (.int .u64 100), .lit (.int .u64 1000), .lit (.int .u64 10000), .lit (.int .u64 100000), .lit (.int .u64 1000000), .lit (.int .u64 10000000), .lit (.int .u64 100000000), .lit (.int .u64 1000000000), .lit (.int .u64 10000000000), .lit (.int .u64 100000000000), .lit (.int .u64 1000000000000), .lit (.int .u64 10000000000000), .lit (.int .u64 100000000000000), .lit (.int .u64 1000000000000000), .lit (.int .u64 10000000000000000), .lit (.int .u64 100000000000000000), .lit (.int .u64 1000000000000000000), .lit (.int .u64 10000000000000000000)]
def laid_spandrel_isa_table {H : Type} : DataW H := .agg [.agg [.lit (.string [110, 111, 112]), .lit (.int .u8 0), .lit (.int .i64 1)], .agg [.lit (.string [104, 97, 108, 116]), .lit (.int .u8 1), .lit (.int .i64 1)], .agg [.lit (.string [114, 101, 116]), .lit (.int .u8 2), .lit (.int .i64 1)], .agg [.lit (.string [112, 114, 105, 110, 116]), .lit (.int .u8 3), .lit (.int .i64 2)], .agg [.lit (.string [105, 110]), .lit (.int .u8 4), .lit (.int .i64 2)], .agg [.lit (.string [112, 117, 115, 104]), .lit (.int .u8 5), .lit (.int .i64 2)], .agg [.lit (.string [112, 111, 112]), .lit (.int .u8 6), .lit (.int .i64 2)], .agg [.lit (.string [106, 114]), .lit (.int .u8 7), .lit (.int .i64 2)], .agg [.lit (.string [110, 101, 103]), .lit (.int .u8 8), .lit (.int .i64 2)], .agg [.lit (.string [110, 111, 116]), .lit (.int .u8 9), .lit (.int .i64 2)], .agg [.lit (.string [122, 116, 117, 114, 110]), .lit (.int .u8 10), .lit (.int .i64 3)], .agg [.lit (.string [122, 99, 111, 110, 106]), .lit (.int .u8 11), .lit (.int .i64 3)], .agg [.lit (.string [109, 111, 118]), .lit (.int .u8 16), .lit (.int .i64 4)], .agg [.lit (.string [97, 100, 100]), .lit (.int .u8 17), .lit (.int .i64 4)], .agg [.lit (.string [115, 117, 98]), .lit (.int .u8 18), .lit (.int .i64 4)], .agg [.lit (.string [109, 117, 108]), .lit (.int .u8 19), .lit (.int .i64 4)], .agg [.lit (.string [100, 105, 118]), .lit (.int .u8 20), .lit (.int .i64 4)], .agg [.lit (.string [97, 110, 100]), .lit (.int .u8 21), .lit (.int .i64 4)], .agg [.lit (.string [111, 114]), .lit (.int .u8 22), .lit (.int .i64 4)], .agg [.lit (.string [120, 111, 114]), .lit (.int .u8 23), .lit (.int .i64 4)], .agg [.lit (.string [115, 104, 108]), .lit (.int .u8 24), .lit (.int .i64 4)], .agg [.lit (.string [115, 104, 114]), .lit (.int .u8 25), .lit (.int .i64 4)], .agg [.lit (.string [108, 116]), .lit (.int .u8 26), .lit (.int .i64 4)], .agg [.lit (.string [101, 113]), .lit (.int .u8 27), .lit (.int .i64 4)], .agg [.lit (.string [108, 100, 98]), .lit (.int .u8 28), .lit (.int .i64 4)], .agg [.lit (.string [108, 100, 119]), .lit (.int .u8 29), .lit (.int .i64 4)], .agg [.lit (.string [108, 100, 109]), .lit (.int .u8 30), .lit (.int .i64 4)], .agg [.lit (.string [115, 116, 109]), .lit (.int .u8 31), .lit (.int .i64 4)], .agg [.lit (.string [122, 109, 111, 118]), .lit (.int .u8 32), .lit (.int .i64 5)], .agg [.lit (.string [122, 97, 100, 100]), .lit (.int .u8 33), .lit (.int .i64 5)], .agg [.lit (.string [122, 115, 117, 98]), .lit (.int .u8 34), .lit (.int .i64 5)], .agg [.lit (.string [122, 109, 117, 108]), .lit (.int .u8 35), .lit (.int .i64 5)], .agg [.lit (.string [122, 114, 101]), .lit (.int .u8 36), .lit (.int .i64 6)], .agg [.lit (.string [122, 105, 109]), .lit (.int .u8 37), .lit (.int .i64 6)], .agg [.lit (.string [122, 115, 101, 116]), .lit (.int .u8 38), .lit (.int .i64 7)], .agg [.lit (.string [108, 105, 115]), .lit (.int .u8 48), .lit (.int .i64 8)], .agg [.lit (.string [116, 114, 97, 112]), .lit (.int .u8 49), .lit (.int .i64 9)], .agg [.lit (.string [108, 105]), .lit (.int .u8 50), .lit (.int .i64 10)], .agg [.lit (.string [108, 100, 112]), .lit (.int .u8 51), .lit (.int .i64 11)], .agg [.lit (.string [106, 109, 112]), .lit (.int .u8 64), .lit (.int .i64 12)], .agg [.lit (.string [99, 97, 108, 108]), .lit (.int .u8 67), .lit (.int .i64 12)], .agg [.lit (.string [106, 122]), .lit (.int .u8 70), .lit (.int .i64 13)], .agg [.lit (.string [106, 110, 122]), .lit (.int .u8 73), .lit (.int .i64 13)]]
def laid_strconv_ErrRange {H : Type} : DataW H := .iface "*errors.errorString" (.ptr (.agg [.lit (.string [118, 97, 108, 117, 101, 32, 111, 117, 116, 32, 111, 102, 32, 114, 97, 110, 103, 101])]))
def laid_strconv_ErrSyntax {H : Type} : DataW H := .iface "*errors.errorString" (.ptr (.agg [.lit (.string [105, 110, 118, 97, 108, 105, 100, 32, 115, 121, 110, 116, 97, 120])]))
def laid_errors_errorType {H : Type} : DataW H := .iface "internal/reflectlite.rtype" (.agg [.ptr (.lit (.string [101, 114, 114, 111, 114]))])

/-- 'spandrellaw9.UnitAssembles': WHATEVER THE INPUT: true; the input reads as it did. -/
def unitAssemblesSpec : ChangeSpec := { name := "unitAssembles", fn := fun _ => fun
  | [d] => { results := [.lit (.bool true)], args := [d] }
  | _ => none }
def unitAssemblesRow : OpenClaim := { program := "ytfkjiiapldkoeaagreatdoor", sum := "14314df0ccb6e54212a90a596f3336cbd0ee6a9307b006ec81a64f02e5e9aa21", func := "spandrel/spandrellaw9.UnitAssembles", spec := "unitAssembles", inPlace := ["internal/bytealg.IndexByteString", "internal/bytealg.IndexString", "internal/reflectlite.TypeOf"], unfollowed := true, recurses := true, named := ["internal/bytealg.MaxLen", "strconv.ErrSyntax", "strconv.ErrRange", "internal/strconv.uint64pow10", "math/bits.deBruijn32tab", "math/bits.deBruijn64tab", "spandrel/isa.table"], apart := false, laid := [("math/bits.deBruijn32tab", laid_math_bits_deBruijn32tab), ("math/bits.deBruijn64tab", laid_math_bits_deBruijn64tab), ("internal/strconv.uint64pow10", laid_internal_strconv_uint64pow10), ("spandrel/isa.table", laid_spandrel_isa_table), ("strconv.ErrRange", laid_strconv_ErrRange), ("strconv.ErrSyntax", laid_strconv_ErrSyntax)] }
def UnitAssemblesSaid : Prop := unitAssemblesRow.holds Tryz.pinned (OpenSpec.ofChange unitAssemblesSpec)

/-- ITS FALSE NEIGHBOUR: 'it returns false'. Refute it at one input. -/
def unitAssemblesWrong : ChangeSpec := { name := "unitAssembles", fn := fun _ => fun
  | [d] => { results := [.lit (.bool false)], args := [d] }
  | _ => none }
def UnitAssemblesWrongFalsely : Prop := unitAssemblesRow.holds Tryz.pinned (OpenSpec.ofChange unitAssemblesWrong)

/-- 'spandrellaw9.UnitNumbers': WHATEVER THE INPUT: true; the input reads as it did. -/
def unitNumbersSpec : ChangeSpec := { name := "unitNumbers", fn := fun _ => fun
  | [] => { results := [.lit (.bool true)], args := [] }
  | _ => none }
def unitNumbersRow : OpenClaim := { program := "ytfkjiiapldkoeaagreatdoor", sum := "14314df0ccb6e54212a90a596f3336cbd0ee6a9307b006ec81a64f02e5e9aa21", func := "spandrel/spandrellaw9.UnitNumbers", spec := "unitNumbers", inPlace := ["internal/bytealg.IndexByteString", "internal/bytealg.IndexString", "internal/reflectlite.TypeOf"], unfollowed := true, recurses := true, named := ["internal/bytealg.MaxLen", "strconv.ErrSyntax", "strconv.ErrRange", "internal/strconv.uint64pow10", "math/bits.deBruijn32tab", "math/bits.deBruijn64tab", "spandrel/isa.table"], apart := false, laid := [("math/bits.deBruijn32tab", laid_math_bits_deBruijn32tab), ("math/bits.deBruijn64tab", laid_math_bits_deBruijn64tab), ("internal/strconv.uint64pow10", laid_internal_strconv_uint64pow10), ("spandrel/isa.table", laid_spandrel_isa_table), ("strconv.ErrRange", laid_strconv_ErrRange), ("strconv.ErrSyntax", laid_strconv_ErrSyntax)] }
def UnitNumbersSaid : Prop := unitNumbersRow.holds Tryz.pinned (OpenSpec.ofChange unitNumbersSpec)

/-- ITS FALSE NEIGHBOUR: 'it returns false'. Refute it at one input. -/
def unitNumbersWrong : ChangeSpec := { name := "unitNumbers", fn := fun _ => fun
  | [] => { results := [.lit (.bool false)], args := [] }
  | _ => none }
def UnitNumbersWrongFalsely : Prop := unitNumbersRow.holds Tryz.pinned (OpenSpec.ofChange unitNumbersWrong)

/-- 'spandrellaw9.UnitRight': WHATEVER THE INPUT: true; the input reads as it did. -/
def unitRightSpec : ChangeSpec := { name := "unitRight", fn := fun _ => fun
  | [d] => { results := [.lit (.bool true)], args := [d] }
  | _ => none }
def unitRightRow : OpenClaim := { program := "ytfkjiiapldkoeaagreatdoor", sum := "14314df0ccb6e54212a90a596f3336cbd0ee6a9307b006ec81a64f02e5e9aa21", func := "spandrel/spandrellaw9.UnitRight", spec := "unitRight", inPlace := ["internal/bytealg.IndexByteString", "internal/bytealg.IndexString", "internal/reflectlite.TypeOf"], unfollowed := true, recurses := true, named := ["internal/bytealg.MaxLen", "strconv.ErrSyntax", "strconv.ErrRange", "internal/strconv.uint64pow10", "math/bits.deBruijn32tab", "math/bits.deBruijn64tab", "spandrel/isa.table"], apart := false, laid := [("math/bits.deBruijn32tab", laid_math_bits_deBruijn32tab), ("math/bits.deBruijn64tab", laid_math_bits_deBruijn64tab), ("internal/strconv.uint64pow10", laid_internal_strconv_uint64pow10), ("spandrel/isa.table", laid_spandrel_isa_table), ("strconv.ErrRange", laid_strconv_ErrRange), ("strconv.ErrSyntax", laid_strconv_ErrSyntax)] }
def UnitRightSaid : Prop := unitRightRow.holds Tryz.pinned (OpenSpec.ofChange unitRightSpec)

/-- ITS FALSE NEIGHBOUR: 'it returns false'. Refute it at one input. -/
def unitRightWrong : ChangeSpec := { name := "unitRight", fn := fun _ => fun
  | [d] => { results := [.lit (.bool false)], args := [d] }
  | _ => none }
def UnitRightWrongFalsely : Prop := unitRightRow.holds Tryz.pinned (OpenSpec.ofChange unitRightWrong)

/-- 'spandrellaw9.UnitKept': WHATEVER THE INPUT: true; the input reads as it did. -/
def unitKeptSpec : ChangeSpec := { name := "unitKept", fn := fun _ => fun
  | [d] => { results := [.lit (.bool true)], args := [d] }
  | _ => none }
def unitKeptRow : OpenClaim := { program := "ytfkjiiapldkoeaagreatdoor", sum := "14314df0ccb6e54212a90a596f3336cbd0ee6a9307b006ec81a64f02e5e9aa21", func := "spandrel/spandrellaw9.UnitKept", spec := "unitKept", inPlace := ["internal/bytealg.IndexByteString", "internal/bytealg.IndexString", "internal/reflectlite.TypeOf"], unfollowed := true, recurses := true, named := ["internal/bytealg.MaxLen", "strconv.ErrSyntax", "strconv.ErrRange", "internal/strconv.uint64pow10", "math/bits.deBruijn32tab", "math/bits.deBruijn64tab", "spandrel/isa.table"], apart := false, laid := [("math/bits.deBruijn32tab", laid_math_bits_deBruijn32tab), ("math/bits.deBruijn64tab", laid_math_bits_deBruijn64tab), ("internal/strconv.uint64pow10", laid_internal_strconv_uint64pow10), ("spandrel/isa.table", laid_spandrel_isa_table), ("strconv.ErrRange", laid_strconv_ErrRange), ("strconv.ErrSyntax", laid_strconv_ErrSyntax)] }
def UnitKeptSaid : Prop := unitKeptRow.holds Tryz.pinned (OpenSpec.ofChange unitKeptSpec)

/-- ITS FALSE NEIGHBOUR: 'it returns false'. Refute it at one input. -/
def unitKeptWrong : ChangeSpec := { name := "unitKept", fn := fun _ => fun
  | [d] => { results := [.lit (.bool false)], args := [d] }
  | _ => none }
def UnitKeptWrongFalsely : Prop := unitKeptRow.holds Tryz.pinned (OpenSpec.ofChange unitKeptWrong)

/-- 'spandrellaw9.UnitFine': WHATEVER THE INPUT: true; the input reads as it did. -/
def unitFineSpec : ChangeSpec := { name := "unitFine", fn := fun _ => fun
  | [d1, d2] => { results := [.lit (.bool true)], args := [d1, d2] }
  | _ => none }
def unitFineRow : OpenClaim := { program := "ytfkjiiapldkoeaagreatdoor", sum := "14314df0ccb6e54212a90a596f3336cbd0ee6a9307b006ec81a64f02e5e9aa21", func := "spandrel/spandrellaw9.UnitFine", spec := "unitFine", inPlace := ["internal/bytealg.IndexByteString", "internal/bytealg.IndexString", "internal/reflectlite.ValueOf", "(internal/reflectlite.Value).Type", "(internal/reflectlite.Value).IsNil", "internal/reflectlite.TypeOf", "(internal/reflectlite.Value).Elem", "(internal/reflectlite.Value).Set"], unfollowed := true, recurses := true, named := ["internal/bytealg.MaxLen", "strconv.ErrSyntax", "strconv.ErrRange", "internal/strconv.uint64pow10", "math/bits.deBruijn32tab", "math/bits.deBruijn64tab", "spandrel/isa.table", "errors.errorType"], apart := false, laid := [("math/bits.deBruijn32tab", laid_math_bits_deBruijn32tab), ("math/bits.deBruijn64tab", laid_math_bits_deBruijn64tab), ("internal/strconv.uint64pow10", laid_internal_strconv_uint64pow10), ("spandrel/isa.table", laid_spandrel_isa_table), ("errors.errorType", laid_errors_errorType), ("strconv.ErrRange", laid_strconv_ErrRange), ("strconv.ErrSyntax", laid_strconv_ErrSyntax)] }
def UnitFineSaid : Prop := unitFineRow.holds Tryz.pinned (OpenSpec.ofChange unitFineSpec)

/-- ITS FALSE NEIGHBOUR: 'it returns false'. Refute it at one input. -/
def unitFineWrong : ChangeSpec := { name := "unitFine", fn := fun _ => fun
  | [d1, d2] => { results := [.lit (.bool false)], args := [d1, d2] }
  | _ => none }
def UnitFineWrongFalsely : Prop := unitFineRow.holds Tryz.pinned (OpenSpec.ofChange unitFineWrong)

/-- 'spandrellaw9.UnitMore': WHATEVER THE INPUT: true; the input reads as it did. -/
def unitMoreSpec : ChangeSpec := { name := "unitMore", fn := fun _ => fun
  | [d1, d2] => { results := [.lit (.bool true)], args := [d1, d2] }
  | _ => none }
def unitMoreRow : OpenClaim := { program := "ytfkjiiapldkoeaagreatdoor", sum := "14314df0ccb6e54212a90a596f3336cbd0ee6a9307b006ec81a64f02e5e9aa21", func := "spandrel/spandrellaw9.UnitMore", spec := "unitMore", inPlace := ["internal/bytealg.IndexByteString", "internal/bytealg.IndexString", "internal/reflectlite.ValueOf", "(internal/reflectlite.Value).Type", "(internal/reflectlite.Value).IsNil", "internal/reflectlite.TypeOf", "(internal/reflectlite.Value).Elem", "(internal/reflectlite.Value).Set"], unfollowed := true, recurses := true, named := ["internal/bytealg.MaxLen", "strconv.ErrSyntax", "strconv.ErrRange", "internal/strconv.uint64pow10", "math/bits.deBruijn32tab", "math/bits.deBruijn64tab", "spandrel/isa.table", "errors.errorType"], apart := false, laid := [("math/bits.deBruijn32tab", laid_math_bits_deBruijn32tab), ("math/bits.deBruijn64tab", laid_math_bits_deBruijn64tab), ("internal/strconv.uint64pow10", laid_internal_strconv_uint64pow10), ("spandrel/isa.table", laid_spandrel_isa_table), ("errors.errorType", laid_errors_errorType), ("strconv.ErrRange", laid_strconv_ErrRange), ("strconv.ErrSyntax", laid_strconv_ErrSyntax)] }
def UnitMoreSaid : Prop := unitMoreRow.holds Tryz.pinned (OpenSpec.ofChange unitMoreSpec)

/-- ITS FALSE NEIGHBOUR: 'it returns false'. Refute it at one input. -/
def unitMoreWrong : ChangeSpec := { name := "unitMore", fn := fun _ => fun
  | [d1, d2] => { results := [.lit (.bool false)], args := [d1, d2] }
  | _ => none }
def UnitMoreWrongFalsely : Prop := unitMoreRow.holds Tryz.pinned (OpenSpec.ofChange unitMoreWrong)

/- THE SECOND FORM. 'bulk': how many values and letters a reading holds, each counted each time it is reached (what is shared counts as often as it is met; a slice's spare places count too). A statement '..UptoSaid' is the law's where the arguments, and the package variables that the reading takes, are together of bulk at most 1048576: NARROWER than '..Said'. Prove '..Said' where nothing that the law and all that it calls make is longer than what came in: it says more and counts as full. Else prove '..UptoSaid'. A law counts once. -/
mutual
def uptoBulk {H : Type} : DataW H → Nat
  | .lit (.string bytes) => bytes.length + 1
  | .lit _ => 1
  | .nil => 1
  | .ptr d => uptoBulk d + 1
  | .slice elems spare => uptoBulkAll elems + uptoBulkAll spare + 1
  | .agg parts => uptoBulkAll parts + 1
  | .iface _ d => uptoBulk d + 1
  | .map entries => uptoBulkEntries entries + 1
  | .held _ => 1
def uptoBulkAll {H : Type} : List (DataW H) → Nat
  | [] => 0
  | d :: r => uptoBulk d + uptoBulkAll r
def uptoBulkEntries {H : Type} : List (Lit × DataW H) → Nat
  | [] => 0
  | x :: r => uptoBulkEntry x + uptoBulkEntries r
def uptoBulkEntry {H : Type} : Lit × DataW H → Nat
  | (.string bytes, d) => bytes.length + uptoBulk d + 1
  | (_, d) => uptoBulk d + 1
 end
def uptoSmall : (H : Type) → List (DataW H) → Bool := fun _ ds => decide (uptoBulkAll ds ≤ 1048576)
def OpenSpec.upto (s : _root_.Go.ChangeSpec) : _root_.Go.OpenSpec := { _root_.Go.OpenSpec.ofChange s with cond := some uptoSmall }

/-- 'spandrellaw9.UnitAssembles', WHERE WHAT IT READS IS OF BULK AT MOST 1048576: true; the input reads as it did. -/
def unitAssemblesUptoRow : OpenClaim := { program := "ytfkjiiapldkoeaagreatdoor", sum := "14314df0ccb6e54212a90a596f3336cbd0ee6a9307b006ec81a64f02e5e9aa21", func := "spandrel/spandrellaw9.UnitAssembles", spec := "unitAssembles", inPlace := ["internal/bytealg.IndexByteString", "internal/bytealg.IndexString", "internal/reflectlite.TypeOf"], unfollowed := true, recurses := true, named := ["internal/bytealg.MaxLen", "strconv.ErrSyntax", "strconv.ErrRange", "internal/strconv.uint64pow10", "math/bits.deBruijn32tab", "math/bits.deBruijn64tab", "spandrel/isa.table"], apart := false, laid := [("math/bits.deBruijn32tab", laid_math_bits_deBruijn32tab), ("math/bits.deBruijn64tab", laid_math_bits_deBruijn64tab), ("internal/strconv.uint64pow10", laid_internal_strconv_uint64pow10), ("spandrel/isa.table", laid_spandrel_isa_table), ("strconv.ErrRange", laid_strconv_ErrRange), ("strconv.ErrSyntax", laid_strconv_ErrSyntax)], narrowed := true }
def UnitAssemblesUptoSaid : Prop := unitAssemblesUptoRow.holds Tryz.pinned (OpenSpec.upto unitAssemblesSpec)

/-- 'spandrellaw9.UnitNumbers', WHERE WHAT IT READS IS OF BULK AT MOST 1048576: true; the input reads as it did. -/
def unitNumbersUptoRow : OpenClaim := { program := "ytfkjiiapldkoeaagreatdoor", sum := "14314df0ccb6e54212a90a596f3336cbd0ee6a9307b006ec81a64f02e5e9aa21", func := "spandrel/spandrellaw9.UnitNumbers", spec := "unitNumbers", inPlace := ["internal/bytealg.IndexByteString", "internal/bytealg.IndexString", "internal/reflectlite.TypeOf"], unfollowed := true, recurses := true, named := ["internal/bytealg.MaxLen", "strconv.ErrSyntax", "strconv.ErrRange", "internal/strconv.uint64pow10", "math/bits.deBruijn32tab", "math/bits.deBruijn64tab", "spandrel/isa.table"], apart := false, laid := [("math/bits.deBruijn32tab", laid_math_bits_deBruijn32tab), ("math/bits.deBruijn64tab", laid_math_bits_deBruijn64tab), ("internal/strconv.uint64pow10", laid_internal_strconv_uint64pow10), ("spandrel/isa.table", laid_spandrel_isa_table), ("strconv.ErrRange", laid_strconv_ErrRange), ("strconv.ErrSyntax", laid_strconv_ErrSyntax)], narrowed := true }
def UnitNumbersUptoSaid : Prop := unitNumbersUptoRow.holds Tryz.pinned (OpenSpec.upto unitNumbersSpec)

/-- 'spandrellaw9.UnitRight', WHERE WHAT IT READS IS OF BULK AT MOST 1048576: true; the input reads as it did. -/
def unitRightUptoRow : OpenClaim := { program := "ytfkjiiapldkoeaagreatdoor", sum := "14314df0ccb6e54212a90a596f3336cbd0ee6a9307b006ec81a64f02e5e9aa21", func := "spandrel/spandrellaw9.UnitRight", spec := "unitRight", inPlace := ["internal/bytealg.IndexByteString", "internal/bytealg.IndexString", "internal/reflectlite.TypeOf"], unfollowed := true, recurses := true, named := ["internal/bytealg.MaxLen", "strconv.ErrSyntax", "strconv.ErrRange", "internal/strconv.uint64pow10", "math/bits.deBruijn32tab", "math/bits.deBruijn64tab", "spandrel/isa.table"], apart := false, laid := [("math/bits.deBruijn32tab", laid_math_bits_deBruijn32tab), ("math/bits.deBruijn64tab", laid_math_bits_deBruijn64tab), ("internal/strconv.uint64pow10", laid_internal_strconv_uint64pow10), ("spandrel/isa.table", laid_spandrel_isa_table), ("strconv.ErrRange", laid_strconv_ErrRange), ("strconv.ErrSyntax", laid_strconv_ErrSyntax)], narrowed := true }
def UnitRightUptoSaid : Prop := unitRightUptoRow.holds Tryz.pinned (OpenSpec.upto unitRightSpec)

/-- 'spandrellaw9.UnitKept', WHERE WHAT IT READS IS OF BULK AT MOST 1048576: true; the input reads as it did. -/
def unitKeptUptoRow : OpenClaim := { program := "ytfkjiiapldkoeaagreatdoor", sum := "14314df0ccb6e54212a90a596f3336cbd0ee6a9307b006ec81a64f02e5e9aa21", func := "spandrel/spandrellaw9.UnitKept", spec := "unitKept", inPlace := ["internal/bytealg.IndexByteString", "internal/bytealg.IndexString", "internal/reflectlite.TypeOf"], unfollowed := true, recurses := true, named := ["internal/bytealg.MaxLen", "strconv.ErrSyntax", "strconv.ErrRange", "internal/strconv.uint64pow10", "math/bits.deBruijn32tab", "math/bits.deBruijn64tab", "spandrel/isa.table"], apart := false, laid := [("math/bits.deBruijn32tab", laid_math_bits_deBruijn32tab), ("math/bits.deBruijn64tab", laid_math_bits_deBruijn64tab), ("internal/strconv.uint64pow10", laid_internal_strconv_uint64pow10), ("spandrel/isa.table", laid_spandrel_isa_table), ("strconv.ErrRange", laid_strconv_ErrRange), ("strconv.ErrSyntax", laid_strconv_ErrSyntax)], narrowed := true }
def UnitKeptUptoSaid : Prop := unitKeptUptoRow.holds Tryz.pinned (OpenSpec.upto unitKeptSpec)

/-- 'spandrellaw9.UnitFine', WHERE WHAT IT READS IS OF BULK AT MOST 1048576: true; the input reads as it did. -/
def unitFineUptoRow : OpenClaim := { program := "ytfkjiiapldkoeaagreatdoor", sum := "14314df0ccb6e54212a90a596f3336cbd0ee6a9307b006ec81a64f02e5e9aa21", func := "spandrel/spandrellaw9.UnitFine", spec := "unitFine", inPlace := ["internal/bytealg.IndexByteString", "internal/bytealg.IndexString", "internal/reflectlite.ValueOf", "(internal/reflectlite.Value).Type", "(internal/reflectlite.Value).IsNil", "internal/reflectlite.TypeOf", "(internal/reflectlite.Value).Elem", "(internal/reflectlite.Value).Set"], unfollowed := true, recurses := true, named := ["internal/bytealg.MaxLen", "strconv.ErrSyntax", "strconv.ErrRange", "internal/strconv.uint64pow10", "math/bits.deBruijn32tab", "math/bits.deBruijn64tab", "spandrel/isa.table", "errors.errorType"], apart := false, laid := [("math/bits.deBruijn32tab", laid_math_bits_deBruijn32tab), ("math/bits.deBruijn64tab", laid_math_bits_deBruijn64tab), ("internal/strconv.uint64pow10", laid_internal_strconv_uint64pow10), ("spandrel/isa.table", laid_spandrel_isa_table), ("errors.errorType", laid_errors_errorType), ("strconv.ErrRange", laid_strconv_ErrRange), ("strconv.ErrSyntax", laid_strconv_ErrSyntax)], narrowed := true }
def UnitFineUptoSaid : Prop := unitFineUptoRow.holds Tryz.pinned (OpenSpec.upto unitFineSpec)

/-- 'spandrellaw9.UnitMore', WHERE WHAT IT READS IS OF BULK AT MOST 1048576: true; the input reads as it did. -/
def unitMoreUptoRow : OpenClaim := { program := "ytfkjiiapldkoeaagreatdoor", sum := "14314df0ccb6e54212a90a596f3336cbd0ee6a9307b006ec81a64f02e5e9aa21", func := "spandrel/spandrellaw9.UnitMore", spec := "unitMore", inPlace := ["internal/bytealg.IndexByteString", "internal/bytealg.IndexString", "internal/reflectlite.ValueOf", "(internal/reflectlite.Value).Type", "(internal/reflectlite.Value).IsNil", "internal/reflectlite.TypeOf", "(internal/reflectlite.Value).Elem", "(internal/reflectlite.Value).Set"], unfollowed := true, recurses := true, named := ["internal/bytealg.MaxLen", "strconv.ErrSyntax", "strconv.ErrRange", "internal/strconv.uint64pow10", "math/bits.deBruijn32tab", "math/bits.deBruijn64tab", "spandrel/isa.table", "errors.errorType"], apart := false, laid := [("math/bits.deBruijn32tab", laid_math_bits_deBruijn32tab), ("math/bits.deBruijn64tab", laid_math_bits_deBruijn64tab), ("internal/strconv.uint64pow10", laid_internal_strconv_uint64pow10), ("spandrel/isa.table", laid_spandrel_isa_table), ("errors.errorType", laid_errors_errorType), ("strconv.ErrRange", laid_strconv_ErrRange), ("strconv.ErrSyntax", laid_strconv_ErrSyntax)], narrowed := true }
def UnitMoreUptoSaid : Prop := unitMoreUptoRow.holds Tryz.pinned (OpenSpec.upto unitMoreSpec)

end Rows
end Go.Proofs.YtfkjiiapldkoeaaGreatDoor
