/-
  NARROWER THAN 'FOR EVERY INPUT', by the rows' own cells (each row's printed sentence says how): ItemReads: laid · ItemKept: laid · ItemNumbers: laid · ItemRight: laid · ItemFine: laid.
  DERIVED. THE GIVEN ROWS OF THIS SEAT. 5 by the template 'for every input the law returns true; each argument reads behind the call as it read before'; 0 by the template 'total and deterministic' (their statements: YtgnhjkofpmchpaaGreatDoorTotals.lean).
  GIVEN WITH THE SEED: the statements are not yours to turn. If you find one false, say at which input.
  Laid BY PROGRAM, IN A SANDBOX (cutbox-rows.mjs): the forced cells as the released guide's own fill.sh prints them over the translation fa311674ed9b7221… (all of the seat's roots in one cut). By AI agents, Wed Nov 11 2026. No macro, syntax, notation, axiom, sorry.
-/
import Derived.Test.YtgnhjkofpmchpaaGreatDoorChecked
import GoSem.Claim
import GoSem.ClaimJoined
import GoSem.ClaimMapViews
import Derived.JoinedTies
import Derived.KernelRfl
namespace Go.Proofs.YtgnhjkofpmchpaaGreatDoor
/- THE CELL 'sum', in the pinned program and in every row, IS THE sha256 OF THE DUMP (.gsa) THAT YtgnhjkofpmchpaaGreatDoorProg.lean LOADS. Nothing in Lean hashes anything: it is a label: what it is worth is what the hold of that sum in a sandbox is worth. -/
noncomputable def Tryz.pinned : Pinned := { name := "ytgnhjkofpmchpaagreatdoor", sum := "fa311674ed9b7221424cb1d5f760433613af011aba0ccf6f09e6befbf7cfe87b", checked := Tryz.checked }
namespace Rows
def none {H : Type} : Left H := { results := [], args := [] }

/- WHAT THE LISTED PACKAGE-LEVEL VARIABLES READ AS WHEN THE CALL BEGINS. Each datum BY PROGRAM (the guide's laid-datum.mjs) off the statement by which the dump's own 'gosem.cut.vars' lays the variable. In a bare row this is a premise. The card (YtgnhjkofpmchpaaGreatDoorCards.lean) ties it to the program's text. -/
def laid_math_bits_deBruijn32tab {H : Type} : DataW H := .agg [.lit (.int .u8 0), .lit (.int .u8 1), .lit (.int .u8 28), .lit (.int .u8 2), .lit (.int .u8 29), .lit (.int .u8 14), .lit (.int .u8 24), .lit (.int .u8 3), .lit (.int .u8 30), .lit (.int .u8 22), .lit (.int .u8 20), .lit (.int .u8 15), .lit (.int .u8 25), .lit (.int .u8 17), .lit (.int .u8 4), .lit (.int .u8 8), .lit (.int .u8 31), .lit (.int .u8 27), .lit (.int .u8 13), .lit (.int .u8 23), .lit (.int .u8 21), .lit (.int .u8 19), .lit (.int .u8 16), .lit (.int .u8 7), .lit (.int .u8 26), .lit (.int .u8 12), .lit (.int .u8 18), .lit (.int .u8 6), .lit (.int .u8 11), .lit (.int .u8 5), .lit (.int .u8 10), .lit (.int .u8 9)]
def laid_math_bits_deBruijn64tab {H : Type} : DataW H := .agg [.lit (.int .u8 0), .lit (.int .u8 1), .lit (.int .u8 56), .lit (.int .u8 2), .lit (.int .u8 57), .lit (.int .u8 49), .lit (.int .u8 28), .lit (.int .u8 3), .lit (.int .u8 61), .lit (.int .u8 58), .lit (.int .u8 42), .lit (.int .u8 50), .lit (.int .u8 38), .lit (.int .u8 29), .lit (.int .u8 17), .lit (.int .u8 4), .lit (.int .u8 62), .lit (.int .u8 47), .lit (.int .u8 59), .lit (.int .u8 36), .lit (.int .u8 45), .lit (.int .u8 43), .lit (.int .u8 51), .lit (.int .u8 22), .lit (.int .u8 53), .lit (.int .u8 39), .lit (.int .u8 33), .lit (.int .u8 30), .lit (.int .u8 24), .lit (.int .u8 18), .lit (.int .u8 12), .lit (.int .u8 5), .lit (.int .u8 63), .lit (.int .u8 55), .lit (.int .u8 48), .lit (.int .u8 27), .lit (.int .u8 60), .lit (.int .u8 41), .lit (.int .u8 37), .lit (.int .u8 16), .lit (.int .u8 46), .lit (.int .u8 35), .lit (.int .u8 44), .lit (.int .u8 21), .lit (.int .u8 52), .lit (.int .u8 32), .lit (.int .u8 23), .lit (.int .u8 11), .lit (.int .u8 54), .lit (.int .u8 26), .lit (.int .u8 40), .lit (.int .u8 15), .lit (.int .u8 34), .lit (.int .u8 20), .lit (.int .u8 31), .lit (.int .u8 10), .lit (.int .u8 25), .lit (.int .u8 14), .lit (.int .u8 19), .lit (.int .u8 9), .lit (.int .u8 13), .lit (.int .u8 8), .lit (.int .u8 7), .lit (.int .u8 6)]
def laid_internal_strconv_uint64pow10 {H : Type} : DataW H := .agg [.lit (.int .u64 1), .lit (.int .u64 10), .lit (.int .u64 100), .lit (.int .u64 1000), .lit (.int .u64 10000), .lit (.int .u64 100000), .lit (.int .u64 1000000), .lit (.int .u64 10000000), .lit (.int .u64 100000000), .lit (.int .u64 1000000000), .lit (.int .u64 10000000000), .lit (.int .u64 100000000000), .lit (.int .u64 1000000000000), .lit (.int .u64 10000000000000), .lit (.int .u64 100000000000000), .lit (.int .u64 1000000000000000), .lit (.int .u64 10000000000000000), .lit (.int .u64 100000000000000000), .lit (.int .u64 1000000000000000000), .lit (.int .u64 10000000000000000000)]
def laid_spandrel_isa_table {H : Type} : DataW H := .agg [.agg [.lit (.string [110, 111, 112]), .lit (.int .u8 0), .lit (.int .i64 1)], .agg [.lit (.string [104, 97, 108, 116]), .lit (.int .u8 1), .lit (.int .i64 1)], .agg [.lit (.string [114, 101, 116]), .lit (.int .u8 2), .lit (.int .i64 1)], .agg [.lit (.string [112, 114, 105, 110, 116]), .lit (.int .u8 3), .lit (.int .i64 2)], .agg [.lit (.string [105, 110]), .lit (.int .u8 4), .lit (.int .i64 2)], .agg [.lit (.string [112, 117, 115, 104]), .lit (.int .u8 5), .lit (.int .i64 2)], .agg [.lit (.string [112, 111, 112]), .lit (.int .u8 6), .lit (.int .i64 2)], .agg [.lit (.string [106, 114]), .lit (.int .u8 7), .lit (.int .i64 2)], .agg [.lit (.string [110, 101, 103]), .lit (.int .u8 8), .lit (.int .i64 2)], .agg [.lit (.string [110, 111, 116]), .lit (.int .u8 9), .lit (.int .i64 2)], .agg [.lit (.string [122, 116, 117, 114, 110]), .lit (.int .u8 10), .lit (.int .i64 3)], .agg [.lit (.string [122, 99, 111, 110, 106]), .lit (.int .u8 11), .lit (.int .i64 3)], .agg [.lit (.string [109, 111, 118]), .lit (.int .u8 16), .lit (.int .i64 4)], .agg [.lit (.string [97, 100, 100]), .lit (.int .u8 17), .lit (.int .i64 4)], .agg [.lit (.string [115, 117, 98]), .lit (.int .u8 18), .lit (.int .i64 4)], .agg [.lit (.string [109, 117, 108]), .lit (.int .u8 19), .lit (.int .i64 4)], .agg [.lit (.string [100, 105, 118]), .lit (.int .u8 20), .lit (.int .i64 4)], .agg [.lit (.string [97, 110, 100]), .lit (.int .u8 21), .lit (.int .i64 4)], .agg [.lit (.string [111, 114]), .lit (.int .u8 22), .lit (.int .i64 4)], .agg [.lit (.string [120, 111, 114]), .lit (.int .u8 23), .lit (.int .i64 4)], .agg [.lit (.string [115, 104, 108]), .lit (.int .u8 24), .lit (.int .i64 4)], .agg [.lit (.string [115, 104, 114]), .lit (.int .u8 25), .lit (.int .i64 4)], .agg [.lit (.string [108, 116]), .lit (.int .u8 26), .lit (.int .i64 4)], .agg [.lit (.string [101, 113]), .lit (.int .u8 27), .lit (.int .i64 4)], .agg [.lit (.string [108, 100, 98]), .lit (.int .u8 28), .lit (.int .i64 4)], .agg [.lit (.string [108, 100, 119]), .lit (.int .u8 29), .lit (.int .i64 4)], .agg [.lit (.string [108, 100, 109]), .lit (.int .u8 30), .lit (.int .i64 4)], .agg [.lit (.string [115, 116, 109]), .lit (.int .u8 31), .lit (.int .i64 4)], .agg [.lit (.string [122, 109, 111, 118]), .lit (.int .u8 32), .lit (.int .i64 5)], .agg [.lit (.string [122, 97, 100, 100]), .lit (.int .u8 33), .lit (.int .i64 5)], .agg [.lit (.string [122, 115, 117, 98]), .lit (.int .u8 34), .lit (.int .i64 5)], .agg [.lit (.string [122, 109, 117, 108]), .lit (.int .u8 35), .lit (.int .i64 5)], .agg [.lit (.string [122, 114, 101]), .lit (.int .u8 36), .lit (.int .i64 6)], .agg [.lit (.string [122, 105, 109]), .lit (.int .u8 37), .lit (.int .i64 6)], .agg [.lit (.string [122, 115, 101, 116]), .lit (.int .u8 38), .lit (.int .i64 7)], .agg [.lit (.string [108, 105, 115]), .lit (.int .u8 48), .lit (.int .i64 8)], .agg [.lit (.string [116, 114, 97, 112]), .lit (.int .u8 49), .lit (.int .i64 9)], .agg [.lit (.string [108, 105]), .lit (.int .u8 50), .lit (.int .i64 10)], .agg [.lit (.string [108, 100, 112]), .lit (.int .u8 51), .lit (.int .i64 11)], .agg [.lit (.string [106, 109, 112]), .lit (.int .u8 64), .lit (.int .i64 12)], .agg [.lit (.string [99, 97, 108, 108]), .lit (.int .u8 67), .lit (.int .i64 12)], .agg [.lit (.string [106, 122]), .lit (.int .u8 70), .lit (.int .i64 13)], .agg [.lit (.string [106, 110, 122]), .lit (.int .u8 73), .lit (.int .i64 13)]]
def laid_strconv_ErrRange {H : Type} : DataW H := .iface "*errors.errorString" (.ptr (.agg [.lit (.string [118, 97, 108, 117, 101, 32, 111, 117, 116, 32, 111, 102, 32, 114, 97, 110, 103, 101])]))
def laid_strconv_ErrSyntax {H : Type} : DataW H := .iface "*errors.errorString" (.ptr (.agg [.lit (.string [105, 110, 118, 97, 108, 105, 100, 32, 115, 121, 110, 116, 97, 120])]))

/-- 'spandrellaw8.ItemReads': WHATEVER THE INPUT: true; the input reads as it did. -/
def itemReadsSpec : ChangeSpec := { name := "itemReads", fn := fun _ => fun
  | [d1, d2] => { results := [.lit (.bool true)], args := [d1, d2] }
  | _ => none }
def itemReadsRow : OpenClaim := { program := "ytgnhjkofpmchpaagreatdoor", sum := "fa311674ed9b7221424cb1d5f760433613af011aba0ccf6f09e6befbf7cfe87b", func := "spandrel/spandrellaw8.ItemReads", spec := "itemReads", inPlace := ["internal/bytealg.IndexByteString"], unfollowed := true, recurses := true, named := ["strconv.ErrSyntax", "strconv.ErrRange", "internal/strconv.uint64pow10", "math/bits.deBruijn32tab", "math/bits.deBruijn64tab", "spandrel/isa.table"], apart := false, laid := [("math/bits.deBruijn32tab", laid_math_bits_deBruijn32tab), ("math/bits.deBruijn64tab", laid_math_bits_deBruijn64tab), ("internal/strconv.uint64pow10", laid_internal_strconv_uint64pow10), ("spandrel/isa.table", laid_spandrel_isa_table), ("strconv.ErrRange", laid_strconv_ErrRange), ("strconv.ErrSyntax", laid_strconv_ErrSyntax)] }
def ItemReadsSaid : Prop := itemReadsRow.holds Tryz.pinned (OpenSpec.ofChange itemReadsSpec)

/-- ITS FALSE NEIGHBOUR: 'it returns false'. Refute it at one input. -/
def itemReadsWrong : ChangeSpec := { name := "itemReads", fn := fun _ => fun
  | [d1, d2] => { results := [.lit (.bool false)], args := [d1, d2] }
  | _ => none }
def ItemReadsWrongFalsely : Prop := itemReadsRow.holds Tryz.pinned (OpenSpec.ofChange itemReadsWrong)

/-- 'spandrellaw8.ItemKept': WHATEVER THE INPUT: true; the input reads as it did. -/
def itemKeptSpec : ChangeSpec := { name := "itemKept", fn := fun _ => fun
  | [d] => { results := [.lit (.bool true)], args := [d] }
  | _ => none }
def itemKeptRow : OpenClaim := { program := "ytgnhjkofpmchpaagreatdoor", sum := "fa311674ed9b7221424cb1d5f760433613af011aba0ccf6f09e6befbf7cfe87b", func := "spandrel/spandrellaw8.ItemKept", spec := "itemKept", inPlace := ["internal/bytealg.IndexByteString"], unfollowed := true, recurses := true, named := ["strconv.ErrSyntax", "strconv.ErrRange", "internal/strconv.uint64pow10", "math/bits.deBruijn32tab", "math/bits.deBruijn64tab", "spandrel/isa.table"], apart := false, laid := [("math/bits.deBruijn32tab", laid_math_bits_deBruijn32tab), ("math/bits.deBruijn64tab", laid_math_bits_deBruijn64tab), ("internal/strconv.uint64pow10", laid_internal_strconv_uint64pow10), ("spandrel/isa.table", laid_spandrel_isa_table), ("strconv.ErrRange", laid_strconv_ErrRange), ("strconv.ErrSyntax", laid_strconv_ErrSyntax)] }
def ItemKeptSaid : Prop := itemKeptRow.holds Tryz.pinned (OpenSpec.ofChange itemKeptSpec)

/-- ITS FALSE NEIGHBOUR: 'it returns false'. Refute it at one input. -/
def itemKeptWrong : ChangeSpec := { name := "itemKept", fn := fun _ => fun
  | [d] => { results := [.lit (.bool false)], args := [d] }
  | _ => none }
def ItemKeptWrongFalsely : Prop := itemKeptRow.holds Tryz.pinned (OpenSpec.ofChange itemKeptWrong)

/-- 'spandrellaw8.ItemNumbers': WHATEVER THE INPUT: true; the input reads as it did. -/
def itemNumbersSpec : ChangeSpec := { name := "itemNumbers", fn := fun _ => fun
  | [] => { results := [.lit (.bool true)], args := [] }
  | _ => none }
def itemNumbersRow : OpenClaim := { program := "ytgnhjkofpmchpaagreatdoor", sum := "fa311674ed9b7221424cb1d5f760433613af011aba0ccf6f09e6befbf7cfe87b", func := "spandrel/spandrellaw8.ItemNumbers", spec := "itemNumbers", inPlace := ["internal/bytealg.IndexByteString"], unfollowed := true, recurses := true, named := ["strconv.ErrSyntax", "strconv.ErrRange", "internal/strconv.uint64pow10", "math/bits.deBruijn32tab", "math/bits.deBruijn64tab", "spandrel/isa.table"], apart := false, laid := [("math/bits.deBruijn32tab", laid_math_bits_deBruijn32tab), ("math/bits.deBruijn64tab", laid_math_bits_deBruijn64tab), ("internal/strconv.uint64pow10", laid_internal_strconv_uint64pow10), ("spandrel/isa.table", laid_spandrel_isa_table), ("strconv.ErrRange", laid_strconv_ErrRange), ("strconv.ErrSyntax", laid_strconv_ErrSyntax)] }
def ItemNumbersSaid : Prop := itemNumbersRow.holds Tryz.pinned (OpenSpec.ofChange itemNumbersSpec)

/-- ITS FALSE NEIGHBOUR: 'it returns false'. Refute it at one input. -/
def itemNumbersWrong : ChangeSpec := { name := "itemNumbers", fn := fun _ => fun
  | [] => { results := [.lit (.bool false)], args := [] }
  | _ => none }
def ItemNumbersWrongFalsely : Prop := itemNumbersRow.holds Tryz.pinned (OpenSpec.ofChange itemNumbersWrong)

/-- 'spandrellaw8.ItemRight': WHATEVER THE INPUT: true; the input reads as it did. -/
def itemRightSpec : ChangeSpec := { name := "itemRight", fn := fun _ => fun
  | [d1, d2] => { results := [.lit (.bool true)], args := [d1, d2] }
  | _ => none }
def itemRightRow : OpenClaim := { program := "ytgnhjkofpmchpaagreatdoor", sum := "fa311674ed9b7221424cb1d5f760433613af011aba0ccf6f09e6befbf7cfe87b", func := "spandrel/spandrellaw8.ItemRight", spec := "itemRight", inPlace := ["internal/bytealg.IndexByteString"], unfollowed := true, recurses := true, named := ["spandrel/isa.table", "strconv.ErrSyntax", "strconv.ErrRange", "internal/strconv.uint64pow10", "math/bits.deBruijn32tab", "math/bits.deBruijn64tab"], apart := false, laid := [("math/bits.deBruijn32tab", laid_math_bits_deBruijn32tab), ("math/bits.deBruijn64tab", laid_math_bits_deBruijn64tab), ("internal/strconv.uint64pow10", laid_internal_strconv_uint64pow10), ("spandrel/isa.table", laid_spandrel_isa_table), ("strconv.ErrRange", laid_strconv_ErrRange), ("strconv.ErrSyntax", laid_strconv_ErrSyntax)] }
def ItemRightSaid : Prop := itemRightRow.holds Tryz.pinned (OpenSpec.ofChange itemRightSpec)

/-- ITS FALSE NEIGHBOUR: 'it returns false'. Refute it at one input. -/
def itemRightWrong : ChangeSpec := { name := "itemRight", fn := fun _ => fun
  | [d1, d2] => { results := [.lit (.bool false)], args := [d1, d2] }
  | _ => none }
def ItemRightWrongFalsely : Prop := itemRightRow.holds Tryz.pinned (OpenSpec.ofChange itemRightWrong)

/-- 'spandrellaw8.ItemFine': WHATEVER THE INPUT: true; the input reads as it did. -/
def itemFineSpec : ChangeSpec := { name := "itemFine", fn := fun _ => fun
  | [d1, d2] => { results := [.lit (.bool true)], args := [d1, d2] }
  | _ => none }
def itemFineRow : OpenClaim := { program := "ytgnhjkofpmchpaagreatdoor", sum := "fa311674ed9b7221424cb1d5f760433613af011aba0ccf6f09e6befbf7cfe87b", func := "spandrel/spandrellaw8.ItemFine", spec := "itemFine", inPlace := ["internal/bytealg.IndexByteString"], unfollowed := true, recurses := true, named := ["strconv.ErrSyntax", "strconv.ErrRange", "internal/strconv.uint64pow10", "math/bits.deBruijn32tab", "math/bits.deBruijn64tab", "spandrel/isa.table"], apart := false, laid := [("math/bits.deBruijn32tab", laid_math_bits_deBruijn32tab), ("math/bits.deBruijn64tab", laid_math_bits_deBruijn64tab), ("internal/strconv.uint64pow10", laid_internal_strconv_uint64pow10), ("spandrel/isa.table", laid_spandrel_isa_table), ("strconv.ErrRange", laid_strconv_ErrRange), ("strconv.ErrSyntax", laid_strconv_ErrSyntax)] }
def ItemFineSaid : Prop := itemFineRow.holds Tryz.pinned (OpenSpec.ofChange itemFineSpec)

/-- ITS FALSE NEIGHBOUR: 'it returns false'. Refute it at one input. -/
def itemFineWrong : ChangeSpec := { name := "itemFine", fn := fun _ => fun
  | [d1, d2] => { results := [.lit (.bool false)], args := [d1, d2] }
  | _ => none }
def ItemFineWrongFalsely : Prop := itemFineRow.holds Tryz.pinned (OpenSpec.ofChange itemFineWrong)

/- THE SECOND FORM. 'bulk': how many values and letters a reading holds, each counted each time it is reached (what is shared counts as often as it is met; a slice's spare places count too). A statement '..UptoSaid' is the law's where the arguments, and the package variables that the reading takes, are together of bulk at most 1048576: NARROWER than '..Said'. Prove '..Said' where nothing that the law and all that it calls make is longer than what came in: it says more and counts as full. Else prove '..UptoSaid'. A law counts once. -/
mutual
def uptoBulk {H : Type} : DataW H → Nat
  | .lit (.string bytes) => bytes.length + 1
  | .lit _ => 1
  | .nil => 1
  | .ptr d => uptoBulk d + 1
  | .slice elems spare => uptoBulkAll elems + uptoBulkAll spare + 1
  | .agg parts => uptoBulkAll parts + 1
  | .iface _ d => uptoBulk d + 1
  | .map entries => uptoBulkEntries entries + 1
  | .held _ => 1
def uptoBulkAll {H : Type} : List (DataW H) → Nat
  | [] => 0
  | d :: r => uptoBulk d + uptoBulkAll r
def uptoBulkEntries {H : Type} : List (Lit × DataW H) → Nat
  | [] => 0
  | x :: r => uptoBulkEntry x + uptoBulkEntries r
def uptoBulkEntry {H : Type} : Lit × DataW H → Nat
  | (.string bytes, d) => bytes.length + uptoBulk d + 1
  | (_, d) => uptoBulk d + 1
 end
def uptoSmall : (H : Type) → List (DataW H) → Bool := fun _ ds => decide (uptoBulkAll ds ≤ 1048576)
def OpenSpec.upto (s : _root_.Go.ChangeSpec) : _root_.Go.OpenSpec := { _root_.Go.OpenSpec.ofChange s with cond := some uptoSmall }

/-- 'spandrellaw8.ItemReads', WHERE WHAT IT READS IS OF BULK AT MOST 1048576: true; the input reads as it did. -/
def itemReadsUptoRow : OpenClaim := { program := "ytgnhjkofpmchpaagreatdoor", sum := "fa311674ed9b7221424cb1d5f760433613af011aba0ccf6f09e6befbf7cfe87b", func := "spandrel/spandrellaw8.ItemReads", spec := "itemReads", inPlace := ["internal/bytealg.IndexByteString"], unfollowed := true, recurses := true, named := ["strconv.ErrSyntax", "strconv.ErrRange", "internal/strconv.uint64pow10", "math/bits.deBruijn32tab", "math/bits.deBruijn64tab", "spandrel/isa.table"], apart := false, laid := [("math/bits.deBruijn32tab", laid_math_bits_deBruijn32tab), ("math/bits.deBruijn64tab", laid_math_bits_deBruijn64tab), ("internal/strconv.uint64pow10", laid_internal_strconv_uint64pow10), ("spandrel/isa.table", laid_spandrel_isa_table), ("strconv.ErrRange", laid_strconv_ErrRange), ("strconv.ErrSyntax", laid_strconv_ErrSyntax)], narrowed := true }
def ItemReadsUptoSaid : Prop := itemReadsUptoRow.holds Tryz.pinned (OpenSpec.upto itemReadsSpec)

/-- 'spandrellaw8.ItemKept', WHERE WHAT IT READS IS OF BULK AT MOST 1048576: true; the input reads as it did. -/
def itemKeptUptoRow : OpenClaim := { program := "ytgnhjkofpmchpaagreatdoor", sum := "fa311674ed9b7221424cb1d5f760433613af011aba0ccf6f09e6befbf7cfe87b", func := "spandrel/spandrellaw8.ItemKept", spec := "itemKept", inPlace := ["internal/bytealg.IndexByteString"], unfollowed := true, recurses := true, named := ["strconv.ErrSyntax", "strconv.ErrRange", "internal/strconv.uint64pow10", "math/bits.deBruijn32tab", "math/bits.deBruijn64tab", "spandrel/isa.table"], apart := false, laid := [("math/bits.deBruijn32tab", laid_math_bits_deBruijn32tab), ("math/bits.deBruijn64tab", laid_math_bits_deBruijn64tab), ("internal/strconv.uint64pow10", laid_internal_strconv_uint64pow10), ("spandrel/isa.table", laid_spandrel_isa_table), ("strconv.ErrRange", laid_strconv_ErrRange), ("strconv.ErrSyntax", laid_strconv_ErrSyntax)], narrowed := true }
def ItemKeptUptoSaid : Prop := itemKeptUptoRow.holds Tryz.pinned (OpenSpec.upto itemKeptSpec)

/-- 'spandrellaw8.ItemNumbers', WHERE WHAT IT READS IS OF BULK AT MOST 1048576: true; the input reads as it did. -/
def itemNumbersUptoRow : OpenClaim := { program := "ytgnhjkofpmchpaagreatdoor", sum := "fa311674ed9b7221424cb1d5f760433613af011aba0ccf6f09e6befbf7cfe87b", func := "spandrel/spandrellaw8.ItemNumbers", spec := "itemNumbers", inPlace := ["internal/bytealg.IndexByteString"], unfollowed := true, recurses := true, named := ["strconv.ErrSyntax", "strconv.ErrRange", "internal/strconv.uint64pow10", "math/bits.deBruijn32tab", "math/bits.deBruijn64tab", "spandrel/isa.table"], apart := false, laid := [("math/bits.deBruijn32tab", laid_math_bits_deBruijn32tab), ("math/bits.deBruijn64tab", laid_math_bits_deBruijn64tab), ("internal/strconv.uint64pow10", laid_internal_strconv_uint64pow10), ("spandrel/isa.table", laid_spandrel_isa_table), ("strconv.ErrRange", laid_strconv_ErrRange), ("strconv.ErrSyntax", laid_strconv_ErrSyntax)], narrowed := true }
def ItemNumbersUptoSaid : Prop := itemNumbersUptoRow.holds Tryz.pinned (OpenSpec.upto itemNumbersSpec)

/-- 'spandrellaw8.ItemRight', WHERE WHAT IT READS IS OF BULK AT MOST 1048576: true; the input reads as it did. -/
def itemRightUptoRow : OpenClaim := { program := "ytgnhjkofpmchpaagreatdoor", sum := "fa311674ed9b7221424cb1d5f760433613af011aba0ccf6f09e6befbf7cfe87b", func := "spandrel/spandrellaw8.ItemRight", spec := "itemRight", inPlace := ["internal/bytealg.IndexByteString"], unfollowed := true, recurses := true, named := ["spandrel/isa.table", "strconv.ErrSyntax", "strconv.ErrRange", "internal/strconv.uint64pow10", "math/bits.deBruijn32tab", "math/bits.deBruijn64tab"], apart := false, laid := [("math/bits.deBruijn32tab", laid_math_bits_deBruijn32tab), ("math/bits.deBruijn64tab", laid_math_bits_deBruijn64tab), ("internal/strconv.uint64pow10", laid_internal_strconv_uint64pow10), ("spandrel/isa.table", laid_spandrel_isa_table), ("strconv.ErrRange", laid_strconv_ErrRange), ("strconv.ErrSyntax", laid_strconv_ErrSyntax)], narrowed := true }
def ItemRightUptoSaid : Prop := itemRightUptoRow.holds Tryz.pinned (OpenSpec.upto itemRightSpec)

/-- 'spandrellaw8.ItemFine', WHERE WHAT IT READS IS OF BULK AT MOST 1048576: true; the input reads as it did. -/
def itemFineUptoRow : OpenClaim := { program := "ytgnhjkofpmchpaagreatdoor", sum := "fa311674ed9b7221424cb1d5f760433613af011aba0ccf6f09e6befbf7cfe87b", func := "spandrel/spandrellaw8.ItemFine", spec := "itemFine", inPlace := ["internal/bytealg.IndexByteString"], unfollowed := true, recurses := true, named := ["strconv.ErrSyntax", "strconv.ErrRange", "internal/strconv.uint64pow10", "math/bits.deBruijn32tab", "math/bits.deBruijn64tab", "spandrel/isa.table"], apart := false, laid := [("math/bits.deBruijn32tab", laid_math_bits_deBruijn32tab), ("math/bits.deBruijn64tab", laid_math_bits_deBruijn64tab), ("internal/strconv.uint64pow10", laid_internal_strconv_uint64pow10), ("spandrel/isa.table", laid_spandrel_isa_table), ("strconv.ErrRange", laid_strconv_ErrRange), ("strconv.ErrSyntax", laid_strconv_ErrSyntax)], narrowed := true }
def ItemFineUptoSaid : Prop := itemFineUptoRow.holds Tryz.pinned (OpenSpec.upto itemFineSpec)

end Rows
end Go.Proofs.YtgnhjkofpmchpaaGreatDoor
