/-
  NARROWER THAN 'FOR EVERY INPUT', by the rows' own cells (each row's printed sentence says how): LinkRenamed: laid · LinkMore: laid · LinkKept: laid · LinkNumbers: laid · LinkLinks: laid.
  DERIVED. THE GIVEN ROWS OF THIS SEAT. 5 by the template 'for every input the law returns true; each argument reads behind the call as it read before'; 0 by the template 'total and deterministic' (their statements: YtlpcncdglfjnoaaGreatDoorTotals.lean).
  GIVEN WITH THE SEED: the statements are not yours to turn. If you find one false, say at which input.
  Laid BY PROGRAM, IN A SANDBOX (cutbox-rows.mjs): the forced cells as the released guide's own fill.sh prints them over the translation 9e53210a6b0e1418… (all of the seat's roots in one cut). By AI agents, Wed Nov 11 2026. No macro, syntax, notation, axiom, sorry.
-/
import Derived.Test.YtlpcncdglfjnoaaGreatDoorChecked
import GoSem.Claim
import GoSem.ClaimJoined
import GoSem.ClaimMapViews
import Derived.JoinedTies
import Derived.KernelRfl
namespace Go.Proofs.YtlpcncdglfjnoaaGreatDoor
/- THE CELL 'sum', in the pinned program and in every row, IS THE sha256 OF THE DUMP (.gsa) THAT YtlpcncdglfjnoaaGreatDoorProg.lean LOADS. Nothing in Lean hashes anything: it is a label: what it is worth is what the hold of that sum in a sandbox is worth. -/
noncomputable def Tryz.pinned : Pinned := { name := "ytlpcncdglfjnoaagreatdoor", sum := "9e53210a6b0e1418f01cbb08c0239607b6319f6103f6966a4417d6edfbf1805c", checked := Tryz.checked }
namespace Rows
def none {H : Type} : Left H := { results := [], args := [] }

/- WHAT THE LISTED PACKAGE-LEVEL VARIABLES READ AS WHEN THE CALL BEGINS. Each datum BY PROGRAM (the guide's laid-datum.mjs) off the statement by which the dump's own 'gosem.cut.vars' lays the variable. In a bare row this is a premise. The card (YtlpcncdglfjnoaaGreatDoorCards.lean) ties it to the program's text. -/
def laid_math_bits_deBruijn32tab {H : Type} : DataW H := .agg [.lit (.int .u8 0), .lit (.int .u8 1), .lit (.int .u8 28), .lit (.int .u8 2), .lit (.int .u8 29), .lit (.int .u8 14), .lit (.int .u8 24), .lit (.int .u8 3), .lit (.int .u8 30), .lit (.int .u8 22), .lit (.int .u8 20), .lit (.int .u8 15), .lit (.int .u8 25), .lit (.int .u8 17), .lit (.int .u8 4), .lit (.int .u8 8), .lit (.int .u8 31), .lit (.int .u8 27), .lit (.int .u8 13), .lit (.int .u8 23), .lit (.int .u8 21), .lit (.int .u8 19), .lit (.int .u8 16), .lit (.int .u8 7), .lit (.int .u8 26), .lit (.int .u8 12), .lit (.int .u8 18), .lit (.int .u8 6), .lit (.int .u8 11), .lit (.int .u8 5), .lit (.int .u8 10), .lit (.int .u8 9)]
def laid_math_bits_deBruijn64tab {H : Type} : DataW H := .agg [.lit (.int .u8 0), .lit (.int .u8 1), .lit (.int .u8 56), .lit (.int .u8 2), .lit (.int .u8 57), .lit (.int .u8 49), .lit (.int .u8 28), .lit (.int .u8 3), .lit (.int .u8 61), .lit (.int .u8 58), .lit (.int .u8 42), .lit (.int .u8 50), .lit (.int .u8 38), .lit (.int .u8 29), .lit (.int .u8 17), .lit (.int .u8 4), .lit (.int .u8 62), .lit (.int .u8 47), .lit (.int .u8 59), .lit (.int .u8 36), .lit (.int .u8 45), .lit (.int .u8 43), .lit (.int .u8 51), .lit (.int .u8 22), .lit (.int .u8 53), .lit (.int .u8 39), .lit (.int .u8 33), .lit (.int .u8 30), .lit (.int .u8 24), .lit (.int .u8 18), .lit (.int .u8 12), .lit (.int .u8 5), .lit (.int .u8 63), .lit (.int .u8 55), .lit (.int .u8 48), .lit (.int .u8 27), .lit (.int .u8 60), .lit (.int .u8 41), .lit (.int .u8 37), .lit (.int .u8 16), .lit (.int .u8 46), .lit (.int .u8 35), .lit (.int .u8 44), .lit (.int .u8 21), .lit (.int .u8 52), .lit (.int .u8 32), .lit (.int .u8 23), .lit (.int .u8 11), .lit (.int .u8 54), .lit (.int .u8 26), .lit (.int .u8 40), .lit (.int .u8 15), .lit (.int .u8 34), .lit (.int .u8 20), .lit (.int .u8 31), .lit (.int .u8 10), .lit (.int .u8 25), .lit (.int .u8 14), .lit (.int .u8 19), .lit (.int .u8 9), .lit (.int .u8 13), .lit (.int .u8 8), .lit (.int .u8 7), .lit (.int .u8 6)]
def laid_internal_strconv_uint64pow10 {H : Type} : DataW H := .agg [.lit (.int .u64 1), .lit (.int .u64 10), .lit (.int .u64 100), .lit (.int .u64 1000), .lit (.int .u64 10000), .lit (.int .u64 100000), .lit (.int .u64 1000000), .lit (.int .u64 10000000), .lit (.int .u64 100000000), .lit (.int .u64 1000000000), .lit (.int .u64 10000000000), .lit (.int .u64 100000000000), .lit (.int .u64 1000000000000), .lit (.int .u64 10000000000000), .lit (.int .u64 100000000000000), .lit (.int .u64 1000000000000000), .lit (.int .u64 10000000000000000), .lit (.int .u64 100000000000000000), .lit (.int .u64 1000000000000000000), .lit (.int .u64 10000000000000000000)]
def laid_spandrel_isa_table {H : Type} : DataW H := .agg [.agg [.lit (.string [110, 111, 112]), .lit (.int .u8 0), .lit (.int .i64 1)], .agg [.lit (.string [104, 97, 108, 116]), .lit (.int .u8 1), .lit (.int .i64 1)], .agg [.lit (.string [114, 101, 116]), .lit (.int .u8 2), .lit (.int .i64 1)], .agg [.lit (.string [112, 114, 105, 110, 116]), .lit (.int .u8 3), .lit (.int .i64 2)], .agg [.lit (.string [105, 110]), .lit (.int .u8 4), .lit (.int .i64 2)], .agg [.lit (.string [112, 117, 115, 104]), .lit (.int .u8 5), .lit (.int .i64 2)], .agg [.lit (.string [112, 111, 112]), .lit (.int .u8 6), .lit (.int .i64 2)], .agg [.lit (.string [106, 114]), .lit (.int .u8 7), .lit (.int .i64 2)], .agg [.lit (.string [110, 101, 103]), .lit (.int .u8 8), .lit (.int .i64 2)], .agg [.lit (.string [110, 111, 116]), .lit (.int .u8 9), .lit (.int .i64 2)], .agg [.lit (.string [122, 116, 117, 114, 110]), .lit (.int .u8 10), .lit (.int .i64 3)], .agg [.lit (.string [122, 99, 111, 110, 106]), .lit (.int .u8 11), .lit (.int .i64 3)], .agg [.lit (.string [109, 111, 118]), .lit (.int .u8 16), .lit (.int .i64 4)], .agg [.lit (.string [97, 100, 100]), .lit (.int .u8 17), .lit (.int .i64 4)], .agg [.lit (.string [115, 117, 98]), .lit (.int .u8 18), .lit (.int .i64 4)], .agg [.lit (.string [109, 117, 108]), .lit (.int .u8 19), .lit (.int .i64 4)], .agg [.lit (.string [100, 105, 118]), .lit (.int .u8 20), .lit (.int .i64 4)], .agg [.lit (.string [97, 110, 100]), .lit (.int .u8 21), .lit (.int .i64 4)], .agg [.lit (.string [111, 114]), .lit (.int .u8 22), .lit (.int .i64 4)], .agg [.lit (.string [120, 111, 114]), .lit (.int .u8 23), .lit (.int .i64 4)], .agg [.lit (.string [115, 104, 108]), .lit (.int .u8 24), .lit (.int .i64 4)], .agg [.lit (.string [115, 104, 114]), .lit (.int .u8 25), .lit (.int .i64 4)], .agg [.lit (.string [108, 116]), .lit (.int .u8 26), .lit (.int .i64 4)], .agg [.lit (.string [101, 113]), .lit (.int .u8 27), .lit (.int .i64 4)], .agg [.lit (.string [108, 100, 98]), .lit (.int .u8 28), .lit (.int .i64 4)], .agg [.lit (.string [108, 100, 119]), .lit (.int .u8 29), .lit (.int .i64 4)], .agg [.lit (.string [108, 100, 109]), .lit (.int .u8 30), .lit (.int .i64 4)], .agg [.lit (.string [115, 116, 109]), .lit (.int .u8 31), .lit (.int .i64 4)], .agg [.lit (.string [122, 109, 111, 118]), .lit (.int .u8 32), .lit (.int .i64 5)], .agg [.lit (.string [122, 97, 100, 100]), .lit (.int .u8 33), .lit (.int .i64 5)], .agg [.lit (.string [122, 115, 117, 98]), .lit (.int .u8 34), .lit (.int .i64 5)], .agg [.lit (.string [122, 109, 117, 108]), .lit (.int .u8 35), .lit (.int .i64 5)], .agg [.lit (.string [122, 114, 101]), .lit (.int .u8 36), .lit (.int .i64 6)], .agg [.lit (.string [122, 105, 109]), .lit (.int .u8 37), .lit (.int .i64 6)], .agg [.lit (.string [122, 115, 101, 116]), .lit (.int .u8 38), .lit (.int .i64 7)], .agg [.lit (.string [108, 105, 115]), .lit (.int .u8 48), .lit (.int .i64 8)], .agg [.lit (.string [116, 114, 97, 112]), .lit (.int .u8 49), .lit (.int .i64 9)], .agg [.lit (.string [108, 105]), .lit (.int .u8 50), .lit (.int .i64 10)], .agg [.lit (.string [108, 100, 112]), .lit (.int .u8 51), .lit (.int .i64 11)], .agg [.lit (.string [106, 109, 112]), .lit (.int .u8 64), .lit (.int .i64 12)], .agg [.lit (.string [99, 97, 108, 108]), .lit (.int .u8 67), .lit (.int .i64 12)], .agg [.lit (.string [106, 122]), .lit (.int .u8 70), .lit (.int .i64 13)], .agg [.lit (.string [106, 110, 122]), .lit (.int .u8 73), .lit (.int .i64 13)]]

/-- 'spandrellaw12.LinkRenamed': WHATEVER THE INPUT: true; the input reads as it did. -/
def linkRenamedSpec : ChangeSpec := { name := "linkRenamed", fn := fun _ => fun
  | [d] => { results := [.lit (.bool true)], args := [d] }
  | _ => none }
def linkRenamedRow : OpenClaim := { program := "ytlpcncdglfjnoaagreatdoor", sum := "9e53210a6b0e1418f01cbb08c0239607b6319f6103f6966a4417d6edfbf1805c", func := "spandrel/spandrellaw12.LinkRenamed", spec := "linkRenamed", inPlace := ["internal/bytealg.IndexByteString"], unfollowed := true, recurses := true, named := ["spandrel/isa.table", "internal/strconv.uint64pow10", "math/bits.deBruijn32tab", "math/bits.deBruijn64tab"], plainKeys := false, apart := false, laid := [("math/bits.deBruijn32tab", laid_math_bits_deBruijn32tab), ("math/bits.deBruijn64tab", laid_math_bits_deBruijn64tab), ("internal/strconv.uint64pow10", laid_internal_strconv_uint64pow10), ("spandrel/isa.table", laid_spandrel_isa_table)] }
def LinkRenamedSaid : Prop := linkRenamedRow.holds Tryz.pinned (OpenSpec.ofChange linkRenamedSpec)

/-- ITS FALSE NEIGHBOUR: 'it returns false'. Refute it at one input. -/
def linkRenamedWrong : ChangeSpec := { name := "linkRenamed", fn := fun _ => fun
  | [d] => { results := [.lit (.bool false)], args := [d] }
  | _ => none }
def LinkRenamedWrongFalsely : Prop := linkRenamedRow.holds Tryz.pinned (OpenSpec.ofChange linkRenamedWrong)

/-- 'spandrellaw12.LinkMore': WHATEVER THE INPUT: true; the input reads as it did. -/
def linkMoreSpec : ChangeSpec := { name := "linkMore", fn := fun _ => fun
  | [d] => { results := [.lit (.bool true)], args := [d] }
  | _ => none }
def linkMoreRow : OpenClaim := { program := "ytlpcncdglfjnoaagreatdoor", sum := "9e53210a6b0e1418f01cbb08c0239607b6319f6103f6966a4417d6edfbf1805c", func := "spandrel/spandrellaw12.LinkMore", spec := "linkMore", inPlace := ["internal/bytealg.IndexByteString"], unfollowed := true, recurses := true, named := ["spandrel/isa.table", "internal/strconv.uint64pow10", "math/bits.deBruijn32tab", "math/bits.deBruijn64tab"], plainKeys := false, apart := false, laid := [("math/bits.deBruijn32tab", laid_math_bits_deBruijn32tab), ("math/bits.deBruijn64tab", laid_math_bits_deBruijn64tab), ("internal/strconv.uint64pow10", laid_internal_strconv_uint64pow10), ("spandrel/isa.table", laid_spandrel_isa_table)] }
def LinkMoreSaid : Prop := linkMoreRow.holds Tryz.pinned (OpenSpec.ofChange linkMoreSpec)

/-- ITS FALSE NEIGHBOUR: 'it returns false'. Refute it at one input. -/
def linkMoreWrong : ChangeSpec := { name := "linkMore", fn := fun _ => fun
  | [d] => { results := [.lit (.bool false)], args := [d] }
  | _ => none }
def LinkMoreWrongFalsely : Prop := linkMoreRow.holds Tryz.pinned (OpenSpec.ofChange linkMoreWrong)

/-- 'spandrellaw12.LinkKept': WHATEVER THE INPUT: true; the input reads as it did. -/
def linkKeptSpec : ChangeSpec := { name := "linkKept", fn := fun _ => fun
  | [d] => { results := [.lit (.bool true)], args := [d] }
  | _ => none }
def linkKeptRow : OpenClaim := { program := "ytlpcncdglfjnoaagreatdoor", sum := "9e53210a6b0e1418f01cbb08c0239607b6319f6103f6966a4417d6edfbf1805c", func := "spandrel/spandrellaw12.LinkKept", spec := "linkKept", inPlace := ["internal/bytealg.IndexByteString"], unfollowed := true, recurses := true, named := ["spandrel/isa.table", "internal/strconv.uint64pow10", "math/bits.deBruijn32tab", "math/bits.deBruijn64tab"], plainKeys := false, apart := false, laid := [("math/bits.deBruijn32tab", laid_math_bits_deBruijn32tab), ("math/bits.deBruijn64tab", laid_math_bits_deBruijn64tab), ("internal/strconv.uint64pow10", laid_internal_strconv_uint64pow10), ("spandrel/isa.table", laid_spandrel_isa_table)] }
def LinkKeptSaid : Prop := linkKeptRow.holds Tryz.pinned (OpenSpec.ofChange linkKeptSpec)

/-- ITS FALSE NEIGHBOUR: 'it returns false'. Refute it at one input. -/
def linkKeptWrong : ChangeSpec := { name := "linkKept", fn := fun _ => fun
  | [d] => { results := [.lit (.bool false)], args := [d] }
  | _ => none }
def LinkKeptWrongFalsely : Prop := linkKeptRow.holds Tryz.pinned (OpenSpec.ofChange linkKeptWrong)

/-- 'spandrellaw12.LinkNumbers': WHATEVER THE INPUT: true; the input reads as it did. -/
def linkNumbersSpec : ChangeSpec := { name := "linkNumbers", fn := fun _ => fun
  | [] => { results := [.lit (.bool true)], args := [] }
  | _ => none }
def linkNumbersRow : OpenClaim := { program := "ytlpcncdglfjnoaagreatdoor", sum := "9e53210a6b0e1418f01cbb08c0239607b6319f6103f6966a4417d6edfbf1805c", func := "spandrel/spandrellaw12.LinkNumbers", spec := "linkNumbers", inPlace := ["internal/bytealg.IndexByteString"], unfollowed := true, recurses := true, named := ["spandrel/isa.table", "internal/strconv.uint64pow10", "math/bits.deBruijn32tab", "math/bits.deBruijn64tab"], plainKeys := false, apart := false, laid := [("math/bits.deBruijn32tab", laid_math_bits_deBruijn32tab), ("math/bits.deBruijn64tab", laid_math_bits_deBruijn64tab), ("internal/strconv.uint64pow10", laid_internal_strconv_uint64pow10), ("spandrel/isa.table", laid_spandrel_isa_table)] }
def LinkNumbersSaid : Prop := linkNumbersRow.holds Tryz.pinned (OpenSpec.ofChange linkNumbersSpec)

/-- ITS FALSE NEIGHBOUR: 'it returns false'. Refute it at one input. -/
def linkNumbersWrong : ChangeSpec := { name := "linkNumbers", fn := fun _ => fun
  | [] => { results := [.lit (.bool false)], args := [] }
  | _ => none }
def LinkNumbersWrongFalsely : Prop := linkNumbersRow.holds Tryz.pinned (OpenSpec.ofChange linkNumbersWrong)

/-- 'spandrellaw12.LinkLinks': WHATEVER THE INPUT: true; the input reads as it did. -/
def linkLinksSpec : ChangeSpec := { name := "linkLinks", fn := fun _ => fun
  | [d1, d2] => { results := [.lit (.bool true)], args := [d1, d2] }
  | _ => none }
def linkLinksRow : OpenClaim := { program := "ytlpcncdglfjnoaagreatdoor", sum := "9e53210a6b0e1418f01cbb08c0239607b6319f6103f6966a4417d6edfbf1805c", func := "spandrel/spandrellaw12.LinkLinks", spec := "linkLinks", inPlace := ["internal/bytealg.IndexByteString"], unfollowed := true, recurses := true, named := ["spandrel/isa.table", "internal/strconv.uint64pow10", "math/bits.deBruijn32tab", "math/bits.deBruijn64tab"], plainKeys := false, apart := false, laid := [("math/bits.deBruijn32tab", laid_math_bits_deBruijn32tab), ("math/bits.deBruijn64tab", laid_math_bits_deBruijn64tab), ("internal/strconv.uint64pow10", laid_internal_strconv_uint64pow10), ("spandrel/isa.table", laid_spandrel_isa_table)] }
def LinkLinksSaid : Prop := linkLinksRow.holds Tryz.pinned (OpenSpec.ofChange linkLinksSpec)

/-- ITS FALSE NEIGHBOUR: 'it returns false'. Refute it at one input. -/
def linkLinksWrong : ChangeSpec := { name := "linkLinks", fn := fun _ => fun
  | [d1, d2] => { results := [.lit (.bool false)], args := [d1, d2] }
  | _ => none }
def LinkLinksWrongFalsely : Prop := linkLinksRow.holds Tryz.pinned (OpenSpec.ofChange linkLinksWrong)

/- THE SECOND FORM. 'bulk': how many values and letters a reading holds, each counted each time it is reached (what is shared counts as often as it is met; a slice's spare places count too). A statement '..UptoSaid' is the law's where the arguments, and the package variables that the reading takes, are together of bulk at most 1048576: NARROWER than '..Said'. Prove '..Said' where nothing that the law and all that it calls make is longer than what came in: it says more and counts as full. Else prove '..UptoSaid'. A law counts once. -/
mutual
def uptoBulk {H : Type} : DataW H → Nat
  | .lit (.string bytes) => bytes.length + 1
  | .lit _ => 1
  | .nil => 1
  | .ptr d => uptoBulk d + 1
  | .slice elems spare => uptoBulkAll elems + uptoBulkAll spare + 1
  | .agg parts => uptoBulkAll parts + 1
  | .iface _ d => uptoBulk d + 1
  | .map entries => uptoBulkEntries entries + 1
  | .held _ => 1
def uptoBulkAll {H : Type} : List (DataW H) → Nat
  | [] => 0
  | d :: r => uptoBulk d + uptoBulkAll r
def uptoBulkEntries {H : Type} : List (Lit × DataW H) → Nat
  | [] => 0
  | x :: r => uptoBulkEntry x + uptoBulkEntries r
def uptoBulkEntry {H : Type} : Lit × DataW H → Nat
  | (.string bytes, d) => bytes.length + uptoBulk d + 1
  | (_, d) => uptoBulk d + 1
 end
def uptoSmall : (H : Type) → List (DataW H) → Bool := fun _ ds => decide (uptoBulkAll ds ≤ 1048576)
def OpenSpec.upto (s : _root_.Go.ChangeSpec) : _root_.Go.OpenSpec := { _root_.Go.OpenSpec.ofChange s with cond := some uptoSmall }

/-- 'spandrellaw12.LinkRenamed', WHERE WHAT IT READS IS OF BULK AT MOST 1048576: true; the input reads as it did. -/
def linkRenamedUptoRow : OpenClaim := { program := "ytlpcncdglfjnoaagreatdoor", sum := "9e53210a6b0e1418f01cbb08c0239607b6319f6103f6966a4417d6edfbf1805c", func := "spandrel/spandrellaw12.LinkRenamed", spec := "linkRenamed", inPlace := ["internal/bytealg.IndexByteString"], unfollowed := true, recurses := true, named := ["spandrel/isa.table", "internal/strconv.uint64pow10", "math/bits.deBruijn32tab", "math/bits.deBruijn64tab"], plainKeys := false, apart := false, laid := [("math/bits.deBruijn32tab", laid_math_bits_deBruijn32tab), ("math/bits.deBruijn64tab", laid_math_bits_deBruijn64tab), ("internal/strconv.uint64pow10", laid_internal_strconv_uint64pow10), ("spandrel/isa.table", laid_spandrel_isa_table)], narrowed := true }
def LinkRenamedUptoSaid : Prop := linkRenamedUptoRow.holds Tryz.pinned (OpenSpec.upto linkRenamedSpec)

/-- 'spandrellaw12.LinkMore', WHERE WHAT IT READS IS OF BULK AT MOST 1048576: true; the input reads as it did. -/
def linkMoreUptoRow : OpenClaim := { program := "ytlpcncdglfjnoaagreatdoor", sum := "9e53210a6b0e1418f01cbb08c0239607b6319f6103f6966a4417d6edfbf1805c", func := "spandrel/spandrellaw12.LinkMore", spec := "linkMore", inPlace := ["internal/bytealg.IndexByteString"], unfollowed := true, recurses := true, named := ["spandrel/isa.table", "internal/strconv.uint64pow10", "math/bits.deBruijn32tab", "math/bits.deBruijn64tab"], plainKeys := false, apart := false, laid := [("math/bits.deBruijn32tab", laid_math_bits_deBruijn32tab), ("math/bits.deBruijn64tab", laid_math_bits_deBruijn64tab), ("internal/strconv.uint64pow10", laid_internal_strconv_uint64pow10), ("spandrel/isa.table", laid_spandrel_isa_table)], narrowed := true }
def LinkMoreUptoSaid : Prop := linkMoreUptoRow.holds Tryz.pinned (OpenSpec.upto linkMoreSpec)

/-- 'spandrellaw12.LinkKept', WHERE WHAT IT READS IS OF BULK AT MOST 1048576: true; the input reads as it did. -/
def linkKeptUptoRow : OpenClaim := { program := "ytlpcncdglfjnoaagreatdoor", sum := "9e53210a6b0e1418f01cbb08c0239607b6319f6103f6966a4417d6edfbf1805c", func := "spandrel/spandrellaw12.LinkKept", spec := "linkKept", inPlace := ["internal/bytealg.IndexByteString"], unfollowed := true, recurses := true, named := ["spandrel/isa.table", "internal/strconv.uint64pow10", "math/bits.deBruijn32tab", "math/bits.deBruijn64tab"], plainKeys := false, apart := false, laid := [("math/bits.deBruijn32tab", laid_math_bits_deBruijn32tab), ("math/bits.deBruijn64tab", laid_math_bits_deBruijn64tab), ("internal/strconv.uint64pow10", laid_internal_strconv_uint64pow10), ("spandrel/isa.table", laid_spandrel_isa_table)], narrowed := true }
def LinkKeptUptoSaid : Prop := linkKeptUptoRow.holds Tryz.pinned (OpenSpec.upto linkKeptSpec)

/-- 'spandrellaw12.LinkNumbers', WHERE WHAT IT READS IS OF BULK AT MOST 1048576: true; the input reads as it did. -/
def linkNumbersUptoRow : OpenClaim := { program := "ytlpcncdglfjnoaagreatdoor", sum := "9e53210a6b0e1418f01cbb08c0239607b6319f6103f6966a4417d6edfbf1805c", func := "spandrel/spandrellaw12.LinkNumbers", spec := "linkNumbers", inPlace := ["internal/bytealg.IndexByteString"], unfollowed := true, recurses := true, named := ["spandrel/isa.table", "internal/strconv.uint64pow10", "math/bits.deBruijn32tab", "math/bits.deBruijn64tab"], plainKeys := false, apart := false, laid := [("math/bits.deBruijn32tab", laid_math_bits_deBruijn32tab), ("math/bits.deBruijn64tab", laid_math_bits_deBruijn64tab), ("internal/strconv.uint64pow10", laid_internal_strconv_uint64pow10), ("spandrel/isa.table", laid_spandrel_isa_table)], narrowed := true }
def LinkNumbersUptoSaid : Prop := linkNumbersUptoRow.holds Tryz.pinned (OpenSpec.upto linkNumbersSpec)

/-- 'spandrellaw12.LinkLinks', WHERE WHAT IT READS IS OF BULK AT MOST 1048576: true; the input reads as it did. -/
def linkLinksUptoRow : OpenClaim := { program := "ytlpcncdglfjnoaagreatdoor", sum := "9e53210a6b0e1418f01cbb08c0239607b6319f6103f6966a4417d6edfbf1805c", func := "spandrel/spandrellaw12.LinkLinks", spec := "linkLinks", inPlace := ["internal/bytealg.IndexByteString"], unfollowed := true, recurses := true, named := ["spandrel/isa.table", "internal/strconv.uint64pow10", "math/bits.deBruijn32tab", "math/bits.deBruijn64tab"], plainKeys := false, apart := false, laid := [("math/bits.deBruijn32tab", laid_math_bits_deBruijn32tab), ("math/bits.deBruijn64tab", laid_math_bits_deBruijn64tab), ("internal/strconv.uint64pow10", laid_internal_strconv_uint64pow10), ("spandrel/isa.table", laid_spandrel_isa_table)], narrowed := true }
def LinkLinksUptoSaid : Prop := linkLinksUptoRow.holds Tryz.pinned (OpenSpec.upto linkLinksSpec)

end Rows
end Go.Proofs.YtlpcncdglfjnoaaGreatDoor
