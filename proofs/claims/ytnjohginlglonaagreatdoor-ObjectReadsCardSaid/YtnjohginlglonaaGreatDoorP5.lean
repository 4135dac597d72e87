/- Contracts over heaps, and plain laws, for the functions that the laws of chapter 10 call, part 5: Instructions, as the document has them, over heaps. Registers, right instructions, as the document has them, over heaps. Items that the document calls right, over heaps. Lists of names as the document treats them, over heaps: has, labels, all, sorted. ref9.Sorted and ref9.Right over heaps: the document's right units. A unit that is right, by the document's own reckoning, in plain Lean: each thing right, no name twice, the globals rising and among the names. ref9.Right over heaps: the number that the document gives a unit. Condition: as each statement says. -/
import Derived.Test.YtnjohginlglonaaGreatDoorP4
import Derived.Test.YtnjohginlglonaaGreatDoorZrW
import Derived.Test.YtnjohginlglonaaGreatDoorZrX
import Derived.Test.YtnjohginlglonaaGreatDoorZrY
import Derived.Test.YtnjohginlglonaaGreatDoorP2
set_option linter.unusedVariables false
set_option linter.unusedSimpArgs false
set_option maxRecDepth 100000
namespace Go.Sx.Ob
open Go.Proofs
def opsP : Array (Nat × Value) := #[(0, .agg #[.string ⟨#[110, 111, 112]⟩, .int .u8 (0 : Int), .int .i64 (1 : Int)]), (1, .agg #[.string ⟨#[104, 97, 108, 116]⟩, .int .u8 (1 : Int), .int .i64 (1 : Int)]), (2, .agg #[.string ⟨#[114, 101, 116]⟩, .int .u8 (2 : Int), .int .i64 (1 : Int)]), (3, .agg #[.string ⟨#[112, 114, 105, 110, 116]⟩, .int .u8 (3 : Int), .int .i64 (2 : Int)]), (4, .agg #[.string ⟨#[105, 110]⟩, .int .u8 (4 : Int), .int .i64 (2 : Int)]), (5, .agg #[.string ⟨#[112, 117, 115, 104]⟩, .int .u8 (5 : Int), .int .i64 (2 : Int)]), (6, .agg #[.string ⟨#[112, 111, 112]⟩, .int .u8 (6 : Int), .int .i64 (2 : Int)]), (7, .agg #[.string ⟨#[106, 114]⟩, .int .u8 (7 : Int), .int .i64 (2 : Int)]), (8, .agg #[.string ⟨#[110, 101, 103]⟩, .int .u8 (8 : Int), .int .i64 (2 : Int)]), (9, .agg #[.string ⟨#[110, 111, 116]⟩, .int .u8 (9 : Int), .int .i64 (2 : Int)]), (10, .agg #[.string ⟨#[122, 116, 117, 114, 110]⟩, .int .u8 (10 : Int), .int .i64 (3 : Int)]), (11, .agg #[.string ⟨#[122, 99, 111, 110, 106]⟩, .int .u8 (11 : Int), .int .i64 (3 : Int)]), (12, .agg #[.string ⟨#[109, 111, 118]⟩, .int .u8 (16 : Int), .int .i64 (4 : Int)]), (13, .agg #[.string ⟨#[97, 100, 100]⟩, .int .u8 (17 : Int), .int .i64 (4 : Int)]), (14, .agg #[.string ⟨#[115, 117, 98]⟩, .int .u8 (18 : Int), .int .i64 (4 : Int)]), (15, .agg #[.string ⟨#[109, 117, 108]⟩, .int .u8 (19 : Int), .int .i64 (4 : Int)]), (16, .agg #[.string ⟨#[100, 105, 118]⟩, .int .u8 (20 : Int), .int .i64 (4 : Int)]), (17, .agg #[.string ⟨#[97, 110, 100]⟩, .int .u8 (21 : Int), .int .i64 (4 : Int)]), (18, .agg #[.string ⟨#[111, 114]⟩, .int .u8 (22 : Int), .int .i64 (4 : Int)]), (19, .agg #[.string ⟨#[120, 111, 114]⟩, .int .u8 (23 : Int), .int .i64 (4 : Int)]), (20, .agg #[.string ⟨#[115, 104, 108]⟩, .int .u8 (24 : Int), .int .i64 (4 : Int)]), (21, .agg #[.string ⟨#[115, 104, 114]⟩, .int .u8 (25 : Int), .int .i64 (4 : Int)]), (22, .agg #[.string ⟨#[108, 116]⟩, .int .u8 (26 : Int), .int .i64 (4 : Int)]), (23, .agg #[.string ⟨#[101, 113]⟩, .int .u8 (27 : Int), .int .i64 (4 : Int)]), (24, .agg #[.string ⟨#[108, 100, 98]⟩, .int .u8 (28 : Int), .int .i64 (4 : Int)]), (25, .agg #[.string ⟨#[108, 100, 119]⟩, .int .u8 (29 : Int), .int .i64 (4 : Int)]), (26, .agg #[.string ⟨#[108, 100, 109]⟩, .int .u8 (30 : Int), .int .i64 (4 : Int)]), (27, .agg #[.string ⟨#[115, 116, 109]⟩, .int .u8 (31 : Int), .int .i64 (4 : Int)]), (28, .agg #[.string ⟨#[122, 109, 111, 118]⟩, .int .u8 (32 : Int), .int .i64 (5 : Int)]), (29, .agg #[.string ⟨#[122, 97, 100, 100]⟩, .int .u8 (33 : Int), .int .i64 (5 : Int)]), (30, .agg #[.string ⟨#[122, 115, 117, 98]⟩, .int .u8 (34 : Int), .int .i64 (5 : Int)]), (31, .agg #[.string ⟨#[122, 109, 117, 108]⟩, .int .u8 (35 : Int), .int .i64 (5 : Int)]), (32, .agg #[.string ⟨#[122, 114, 101]⟩, .int .u8 (36 : Int), .int .i64 (6 : Int)]), (33, .agg #[.string ⟨#[122, 105, 109]⟩, .int .u8 (37 : Int), .int .i64 (6 : Int)]), (34, .agg #[.string ⟨#[122, 115, 101, 116]⟩, .int .u8 (38 : Int), .int .i64 (7 : Int)]), (35, .agg #[.string ⟨#[108, 105, 115]⟩, .int .u8 (48 : Int), .int .i64 (8 : Int)]), (36, .agg #[.string ⟨#[116, 114, 97, 112]⟩, .int .u8 (49 : Int), .int .i64 (9 : Int)]), (37, .agg #[.string ⟨#[108, 105]⟩, .int .u8 (50 : Int), .int .i64 (10 : Int)]), (38, .agg #[.string ⟨#[108, 100, 112]⟩, .int .u8 (51 : Int), .int .i64 (11 : Int)]), (39, .agg #[.string ⟨#[106, 109, 112]⟩, .int .u8 (64 : Int), .int .i64 (12 : Int)]), (40, .agg #[.string ⟨#[99, 97, 108, 108]⟩, .int .u8 (67 : Int), .int .i64 (12 : Int)]), (41, .agg #[.string ⟨#[106, 122]⟩, .int .u8 (70 : Int), .int .i64 (13 : Int)]), (42, .agg #[.string ⟨#[106, 110, 122]⟩, .int .u8 (73 : Int), .int .i64 (13 : Int)])]
def opsN (k : Nat) : ByteArray := match opsP[k]? with | some (_, .agg #[.string s, _, _]) => s | _ => ⟨#[]⟩
def opsB (k : Nat) : Int := match opsP[k]? with | some (_, .agg #[_, .int _ b, _]) => b | _ => 0
theorem u168 : Tryz.prog.underlying 168 = some (.slice 170) := by kernel_rfl
theorem opZ : (Tryz.prog.info? 170).map (fun i => (i.zero, i.size, i.bytes)) = some (some (.agg #[.string ⟨#[]⟩, .int .u8 0, .int .i64 0]), 3, 32) := by kernel_rfl
theorem fillOps : Instr.fill (fun j => some (j * 3, 3)) ((Array.range (43 * 3)).map ((Value.agg #[.string ⟨#[]⟩, .int .u8 0, .int .i64 0]).cells[· % (Value.agg #[.string ⟨#[]⟩, .int .u8 0, .int .i64 0]).cells.size]!)) opsP.toList = some (rowsV opsN opsB).toArray := by kernel_rfl
theorem ops_hc (h : Hp) : HC Tryz.prog 102 #[] h fun v h' => v = .slice (some ⟨h.size, 0, none⟩) 43 43 ∧ Box h' h.size 170 (rowsV opsN opsB) ∧ Ext h h' := by
  refine hcr_of (args := []) mixed Tryz.func102 (by kernel_rfl) t_spandrelref5_Ops_eq ?_
  show (T.sem Tryz.prog (Instr.buildSlice 168 43 opsP) false [(false, [.slice 0])] <| fun (p0 : Option Addr) (l1 : Nat) (l2 : Nat) => T.ret (.slice p0 l1 l2)) [] _ h
  refine lit_of u168 opZ (by omega) (by omega) fillOps ?_
  intro h1 b1 e1 z1
  exact ⟨rfl, b1, e1⟩
theorem rowsV_shp {nm : Nat → ByteArray} {by_ : Nat → Int} {k : Nat} (hk : k < 43) : (rowsV nm by_)[k * 3 + 2]? = some (.int .i64 (shpL.getD k 0 : Nat)) := by
  unfold rowsV
  rw [flat_get _ 3 (by simp) _ _ _ (by omega)]
  simp [hk]
theorem shape_hc (h : Hp) (op : Int) (ho : Sm op) : HC Tryz.prog 93 #[.int .i64 op] h fun w h' => w = .int .i64 (shp op : Nat) ∧ Ext h h' := by
  refine hcr_of (args := [.int .i64 op]) mixed Tryz.func93 (by kernel_rfl) (t_spandrelref5_Shape_eq op) ?_
  unfold t_spandrelref5_Shape
  refine call_of (ops_hc h) ?_
  rintro _ h1 ⟨rfl, b1, e1⟩
  refine ⟨((some ⟨h.size, 0, none⟩, 43, 43), ()), rfl, ?_⟩
  dsimp only [flat, unc, unc1, List.nil_append, List.cons_append]
  have z0 : op < 1 ∨ 43 < op → shp op = 0 := by
    intro hh
    by_cases h0 : shp op = 0
    · exact h0
    · have := shp_le op h0
      omega
  refine cond_mk (fun q => ?_) (fun q => ?_)
  · have q := of_decide_eq_true q
    rw [z0 (.inl q)]
    exact ⟨rfl, e1⟩
  have q := of_decide_eq_false q
  refine cond_mk (fun r => ?_) (fun r => ?_)
  · have r : op > ((43 : Nat) : Int) := of_decide_eq_true r
    rw [z0 (.inr (by omega))]
    exact ⟨rfl, e1⟩
  have r : ¬ op > ((43 : Nat) : Int) := of_decide_eq_false r
  obtain ⟨k, hk⟩ : ∃ k : Nat, op = (k : Int) + 1 := ⟨(op - 1).toNat, by omega⟩
  rw [wrap_i64 (by omega) (by omega), show op - 1 = (k : Int) by omega]
  have hk43 : k < 43 := by omega
  refine need_of ⟨by omega, by omega⟩ ?_
  refine osome_mk rfl ?_
  rw [show Int.toNat (k : Int) = k from rfl, add_box, add_box]
  have hs : shp op = shpL.getD k 0 := by
    unfold shp
    rw [if_neg (by omega), show (op - 1).toNat = k by omega]
  refine loads_box b1 (((shpL.getD k 0 : Nat) : Int), ()) ?_ ?_
  · show List.take 1 (List.drop (0 + k * 3 + 2) (rowsV opsN opsB)) = [.int .i64 ((shpL.getD k 0 : Nat) : Int)]
    have := rowsV_shp (nm := opsN) (by_ := opsB) hk43
    rw [Nat.zero_add]
    obtain ⟨hlt, hv⟩ := List.getElem?_eq_some_iff.1 this
    rw [List.drop_eq_getElem_cons hlt, List.take_succ_cons, List.take_zero, hv]
  · rw [hs]
    exact ⟨rfl, e1⟩
theorem spans2_hc (h : Hp) (op : Int) (ho : Sm op) : HC Tryz.prog 73 #[.int .i64 op] h fun w h' => w = .bool (spn op) ∧ Ext h h' := by
  refine hcr_of (args := [.int .i64 op]) mixed Tryz.func73 (by kernel_rfl) (t_spandrelref5_Spans_eq op) ?_
  unfold t_spandrelref5_Spans
  have hc := shp_cases op
  refine call_of (shape_hc h op ho) ?_
  rintro _ h1 ⟨rfl, e1⟩
  refine ⟨(((shp op : Nat) : Int), ()), rfl, ?_⟩
  dsimp only [flat, unc, unc1, List.nil_append, List.cons_append]
  refine cond_mk (fun q => ?_) (fun q => ?_)
  · have q : shp op = 12 := eqN_t q
    exact ⟨by unfold spn; rw [q]; rfl, e1⟩
  have q : ¬ shp op = 12 := eqN_f q
  refine call_of (shape_hc h1 op ho) ?_
  rintro _ h2 ⟨rfl, e2⟩
  refine ⟨(((shp op : Nat) : Int), ()), rfl, ?_⟩
  refine ⟨?_, e1.trans e2⟩
  congr 1
  unfold spn
  by_cases g : shp op = 13
  · rw [g]; rfl
  · rw [decide_eq_false (by omega)]
    exact neK (c := 13) g
theorem hasE_hc (h : Hp) (op : Int) (ho : Sm op) : HC Tryz.prog 75 #[.int .i64 op] h fun w h' => w = .bool (wnt op) ∧ Ext h h' := by
  refine hcr_of (args := [.int .i64 op]) mixed Tryz.func75 (by kernel_rfl) (t_spandrelref8_HasE_eq op) ?_
  unfold t_spandrelref8_HasE
  have hc := shp_cases op
  refine call_of (shape_hc h op ho) ?_
  rintro _ h1 ⟨rfl, e1⟩
  refine ⟨(((shp op : Nat) : Int), ()), rfl, ?_⟩
  dsimp only [flat, unc, unc1, List.nil_append, List.cons_append]
  refine cond_mk (fun q => ?_) (fun q1 => ?_)
  · have q : shp op = 10 := eqN_t q
    exact ⟨by unfold wnt; rw [q]; rfl, e1⟩
  have q1 : ¬ shp op = 10 := eqN_f q1
  refine cond_mk (fun q => ?_) (fun q2 => ?_)
  · have q : shp op = 11 := eqN_t q
    exact ⟨by unfold wnt; rw [q]; rfl, e1⟩
  have q2 : ¬ shp op = 11 := eqN_f q2
  refine cond_mk (fun q => ?_) (fun q3 => ?_)
  · have q : shp op = 12 := eqN_t q
    exact ⟨by unfold wnt; rw [q]; rfl, e1⟩
  have q3 : ¬ shp op = 12 := eqN_f q3
  refine ⟨?_, e1⟩
  congr 1
  unfold wnt
  by_cases g : shp op = 13
  · rw [g]; rfl
  · rw [decide_eq_false (by omega)]
    exact neK (c := 13) g
theorem fits_hc (h : Hp) (n w : Int) : HCp Tryz.prog 95 [.int .i32 n, .int .i64 w] h (.bool ((decide (w = 1) || decide (w = 2) || decide (w = 4)) && nReach n w)) := by
  refine hcp_of mixed Tryz.func95 (by kernel_rfl) (t_spandrelref1_Fits_eq n w) ?_
  unfold t_spandrelref1_Fits nReach
  refine cond_mk (fun q => ?_) (fun q1 => ?_)
  · have q : w = 1 := by simpa using q
    rw [if_pos q, q]
    refine cond_mk (fun r => ⟨?_, rfl⟩) (fun r => ⟨?_, rfl⟩)
    · have r := of_decide_eq_true r
      rw [decide_eq_true (show -128 ≤ n from r)]
      simp
    · have r := of_decide_eq_false r
      rw [decide_eq_false (show ¬ -128 ≤ n from r)]
      simp
  have q1 : ¬ w = 1 := by simpa using q1
  rw [if_neg q1]
  refine cond_mk (fun q => ?_) (fun q2 => ?_)
  · have q : w = 2 := by simpa using q
    rw [if_pos q, q]
    refine cond_mk (fun r => ⟨?_, rfl⟩) (fun r => ⟨?_, rfl⟩)
    · have r := of_decide_eq_true r
      rw [decide_eq_true (show -32768 ≤ n from r)]
      simp
    · have r := of_decide_eq_false r
      rw [decide_eq_false (show ¬ -32768 ≤ n from r)]
      simp
  have q2 : ¬ w = 2 := by simpa using q2
  rw [if_neg q2]
  refine cond_mk (fun q => ?_) (fun q3 => ?_)
  · have q : w = 4 := by simpa using q
    rw [q]
    exact ⟨rfl, rfl⟩
  · have q3 : ¬ w = 4 := by simpa using q3
    rw [decide_eq_false q1, decide_eq_false q2, decide_eq_false q3]
    exact ⟨rfl, rfl⟩
end Go.Sx.Ob

set_option linter.unusedVariables false
set_option linter.unusedSimpArgs false
set_option maxRecDepth 100000
namespace Go.Sx.Ob
open Go.Proofs
def aA (s : Nat) : Nat := if s = 2 ∨ s = 8 ∨ s = 10 ∨ s = 11 ∨ s = 13 ∨ s = 4 ∨ s = 6 then 8 else if s = 3 ∨ s = 5 ∨ s = 7 then 4 else 0
def bB (s : Nat) : Nat := if s = 4 ∨ s = 7 then 8 else if s = 5 ∨ s = 6 then 4 else 0
theorem regs_iff {s : Nat} (hs : 1 ≤ s ∧ s ≤ 13) (a b n : Int) : regsR s a b n = true ↔ (0 ≤ a ∧ 0 ≤ b ∧ (a < (aA s : Int) ∨ (aA s = 0 ∧ a = 0)) ∧ (b < (bB s : Int) ∨ (bB s = 0 ∧ b = 0)) ∧ (s = 7 → 0 ≤ n ∧ n ≤ 7)) := by
  have : s = 1 ∨ s = 2 ∨ s = 3 ∨ s = 4 ∨ s = 5 ∨ s = 6 ∨ s = 7 ∨ s = 8 ∨ s = 9 ∨ s = 10 ∨ s = 11 ∨ s = 12 ∨ s = 13 := by omega
  unfold regsR blw aA bB
  rcases this with rfl | rfl | rfl | rfl | rfl | rfl | rfl | rfl | rfl | rfl | rfl | rfl | rfl <;> simp <;> omega
theorem regs2_hc' (h : Hp) (op a b n form : Int) (ho : Sm op) (hs : shp op ≠ 0) : HC Tryz.prog 94 #[insV op a b n form] h fun w h' => w = .bool (regsR (shp op) a b n) ∧ Ext h h' := by
  refine hcr_of (args := [insV op a b n form]) mixed Tryz.func94 (by kernel_rfl) (t_spandrelref5_registers_eq op a b n form) ?_
  unfold t_spandrelref5_registers
  have hc : 1 ≤ shp op ∧ shp op ≤ 13 := by have := shp_cases op; omega
  refine newB ?_
  intro h1 b1 e1 z1
  refine loads_box b1 (op, ()) rfl ?_
  dsimp only [flat, unc, unc1, List.nil_append, List.cons_append]
  refine call_of (shape_hc h1 op ho) ?_
  rintro _ h2 ⟨rfl, e2⟩
  refine ⟨(((shp op : Nat) : Int), ()), rfl, ?_⟩
  dsimp only [flat, unc, unc1, List.nil_append, List.cons_append]
  have b2 := b1.keep e2 (by simp)
  have e02 := e1.trans e2
  have hiff := regs_iff hc a b n
  generalize shp op = s at *
  generalize regsR s a b n = R at *
  refine join_of (cs := [(false, [.int .i64]), (false, [.int .i64])]) (fun y h' => y = (((aA s : Nat) : Int), ((bB s : Nat) : Int), ()) ∧ h2 = h') ?_ ?_
  · have : s = 1 ∨ s = 2 ∨ s = 3 ∨ s = 4 ∨ s = 5 ∨ s = 6 ∨ s = 7 ∨ s = 8 ∨ s = 9 ∨ s = 10 ∨ s = 11 ∨ s = 12 ∨ s = 13 := by omega
    rcases this with rfl | rfl | rfl | rfl | rfl | rfl | rfl | rfl | rfl | rfl | rfl | rfl | rfl
    all_goals (repeat (first | refine cond_t rfl ?_ | refine cond_f rfl ?_))
    all_goals exact meet_mk (cs := [(false, [.int .i64]), (false, [.int .i64])]) (((aA _ : Nat) : Int), ((bB _ : Nat) : Int), ()) rfl rfl ⟨rfl, rfl⟩
  rintro ⟨A, B, ⟨⟩⟩ _ ⟨hy, rfl⟩
  cases hy
  dsimp only [flat, unc, unc1, List.nil_append, List.cons_append]
  simp only [add_box]
  have fin : ∀ b : Bool, (b = true ↔ R = true) → (T.ret (.bool b)) [] (fun w h' => w = .bool R ∧ Ext h h') h2 := by
    intro b hb
    refine ⟨?_, e02⟩
    cases b <;> cases R <;> simp_all
  repeat' (first
    | (refine loads_box b2 (a, ()) rfl ?_; dsimp only [flat, unc, unc1, List.nil_append, List.cons_append])
    | (refine loads_box b2 (b, ()) rfl ?_; dsimp only [flat, unc, unc1, List.nil_append, List.cons_append])
    | (refine loads_box b2 (n, ()) rfl ?_; dsimp only [flat, unc, unc1, List.nil_append, List.cons_append])
    | refine fin _ ?_
    | refine cond_mk (fun q => ?_) (fun q => ?_))
  all_goals (rw [hiff]; simp only [decide_eq_true_eq, decide_eq_false_iff_not, bne_iff_ne, ne_eq, bne_eq_false_iff_eq, Bool.false_eq_true, false_iff, true_iff] at *; omega)
def fitV (n w : Int) : Bool := (decide (w = 1) || decide (w = 2) || decide (w = 4)) && nReach n w
def fitP (n w : Int) : Prop := (w = 1 ∧ -128 ≤ n ∧ n ≤ 127) ∨ (w = 2 ∧ -32768 ≤ n ∧ n ≤ 32767) ∨ w = 4
theorem fit_iff (n w : Int) : fitV n w = true ↔ fitP n w := by
  unfold fitV nReach fitP
  by_cases h1 : w = 1
  · subst h1; simp
  · by_cases h2 : w = 2
    · subst h2; simp
    · by_cases h4 : w = 4
      · subst h4; simp
      · simp [h1, h2, h4]
theorem fit_no (n w : Int) : fitV n w = false ↔ ¬ fitP n w := by
  rw [← fit_iff]
  simp
theorem chk_iff {i : Ins} (h0 : shp i.op ≠ 0) (hR : regsR (shp i.op) i.a i.b i.n = true) (P : Prop) (hP : P ↔ ((shp i.op = 12 ∨ shp i.op = 13 → fitP i.n i.form) ∧ (shp i.op ≠ 12 ∧ shp i.op ≠ 13 → i.form = 0) ∧ (shp i.op = 8 → -128 ≤ i.n ∧ i.n ≤ 127) ∧ (shp i.op = 9 → 0 ≤ i.n ∧ i.n ≤ 255) ∧ (shp i.op = 11 → 0 ≤ i.n ∧ i.n ≤ 4095) ∧
    (shp i.op < 7 → i.n = 0))) : (P → chkR i = 0) ∧ (¬ P → chkR i = 13) := by
  obtain ⟨op, a, b, n, form⟩ := i
  simp only at *
  have hc := shp_cases op
  have key : (!spn op && decide (form ≠ 0) || !nR (shp op) n form) = true ↔ ¬ P := by
    rw [hP]
    unfold spn nR nReach fitP
    have : shp op = 1 ∨ shp op = 2 ∨ shp op = 3 ∨ shp op = 4 ∨ shp op = 5 ∨ shp op = 6 ∨ shp op = 7 ∨ shp op = 8 ∨ shp op = 9 ∨ shp op = 10 ∨ shp op = 11 ∨ shp op = 12 ∨ shp op = 13 := by omega
    rcases this with h | h | h | h | h | h | h | h | h | h | h | h | h <;> rw [h]
    all_goals (
      by_cases f1 : form = 1
      · subst f1; simp; try omega
      · by_cases f2 : form = 2
        · subst f2; simp; try omega
        · by_cases f4 : form = 4
          · subst f4; simp; try omega
          · by_cases f0 : form = 0
            · subst f0; simp; try omega
            · simp [f1, f2, f4, f0])
  unfold chkR
  simp only
  rw [if_neg h0, hR, if_neg (by simp)]
  refine ⟨fun hp => ?_, fun hp => ?_⟩
  · rw [if_neg (fun e => key.1 e hp)]
  · rw [if_pos (key.2 hp)]
theorem check2_hc (h : Hp) (op a b n form : Int) (ho : Sm op) : HC Tryz.prog 74 #[insV op a b n form] h fun w h' => w = .int .i64 (chkR ⟨op, a, b, n, form⟩) ∧ Ext h h' := by
  refine hcr_of (args := [insV op a b n form]) mixed Tryz.func74 (by kernel_rfl) (t_spandrelref5_Check_eq op a b n form) ?_
  unfold t_spandrelref5_Check
  refine newB ?_
  intro h1 b1 e1 z1
  refine loads_box b1 (op, ()) rfl ?_
  dsimp only [flat, unc, unc1, List.nil_append, List.cons_append]
  refine call_of (shape_hc h1 op ho) ?_
  rintro _ h2 ⟨rfl, e2⟩
  refine ⟨(((shp op : Nat) : Int), ()), rfl, ?_⟩
  dsimp only [flat, unc, unc1, List.nil_append, List.cons_append]
  have b2 := b1.keep e2 (by simp)
  have e02 := e1.trans e2
  refine cond_mk (fun q => ?_) (fun q => ?_)
  · have q : shp op = 0 := eqN_t q
    exact ⟨by unfold chkR; simp only; rw [if_pos q], e02⟩
  have q : ¬ shp op = 0 := eqN_f q
  refine loads_box b2 (op, a, b, n, form, ()) rfl ?_
  dsimp only [flat, unc, unc1, List.nil_append, List.cons_append]
  refine call_boolx (regs2_hc' h2 op a b n form ho q) ?_
  intro h3 e3
  have b3 := b2.keep e3 (by simp)
  have e03 := e02.trans e3
  refine cond_mk (fun r => ?_) (fun r => ?_)
  · have r : regsR (shp op) a b n = false := by simpa using r
    exact ⟨by unfold chkR; simp only; rw [if_neg q, r, if_pos rfl], e03⟩
  have r : regsR (shp op) a b n = true := by simpa using r
  have hc := shp_cases op
  obtain ⟨k0, k13⟩ := chk_iff (i := ⟨op, a, b, n, form⟩) q r _ Iff.rfl
  simp only at k0 k13
  generalize chkR ⟨op, a, b, n, form⟩ = C at *
  generalize shp op = s at *
  clear r
  have f0 : ((s = 12 ∨ s = 13 → fitP n form) ∧ (s ≠ 12 ∧ s ≠ 13 → form = 0) ∧ (s = 8 → -128 ≤ n ∧ n ≤ 127) ∧ (s = 9 → 0 ≤ n ∧ n ≤ 255) ∧ (s = 11 → 0 ≤ n ∧ n ≤ 4095) ∧ (s < 7 → n = 0)) → (T.ret (.int .i64 (0 : Int))) [] (fun w h' => w = .int .i64 C ∧ Ext h h') h3 := fun hp => ⟨by rw [k0 hp], e03⟩
  have f13 : ¬ ((s = 12 ∨ s = 13 → fitP n form) ∧ (s ≠ 12 ∧ s ≠ 13 → form = 0) ∧ (s = 8 → -128 ≤ n ∧ n ≤ 127) ∧ (s = 9 → 0 ≤ n ∧ n ≤ 255) ∧ (s = 11 → 0 ≤ n ∧ n ≤ 4095) ∧ (s < 7 → n = 0)) → (T.ret (.int .i64 (13 : Int))) [] (fun w h' => w = .int .i64 C ∧ Ext h h') h3 := fun hp => ⟨by rw [k13 hp], e03⟩
  clear k0 k13
  simp only [add_box]
  repeat' (first
    | (refine loads_box b3 (n, ()) rfl ?_; dsimp only [flat, unc, unc1, List.nil_append, List.cons_append])
    | (refine loads_box b3 (form, ()) rfl ?_; dsimp only [flat, unc, unc1, List.nil_append, List.cons_append])
    | refine f0 ?_
    | refine f13 ?_
    | refine call_bool (b := fitV n form) (fits_hc h3 n form) ?_
    | refine cond_mk (fun q => ?_) (fun q => ?_))
  all_goals (
    clear f0 f13
    simp only [decide_eq_true_eq, decide_eq_false_iff_not, bne_iff_ne, ne_eq, bne_eq_false_iff_eq, beq_iff_eq, beq_eq_false_iff_ne, Bool.not_eq_true', Bool.not_eq_false', fit_iff, fit_no, fitP] at *
    omega)
end Go.Sx.Ob

set_option linter.unusedVariables false
set_option linter.unusedSimpArgs false
set_option maxRecDepth 100000
namespace Go.Sx.Ob
open Go.Proofs
def bareV (x : Itm) (b1 b2 b3 b4 : Bool) : Bool := (!b1 || z1 x) && ((!b2 || z2 x) && ((!b3 || z3 x) && (!b4 || z4 x)))
theorem emptyL (s : ByteArray) : (ByteArray.toList s == ([] : List UInt8)) = decide (s = nam0) := by
  have := beqL s nam0
  rw [show ByteArray.toList nam0 = [] by rw [ByteArray.toList_eq]; rfl] at this
  exact this
theorem cmpIns0 (n : Nat) (m : Nat) (i : Ins) (h : Hp) (K : Value → Hp → Prop) (hk : K (.bool (decide (i = ins0))) h) :
    semW Tryz.prog (Sx.cmpS (BinOp.eql) 100 (Operand.tmp n) (Operand.tmp m) (.agg #[.int .i64 i.op, .int .i64 i.a, .int .i64 i.b, .int .i32 i.n, .int .i64 i.form]) (.agg #[.int .i64 (0 : Int), .int .i64 (0 : Int), .int .i64 (0 : Int), .int .i32 (0 : Int), .int .i64 (0 : Int)])) h K :=
  cmpInsE _ _ i ins0 h K hk
theorem bare_hc {h : Hp} {x : Itm} {p : Option Addr} {l c : Nat} (v : VwT h p l x.e.terms) (b1 b2 b3 b4 : Bool) :
    HC Tryz.prog 72 #[itmV p l c x, .bool b1, .bool b2, .bool b3, .bool b4] h fun w h' => w = .bool (bareV x b1 b2 b3 b4) ∧ Ext h h' := by
  refine hcr_of (args := [itmV p l c x, .bool b1, .bool b2, .bool b3, .bool b4]) mixed Tryz.func72 (by kernel_rfl) (t_spandrelref8_bare_eq x.kind x.name x.inst.op x.inst.a x.inst.b x.inst.n x.inst.form p l c x.e.num x.n b1 b2 b3 b4) ?_
  unfold t_spandrelref8_bare
  have hl := v.len
  have hz : isZ x.e = (decide (l = 0) && decide (x.e.num = 0)) := by
    unfold isZ
    congr 1
    rw [hl]
    simp
  refine newB ?_
  intro h1 bx e1 zz1
  have bx : Box h1 h.size 102 (encI p l c x) := bx
  simp only [add_box]
  unfold bareV z1 z2 z3 z4
  rw [hz]
  repeat' (first
    | (refine loads_box bx (x.n, ()) rfl ?_; dsimp only [flat, unc, unc1, List.nil_append, List.cons_append])
    | (refine loads_box bx (x.name, ()) rfl ?_; dsimp only [flat, unc, unc1, List.nil_append, List.cons_append])
    | (refine loads_box bx ((p, l, c), ()) rfl ?_; dsimp only [flat, unc, unc1, List.nil_append, List.cons_append])
    | (refine loads_box bx ((x.e.num : Int), ()) rfl ?_; dsimp only [flat, unc, unc1, List.nil_append, List.cons_append])
    | (refine loads_box bx (x.inst.op, x.inst.a, x.inst.b, x.inst.n, x.inst.form, ()) rfl ?_; dsimp only [flat, unc, unc1, List.nil_append, List.cons_append])
    | refine sem_bool (fun K' hK => cmpIns0 _ _ x.inst h1 K' hK) ?_
    | refine ⟨congrArg Value.bool ?_, e1⟩
    | refine cond_mk (fun q => ?_) (fun q => ?_))
  all_goals (
    try simp only [emptyL] at *
    simp_all [beqD])
  all_goals omega
/-- An item is laid down, and asked whether it bears nothing else. -/
def bareT (g : Nat) (b1 b2 b3 b4 : Bool) (k : Bool → T) : T :=
  T.loads ⟨g, 0, none⟩ [.int .i64, .string, .int .i64, .int .i64, .int .i64, .int .i32, .int .i64, .slice 104, .int .u32, .int .i64] <| fun (n5 : Int) (s6 : ByteArray) (n7 : Int) (n8 : Int) (n9 : Int) (n10 : Int) (n11 : Int) (p12 : Option Addr) (l13 : Nat) (l14 : Nat) (n15 : Int) (n16 : Int) =>
    T.call Tryz.prog 72 [.agg #[.int .i64 n5, .string s6, .int .i64 n7, .int .i64 n8, .int .i64 n9, .int .i32 n10, .int .i64 n11, .slice p12 l13 l14, .int .u32 n15, .int .i64 n16], .bool b1, .bool b2, .bool b3, .bool b4] false [(false, [.bool])] k
theorem bareT_of {L : Lp} {K : Value → Hp → Prop} {h : Hp} {g : Nat} {x : Itm} {p : Option Addr} {l c : Nat} {b1 b2 b3 b4 : Bool} {k : Bool → T} (bx : Box h g 102 (encI p l c x)) (v : VwT h p l x.e.terms) (hk : ∀ h', Ext h h' → k (bareV x b1 b2 b3 b4) L K h') : bareT g b1 b2 b3 b4 k L K h := by
  unfold bareT
  refine loads_box bx (x.kind, x.name, x.inst.op, x.inst.a, x.inst.b, x.inst.n, x.inst.form, (p, l, c), (x.e.num : Int), x.n, ()) rfl ?_
  dsimp only [flat, unc, unc1, List.nil_append, List.cons_append]
  exact call_boolx (bare_hc v b1 b2 b3 b4) hk
theorem power2_hc (h : Hp) (n : Int) : HCp Tryz.prog 76 [.int .i64 n] h (.bool (pow2 n)) := by
  refine hcp_of mixed Tryz.func76 (by kernel_rfl) (t_spandrelref8_power_eq n) ?_
  unfold t_spandrelref8_power
  refine loop_of (cs := [(false, [.bool]), (false, [.int .i64])]) (fun y m h' => ∃ k : Nat, y = (false, ((2 ^ k : Nat) : Int), ()) ∧ m = 9 - k ∧ k ≤ 9 ∧ h' = h ∧ (∀ j, j < k → ¬ n = ((2 ^ j : Nat) : Int))) (false, (1 : Int), ()) 9 rfl
    ⟨0, rfl, rfl, by omega, rfl, fun j hj => by omega⟩ ?_
  rintro ⟨b1, n2, ⟨⟩⟩ m h1 ⟨k, hy, hm, hk, rfl, hj⟩
  cases hy
  dsimp only [flat, unc, unc1, List.nil_append, List.cons_append]
  refine cond_mk (fun q => ?_) (fun q => ?_)
  · have q := of_decide_eq_true q
    have hk8 : k ≤ 8 := by
      by_cases g : k = 9
      · subst g
        exact absurd q (by decide)
      · omega
    refine cond_mk (fun r => ?_) (fun r => ?_)
    · have r : n = ((2 ^ k : Nat) : Int) := by simpa using r
      refine ⟨?_, rfl⟩
      have : k = 0 ∨ k = 1 ∨ k = 2 ∨ k = 3 ∨ k = 4 ∨ k = 5 ∨ k = 6 ∨ k = 7 ∨ k = 8 := by omega
      rcases this with rfl | rfl | rfl | rfl | rfl | rfl | rfl | rfl | rfl <;> (rw [r]; rfl)
    · have r : ¬ n = ((2 ^ k : Nat) : Int) := by simpa using r
      have hp : 2 ^ k ≤ 2 ^ 8 := Nat.pow_le_pow_right (by omega) hk8
      have hp2 : ((2 ^ k : Nat) : Int) ≤ 256 := by exact_mod_cast hp
      have hp3 : (0 : Int) ≤ ((2 ^ k : Nat) : Int) := Int.natCast_nonneg _
      rw [wrap_i64 (by omega) (by omega)]
      have h2 : (2 : Int) * ((2 ^ k : Nat) : Int) = ((2 ^ (k + 1) : Nat) : Int) := by rw [Nat.pow_succ]; omega
      rw [h2]
      refine again_mk (cs := [(false, [.bool]), (false, [.int .i64])]) (false, ((2 ^ (k + 1) : Nat) : Int), ()) (9 - (k + 1)) rfl (by omega) rfl ⟨k + 1, rfl, rfl, by omega, rfl, fun j hj' => ?_⟩
      by_cases g : j = k
      · subst g; exact r
      · exact hj j (by omega)
  · have q := of_decide_eq_false q
    have hk9 : k = 9 := by
      by_cases g : k = 9
      · exact g
      · have hp : 2 ^ k ≤ 2 ^ 8 := Nat.pow_le_pow_right (by omega) (by omega)
        omega
    subst hk9
    refine ⟨?_, rfl⟩
    have a0 := hj 0 (by omega)
    have a1 := hj 1 (by omega)
    have a2 := hj 2 (by omega)
    have a3 := hj 3 (by omega)
    have a4 := hj 4 (by omega)
    have a5 := hj 5 (by omega)
    have a6 := hj 6 (by omega)
    have a7 := hj 7 (by omega)
    have a8 := hj 8 (by omega)
    unfold pow2
    simp only [Nat.reducePow] at a0 a1 a2 a3 a4 a5 a6 a7 a8
    rw [decide_eq_false (by omega), decide_eq_false (by omega), decide_eq_false (by omega), decide_eq_false (by omega), decide_eq_false (by omega), decide_eq_false (by omega), decide_eq_false (by omega), decide_eq_false (by omega), decide_eq_false (by omega)]
    rfl
theorem right2_0 {h : Hp} {x : Itm} {p : Option Addr} {l c : Nat} (v : ItmAt h p l x) : HC Tryz.prog 42 #[itmV p l c x, .int .i64 (0 : Int)] h fun w h' => w = no31 (itmR x 0) ∧ Ext h h' := by
  refine hcr_of (args := [itmV p l c x, .int .i64 (0 : Int)]) mixed Tryz.func42 (by kernel_rfl) (t_spandrelref8_Right_s0_eq x.kind x.name x.inst.op x.inst.a x.inst.b x.inst.n x.inst.form p l c x.e.num x.n) ?_
  unfold t_spandrelref8_Right_s0
  have hml : maxLen = 9223372036854775807 := rfl
  refine newB ?_
  intro h1 b1 e1 z1'
  have b1 : Box h1 h.size 102 (encI p l c x) := b1
  have v1 := v.keep e1
  simp only [add_box]
  refine join_of (cs := [(false, [.bool])]) (fun y h' => y.1 = itmR x 0 ∧ Ext h h') ?_ ?_
  rotate_left
  · rintro ⟨b2, ⟨⟩⟩ h' ⟨hy, e'⟩
    simp only at hy
    subst hy
    dsimp only [flat, unc, unc1, List.nil_append, List.cons_append]
    cases hr : itmR x 0
    · exact ⟨rfl, e'⟩
    · exact ⟨rfl, e'⟩
  have fin : ∀ (b : Bool) (h' : Hp), b = itmR x 0 → Ext h h' → T.again 0 [.bool b] [fun vs h' => ∃ y : HVs (flat [(false, [.bool])]), vs = parts [(false, [.bool])] (hvs _ y) ∧ (y.1 = itmR x 0 ∧ Ext h h')] (fun w h' => w = no31 (itmR x 0) ∧ Ext h h') h' := by
    rintro b h' rfl e'
    exact meet_mk (cs := [(false, [.bool])]) (J := fun y h' => y.1 = itmR x 0 ∧ Ext h h') (itmR x 0, ()) rfl rfl ⟨rfl, e'⟩
  refine loads_box b1 (x.kind, ()) rfl ?_
  dsimp only [flat, unc, unc1, List.nil_append, List.cons_append]
  by_cases k1 : x.kind = 1
  · refine cond_t (by rw [k1]; rfl) ?_
    have hit : itmR x 0 = (legalL x.name.data.toList && z2 x && z3 x && z4 x) := by unfold itmR; rw [if_pos k1]
    refine loads_box b1 (x.name, ()) rfl ?_
    dsimp only [flat, unc, unc1, List.nil_append, List.cons_append]
    refine call_bool (legal2_hc x.name h1 (by have := v.name; omega)) ?_
    refine cond_mk (fun q => ?_) (fun q => fin _ _ (by rw [hit, q]; rfl) e1)
    refine bareT_of b1 v1.lin.vw ?_
    intro h2 e2
    exact fin _ _ (by rw [hit, q]; unfold bareV; simp [Bool.and_assoc]) (e1.trans e2)
  refine cond_f (by simpa using k1) ?_
  by_cases k2 : x.kind = 2
  · refine cond_t (by rw [k2]; rfl) ?_
    have hit : itmR x 0 = (insR x.inst x.e && z1 x && z4 x) := by unfold itmR; rw [if_neg k1, if_pos k2]; simp
    refine loads_box b1 (x.inst.op, x.inst.a, x.inst.b, x.inst.n, x.inst.form, ()) rfl ?_
    dsimp only [flat, unc, unc1, List.nil_append, List.cons_append]
    refine newB ?_
    intro h2 b2 e2 z2'
    refine stores_of b2 rfl (by simp) ?_
    intro h3 b3 k3 z3'
    have b3 : Box h3 h1.size 100 (insC x.inst) := b3
    have e13 : Ext h1 h3 := e2.st k3 (Nat.le_refl _)
    have b13 := b1.keep e13 (by simp)
    rw [add_box]
    refine loads_box b3 (x.inst.form, ()) rfl ?_
    dsimp only [flat, unc, unc1, List.nil_append, List.cons_append]
    refine join_of (cs := []) (fun _ h' => Box h' h1.size 100 (insC { x.inst with form := if spn x.inst.op then 1 else x.inst.form }) ∧ Ext h1 h') ?_ ?_
    · refine loads_box b3 (x.inst.op, ()) rfl ?_
      dsimp only [flat, unc, unc1, List.nil_append, List.cons_append]
      refine call_boolx (spans2_hc h3 x.inst.op v.op) ?_
      intro h4 e4
      have b4 := b3.keep e4 (by simp)
      refine cond_mk (fun q => ?_) (fun q => ?_)
      · refine stores_of b4 rfl (by simp [insC]) ?_
        intro h5 b5 k5 z5
        exact meet_mk (cs := []) () rfl rfl ⟨by rw [if_pos q]; exact b5, (e13.trans e4).st k5 (by have := e13.size; omega)⟩
      · exact meet_mk (cs := []) () rfl rfl ⟨by rw [if_neg (by rw [q]; decide)]; exact b4, e13.trans e4⟩
    rintro _ h5 ⟨b5, e5⟩
    dsimp only [flat, unc, unc1, List.nil_append, List.cons_append]
    have b15 := b1.keep e5 (by simp)
    have v5 := v1.keep e5
    refine join_of (cs := [(false, [.bool])]) (fun y h' => y.1 = (decide (x.inst.form = 0) && decide (chkR { x.inst with form := if spn x.inst.op then 1 else x.inst.form } = 0) && (z1 x && z4 x)) ∧ Ext h5 h') ?_ ?_
    · refine cond_mk (fun q => ?_) (fun q => ?_)
      · have q : x.inst.form = 0 := by simpa using q
        refine loads_box b5 (x.inst.op, x.inst.a, x.inst.b, x.inst.n, ((if spn x.inst.op then (1 : Int) else x.inst.form) : Int), ()) rfl ?_
        dsimp only [flat, unc, unc1, List.nil_append, List.cons_append]
        refine call_of (check2_hc h5 x.inst.op x.inst.a x.inst.b x.inst.n (if spn x.inst.op then 1 else x.inst.form) v.op) ?_
        rintro _ h6 ⟨rfl, e6⟩
        refine ⟨(chkR { x.inst with form := if spn x.inst.op then 1 else x.inst.form }, ()), rfl, ?_⟩
        dsimp only [flat, unc, unc1, List.nil_append, List.cons_append]
        refine cond_mk (fun r => ?_) (fun r => ?_)
        · have r : chkR { x.inst with form := if spn x.inst.op then 1 else x.inst.form } = 0 := by simpa using r
          refine bareT_of (b15.keep e6 (by simp)) (v5.keep e6).lin.vw ?_
          intro h7 e7
          exact meet_mk (cs := [(false, [.bool])]) (bareV x true false false true, ()) rfl rfl ⟨by rw [decide_eq_true q, decide_eq_true r]; rfl, e6.trans e7⟩
        · have r : ¬ chkR { x.inst with form := if spn x.inst.op then 1 else x.inst.form } = 0 := by simpa using r
          exact meet_mk (cs := [(false, [.bool])]) (false, ()) rfl rfl ⟨by rw [decide_eq_true q, decide_eq_false r]; rfl, e6⟩
      · have q : ¬ x.inst.form = 0 := by simpa using q
        exact meet_mk (cs := [(false, [.bool])]) (false, ()) rfl rfl ⟨by rw [decide_eq_false q]; rfl, Ch.refl _ _⟩
    rintro ⟨b10, ⟨⟩⟩ h6 ⟨hy, e6⟩
    simp only at hy
    subst hy
    dsimp only [flat, unc, unc1, List.nil_append, List.cons_append]
    have b6 := b5.keep e6 (by simp)
    have b16 := b15.keep e6 (by simp)
    have v6 := v5.keep e6
    refine loads_box b6 (x.inst.op, ()) rfl ?_
    dsimp only [flat, unc, unc1, List.nil_append, List.cons_append]
    refine call_boolx (hasE_hc h6 x.inst.op v.op) ?_
    intro h7 e7
    have b7 := b6.keep e7 (by simp)
    have b17 := b16.keep e7 (by simp)
    have v7 := v6.keep e7
    have e07 := ((e1.trans e5).trans e6).trans e7
    have hchk : wnt x.inst.op = true → (decide (x.inst.form = 0) && decide (chkR { x.inst with form := if spn x.inst.op then 1 else x.inst.form } = 0) && (z1 x && z4 x) && (decide (x.inst.n = 0) && rtR none x.e.terms)) = itmR x 0 := by
      intro hw
      rw [hit]
      unfold insR
      rw [if_pos hw]
      by_cases f0 : x.inst.form = 0
      · rw [decide_eq_true f0, f0]
        by_cases c0 : chkR { x.inst with form := if spn x.inst.op then 1 else 0 } = 0
        · have hs := (chk_regs c0).1
          simp only at hs
          rw [decide_eq_true c0, decide_eq_true hs]
          simp only [Bool.true_and]
          ac_rfl
        · rw [decide_eq_false c0]
          simp
      · rw [decide_eq_false f0]
        simp
    have hchk2 : wnt x.inst.op = false → (decide (x.inst.form = 0) && decide (chkR { x.inst with form := if spn x.inst.op then 1 else x.inst.form } = 0) && (z1 x && z4 x) && z3 x) = itmR x 0 := by
      intro hw
      rw [hit]
      unfold insR
      rw [if_neg (show ¬ (wnt x.inst.op = true) by rw [hw]; decide)]
      have hsp : spn x.inst.op = false := by
        unfold wnt at hw
        unfold spn
        rw [decide_eq_false_iff_not] at hw ⊢
        omega
      rw [if_neg (show ¬ (spn x.inst.op = true) by rw [hsp]; decide)]
      by_cases f0 : x.inst.form = 0
      · rw [decide_eq_true f0]
        have hi : ({ x.inst with form := x.inst.form } : Ins) = x.inst := rfl
        rw [hi]
        by_cases c0 : chkR x.inst = 0
        · have hs := (chk_regs c0).1
          rw [decide_eq_true c0, decide_eq_true hs]
          unfold z3
          simp only [Bool.true_and]
          ac_rfl
        · rw [decide_eq_false c0]
          simp
      · rw [decide_eq_false f0]
        simp
    generalize (decide (x.inst.form = 0) && decide (chkR { x.inst with form := if spn x.inst.op then 1 else x.inst.form } = 0) && (z1 x && z4 x)) = G at *
    refine cond_mk (fun hw => ?_) (fun hw => ?_)
    · have hchk := hchk hw
      refine cond_mk (fun g => ?_) (fun g => fin _ _ (by rw [← hchk, g]; rfl) e07)
      refine loads_box b7 (x.inst.n, ()) rfl ?_
      dsimp only [flat, unc, unc1, List.nil_append, List.cons_append]
      refine cond_mk (fun r => ?_) (fun r => ?_)
      · have r : x.inst.n = 0 := by simpa using r
        refine loads_box b17 ((p, l, c), (x.e.num : Int), ()) rfl ?_
        dsimp only [flat, unc, unc1, List.nil_append, List.cons_append]
        refine call_of (right50_hc (c := c) v7.lin.vw (by have := v.lin.many; omega) v.lin.names) ?_
        rintro _ h8 ⟨rfl, e8⟩
        refine ⟨(rtR none x.e.terms, ()), rfl, ?_⟩
        exact fin _ _ (by rw [← hchk, g, decide_eq_true r]; simp) (e07.trans e8)
      · have r : ¬ x.inst.n = 0 := by simpa using r
        exact fin _ _ (by rw [← hchk, decide_eq_false r]; simp) e07
    · have hchk := hchk2 hw
      refine cond_mk (fun g => ?_) (fun g => fin _ _ (by rw [← hchk, g]; rfl) e07)
      refine bareT_of b17 v7.lin.vw ?_
      intro h8 e8
      exact fin _ _ (by rw [← hchk, g]; unfold bareV; simp) (e07.trans e8)
  refine cond_f (by simpa using k2) ?_
  by_cases k3 : x.kind = 3
  · refine cond_t (by rw [k3]; rfl) ?_
    have hit : itmR x 0 = (pow2 x.n && z1 x && z2 x && z3 x) := by unfold itmR; rw [if_neg k1, if_neg k2, if_pos k3]
    refine loads_box b1 (x.n, ()) rfl ?_
    dsimp only [flat, unc, unc1, List.nil_append, List.cons_append]
    refine call_bool (power2_hc h1 x.n) ?_
    refine cond_mk (fun q => ?_) (fun q => fin _ _ (by rw [hit, q]; rfl) e1)
    refine bareT_of b1 v1.lin.vw ?_
    intro h2 e2
    exact fin _ _ (by rw [hit, q]; unfold bareV; simp [Bool.and_assoc]) (e1.trans e2)
  refine cond_f (by simpa using k3) ?_
  by_cases k4 : x.kind = 4
  · refine cond_t (by rw [k4]; rfl) ?_
    have hit : itmR x 0 = (z1 x && z2 x && z3 x && z4 x) := by unfold itmR; rw [if_neg k1, if_neg k2, if_neg k3, if_pos k4]; simp
    refine bareT_of b1 v1.lin.vw ?_
    intro h2 e2
    exact fin _ _ (by rw [hit]; unfold bareV; simp [Bool.and_assoc]) (e1.trans e2)
  refine cond_f (by simpa using k4) ?_
  by_cases k5 : x.kind = 5
  · refine cond_t (by rw [k5]; rfl) ?_
    exact fin _ _ (by unfold itmR; rw [if_neg k1, if_neg k2, if_neg k3, if_neg k4, if_pos k5]; simp) e1
  refine cond_f (by simpa using k5) ?_
  by_cases k6 : x.kind = 6
  · refine cond_t (by rw [k6]; rfl) ?_
    exact fin _ _ (by unfold itmR; rw [if_neg k1, if_neg k2, if_neg k3, if_neg k4, if_neg k5, if_pos k6]; simp) e1
  refine cond_f (by simpa using k6) ?_
  by_cases k7 : x.kind = 7
  · refine cond_t (by rw [k7]; rfl) ?_
    exact fin _ _ (by unfold itmR; rw [if_neg k1, if_neg k2, if_neg k3, if_neg k4, if_neg k5, if_neg k6, if_pos k7]; simp) e1
  refine cond_f (by simpa using k7) ?_
  exact fin _ _ (by unfold itmR; rw [if_neg k1, if_neg k2, if_neg k3, if_neg k4, if_neg k5, if_neg k6, if_neg k7]) e1
theorem right2_1 {h : Hp} {x : Itm} {p : Option Addr} {l c : Nat} (v : ItmAt h p l x) : HC Tryz.prog 42 #[itmV p l c x, .int .i64 (1 : Int)] h fun w h' => w = no31 (itmR x 1) ∧ Ext h h' := by
  refine hcr_of (args := [itmV p l c x, .int .i64 (1 : Int)]) mixed Tryz.func42 (by kernel_rfl) (t_spandrelref8_Right_s1_eq x.kind x.name x.inst.op x.inst.a x.inst.b x.inst.n x.inst.form p l c x.e.num x.n) ?_
  unfold t_spandrelref8_Right_s1
  have hml : maxLen = 9223372036854775807 := rfl
  refine newB ?_
  intro h1 b1 e1 z1'
  have b1 : Box h1 h.size 102 (encI p l c x) := b1
  have v1 := v.keep e1
  simp only [add_box]
  refine join_of (cs := [(false, [.bool])]) (fun y h' => y.1 = itmR x 1 ∧ Ext h h') ?_ ?_
  rotate_left
  · rintro ⟨b2, ⟨⟩⟩ h' ⟨hy, e'⟩
    simp only at hy
    subst hy
    dsimp only [flat, unc, unc1, List.nil_append, List.cons_append]
    cases hr : itmR x 1
    · exact ⟨rfl, e'⟩
    · exact ⟨rfl, e'⟩
  have fin : ∀ (b : Bool) (h' : Hp), b = itmR x 1 → Ext h h' → T.again 0 [.bool b] [fun vs h' => ∃ y : HVs (flat [(false, [.bool])]), vs = parts [(false, [.bool])] (hvs _ y) ∧ (y.1 = itmR x 1 ∧ Ext h h')] (fun w h' => w = no31 (itmR x 1) ∧ Ext h h') h' := by
    rintro b h' rfl e'
    exact meet_mk (cs := [(false, [.bool])]) (J := fun y h' => y.1 = itmR x 1 ∧ Ext h h') (itmR x 1, ()) rfl rfl ⟨rfl, e'⟩
  refine loads_box b1 (x.kind, ()) rfl ?_
  dsimp only [flat, unc, unc1, List.nil_append, List.cons_append]
  by_cases k1 : x.kind = 1
  · refine cond_t (by rw [k1]; rfl) ?_
    have hit : itmR x 1 = (legalL x.name.data.toList && z2 x && z3 x && z4 x) := by unfold itmR; rw [if_pos k1]
    refine loads_box b1 (x.name, ()) rfl ?_
    dsimp only [flat, unc, unc1, List.nil_append, List.cons_append]
    refine call_bool (legal2_hc x.name h1 (by have := v.name; omega)) ?_
    refine cond_mk (fun q => ?_) (fun q => fin _ _ (by rw [hit, q]; rfl) e1)
    refine bareT_of b1 v1.lin.vw ?_
    intro h2 e2
    exact fin _ _ (by rw [hit, q]; unfold bareV; simp [Bool.and_assoc]) (e1.trans e2)
  refine cond_f (by simpa using k1) ?_
  by_cases k2 : x.kind = 2
  · refine cond_t (by rw [k2]; rfl) ?_
    have hit : itmR x 1 = (false) := by unfold itmR; rw [if_neg k1, if_pos k2]; simp
    refine loads_box b1 (x.inst.op, x.inst.a, x.inst.b, x.inst.n, x.inst.form, ()) rfl ?_
    dsimp only [flat, unc, unc1, List.nil_append, List.cons_append]
    refine newB ?_
    intro h2 b2 e2 z2'
    refine stores_of b2 rfl (by simp) ?_
    intro h3 b3 k3 z3'
    have b3 : Box h3 h1.size 100 (insC x.inst) := b3
    have e13 : Ext h1 h3 := e2.st k3 (Nat.le_refl _)
    have b13 := b1.keep e13 (by simp)
    rw [add_box]
    refine loads_box b3 (x.inst.form, ()) rfl ?_
    dsimp only [flat, unc, unc1, List.nil_append, List.cons_append]
    refine join_of (cs := []) (fun _ h' => Box h' h1.size 100 (insC { x.inst with form := if spn x.inst.op then 1 else x.inst.form }) ∧ Ext h1 h') ?_ ?_
    · refine loads_box b3 (x.inst.op, ()) rfl ?_
      dsimp only [flat, unc, unc1, List.nil_append, List.cons_append]
      refine call_boolx (spans2_hc h3 x.inst.op v.op) ?_
      intro h4 e4
      have b4 := b3.keep e4 (by simp)
      refine cond_mk (fun q => ?_) (fun q => ?_)
      · refine stores_of b4 rfl (by simp [insC]) ?_
        intro h5 b5 k5 z5
        exact meet_mk (cs := []) () rfl rfl ⟨by rw [if_pos q]; exact b5, (e13.trans e4).st k5 (by have := e13.size; omega)⟩
      · exact meet_mk (cs := []) () rfl rfl ⟨by rw [if_neg (by rw [q]; decide)]; exact b4, e13.trans e4⟩
    rintro _ h5 ⟨b5, e5⟩
    dsimp only [flat, unc, unc1, List.nil_append, List.cons_append]
    have b15 := b1.keep e5 (by simp)
    have v5 := v1.keep e5
    refine join_of (cs := [(false, [.bool])]) (fun y h' => y.1 = false ∧ Ext h5 h') (meet_mk (cs := [(false, [.bool])]) (false, ()) rfl rfl ⟨rfl, Ch.refl _ _⟩) ?_
    rintro ⟨b10, ⟨⟩⟩ h6 ⟨hy, e6⟩
    simp only at hy
    subst hy
    dsimp only [flat, unc, unc1, List.nil_append, List.cons_append]
    have b6 := b5.keep e6 (by simp)
    have b16 := b15.keep e6 (by simp)
    have v6 := v5.keep e6
    refine loads_box b6 (x.inst.op, ()) rfl ?_
    dsimp only [flat, unc, unc1, List.nil_append, List.cons_append]
    refine call_boolx (hasE_hc h6 x.inst.op v.op) ?_
    intro h7 e7
    have b7 := b6.keep e7 (by simp)
    have b17 := b16.keep e7 (by simp)
    have v7 := v6.keep e7
    have e07 := ((e1.trans e5).trans e6).trans e7
    refine cond_mk (fun hw => ?_) (fun hw => ?_)
    · exact cond_f rfl (fin _ _ (by rw [hit]) e07)
    · exact cond_f rfl (fin _ _ (by rw [hit]) e07)
  refine cond_f (by simpa using k2) ?_
  by_cases k3 : x.kind = 3
  · refine cond_t (by rw [k3]; rfl) ?_
    have hit : itmR x 1 = (pow2 x.n && z1 x && z2 x && z3 x) := by unfold itmR; rw [if_neg k1, if_neg k2, if_pos k3]
    refine loads_box b1 (x.n, ()) rfl ?_
    dsimp only [flat, unc, unc1, List.nil_append, List.cons_append]
    refine call_bool (power2_hc h1 x.n) ?_
    refine cond_mk (fun q => ?_) (fun q => fin _ _ (by rw [hit, q]; rfl) e1)
    refine bareT_of b1 v1.lin.vw ?_
    intro h2 e2
    exact fin _ _ (by rw [hit, q]; unfold bareV; simp [Bool.and_assoc]) (e1.trans e2)
  refine cond_f (by simpa using k3) ?_
  by_cases k4 : x.kind = 4
  · refine cond_t (by rw [k4]; rfl) ?_
    exact fin _ _ (by unfold itmR; rw [if_neg k1, if_neg k2, if_neg k3, if_pos k4]; simp) e1
  refine cond_f (by simpa using k4) ?_
  by_cases k5 : x.kind = 5
  · refine cond_t (by rw [k5]; rfl) ?_
    have hit : itmR x 1 = (decide (-128 ≤ x.n) && decide (x.n ≤ 255) && z1 x && z2 x && z3 x) := by unfold itmR; rw [if_neg k1, if_neg k2, if_neg k3, if_neg k4, if_pos k5]; simp
    refine loads_box b1 (x.n, ()) rfl ?_
    dsimp only [flat, unc, unc1, List.nil_append, List.cons_append]
    refine cond_mk (fun q => ?_) (fun q => fin _ _ (by rw [hit, show decide (-128 ≤ x.n) = false from q]; rfl) e1)
    refine loads_box b1 (x.n, ()) rfl ?_
    dsimp only [flat, unc, unc1, List.nil_append, List.cons_append]
    refine cond_mk (fun r => ?_) (fun r => fin _ _ (by rw [hit, r]; simp) e1)
    refine bareT_of b1 v1.lin.vw ?_
    intro h2 e2
    exact fin _ _ (by rw [hit, r, show decide (-128 ≤ x.n) = true from q]; unfold bareV; simp [Bool.and_assoc]) (e1.trans e2)
  refine cond_f (by simpa using k5) ?_
  by_cases k6 : x.kind = 6
  · refine cond_t (by rw [k6]; rfl) ?_
    have hit : itmR x 1 = (rtR none x.e.terms && z1 x && z2 x && z4 x) := by unfold itmR; rw [if_neg k1, if_neg k2, if_neg k3, if_neg k4, if_neg k5, if_pos k6]; simp
    refine loads_box b1 ((p, l, c), (x.e.num : Int), ()) rfl ?_
    dsimp only [flat, unc, unc1, List.nil_append, List.cons_append]
    refine call_of (right50_hc (c := c) v1.lin.vw (by have := v.lin.many; omega) v.lin.names) ?_
    rintro _ h2 ⟨rfl, e2⟩
    refine ⟨(rtR none x.e.terms, ()), rfl, ?_⟩
    dsimp only [flat, unc, unc1, List.nil_append, List.cons_append]
    refine cond_mk (fun q => ?_) (fun q => fin _ _ (by rw [hit, q]; rfl) (e1.trans e2))
    refine bareT_of (b1.keep e2 (by simp)) (v1.keep e2).lin.vw ?_
    intro h3 e3
    exact fin _ _ (by rw [hit, q]; unfold bareV; simp [Bool.and_assoc]) ((e1.trans e2).trans e3)
  refine cond_f (by simpa using k6) ?_
  by_cases k7 : x.kind = 7
  · refine cond_t (by rw [k7]; rfl) ?_
    have hit : itmR x 1 = (decide (0 ≤ x.n) && decide (x.n ≤ 1048576) && z1 x && z2 x && z3 x) := by unfold itmR; rw [if_neg k1, if_neg k2, if_neg k3, if_neg k4, if_neg k5, if_neg k6, if_pos k7]; simp
    refine loads_box b1 (x.n, ()) rfl ?_
    dsimp only [flat, unc, unc1, List.nil_append, List.cons_append]
    refine cond_mk (fun q => ?_) (fun q => fin _ _ (by rw [hit, show decide (0 ≤ x.n) = false from q]; rfl) e1)
    refine loads_box b1 (x.n, ()) rfl ?_
    dsimp only [flat, unc, unc1, List.nil_append, List.cons_append]
    refine cond_mk (fun r => ?_) (fun r => fin _ _ (by rw [hit, r]; simp) e1)
    refine bareT_of b1 v1.lin.vw ?_
    intro h2 e2
    exact fin _ _ (by rw [hit, r, show decide (0 ≤ x.n) = true from q]; unfold bareV; simp [Bool.and_assoc]) (e1.trans e2)
  refine cond_f (by simpa using k7) ?_
  exact fin _ _ (by unfold itmR; rw [if_neg k1, if_neg k2, if_neg k3, if_neg k4, if_neg k5, if_neg k6, if_neg k7]) e1
theorem rightR_hc {h : Hp} {x : Itm} {p : Option Addr} {l c k : Nat} (v : ItmAt h p l x) (hk : k < 2) : HC Tryz.prog 42 #[itmV p l c x, .int .i64 (k : Int)] h fun w h' => w = no31 (itmR x k) ∧ Ext h h' := by
  have : k = 0 ∨ k = 1 := by omega
  rcases this with rfl | rfl
  · exact right2_0 v
  · exact right2_1 v
end Go.Sx.Ob

set_option linter.unusedVariables false
set_option linter.unusedSimpArgs false
set_option maxRecDepth 100000
namespace Go.Sx.Ob
open Go.Proofs
def enN (s : ByteArray) : List Value := [.string s]
abbrev SN (h : Hp) (b : Nat) (p : Option Addr) (l c : Nat) (xs : List ByteArray) : Prop := SL h b 9 1 p l c (xs.map enN)
theorem SN.len {h : Hp} {b : Nat} {p : Option Addr} {l c : Nat} {xs : List ByteArray} (s : SN h b p l c xs) : l = xs.length := by
  have := s.1
  rwa [List.length_map] at this
theorem SN.cell {h : Hp} {b : Nat} {p : Option Addr} {l c : Nat} {xs : List ByteArray} (s : SN h b p l c xs) {i : Nat} (hi : i < xs.length) : ∃ a, p = some a ∧ cellsAt h (a.add (i * 1)) 0 [.string xs[i]] := by
  obtain ⟨a, ha, hc⟩ := SL.cells s (i := i) (by rw [List.length_map]; exact hi)
  refine ⟨a, ha, ?_⟩
  rw [List.getElem_map] at hc
  exact hc
theorem anyT (D : List ByteArray) (s : ByteArray) (i : Nat) (hi : i < D.length) : inN (D.take (i + 1)) s = (inN (D.take i) s || decide (D[i] = s)) := by
  unfold inN
  rw [List.take_succ_eq_append_getElem hi, List.any_append]
  simp
theorem has_hc {h : Hp} {b : Nat} {p : Option Addr} {l c : Nat} {xs : List ByteArray} (v : SN h b p l c xs) (hl : xs.length ≤ 2 ^ 61) (s : ByteArray) : HCp Tryz.prog 47 [.slice p l c, .string s] h (.bool (inN xs s)) := by
  refine hcp_of mixed Tryz.func47 (by kernel_rfl) (t_spandrelref9_Has_eq p l c s) ?_
  unfold t_spandrelref9_Has
  have n := SN.len v
  refine loop_of (cs := [(false, [.bool]), (false, [.int .i64])]) (fun y m h' => ∃ i : Nat, y.2.1 = (i : Int) ∧ m = xs.length - i ∧ i ≤ xs.length ∧ h' = h ∧ inN (xs.take i) s = false) (false, (0 : Int), ()) xs.length rfl
    ⟨0, rfl, rfl, by omega, rfl, rfl⟩ ?_
  rintro ⟨b2, n3, ⟨⟩⟩ m h' ⟨i, hi, rfl, hle, rfl, hn⟩
  simp only at hi
  subst hi
  dsimp only [flat, unc, unc1, List.nil_append, List.cons_append]
  refine cond_mk (fun q => ?_) (fun q => ?_)
  · have q := of_decide_eq_true q
    have hil : i < xs.length := by omega
    obtain ⟨a, ha, hc⟩ := SN.cell v hil
    refine need_of ⟨by omega, by omega⟩ (osome_mk ha ?_)
    rw [show Int.toNat (i : Int) = i by omega]
    refine loads_of (xs[i], ()) hc ?_
    dsimp only [flat, unc, unc1, List.nil_append, List.cons_append]
    have hs := anyT xs s i hil
    rw [beqL]
    refine cond_mk (fun r => ?_) (fun r => ?_)
    · have r := of_decide_eq_true r
      refine ⟨congrArg Value.bool ?_, rfl⟩
      unfold inN
      exact (List.any_eq_true.2 ⟨_, List.getElem_mem hil, decide_eq_true r⟩).symm
    · rw [hn, r] at hs
      refine again_mk (cs := [(false, [.bool]), (false, [.int .i64])]) (b2, ((i + 1 : Nat) : Int), ()) (xs.length - (i + 1)) rfl (by omega) (by rw [wrap_i64 (by omega) (by omega)]; rfl) ?_
      exact ⟨i + 1, rfl, rfl, by omega, rfl, hs⟩
  · have q := of_decide_eq_false q
    have : i = xs.length := by omega
    subst this
    rw [List.take_length] at hn
    exact ⟨by rw [hn], rfl⟩
def labs (l : List Itm) : List ByteArray := (l.filter fun x => decide (x.kind = 1)).map (·.name)
theorem labs_take (l : List Itm) (i : Nat) (hi : i < l.length) : labs (l.take (i + 1)) = labs (l.take i) ++ if l[i].kind = 1 then [l[i].name] else [] := by
  unfold labs
  rw [List.take_succ_eq_append_getElem hi, List.filter_append, List.map_append]
  congr 1
  by_cases hk : l[i].kind = 1 <;> simp [hk]
theorem SN.push {L : Lp} {K : Value → Hp → Prop} {h : Hp} {b : Nat} {p : Option Addr} {l c : Nat} {xs : List ByteArray} (v : SN h b p l c xs) (x : ByteArray) (hl : xs.length ≤ 2 ^ 40) (hb : b ≤ h.size) {k : Option Addr → Nat → Nat → T}
    (hk : ∀ p' c' h', SN h' b p' (l + 1) c' (xs ++ [x]) → Ch (blkOf p) h h' → k p' (l + 1) c' L K h') :
    T.sem Tryz.prog (Instr.buildSlice 26 1 #[(0, .string x)]) false [(false, [.slice 0])] (fun q m cc => T.sem Tryz.prog (Builtin.append_ #[26, 26] 26 #[.slice p l c, .slice q m cc]) false [(false, [.slice 0])] k) L K h := by
  have n := SN.len v
  refine push_of (vs := [.string x]) und28 strZ rfl (by omega) (by omega) (by kernel_rfl) rfl rfl v hb (by omega) (by omega) ?_
  intro p' c' h' s' ch _
  refine hk p' c' h' ?_ ch
  unfold SN
  rw [List.map_append]
  exact s'
theorem SN.ext {h a b' : Hp} {b : Nat} {p : Option Addr} {l c : Nat} {xs : List ByteArray} (e : Ext h a) (v : SN a b p l c xs) (hb : h.size ≤ b) (k : Ch (blkOf p) a b') : Ext h b' :=
  Ch.trans e k (fun i hi hl => by have := (Ob.SL.blk v i hi).1; omega)
theorem labels_hc {h : Hp} {p : Option Addr} {l c : Nat} {us : List Itm} (v : VwI h p l us) (hm : us.length ≤ 2 ^ 20) :
    HC Tryz.prog 80 #[.slice p l c] h fun w h' => ∃ p' l' c', w = .slice p' l' c' ∧ SN h' h.size p' l' c' (labs us) ∧ Ext h h' := by
  refine hcr_of (args := [.slice p l c]) mixed Tryz.func80 (by kernel_rfl) (t_spandrelref9_labels_eq p l c) ?_
  unfold t_spandrelref9_labels
  have n := v.len
  refine loop_of (cs := [(false, [.slice 0]), (false, [.int .i64])]) (fun y m h' => ∃ i : Nat, y.2.1 = (i : Int) ∧ m = us.length - i ∧ i ≤ us.length ∧ Ext h h' ∧ (labs (us.take i)).length ≤ i ∧ SN h' h.size y.1.1 y.1.2.1 y.1.2.2 (labs (us.take i))) ((none, 0, 0), (0 : Int), ()) us.length rfl
    ⟨0, rfl, rfl, by omega, Ch.refl _ _, by simp [labs], SL.nil _ _ _ _⟩ ?_
  rintro ⟨⟨p1, l2, l3⟩, n4, ⟨⟩⟩ m h1 ⟨i, hi, rfl, hle, e1, hll, s⟩
  simp only at hi s
  subst hi
  dsimp only [flat, unc, unc1, List.nil_append, List.cons_append]
  have hz := e1.size
  refine cond_mk (fun q => ?_) (fun q => ?_)
  · have q := of_decide_eq_true q
    have hil : i < us.length := by omega
    obtain ⟨aa, pp, ll, cc, rfl', hc, va⟩ := (v.keep e1).cells i hil
    have ht := labs_take us i hil
    generalize us[i] = x at hc va ht
    refine need_of ⟨by omega, by omega⟩ (osome_mk rfl' ?_)
    rw [show Int.toNat (i : Int) = i by omega]
    refine loads_of (x.kind, ()) ⟨hc.1, trivial⟩ ?_
    dsimp only [flat, unc, unc1, List.nil_append, List.cons_append]
    refine cond_mk (fun r => ?_) (fun r => ?_)
    · have r : x.kind = 1 := by simpa using r
      rw [if_pos r] at ht
      refine need_of ⟨by omega, by omega⟩ (osome_mk rfl' ?_)
      refine loads_of (x.name, ()) ⟨by rw [add_add]; exact hc.2.1, trivial⟩ ?_
      dsimp only [flat, unc, unc1, List.nil_append, List.cons_append]
      refine SN.push s x.name (by omega) (by omega) ?_
      intro p' c' h2 s2 k2
      refine again_mk (cs := [(false, [.slice 0]), (false, [.int .i64])]) ((p', l2 + 1, c'), ((i + 1 : Nat) : Int), ()) (us.length - (i + 1)) rfl (by omega) (by rw [wrap_i64 (by omega) (by omega)]; rfl) ?_
      exact ⟨i + 1, rfl, rfl, by omega, SN.ext e1 s (Nat.le_refl _) k2, by rw [ht, List.length_append]; simp; omega, by rw [ht]; exact s2⟩
    · have r : ¬ x.kind = 1 := by simpa using r
      rw [if_neg r, List.append_nil] at ht
      refine again_mk (cs := [(false, [.slice 0]), (false, [.int .i64])]) ((p1, l2, l3), ((i + 1 : Nat) : Int), ()) (us.length - (i + 1)) rfl (by omega) (by rw [wrap_i64 (by omega) (by omega)]; rfl) ?_
      exact ⟨i + 1, rfl, rfl, by omega, e1, by rw [ht]; omega, by rw [ht]; exact s⟩
  · have q := of_decide_eq_false q
    have : i = us.length := by omega
    subst this
    rw [List.take_length] at s
    exact ⟨p1, l2, l3, rfl, s, e1⟩
/-- append(l, m...) of names. -/
theorem appS_of {L : Lp} {K : Value → Hp → Prop} {h : Hp} {k : Option Addr → Nat → Nat → T} {b b' : Nat} {p : Option Addr} {l c : Nat} {xs : List ByteArray} (s : SN h b p l c xs) {q : Option Addr} {m d : Nat} {us : List ByteArray} (v : SN h b' q m d us)
    (hl : l + m ≤ 2 ^ 40) (hb : b ≤ h.size)
    (hk : ∀ p' c' h', SN h' b p' (l + m) c' (xs ++ us) → Ch (blkOf p) h h' → k p' (l + m) c' L K h') :
    T.sem Tryz.prog (Builtin.append_ #[26, 26] 26 #[.slice p l c, .slice q m d]) false [(false, [.slice 0])] k L K h := by
  obtain ⟨i, hi, hz, hsz, hby⟩ := inf_of strZ
  refine sem_slice ?_
  cases q with
  | none =>
    have h1 : us = [] := by
      have := v.2.2.2
      simpa using this
    have h0 : m = 0 := by have := SN.len v; rw [h1] at this; exact this
    have hd : d = 0 := v.2.2.1
    subst h0 h1 hd
    have hc0 : l ≤ c := by
      cases p with
      | none =>
        have h2 := s.2.2.2
        have h3 := s.1
        rw [h2] at h3
        simp at h3
        omega
      | some a =>
        obtain ⟨g, pre, rest, rfl, hbg, hlc, _⟩ := s.2.2
        exact hlc.1
    simp [Builtin.append_, semW_bind', semW_underlying und28, semW_sizeOf hi, cellsOf_info hi, Builtin.lenOf, Builtin.firstCells, hc0]
    have hfin : ∃ p' l' c', Value.slice p l c = .slice p' l' c' ∧ k p' l' c' L K h := ⟨p, l, c, rfl, by simpa using hk p c h (by simpa using s) (Ch.refl _ _)⟩
    cases p with
    | none => exact hfin
    | some a => exact hfin
  | some a =>
    have hc : cellsAt h a 0 (us.map enN).flatten := by
      obtain ⟨g, pre, rest, rfl, hbg, hlc, hbox, hr⟩ := v.2.2
      refine hbox.cells _ ?_
      rw [List.drop_left, List.take_left]
    have hpl : (us.map enN).flatten.all plainV = true := by
      rw [List.all_eq_true]
      intro x hx
      obtain ⟨y, hy, hxy⟩ := List.mem_flatten.1 hx
      obtain ⟨z, _, rfl⟩ := List.mem_map.1 hy
      rw [List.mem_singleton.1 hxy]
      rfl
    refine append_of und28 hi hz (by rw [hsz]; rfl) (by rw [hsz]; exact s) (ys := us.map enN) (by rw [List.length_map]; exact SN.len v) (fun y hy => ?_) hc hpl (by rw [hby]; omega) (by omega) hb ?_
    · obtain ⟨t, _, rfl⟩ := List.mem_map.1 hy
      rw [hsz]
      rfl
    · intro p' c' h' s' k' hp'
      rw [hsz, ← List.map_append] at s'
      exact ⟨_, _, _, rfl, hk p' c' h' s' k'⟩
def allN (u : Unt) : List ByteArray := labs u.text ++ labs u.data ++ u.equs.map (·.1)
theorem labs_len (l : List Itm) : (labs l).length ≤ l.length := by
  unfold labs
  rw [List.length_map]
  exact List.length_filter_le _ _
theorem all_hc {h : Hp} {a b c d : Sli} {u : Unt} (v : UntAt h a b c d u) (h1 : u.text.length ≤ 2 ^ 20) (h2 : u.data.length ≤ 2 ^ 20) (h3 : u.equs.length ≤ 2 ^ 20) :
    HC Tryz.prog 45 #[untV a b c d] h fun w h' => ∃ p' l' c', w = .slice p' l' c' ∧ SN h' h.size p' l' c' (allN u) ∧ Ext h h' := by
  refine hcr_of (args := [untV a b c d]) mixed Tryz.func45 (by kernel_rfl) (t_spandrelref9_All_eq a.p a.l a.c b.p b.l b.c c.p c.l c.c d.p d.l d.c) ?_
  unfold t_spandrelref9_All
  refine newB ?_
  intro g1 b1 e1 z1
  have b1 : Box g1 h.size 28 [a.v, b.v, c.v, d.v] := b1
  simp only [add_box]
  refine loads_box b1 ((a.p, a.l, a.c), ()) rfl ?_
  dsimp only [flat, unc, unc1, List.nil_append, List.cons_append]
  refine loads_box b1 ((b.p, b.l, b.c), ()) rfl ?_
  dsimp only [flat, unc, unc1, List.nil_append, List.cons_append]
  refine call_of (labels_hc (c := a.c) (v.text.keep e1) h1) ?_
  rintro _ g2 ⟨p8, l9, l10, rfl, s8, e2⟩
  refine ⟨((p8, l9, l10), ()), rfl, ?_⟩
  dsimp only [flat, unc, unc1, List.nil_append, List.cons_append]
  have b2 := b1.keep e2 (by simp)
  refine ⟨⟨b2.cells _ rfl, trivial⟩, ?_⟩
  refine call_of (labels_hc (c := b.c) (v.data.keep (e1.trans e2)) h2) ?_
  rintro _ g3 ⟨p11, l12, l13, rfl, s11, e3⟩
  refine ⟨((p11, l12, l13), ()), rfl, ?_⟩
  dsimp only [flat, unc, unc1, List.nil_append, List.cons_append]
  have b3 := b2.keep e3 (by simp)
  have q1 := e1.size
  have q2 := e2.size
  have q3 := e3.size
  refine ⟨⟨b3.cells _ rfl, trivial⟩, ?_⟩
  have s8' : SN g3 g1.size p8 l9 l10 (labs u.text) := s8.keep e3 (by simp)
  have n8 := SN.len s8
  have n11 := SN.len s11
  have k8 := labs_len u.text
  have k11 := labs_len u.data
  have e03 := (e1.trans e2).trans e3
  refine appS_of s8' s11 (by omega) (by omega) ?_
  intro p14 c14 g4 s14 k4
  have e4 := SN.ext e03 s8' (by omega) k4
  have nb : h.size ∉ blkOf p8 := fun hi => by have := (Ob.SL.blk s8' _ hi).1; omega
  have b4 := b3.keep k4 nb
  refine ⟨⟨b4.cells _ rfl, b4.cells _ rfl, trivial⟩, ?_⟩
  have nc := v.equs.len
  have hu : ∀ i, i < u.equs.length → labs u.text ++ labs u.data ++ (u.equs.take (i + 1)).map (·.1) = (labs u.text ++ labs u.data ++ (u.equs.take i).map (·.1)) ++ [(u.equs.getD i (nam0, lin0)).1] := by
    intro i hi
    rw [List.take_succ_eq_append_getElem hi, List.map_append, ← List.append_assoc, List.getD_eq_getElem?_getD, List.getElem?_eq_getElem hi]
    rfl
  refine loop_of (cs := [(false, [.slice 0]), (false, [.int .i64])]) (fun y m h' => ∃ i : Nat, y.2.1 = (i : Int) ∧ m = u.equs.length - i ∧ i ≤ u.equs.length ∧ (Ext h h' ∧ g1.size ≤ h'.size) ∧ Box h' h.size 28 [a.v, b.v, c.v, d.v] ∧ SN h' g1.size y.1.1 y.1.2.1 y.1.2.2 (labs u.text ++ labs u.data ++ (u.equs.take i).map (·.1))) ((p14, l9 + l12, c14), (0 : Int), ()) u.equs.length rfl
    ⟨0, rfl, rfl, by omega, ⟨e4, by have := k4.size; omega⟩, b4, by simpa using s14⟩ ?_
  rintro ⟨⟨p1, l2, l3⟩, n4, ⟨⟩⟩ m g5 ⟨i, hi, rfl, hle, ⟨e5, z5⟩, b5, s⟩
  simp only at hi s
  subst hi
  dsimp only [flat, unc, unc1, List.nil_append, List.cons_append]
  have hz := e5.size
  refine loads_box b5 ((c.p, c.l, c.c), ()) rfl ?_
  dsimp only [flat, unc, unc1, List.nil_append, List.cons_append]
  refine cond_mk (fun q => ?_) (fun q => ?_)
  · have q := of_decide_eq_true q
    have hil : i < u.equs.length := by omega
    refine loads_box b5 ((c.p, c.l, c.c), ()) rfl ?_
    dsimp only [flat, unc, unc1, List.nil_append, List.cons_append]
    obtain ⟨aa, pp, ll, cc, rfl', hc, va, vn⟩ := (v.equs.keep e5).cells i hil
    refine need_of ⟨by omega, by omega⟩ (osome_mk rfl' ?_)
    rw [show Int.toNat (i : Int) = i by omega]
    refine loads_of (u.equs[i].1, ()) ⟨hc.1, trivial⟩ ?_
    dsimp only [flat, unc, unc1, List.nil_append, List.cons_append]
    have ns := SN.len s
    have hg : (u.equs.getD i (nam0, lin0)).1 = u.equs[i].1 := by
      rw [List.getD_eq_getElem?_getD, List.getElem?_eq_getElem hil]
      rfl
    refine SN.push s _ (by simp only [List.length_append, List.length_map, List.length_take]; omega) z5 ?_
    intro p' c' h2 s2 k2
    have nb2 : h.size ∉ blkOf p1 := fun hi => by have := (Ob.SL.blk s _ hi).1; omega
    refine again_mk (cs := [(false, [.slice 0]), (false, [.int .i64])]) ((p', l2 + 1, c'), ((i + 1 : Nat) : Int), ()) (u.equs.length - (i + 1)) rfl (by omega) (by rw [wrap_i64 (by omega) (by omega)]; rfl) ?_
    exact ⟨i + 1, rfl, rfl, by omega, ⟨SN.ext e5 s (by omega) k2, by have := k2.size; omega⟩, b5.keep k2 nb2, by rw [hu i hil, hg]; exact s2⟩
  · have q := of_decide_eq_false q
    have : i = u.equs.length := by omega
    subst this
    rw [List.take_length] at s
    exact ⟨p1, l2, l3, rfl, Sx.SL.mono s (by omega), e5⟩
end Go.Sx.Ob

set_option linter.unusedVariables false
set_option linter.unusedSimpArgs false
set_option maxRecDepth 100000
namespace Go.Sx.Ob
open Go.Proofs
theorem SN.put {L : Lp} {K : Value → Hp → Prop} {h : Hp} {b : Nat} {p : Option Addr} {l c : Nat} {xs : List ByteArray} (v : SN h b p l c xs) {i : Nat} (hi : i < xs.length) (x : ByteArray) {a : Addr} (ha : p = some a) {k : T}
    (hk : ∀ h', SN h' b p l c (xs.set i x) → Ch (blkOf p) h h' → h'.size = h.size → k L K h') : T.stores (a.add (i * 1)) [.string x] k L K h := by
  refine SL.store (P := Tryz.prog) v (i := i) (vs := enN x) (by rw [List.length_map]; exact hi) rfl rfl ha ?_
  intro h' s' ch z
  refine hk h' ?_ ch z
  unfold SN
  rw [List.map_set]
  exact s'
theorem erase_shift (zs : List ByteArray) (j : Nat) (hj : 0 < j) (hl : j < zs.length) : (zs.set j (zs[j - 1]'(by omega))).eraseIdx (j - 1) = zs.eraseIdx j := by
  apply List.ext_getElem?
  intro k
  rw [List.getElem?_eraseIdx, List.getElem?_eraseIdx]
  by_cases h1 : k < j - 1
  · rw [if_pos h1, if_pos (by omega), List.getElem?_set_ne (by omega)]
  · rw [if_neg h1]
    by_cases h2 : k < j
    · have : k = j - 1 := by omega
      subst this
      rw [if_pos h2, show j - 1 + 1 = j by omega, List.getElem?_set_self hl, List.getElem?_eq_getElem (by omega)]
    · rw [if_neg h2, List.getElem?_set_ne (by omega)]
theorem inN_set (zs : List ByteArray) (j : Nat) (hl : j < zs.length) (x s : ByteArray) : inN (zs.set j x) s = (inN (zs.eraseIdx j) s || decide (x = s)) := by
  unfold inN
  rw [List.set_eq_take_append_cons_drop, if_pos hl, List.eraseIdx_eq_take_drop_succ]
  simp only [List.any_append, List.any_cons]
  cases List.any (zs.take j) (fun t => decide (t = s)) <;> cases List.any (zs.drop (j + 1)) (fun t => decide (t = s)) <;> cases decide (x = s) <;> rfl
theorem inN_iff {D : List ByteArray} {s : ByteArray} : inN D s = true ↔ s ∈ D := by
  unfold inN
  rw [List.any_eq_true]
  constructor
  · rintro ⟨t, ht, e⟩
    rw [← of_decide_eq_true e]
    exact ht
  · intro hs
    exact ⟨s, hs, decide_eq_true rfl⟩
theorem nodup_snoc (l : List ByteArray) (x : ByteArray) : (l ++ [x]).Nodup ↔ l.Nodup ∧ x ∉ l := by
  rw [List.nodup_append]
  constructor
  · rintro ⟨a, _, c⟩
    exact ⟨a, fun hx => c x hx x (by simp) rfl⟩
  · rintro ⟨a, b⟩
    refine ⟨a, by simp, fun y hy z hz e => ?_⟩
    rw [List.mem_singleton.1 hz] at e
    exact b (e ▸ hy)
theorem sorted_hc {h : Hp} {b : Nat} {p : Option Addr} {l c : Nat} {xs : List ByteArray} (v : SN h b p l c xs) (hm : xs.length ≤ 2 ^ 30) :
    HC Tryz.prog 46 #[.slice p l c] h fun w h' => ∃ p' c' ys, w = .slice p' (ys : List ByteArray).length c' ∧ ys.length ≤ xs.length ∧ (ys.length = xs.length ↔ xs.Nodup) ∧ Ext h h' := by
  refine hcr_of (args := [.slice p l c]) mixed Tryz.func46 (by kernel_rfl) (t_spandrelref9_Sorted_eq p l c) ?_
  unfold t_spandrelref9_Sorted
  have n := SN.len v
  refine loop_of (cs := [(false, [.slice 0]), (false, [.int .i64])]) (fun y m h' => ∃ (i : Nat) (ys : List ByteArray), y.2.1 = (i : Int) ∧ m = xs.length - i ∧ i ≤ xs.length ∧ Ext h h' ∧ SN h' h.size y.1.1 y.1.2.1 y.1.2.2 ys ∧ ys.length ≤ i ∧ (∀ s, inN ys s = inN (xs.take i) s) ∧ (ys.length = i ↔ (xs.take i).Nodup)) ((none, 0, 0), (0 : Int), ()) xs.length rfl
    ⟨0, [], rfl, rfl, by omega, Ch.refl _ _, SL.nil _ _ _ _, by simp, fun s => rfl, by simp⟩ ?_
  rintro ⟨⟨p1, l2, l3⟩, n4, ⟨⟩⟩ m h1 ⟨i, ys, hi, rfl, hle, e1, s, hyl, hin, hnd⟩
  simp only at hi s
  subst hi
  dsimp only [flat, unc, unc1, List.nil_append, List.cons_append]
  have hz := e1.size
  have ny := SN.len s
  refine cond_mk (fun q => ?_) (fun q => ?_)
  · have q := of_decide_eq_true q
    have hil : i < xs.length := by omega
    have hx : ∀ {g}, Ext h g → ∃ a, p = some a ∧ cellsAt g (a.add (i * 1)) 0 [.string xs[i]] := by
      intro g e
      obtain ⟨a, ha, hc⟩ := SN.cell v hil
      exact ⟨a, ha, cellsAt_keep e (by simp) _ _ hc⟩
    have htk : xs.take (i + 1) = xs.take i ++ [xs[i]] := List.take_succ_eq_append_getElem hil
    generalize hxv : xs[i] = x at hx htk
    obtain ⟨a, ha, hc⟩ := hx e1
    refine need_of ⟨by omega, by omega⟩ (osome_mk ha ?_)
    rw [show Int.toNat (i : Int) = i by omega]
    refine loads_of (x, ()) hc ?_
    dsimp only [flat, unc, unc1, List.nil_append, List.cons_append]
    refine call_bool (has_hc s (by omega) x) ?_
    rw [hin]
    have hinx : inN (xs.take i) x = true ↔ x ∈ xs.take i := inN_iff
    refine cond_mk (fun r => ?_) (fun r => ?_)
    · have r2 := hinx.1 r
      refine again_mk (cs := [(false, [.slice 0]), (false, [.int .i64])]) ((p1, l2, l3), ((i + 1 : Nat) : Int), ()) (xs.length - (i + 1)) rfl (by omega) (by rw [wrap_i64 (by omega) (by omega)]; rfl) ?_
      refine ⟨i + 1, ys, rfl, rfl, by omega, e1, s, by omega, fun t => ?_, ?_⟩
      · rw [hin, htk]
        by_cases e : x = t
        · subst e
          rw [r]
          exact (inN_iff.2 (List.mem_append.2 (.inl r2))).symm
        · unfold inN
          rw [List.any_append]
          simp [e]
      · rw [htk, nodup_snoc]
        exact ⟨fun k => by omega, fun k => absurd r2 k.2⟩
    · have r2 : x ∉ xs.take i := fun k => by rw [hinx.2 k] at r; cases r
      refine need_of ⟨by omega, by omega⟩ (osome_mk ha ?_)
      refine loads_of (x, ()) hc ?_
      dsimp only [flat, unc, unc1, List.nil_append, List.cons_append]
      refine SN.push s x (by omega) hz ?_
      intro p' c' h2 s2 k2
      have e2 := SN.ext e1 s (Nat.le_refl _) k2
      refine loop_of (cs := [(false, [.int .i64])]) (fun y m h' => ∃ (j : Nat) (zs : List ByteArray), y.1 = (j : Int) ∧ m = j ∧ j ≤ ys.length ∧ zs.length = ys.length + 1 ∧ zs.eraseIdx j = ys ∧ Ext h h' ∧ SN h' h.size p' (l2 + 1) c' zs) ((l2 : Int), ()) ys.length rfl
        ⟨ys.length, ys ++ [x], by rw [ny], rfl, by omega, by simp, by rw [List.eraseIdx_append_of_length_le (by omega)]; simp, e2, s2⟩ ?_
      rintro ⟨n16, ⟨⟩⟩ m h3 ⟨j, zs, hj, rfl, hjl, hzl, hze, e3, s3⟩
      simp only at hj
      subst hj
      dsimp only [flat, unc, unc1, List.nil_append, List.cons_append]
      have hpl : ∃ a2, p' = some a2 := by
        obtain ⟨a2, h2, _⟩ := SN.cell s3 (i := 0) (by omega)
        exact ⟨a2, h2⟩
      obtain ⟨a2, ha2⟩ := hpl
      have last : (T.need (((0 : Int) ≤ (i : Int)) ∧ ((i : Int) < (l : Int))) <|
         T.osome p fun (a21 : Addr) =>
         T.loads (a21.add ((Int.toNat (i : Int)) * 1)) [.string] <| fun (s22 : ByteArray) =>
         T.need (((0 : Int) ≤ (m : Int)) ∧ ((m : Int) < ((l2 + 1 : Nat) : Int))) <|
         T.osome p' fun (a23 : Addr) =>
         T.stores (a23.add ((Int.toNat (m : Int)) * 1)) [.string s22] <|
         T.again 0 [.slice p' (l2 + 1) c', .int .i64 (IntKind.wrap .i64 ((i : Int) + (1 : Int)))])
         ([] ++ [Jl (cs := [(false, [.slice 0]), (false, [.int .i64])]) (fun y m h' => ∃ (i : Nat) (ys : List ByteArray), y.2.1 = (i : Int) ∧ m = xs.length - i ∧ i ≤ xs.length ∧ Ext h h' ∧ SN h' h.size y.1.1 y.1.2.1 y.1.2.2 ys ∧ ys.length ≤ i ∧ (∀ s, inN ys s = inN (xs.take i) s) ∧ (ys.length = i ↔ (xs.take i).Nodup)) (xs.length - i)] ++
          [Jl (cs := [(false, [.int .i64])]) (fun y m h' => ∃ (j : Nat) (zs : List ByteArray), y.1 = (j : Int) ∧ m = j ∧ j ≤ ys.length ∧ zs.length = ys.length + 1 ∧ zs.eraseIdx j = ys ∧ Ext h h' ∧ SN h' h.size p' (l2 + 1) c' zs) m])
         (fun w h' => ∃ p' c' ys, w = .slice p' (ys : List ByteArray).length c' ∧ ys.length ≤ xs.length ∧ (ys.length = xs.length ↔ xs.Nodup) ∧ Ext h h') h3 := by
        obtain ⟨a, ha, hc⟩ := hx e3
        refine need_of ⟨by omega, by omega⟩ (osome_mk ha ?_)
        rw [show Int.toNat (i : Int) = i by omega]
        refine loads_of (x, ()) hc ?_
        dsimp only [flat, unc, unc1, List.nil_append, List.cons_append]
        refine need_of ⟨by omega, by omega⟩ (osome_mk ha2 ?_)
        rw [show Int.toNat (m : Int) = m by omega]
        refine SN.put s3 (by omega) x ha2 ?_
        intro h4 s4 k4 z4
        refine again_mk (cs := [(false, [.slice 0]), (false, [.int .i64])]) ((p', l2 + 1, c'), ((i + 1 : Nat) : Int), ()) (xs.length - (i + 1)) rfl (by omega) (by rw [wrap_i64 (by omega) (by omega)]; rfl) ?_
        refine ⟨i + 1, zs.set m x, rfl, rfl, by omega, SN.ext e3 s3 (Nat.le_refl _) k4, s4, by rw [List.length_set]; omega, fun t => ?_, ?_⟩
        · rw [inN_set zs m (by omega), hze, hin, htk]
          unfold inN
          rw [List.any_append]
          simp
        · rw [List.length_set, htk, nodup_snoc, ← hnd, hzl]
          exact ⟨fun k => ⟨by omega, r2⟩, fun k => by omega⟩
      refine cond_mk (fun q2 => ?_) (fun q2 => last)
      have q2 := of_decide_eq_true q2
      rw [wrap_i64 (by omega) (by omega)]
      obtain ⟨a3, ha3, hc3⟩ := SN.cell s3 (i := m - 1) (by omega)
      refine need_of ⟨by omega, by omega⟩ (osome_mk ha3 ?_)
      rw [show Int.toNat ((m : Int) - 1) = m - 1 by omega]
      refine loads_of (zs[m - 1]'(by omega), ()) hc3 ?_
      dsimp only [flat, unc, unc1, List.nil_append, List.cons_append]
      obtain ⟨a, ha, hc⟩ := hx e3
      refine need_of ⟨by omega, by omega⟩ (osome_mk ha ?_)
      refine loads_of (x, ()) hc ?_
      dsimp only [flat, unc, unc1, List.nil_append, List.cons_append]
      refine cond_mk (fun q3 => ?_) (fun q3 => ?_)
      · refine need_of ⟨by omega, by omega⟩ (osome_mk ha3 ?_)
        refine loads_of (zs[m - 1]'(by omega), ()) hc3 ?_
        dsimp only [flat, unc, unc1, List.nil_append, List.cons_append]
        refine need_of ⟨by omega, by omega⟩ (osome_mk ha2 ?_)
        rw [show Int.toNat (m : Int) = m by omega]
        refine SN.put s3 (by omega) _ ha2 ?_
        intro h4 s4 k4 z4
        refine again_mk (cs := [(false, [.int .i64])]) (((m - 1 : Nat) : Int), ()) (m - 1) rfl (by omega) (by rw [show (m : Int) - 1 = ((m - 1 : Nat) : Int) by omega]; rfl) ?_
        exact ⟨m - 1, _, rfl, rfl, by omega, by rw [List.length_set]; exact hzl, by rw [erase_shift zs m (by omega) (by omega)]; exact hze, SN.ext e3 s3 (Nat.le_refl _) k4, s4⟩
      · have := last
        rw [show Int.toNat (i : Int) = i by omega] at this
        exact this
  · have q := of_decide_eq_false q
    have : i = xs.length := by omega
    subst this
    rw [List.take_length] at hnd
    exact ⟨p1, l3, ys, by rw [ny], hyl, hnd, e1⟩
end Go.Sx.Ob

set_option linter.unusedVariables false
set_option linter.unusedSimpArgs false
set_option maxRecDepth 100000
namespace Go.Sx.Ob
def equ2 (e : Eqn) : Bool := legalL e.1.data.toList && rtR none e.2.terms
def untOk2 (u : Unt) : Bool := u.text.all (fun x => itmR x 0) && (u.data.all (fun x => itmR x 1) && (u.equs.all equ2 && (decide (allN u).Nodup && globsOk (allN u) nam0 u.globs)))
theorem labs_cons (x : Itm) (l : List Itm) : labs (x :: l) = (if x.kind = 1 then [x.name] else []) ++ labs l := by
  unfold labs
  by_cases h : x.kind = 1 <;> simp [h]
theorem addN_mem (D : List ByteArray) (x : Itm) (s : ByteArray) : s ∈ addN D x ↔ s ∈ D ∨ s ∈ (if x.kind = 1 then [x.name] else []) := by
  unfold addN
  split <;> simp [or_comm]
theorem itemsOk_iff (sec : Nat) : ∀ (l : List Itm) (D : List ByteArray), itemsOk sec D l = true ↔ (∀ x, x ∈ l → itmR x sec = true) ∧ (∀ s, s ∈ labs l → s ∉ D) ∧ (labs l).Nodup
  | [], D => by simp [itemsOk, labs]
  | x :: l, D => by
    rw [itemsOk, Bool.and_eq_true, itemsOk_iff sec l, labs_cons]
    unfold itmOk
    rw [Bool.and_eq_true, List.nodup_append]
    by_cases h : x.kind = 1
    · simp only [h, decide_true, Bool.true_and, if_true, Bool.not_eq_true', List.mem_cons, List.mem_append, List.mem_singleton, List.not_mem_nil, or_false]
      have hin : inN D x.name = false ↔ x.name ∉ D := by
        rw [← Bool.not_eq_true, inN_iff]
      rw [hin]
      have ha : ∀ s, s ∈ addN D x ↔ s = x.name ∨ s ∈ D := fun s => by
        rw [addN_mem, if_pos h]
        simp [or_comm]
      simp only [ha]
      constructor
      · rintro ⟨⟨a, b⟩, c, d, e⟩
        refine ⟨?_, ?_, ?_, e, ?_⟩
        · rintro y (rfl | hy)
          · exact a
          · exact c y hy
        · rintro s (rfl | hs)
          · exact b
          · exact fun k => d s hs (.inr k)
        · simp
        · intro y hy z hz hyz
          exact d z hz (.inl (hyz ▸ hy))
      · rintro ⟨a, b, c, d, e⟩
        refine ⟨⟨a x (.inl rfl), b _ (.inl rfl)⟩, fun y hy => a y (.inr hy), fun s hs k => ?_, d⟩
        rcases k with rfl | k
        · exact e _ rfl _ hs rfl
        · exact b s (.inr hs) k
    · have ha : addN D x = D := by unfold addN; rw [if_neg h]
      simp only [h, decide_false, Bool.false_and, if_false, Bool.not_false, and_true, List.mem_cons, List.nil_append, ha]
      constructor
      · rintro ⟨a, c, d, e⟩
        refine ⟨?_, d, by simp, e, by simp⟩
        rintro y (rfl | hy)
        · exact a
        · exact c y hy
      · rintro ⟨a, b, _, d, _⟩
        exact ⟨a x (.inl rfl), fun y hy => a y (.inr hy), b, d⟩
theorem equsOk_iff : ∀ (l : List Eqn) (D : List ByteArray), equsOk D l = true ↔ (∀ x, x ∈ l → equ2 x = true) ∧ (∀ s, s ∈ l.map (·.1) → s ∉ D) ∧ (l.map (·.1)).Nodup
  | [], D => by simp [equsOk]
  | x :: l, D => by
    rw [equsOk, Bool.and_eq_true, equsOk_iff l, List.map_cons, List.nodup_cons]
    have hok : equOk D x = true ↔ x.1 ∉ D ∧ equ2 x = true := by
      unfold equOk equ2
      rw [Bool.and_eq_true, Bool.and_eq_true, Bool.and_eq_true, Bool.not_eq_true', ← Bool.not_eq_true, inN_iff, and_assoc]
    rw [hok]
    simp only [List.mem_cons]
    constructor
    · rintro ⟨⟨a, b⟩, c, d, e⟩
      refine ⟨?_, ?_, ?_, e⟩
      · rintro y (rfl | hy)
        · exact b
        · exact c y hy
      · rintro s (rfl | hs)
        · exact a
        · exact fun k => d s hs (.inr k)
      · exact fun hs => d _ hs (.inl rfl)
    · rintro ⟨a, b, c, d⟩
      refine ⟨⟨b _ (.inl rfl), a x (.inl rfl)⟩, fun y hy => a y (.inr hy), fun s hs k => ?_, d⟩
      rcases k with rfl | k
      · exact c hs
      · exact b s (.inr hs) k
theorem namesI_mem : ∀ (l : List Itm) (D : List ByteArray) (s : ByteArray), s ∈ namesI D l ↔ s ∈ D ∨ s ∈ labs l
  | [], D, s => by simp [namesI, labs]
  | x :: l, D, s => by
    show s ∈ namesI (addN D x) l ↔ _
    rw [namesI_mem l, addN_mem, labs_cons, List.mem_append, or_assoc]
theorem namesE_mem : ∀ (l : List Eqn) (D : List ByteArray) (s : ByteArray), s ∈ namesE D l ↔ s ∈ D ∨ s ∈ l.map (·.1)
  | [], D, s => by simp [namesE]
  | x :: l, D, s => by
    show s ∈ namesE (x.1 :: D) l ↔ _
    rw [namesE_mem l, List.map_cons, List.mem_cons, List.mem_cons, ← or_assoc, or_comm (a := s = x.1)]
theorem inN_congr {D E : List ByteArray} (h : ∀ s, s ∈ D ↔ s ∈ E) (s : ByteArray) : inN D s = inN E s := by
  have : inN D s = true ↔ inN E s = true := by rw [inN_iff, inN_iff]; exact h s
  exact Bool.eq_iff_iff.2 this
theorem globsOk_congr {D E : List ByteArray} (h : ∀ s, s ∈ D ↔ s ∈ E) : ∀ (l : List ByteArray) (o : ByteArray), globsOk D o l = globsOk E o l
  | [], o => rfl
  | x :: l, o => by
    rw [globsOk, globsOk, globsOk_congr h l, gOk, gOk, inN_congr h]
theorem untOk_two (u : Unt) : untOk u = untOk2 u := by
  have hg : globsOk u.names nam0 u.globs = globsOk (allN u) nam0 u.globs := by
    refine globsOk_congr (fun s => ?_) _ _
    unfold Unt.names allN
    rw [namesE_mem, namesI_mem, namesI_mem]
    simp [or_assoc]
  rw [Bool.eq_iff_iff]
  unfold untOk untOk2
  rw [Bool.and_eq_true, Bool.and_eq_true, Bool.and_eq_true, Bool.and_eq_true, Bool.and_eq_true, Bool.and_eq_true, Bool.and_eq_true, itemsOk_iff, itemsOk_iff, equsOk_iff, hg, List.all_eq_true, List.all_eq_true, List.all_eq_true, decide_eq_true_iff]
  unfold allN
  rw [List.nodup_append, List.nodup_append]
  have e1 : ∀ s, s ∈ namesI [] u.text ↔ s ∈ labs u.text := fun s => by rw [namesI_mem]; simp
  have e2 : ∀ s, s ∈ namesI (namesI [] u.text) u.data ↔ s ∈ labs u.text ∨ s ∈ labs u.data := fun s => by rw [namesI_mem, e1]
  simp only [e1, e2, List.mem_append]
  constructor
  · rintro ⟨⟨⟨⟨a1, a2, a3⟩, b1, b2, b3⟩, c1, c2, c3⟩, g⟩
    refine ⟨a1, b1, c1, ⟨⟨a3, b3, fun x hx y hy e => b2 y hy (e ▸ hx)⟩, c3, fun x hx y hy e => c2 y hy (e ▸ hx)⟩, g⟩
  · rintro ⟨a1, b1, c1, ⟨⟨a3, b3, d⟩, c3, f⟩, g⟩
    exact ⟨⟨⟨⟨a1, fun s _ => by simp, a3⟩, b1, fun s hs k => d s k s hs rfl, b3⟩, c1, fun s hs k => f s k s hs rfl, c3⟩, g⟩
theorem all_step {α : Type} (f : α → Bool) (l : List α) {i : Nat} (hi : i < l.length) : (l.drop i).all f = (f l[i] && (l.drop (i + 1)).all f) := by
  rw [List.drop_eq_getElem_cons hi, List.all_cons]
end Go.Sx.Ob

set_option linter.unusedVariables false
set_option linter.unusedSimpArgs false
set_option maxRecDepth 100000
namespace Go.Sx.Ob
open Go.Proofs
theorem linW {h : Hp} {p : Option Addr} {l : Nat} {x : Lin} (v : LinAt h p l x) : VwT h p l x.terms ∧ x.terms.length ≤ 9223372036854775807 ∧ ∀ t, t ∈ x.terms → t.1.size ≤ maxLen := ⟨v.vw, by have := v.many; omega, v.names⟩
def Legs (D : List ByteArray) : Prop := ∀ g, g ∈ D → legalL g.data.toList = true
theorem Legs.snoc {D E : List ByteArray} (h : Legs D) (k : Legs E) : Legs (D ++ E) := fun g hg => (List.mem_append.1 hg).elim (h g) (k g)
theorem Legs.item {x : Itm} {sec : Nat} (r : itmR x sec = true) : Legs (if x.kind = 1 then [x.name] else []) := by
  intro g hg
  split at hg
  · rename_i r1
    rw [List.mem_singleton.1 hg]
    rw [itmR_1 r1, Bool.and_eq_true] at r
    exact r.1
  · simp at hg
theorem right9_hc {h : Hp} {a b c d : Sli} {u : Unt} (v : UntAt h a b c d u) : HC Tryz.prog 17 #[untV a b c d] h fun w h' => w = .int .i64 (untR u : Nat) ∧ Ext h h' := by
  refine hcr_of (args := [untV a b c d]) mixed Tryz.func17 (by kernel_rfl) (t_spandrelref9_Right_eq a.p a.l a.c b.p b.l b.c c.p c.l c.c d.p d.l d.c) ?_
  unfold t_spandrelref9_Right
  refine newB ?_
  intro g1 b1 e1 z1
  have b1 : Box g1 h.size 28 [a.v, b.v, c.v, d.v] := b1
  have m1 := v.text.many
  have m2 := v.data.many
  have m3 := v.equs.many
  have m4 := v.globs.many
  have n1 := v.text.len
  have n2 := v.data.len
  have n3 := v.equs.len
  have n4 := v.globs.len
  simp only [add_box]
  refine loads_box b1 ((a.p, a.l, a.c), ()) rfl ?_
  dsimp only [flat, unc, unc1, List.nil_append, List.cons_append]
  refine loads_box b1 ((b.p, b.l, b.c), ()) rfl ?_
  dsimp only [flat, unc, unc1, List.nil_append, List.cons_append]
  rw [wrap_i64 (by omega) (by omega)]
  unfold untR untMany
  refine cond_mk (fun q => ?_) (fun q => ?_)
  · have q := of_decide_eq_true q
    exact ⟨by rw [decide_eq_true (show 8192 < u.text.length + u.data.length by omega)]; rfl, e1⟩
  have q := of_decide_eq_false q
  rw [decide_eq_false (show ¬ 8192 < u.text.length + u.data.length by omega), Bool.false_or]
  refine loads_box b1 ((c.p, c.l, c.c), ()) rfl ?_
  dsimp only [flat, unc, unc1, List.nil_append, List.cons_append]
  refine cond_mk (fun q => ?_) (fun q => ?_)
  · have q := of_decide_eq_true q
    exact ⟨by rw [decide_eq_true (show 8192 < u.equs.length by omega)]; rfl, e1⟩
  have q := of_decide_eq_false q
  rw [decide_eq_false (show ¬ 8192 < u.equs.length by omega), if_neg (by simp), untOk_two]
  generalize hU : untOk2 u = U
  unfold untOk2 at hU
  -- the text
  refine loop_of (cs := [(false, [.int .i64]), (false, [.int .i64])]) (fun y w h' => ∃ i : Nat, y.2.1 = (i : Int) ∧ w = u.text.length - i ∧ i ≤ u.text.length ∧ Ext h h' ∧ Box h' h.size 28 [a.v, b.v, c.v, d.v] ∧ Legs (labs (u.text.take i)) ∧ ((u.text.drop i).all (fun x => itmR x 0) && (u.data.all (fun x => itmR x 1) && (u.equs.all equ2 && (decide (allN u).Nodup && globsOk (allN u) nam0 u.globs)))) = U) ((0 : Int), (0 : Int), ()) u.text.length rfl
    ⟨0, rfl, rfl, by omega, e1, b1, fun g hg => by simp [labs] at hg, hU⟩ ?_
  clear hU
  rintro ⟨n21, n22, ⟨⟩⟩ w h2 ⟨i, hi, rfl, hle, e2, b2, hg1, hu⟩
  simp only at hi
  subst hi
  dsimp only [flat, unc, unc1, List.nil_append, List.cons_append]
  refine loads_box b2 ((a.p, a.l, a.c), ()) rfl ?_
  dsimp only [flat, unc, unc1, List.nil_append, List.cons_append]
  refine cond_mk ?_ ?_
  case _ =>
    intro q
    have q := of_decide_eq_true q
    have hil : i < u.text.length := by omega
    refine loads_box b2 ((a.p, a.l, a.c), ()) rfl ?_
    dsimp only [flat, unc, unc1, List.nil_append, List.cons_append]
    obtain ⟨aa, pp, ll, cc, rfl', hc, va⟩ := (v.text.keep e2).cells i hil
    rw [all_step _ _ hil] at hu
    have ht := labs_take u.text i hil
    generalize u.text[i] = x at hc va hu ht
    refine need_of ⟨by omega, by omega⟩ (osome_mk rfl' ?_)
    rw [show Int.toNat (i : Int) = i by omega]
    refine loads_of (x.kind, x.name, x.inst.op, x.inst.a, x.inst.b, x.inst.n, x.inst.form, (pp, ll, cc), (x.e.num : Int), x.n, ()) hc ?_
    dsimp only [flat, unc, unc1, List.nil_append, List.cons_append]
    refine call_of (rightR_hc (c := cc) (k := 0) va (by omega)) ?_
    rintro _ h3 ⟨rfl, e3⟩
    refine ⟨((if itmR x 0 then 0 else 31 : Int), ()), rfl, ?_⟩
    dsimp only [flat, unc, unc1, List.nil_append, List.cons_append]
    cases hr : itmR x 0 with
    | false =>
      refine cond_t (by simp) ?_
      refine ⟨by rw [← hu, hr]; rfl, e2.trans e3⟩
    | true =>
      refine cond_f (by simp) ?_
      rw [hr, Bool.true_and] at hu
      refine again_mk (cs := [(false, [.int .i64]), (false, [.int .i64])]) (n21, ((i + 1 : Nat) : Int), ()) (u.text.length - (i + 1)) rfl (by omega) (by rw [wrap_i64 (by omega) (by omega)]; rfl) ?_
      exact ⟨i + 1, rfl, rfl, by omega, e2.trans e3, b2.keep e3 (by simp), by rw [ht]; exact hg1.snoc (Legs.item hr), hu⟩
  intro q
  have q := of_decide_eq_false q
  have : i = u.text.length := by omega
  subst this
  rw [List.drop_length, List.all_nil, Bool.true_and] at hu
  rw [List.take_length] at hg1
  clear e1 b1
  -- the data
  refine loop_of (cs := [(false, [.int .i64]), (false, [.int .i64])]) (fun y w h' => ∃ i : Nat, y.2.1 = (i : Int) ∧ w = u.data.length - i ∧ i ≤ u.data.length ∧ Ext h h' ∧ Box h' h.size 28 [a.v, b.v, c.v, d.v] ∧ Legs (labs (u.data.take i)) ∧ ((u.data.drop i).all (fun x => itmR x 1) && (u.equs.all equ2 && (decide (allN u).Nodup && globsOk (allN u) nam0 u.globs))) = U) (n21, (0 : Int), ()) u.data.length rfl
    ⟨0, rfl, rfl, by omega, e2, b2, fun g hg => by simp [labs] at hg, hu⟩ ?_
  clear hu e2 b2
  rintro ⟨n31, n32, ⟨⟩⟩ w h4 ⟨i, hi, rfl, hle, e2, b2, hg2, hu⟩
  simp only at hi
  subst hi
  dsimp only [flat, unc, unc1, List.nil_append, List.cons_append]
  refine loads_box b2 ((b.p, b.l, b.c), ()) rfl ?_
  dsimp only [flat, unc, unc1, List.nil_append, List.cons_append]
  refine cond_mk ?_ ?_
  case _ =>
    intro q
    have q := of_decide_eq_true q
    have hil : i < u.data.length := by omega
    refine loads_box b2 ((b.p, b.l, b.c), ()) rfl ?_
    dsimp only [flat, unc, unc1, List.nil_append, List.cons_append]
    obtain ⟨aa, pp, ll, cc, rfl', hc, va⟩ := (v.data.keep e2).cells i hil
    rw [all_step _ _ hil] at hu
    have ht := labs_take u.data i hil
    generalize u.data[i] = x at hc va hu ht
    refine need_of ⟨by omega, by omega⟩ (osome_mk rfl' ?_)
    rw [show Int.toNat (i : Int) = i by omega]
    refine loads_of (x.kind, x.name, x.inst.op, x.inst.a, x.inst.b, x.inst.n, x.inst.form, (pp, ll, cc), (x.e.num : Int), x.n, ()) hc ?_
    dsimp only [flat, unc, unc1, List.nil_append, List.cons_append]
    refine call_of (rightR_hc (c := cc) (k := 1) va (by omega)) ?_
    rintro _ h3 ⟨rfl, e3⟩
    refine ⟨((if itmR x 1 then 0 else 31 : Int), ()), rfl, ?_⟩
    dsimp only [flat, unc, unc1, List.nil_append, List.cons_append]
    cases hr : itmR x 1 with
    | false =>
      refine cond_t (by simp) ?_
      refine ⟨by rw [← hu, hr]; rfl, e2.trans e3⟩
    | true =>
      refine cond_f (by simp) ?_
      rw [hr, Bool.true_and] at hu
      refine again_mk (cs := [(false, [.int .i64]), (false, [.int .i64])]) (n31, ((i + 1 : Nat) : Int), ()) (u.data.length - (i + 1)) rfl (by omega) (by rw [wrap_i64 (by omega) (by omega)]; rfl) ?_
      exact ⟨i + 1, rfl, rfl, by omega, e2.trans e3, b2.keep e3 (by simp), by rw [ht]; exact hg2.snoc (Legs.item hr), hu⟩
  intro q
  have q := of_decide_eq_false q
  have : i = u.data.length := by omega
  subst this
  rw [List.drop_length, List.all_nil, Bool.true_and] at hu
  rw [List.take_length] at hg2
  -- the equs
  refine loop_of (cs := [(false, [.int .i64]), (false, [.int .i64])]) (fun y w h' => ∃ i : Nat, y.2.1 = (i : Int) ∧ w = u.equs.length - i ∧ i ≤ u.equs.length ∧ Ext h h' ∧ Box h' h.size 28 [a.v, b.v, c.v, d.v] ∧ Legs ((u.equs.take i).map (·.1)) ∧ ((u.equs.drop i).all equ2 && (decide (allN u).Nodup && globsOk (allN u) nam0 u.globs)) = U) (n31, (0 : Int), ()) u.equs.length rfl
    ⟨0, rfl, rfl, by omega, e2, b2, fun g hg => by simp at hg, hu⟩ ?_
  clear hu e2 b2
  rintro ⟨n41, n42, ⟨⟩⟩ w h4 ⟨i, hi, rfl, hle, e2, b2, hg3, hu⟩
  simp only at hi
  subst hi
  dsimp only [flat, unc, unc1, List.nil_append, List.cons_append]
  refine loads_box b2 ((c.p, c.l, c.c), ()) rfl ?_
  dsimp only [flat, unc, unc1, List.nil_append, List.cons_append]
  refine cond_mk ?_ ?_
  case _ =>
    intro q
    have q := of_decide_eq_true q
    have hil : i < u.equs.length := by omega
    refine loads_box b2 ((c.p, c.l, c.c), ()) rfl ?_
    dsimp only [flat, unc, unc1, List.nil_append, List.cons_append]
    obtain ⟨aa, pp, ll, cc, rfl', hc, va, vn⟩ := (v.equs.keep e2).cells i hil
    rw [all_step _ _ hil] at hu
    have ht : (u.equs.take (i + 1)).map (·.1) = (u.equs.take i).map (·.1) ++ [u.equs[i].1] := by rw [List.take_succ_eq_append_getElem hil, List.map_append]; rfl
    generalize u.equs[i] = x at hc va vn hu ht
    unfold equ2 at hu
    refine need_of ⟨by omega, by omega⟩ (osome_mk rfl' ?_)
    rw [show Int.toNat (i : Int) = i by omega]
    refine loads_of (x.1, ()) ⟨hc.1, trivial⟩ ?_
    dsimp only [flat, unc, unc1, List.nil_append, List.cons_append]
    refine call_bool (legal2_hc x.1 _ (by have : maxLen = 9223372036854775807 := rfl; omega)) ?_
    cases hle : legalL x.1.data.toList with
    | false =>
      refine cond_t (by simp) ?_
      refine ⟨by rw [← hu, hle]; rfl, e2⟩
    | true =>
      refine cond_f (by simp) ?_
      rw [hle, Bool.true_and] at hu
      refine loads_box b2 ((c.p, c.l, c.c), ()) rfl ?_
      dsimp only [flat, unc, unc1, List.nil_append, List.cons_append]
      refine need_of ⟨by omega, by omega⟩ (osome_mk rfl' ?_)
      refine loads_of ((pp, ll, cc), (x.2.num : Int), ()) ⟨by rw [add_add]; exact hc.2.1, by rw [add_add]; exact hc.2.2.1, trivial⟩ ?_
      dsimp only [flat, unc, unc1, List.nil_append, List.cons_append]
      obtain ⟨w1, w2, w3⟩ := linW va
      refine call_boolx (right50_hc w1 w2 w3) ?_
      intro h3 e3
      cases hr : rtR none x.2.terms with
      | false =>
        refine cond_t (by simp) ?_
        refine ⟨by rw [← hu, hr]; rfl, e2.trans e3⟩
      | true =>
        refine cond_f (by simp) ?_
        rw [hr, Bool.true_and] at hu
        refine again_mk (cs := [(false, [.int .i64]), (false, [.int .i64])]) (n41, ((i + 1 : Nat) : Int), ()) (u.equs.length - (i + 1)) rfl (by omega) (by rw [wrap_i64 (by omega) (by omega)]; rfl) ?_
        exact ⟨i + 1, rfl, rfl, by omega, e2.trans e3, b2.keep e3 (by simp), by rw [ht]; exact hg3.snoc (fun g hg => by rw [List.mem_singleton.1 hg]; exact hle), hu⟩
  intro q
  have q := of_decide_eq_false q
  have : i = u.equs.length := by omega
  subst this
  rw [List.drop_length, List.all_nil, Bool.true_and] at hu
  rw [List.take_length] at hg3
  -- the names
  refine loads_box b2 ((a.p, a.l, a.c), (b.p, b.l, b.c), (c.p, c.l, c.c), (d.p, d.l, d.c), ()) rfl ?_
  dsimp only [flat, unc, unc1, List.nil_append, List.cons_append]
  refine call_of (all_hc (v.keep e2) (by omega) (by omega) (by omega)) ?_
  rintro _ h5 ⟨p38, l39, l40, rfl, s5, e5⟩
  refine ⟨((p38, l39, l40), ()), rfl, ?_⟩
  dsimp only [flat, unc, unc1, List.nil_append, List.cons_append]
  have hA : (allN u).length ≤ 2 ^ 20 := by
    unfold allN
    have := labs_len u.text
    have := labs_len u.data
    simp only [List.length_append, List.length_map]
    omega
  have n5 := SN.len s5
  refine call_of (sorted_hc s5 (by omega)) ?_
  rintro _ h6 ⟨p41, l43, ys, rfl, hy1, hy2, e6⟩
  refine ⟨((p41, ys.length, l43), ()), rfl, ?_⟩
  dsimp only [flat, unc, unc1, List.nil_append, List.cons_append]
  have e56 := e5.trans e6
  have e06 := e2.trans e56
  by_cases hnd : (allN u).Nodup
  case neg =>
    rw [decide_eq_false hnd] at hu
    refine cond_t ?_ ⟨by rw [← hu]; rfl, e06⟩
    have : ¬ ys.length = (allN u).length := fun k => hnd (hy2.1 k)
    rw [n5]
    simp only [bne_iff_ne, ne_eq]
    omega
  rw [decide_eq_true hnd, Bool.true_and] at hu
  have hy := hy2.2 hnd
  refine cond_f (by rw [n5, hy]; simp) ?_
  have s6 : SN h6 h4.size p38 l39 l40 (allN u) := s5.keep e6 (by simp)
  have b6 := b2.keep e56 (by simp)
  have hleg : ∀ g, g ∈ allN u → ltN nam0 g := fun g hg => legal_gt (((hg1.snoc hg2).snoc hg3) g hg)
  generalize allN u = E at hu s6 hA hleg
  refine loop_of (cs := [(false, [.int .i64]), (false, [.int .i64])]) (fun y w h' => ∃ i : Nat, y.2.1 = (i : Int) ∧ w = u.globs.length - i ∧ i ≤ u.globs.length ∧ h' = h6 ∧ globsOk E (lastG u.globs i) (u.globs.drop i) = U) (n41, (0 : Int), ()) u.globs.length rfl
    ⟨0, rfl, rfl, by omega, rfl, hu⟩ ?_
  clear hu
  rintro ⟨n51, n52, ⟨⟩⟩ w h7 ⟨i, hi, rfl, hile, rfl, hu⟩
  simp only at hi
  subst hi
  dsimp only [flat, unc, unc1, List.nil_append, List.cons_append]
  refine loads_box b6 ((d.p, d.l, d.c), ()) rfl ?_
  dsimp only [flat, unc, unc1, List.nil_append, List.cons_append]
  refine cond_mk (fun q => ?_) (fun q => ?_)
  · have q := of_decide_eq_true q
    have hil : i < u.globs.length := by omega
    obtain ⟨aa, rfl', hc, va⟩ := (v.globs.keep e06).cells i hil
    rw [globsOk_step _ _ hil] at hu
    unfold gOk at hu
    refine cond_mk (fun r2 => ?_) (fun r2 => ?_)
    · have r2 := of_decide_eq_true r2
      refine loads_box b6 ((d.p, d.l, d.c), ()) rfl ?_
      dsimp only [flat, unc, unc1, List.nil_append, List.cons_append]
      refine need_of ⟨by omega, by omega⟩ (osome_mk rfl' ?_)
      rw [show Int.toNat (i : Int) = i by omega, wrap_i64 (x := (i : Int) - 1) (by omega) (by omega)]
      refine loads_of (u.globs[i], ()) hc ?_
      dsimp only [flat, unc, unc1, List.nil_append, List.cons_append]
      refine loads_box b6 ((d.p, d.l, d.c), ()) rfl ?_
      dsimp only [flat, unc, unc1, List.nil_append, List.cons_append]
      obtain ⟨ab, rfl'', hc', va'⟩ := (v.globs.keep e06).cells (i - 1) (by omega)
      refine need_of ⟨by omega, by omega⟩ (osome_mk rfl'' ?_)
      rw [show Int.toNat ((i : Int) - 1) = i - 1 by omega]
      refine loads_of (u.globs[i - 1], ()) hc' ?_
      dsimp only [flat, unc, unc1, List.nil_append, List.cons_append]
      have hla : lastG u.globs i = u.globs[i - 1] := by
        unfold lastG
        rw [if_neg (by omega), List.getD_eq_getElem?_getD, List.getElem?_eq_getElem (by omega)]
        rfl
      rw [leB]
      rw [hla] at hu
      refine cond_mk (fun r3 => ?_) (fun r3 => ?_)
      · have r3 : decide (ltN u.globs[i - 1] u.globs[i]) = false := by simpa using r3
        exact ⟨by rw [← hu, r3, Bool.and_false]; rfl, e06⟩
      · have r3 : decide (ltN u.globs[i - 1] u.globs[i]) = true := by simpa using r3
        rw [r3, Bool.and_true] at hu
        refine loads_box b6 ((d.p, d.l, d.c), ()) rfl ?_
        dsimp only [flat, unc, unc1, List.nil_append, List.cons_append]
        refine need_of ⟨by omega, by omega⟩ (osome_mk rfl' ?_)
        refine loads_of (u.globs[i], ()) hc ?_
        dsimp only [flat, unc, unc1, List.nil_append, List.cons_append]
        refine call_bool (has_hc s6 (by omega) _) ?_
        refine ⟨⟨b6.cells _ rfl, hc', b6.cells _ rfl, hc, b6.cells _ rfl, trivial⟩, ?_⟩
        cases hr : inN E u.globs[i] with
        | false =>
          refine cond_t (by simp) ?_
          exact ⟨by rw [← hu, hr]; rfl, e06⟩
        | true =>
          refine cond_f (by simp) ?_
          rw [hr, Bool.true_and] at hu
          exact again_mk (cs := [(false, [.int .i64]), (false, [.int .i64])]) (n51, ((i + 1 : Nat) : Int), ()) (u.globs.length - (i + 1)) rfl (by omega) (by rw [wrap_i64 (by omega) (by omega)]; rfl) ⟨i + 1, rfl, rfl, by omega, rfl, hu⟩
    · have r2 := of_decide_eq_false r2
      have hi0 : i = 0 := by omega
      subst hi0
      refine loads_box b6 ((d.p, d.l, d.c), ()) rfl ?_
      dsimp only [flat, unc, unc1, List.nil_append, List.cons_append]
      refine need_of ⟨by omega, by omega⟩ (osome_mk rfl' ?_)
      refine loads_of (u.globs[0], ()) hc ?_
      dsimp only [flat, unc, unc1, List.nil_append, List.cons_append]
      refine call_bool (has_hc s6 (by omega) _) ?_
      refine ⟨⟨b6.cells _ rfl, trivial⟩, ?_⟩
      cases hr : inN E u.globs[0] with
      | false =>
        refine cond_t (by simp) ?_
        exact ⟨by rw [← hu, hr]; rfl, e06⟩
      | true =>
        refine cond_f (by simp) ?_
        have hg : decide (ltN (lastG u.globs 0) u.globs[0]) = true := decide_eq_true (hleg _ (inN_iff.1 hr))
        rw [hr, hg, Bool.true_and, Bool.true_and] at hu
        exact again_mk (cs := [(false, [.int .i64]), (false, [.int .i64])]) (n51, ((0 + 1 : Nat) : Int), ()) (u.globs.length - (0 + 1)) rfl (by omega) (by rw [wrap_i64 (by omega) (by omega)]; rfl) ⟨0 + 1, rfl, rfl, by omega, rfl, hu⟩
  · have q := of_decide_eq_false q
    have : i = u.globs.length := by omega
    subst this
    rw [List.drop_length] at hu
    exact ⟨by rw [← hu]; rfl, e06⟩
end Go.Sx.Ob
