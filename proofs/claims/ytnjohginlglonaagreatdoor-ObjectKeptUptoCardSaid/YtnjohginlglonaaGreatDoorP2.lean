/- Contracts over heaps, and plain laws, for the functions that the laws of chapter 10 call, part 2: The operations over heaps: registers, numbers, Check, power. Check and instructions over heaps. Instructions over heaps. An item that may stand in a section, over heaps. Maps with texts for keys; sets of names; units that lie in memory. unit.Right over heaps. What lies behind append of a text; writers over heaps: numbers, texts. Condition: as each statement says. -/
import Derived.Test.YtnjohginlglonaaGreatDoorP1
import Derived.Test.YtnjohginlglonaaGreatDoorZobjU
import Derived.Test.YtnjohginlglonaaGreatDoorZobjV
set_option linter.unusedVariables false
set_option maxRecDepth 100000
namespace Go.Sx.Ob
open Go.Proofs
theorem wrap_i32_8 (n : Int) : (n == IntKind.wrap .i32 (IntKind.wrap .i8 n)) = (decide (-128 ≤ n) && decide (n ≤ 127)) := by
  have h1 : IntKind.wrap .i8 n = if n % 256 < 128 then n % 256 else n % 256 - 256 := by
    simp only [IntKind.wrap, IntKind.bits, IntKind.signed, Bool.true_and]
    split <;> rename_i hh
    · have := of_decide_eq_true hh
      rw [if_neg (by omega)]
      rfl
    · have : ¬ _ := fun h => hh (decide_eq_true h)
      rw [if_pos (by omega)]
      rfl
  have h2 : IntKind.wrap .i32 (IntKind.wrap .i8 n) = IntKind.wrap .i8 n := by
    have : -128 ≤ IntKind.wrap .i8 n ∧ IntKind.wrap .i8 n ≤ 127 := by rw [h1]; split <;> omega
    generalize IntKind.wrap .i8 n = m at this
    simp only [IntKind.wrap, IntKind.bits, IntKind.signed, Bool.true_and]
    split <;> rename_i hh
    · have := of_decide_eq_true hh; omega
    · have : ¬ _ := fun h => hh (decide_eq_true h); omega
  rw [h2, h1]
  by_cases g : -128 ≤ n ∧ n ≤ 127
  · rw [decide_eq_true g.1, decide_eq_true g.2]
    simp
    split <;> omega
  · have : (decide (-128 ≤ n) && decide (n ≤ 127)) = false := by
      rw [Bool.and_eq_false_iff]
      simp
      omega
    rw [this]
    simp
    split <;> omega
theorem wrap_i32_16 (n : Int) : (n == IntKind.wrap .i32 (IntKind.wrap .i16 n)) = (decide (-32768 ≤ n) && decide (n ≤ 32767)) := by
  have h1 : IntKind.wrap .i16 n = if n % 65536 < 32768 then n % 65536 else n % 65536 - 65536 := by
    simp only [IntKind.wrap, IntKind.bits, IntKind.signed, Bool.true_and]
    split <;> rename_i hh
    · have := of_decide_eq_true hh
      rw [if_neg (by omega)]
      rfl
    · have : ¬ _ := fun h => hh (decide_eq_true h)
      rw [if_pos (by omega)]
      rfl
  have h2 : IntKind.wrap .i32 (IntKind.wrap .i16 n) = IntKind.wrap .i16 n := by
    have : -32768 ≤ IntKind.wrap .i16 n ∧ IntKind.wrap .i16 n ≤ 32767 := by rw [h1]; split <;> omega
    generalize IntKind.wrap .i16 n = m at this
    simp only [IntKind.wrap, IntKind.bits, IntKind.signed, Bool.true_and]
    split <;> rename_i hh
    · have := of_decide_eq_true hh; omega
    · have : ¬ _ := fun h => hh (decide_eq_true h); omega
  rw [h2, h1]
  by_cases g : -32768 ≤ n ∧ n ≤ 32767
  · rw [decide_eq_true g.1, decide_eq_true g.2]
    simp
    split <;> omega
  · have : (decide (-32768 ≤ n) && decide (n ≤ 32767)) = false := by
      rw [Bool.and_eq_false_iff]
      simp
      omega
    rw [this]
    simp
    split <;> omega
theorem reaches_hc (h : Hp) (n f : Int) : HCp Tryz.prog 116 [.int .i32 n, .int .i64 f] h (.bool (nReach n f)) := by
  refine hcp_of mixed Tryz.func116 (by kernel_rfl) (t_isa_Reaches_eq n f) ?_
  unfold t_isa_Reaches
  rw [wrap_i32_8, wrap_i32_16]
  refine cond_mk (fun q => ?_) (fun q => ?_)
  · have q : f = 1 := by simpa using q
    exact ⟨by unfold nReach; rw [if_pos q], rfl⟩
  have q : ¬ f = 1 := by simpa using q
  refine cond_mk (fun r => ?_) (fun r => ?_)
  · have r : f = 2 := by simpa using r
    exact ⟨by unfold nReach; rw [if_neg q, if_pos r], rfl⟩
  have r : ¬ f = 2 := by simpa using r
  exact ⟨by unfold nReach; rw [if_neg q, if_neg r]; rfl, rfl⟩
theorem power_hc (h : Hp) (n : Int) : HCp Tryz.prog 87 [.int .i64 n] h (.bool (pow2 n)) := by
  refine hcp_of mixed Tryz.func87 (by kernel_rfl) (t_item_power_eq n) ?_
  unfold t_item_power
  have hf : ¬ (1 ≤ n ∧ n ≤ 256) → pow2 n = false := by
    intro g
    cases hp : pow2 n with
    | false => rfl
    | true =>
      exfalso
      unfold pow2 at hp
      simp only [Bool.or_eq_true, decide_eq_true_eq] at hp
      omega
  refine cond_mk (fun q => ?_) (fun q => ?_)
  · have q := of_decide_eq_true q
    refine cond_mk (fun r => ?_) (fun r => ?_)
    · have r := of_decide_eq_true r
      refine ⟨?_, rfl⟩
      obtain ⟨k, rfl, hk⟩ : ∃ k : Nat, n = ((k + 1 : Nat) : Int) ∧ k < 256 := ⟨(n - 1).toNat, by omega, by omega⟩
      have : ∀ k : Fin 256, (IntKind.wrap .i64 (((BitVec.toNat ((BitVec.ofInt 64 ((k.1 + 1 : Nat) : Int)) &&& (BitVec.ofInt 64 (IntKind.wrap .i64 (((k.1 + 1 : Nat) : Int) - (1 : Int)))))) : Nat) : Int) == (0 : Int)) = pow2 ((k.1 + 1 : Nat) : Int) := by
        decide +kernel
      rw [this ⟨k, hk⟩]
    · have r := of_decide_eq_false r
      exact ⟨by rw [hf (by omega)], rfl⟩
  · have q := of_decide_eq_false q
    exact ⟨by rw [hf (by omega)], rfl⟩
theorem below_hc (h : Hp) (n m : Int) : HCp Tryz.prog 115 [.int .i64 n, .int .i64 m] h (.bool (blw n m)) := by
  refine hcp_of mixed Tryz.func115 (by kernel_rfl) (t_isa_below_eq n m) ?_
  unfold t_isa_below
  refine cond_mk (fun q => ?_) (fun q => ?_)
  · have q := of_decide_eq_true q
    refine ⟨?_, rfl⟩
    unfold blw
    rw [decide_eq_true (show 0 ≤ n by omega)]
    rfl
  · have q := of_decide_eq_false q
    refine ⟨?_, rfl⟩
    unfold blw
    rw [decide_eq_false (show ¬ 0 ≤ n by omega)]
    rfl
theorem beqD (a b : Int) : (a == b) = decide (a = b) := rfl
def insV (op a b n form : Int) : Value := .agg #[.int .i64 op, .int .i64 a, .int .i64 b, .int .i32 n, .int .i64 form]
theorem regs1_hc (h : Hp) (op a b n form : Int) : HC Tryz.prog 107 #[insV op a b n form, .int .i64 1] h fun w h' => w = .bool (regsR 1 a b n) ∧ Ext h h' := by
  refine hcr_of (args := [insV op a b n form, .int .i64 1]) mixed Tryz.func107 (by kernel_rfl) (t_isa_registers_r1_eq op a b n form) ?_
  unfold t_isa_registers_r1
  refine newB ?_
  intro g1 b1 e1 z1
  try simp only [add_box]
  repeat' (first
    | (refine loads_box b1 (_, ()) rfl ?_; dsimp only [flat, unc, unc1, List.nil_append, List.cons_append])
    | (refine call_bool (below_hc _ _ _) ?_)
    | (refine call_bool (reaches_hc _ _ _) ?_)
    | (refine cond_mk (fun q => ?_) (fun q => ?_)))
  all_goals (refine ⟨?_, e1⟩; first | (simp_all [regsR, beqD]; done) | (simp_all [regsR, beqD] <;> simp [blw] <;> omega))
theorem num1_hc (h : Hp) (op a b n form : Int) : HC Tryz.prog 108 #[insV op a b n form, .int .i64 1] h fun w h' => w = .bool (nR 1 n form) ∧ Ext h h' := by
  refine hcr_of (args := [insV op a b n form, .int .i64 1]) mixed Tryz.func108 (by kernel_rfl) (t_isa_number_n1_eq op a b n form) ?_
  unfold t_isa_number_n1
  refine newB ?_
  intro g1 b1 e1 z1
  try simp only [add_box]
  repeat' (first
    | (refine loads_box b1 (_, ()) rfl ?_; dsimp only [flat, unc, unc1, List.nil_append, List.cons_append])
    | (refine call_bool (below_hc _ _ _) ?_)
    | (refine call_bool (reaches_hc _ _ _) ?_)
    | (refine cond_mk (fun q => ?_) (fun q => ?_)))
  all_goals (refine ⟨?_, e1⟩; first | (simp_all [nR, beqD]; done) | (simp_all [nR, beqD] <;> omega))
theorem regs2_hc (h : Hp) (op a b n form : Int) : HC Tryz.prog 107 #[insV op a b n form, .int .i64 2] h fun w h' => w = .bool (regsR 2 a b n) ∧ Ext h h' := by
  refine hcr_of (args := [insV op a b n form, .int .i64 2]) mixed Tryz.func107 (by kernel_rfl) (t_isa_registers_r2_eq op a b n form) ?_
  unfold t_isa_registers_r2
  refine newB ?_
  intro g1 b1 e1 z1
  try simp only [add_box]
  repeat' (first
    | (refine loads_box b1 (_, ()) rfl ?_; dsimp only [flat, unc, unc1, List.nil_append, List.cons_append])
    | (refine call_bool (below_hc _ _ _) ?_)
    | (refine call_bool (reaches_hc _ _ _) ?_)
    | (refine cond_mk (fun q => ?_) (fun q => ?_)))
  all_goals (refine ⟨?_, e1⟩; first | (simp_all [regsR, beqD]; done) | (simp_all [regsR, beqD] <;> simp [blw] <;> omega))
theorem num2_hc (h : Hp) (op a b n form : Int) : HC Tryz.prog 108 #[insV op a b n form, .int .i64 2] h fun w h' => w = .bool (nR 2 n form) ∧ Ext h h' := by
  refine hcr_of (args := [insV op a b n form, .int .i64 2]) mixed Tryz.func108 (by kernel_rfl) (t_isa_number_n2_eq op a b n form) ?_
  unfold t_isa_number_n2
  refine newB ?_
  intro g1 b1 e1 z1
  try simp only [add_box]
  repeat' (first
    | (refine loads_box b1 (_, ()) rfl ?_; dsimp only [flat, unc, unc1, List.nil_append, List.cons_append])
    | (refine call_bool (below_hc _ _ _) ?_)
    | (refine call_bool (reaches_hc _ _ _) ?_)
    | (refine cond_mk (fun q => ?_) (fun q => ?_)))
  all_goals (refine ⟨?_, e1⟩; first | (simp_all [nR, beqD]; done) | (simp_all [nR, beqD] <;> omega))
theorem regs3_hc (h : Hp) (op a b n form : Int) : HC Tryz.prog 107 #[insV op a b n form, .int .i64 3] h fun w h' => w = .bool (regsR 3 a b n) ∧ Ext h h' := by
  refine hcr_of (args := [insV op a b n form, .int .i64 3]) mixed Tryz.func107 (by kernel_rfl) (t_isa_registers_r3_eq op a b n form) ?_
  unfold t_isa_registers_r3
  refine newB ?_
  intro g1 b1 e1 z1
  try simp only [add_box]
  repeat' (first
    | (refine loads_box b1 (_, ()) rfl ?_; dsimp only [flat, unc, unc1, List.nil_append, List.cons_append])
    | (refine call_bool (below_hc _ _ _) ?_)
    | (refine call_bool (reaches_hc _ _ _) ?_)
    | (refine cond_mk (fun q => ?_) (fun q => ?_)))
  all_goals (refine ⟨?_, e1⟩; first | (simp_all [regsR, beqD]; done) | (simp_all [regsR, beqD] <;> simp [blw] <;> omega))
theorem num3_hc (h : Hp) (op a b n form : Int) : HC Tryz.prog 108 #[insV op a b n form, .int .i64 3] h fun w h' => w = .bool (nR 3 n form) ∧ Ext h h' := by
  refine hcr_of (args := [insV op a b n form, .int .i64 3]) mixed Tryz.func108 (by kernel_rfl) (t_isa_number_n3_eq op a b n form) ?_
  unfold t_isa_number_n3
  refine newB ?_
  intro g1 b1 e1 z1
  try simp only [add_box]
  repeat' (first
    | (refine loads_box b1 (_, ()) rfl ?_; dsimp only [flat, unc, unc1, List.nil_append, List.cons_append])
    | (refine call_bool (below_hc _ _ _) ?_)
    | (refine call_bool (reaches_hc _ _ _) ?_)
    | (refine cond_mk (fun q => ?_) (fun q => ?_)))
  all_goals (refine ⟨?_, e1⟩; first | (simp_all [nR, beqD]; done) | (simp_all [nR, beqD] <;> omega))
theorem regs4_hc (h : Hp) (op a b n form : Int) : HC Tryz.prog 107 #[insV op a b n form, .int .i64 4] h fun w h' => w = .bool (regsR 4 a b n) ∧ Ext h h' := by
  refine hcr_of (args := [insV op a b n form, .int .i64 4]) mixed Tryz.func107 (by kernel_rfl) (t_isa_registers_r4_eq op a b n form) ?_
  unfold t_isa_registers_r4
  refine newB ?_
  intro g1 b1 e1 z1
  try simp only [add_box]
  repeat' (first
    | (refine loads_box b1 (_, ()) rfl ?_; dsimp only [flat, unc, unc1, List.nil_append, List.cons_append])
    | (refine call_bool (below_hc _ _ _) ?_)
    | (refine call_bool (reaches_hc _ _ _) ?_)
    | (refine cond_mk (fun q => ?_) (fun q => ?_)))
  all_goals (refine ⟨?_, e1⟩; first | (simp_all [regsR, beqD]; done) | (simp_all [regsR, beqD] <;> simp [blw] <;> omega))
theorem num4_hc (h : Hp) (op a b n form : Int) : HC Tryz.prog 108 #[insV op a b n form, .int .i64 4] h fun w h' => w = .bool (nR 4 n form) ∧ Ext h h' := by
  refine hcr_of (args := [insV op a b n form, .int .i64 4]) mixed Tryz.func108 (by kernel_rfl) (t_isa_number_n4_eq op a b n form) ?_
  unfold t_isa_number_n4
  refine newB ?_
  intro g1 b1 e1 z1
  try simp only [add_box]
  repeat' (first
    | (refine loads_box b1 (_, ()) rfl ?_; dsimp only [flat, unc, unc1, List.nil_append, List.cons_append])
    | (refine call_bool (below_hc _ _ _) ?_)
    | (refine call_bool (reaches_hc _ _ _) ?_)
    | (refine cond_mk (fun q => ?_) (fun q => ?_)))
  all_goals (refine ⟨?_, e1⟩; first | (simp_all [nR, beqD]; done) | (simp_all [nR, beqD] <;> omega))
theorem regs5_hc (h : Hp) (op a b n form : Int) : HC Tryz.prog 107 #[insV op a b n form, .int .i64 5] h fun w h' => w = .bool (regsR 5 a b n) ∧ Ext h h' := by
  refine hcr_of (args := [insV op a b n form, .int .i64 5]) mixed Tryz.func107 (by kernel_rfl) (t_isa_registers_r5_eq op a b n form) ?_
  unfold t_isa_registers_r5
  refine newB ?_
  intro g1 b1 e1 z1
  try simp only [add_box]
  repeat' (first
    | (refine loads_box b1 (_, ()) rfl ?_; dsimp only [flat, unc, unc1, List.nil_append, List.cons_append])
    | (refine call_bool (below_hc _ _ _) ?_)
    | (refine call_bool (reaches_hc _ _ _) ?_)
    | (refine cond_mk (fun q => ?_) (fun q => ?_)))
  all_goals (refine ⟨?_, e1⟩; first | (simp_all [regsR, beqD]; done) | (simp_all [regsR, beqD] <;> simp [blw] <;> omega))
theorem num5_hc (h : Hp) (op a b n form : Int) : HC Tryz.prog 108 #[insV op a b n form, .int .i64 5] h fun w h' => w = .bool (nR 5 n form) ∧ Ext h h' := by
  refine hcr_of (args := [insV op a b n form, .int .i64 5]) mixed Tryz.func108 (by kernel_rfl) (t_isa_number_n5_eq op a b n form) ?_
  unfold t_isa_number_n5
  refine newB ?_
  intro g1 b1 e1 z1
  try simp only [add_box]
  repeat' (first
    | (refine loads_box b1 (_, ()) rfl ?_; dsimp only [flat, unc, unc1, List.nil_append, List.cons_append])
    | (refine call_bool (below_hc _ _ _) ?_)
    | (refine call_bool (reaches_hc _ _ _) ?_)
    | (refine cond_mk (fun q => ?_) (fun q => ?_)))
  all_goals (refine ⟨?_, e1⟩; first | (simp_all [nR, beqD]; done) | (simp_all [nR, beqD] <;> omega))
theorem regs6_hc (h : Hp) (op a b n form : Int) : HC Tryz.prog 107 #[insV op a b n form, .int .i64 6] h fun w h' => w = .bool (regsR 6 a b n) ∧ Ext h h' := by
  refine hcr_of (args := [insV op a b n form, .int .i64 6]) mixed Tryz.func107 (by kernel_rfl) (t_isa_registers_r6_eq op a b n form) ?_
  unfold t_isa_registers_r6
  refine newB ?_
  intro g1 b1 e1 z1
  try simp only [add_box]
  repeat' (first
    | (refine loads_box b1 (_, ()) rfl ?_; dsimp only [flat, unc, unc1, List.nil_append, List.cons_append])
    | (refine call_bool (below_hc _ _ _) ?_)
    | (refine call_bool (reaches_hc _ _ _) ?_)
    | (refine cond_mk (fun q => ?_) (fun q => ?_)))
  all_goals (refine ⟨?_, e1⟩; first | (simp_all [regsR, beqD]; done) | (simp_all [regsR, beqD] <;> simp [blw] <;> omega))
theorem num6_hc (h : Hp) (op a b n form : Int) : HC Tryz.prog 108 #[insV op a b n form, .int .i64 6] h fun w h' => w = .bool (nR 6 n form) ∧ Ext h h' := by
  refine hcr_of (args := [insV op a b n form, .int .i64 6]) mixed Tryz.func108 (by kernel_rfl) (t_isa_number_n6_eq op a b n form) ?_
  unfold t_isa_number_n6
  refine newB ?_
  intro g1 b1 e1 z1
  try simp only [add_box]
  repeat' (first
    | (refine loads_box b1 (_, ()) rfl ?_; dsimp only [flat, unc, unc1, List.nil_append, List.cons_append])
    | (refine call_bool (below_hc _ _ _) ?_)
    | (refine call_bool (reaches_hc _ _ _) ?_)
    | (refine cond_mk (fun q => ?_) (fun q => ?_)))
  all_goals (refine ⟨?_, e1⟩; first | (simp_all [nR, beqD]; done) | (simp_all [nR, beqD] <;> omega))
theorem regs7_hc (h : Hp) (op a b n form : Int) : HC Tryz.prog 107 #[insV op a b n form, .int .i64 7] h fun w h' => w = .bool (regsR 7 a b n) ∧ Ext h h' := by
  refine hcr_of (args := [insV op a b n form, .int .i64 7]) mixed Tryz.func107 (by kernel_rfl) (t_isa_registers_r7_eq op a b n form) ?_
  unfold t_isa_registers_r7
  refine newB ?_
  intro g1 b1 e1 z1
  try simp only [add_box]
  repeat' (first
    | (refine loads_box b1 (_, ()) rfl ?_; dsimp only [flat, unc, unc1, List.nil_append, List.cons_append])
    | (refine call_bool (below_hc _ _ _) ?_)
    | (refine call_bool (reaches_hc _ _ _) ?_)
    | (refine cond_mk (fun q => ?_) (fun q => ?_)))
  all_goals (refine ⟨?_, e1⟩; first | (simp_all [regsR, beqD]; done) | (simp_all [regsR, beqD] <;> simp [blw] <;> omega))
theorem num7_hc (h : Hp) (op a b n form : Int) : HC Tryz.prog 108 #[insV op a b n form, .int .i64 7] h fun w h' => w = .bool (nR 7 n form) ∧ Ext h h' := by
  refine hcr_of (args := [insV op a b n form, .int .i64 7]) mixed Tryz.func108 (by kernel_rfl) (t_isa_number_n7_eq op a b n form) ?_
  unfold t_isa_number_n7
  refine newB ?_
  intro g1 b1 e1 z1
  try simp only [add_box]
  repeat' (first
    | (refine loads_box b1 (_, ()) rfl ?_; dsimp only [flat, unc, unc1, List.nil_append, List.cons_append])
    | (refine call_bool (below_hc _ _ _) ?_)
    | (refine call_bool (reaches_hc _ _ _) ?_)
    | (refine cond_mk (fun q => ?_) (fun q => ?_)))
  all_goals (refine ⟨?_, e1⟩; first | (simp_all [nR, beqD]; done) | (simp_all [nR, beqD] <;> omega))
theorem regs8_hc (h : Hp) (op a b n form : Int) : HC Tryz.prog 107 #[insV op a b n form, .int .i64 8] h fun w h' => w = .bool (regsR 8 a b n) ∧ Ext h h' := by
  refine hcr_of (args := [insV op a b n form, .int .i64 8]) mixed Tryz.func107 (by kernel_rfl) (t_isa_registers_r8_eq op a b n form) ?_
  unfold t_isa_registers_r8
  refine newB ?_
  intro g1 b1 e1 z1
  try simp only [add_box]
  repeat' (first
    | (refine loads_box b1 (_, ()) rfl ?_; dsimp only [flat, unc, unc1, List.nil_append, List.cons_append])
    | (refine call_bool (below_hc _ _ _) ?_)
    | (refine call_bool (reaches_hc _ _ _) ?_)
    | (refine cond_mk (fun q => ?_) (fun q => ?_)))
  all_goals (refine ⟨?_, e1⟩; first | (simp_all [regsR, beqD]; done) | (simp_all [regsR, beqD] <;> simp [blw] <;> omega))
theorem num8_hc (h : Hp) (op a b n form : Int) : HC Tryz.prog 108 #[insV op a b n form, .int .i64 8] h fun w h' => w = .bool (nR 8 n form) ∧ Ext h h' := by
  refine hcr_of (args := [insV op a b n form, .int .i64 8]) mixed Tryz.func108 (by kernel_rfl) (t_isa_number_n8_eq op a b n form) ?_
  unfold t_isa_number_n8
  refine newB ?_
  intro g1 b1 e1 z1
  try simp only [add_box]
  repeat' (first
    | (refine loads_box b1 (_, ()) rfl ?_; dsimp only [flat, unc, unc1, List.nil_append, List.cons_append])
    | (refine call_bool (below_hc _ _ _) ?_)
    | (refine call_bool (reaches_hc _ _ _) ?_)
    | (refine cond_mk (fun q => ?_) (fun q => ?_)))
  all_goals (refine ⟨?_, e1⟩; first | (simp_all [nR, beqD]; done) | (simp_all [nR, beqD] <;> omega))
theorem regs9_hc (h : Hp) (op a b n form : Int) : HC Tryz.prog 107 #[insV op a b n form, .int .i64 9] h fun w h' => w = .bool (regsR 9 a b n) ∧ Ext h h' := by
  refine hcr_of (args := [insV op a b n form, .int .i64 9]) mixed Tryz.func107 (by kernel_rfl) (t_isa_registers_r9_eq op a b n form) ?_
  unfold t_isa_registers_r9
  refine newB ?_
  intro g1 b1 e1 z1
  try simp only [add_box]
  repeat' (first
    | (refine loads_box b1 (_, ()) rfl ?_; dsimp only [flat, unc, unc1, List.nil_append, List.cons_append])
    | (refine call_bool (below_hc _ _ _) ?_)
    | (refine call_bool (reaches_hc _ _ _) ?_)
    | (refine cond_mk (fun q => ?_) (fun q => ?_)))
  all_goals (refine ⟨?_, e1⟩; first | (simp_all [regsR, beqD]; done) | (simp_all [regsR, beqD] <;> simp [blw] <;> omega))
theorem num9_hc (h : Hp) (op a b n form : Int) : HC Tryz.prog 108 #[insV op a b n form, .int .i64 9] h fun w h' => w = .bool (nR 9 n form) ∧ Ext h h' := by
  refine hcr_of (args := [insV op a b n form, .int .i64 9]) mixed Tryz.func108 (by kernel_rfl) (t_isa_number_n9_eq op a b n form) ?_
  unfold t_isa_number_n9
  refine newB ?_
  intro g1 b1 e1 z1
  try simp only [add_box]
  repeat' (first
    | (refine loads_box b1 (_, ()) rfl ?_; dsimp only [flat, unc, unc1, List.nil_append, List.cons_append])
    | (refine call_bool (below_hc _ _ _) ?_)
    | (refine call_bool (reaches_hc _ _ _) ?_)
    | (refine cond_mk (fun q => ?_) (fun q => ?_)))
  all_goals (refine ⟨?_, e1⟩; first | (simp_all [nR, beqD]; done) | (simp_all [nR, beqD] <;> omega))
theorem regs10_hc (h : Hp) (op a b n form : Int) : HC Tryz.prog 107 #[insV op a b n form, .int .i64 10] h fun w h' => w = .bool (regsR 10 a b n) ∧ Ext h h' := by
  refine hcr_of (args := [insV op a b n form, .int .i64 10]) mixed Tryz.func107 (by kernel_rfl) (t_isa_registers_r10_eq op a b n form) ?_
  unfold t_isa_registers_r10
  refine newB ?_
  intro g1 b1 e1 z1
  try simp only [add_box]
  repeat' (first
    | (refine loads_box b1 (_, ()) rfl ?_; dsimp only [flat, unc, unc1, List.nil_append, List.cons_append])
    | (refine call_bool (below_hc _ _ _) ?_)
    | (refine call_bool (reaches_hc _ _ _) ?_)
    | (refine cond_mk (fun q => ?_) (fun q => ?_)))
  all_goals (refine ⟨?_, e1⟩; first | (simp_all [regsR, beqD]; done) | (simp_all [regsR, beqD] <;> simp [blw] <;> omega))
theorem num10_hc (h : Hp) (op a b n form : Int) : HC Tryz.prog 108 #[insV op a b n form, .int .i64 10] h fun w h' => w = .bool (nR 10 n form) ∧ Ext h h' := by
  refine hcr_of (args := [insV op a b n form, .int .i64 10]) mixed Tryz.func108 (by kernel_rfl) (t_isa_number_n10_eq op a b n form) ?_
  unfold t_isa_number_n10
  refine newB ?_
  intro g1 b1 e1 z1
  try simp only [add_box]
  repeat' (first
    | (refine loads_box b1 (_, ()) rfl ?_; dsimp only [flat, unc, unc1, List.nil_append, List.cons_append])
    | (refine call_bool (below_hc _ _ _) ?_)
    | (refine call_bool (reaches_hc _ _ _) ?_)
    | (refine cond_mk (fun q => ?_) (fun q => ?_)))
  all_goals (refine ⟨?_, e1⟩; first | (simp_all [nR, beqD]; done) | (simp_all [nR, beqD] <;> omega))
theorem regs11_hc (h : Hp) (op a b n form : Int) : HC Tryz.prog 107 #[insV op a b n form, .int .i64 11] h fun w h' => w = .bool (regsR 11 a b n) ∧ Ext h h' := by
  refine hcr_of (args := [insV op a b n form, .int .i64 11]) mixed Tryz.func107 (by kernel_rfl) (t_isa_registers_r11_eq op a b n form) ?_
  unfold t_isa_registers_r11
  refine newB ?_
  intro g1 b1 e1 z1
  try simp only [add_box]
  repeat' (first
    | (refine loads_box b1 (_, ()) rfl ?_; dsimp only [flat, unc, unc1, List.nil_append, List.cons_append])
    | (refine call_bool (below_hc _ _ _) ?_)
    | (refine call_bool (reaches_hc _ _ _) ?_)
    | (refine cond_mk (fun q => ?_) (fun q => ?_)))
  all_goals (refine ⟨?_, e1⟩; first | (simp_all [regsR, beqD]; done) | (simp_all [regsR, beqD] <;> simp [blw] <;> omega))
theorem num11_hc (h : Hp) (op a b n form : Int) : HC Tryz.prog 108 #[insV op a b n form, .int .i64 11] h fun w h' => w = .bool (nR 11 n form) ∧ Ext h h' := by
  refine hcr_of (args := [insV op a b n form, .int .i64 11]) mixed Tryz.func108 (by kernel_rfl) (t_isa_number_n11_eq op a b n form) ?_
  unfold t_isa_number_n11
  refine newB ?_
  intro g1 b1 e1 z1
  try simp only [add_box]
  repeat' (first
    | (refine loads_box b1 (_, ()) rfl ?_; dsimp only [flat, unc, unc1, List.nil_append, List.cons_append])
    | (refine call_bool (below_hc _ _ _) ?_)
    | (refine call_bool (reaches_hc _ _ _) ?_)
    | (refine cond_mk (fun q => ?_) (fun q => ?_)))
  all_goals (refine ⟨?_, e1⟩; first | (simp_all [nR, beqD]; done) | (simp_all [nR, beqD] <;> omega))
theorem regs12_hc (h : Hp) (op a b n form : Int) : HC Tryz.prog 107 #[insV op a b n form, .int .i64 12] h fun w h' => w = .bool (regsR 12 a b n) ∧ Ext h h' := by
  refine hcr_of (args := [insV op a b n form, .int .i64 12]) mixed Tryz.func107 (by kernel_rfl) (t_isa_registers_r12_eq op a b n form) ?_
  unfold t_isa_registers_r12
  refine newB ?_
  intro g1 b1 e1 z1
  try simp only [add_box]
  repeat' (first
    | (refine loads_box b1 (_, ()) rfl ?_; dsimp only [flat, unc, unc1, List.nil_append, List.cons_append])
    | (refine call_bool (below_hc _ _ _) ?_)
    | (refine call_bool (reaches_hc _ _ _) ?_)
    | (refine cond_mk (fun q => ?_) (fun q => ?_)))
  all_goals (refine ⟨?_, e1⟩; first | (simp_all [regsR, beqD]; done) | (simp_all [regsR, beqD] <;> simp [blw] <;> omega))
theorem num12_hc (h : Hp) (op a b n form : Int) : HC Tryz.prog 108 #[insV op a b n form, .int .i64 12] h fun w h' => w = .bool (nR 12 n form) ∧ Ext h h' := by
  refine hcr_of (args := [insV op a b n form, .int .i64 12]) mixed Tryz.func108 (by kernel_rfl) (t_isa_number_n12_eq op a b n form) ?_
  unfold t_isa_number_n12
  refine newB ?_
  intro g1 b1 e1 z1
  try simp only [add_box]
  repeat' (first
    | (refine loads_box b1 (_, ()) rfl ?_; dsimp only [flat, unc, unc1, List.nil_append, List.cons_append])
    | (refine call_bool (below_hc _ _ _) ?_)
    | (refine call_bool (reaches_hc _ _ _) ?_)
    | (refine cond_mk (fun q => ?_) (fun q => ?_)))
  all_goals (refine ⟨?_, e1⟩; first | (simp_all [nR, beqD]; done) | (simp_all [nR, beqD] <;> omega))
theorem regs13_hc (h : Hp) (op a b n form : Int) : HC Tryz.prog 107 #[insV op a b n form, .int .i64 13] h fun w h' => w = .bool (regsR 13 a b n) ∧ Ext h h' := by
  refine hcr_of (args := [insV op a b n form, .int .i64 13]) mixed Tryz.func107 (by kernel_rfl) (t_isa_registers_r13_eq op a b n form) ?_
  unfold t_isa_registers_r13
  refine newB ?_
  intro g1 b1 e1 z1
  try simp only [add_box]
  repeat' (first
    | (refine loads_box b1 (_, ()) rfl ?_; dsimp only [flat, unc, unc1, List.nil_append, List.cons_append])
    | (refine call_bool (below_hc _ _ _) ?_)
    | (refine call_bool (reaches_hc _ _ _) ?_)
    | (refine cond_mk (fun q => ?_) (fun q => ?_)))
  all_goals (refine ⟨?_, e1⟩; first | (simp_all [regsR, beqD]; done) | (simp_all [regsR, beqD] <;> simp [blw] <;> omega))
theorem num13_hc (h : Hp) (op a b n form : Int) : HC Tryz.prog 108 #[insV op a b n form, .int .i64 13] h fun w h' => w = .bool (nR 13 n form) ∧ Ext h h' := by
  refine hcr_of (args := [insV op a b n form, .int .i64 13]) mixed Tryz.func108 (by kernel_rfl) (t_isa_number_n13_eq op a b n form) ?_
  unfold t_isa_number_n13
  refine newB ?_
  intro g1 b1 e1 z1
  try simp only [add_box]
  repeat' (first
    | (refine loads_box b1 (_, ()) rfl ?_; dsimp only [flat, unc, unc1, List.nil_append, List.cons_append])
    | (refine call_bool (below_hc _ _ _) ?_)
    | (refine call_bool (reaches_hc _ _ _) ?_)
    | (refine cond_mk (fun q => ?_) (fun q => ?_)))
  all_goals (refine ⟨?_, e1⟩; first | (simp_all [nR, beqD]; done) | (simp_all [nR, beqD] <;> omega))
theorem registers_hc (h : Hp) (op a b n form : Int) {s : Nat} (h1 : 1 ≤ s) (h2 : s ≤ 13) : HC Tryz.prog 107 #[insV op a b n form, .int .i64 s] h fun w h' => w = .bool (regsR s a b n) ∧ Ext h h' := by
  have hs : s = 1 ∨ s = 2 ∨ s = 3 ∨ s = 4 ∨ s = 5 ∨ s = 6 ∨ s = 7 ∨ s = 8 ∨ s = 9 ∨ s = 10 ∨ s = 11 ∨ s = 12 ∨ s = 13 := by omega
  clear h1 h2
  rcases hs with rfl | rfl | rfl | rfl | rfl | rfl | rfl | rfl | rfl | rfl | rfl | rfl | rfl
  · exact regs1_hc h op a b n form
  · exact regs2_hc h op a b n form
  · exact regs3_hc h op a b n form
  · exact regs4_hc h op a b n form
  · exact regs5_hc h op a b n form
  · exact regs6_hc h op a b n form
  · exact regs7_hc h op a b n form
  · exact regs8_hc h op a b n form
  · exact regs9_hc h op a b n form
  · exact regs10_hc h op a b n form
  · exact regs11_hc h op a b n form
  · exact regs12_hc h op a b n form
  · exact regs13_hc h op a b n form
theorem number_hc (h : Hp) (op a b n form : Int) {s : Nat} (h1 : 1 ≤ s) (h2 : s ≤ 13) : HC Tryz.prog 108 #[insV op a b n form, .int .i64 s] h fun w h' => w = .bool (nR s n form) ∧ Ext h h' := by
  have hs : s = 1 ∨ s = 2 ∨ s = 3 ∨ s = 4 ∨ s = 5 ∨ s = 6 ∨ s = 7 ∨ s = 8 ∨ s = 9 ∨ s = 10 ∨ s = 11 ∨ s = 12 ∨ s = 13 := by omega
  clear h1 h2
  rcases hs with rfl | rfl | rfl | rfl | rfl | rfl | rfl | rfl | rfl | rfl | rfl | rfl | rfl
  · exact num1_hc h op a b n form
  · exact num2_hc h op a b n form
  · exact num3_hc h op a b n form
  · exact num4_hc h op a b n form
  · exact num5_hc h op a b n form
  · exact num6_hc h op a b n form
  · exact num7_hc h op a b n form
  · exact num8_hc h op a b n form
  · exact num9_hc h op a b n form
  · exact num10_hc h op a b n form
  · exact num11_hc h op a b n form
  · exact num12_hc h op a b n form
  · exact num13_hc h op a b n form
end Go.Sx.Ob

set_option linter.unusedVariables false
set_option linter.unusedSimpArgs false
set_option maxRecDepth 100000
namespace Go.Sx.Ob
open Go.Proofs
def Sm (n : Int) : Prop := -9223372036854775808 ≤ n ∧ n ≤ 9223372036854775807
theorem check_hc {h : Hp} (t : Tab h) (op a b n form : Int) (ho : Sm op) :
    HC Tryz.prog 99 #[insV op a b n form] h fun w h' => w = .int .i64 (chkR ⟨op, a, b, n, form⟩) ∧ Ext h h' := by
  refine hcr_of (args := [insV op a b n form]) mixed Tryz.func99 (by kernel_rfl) (t_isa_Check_eq op a b n form) ?_
  unfold t_isa_Check
  refine newB ?_
  intro g1 b1 e1 z1
  refine loads_box b1 (op, ()) rfl ?_
  dsimp only [flat, unc, unc1, List.nil_append, List.cons_append]
  refine call_of (at_hc (t.keep e1 (by simp)) op ho.1 ho.2) ?_
  rintro _ g2 ⟨s, y, rfl, e2⟩
  refine ⟨(s, y, ((shp op : Nat) : Int), decide (shp op ≠ 0), ()), rfl, ?_⟩
  dsimp only [flat, unc, unc1, List.nil_append, List.cons_append]
  refine newB ?_
  intro g3 b3 e3 z3
  refine stores_of b3 rfl (by simp) ?_
  intro g4 b4 k4 z4
  have b4 : Box g4 g2.size 155 [.string s, .int .u8 y, .int .i64 (shp op : Nat)] := b4
  have e4 := ((e1.trans e2).trans e3).st k4 (by have := e1.size; have := e2.size; omega)
  have b1 := b1.keep ((e2.trans e3).st k4 (by have := e2.size; omega)) (by simp)
  unfold chkR
  simp only [add_box]
  refine cond_mk (fun q => ?_) (fun q => ?_)
  · have q : shp op = 0 := by simpa using q
    exact ⟨by rw [if_pos q], e4⟩
  have q : ¬ shp op = 0 := by simpa using q
  rw [if_neg q]
  refine loads_box b1 (op, a, b, n, form, ()) rfl ?_
  dsimp only [flat, unc, unc1, List.nil_append, List.cons_append]
  refine loads_box b4 (((shp op : Nat) : Int), ()) rfl ?_
  dsimp only [flat, unc, unc1, List.nil_append, List.cons_append]
  have hs := shp_cases op
  refine call_of (registers_hc g4 op a b n form (s := shp op) (by omega) (by omega)) ?_
  rintro _ g5 ⟨rfl, e5⟩
  refine ⟨(regsR (shp op) a b n, ()), rfl, ?_⟩
  dsimp only [flat, unc, unc1, List.nil_append, List.cons_append]
  have e45 := e4.trans e5
  refine cond_mk (fun q => ?_) (fun q => ?_)
  · have q : regsR (shp op) a b n = false := by simpa using q
    exact ⟨by rw [if_pos q], e45⟩
  have q : regsR (shp op) a b n = true := by simpa using q
  rw [if_neg (by rw [q]; simp)]
  have b1 := b1.keep e5 (by simp)
  have b4 := b4.keep e5 (by simp)
  refine loads_box b1 (op, ()) rfl ?_
  dsimp only [flat, unc, unc1, List.nil_append, List.cons_append]
  refine call_of (spans_hc (t.keep e45 (by simp)) op ho.1 ho.2) ?_
  rintro _ g6 ⟨rfl, e6⟩
  refine ⟨(spn op, ()), rfl, ?_⟩
  dsimp only [flat, unc, unc1, List.nil_append, List.cons_append]
  have e46 := e45.trans e6
  have b1 := b1.keep e6 (by simp)
  have b4 := b4.keep e6 (by simp)
  refine cond_mk (fun q => ?_) (fun q => ?_)
  · have q : spn op = false := by simpa using q
    refine loads_box b1 (form, ()) rfl ?_
    dsimp only [flat, unc, unc1, List.nil_append, List.cons_append]
    refine cond_mk (fun r => ?_) (fun r => ?_)
    · have r : ¬ form = 0 := by simpa using r
      exact ⟨by rw [q]; simp [r], e46⟩
    have r : form = 0 := by simpa using r
    refine loads_box b1 (op, a, b, n, form, ()) rfl ?_
    dsimp only [flat, unc, unc1, List.nil_append, List.cons_append]
    refine loads_box b4 (((shp op : Nat) : Int), ()) rfl ?_
    dsimp only [flat, unc, unc1, List.nil_append, List.cons_append]
    refine call_of (number_hc g6 op a b n form (s := shp op) (by omega) (by omega)) ?_
    rintro _ g7 ⟨rfl, e7⟩
    refine ⟨(nR (shp op) n form, ()), rfl, ?_⟩
    dsimp only [flat, unc, unc1, List.nil_append, List.cons_append]
    refine cond_mk (fun p => ?_) (fun p => ?_)
    · exact ⟨by rw [q]; simp_all, e46.trans e7⟩
    · exact ⟨by rw [q]; simp_all, e46.trans e7⟩
  · have q : spn op = true := by simpa using q
    refine loads_box b1 (op, a, b, n, form, ()) rfl ?_
    dsimp only [flat, unc, unc1, List.nil_append, List.cons_append]
    refine loads_box b4 (((shp op : Nat) : Int), ()) rfl ?_
    dsimp only [flat, unc, unc1, List.nil_append, List.cons_append]
    refine call_of (number_hc g6 op a b n form (s := shp op) (by omega) (by omega)) ?_
    rintro _ g7 ⟨rfl, e7⟩
    refine ⟨(nR (shp op) n form, ()), rfl, ?_⟩
    dsimp only [flat, unc, unc1, List.nil_append, List.cons_append]
    refine cond_mk (fun p => ?_) (fun p => ?_)
    · exact ⟨by rw [q]; simp_all, e46.trans e7⟩
    · exact ⟨by rw [q]; simp_all, e46.trans e7⟩
end Go.Sx.Ob

set_option linter.unusedVariables false
set_option linter.unusedSimpArgs false
set_option maxRecDepth 100000
namespace Go.Sx.Ob
open Go.Proofs
def encI (p : Option Addr) (l c : Nat) (x : Itm) : List Value := [.int .i64 x.kind, .string x.name, .int .i64 x.inst.op, .int .i64 x.inst.a, .int .i64 x.inst.b, .int .i32 x.inst.n, .int .i64 x.inst.form, .slice p l c, .int .u32 x.e.num, .int .i64 x.n]
def itmV (p : Option Addr) (l c : Nat) (x : Itm) : Value := .agg (encI p l c x).toArray
/-- An expression that lies in memory, and is no longer than Go can hold. -/
structure LinAt (h : Hp) (p : Option Addr) (l : Nat) (x : Lin) : Prop where
  vw : VwT h p l x.terms
  many : x.terms.length ≤ 2 ^ 60
  names : ∀ t, t ∈ x.terms → t.1.size ≤ maxLen
theorem LinAt.keep {h h' : Hp} {p : Option Addr} {l : Nat} {x : Lin} (v : LinAt h p l x) (k : Ext h h') : LinAt h' p l x := ⟨v.vw.keep k (by simp), v.many, v.names⟩
theorem VwT.none (h : Hp) : VwT h none 0 [] := ⟨rfl, fun i hi => absurd hi (by simp)⟩
theorem LinAt.none (h : Hp) (n : Nat) : LinAt h none 0 ⟨[], n⟩ := ⟨VwT.none h, by simp, by simp⟩
theorem linB_0 (x : Lin) : linB x lin0 = isZ x := by
  unfold linB isZ lin0
  rw [Bool.and_comm]
/-- What goes on behind an operation with an expression. -/
def insRT (g k : Nat) : T :=
  T.loads ⟨g, 5, none⟩ [.int .i32] <| fun (n16 : Int) =>
  cond (n16 == (0 : Int))
   (T.loads ⟨k, 0, none⟩ [.int .i64, .int .i64, .int .i64, .int .i32, .int .i64] <| fun (n17 : Int) (n18 : Int) (n19 : Int) (n20 : Int) (n21 : Int) =>
   T.call Tryz.prog 99 [.agg #[.int .i64 n17, .int .i64 n18, .int .i64 n19, .int .i32 n20, .int .i64 n21]] false [(false, [.int .i64])] <| fun (n22 : Int) =>
   cond (n22 == (0 : Int))
    (T.loads ⟨g, 7, none⟩ [.slice 104, .int .u32] <| fun (p23 : Option Addr) (l24 : Nat) (l25 : Nat) (n26 : Int) =>
    T.call Tryz.prog 70 [.agg #[.slice p23 l24 l25, .int .u32 n26]] false [(false, [.bool])] <| fun (b27 : Bool) =>
    T.ret (.bool b27))
    (T.ret (.bool false)))
   (T.ret (.bool false))
/-- And behind one without. -/
def insST (g k : Nat) : T :=
  T.loads ⟨k, 0, none⟩ [.int .i64, .int .i64, .int .i64, .int .i32, .int .i64] <| fun (n16 : Int) (n17 : Int) (n18 : Int) (n19 : Int) (n20 : Int) =>
  T.call Tryz.prog 99 [.agg #[.int .i64 n16, .int .i64 n17, .int .i64 n18, .int .i32 n19, .int .i64 n20]] false [(false, [.int .i64])] <| fun (n21 : Int) =>
  cond (n21 == (0 : Int))
   (T.loads ⟨g, 7, none⟩ [.slice 104, .int .u32] <| fun (p22 : Option Addr) (l23 : Nat) (l24 : Nat) (n25 : Int) =>
   T.call Tryz.prog 88 [.agg #[.slice p22 l23 l24, .int .u32 n25], .agg #[.slice none 0 0, .int .u32 (0 : Int)]] false [(false, [.bool])] <| fun (b26 : Bool) =>
   T.ret (.bool b26))
   (T.ret (.bool false))
def insC (i : Ins) : List Value := [.int .i64 i.op, .int .i64 i.a, .int .i64 i.b, .int .i32 i.n, .int .i64 i.form]
theorem insRT_of {L : Lp} {h0 h : Hp} (t : Tab h) {x : Itm} {p : Option Addr} {l c g k : Nat} {i : Ins} {e1 e2 : TypeId} (b1 : Box h g e1 (encI p l c x)) (b2 : Box h k e2 (insC i)) (v : LinAt h p l x.e) (ho : Sm i.op) (e : Ext h0 h) :
    insRT g k L (fun w h' => w = .bool (decide (x.inst.n = 0) && decide (chkR i = 0) && rtR none x.e.terms) ∧ Ext h0 h') h := by
  unfold insRT
  refine loads_box b1 (x.inst.n, ()) rfl ?_
  dsimp only [flat, unc, unc1, List.nil_append, List.cons_append]
  refine cond_mk (fun q => ?_) (fun q => ?_)
  · have q : x.inst.n = 0 := by simpa using q
    refine loads_box b2 (i.op, i.a, i.b, i.n, i.form, ()) rfl ?_
    dsimp only [flat, unc, unc1, List.nil_append, List.cons_append]
    refine call_of (check_hc t i.op i.a i.b i.n i.form ho) ?_
    rintro _ g2 ⟨rfl, e2⟩
    refine ⟨(chkR i, ()), rfl, ?_⟩
    dsimp only [flat, unc, unc1, List.nil_append, List.cons_append]
    refine cond_mk (fun r => ?_) (fun r => ?_)
    · have r : chkR i = 0 := by simpa using r
      refine loads_box (b1.keep e2 (by simp)) ((p, l, c), (x.e.num : Int), ()) rfl ?_
      dsimp only [flat, unc, unc1, List.nil_append, List.cons_append]
      refine call_of (right63_hc (c := c) (v.keep e2).vw (by have := v.many; omega) v.names) ?_
      rintro _ g3 ⟨rfl, e3⟩
      refine ⟨(rtR none x.e.terms, ()), rfl, ?_⟩
      exact ⟨by rw [decide_eq_true q, decide_eq_true r]; rfl, (e.trans e2).trans e3⟩
    · have r : ¬ chkR i = 0 := by simpa using r
      exact ⟨by rw [decide_eq_false r, Bool.and_false]; rfl, e.trans e2⟩
  · have q : ¬ x.inst.n = 0 := by simpa using q
    exact ⟨by rw [decide_eq_false q]; rfl, e⟩
theorem insST_of {L : Lp} {h0 h : Hp} (t : Tab h) {x : Itm} {p : Option Addr} {l c g k : Nat} {i : Ins} {e1 e2 : TypeId} (b1 : Box h g e1 (encI p l c x)) (b2 : Box h k e2 (insC i)) (v : LinAt h p l x.e) (ho : Sm i.op) (e : Ext h0 h) :
    insST g k L (fun w h' => w = .bool (decide (chkR i = 0) && isZ x.e) ∧ Ext h0 h') h := by
  unfold insST
  refine loads_box b2 (i.op, i.a, i.b, i.n, i.form, ()) rfl ?_
  dsimp only [flat, unc, unc1, List.nil_append, List.cons_append]
  refine call_of (check_hc t i.op i.a i.b i.n i.form ho) ?_
  rintro _ g2 ⟨rfl, e2⟩
  refine ⟨(chkR i, ()), rfl, ?_⟩
  dsimp only [flat, unc, unc1, List.nil_append, List.cons_append]
  refine cond_mk (fun r => ?_) (fun r => ?_)
  · have r : chkR i = 0 := by simpa using r
    refine loads_box (b1.keep e2 (by simp)) ((p, l, c), (x.e.num : Int), ()) rfl ?_
    dsimp only [flat, unc, unc1, List.nil_append, List.cons_append]
    refine call_of (same64_hc (c := c) (d := 0) (y := lin0) (v.keep e2).vw (VwT.none g2) v.many) ?_
    rintro _ g3 ⟨rfl, e3⟩
    refine ⟨(linB x.e lin0, ()), rfl, ?_⟩
    exact ⟨by rw [decide_eq_true r, linB_0]; rfl, (e.trans e2).trans e3⟩
  · have r : ¬ chkR i = 0 := by simpa using r
    exact ⟨by rw [decide_eq_false r]; rfl, e.trans e2⟩
theorem instruction_hc {h : Hp} (t : Tab h) {x : Itm} {p : Option Addr} {l c : Nat} (v : LinAt h p l x.e) (ho : Sm x.inst.op) :
    HC Tryz.prog 86 #[itmV p l c x] h fun w h' => w = .bool (insR x.inst x.e) ∧ Ext h h' := by
  refine hcr_of (args := [itmV p l c x]) mixed Tryz.func86 (by kernel_rfl) (t_item_instruction_eq x.kind x.name x.inst.op x.inst.a x.inst.b x.inst.n x.inst.form p l c x.e.num x.n) ?_
  unfold t_item_instruction
  refine newB ?_
  intro g1 b1 e1 z1
  have b1 : Box g1 h.size 102 (encI p l c x) := b1
  simp only [add_box]
  refine loads_box b1 (x.inst.op, ()) rfl ?_
  dsimp only [flat, unc, unc1, List.nil_append, List.cons_append]
  refine call_of (at_hc (t.keep e1 (by simp)) x.inst.op ho.1 ho.2) ?_
  rintro _ g2 ⟨s, y, rfl, e2⟩
  refine ⟨(s, y, ((shp x.inst.op : Nat) : Int), decide (shp x.inst.op ≠ 0), ()), rfl, ?_⟩
  dsimp only [flat, unc, unc1, List.nil_append, List.cons_append]
  refine newB ?_
  intro g3 b3 e3 z3
  refine stores_of b3 rfl (by simp) ?_
  intro g4 b4 k4 z4
  have b4 : Box g4 g2.size 155 [.string s, .int .u8 y, .int .i64 (shp x.inst.op : Nat)] := b4
  have s1 := e1.size
  have s2 := e2.size
  have e14 := (e2.trans e3).st k4 (by omega)
  have e4 := e1.trans e14
  have b1 := b1.keep e14 (by simp)
  unfold insR
  refine cond_mk (fun q => ?_) (fun q => ?_)
  · have q : shp x.inst.op = 0 := by simpa using q
    exact ⟨by rw [q]; rfl, e4⟩
  have q : shp x.inst.op ≠ 0 := by simpa using q
  rw [decide_eq_true q, Bool.true_and]
  refine loads_box b1 (x.inst.form, ()) rfl ?_
  dsimp only [flat, unc, unc1, List.nil_append, List.cons_append]
  refine cond_mk (fun r => ?_) (fun r => ?_)
  · have r : ¬ x.inst.form = 0 := by simpa using r
    exact ⟨by rw [decide_eq_false r]; rfl, e4⟩
  have r : x.inst.form = 0 := by simpa using r
  rw [decide_eq_true r, Bool.true_and]
  refine loads_box b1 (x.inst.op, x.inst.a, x.inst.b, x.inst.n, x.inst.form, ()) rfl ?_
  dsimp only [flat, unc, unc1, List.nil_append, List.cons_append]
  refine newB ?_
  intro g5 b5 e5 z5
  refine stores_of b5 rfl (by simp) ?_
  intro g6 b6 k6 z6
  have b6 : Box g6 g4.size 100 (insC x.inst) := b6
  have e46 := e5.st k6 (by omega)
  have e6 := e4.trans e46
  have b1 := b1.keep e46 (by simp)
  have b4 := b4.keep e46 (by simp)
  simp only [add_box]
  have hs := shp_cases x.inst.op
  refine loads_box b4 (((shp x.inst.op : Nat) : Int), ()) rfl ?_
  dsimp only [flat, unc, unc1, List.nil_append, List.cons_append]
  generalize hB : (if wnt x.inst.op = true then decide (x.inst.n = 0) && decide (chkR { x.inst with form := if spn x.inst.op = true then 1 else 0 } = 0) && rtR none x.e.terms else decide (chkR x.inst = 0) && isZ x.e) = B
  have hF : { x.inst with form := 0 } = x.inst := by
    rcases hx : x.inst with ⟨a1, a2, a3, a4, a5⟩
    rw [hx] at r
    simp only at r
    rw [r]
  have hA : 12 ≤ shp x.inst.op → T.stores ⟨g4.size, 4, none⟩ [.int .i64 1] (insRT h.size g4.size) [] (fun w h' => w = .bool B ∧ Ext h h') g6 := by
    intro hh
    refine stores_of b6 rfl (by simp [insC]) ?_
    intro g7 b7 k7 z7
    have b7 : Box g7 g4.size 100 (insC { x.inst with form := 1 }) := b7
    have e67 : Ext g4 g7 := e46.st k7 (by omega)
    have e7 := e4.trans e67
    have hw : wnt x.inst.op = true := decide_eq_true (by omega)
    have hp : spn x.inst.op = true := decide_eq_true hh
    rw [if_pos hw, if_pos hp] at hB
    have := insRT_of (L := []) (h0 := h) (t.keep e7 (by simp)) (b1.keep k7 (by simp; omega)) b7 (v.keep e7) ho e7
    rw [hB] at this
    exact this
  have hR : shp x.inst.op = 10 ∨ shp x.inst.op = 11 → insRT h.size g4.size [] (fun w h' => w = .bool B ∧ Ext h h') g6 := by
    intro hh
    have hw : wnt x.inst.op = true := decide_eq_true (by omega)
    have hp : ¬ spn x.inst.op = true := by unfold spn; rw [decide_eq_false (by omega)]; simp
    rw [if_pos hw, if_neg hp, hF] at hB
    have := insRT_of (L := []) (h0 := h) (t.keep e6 (by simp)) b1 b6 (v.keep e6) ho e6
    rw [hB] at this
    exact this
  have hS : shp x.inst.op < 10 → insST h.size g4.size [] (fun w h' => w = .bool B ∧ Ext h h') g6 := by
    intro hh
    have hw : ¬ wnt x.inst.op = true := by unfold wnt; rw [decide_eq_false (by omega)]; simp
    rw [if_neg hw] at hB
    have := insST_of (L := []) (h0 := h) (t.keep e6 (by simp)) b1 b6 (v.keep e6) ho e6
    rw [hB] at this
    exact this
  clear hB
  refine cond_mk (fun q1 => ?_) (fun q1 => ?_)
  · have q1 : ((shp x.inst.op : Nat) : Int) = 12 := by simpa using q1
    refine cond_mk (fun q2 => hA (by omega)) (fun q2 => ?_)
    have q2 : ¬ ((shp x.inst.op : Nat) : Int) = 12 := by simpa using q2
    exact absurd q1 q2
  have q1 : ¬ ((shp x.inst.op : Nat) : Int) = 12 := by simpa using q1
  refine cond_mk (fun q2 => ?_) (fun q2 => ?_)
  · have q2 : ((shp x.inst.op : Nat) : Int) = 13 := by simpa using q2
    exact hA (by omega)
  have q2 : ¬ ((shp x.inst.op : Nat) : Int) = 13 := by simpa using q2
  refine cond_mk (fun q3 => ?_) (fun q3 => ?_)
  · have q3 : ((shp x.inst.op : Nat) : Int) = 10 := by simpa using q3
    refine cond_mk (fun q2 => hR (by omega)) (fun q4 => ?_)
    have q4 : ¬ ((shp x.inst.op : Nat) : Int) = 10 := by simpa using q4
    exact absurd q3 q4
  have q3 : ¬ ((shp x.inst.op : Nat) : Int) = 10 := by simpa using q3
  refine cond_mk (fun q4 => ?_) (fun q4 => ?_)
  · have q4 : ((shp x.inst.op : Nat) : Int) = 11 := by simpa using q4
    exact hR (by omega)
  have q4 : ¬ ((shp x.inst.op : Nat) : Int) = 11 := by simpa using q4
  exact hS (by omega)
end Go.Sx.Ob

set_option linter.unusedVariables false
set_option linter.unusedSimpArgs false
set_option maxRecDepth 100000
namespace Go.Sx.Ob
open Go.Proofs
structure ItmAt (h : Hp) (p : Option Addr) (l : Nat) (x : Itm) : Prop where
  lin : LinAt h p l x.e
  name : x.name.size ≤ maxLen
  op : Sm x.inst.op
theorem ItmAt.keep {h h' : Hp} {p : Option Addr} {l : Nat} {x : Itm} (v : ItmAt h p l x) (k : Ext h h') : ItmAt h' p l x := ⟨v.lin.keep k, v.name, v.op⟩
def sameI (x y : Itm) : Bool := decide (x.name = y.name) && decide (x.inst = y.inst) && decide (x.n = y.n) && linB x.e y.e
theorem ins77 : Tryz.prog.underlying 100 = some (.struct (flds Tryz.prog 100)) := by kernel_rfl
theorem cmpIns (x y : Operand) (i j : Ins) (h : Hp) (K : Value → Hp → Prop) (hk : K (.bool !(decide (i = j))) h) :
    semW Tryz.prog (Sx.cmpS (BinOp.neq) 100 x y (.agg (insC i).toArray) (.agg (insC j).toArray)) h K := by
  refine cmpS_neq ins77 (by kernel_rfl) (by kernel_rfl) (by kernel_rfl) K ?_
  have he : (flds Tryz.prog 100).all (eqF (insC i).toArray (insC j).toArray) = (i.op == j.op && (i.a == j.a && (i.b == j.b && (i.n == j.n && (i.form == j.form && true))))) := by
    rw [← Array.all_toList]
    kernel_rfl
  rw [he, Bool.and_true]
  have : (i.op == j.op && (i.a == j.a && (i.b == j.b && (i.n == j.n && i.form == j.form)))) = decide (i = j) := by
    rcases i with ⟨a1, a2, a3, a4, a5⟩
    rcases j with ⟨c1, c2, c3, c4, c5⟩
    simp only [beqD, Ins.mk.injEq]
    by_cases h1 : a1 = c1 <;> by_cases h2 : a2 = c2 <;> by_cases h3 : a3 = c3 <;> by_cases h4 : a4 = c4 <;> by_cases h5 : a5 = c5 <;> simp [h1, h2, h3, h4, h5]
  rw [this]
  exact hk
/-- What is not asked for must be zero. -/
def rtT (g k : Nat) : T :=
  T.loads ⟨g, 1, none⟩ [.string] <| fun (s8 : ByteArray) =>
  T.loads ⟨k, 1, none⟩ [.string] <| fun (s9 : ByteArray) =>
  cond (!((ByteArray.toList s8) == (ByteArray.toList s9)))
   (T.ret (.int .i64 (31 : Int)))
   (T.loads ⟨g, 2, none⟩ [.int .i64, .int .i64, .int .i64, .int .i32, .int .i64] <| fun (n10 : Int) (n11 : Int) (n12 : Int) (n13 : Int) (n14 : Int) =>
   T.loads ⟨k, 2, none⟩ [.int .i64, .int .i64, .int .i64, .int .i32, .int .i64] <| fun (n15 : Int) (n16 : Int) (n17 : Int) (n18 : Int) (n19 : Int) =>
   T.sem Tryz.prog (Sx.cmpS (BinOp.neq) 100 (Operand.tmp 109) (Operand.tmp 111) (.agg #[.int .i64 n10, .int .i64 n11, .int .i64 n12, .int .i32 n13, .int .i64 n14]) (.agg #[.int .i64 n15, .int .i64 n16, .int .i64 n17, .int .i32 n18, .int .i64 n19])) false [(false, [.bool])] <| fun (b20 : Bool) =>
   cond b20
    (T.ret (.int .i64 (31 : Int)))
    (T.loads ⟨g, 9, none⟩ [.int .i64] <| fun (n21 : Int) =>
    T.loads ⟨k, 9, none⟩ [.int .i64] <| fun (n22 : Int) =>
    cond (n21 != n22)
     (T.ret (.int .i64 (31 : Int)))
     (T.loads ⟨g, 7, none⟩ [.slice 104, .int .u32] <| fun (p23 : Option Addr) (l24 : Nat) (l25 : Nat) (n26 : Int) =>
     T.loads ⟨k, 7, none⟩ [.slice 104, .int .u32] <| fun (p27 : Option Addr) (l28 : Nat) (l29 : Nat) (n30 : Int) =>
     T.call Tryz.prog 88 [.agg #[.slice p23 l24 l25, .int .u32 n26], .agg #[.slice p27 l28 l29, .int .u32 n30]] false [(false, [.bool])] <| fun (b31 : Bool) =>
     cond (!b31)
      (T.ret (.int .i64 (31 : Int)))
      (T.ret (.int .i64 (0 : Int))))))
def no31 (b : Bool) : Value := .int .i64 (if b then 0 else 31)
theorem rtT_of {L : Lp} {h0 h : Hp} {x y : Itm} {p q : Option Addr} {l c m d g k : Nat} {e1 e2 : TypeId} (b1 : Box h g e1 (encI p l c x)) (b2 : Box h k e2 (encI q m d y)) (v : LinAt h p l x.e) (w : VwT h q m y.e.terms) (e : Ext h0 h) :
    rtT g k L (fun w h' => w = no31 (sameI x y) ∧ Ext h0 h') h := by
  unfold rtT sameI
  refine loads_box b1 (x.name, ()) rfl ?_
  dsimp only [flat, unc, unc1, List.nil_append, List.cons_append]
  refine loads_box b2 (y.name, ()) rfl ?_
  dsimp only [flat, unc, unc1, List.nil_append, List.cons_append]
  rw [ByteArray.toList_eq, ByteArray.toList_eq]
  refine cond_mk (fun r => ?_) (fun r => ?_)
  · have r : ¬ x.name = y.name := fun he => by rw [he] at r; simp at r
    exact ⟨by rw [decide_eq_false r]; rfl, e⟩
  have r : x.name = y.name := ba_ext (by simpa using r)
  rw [decide_eq_true r, Bool.true_and]
  refine loads_box b1 (x.inst.op, x.inst.a, x.inst.b, x.inst.n, x.inst.form, ()) rfl ?_
  dsimp only [flat, unc, unc1, List.nil_append, List.cons_append]
  refine loads_box b2 (y.inst.op, y.inst.a, y.inst.b, y.inst.n, y.inst.form, ()) rfl ?_
  dsimp only [flat, unc, unc1, List.nil_append, List.cons_append]
  refine sem_bool (fun K' hK => cmpIns _ _ x.inst y.inst h K' hK) ?_
  refine cond_mk (fun r => ?_) (fun r => ?_)
  · have r : ¬ x.inst = y.inst := by simpa using r
    exact ⟨by rw [decide_eq_false r]; rfl, e⟩
  have r : x.inst = y.inst := by simpa using r
  rw [decide_eq_true r, Bool.true_and]
  refine loads_box b1 (x.n, ()) rfl ?_
  dsimp only [flat, unc, unc1, List.nil_append, List.cons_append]
  refine loads_box b2 (y.n, ()) rfl ?_
  dsimp only [flat, unc, unc1, List.nil_append, List.cons_append]
  refine cond_mk (fun r => ?_) (fun r => ?_)
  · have r : ¬ x.n = y.n := by simpa using r
    exact ⟨by rw [decide_eq_false r]; rfl, e⟩
  have r : x.n = y.n := by simpa using r
  rw [decide_eq_true r, Bool.true_and]
  refine loads_box b1 ((p, l, c), (x.e.num : Int), ()) rfl ?_
  dsimp only [flat, unc, unc1, List.nil_append, List.cons_append]
  refine loads_box b2 ((q, m, d), (y.e.num : Int), ()) rfl ?_
  dsimp only [flat, unc, unc1, List.nil_append, List.cons_append]
  refine call_of (same64_hc (c := c) (d := d) v.vw w v.many) ?_
  rintro _ g3 ⟨rfl, e3⟩
  refine ⟨(linB x.e y.e, ()), rfl, ?_⟩
  dsimp only [flat, unc, unc1, List.nil_append, List.cons_append]
  refine cond_mk (fun r => ?_) (fun r => ?_)
  · have r : linB x.e y.e = false := by simpa using r
    exact ⟨by rw [r]; rfl, e.trans e3⟩
  · have r : linB x.e y.e = true := by simpa using r
    exact ⟨by rw [r]; rfl, e.trans e3⟩
theorem linB_r (x : Lin) : linB x x = true := linB_refl x
theorem itmR_1 {x : Itm} {sec : Nat} (hk : x.kind = 1) : itmR x sec = (legalL x.name.data.toList && sameI x { itm x.kind with name := x.name }) := by
  unfold itmR sameI
  simp only [hk, itm, linB_r, linB_0, z1, z2, z3, z4]
  simp (decide := true) only [if_true, if_false, decide_true, Bool.true_and, Bool.and_true]
  try simp only [Bool.and_assoc, Bool.and_comm, Bool.and_left_comm]
theorem itmR_2 {x : Itm} {sec : Nat} (hk : x.kind = 2) : itmR x sec = (decide (sec = 0) && insR x.inst x.e && sameI x { itm x.kind with inst := x.inst, e := x.e }) := by
  unfold itmR sameI
  simp only [hk, itm, linB_r, linB_0, z1, z2, z3, z4]
  simp (decide := true) only [if_true, if_false, decide_true, Bool.true_and, Bool.and_true]
  try simp only [Bool.and_assoc, Bool.and_comm, Bool.and_left_comm]
theorem itmR_3 {x : Itm} {sec : Nat} (hk : x.kind = 3) : itmR x sec = (pow2 x.n && sameI x { itm x.kind with n := x.n }) := by
  unfold itmR sameI
  simp only [hk, itm, linB_r, linB_0, z1, z2, z3, z4]
  simp (decide := true) only [if_true, if_false, decide_true, Bool.true_and, Bool.and_true]
  try simp only [Bool.and_assoc, Bool.and_comm, Bool.and_left_comm]
theorem itmR_4 {x : Itm} {sec : Nat} (hk : x.kind = 4) : itmR x sec = (decide (sec = 0) && sameI x (itm x.kind)) := by
  unfold itmR sameI
  simp only [hk, itm, linB_r, linB_0, z1, z2, z3, z4]
  simp (decide := true) only [if_true, if_false, decide_true, Bool.true_and, Bool.and_true]
  try simp only [Bool.and_assoc, Bool.and_comm, Bool.and_left_comm]
theorem itmR_5 {x : Itm} {sec : Nat} (hk : x.kind = 5) : itmR x sec = (decide (sec = 1) && decide (-128 ≤ x.n) && decide (x.n ≤ 255) && sameI x { itm x.kind with n := x.n }) := by
  unfold itmR sameI
  simp only [hk, itm, linB_r, linB_0, z1, z2, z3, z4]
  simp (decide := true) only [if_true, if_false, decide_true, Bool.true_and, Bool.and_true]
  try simp only [Bool.and_assoc, Bool.and_comm, Bool.and_left_comm]
theorem itmR_6 {x : Itm} {sec : Nat} (hk : x.kind = 6) : itmR x sec = (decide (sec = 1) && rtR none x.e.terms && sameI x { itm x.kind with e := x.e }) := by
  unfold itmR sameI
  simp only [hk, itm, linB_r, linB_0, z1, z2, z3, z4]
  simp (decide := true) only [if_true, if_false, decide_true, Bool.true_and, Bool.and_true]
  try simp only [Bool.and_assoc, Bool.and_comm, Bool.and_left_comm]
theorem itmR_7 {x : Itm} {sec : Nat} (hk : x.kind = 7) : itmR x sec = (decide (sec = 1) && decide (0 ≤ x.n) && decide (x.n ≤ 1048576) && sameI x { itm x.kind with n := x.n }) := by
  unfold itmR sameI
  simp only [hk, itm, linB_r, linB_0, z1, z2, z3, z4]
  simp (decide := true) only [if_true, if_false, decide_true, Bool.true_and, Bool.and_true]
  try simp only [Bool.and_assoc, Bool.and_comm, Bool.and_left_comm]
theorem itmR_no {x : Itm} {sec : Nat} (h1 : x.kind ≠ 1) (h2 : x.kind ≠ 2) (h3 : x.kind ≠ 3) (h4 : x.kind ≠ 4) (h5 : x.kind ≠ 5) (h6 : x.kind ≠ 6) (h7 : x.kind ≠ 7) : itmR x sec = false := by
  unfold itmR
  rw [if_neg h1, if_neg h2, if_neg h3, if_neg h4, if_neg h5, if_neg h6, if_neg h7]
theorem item0_hc {h : Hp} (t : Tab h) {x : Itm} {p : Option Addr} {l c : Nat} (v : ItmAt h p l x) :
    HC Tryz.prog 68 #[itmV p l c x, .int .i64 0] h fun w h' => w = no31 (itmR x 0) ∧ Ext h h' := by
  refine hcr_of (args := [itmV p l c x, .int .i64 0]) mixed Tryz.func68 (by kernel_rfl) (t_item_Right_c0_eq x.kind x.name x.inst.op x.inst.a x.inst.b x.inst.n x.inst.form p l c x.e.num x.n) ?_
  unfold t_item_Right_c0
  refine newB ?_
  intro g1 b1 e1 z1
  have b1 : Box g1 h.size 102 (encI p l c x) := b1
  refine loads_box b1 (x.kind, ()) rfl ?_
  dsimp only [flat, unc, unc1, List.nil_append, List.cons_append]
  refine newB ?_
  intro g2 b2 e2 z2
  refine stores_of b2 rfl (by simp) ?_
  intro g3 b3 k3 z3
  have b3 : Box g3 g1.size 102 (encI none 0 0 (itm x.kind)) := b3
  have s1 := e1.size
  have e13 := e2.st k3 (Nat.le_refl _)
  have e3 := e1.trans e13
  have b1 := b1.keep e13 (by simp)
  simp only [add_box]
  refine loads_box b1 (x.kind, ()) rfl ?_
  dsimp only [flat, unc, unc1, List.nil_append, List.cons_append]
  refine cond_mk (fun q => ?_) (fun q => ?_)
  · have q : x.kind = 1 := by simpa using q
    rw [itmR_1 q]
    refine loads_box b1 (x.name, ()) rfl ?_
    dsimp only [flat, unc, unc1, List.nil_append, List.cons_append]
    refine stores_of b3 rfl (by simp [encI]) ?_
    intro g4 b4 k4 z4
    have b4 : Box g4 g1.size 102 (encI none 0 0 { itm x.kind with name := x.name }) := b4
    have e4 := e3.st k4 (by omega)
    have b1 := b1.keep k4 (by simp; omega)
    refine loads_box b1 (x.name, ()) rfl ?_
    dsimp only [flat, unc, unc1, List.nil_append, List.cons_append]
    refine call_bool (legal_hc x.name g4 (by have := v.name; have : maxLen = 9223372036854775807 := rfl; omega)) ?_
    refine cond_mk (fun r => ?_) (fun r => ?_)
    · have r : legalL x.name.data.toList = false := by simpa using r
      exact ⟨by rw [r]; rfl, e4⟩
    have r : legalL x.name.data.toList = true := by simpa using r
    rw [r, Bool.true_and]
    have hh := rtT_of (L := []) (h0 := h) (y := { itm x.kind with name := x.name }) b1 b4 (v.lin.keep e4) (VwT.none g4) e4
    exact hh
  have q1 : x.kind ≠ 1 := by simpa using q
  refine cond_mk (fun q => ?_) (fun q => ?_)
  · have q : x.kind = 2 := by simpa using q
    rw [itmR_2 q]
    refine loads_box b1 (x.inst.op, x.inst.a, x.inst.b, x.inst.n, x.inst.form, ()) rfl ?_
    dsimp only [flat, unc, unc1, List.nil_append, List.cons_append]
    refine loads_box b1 ((p, l, c), (x.e.num : Int), ()) rfl ?_
    dsimp only [flat, unc, unc1, List.nil_append, List.cons_append]
    refine stores_of b3 rfl (by simp [encI]) ?_
    intro g4 b4 k4 z4
    have e4 := e3.st k4 (by omega)
    have b1 := b1.keep k4 (by simp; omega)
    refine ⟨⟨b1.cells [.slice p l c, .int .u32 x.e.num] rfl, trivial⟩, ?_⟩
    refine stores_of b4 rfl (by simp [encI, setL]) ?_
    intro g5 b5 k5 z5
    have b5 : Box g5 g1.size 102 (encI p l c { itm x.kind with inst := x.inst, e := x.e }) := b5
    have e5 := e4.st k5 (by omega)
    have b1 := b1.keep k5 (by simp; omega)
    refine loads_box b1 (x.kind, x.name, x.inst.op, x.inst.a, x.inst.b, x.inst.n, x.inst.form, (p, l, c), (x.e.num : Int), x.n, ()) rfl ?_
    dsimp only [flat, unc, unc1, List.nil_append, List.cons_append]
    refine call_of (instruction_hc (c := c) (t.keep e5 (by simp)) (v.lin.keep e5) v.op) ?_
    rintro _ g6 ⟨rfl, e6'⟩
    refine ⟨(insR x.inst x.e, ()), rfl, ?_⟩
    dsimp only [flat, unc, unc1, List.nil_append, List.cons_append]
    have e6 := e5.trans e6'
    refine cond_mk (fun r => ?_) (fun r => ?_)
    · have r : insR x.inst x.e = false := by simpa using r
      exact ⟨by rw [r]; rfl, e6⟩
    have r : insR x.inst x.e = true := by simpa using r
    rw [r]
    have b1 := b1.keep e6' (by simp)
    have b5 := b5.keep e6' (by simp)
    have hh := rtT_of (L := []) (h0 := h) (y := { itm x.kind with inst := x.inst, e := x.e }) b1 b5 (v.lin.keep e6) (v.lin.keep e6).vw e6
    exact hh
  have q2 : x.kind ≠ 2 := by simpa using q
  refine cond_mk (fun q => ?_) (fun q => ?_)
  · have q : x.kind = 3 := by simpa using q
    rw [itmR_3 q]
    refine loads_box b1 (x.n, ()) rfl ?_
    dsimp only [flat, unc, unc1, List.nil_append, List.cons_append]
    refine stores_of b3 rfl (by simp [encI]) ?_
    intro g4 b4 k4 z4
    have b4 : Box g4 g1.size 102 (encI none 0 0 { itm x.kind with n := x.n }) := b4
    have e4 := e3.st k4 (by omega)
    have b1 := b1.keep k4 (by simp; omega)
    refine loads_box b1 (x.n, ()) rfl ?_
    dsimp only [flat, unc, unc1, List.nil_append, List.cons_append]
    refine call_bool (power_hc g4 x.n) ?_
    refine cond_mk (fun r => ?_) (fun r => ?_)
    · have r : pow2 x.n = false := by simpa using r
      exact ⟨by rw [r]; rfl, e4⟩
    have r : pow2 x.n = true := by simpa using r
    rw [r, Bool.true_and]
    have hh := rtT_of (L := []) (h0 := h) (y := { itm x.kind with n := x.n }) b1 b4 (v.lin.keep e4) (VwT.none g4) e4
    exact hh
  have q3 : x.kind ≠ 3 := by simpa using q
  refine cond_mk (fun q => ?_) (fun q => ?_)
  · have q : x.kind = 4 := by simpa using q
    rw [itmR_4 q]
    have hh := rtT_of (L := []) (h0 := h) (y := (itm x.kind)) b1 b3 (v.lin.keep e3) (VwT.none g3) e3
    exact hh
  have q4 : x.kind ≠ 4 := by simpa using q
  refine cond_mk (fun q => ?_) (fun q => ?_)
  · have q : x.kind = 5 := by simpa using q
    rw [itmR_5 q]
    refine loads_box b1 (x.n, ()) rfl ?_
    dsimp only [flat, unc, unc1, List.nil_append, List.cons_append]
    refine stores_of b3 rfl (by simp [encI]) ?_
    intro g4 b4 k4 z4
    have b4 : Box g4 g1.size 102 (encI none 0 0 { itm x.kind with n := x.n }) := b4
    have e4 := e3.st k4 (by omega)
    have b1 := b1.keep k4 (by simp; omega)
    exact ⟨rfl, e4⟩
  have q5 : x.kind ≠ 5 := by simpa using q
  refine cond_mk (fun q => ?_) (fun q => ?_)
  · have q : x.kind = 6 := by simpa using q
    rw [itmR_6 q]
    refine loads_box b1 ((p, l, c), (x.e.num : Int), ()) rfl ?_
    dsimp only [flat, unc, unc1, List.nil_append, List.cons_append]
    refine stores_of b3 rfl (by simp [encI]) ?_
    intro g4 b4 k4 z4
    have b4 : Box g4 g1.size 102 (encI p l c { itm x.kind with e := x.e }) := b4
    have e4 := e3.st k4 (by omega)
    have b1 := b1.keep k4 (by simp; omega)
    exact ⟨rfl, e4⟩
  have q6 : x.kind ≠ 6 := by simpa using q
  refine cond_mk (fun q => ?_) (fun q => ?_)
  · have q : x.kind = 7 := by simpa using q
    rw [itmR_7 q]
    refine loads_box b1 (x.n, ()) rfl ?_
    dsimp only [flat, unc, unc1, List.nil_append, List.cons_append]
    refine stores_of b3 rfl (by simp [encI]) ?_
    intro g4 b4 k4 z4
    have b4 : Box g4 g1.size 102 (encI none 0 0 { itm x.kind with n := x.n }) := b4
    have e4 := e3.st k4 (by omega)
    have b1 := b1.keep k4 (by simp; omega)
    exact ⟨rfl, e4⟩
  have q7 : x.kind ≠ 7 := by simpa using q
  exact ⟨by rw [itmR_no q1 q2 q3 q4 q5 q6 q7]; rfl, e3⟩
theorem item1_hc {h : Hp} (t : Tab h) {x : Itm} {p : Option Addr} {l c : Nat} (v : ItmAt h p l x) :
    HC Tryz.prog 68 #[itmV p l c x, .int .i64 1] h fun w h' => w = no31 (itmR x 1) ∧ Ext h h' := by
  refine hcr_of (args := [itmV p l c x, .int .i64 1]) mixed Tryz.func68 (by kernel_rfl) (t_item_Right_c1_eq x.kind x.name x.inst.op x.inst.a x.inst.b x.inst.n x.inst.form p l c x.e.num x.n) ?_
  unfold t_item_Right_c1
  refine newB ?_
  intro g1 b1 e1 z1
  have b1 : Box g1 h.size 102 (encI p l c x) := b1
  refine loads_box b1 (x.kind, ()) rfl ?_
  dsimp only [flat, unc, unc1, List.nil_append, List.cons_append]
  refine newB ?_
  intro g2 b2 e2 z2
  refine stores_of b2 rfl (by simp) ?_
  intro g3 b3 k3 z3
  have b3 : Box g3 g1.size 102 (encI none 0 0 (itm x.kind)) := b3
  have s1 := e1.size
  have e13 := e2.st k3 (Nat.le_refl _)
  have e3 := e1.trans e13
  have b1 := b1.keep e13 (by simp)
  simp only [add_box]
  refine loads_box b1 (x.kind, ()) rfl ?_
  dsimp only [flat, unc, unc1, List.nil_append, List.cons_append]
  refine cond_mk (fun q => ?_) (fun q => ?_)
  · have q : x.kind = 1 := by simpa using q
    rw [itmR_1 q]
    refine loads_box b1 (x.name, ()) rfl ?_
    dsimp only [flat, unc, unc1, List.nil_append, List.cons_append]
    refine stores_of b3 rfl (by simp [encI]) ?_
    intro g4 b4 k4 z4
    have b4 : Box g4 g1.size 102 (encI none 0 0 { itm x.kind with name := x.name }) := b4
    have e4 := e3.st k4 (by omega)
    have b1 := b1.keep k4 (by simp; omega)
    refine loads_box b1 (x.name, ()) rfl ?_
    dsimp only [flat, unc, unc1, List.nil_append, List.cons_append]
    refine call_bool (legal_hc x.name g4 (by have := v.name; have : maxLen = 9223372036854775807 := rfl; omega)) ?_
    refine cond_mk (fun r => ?_) (fun r => ?_)
    · have r : legalL x.name.data.toList = false := by simpa using r
      exact ⟨by rw [r]; rfl, e4⟩
    have r : legalL x.name.data.toList = true := by simpa using r
    rw [r, Bool.true_and]
    have hh := rtT_of (L := []) (h0 := h) (y := { itm x.kind with name := x.name }) b1 b4 (v.lin.keep e4) (VwT.none g4) e4
    exact hh
  have q1 : x.kind ≠ 1 := by simpa using q
  refine cond_mk (fun q => ?_) (fun q => ?_)
  · have q : x.kind = 2 := by simpa using q
    rw [itmR_2 q]
    refine loads_box b1 (x.inst.op, x.inst.a, x.inst.b, x.inst.n, x.inst.form, ()) rfl ?_
    dsimp only [flat, unc, unc1, List.nil_append, List.cons_append]
    refine loads_box b1 ((p, l, c), (x.e.num : Int), ()) rfl ?_
    dsimp only [flat, unc, unc1, List.nil_append, List.cons_append]
    refine stores_of b3 rfl (by simp [encI]) ?_
    intro g4 b4 k4 z4
    have e4 := e3.st k4 (by omega)
    have b1 := b1.keep k4 (by simp; omega)
    refine ⟨⟨b1.cells [.slice p l c, .int .u32 x.e.num] rfl, trivial⟩, ?_⟩
    refine stores_of b4 rfl (by simp [encI, setL]) ?_
    intro g5 b5 k5 z5
    have b5 : Box g5 g1.size 102 (encI p l c { itm x.kind with inst := x.inst, e := x.e }) := b5
    have e5 := e4.st k5 (by omega)
    have b1 := b1.keep k5 (by simp; omega)
    exact ⟨rfl, e5⟩
  have q2 : x.kind ≠ 2 := by simpa using q
  refine cond_mk (fun q => ?_) (fun q => ?_)
  · have q : x.kind = 3 := by simpa using q
    rw [itmR_3 q]
    refine loads_box b1 (x.n, ()) rfl ?_
    dsimp only [flat, unc, unc1, List.nil_append, List.cons_append]
    refine stores_of b3 rfl (by simp [encI]) ?_
    intro g4 b4 k4 z4
    have b4 : Box g4 g1.size 102 (encI none 0 0 { itm x.kind with n := x.n }) := b4
    have e4 := e3.st k4 (by omega)
    have b1 := b1.keep k4 (by simp; omega)
    refine loads_box b1 (x.n, ()) rfl ?_
    dsimp only [flat, unc, unc1, List.nil_append, List.cons_append]
    refine call_bool (power_hc g4 x.n) ?_
    refine cond_mk (fun r => ?_) (fun r => ?_)
    · have r : pow2 x.n = false := by simpa using r
      exact ⟨by rw [r]; rfl, e4⟩
    have r : pow2 x.n = true := by simpa using r
    rw [r, Bool.true_and]
    have hh := rtT_of (L := []) (h0 := h) (y := { itm x.kind with n := x.n }) b1 b4 (v.lin.keep e4) (VwT.none g4) e4
    exact hh
  have q3 : x.kind ≠ 3 := by simpa using q
  refine cond_mk (fun q => ?_) (fun q => ?_)
  · have q : x.kind = 4 := by simpa using q
    rw [itmR_4 q]
    exact ⟨rfl, e3⟩
  have q4 : x.kind ≠ 4 := by simpa using q
  refine cond_mk (fun q => ?_) (fun q => ?_)
  · have q : x.kind = 5 := by simpa using q
    rw [itmR_5 q]
    refine loads_box b1 (x.n, ()) rfl ?_
    dsimp only [flat, unc, unc1, List.nil_append, List.cons_append]
    refine stores_of b3 rfl (by simp [encI]) ?_
    intro g4 b4 k4 z4
    have b4 : Box g4 g1.size 102 (encI none 0 0 { itm x.kind with n := x.n }) := b4
    have e4 := e3.st k4 (by omega)
    have b1 := b1.keep k4 (by simp; omega)
    refine loads_box b1 (x.n, ()) rfl ?_
    dsimp only [flat, unc, unc1, List.nil_append, List.cons_append]
    refine cond_mk (fun r => ?_) (fun r => ?_)
    · have r := of_decide_eq_true r
      refine loads_box b1 (x.n, ()) rfl ?_
      dsimp only [flat, unc, unc1, List.nil_append, List.cons_append]
      refine cond_mk (fun r2 => ?_) (fun r2 => ?_)
      · have r2 : ¬ x.n ≤ 255 := by simpa using r2
        exact ⟨by rw [decide_eq_false r2, Bool.and_false]; rfl, e4⟩
      have r2 : x.n ≤ 255 := by simpa using r2
      rw [decide_eq_true r2, decide_eq_true (show -128 ≤ x.n from r)]
      have hh := rtT_of (L := []) (h0 := h) (y := { itm x.kind with n := x.n }) b1 b4 (v.lin.keep e4) (VwT.none g4) e4
      exact hh
    · have r := of_decide_eq_false r
      exact ⟨by rw [decide_eq_false (show ¬ -128 ≤ x.n from r), Bool.and_false]; rfl, e4⟩
  have q5 : x.kind ≠ 5 := by simpa using q
  refine cond_mk (fun q => ?_) (fun q => ?_)
  · have q : x.kind = 6 := by simpa using q
    rw [itmR_6 q]
    refine loads_box b1 ((p, l, c), (x.e.num : Int), ()) rfl ?_
    dsimp only [flat, unc, unc1, List.nil_append, List.cons_append]
    refine stores_of b3 rfl (by simp [encI]) ?_
    intro g4 b4 k4 z4
    have b4 : Box g4 g1.size 102 (encI p l c { itm x.kind with e := x.e }) := b4
    have e4 := e3.st k4 (by omega)
    have b1 := b1.keep k4 (by simp; omega)
    refine loads_box b1 ((p, l, c), (x.e.num : Int), ()) rfl ?_
    dsimp only [flat, unc, unc1, List.nil_append, List.cons_append]
    refine call_of (right63_hc (c := c) (v.lin.keep e4).vw (by have := v.lin.many; omega) v.lin.names) ?_
    rintro _ g6 ⟨rfl, e6'⟩
    refine ⟨(rtR none x.e.terms, ()), rfl, ?_⟩
    dsimp only [flat, unc, unc1, List.nil_append, List.cons_append]
    have e6 := e4.trans e6'
    refine cond_mk (fun r => ?_) (fun r => ?_)
    · have r : rtR none x.e.terms = false := by simpa using r
      exact ⟨by rw [r]; rfl, e6⟩
    have r : rtR none x.e.terms = true := by simpa using r
    rw [r]
    have b1 := b1.keep e6' (by simp)
    have b4 := b4.keep e6' (by simp)
    have hh := rtT_of (L := []) (h0 := h) (y := { itm x.kind with e := x.e }) b1 b4 (v.lin.keep e6) (v.lin.keep e6).vw e6
    exact hh
  have q6 : x.kind ≠ 6 := by simpa using q
  refine cond_mk (fun q => ?_) (fun q => ?_)
  · have q : x.kind = 7 := by simpa using q
    rw [itmR_7 q]
    refine loads_box b1 (x.n, ()) rfl ?_
    dsimp only [flat, unc, unc1, List.nil_append, List.cons_append]
    refine stores_of b3 rfl (by simp [encI]) ?_
    intro g4 b4 k4 z4
    have b4 : Box g4 g1.size 102 (encI none 0 0 { itm x.kind with n := x.n }) := b4
    have e4 := e3.st k4 (by omega)
    have b1 := b1.keep k4 (by simp; omega)
    refine loads_box b1 (x.n, ()) rfl ?_
    dsimp only [flat, unc, unc1, List.nil_append, List.cons_append]
    refine cond_mk (fun r => ?_) (fun r => ?_)
    · have r := of_decide_eq_true r
      refine loads_box b1 (x.n, ()) rfl ?_
      dsimp only [flat, unc, unc1, List.nil_append, List.cons_append]
      refine cond_mk (fun r2 => ?_) (fun r2 => ?_)
      · have r2 : ¬ x.n ≤ 1048576 := by simpa using r2
        exact ⟨by rw [decide_eq_false r2, Bool.and_false]; rfl, e4⟩
      have r2 : x.n ≤ 1048576 := by simpa using r2
      rw [decide_eq_true r2, decide_eq_true (show 0 ≤ x.n from r)]
      have hh := rtT_of (L := []) (h0 := h) (y := { itm x.kind with n := x.n }) b1 b4 (v.lin.keep e4) (VwT.none g4) e4
      exact hh
    · have r := of_decide_eq_false r
      exact ⟨by rw [decide_eq_false (show ¬ 0 ≤ x.n from r), Bool.and_false]; rfl, e4⟩
  have q7 : x.kind ≠ 7 := by simpa using q
  exact ⟨by rw [itmR_no q1 q2 q3 q4 q5 q6 q7]; rfl, e3⟩
end Go.Sx.Ob

set_option linter.unusedVariables false
set_option maxRecDepth 100000
namespace Go.Sx.Ob
open Go.Proofs
section
variable {α : Type}
def vE (en : α → Value) (D : List (ByteArray × α)) : List (ByteArray × Value) := D.map fun p => (p.1, en p.2)
def gE (D : List (ByteArray × α)) (s : ByteArray) : Option α := (D.find? fun p => decide (s = p.1)).map (·.2)
def pE (D : List (ByteArray × α)) (s : ByteArray) (v : α) : List (ByteArray × α) := if (gE D s).isSome then D.map fun p => if s = p.1 then (p.1, v) else p else D ++ [(s, v)]
theorem look_vE (en : α → Value) (D : List (ByteArray × α)) (s : ByteArray) : look (vE en D) s = (gE D s).map en := by
  unfold look gE vE
  induction D with
  | nil => rfl
  | cons p D ih =>
    by_cases h : s = p.1
    · simp [h]
    · simp only [List.map_cons, List.find?_cons, decide_eq_false h]
      exact ih
theorem upd_vE (en : α → Value) (D : List (ByteArray × α)) (s : ByteArray) (v : α) : upd (vE en D) s (en v) = vE en (pE D s v) := by
  unfold upd pE
  rw [look_vE]
  cases h : gE D s with
  | none => simp [vE]
  | some q =>
    simp only [Option.map_some, Option.isSome_some, if_true, vE, List.map_map]
    refine List.map_congr_left fun p hp => ?_
    simp only [Function.comp]
    split <;> simp_all
theorem pE_length (D : List (ByteArray × α)) (s : ByteArray) (v : α) : (pE D s v).length = if (gE D s).isSome then D.length else D.length + 1 := by
  unfold pE
  split <;> simp
theorem gE_append (D : List (ByteArray × α)) (s t : ByteArray) (v : α) : gE (D ++ [(s, v)]) t = (gE D t).or (if t = s then some v else none) := by
  unfold gE
  rw [List.find?_append]
  cases h : D.find? (fun p => decide (t = p.1)) with
  | some q => simp
  | none =>
    simp only [Option.none_or, Option.map_none, List.find?_cons, List.find?_nil]
    by_cases e : t = s
    · simp [e]
    · simp [e]
theorem gE_map (D : List (ByteArray × α)) (s t : ByteArray) (v : α) (hs : (gE D s).isSome) : gE (D.map fun p => if s = p.1 then (p.1, v) else p) t = if t = s then some v else gE D t := by
  unfold gE at *
  induction D with
  | nil => simp at hs
  | cons p D ih =>
    by_cases h : s = p.1
    · by_cases e : t = s
      · simp [h, e]
      · have e2 : ¬ t = p.1 := fun k => e (k.trans h.symm)
        have hg : ∀ l : List (ByteArray × α), (List.find? (fun p => decide (t = p.1)) (List.map (fun p => if s = p.1 then (p.1, v) else p) l)).map (·.2) = (List.find? (fun p => decide (t = p.1)) l).map (·.2) := by
          intro l
          induction l with
          | nil => rfl
          | cons q l ihl =>
            by_cases hq : s = q.1
            · have : ¬ t = q.1 := fun k => e (k.trans hq.symm)
              simp only [List.map_cons, List.find?_cons, if_pos hq, decide_eq_false this]
              exact ihl
            · simp only [List.map_cons, List.find?_cons, if_neg hq]
              by_cases ht : t = q.1
              · simp [ht]
              · simp only [decide_eq_false ht]
                exact ihl
        simp only [List.map_cons, List.find?_cons, if_pos h, decide_eq_false e2, if_neg e]
        exact hg D
    · have hs2 : (Option.map (fun x => x.2) (List.find? (fun p => decide (s = p.1)) D)).isSome := by
        simpa [List.find?_cons, decide_eq_false h] using hs
      simp only [List.map_cons, List.find?_cons, if_neg h]
      by_cases ht : t = p.1
      · have : ¬ t = s := fun k => h (k.symm.trans ht)
        simp [ht, if_neg (ht ▸ this)]
      · simp only [decide_eq_false ht]
        exact ih hs2
theorem gE_pE (D : List (ByteArray × α)) (s : ByteArray) (v : α) (t : ByteArray) : gE (pE D s v) t = if t = s then some v else gE D t := by
  unfold pE
  split
  · rename_i h
    exact gE_map D s t v h
  · rename_i h
    rw [gE_append]
    by_cases e : t = s
    · subst e
      have : gE D t = none := by simpa using h
      rw [this]; simp
    · simp [e]
/-- A function with one value turned. -/
def fset (f : ByteArray → Option α) (s : ByteArray) (v : α) : ByteArray → Option α := fun t => if t = s then some v else f t
/-- A block that is a map: what it has at each key, and how many. -/
def MapF (en : α → Value) (h : Hp) (g : Nat) (f : ByteArray → Option α) (n : Nat) : Prop := ∃ D : List (ByteArray × α), MapB h g (vE en D) ∧ (∀ s, gE D s = f s) ∧ D.length = n
theorem MapF.keep {en : α → Value} {ws : List Nat} {h h' : Hp} {g : Nat} {f : ByteArray → Option α} {n : Nat} (m : MapF en h g f n) (k : Ch ws h h') (hw : g ∉ ws) : MapF en h' g f n := by
  obtain ⟨D, m, r⟩ := m
  exact ⟨D, m.keep k hw, r⟩
theorem MapF.lt {en : α → Value} {h : Hp} {g : Nat} {f : ByteArray → Option α} {n : Nat} (m : MapF en h g f n) : g < h.size := by
  obtain ⟨D, m, r⟩ := m
  exact m.lt
theorem MapF.new {en : α → Value} {h : Hp} {g : Nat} (m : MapB h g []) : MapF en h g (fun _ => none) 0 := ⟨[], m, fun s => rfl, rfl⟩
theorem MapF.upd {en : α → Value} {h' : Hp} {g : Nat} {f : ByteArray → Option α} {n : Nat} {D : List (ByteArray × α)} (hD : ∀ s, gE D s = f s) (hn : D.length = n) {s : ByteArray} {v : α} (m : MapB h' g (Sx.upd (vE en D) s (en v))) : MapF en h' g (fset f s v) (if (f s).isSome then n else n + 1) := by
  rw [upd_vE] at m
  refine ⟨_, m, fun t => ?_, ?_⟩
  · rw [gE_pE, hD t]; rfl
  · rw [pE_length, hD s, hn]
end
def eB (b : Bool) : Value := .bool b
theorem und64 : Tryz.prog.underlying 61 = some (.map 9 4) := by kernel_rfl
theorem und9 : Tryz.prog.underlying 9 = some .string := by kernel_rfl
theorem infoB : (Tryz.prog.info? 4).bind (·.zero) = some (.bool false) := by kernel_rfl
/-- A map that is a set of names. -/
def SetB (h : Hp) (g : Nat) (D : List ByteArray) : Prop := ∃ n, MapF eB h g (fun s => if inN D s then some true else none) n
theorem SetB.keep {ws : List Nat} {h h' : Hp} {g : Nat} {D : List ByteArray} (m : SetB h g D) (k : Ch ws h h') (hw : g ∉ ws) : SetB h' g D := by
  obtain ⟨n, m⟩ := m
  exact ⟨n, m.keep k hw⟩
theorem SetB.lt {h : Hp} {g : Nat} {D : List ByteArray} (m : SetB h g D) : g < h.size := by
  obtain ⟨n, m⟩ := m
  exact m.lt
section
variable {L : Lp} {K : Value → Hp → Prop} {h : Hp} {g : Nat} {D : List ByteArray}
theorem lookS (m : SetB h g D) (s : ByteArray) {k : Bool → T} (hk : k (inN D s) L K h) : T.sem Tryz.prog (Instr.lookup 61 (.map (some g)) (.string s) false) false [(false, [.bool])] k L K h := by
  obtain ⟨n, D', m, hD, hn⟩ := m
  refine lookup_of und64 und9 infoB m s false _ ?_
  refine ⟨(inN D s, ()), ?_, hk⟩
  simp only [Bool.false_eq_true, if_false]
  rw [look_vE, hD s]
  dsimp only
  cases inN D s <;> rfl
theorem putS (m : SetB h g D) {s : ByteArray} (hs : s.size ≤ maxLen) {k : T} (hk : ∀ h', SetB h' g (s :: D) → Ch [g] h h' → h'.size = h.size → k L K h') :
    T.semU Tryz.prog (Instr.mapUpdate 61 (.map (some g)) (.string s) (.bool true)) k L K h := by
  obtain ⟨n, D', m, hD, hn⟩ := m
  refine mapUpdate_of und64 und9 m hs _ _ ?_
  intro h' m' c' z'
  have := MapF.upd (en := eB) hD hn (v := true) m'
  have he : fset (fun t => if inN D t then some true else none) s true = fun t => if inN (s :: D) t then some true else none := by
    funext t
    unfold fset inN
    by_cases h1 : t = s
    · rw [if_pos h1, if_pos]
      simp [h1]
    · rw [if_neg h1]
      have : ¬ s = t := fun e => h1 e.symm
      rw [List.any_cons, decide_eq_false this, Bool.false_or]
  rw [he] at this
  exact hk h' ⟨_, this⟩ c' z'
theorem makeS {t : TypeId} {k : Option Nat → T} (hk : ∀ h', SetB h' h.size [] → Ext h h' → h'.size = h.size + 1 → k (some h.size) L K h') : T.sem Tryz.prog (Instr.makeMap t none) false [(false, [.map 0 0])] k L K h := by
  refine makeMap_of _ ?_
  intro h' m e z
  exact ⟨(some h.size, ()), rfl, hk h' ⟨0, MapF.new m⟩ e z⟩
end
/-! Lists in memory. -/
structure VwI (h : Hp) (p : Option Addr) (l : Nat) (us : List Itm) : Prop where
  len : l = us.length
  many : us.length ≤ 2 ^ 60
  cells : ∀ i, (hi : i < us.length) → ∃ a q m c, p = some a ∧ cellsAt h (a.add (i * 10)) 0 (encI q m c us[i]) ∧ ItmAt h q m us[i]
theorem VwI.keep {h h' : Hp} {p : Option Addr} {l : Nat} {us : List Itm} (v : VwI h p l us) (k : Ext h h') : VwI h' p l us :=
  ⟨v.len, v.many, fun i hi => by
    obtain ⟨a, q, m, c, ha, hc, hv⟩ := v.cells i hi
    exact ⟨a, q, m, c, ha, cellsAt_keep k (by simp) _ _ hc, hv.keep k⟩⟩
def encE (p : Option Addr) (l c : Nat) (x : Eqn) : List Value := [.string x.1, .slice p l c, .int .u32 x.2.num]
structure VwE (h : Hp) (p : Option Addr) (l : Nat) (us : List Eqn) : Prop where
  len : l = us.length
  many : us.length ≤ 2 ^ 60
  cells : ∀ i, (hi : i < us.length) → ∃ a q m c, p = some a ∧ cellsAt h (a.add (i * 3)) 0 (encE q m c us[i]) ∧ LinAt h q m us[i].2 ∧ us[i].1.size ≤ maxLen
theorem VwE.keep {h h' : Hp} {p : Option Addr} {l : Nat} {us : List Eqn} (v : VwE h p l us) (k : Ext h h') : VwE h' p l us :=
  ⟨v.len, v.many, fun i hi => by
    obtain ⟨a, q, m, c, ha, hc, hv, hs⟩ := v.cells i hi
    exact ⟨a, q, m, c, ha, cellsAt_keep k (by simp) _ _ hc, hv.keep k, hs⟩⟩
structure VwS (h : Hp) (p : Option Addr) (l : Nat) (us : List ByteArray) : Prop where
  len : l = us.length
  many : us.length ≤ 2 ^ 60
  cells : ∀ i, (hi : i < us.length) → ∃ a, p = some a ∧ cellsAt h (a.add (i * 1)) 0 [.string us[i]] ∧ us[i].size ≤ maxLen
theorem VwS.keep {h h' : Hp} {p : Option Addr} {l : Nat} {us : List ByteArray} (v : VwS h p l us) (k : Ext h h') : VwS h' p l us :=
  ⟨v.len, v.many, fun i hi => by
    obtain ⟨a, ha, hc, hs⟩ := v.cells i hi
    exact ⟨a, ha, cellsAt_keep k (by simp) _ _ hc, hs⟩⟩
/-- A slice, as a value. -/
structure Sli where
  p : Option Addr
  l : Nat
  c : Nat
def Sli.v (s : Sli) : Value := .slice s.p s.l s.c
structure UntAt (h : Hp) (a b c d : Sli) (u : Unt) : Prop where
  text : VwI h a.p a.l u.text
  data : VwI h b.p b.l u.data
  equs : VwE h c.p c.l u.equs
  globs : VwS h d.p d.l u.globs
theorem UntAt.keep {h h' : Hp} {a b c d : Sli} {u : Unt} (v : UntAt h a b c d u) (k : Ext h h') : UntAt h' a b c d u := ⟨v.text.keep k, v.data.keep k, v.equs.keep k, v.globs.keep k⟩
def untV (a b c d : Sli) : Value := .agg #[a.v, b.v, c.v, d.v]
end Go.Sx.Ob

set_option linter.unusedVariables false
set_option linter.unusedSimpArgs false
set_option maxRecDepth 100000
namespace Go.Sx.Ob
open Go.Proofs
theorem und75 : Tryz.prog.underlying 98 = some (.slice 24) := by kernel_rfl
theorem slZ : (Tryz.prog.info? 24).map (fun i => (i.zero, i.size, i.bytes)) = some (some (.slice none 0 0), 1, 24) := by kernel_rfl
theorem fillU (p1 : Option Addr) (l1 c1 : Nat) (p2 : Option Addr) (l2 c2 : Nat) : Instr.fill (fun j => some (j * 1, 1)) ((Array.range (2 * 1)).map ((Value.slice none 0 0).cells[· % (Value.slice none 0 0).cells.size]!)) [(0, .slice p1 l1 c1), (1, .slice p2 l2 c2)] = some ([.slice p1 l1 c1, .slice p2 l2 c2] : List Value).toArray := by kernel_rfl
/-! The sections, one behind the other. -/
def secL (u : Unt) (k : Nat) : List Itm := if k = 0 then u.text else u.data
def secN (u : Unt) (k : Nat) : List ByteArray := if k = 0 then [] else if k = 1 then namesI [] u.text else namesI (namesI [] u.text) u.data
def secR' (u : Unt) (k : Nat) : Bool := if k = 0 then untOk u else if k = 1 then (itemsOk 1 (namesI [] u.text) u.data && (equsOk (namesI (namesI [] u.text) u.data) u.equs && globsOk u.names nam0 u.globs)) else (equsOk (namesI (namesI [] u.text) u.data) u.equs && globsOk u.names nam0 u.globs)
theorem secR_step (u : Unt) {k : Nat} (hk : k < 2) : secR' u k = (itemsOk k (secN u k) (secL u k) && secR' u (k + 1)) := by
  have : k = 0 ∨ k = 1 := by omega
  rcases this with rfl | rfl
  · simp [secR', secN, secL, untOk, Bool.and_assoc]
  · simp [secR', secN, secL]
theorem secN_step (u : Unt) {k : Nat} (hk : k < 2) : secN u (k + 1) = namesI (secN u k) (secL u k) := by
  have : k = 0 ∨ k = 1 := by omega
  rcases this with rfl | rfl <;> rfl
theorem namesI_take (D : List ByteArray) (l : List Itm) {i : Nat} (hi : i < l.length) : namesI D (l.take (i + 1)) = addN (namesI D (l.take i)) l[i] := by
  unfold namesI
  rw [List.take_succ_eq_append_getElem hi, List.foldl_append]
  rfl
theorem namesE_take (D : List ByteArray) (l : List Eqn) {i : Nat} (hi : i < l.length) : namesE D (l.take (i + 1)) = l[i].1 :: namesE D (l.take i) := by
  unfold namesE
  rw [List.take_succ_eq_append_getElem hi, List.foldl_append]
  rfl
theorem itemsOk_step (sec : Nat) (D : List ByteArray) (l : List Itm) {i : Nat} (hi : i < l.length) : itemsOk sec D (l.drop i) = (itmOk sec D l[i] && itemsOk sec (addN D l[i]) (l.drop (i + 1))) := by
  rw [List.drop_eq_getElem_cons hi, itemsOk]
theorem equsOk_step (D : List ByteArray) (l : List Eqn) {i : Nat} (hi : i < l.length) : equsOk D (l.drop i) = (equOk D l[i] && equsOk (l[i].1 :: D) (l.drop (i + 1))) := by
  rw [List.drop_eq_getElem_cons hi, equsOk]
def lastG (l : List ByteArray) (i : Nat) : ByteArray := if i = 0 then nam0 else l.getD (i - 1) nam0
theorem globsOk_step (D : List ByteArray) (l : List ByteArray) {i : Nat} (hi : i < l.length) : globsOk D (lastG l i) (l.drop i) = (gOk D (lastG l i) l[i] && globsOk D (lastG l (i + 1)) (l.drop (i + 1))) := by
  rw [List.drop_eq_getElem_cons hi, globsOk]
  congr 2
  unfold lastG
  rw [if_neg (by omega), Nat.add_sub_cancel, List.getD_eq_getElem?_getD, List.getElem?_eq_getElem hi]
  rfl
def SetL (h : Hp) (g : Nat) (D : List ByteArray) : Prop := SetB h g D ∧ ∀ s, s ∈ D → legalL s.data.toList = true
theorem SetL.keep {ws : List Nat} {h h' : Hp} {g : Nat} {D : List ByteArray} (m : SetL h g D) (k : Ch ws h h') (hw : g ∉ ws) : SetL h' g D := ⟨m.1.keep k hw, m.2⟩
theorem legal_gt {s : ByteArray} (h : legalL s.data.toList = true) : ltN nam0 s := by
  unfold legalL at h
  simp only [Bool.and_eq_true, decide_eq_true_eq] at h
  have h2 := h.1.1.1.1
  show (nam0.data.toList : List UInt8) < s.data.toList
  have : (nam0.data.toList : List UInt8) = [] := rfl
  rw [this]
  cases hs : s.data.toList with
  | nil => rw [hs] at h2; simp at h2
  | cons a l => exact List.Lex.nil
theorem inN_mem {D : List ByteArray} {s : ByteArray} (h : inN D s = true) : s ∈ D := by
  unfold inN at h
  simp only [List.any_eq_true, decide_eq_true_eq] at h
  obtain ⟨y, hy, rfl⟩ := h
  exact hy
theorem item_hc {h : Hp} (t : Tab h) {x : Itm} {p : Option Addr} {l c k : Nat} (v : ItmAt h p l x) (hk : k < 2) :
    HC Tryz.prog 68 #[itmV p l c x, .int .i64 (k : Int)] h fun w h' => w = no31 (itmR x k) ∧ Ext h h' := by
  have : k = 0 ∨ k = 1 := by omega
  rcases this with rfl | rfl
  · exact item0_hc t v
  · exact item1_hc t v
theorem unitRight_hc {h : Hp} (t : Tab h) {a b c d : Sli} {u : Unt} (v : UntAt h a b c d u) : HC Tryz.prog 37 #[untV a b c d] h fun w h' => w = .int .i64 (untR u : Nat) ∧ Ext h h' := by
  refine hcr_of (args := [untV a b c d]) mixed Tryz.func37 (by kernel_rfl) (t_unit_Right_eq a.p a.l a.c b.p b.l b.c c.p c.l c.c d.p d.l d.c) ?_
  unfold t_unit_Right
  refine newB ?_
  intro g1 b1 e1 z1
  have b1 : Box g1 h.size 28 [a.v, b.v, c.v, d.v] := b1
  have m1 := v.text.many
  have m2 := v.data.many
  have m3 := v.equs.many
  have m4 := v.globs.many
  have n1 := v.text.len
  have n2 := v.data.len
  have n3 := v.equs.len
  have n4 := v.globs.len
  have s1 := e1.size
  simp only [add_box]
  refine loads_box b1 ((a.p, a.l, a.c), ()) rfl ?_
  dsimp only [flat, unc, unc1, List.nil_append, List.cons_append]
  refine loads_box b1 ((b.p, b.l, b.c), ()) rfl ?_
  dsimp only [flat, unc, unc1, List.nil_append, List.cons_append]
  rw [wrap_i64 (by omega) (by omega)]
  unfold untR untMany
  refine cond_mk (fun q => ?_) (fun q => ?_)
  · have q := of_decide_eq_true q
    exact ⟨by rw [decide_eq_true (show 8192 < u.text.length + u.data.length by omega)]; rfl, e1⟩
  have q := of_decide_eq_false q
  rw [decide_eq_false (show ¬ 8192 < u.text.length + u.data.length by omega), Bool.false_or]
  refine loads_box b1 ((c.p, c.l, c.c), ()) rfl ?_
  dsimp only [flat, unc, unc1, List.nil_append, List.cons_append]
  refine cond_mk (fun q => ?_) (fun q => ?_)
  · have q := of_decide_eq_true q
    exact ⟨by rw [decide_eq_true (show 8192 < u.equs.length by omega)]; rfl, e1⟩
  have q := of_decide_eq_false q
  rw [decide_eq_false (show ¬ 8192 < u.equs.length by omega), if_neg (by simp)]
  refine makeS ?_
  intro g2 m e2 z2
  have b2 := b1.keep e2 (by simp)
  refine loads_box b2 ((a.p, a.l, a.c), ()) rfl ?_
  dsimp only [flat, unc, unc1, List.nil_append, List.cons_append]
  refine loads_box b2 ((b.p, b.l, b.c), ()) rfl ?_
  dsimp only [flat, unc, unc1, List.nil_append, List.cons_append]
  refine lit_of und75 slZ (by omega) (by omega) (fillU a.p a.l a.c b.p b.l b.c) ?_
  intro g3 b3 e3 z3
  have m := m.keep e3 (by have := m.lt; simp)
  have e03 := (e1.trans e2).trans e3
  have b3' := b2.keep e3 (by simp)
  have s2 := e2.size
  clear b1 b2
  have hsec : ∀ k, k < 2 → ∃ s : Sli, ([a.v, b.v] : List Value).drop k = s.v :: ([a.v, b.v] : List Value).drop (k + 1) ∧ VwI h s.p s.l (secL u k) := by
    intro k hk
    have : k = 0 ∨ k = 1 := by omega
    rcases this with rfl | rfl
    · exact ⟨a, rfl, v.text⟩
    · exact ⟨b, rfl, v.data⟩
  have s3 := e3.size
  have b3 : Box g3 g2.size 24 [a.v, b.v] := b3
  generalize hU : untOk u = U
  refine loop_of (cs := [(false, [.int .i64]), (false, [.int .i64])]) (fun y w h' => ∃ k : Nat, y.2.1 = (k : Int) ∧ k ≤ 2 ∧ w = 2 - k ∧ Ext h h' ∧ Box h' h.size 28 [a.v, b.v, c.v, d.v] ∧ Box h' g2.size 24 [a.v, b.v] ∧ SetL h' g1.size (secN u k) ∧ U = secR' u k) ((0 : Int), (0 : Int), ()) 2 rfl
    ⟨0, rfl, by omega, by omega, e03, b3', b3, ⟨m, by simp [secN]⟩, hU.symm⟩ ?_
  rintro ⟨n21, n22, ⟨⟩⟩ w h4 ⟨k, hk, hk2, rfl, e4, b1, b2, m, hu⟩
  simp only at hk
  subst hk
  dsimp only [flat, unc, unc1, List.nil_append, List.cons_append]
  refine cond_mk (fun q => ?_) (fun q => ?_)
  · have q := of_decide_eq_true q
    have hk : k < 2 := by omega
    obtain ⟨sl, hsl, vs⟩ := hsec k hk
    refine need_of ⟨by omega, by omega⟩ (osome_mk rfl ?_)
    rw [add_box]
    refine loads_box b2 ((sl.p, sl.l, sl.c), ()) (by rw [show 0 + (k : Int).toNat * 1 = k by omega, hsl]; rfl) ?_
    dsimp only [flat, unc, unc1, List.nil_append, List.cons_append]
    have lk := vs.len
    have mk := vs.many
    generalize hl : secL u k = l at vs lk mk
    have hu2 : U = (itemsOk k (namesI (secN u k) (l.take 0)) (l.drop 0) && secR' u (k + 1)) := by
      rw [hu, secR_step u hk, hl]
      rfl
    refine loop_of (cs := [(false, [.int .i64]), (false, [.int .i64])]) (fun y w h' => ∃ i : Nat, y.2.1 = (i : Int) ∧ i ≤ l.length ∧ w = l.length - i ∧ Ext h h' ∧ Box h' h.size 28 [a.v, b.v, c.v, d.v] ∧ Box h' g2.size 24 [a.v, b.v] ∧ SetL h' g1.size (namesI (secN u k) (l.take i)) ∧ U = (itemsOk k (namesI (secN u k) (l.take i)) (l.drop i) && secR' u (k + 1))) (n21, (0 : Int), ()) l.length rfl
      ⟨0, rfl, by omega, by omega, e4, b1, b2, m, hu2⟩ ?_
    clear hu hu2 m b1 b2 e4
    rintro ⟨n27, n28, ⟨⟩⟩ w h5 ⟨i, hi, hile, rfl, e5, b1, b2, m, hu⟩
    simp only at hi
    subst hi
    dsimp only [flat, unc, unc1, List.nil_append, List.cons_append]
    refine cond_mk (fun q2 => ?_) (fun q2 => ?_)
    · have q2 := of_decide_eq_true q2
      have hil : i < l.length := by omega
      obtain ⟨aa, pp, ll, cc, rfl', hc, va⟩ := (vs.keep e5).cells i hil
      rw [itemsOk_step k _ l hil] at hu
      have hnt := namesI_take (secN u k) l hil
      generalize l[i] = x at hc va hu hnt
      refine need_of ⟨by omega, by omega⟩ (osome_mk rfl' ?_)
      rw [show Int.toNat (i : Int) = i by omega]
      refine loads_of (x.kind, x.name, x.inst.op, x.inst.a, x.inst.b, x.inst.n, x.inst.form, (pp, ll, cc), (x.e.num : Int), x.n, ()) hc ?_
      dsimp only [flat, unc, unc1, List.nil_append, List.cons_append]
      refine newB ?_
      intro h6 b6 e6 z6
      refine stores_of b6 rfl (by simp) ?_
      intro h7 b7 k7 z7
      have b7 : Box h7 h5.size 102 (encI pp ll cc x) := b7
      have e57 : Ext h5 h7 := e6.st k7 (Nat.le_refl _)
      have e7 := e5.trans e57
      simp only [add_box]
      refine loads_box b7 (x.kind, x.name, x.inst.op, x.inst.a, x.inst.b, x.inst.n, x.inst.form, (pp, ll, cc), (x.e.num : Int), x.n, ()) rfl ?_
      dsimp only [flat, unc, unc1, List.nil_append, List.cons_append]
      refine call_of (item_hc (c := cc) (t.keep e7 (by simp)) (va.keep e57) hk) ?_
      rintro _ h8 ⟨rfl, e8⟩
      refine ⟨((if itmR x k then 0 else 31 : Int), ()), rfl, ?_⟩
      dsimp only [flat, unc, unc1, List.nil_append, List.cons_append]
      have e58 := e57.trans e8
      have e08 := e5.trans e58
      have b1 := b1.keep e58 (by simp)
      have b2 := b2.keep e58 (by simp)
      have m := m.keep e58 (by simp)
      have b8 := b7.keep e8 (by simp)
      refine cond_mk (fun r => ?_) (fun r => ?_)
      · have r : itmR x k = false := by
          cases hr : itmR x k with
          | false => rfl
          | true => rw [hr] at r; simp at r
        exact ⟨by rw [hu, itmOk, r]; rfl, e08⟩
      have r : itmR x k = true := by
        cases hr : itmR x k with
        | true => rfl
        | false => rw [hr] at r; simp at r
      have hno : ∀ D, itmOk k D x = !(decide (x.kind = 1) && inN D x.name) := fun D => by rw [itmOk, r]; rfl
      rw [hno] at hu
      refine loads_box b8 (x.kind, ()) rfl ?_
      dsimp only [flat, unc, unc1, List.nil_append, List.cons_append]
      refine cond_mk (fun r1 => ?_) (fun r1 => ?_)
      · have r1 : x.kind = 1 := by simpa using r1
        rw [decide_eq_true r1, Bool.true_and] at hu
        have hle : legalL x.name.data.toList = true := by
          rw [itmR_1 r1, Bool.and_eq_true] at r
          exact r.1
        refine loads_box b8 (x.name, ()) rfl ?_
        dsimp only [flat, unc, unc1, List.nil_append, List.cons_append]
        refine lookS m.1 x.name ?_
        refine cond_mk (fun r2 => ?_) (fun r2 => ?_)
        · exact ⟨by rw [hu, r2]; rfl, e08⟩
        rw [r2] at hu
        refine loads_box b8 (x.kind, ()) rfl ?_
        dsimp only [flat, unc, unc1, List.nil_append, List.cons_append]
        refine cond_t (by simpa using r1) ?_
        refine loads_box b8 (x.name, ()) rfl ?_
        dsimp only [flat, unc, unc1, List.nil_append, List.cons_append]
        refine putS m.1 va.name ?_
        intro h9 m9 k9 z9
        have e09 : Ext h h9 := e08.st k9 (by omega)
        have s5 := e5.size
        have hadd : addN (namesI (secN u k) (l.take i)) x = x.name :: namesI (secN u k) (l.take i) := by unfold addN; rw [if_pos r1]
        refine again_mk (cs := [(false, [.int .i64]), (false, [.int .i64])]) (n27, ((i + 1 : Nat) : Int), ()) (l.length - (i + 1)) rfl (by omega) (by rw [wrap_i64 (by omega) (by omega)]; rfl) ?_
        refine ⟨i + 1, rfl, by omega, rfl, e09, b1.keep k9 (by simp; omega), b2.keep k9 (by simp; omega), by rw [hnt, hadd]; exact ⟨m9, fun s hs => (List.mem_cons.1 hs).elim (fun e => by rw [e]; exact hle) (m.2 s)⟩, by rw [hu, hnt]; rfl⟩
      · have r1 : ¬ x.kind = 1 := by simpa using r1
        rw [decide_eq_false r1] at hu
        refine loads_box b8 (x.kind, ()) rfl ?_
        dsimp only [flat, unc, unc1, List.nil_append, List.cons_append]
        refine cond_f (by simpa using r1) ?_
        have hadd : addN (namesI (secN u k) (l.take i)) x = namesI (secN u k) (l.take i) := by unfold addN; rw [if_neg r1]
        refine again_mk (cs := [(false, [.int .i64]), (false, [.int .i64])]) (n27, ((i + 1 : Nat) : Int), ()) (l.length - (i + 1)) rfl (by omega) (by rw [wrap_i64 (by omega) (by omega)]; rfl) ?_
        refine ⟨i + 1, rfl, by omega, rfl, e08, b1, b2, by rw [hnt, hadd]; exact m, by rw [hu, hnt]; rfl⟩
    · have q2 := of_decide_eq_false q2
      have hil : i = l.length := by omega
      subst hil
      rw [List.take_length] at m hu
      rw [List.drop_length, itemsOk, Bool.true_and] at hu
      refine again_mk (cs := [(false, [.int .i64]), (false, [.int .i64])]) (n27, ((k + 1 : Nat) : Int), ()) (2 - (k + 1)) rfl (by omega) (by rw [wrap_i64 (by omega) (by omega)]; rfl) ?_
      refine ⟨k + 1, rfl, by omega, rfl, e5, b1, b2, by rw [secN_step u hk, hl]; exact m, hu⟩
  · have q := of_decide_eq_false q
    have hk : k = 2 := by omega
    subst hk
    have hu : U = (equsOk (namesI (namesI [] u.text) u.data) u.equs && globsOk u.names nam0 u.globs) := hu
    have m : SetL h4 g1.size (namesI (namesI [] u.text) u.data) := m
    generalize hD : namesI (namesI [] u.text) u.data = D at hu m
    have hN : u.names = namesE D u.equs := by rw [← hD]; rfl
    rw [hN] at hu
    refine loads_box b1 ((c.p, c.l, c.c), ()) rfl ?_
    dsimp only [flat, unc, unc1, List.nil_append, List.cons_append]
    have hu2 : U = (equsOk (namesE D (u.equs.take 0)) (u.equs.drop 0) && globsOk (namesE D u.equs) nam0 u.globs) := hu
    refine loop_of (cs := [(false, [.int .i64]), (false, [.int .i64])]) (fun y w h' => ∃ i : Nat, y.2.1 = (i : Int) ∧ i ≤ u.equs.length ∧ w = u.equs.length - i ∧ Ext h h' ∧ Box h' h.size 28 [a.v, b.v, c.v, d.v] ∧ SetL h' g1.size (namesE D (u.equs.take i)) ∧ U = (equsOk (namesE D (u.equs.take i)) (u.equs.drop i) && globsOk (namesE D u.equs) nam0 u.globs)) (n21, (0 : Int), ()) u.equs.length rfl
      ⟨0, rfl, by omega, by omega, e4, b1, m, hu2⟩ ?_
    clear hu hu2 m b1 b2 e4
    rintro ⟨n27, n28, ⟨⟩⟩ w h5 ⟨i, hi, hile, rfl, e5, b1, m, hu⟩
    simp only at hi
    subst hi
    dsimp only [flat, unc, unc1, List.nil_append, List.cons_append]
    have s5 := e5.size
    refine cond_mk (fun q2 => ?_) (fun q2 => ?_)
    · have q2 := of_decide_eq_true q2
      have hil : i < u.equs.length := by omega
      obtain ⟨aa, pp, ll, cc, rfl', hc, va, vn⟩ := (v.equs.keep e5).cells i hil
      rw [equsOk_step _ _ hil] at hu
      have hnt := namesE_take D u.equs hil
      generalize u.equs[i] = x at hc va vn hu hnt
      refine need_of ⟨by omega, by omega⟩ (osome_mk rfl' ?_)
      rw [show Int.toNat (i : Int) = i by omega]
      refine loads_of (x.1, (pp, ll, cc), (x.2.num : Int), ()) hc ?_
      dsimp only [flat, unc, unc1, List.nil_append, List.cons_append]
      refine newB ?_
      intro h6 b6 e6 z6
      refine stores_of b6 rfl (by simp) ?_
      intro h7 b7 k7 z7
      have b7 : Box h7 h5.size 78 (encE pp ll cc x) := b7
      have e57 : Ext h5 h7 := e6.st k7 (Nat.le_refl _)
      have e7 := e5.trans e57
      simp only [add_box]
      have b1 := b1.keep e57 (by simp)
      have m := m.keep e57 (by simp)
      unfold equOk at hu
      refine loads_box b7 (x.1, ()) rfl ?_
      dsimp only [flat, unc, unc1, List.nil_append, List.cons_append]
      refine lookS m.1 x.1 ?_
      refine cond_mk (fun r => ?_) (fun r => ?_)
      · exact ⟨by rw [hu, r]; rfl, e7⟩
      rw [r] at hu
      refine loads_box b7 (x.1, ()) rfl ?_
      dsimp only [flat, unc, unc1, List.nil_append, List.cons_append]
      refine call_bool (legal_hc x.1 h7 (by have : maxLen = 9223372036854775807 := rfl; omega)) ?_
      refine cond_mk (fun r => ?_) (fun r => ?_)
      · have r : legalL x.1.data.toList = false := by simpa using r
        exact ⟨by rw [hu, r]; rfl, e7⟩
      have hle : legalL x.1.data.toList = true := by simpa using r
      rw [hle] at hu
      refine loads_box b7 ((pp, ll, cc), (x.2.num : Int), ()) rfl ?_
      dsimp only [flat, unc, unc1, List.nil_append, List.cons_append]
      refine call_of (right63_hc (c := cc) (va.keep e57).vw (by have := va.many; omega) va.names) ?_
      rintro _ h8 ⟨rfl, e8⟩
      refine ⟨(rtR none x.2.terms, ()), rfl, ?_⟩
      dsimp only [flat, unc, unc1, List.nil_append, List.cons_append]
      have e08 := e7.trans e8
      have b1 := b1.keep e8 (by simp)
      have m := m.keep e8 (by simp)
      have b8 := b7.keep e8 (by simp)
      refine cond_mk (fun r => ?_) (fun r => ?_)
      · have r : rtR none x.2.terms = false := by simpa using r
        exact ⟨by rw [hu, r]; rfl, e08⟩
      have r : rtR none x.2.terms = true := by simpa using r
      rw [r] at hu
      refine loads_box b8 (x.1, ()) rfl ?_
      dsimp only [flat, unc, unc1, List.nil_append, List.cons_append]
      refine putS m.1 vn ?_
      intro h9 m9 k9 z9
      have e09 : Ext h h9 := e08.st k9 (by omega)
      refine again_mk (cs := [(false, [.int .i64]), (false, [.int .i64])]) (n27, ((i + 1 : Nat) : Int), ()) (u.equs.length - (i + 1)) rfl (by omega) (by rw [wrap_i64 (by omega) (by omega)]; rfl) ?_
      refine ⟨i + 1, rfl, by omega, rfl, e09, b1.keep k9 (by simp; omega), by rw [hnt]; exact ⟨m9, fun s hs => (List.mem_cons.1 hs).elim (fun e => by rw [e]; exact hle) (m.2 s)⟩, by rw [hu, hnt]; rfl⟩
    have q2 := of_decide_eq_false q2
    have hil : i = u.equs.length := by omega
    subst hil
    rw [List.take_length] at m hu
    rw [List.drop_length, equsOk, Bool.true_and] at hu
    generalize hE : namesE D u.equs = E at m hu
    refine loads_box b1 ((d.p, d.l, d.c), ()) rfl ?_
    dsimp only [flat, unc, unc1, List.nil_append, List.cons_append]
    have hu2 : U = globsOk E (lastG u.globs 0) (u.globs.drop 0) := hu
    refine loop_of (cs := [(false, [.int .i64]), (false, [.int .i64])]) (fun y w h' => ∃ i : Nat, y.2.1 = (i : Int) ∧ i ≤ u.globs.length ∧ w = u.globs.length - i ∧ Ext h h' ∧ Box h' h.size 28 [a.v, b.v, c.v, d.v] ∧ SetL h' g1.size E ∧ U = globsOk E (lastG u.globs i) (u.globs.drop i)) (n27, (0 : Int), ()) u.globs.length rfl
      ⟨0, rfl, by omega, by omega, e5, b1, m, hu2⟩ ?_
    clear hu hu2 m b1 e5 s5
    rintro ⟨n31, n32, ⟨⟩⟩ w h6 ⟨i, hi, hile, rfl, e6, b1, m, hu⟩
    simp only at hi
    subst hi
    dsimp only [flat, unc, unc1, List.nil_append, List.cons_append]
    refine cond_mk (fun q3 => ?_) (fun q3 => ?_)
    · have q3 := of_decide_eq_true q3
      have hil : i < u.globs.length := by omega
      obtain ⟨aa, rfl', hc, va⟩ := (v.globs.keep e6).cells i hil
      rw [globsOk_step _ _ hil] at hu
      unfold gOk at hu
      refine need_of ⟨by omega, by omega⟩ (osome_mk rfl' ?_)
      rw [show Int.toNat (i : Int) = i by omega]
      refine loads_of (u.globs[i], ()) hc ?_
      dsimp only [flat, unc, unc1, List.nil_append, List.cons_append]
      refine lookS m.1 _ ?_
      refine cond_mk (fun r => ?_) (fun r => ?_)
      · have r : inN E u.globs[i] = false := by simpa using r
        exact ⟨by rw [hu, r]; rfl, e6⟩
      have r : inN E u.globs[i] = true := by simpa using r
      rw [r, Bool.true_and] at hu
      refine cond_mk (fun r2 => ?_) (fun r2 => ?_)
      · have r2 := of_decide_eq_true r2
        refine loads_box b1 ((d.p, d.l, d.c), ()) rfl ?_
        dsimp only [flat, unc, unc1, List.nil_append, List.cons_append]
        rw [wrap_i64 (by omega) (by omega)]
        obtain ⟨ab, rfl'', hc', va'⟩ := (v.globs.keep e6).cells (i - 1) (by omega)
        refine need_of ⟨by omega, by omega⟩ (osome_mk rfl'' ?_)
        rw [show Int.toNat ((i : Int) - 1) = i - 1 by omega]
        refine loads_of (u.globs[i - 1], ()) hc' ?_
        dsimp only [flat, unc, unc1, List.nil_append, List.cons_append]
        have hla : lastG u.globs i = u.globs[i - 1] := by
          unfold lastG
          rw [if_neg (by omega), List.getD_eq_getElem?_getD, List.getElem?_eq_getElem (by omega)]
          rfl
        rw [leB]
        rw [hla] at hu
        refine cond_mk (fun r3 => ?_) (fun r3 => ?_)
        · have r3 : decide (ltN u.globs[i - 1] u.globs[i]) = false := by simpa using r3
          exact ⟨by rw [hu, r3]; rfl, e6⟩
        · have r3 : decide (ltN u.globs[i - 1] u.globs[i]) = true := by simpa using r3
          rw [r3, Bool.true_and] at hu
          refine again_mk (cs := [(false, [.int .i64]), (false, [.int .i64])]) (n31, ((i + 1 : Nat) : Int), ()) (u.globs.length - (i + 1)) rfl (by omega) (by rw [wrap_i64 (by omega) (by omega)]; rfl) ?_
          exact ⟨i + 1, rfl, by omega, rfl, e6, b1, m, hu⟩
      · have r2 := of_decide_eq_false r2
        have hi0 : i = 0 := by omega
        subst hi0
        have hg : decide (ltN (lastG u.globs 0) u.globs[0]) = true := decide_eq_true (legal_gt (m.2 _ (inN_mem r)))
        rw [hg, Bool.true_and] at hu
        refine again_mk (cs := [(false, [.int .i64]), (false, [.int .i64])]) (n31, ((0 + 1 : Nat) : Int), ()) (u.globs.length - (0 + 1)) rfl (by omega) (by rw [wrap_i64 (by omega) (by omega)]; rfl) ?_
        exact ⟨0 + 1, rfl, by omega, rfl, e6, b1, m, hu⟩
    · have q3 := of_decide_eq_false q3
      have hil : i = u.globs.length := by omega
      subst hil
      rw [List.drop_length] at hu
      exact ⟨by rw [hu]; rfl, e6⟩
end Go.Sx.Ob

set_option linter.unusedVariables false
set_option linter.unusedSimpArgs false
set_option maxRecDepth 100000
namespace Go.Sx.Ob
open Go.Proofs
def byC (l : List UInt8) : List (List Value) := l.map fun b => [.int .u8 (b.toNat : Int)]
theorem byC_length (l : List UInt8) : (byC l).length = l.length := by simp [byC]
theorem byC_len (l : List UInt8) : ∀ y, y ∈ byC l → y.length = 1 := by
  intro y hy
  obtain ⟨b, _, rfl⟩ := List.mem_map.1 hy
  rfl
theorem byC_flat (l : List UInt8) : (byC l).flatten = l.map fun b => .int .u8 (b.toNat : Int) := by
  induction l with
  | nil => rfl
  | cons a l ih =>
    have : byC (a :: l) = [.int .u8 (a.toNat : Int)] :: byC l := rfl
    rw [this, List.flatten_cons, ih]
    rfl
theorem byC_plain (l : List UInt8) : (byC l).flatten.all plainV = true := by
  rw [byC_flat]
  simp [plainV]
theorem byC_append (l m : List UInt8) : byC (l ++ m) = byC l ++ byC m := by simp [byC]
theorem byC_cells (st : ByteArray) : ((st.extract 0 st.size).data.map fun b => Value.int .u8 b.toNat) = (byC st.data.toList).flatten.toArray := by
  rw [byC_flat]
  have : (st.extract 0 st.size) = st := by simp
  rw [this]
  apply Array.ext'
  simp
theorem appendStr_of {P : Program} {h : Hp} {K : Value → Hp → Prop} {t ty e sty : TypeId} {i : TypeInfo} {z : Value} (ht : P.underlying t = some (.slice e)) (hsty : P.underlying sty = some .string) (hi : P.info? e = some i) (hz : i.zero = some z) (hzs : z.cells.size = i.size)
    {b : Nat} {p : Option Addr} {l c : Nat} {xs : List (List Value)} {st : ByteArray} (s : SL h b e i.size p l c xs) (hs1 : i.size = 1) (hby : (2 * (l + st.size) + 1024) * i.bytes ≤ 2 ^ 48) (hl : l + st.size ≤ 2 ^ 48) (hb : b ≤ h.size)
    (hk : ∀ p' c' h', SL h' b e i.size p' (l + st.size) c' (xs ++ byC st.data.toList) → Ch (blkOf p) h h' → (p' = p ∨ ∃ a, p' = some a ∧ h.size ≤ a.block) → K (.slice p' (l + st.size) c') h') :
    semW P (Builtin.append_ #[t, sty] ty #[.slice p l c, .string st]) h K := by
  obtain ⟨ys, hysd⟩ : ∃ ys, ys = byC st.data.toList := ⟨_, rfl⟩
  obtain ⟨m, hmd⟩ : ∃ m, m = st.size := ⟨_, rfl⟩
  have hm : m = ys.length := by rw [hysd, hmd, byC_length]; simp
  have hys : ∀ y, y ∈ ys → y.length = i.size := by rw [hysd, hs1]; exact byC_len _
  have hp : ys.flatten.all plainV = true := by rw [hysd]; exact byC_plain _
  have hfc : ((st.extract 0 m).data.map fun b => Value.int .u8 b.toNat) = ys.flatten.toArray := by rw [hysd, hmd]; exact byC_cells st
  have hf1 : List.take m (List.map (fun b => Value.int IntKind.u8 (b.toNat : Int)) st.data.toList) = ys.flatten := by
    rw [hysd, byC_flat, List.take_of_length_le]
    simp [hmd]
  have hf2 : (Array.map (fun b => Value.int IntKind.u8 (b.toNat : Int)) st.data).extract 0 m = ys.flatten.toArray := by
    apply Array.ext'
    rw [Array.toList_extract, Array.toList_map, List.extract_eq_take_drop, List.drop_zero, Nat.sub_zero, hf1]
  rw [← hysd, ← hmd] at hk
  rw [← hmd] at hby hl
  have hyl : ys.flatten.length = m * i.size := by rw [flatten_length ys hys, hm]
  have hxl : xs.flatten.length = l * i.size := by rw [flatten_length xs s.2.1, s.1]
  have hall : ∀ x, x ∈ xs ++ ys → x.length = i.size := fun x hx => (List.mem_append.1 hx).elim (s.2.1 x) (hys x)
  have hlen : l + m = (xs ++ ys).length := by rw [List.length_append, ← s.1, hm]
  have hz' : (P.info? e).bind (·.zero) = some z := by rw [hi]; exact hz
  by_cases hroom : l + m ≤ c
  · simp [Builtin.append_, semW_bind', semW_underlying ht, semW_underlying hsty, semW_sizeOf hi, cellsOf_info hi, Builtin.lenOf, ← hmd, Builtin.firstCells, hroom]
    rw [hf1]
    cases p with
    | none =>
      have h1 : c = 0 := s.2.2.1
      have h2 : ys = [] := List.eq_nil_of_length_eq_zero (by omega)
      subst h2
      rw [List.append_nil] at hk
      have h3 : m = 0 := by omega
      subst h3
      exact hk none c h s (Ch.refl _ _) (.inl rfl)
    | some a1 =>
      obtain ⟨g, pre, rest, rfl, hbg, hlc, hbox, hr⟩ := s.2.2
      have hfl : (xs.flatten ++ rest).length = c * i.size := by
        rw [List.length_append, hxl, hr, ← Nat.add_mul]; congr 1; omega
      have hle : l * i.size + m * i.size ≤ c * i.size := by rw [← Nat.add_mul]; exact Nat.mul_le_mul_right _ hroom
      simp only
      rw [add_box, semW_map]
      obtain ⟨k1, k2, k3, k4⟩ := stores_box (off := pre.length + l * i.size) ys.flatten h 0 _ hbox hp (by rw [List.length_append, hfl, hyl]; omega)
      refine semW_storeCells _ _ _ _ _ k1 ?_
      refine hk _ c _ ⟨hlen, hall, g, pre, rest.drop (m * i.size), rfl, hbg, ⟨hroom, hlc.2⟩, ?_, ?_⟩ k3 (.inl rfl)
      · rw [setL_eq _ _ _ (by rw [List.length_append, hfl, hyl]; omega), Nat.add_zero, ← hxl, ← List.append_assoc, ← List.length_append, List.take_left, List.drop_append, hyl] at k2
        rw [List.drop_of_length_le (by omega), List.nil_append, show (pre ++ xs.flatten).length + m * i.size - (pre ++ xs.flatten).length = m * i.size by omega] at k2
        rw [List.flatten_append]
        rw [List.length_append, hxl] at k2
        simp only [List.append_assoc] at k2 ⊢
        exact k2
      · rw [List.length_drop, hr, ← Nat.sub_mul]; congr 1; omega
  · have hcap : ¬ 281474976710656 < Builtin.nextslicecap (l + m) c * i.bytes := by
      have h1 := nextcap_le (need := l + m) (old := c) (by omega)
      have h2 := Nat.mul_le_mul_right i.bytes h1
      have h3 : (2:Nat) ^ 48 = 281474976710656 := rfl
      omega
    have hbig : ¬ (9223372036854775807 < (l : Int) + (m : Int) ∧ i.bytes = 0) := by
      have h3 : (2:Nat) ^ 48 = 281474976710656 := rfl
      omega
    simp [Builtin.append_, semW_bind', semW_underlying ht, semW_underlying hsty, semW_sizeOf hi, cellsOf_info hi, Builtin.lenOf, ← hmd, Builtin.firstCells, hroom, semW_typeInfo hi, semW_zeroValue hz', askRoom, hbig, hcap]
    intro tt
    have hge := cut_cap (l + m) c e tt
    generalize (Question.appendCap (l + m) c e).cut tt = nc at hge
    show semW P (if roomBytes < nc * i.bytes then mark Mark.noRoom else pure ()) h _
    have hroomy : ∀ K' : Unit → Hp → Prop, K' () h → semW P (if roomBytes < nc * i.bytes then mark Mark.noRoom else pure ()) h K' := by
      intro K' hk'
      split
      · exact hk'
      · exact hk'
    refine hroomy _ ?_
    have hold : ∀ K' : Array Value → Hp → Prop, K' xs.flatten.toArray h → semW P (match Value.slice p l c with
        | Value.slice (some a) len cap => loadCells a (l * i.size)
        | Value.slice none len cap => pure #[]
        | Value.string s => pure ((Array.map (fun b => Value.int IntKind.u8 ↑b.toNat) s.data).extract 0 l)
        | x => stuck "slice or string expected") h K' := by
      intro K' hk'
      cases p with
      | none =>
        have : xs = [] := s.2.2.2
        subst this
        exact hk'
      | some a1 =>
        obtain ⟨g, pre, rest, rfl, hbg, hlc, hbox, hr⟩ := s.2.2
        refine semW_loadCells hxl (hbox.cells _ ?_) _ hk'
        rw [List.drop_left, List.take_left]
    refine hold _ ?_
    rw [hf2]
    rw [semW_map]
    refine hk (some ⟨h.size, 0, none⟩) nc _ ⟨hlen, hall, h.size, [], (Builtin.zeroCells z.cells (nc - (l + m))).toList, rfl, hb, ⟨hge.1, hge.2 (by omega)⟩, ?_, ?_⟩ ((Ext.push h _).mono (by simp)) (.inr ⟨_, rfl, Nat.le_refl _⟩)
    · have e1 : xs.flatten.toArray ++ (ys.flatten.toArray ++ Builtin.zeroCells z.cells (nc - (l + m))) = ((xs ++ ys).flatten ++ (Builtin.zeroCells z.cells (nc - (l + m))).toList).toArray := by
        apply Array.toList_inj.1; simp
      rw [e1]
      exact Box.new h e _
    · rw [Array.length_toList, zeroCells_size, hzs]
end Go.Sx.Ob
