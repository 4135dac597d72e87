/- Contracts over heaps, and plain laws, for the functions that the laws of chapter 10 call, part 6: Items that the document calls right, over heaps. Lists of names as the document treats them, over heaps: has, labels, all, sorted. CopyUnit over heaps, its parts: names, equs. CopyUnit over heaps. A refusal in words, its number; is an error the refusal that is expected? Asked: the table of powers of ten, as it is laid. Is an error the refusal that is expected? Asked: the table of powers of ten, as it is laid. Bytes over heaps; chapter 10's runs. Condition: as each statement says. -/
import Derived.Test.YtnjohginlglonaaGreatDoorP5
import Derived.Test.YtnjohginlglonaaGreatDoorZrY
import Derived.Test.YtnjohginlglonaaGreatDoorP4
import Derived.Test.YtnjohginlglonaaGreatDoorZobjIs
import Derived.Test.YtnjohginlglonaaGreatDoorZobjShelf
import Derived.Test.YtnjohginlglonaaGreatDoorP3
import Derived.Test.YtnjohginlglonaaGreatDoorSxU
import Derived.Test.YtnjohginlglonaaGreatDoorZobjTb
import Derived.Lib.ItoaLen
set_option linter.unusedVariables false
set_option linter.unusedSimpArgs false
set_option maxRecDepth 100000
namespace Go.Sx.Ob
open Go.Proofs
def bareV (x : Itm) (b1 b2 b3 b4 : Bool) : Bool := (!b1 || z1 x) && ((!b2 || z2 x) && ((!b3 || z3 x) && (!b4 || z4 x)))
theorem emptyL (s : ByteArray) : (ByteArray.toList s == ([] : List UInt8)) = decide (s = nam0) := by
  have := beqL s nam0
  rw [show ByteArray.toList nam0 = [] by rw [ByteArray.toList_eq]; rfl] at this
  exact this
theorem cmpIns0 (n : Nat) (m : Nat) (i : Ins) (h : Hp) (K : Value → Hp → Prop) (hk : K (.bool (decide (i = ins0))) h) :
    semW Tryz.prog (Sx.cmpS (BinOp.eql) 100 (Operand.tmp n) (Operand.tmp m) (.agg #[.int .i64 i.op, .int .i64 i.a, .int .i64 i.b, .int .i32 i.n, .int .i64 i.form]) (.agg #[.int .i64 (0 : Int), .int .i64 (0 : Int), .int .i64 (0 : Int), .int .i32 (0 : Int), .int .i64 (0 : Int)])) h K :=
  cmpInsE _ _ i ins0 h K hk
theorem bare_hc {h : Hp} {x : Itm} {p : Option Addr} {l c : Nat} (v : VwT h p l x.e.terms) (b1 b2 b3 b4 : Bool) :
    HC Tryz.prog 72 #[itmV p l c x, .bool b1, .bool b2, .bool b3, .bool b4] h fun w h' => w = .bool (bareV x b1 b2 b3 b4) ∧ Ext h h' := by
  refine hcr_of (args := [itmV p l c x, .bool b1, .bool b2, .bool b3, .bool b4]) mixed Tryz.func72 (by kernel_rfl) (t_spandrelref8_bare_eq x.kind x.name x.inst.op x.inst.a x.inst.b x.inst.n x.inst.form p l c x.e.num x.n b1 b2 b3 b4) ?_
  unfold t_spandrelref8_bare
  have hl := v.len
  have hz : isZ x.e = (decide (l = 0) && decide (x.e.num = 0)) := by
    unfold isZ
    congr 1
    rw [hl]
    simp
  refine newB ?_
  intro h1 bx e1 zz1
  have bx : Box h1 h.size 102 (encI p l c x) := bx
  simp only [add_box]
  unfold bareV z1 z2 z3 z4
  rw [hz]
  repeat' (first
    | (refine loads_box bx (x.n, ()) rfl ?_; dsimp only [flat, unc, unc1, List.nil_append, List.cons_append])
    | (refine loads_box bx (x.name, ()) rfl ?_; dsimp only [flat, unc, unc1, List.nil_append, List.cons_append])
    | (refine loads_box bx ((p, l, c), ()) rfl ?_; dsimp only [flat, unc, unc1, List.nil_append, List.cons_append])
    | (refine loads_box bx ((x.e.num : Int), ()) rfl ?_; dsimp only [flat, unc, unc1, List.nil_append, List.cons_append])
    | (refine loads_box bx (x.inst.op, x.inst.a, x.inst.b, x.inst.n, x.inst.form, ()) rfl ?_; dsimp only [flat, unc, unc1, List.nil_append, List.cons_append])
    | refine sem_bool (fun K' hK => cmpIns0 _ _ x.inst h1 K' hK) ?_
    | refine ⟨congrArg Value.bool ?_, e1⟩
    | refine cond_mk (fun q => ?_) (fun q => ?_))
  all_goals (
    try simp only [emptyL] at *
    simp_all [beqD])
  all_goals omega
/-- An item is laid down, and asked whether it bears nothing else. -/
def bareT (g : Nat) (b1 b2 b3 b4 : Bool) (k : Bool → T) : T :=
  T.loads ⟨g, 0, none⟩ [.int .i64, .string, .int .i64, .int .i64, .int .i64, .int .i32, .int .i64, .slice 104, .int .u32, .int .i64] <| fun (n5 : Int) (s6 : ByteArray) (n7 : Int) (n8 : Int) (n9 : Int) (n10 : Int) (n11 : Int) (p12 : Option Addr) (l13 : Nat) (l14 : Nat) (n15 : Int) (n16 : Int) =>
    T.call Tryz.prog 72 [.agg #[.int .i64 n5, .string s6, .int .i64 n7, .int .i64 n8, .int .i64 n9, .int .i32 n10, .int .i64 n11, .slice p12 l13 l14, .int .u32 n15, .int .i64 n16], .bool b1, .bool b2, .bool b3, .bool b4] false [(false, [.bool])] k
theorem bareT_of {L : Lp} {K : Value → Hp → Prop} {h : Hp} {g : Nat} {x : Itm} {p : Option Addr} {l c : Nat} {b1 b2 b3 b4 : Bool} {k : Bool → T} (bx : Box h g 102 (encI p l c x)) (v : VwT h p l x.e.terms) (hk : ∀ h', Ext h h' → k (bareV x b1 b2 b3 b4) L K h') : bareT g b1 b2 b3 b4 k L K h := by
  unfold bareT
  refine loads_box bx (x.kind, x.name, x.inst.op, x.inst.a, x.inst.b, x.inst.n, x.inst.form, (p, l, c), (x.e.num : Int), x.n, ()) rfl ?_
  dsimp only [flat, unc, unc1, List.nil_append, List.cons_append]
  exact call_boolx (bare_hc v b1 b2 b3 b4) hk
theorem power2_hc (h : Hp) (n : Int) : HCp Tryz.prog 76 [.int .i64 n] h (.bool (pow2 n)) := by
  refine hcp_of mixed Tryz.func76 (by kernel_rfl) (t_spandrelref8_power_eq n) ?_
  unfold t_spandrelref8_power
  refine loop_of (cs := [(false, [.bool]), (false, [.int .i64])]) (fun y m h' => ∃ k : Nat, y = (false, ((2 ^ k : Nat) : Int), ()) ∧ m = 9 - k ∧ k ≤ 9 ∧ h' = h ∧ (∀ j, j < k → ¬ n = ((2 ^ j : Nat) : Int))) (false, (1 : Int), ()) 9 rfl
    ⟨0, rfl, rfl, by omega, rfl, fun j hj => by omega⟩ ?_
  rintro ⟨b1, n2, ⟨⟩⟩ m h1 ⟨k, hy, hm, hk, rfl, hj⟩
  cases hy
  dsimp only [flat, unc, unc1, List.nil_append, List.cons_append]
  refine cond_mk (fun q => ?_) (fun q => ?_)
  · have q := of_decide_eq_true q
    have hk8 : k ≤ 8 := by
      by_cases g : k = 9
      · subst g
        exact absurd q (by decide)
      · omega
    refine cond_mk (fun r => ?_) (fun r => ?_)
    · have r : n = ((2 ^ k : Nat) : Int) := by simpa using r
      refine ⟨?_, rfl⟩
      have : k = 0 ∨ k = 1 ∨ k = 2 ∨ k = 3 ∨ k = 4 ∨ k = 5 ∨ k = 6 ∨ k = 7 ∨ k = 8 := by omega
      rcases this with rfl | rfl | rfl | rfl | rfl | rfl | rfl | rfl | rfl <;> (rw [r]; rfl)
    · have r : ¬ n = ((2 ^ k : Nat) : Int) := by simpa using r
      have hp : 2 ^ k ≤ 2 ^ 8 := Nat.pow_le_pow_right (by omega) hk8
      have hp2 : ((2 ^ k : Nat) : Int) ≤ 256 := by exact_mod_cast hp
      have hp3 : (0 : Int) ≤ ((2 ^ k : Nat) : Int) := Int.natCast_nonneg _
      rw [wrap_i64 (by omega) (by omega)]
      have h2 : (2 : Int) * ((2 ^ k : Nat) : Int) = ((2 ^ (k + 1) : Nat) : Int) := by rw [Nat.pow_succ]; omega
      rw [h2]
      refine again_mk (cs := [(false, [.bool]), (false, [.int .i64])]) (false, ((2 ^ (k + 1) : Nat) : Int), ()) (9 - (k + 1)) rfl (by omega) rfl ⟨k + 1, rfl, rfl, by omega, rfl, fun j hj' => ?_⟩
      by_cases g : j = k
      · subst g; exact r
      · exact hj j (by omega)
  · have q := of_decide_eq_false q
    have hk9 : k = 9 := by
      by_cases g : k = 9
      · exact g
      · have hp : 2 ^ k ≤ 2 ^ 8 := Nat.pow_le_pow_right (by omega) (by omega)
        omega
    subst hk9
    refine ⟨?_, rfl⟩
    have a0 := hj 0 (by omega)
    have a1 := hj 1 (by omega)
    have a2 := hj 2 (by omega)
    have a3 := hj 3 (by omega)
    have a4 := hj 4 (by omega)
    have a5 := hj 5 (by omega)
    have a6 := hj 6 (by omega)
    have a7 := hj 7 (by omega)
    have a8 := hj 8 (by omega)
    unfold pow2
    simp only [Nat.reducePow] at a0 a1 a2 a3 a4 a5 a6 a7 a8
    rw [decide_eq_false (by omega), decide_eq_false (by omega), decide_eq_false (by omega), decide_eq_false (by omega), decide_eq_false (by omega), decide_eq_false (by omega), decide_eq_false (by omega), decide_eq_false (by omega), decide_eq_false (by omega)]
    rfl
theorem right2_0 {h : Hp} {x : Itm} {p : Option Addr} {l c : Nat} (v : ItmAt h p l x) : HC Tryz.prog 42 #[itmV p l c x, .int .i64 (0 : Int)] h fun w h' => w = no31 (itmR x 0) ∧ Ext h h' := by
  refine hcr_of (args := [itmV p l c x, .int .i64 (0 : Int)]) mixed Tryz.func42 (by kernel_rfl) (t_spandrelref8_Right_s0_eq x.kind x.name x.inst.op x.inst.a x.inst.b x.inst.n x.inst.form p l c x.e.num x.n) ?_
  unfold t_spandrelref8_Right_s0
  have hml : maxLen = 9223372036854775807 := rfl
  refine newB ?_
  intro h1 b1 e1 z1'
  have b1 : Box h1 h.size 102 (encI p l c x) := b1
  have v1 := v.keep e1
  simp only [add_box]
  refine join_of (cs := [(false, [.bool])]) (fun y h' => y.1 = itmR x 0 ∧ Ext h h') ?_ ?_
  rotate_left
  · rintro ⟨b2, ⟨⟩⟩ h' ⟨hy, e'⟩
    simp only at hy
    subst hy
    dsimp only [flat, unc, unc1, List.nil_append, List.cons_append]
    cases hr : itmR x 0
    · exact ⟨rfl, e'⟩
    · exact ⟨rfl, e'⟩
  have fin : ∀ (b : Bool) (h' : Hp), b = itmR x 0 → Ext h h' → T.again 0 [.bool b] [fun vs h' => ∃ y : HVs (flat [(false, [.bool])]), vs = parts [(false, [.bool])] (hvs _ y) ∧ (y.1 = itmR x 0 ∧ Ext h h')] (fun w h' => w = no31 (itmR x 0) ∧ Ext h h') h' := by
    rintro b h' rfl e'
    exact meet_mk (cs := [(false, [.bool])]) (J := fun y h' => y.1 = itmR x 0 ∧ Ext h h') (itmR x 0, ()) rfl rfl ⟨rfl, e'⟩
  refine loads_box b1 (x.kind, ()) rfl ?_
  dsimp only [flat, unc, unc1, List.nil_append, List.cons_append]
  by_cases k1 : x.kind = 1
  · refine cond_t (by rw [k1]; rfl) ?_
    have hit : itmR x 0 = (legalL x.name.data.toList && z2 x && z3 x && z4 x) := by unfold itmR; rw [if_pos k1]
    refine loads_box b1 (x.name, ()) rfl ?_
    dsimp only [flat, unc, unc1, List.nil_append, List.cons_append]
    refine call_bool (legal2_hc x.name h1 (by have := v.name; omega)) ?_
    refine cond_mk (fun q => ?_) (fun q => fin _ _ (by rw [hit, q]; rfl) e1)
    refine bareT_of b1 v1.lin.vw ?_
    intro h2 e2
    exact fin _ _ (by rw [hit, q]; unfold bareV; simp [Bool.and_assoc]) (e1.trans e2)
  refine cond_f (by simpa using k1) ?_
  by_cases k2 : x.kind = 2
  · refine cond_t (by rw [k2]; rfl) ?_
    have hit : itmR x 0 = (insR x.inst x.e && z1 x && z4 x) := by unfold itmR; rw [if_neg k1, if_pos k2]; simp
    refine loads_box b1 (x.inst.op, x.inst.a, x.inst.b, x.inst.n, x.inst.form, ()) rfl ?_
    dsimp only [flat, unc, unc1, List.nil_append, List.cons_append]
    refine newB ?_
    intro h2 b2 e2 z2'
    refine stores_of b2 rfl (by simp) ?_
    intro h3 b3 k3 z3'
    have b3 : Box h3 h1.size 100 (insC x.inst) := b3
    have e13 : Ext h1 h3 := e2.st k3 (Nat.le_refl _)
    have b13 := b1.keep e13 (by simp)
    rw [add_box]
    refine loads_box b3 (x.inst.form, ()) rfl ?_
    dsimp only [flat, unc, unc1, List.nil_append, List.cons_append]
    refine join_of (cs := []) (fun _ h' => Box h' h1.size 100 (insC { x.inst with form := if spn x.inst.op then 1 else x.inst.form }) ∧ Ext h1 h') ?_ ?_
    · refine loads_box b3 (x.inst.op, ()) rfl ?_
      dsimp only [flat, unc, unc1, List.nil_append, List.cons_append]
      refine call_boolx (spans2_hc h3 x.inst.op v.op) ?_
      intro h4 e4
      have b4 := b3.keep e4 (by simp)
      refine cond_mk (fun q => ?_) (fun q => ?_)
      · refine stores_of b4 rfl (by simp [insC]) ?_
        intro h5 b5 k5 z5
        exact meet_mk (cs := []) () rfl rfl ⟨by rw [if_pos q]; exact b5, (e13.trans e4).st k5 (by have := e13.size; omega)⟩
      · exact meet_mk (cs := []) () rfl rfl ⟨by rw [if_neg (by rw [q]; decide)]; exact b4, e13.trans e4⟩
    rintro _ h5 ⟨b5, e5⟩
    dsimp only [flat, unc, unc1, List.nil_append, List.cons_append]
    have b15 := b1.keep e5 (by simp)
    have v5 := v1.keep e5
    refine join_of (cs := [(false, [.bool])]) (fun y h' => y.1 = (decide (x.inst.form = 0) && decide (chkR { x.inst with form := if spn x.inst.op then 1 else x.inst.form } = 0) && (z1 x && z4 x)) ∧ Ext h5 h') ?_ ?_
    · refine cond_mk (fun q => ?_) (fun q => ?_)
      · have q : x.inst.form = 0 := by simpa using q
        refine loads_box b5 (x.inst.op, x.inst.a, x.inst.b, x.inst.n, ((if spn x.inst.op then (1 : Int) else x.inst.form) : Int), ()) rfl ?_
        dsimp only [flat, unc, unc1, List.nil_append, List.cons_append]
        refine call_of (check2_hc h5 x.inst.op x.inst.a x.inst.b x.inst.n (if spn x.inst.op then 1 else x.inst.form) v.op) ?_
        rintro _ h6 ⟨rfl, e6⟩
        refine ⟨(chkR { x.inst with form := if spn x.inst.op then 1 else x.inst.form }, ()), rfl, ?_⟩
        dsimp only [flat, unc, unc1, List.nil_append, List.cons_append]
        refine cond_mk (fun r => ?_) (fun r => ?_)
        · have r : chkR { x.inst with form := if spn x.inst.op then 1 else x.inst.form } = 0 := by simpa using r
          refine bareT_of (b15.keep e6 (by simp)) (v5.keep e6).lin.vw ?_
          intro h7 e7
          exact meet_mk (cs := [(false, [.bool])]) (bareV x true false false true, ()) rfl rfl ⟨by rw [decide_eq_true q, decide_eq_true r]; rfl, e6.trans e7⟩
        · have r : ¬ chkR { x.inst with form := if spn x.inst.op then 1 else x.inst.form } = 0 := by simpa using r
          exact meet_mk (cs := [(false, [.bool])]) (false, ()) rfl rfl ⟨by rw [decide_eq_true q, decide_eq_false r]; rfl, e6⟩
      · have q : ¬ x.inst.form = 0 := by simpa using q
        exact meet_mk (cs := [(false, [.bool])]) (false, ()) rfl rfl ⟨by rw [decide_eq_false q]; rfl, Ch.refl _ _⟩
    rintro ⟨b10, ⟨⟩⟩ h6 ⟨hy, e6⟩
    simp only at hy
    subst hy
    dsimp only [flat, unc, unc1, List.nil_append, List.cons_append]
    have b6 := b5.keep e6 (by simp)
    have b16 := b15.keep e6 (by simp)
    have v6 := v5.keep e6
    refine loads_box b6 (x.inst.op, ()) rfl ?_
    dsimp only [flat, unc, unc1, List.nil_append, List.cons_append]
    refine call_boolx (hasE_hc h6 x.inst.op v.op) ?_
    intro h7 e7
    have b7 := b6.keep e7 (by simp)
    have b17 := b16.keep e7 (by simp)
    have v7 := v6.keep e7
    have e07 := ((e1.trans e5).trans e6).trans e7
    have hchk : wnt x.inst.op = true → (decide (x.inst.form = 0) && decide (chkR { x.inst with form := if spn x.inst.op then 1 else x.inst.form } = 0) && (z1 x && z4 x) && (decide (x.inst.n = 0) && rtR none x.e.terms)) = itmR x 0 := by
      intro hw
      rw [hit]
      unfold insR
      rw [if_pos hw]
      by_cases f0 : x.inst.form = 0
      · rw [decide_eq_true f0, f0]
        by_cases c0 : chkR { x.inst with form := if spn x.inst.op then 1 else 0 } = 0
        · have hs := (chk_regs c0).1
          simp only at hs
          rw [decide_eq_true c0, decide_eq_true hs]
          simp only [Bool.true_and]
          ac_rfl
        · rw [decide_eq_false c0]
          simp
      · rw [decide_eq_false f0]
        simp
    have hchk2 : wnt x.inst.op = false → (decide (x.inst.form = 0) && decide (chkR { x.inst with form := if spn x.inst.op then 1 else x.inst.form } = 0) && (z1 x && z4 x) && z3 x) = itmR x 0 := by
      intro hw
      rw [hit]
      unfold insR
      rw [if_neg (show ¬ (wnt x.inst.op = true) by rw [hw]; decide)]
      have hsp : spn x.inst.op = false := by
        unfold wnt at hw
        unfold spn
        rw [decide_eq_false_iff_not] at hw ⊢
        omega
      rw [if_neg (show ¬ (spn x.inst.op = true) by rw [hsp]; decide)]
      by_cases f0 : x.inst.form = 0
      · rw [decide_eq_true f0]
        have hi : ({ x.inst with form := x.inst.form } : Ins) = x.inst := rfl
        rw [hi]
        by_cases c0 : chkR x.inst = 0
        · have hs := (chk_regs c0).1
          rw [decide_eq_true c0, decide_eq_true hs]
          unfold z3
          simp only [Bool.true_and]
          ac_rfl
        · rw [decide_eq_false c0]
          simp
      · rw [decide_eq_false f0]
        simp
    generalize (decide (x.inst.form = 0) && decide (chkR { x.inst with form := if spn x.inst.op then 1 else x.inst.form } = 0) && (z1 x && z4 x)) = G at *
    refine cond_mk (fun hw => ?_) (fun hw => ?_)
    · have hchk := hchk hw
      refine cond_mk (fun g => ?_) (fun g => fin _ _ (by rw [← hchk, g]; rfl) e07)
      refine loads_box b7 (x.inst.n, ()) rfl ?_
      dsimp only [flat, unc, unc1, List.nil_append, List.cons_append]
      refine cond_mk (fun r => ?_) (fun r => ?_)
      · have r : x.inst.n = 0 := by simpa using r
        refine loads_box b17 ((p, l, c), (x.e.num : Int), ()) rfl ?_
        dsimp only [flat, unc, unc1, List.nil_append, List.cons_append]
        refine call_of (right50_hc (c := c) v7.lin.vw (by have := v.lin.many; omega) v.lin.names) ?_
        rintro _ h8 ⟨rfl, e8⟩
        refine ⟨(rtR none x.e.terms, ()), rfl, ?_⟩
        exact fin _ _ (by rw [← hchk, g, decide_eq_true r]; simp) (e07.trans e8)
      · have r : ¬ x.inst.n = 0 := by simpa using r
        exact fin _ _ (by rw [← hchk, decide_eq_false r]; simp) e07
    · have hchk := hchk2 hw
      refine cond_mk (fun g => ?_) (fun g => fin _ _ (by rw [← hchk, g]; rfl) e07)
      refine bareT_of b17 v7.lin.vw ?_
      intro h8 e8
      exact fin _ _ (by rw [← hchk, g]; unfold bareV; simp) (e07.trans e8)
  refine cond_f (by simpa using k2) ?_
  by_cases k3 : x.kind = 3
  · refine cond_t (by rw [k3]; rfl) ?_
    have hit : itmR x 0 = (pow2 x.n && z1 x && z2 x && z3 x) := by unfold itmR; rw [if_neg k1, if_neg k2, if_pos k3]
    refine loads_box b1 (x.n, ()) rfl ?_
    dsimp only [flat, unc, unc1, List.nil_append, List.cons_append]
    refine call_bool (power2_hc h1 x.n) ?_
    refine cond_mk (fun q => ?_) (fun q => fin _ _ (by rw [hit, q]; rfl) e1)
    refine bareT_of b1 v1.lin.vw ?_
    intro h2 e2
    exact fin _ _ (by rw [hit, q]; unfold bareV; simp [Bool.and_assoc]) (e1.trans e2)
  refine cond_f (by simpa using k3) ?_
  by_cases k4 : x.kind = 4
  · refine cond_t (by rw [k4]; rfl) ?_
    have hit : itmR x 0 = (z1 x && z2 x && z3 x && z4 x) := by unfold itmR; rw [if_neg k1, if_neg k2, if_neg k3, if_pos k4]; simp
    refine bareT_of b1 v1.lin.vw ?_
    intro h2 e2
    exact fin _ _ (by rw [hit]; unfold bareV; simp [Bool.and_assoc]) (e1.trans e2)
  refine cond_f (by simpa using k4) ?_
  by_cases k5 : x.kind = 5
  · refine cond_t (by rw [k5]; rfl) ?_
    exact fin _ _ (by unfold itmR; rw [if_neg k1, if_neg k2, if_neg k3, if_neg k4, if_pos k5]; simp) e1
  refine cond_f (by simpa using k5) ?_
  by_cases k6 : x.kind = 6
  · refine cond_t (by rw [k6]; rfl) ?_
    exact fin _ _ (by unfold itmR; rw [if_neg k1, if_neg k2, if_neg k3, if_neg k4, if_neg k5, if_pos k6]; simp) e1
  refine cond_f (by simpa using k6) ?_
  by_cases k7 : x.kind = 7
  · refine cond_t (by rw [k7]; rfl) ?_
    exact fin _ _ (by unfold itmR; rw [if_neg k1, if_neg k2, if_neg k3, if_neg k4, if_neg k5, if_neg k6, if_pos k7]; simp) e1
  refine cond_f (by simpa using k7) ?_
  exact fin _ _ (by unfold itmR; rw [if_neg k1, if_neg k2, if_neg k3, if_neg k4, if_neg k5, if_neg k6, if_neg k7]) e1
theorem right2_1 {h : Hp} {x : Itm} {p : Option Addr} {l c : Nat} (v : ItmAt h p l x) : HC Tryz.prog 42 #[itmV p l c x, .int .i64 (1 : Int)] h fun w h' => w = no31 (itmR x 1) ∧ Ext h h' := by
  refine hcr_of (args := [itmV p l c x, .int .i64 (1 : Int)]) mixed Tryz.func42 (by kernel_rfl) (t_spandrelref8_Right_s1_eq x.kind x.name x.inst.op x.inst.a x.inst.b x.inst.n x.inst.form p l c x.e.num x.n) ?_
  unfold t_spandrelref8_Right_s1
  have hml : maxLen = 9223372036854775807 := rfl
  refine newB ?_
  intro h1 b1 e1 z1'
  have b1 : Box h1 h.size 102 (encI p l c x) := b1
  have v1 := v.keep e1
  simp only [add_box]
  refine join_of (cs := [(false, [.bool])]) (fun y h' => y.1 = itmR x 1 ∧ Ext h h') ?_ ?_
  rotate_left
  · rintro ⟨b2, ⟨⟩⟩ h' ⟨hy, e'⟩
    simp only at hy
    subst hy
    dsimp only [flat, unc, unc1, List.nil_append, List.cons_append]
    cases hr : itmR x 1
    · exact ⟨rfl, e'⟩
    · exact ⟨rfl, e'⟩
  have fin : ∀ (b : Bool) (h' : Hp), b = itmR x 1 → Ext h h' → T.again 0 [.bool b] [fun vs h' => ∃ y : HVs (flat [(false, [.bool])]), vs = parts [(false, [.bool])] (hvs _ y) ∧ (y.1 = itmR x 1 ∧ Ext h h')] (fun w h' => w = no31 (itmR x 1) ∧ Ext h h') h' := by
    rintro b h' rfl e'
    exact meet_mk (cs := [(false, [.bool])]) (J := fun y h' => y.1 = itmR x 1 ∧ Ext h h') (itmR x 1, ()) rfl rfl ⟨rfl, e'⟩
  refine loads_box b1 (x.kind, ()) rfl ?_
  dsimp only [flat, unc, unc1, List.nil_append, List.cons_append]
  by_cases k1 : x.kind = 1
  · refine cond_t (by rw [k1]; rfl) ?_
    have hit : itmR x 1 = (legalL x.name.data.toList && z2 x && z3 x && z4 x) := by unfold itmR; rw [if_pos k1]
    refine loads_box b1 (x.name, ()) rfl ?_
    dsimp only [flat, unc, unc1, List.nil_append, List.cons_append]
    refine call_bool (legal2_hc x.name h1 (by have := v.name; omega)) ?_
    refine cond_mk (fun q => ?_) (fun q => fin _ _ (by rw [hit, q]; rfl) e1)
    refine bareT_of b1 v1.lin.vw ?_
    intro h2 e2
    exact fin _ _ (by rw [hit, q]; unfold bareV; simp [Bool.and_assoc]) (e1.trans e2)
  refine cond_f (by simpa using k1) ?_
  by_cases k2 : x.kind = 2
  · refine cond_t (by rw [k2]; rfl) ?_
    have hit : itmR x 1 = (false) := by unfold itmR; rw [if_neg k1, if_pos k2]; simp
    refine loads_box b1 (x.inst.op, x.inst.a, x.inst.b, x.inst.n, x.inst.form, ()) rfl ?_
    dsimp only [flat, unc, unc1, List.nil_append, List.cons_append]
    refine newB ?_
    intro h2 b2 e2 z2'
    refine stores_of b2 rfl (by simp) ?_
    intro h3 b3 k3 z3'
    have b3 : Box h3 h1.size 100 (insC x.inst) := b3
    have e13 : Ext h1 h3 := e2.st k3 (Nat.le_refl _)
    have b13 := b1.keep e13 (by simp)
    rw [add_box]
    refine loads_box b3 (x.inst.form, ()) rfl ?_
    dsimp only [flat, unc, unc1, List.nil_append, List.cons_append]
    refine join_of (cs := []) (fun _ h' => Box h' h1.size 100 (insC { x.inst with form := if spn x.inst.op then 1 else x.inst.form }) ∧ Ext h1 h') ?_ ?_
    · refine loads_box b3 (x.inst.op, ()) rfl ?_
      dsimp only [flat, unc, unc1, List.nil_append, List.cons_append]
      refine call_boolx (spans2_hc h3 x.inst.op v.op) ?_
      intro h4 e4
      have b4 := b3.keep e4 (by simp)
      refine cond_mk (fun q => ?_) (fun q => ?_)
      · refine stores_of b4 rfl (by simp [insC]) ?_
        intro h5 b5 k5 z5
        exact meet_mk (cs := []) () rfl rfl ⟨by rw [if_pos q]; exact b5, (e13.trans e4).st k5 (by have := e13.size; omega)⟩
      · exact meet_mk (cs := []) () rfl rfl ⟨by rw [if_neg (by rw [q]; decide)]; exact b4, e13.trans e4⟩
    rintro _ h5 ⟨b5, e5⟩
    dsimp only [flat, unc, unc1, List.nil_append, List.cons_append]
    have b15 := b1.keep e5 (by simp)
    have v5 := v1.keep e5
    refine join_of (cs := [(false, [.bool])]) (fun y h' => y.1 = false ∧ Ext h5 h') (meet_mk (cs := [(false, [.bool])]) (false, ()) rfl rfl ⟨rfl, Ch.refl _ _⟩) ?_
    rintro ⟨b10, ⟨⟩⟩ h6 ⟨hy, e6⟩
    simp only at hy
    subst hy
    dsimp only [flat, unc, unc1, List.nil_append, List.cons_append]
    have b6 := b5.keep e6 (by simp)
    have b16 := b15.keep e6 (by simp)
    have v6 := v5.keep e6
    refine loads_box b6 (x.inst.op, ()) rfl ?_
    dsimp only [flat, unc, unc1, List.nil_append, List.cons_append]
    refine call_boolx (hasE_hc h6 x.inst.op v.op) ?_
    intro h7 e7
    have b7 := b6.keep e7 (by simp)
    have b17 := b16.keep e7 (by simp)
    have v7 := v6.keep e7
    have e07 := ((e1.trans e5).trans e6).trans e7
    refine cond_mk (fun hw => ?_) (fun hw => ?_)
    · exact cond_f rfl (fin _ _ (by rw [hit]) e07)
    · exact cond_f rfl (fin _ _ (by rw [hit]) e07)
  refine cond_f (by simpa using k2) ?_
  by_cases k3 : x.kind = 3
  · refine cond_t (by rw [k3]; rfl) ?_
    have hit : itmR x 1 = (pow2 x.n && z1 x && z2 x && z3 x) := by unfold itmR; rw [if_neg k1, if_neg k2, if_pos k3]
    refine loads_box b1 (x.n, ()) rfl ?_
    dsimp only [flat, unc, unc1, List.nil_append, List.cons_append]
    refine call_bool (power2_hc h1 x.n) ?_
    refine cond_mk (fun q => ?_) (fun q => fin _ _ (by rw [hit, q]; rfl) e1)
    refine bareT_of b1 v1.lin.vw ?_
    intro h2 e2
    exact fin _ _ (by rw [hit, q]; unfold bareV; simp [Bool.and_assoc]) (e1.trans e2)
  refine cond_f (by simpa using k3) ?_
  by_cases k4 : x.kind = 4
  · refine cond_t (by rw [k4]; rfl) ?_
    exact fin _ _ (by unfold itmR; rw [if_neg k1, if_neg k2, if_neg k3, if_pos k4]; simp) e1
  refine cond_f (by simpa using k4) ?_
  by_cases k5 : x.kind = 5
  · refine cond_t (by rw [k5]; rfl) ?_
    have hit : itmR x 1 = (decide (-128 ≤ x.n) && decide (x.n ≤ 255) && z1 x && z2 x && z3 x) := by unfold itmR; rw [if_neg k1, if_neg k2, if_neg k3, if_neg k4, if_pos k5]; simp
    refine loads_box b1 (x.n, ()) rfl ?_
    dsimp only [flat, unc, unc1, List.nil_append, List.cons_append]
    refine cond_mk (fun q => ?_) (fun q => fin _ _ (by rw [hit, show decide (-128 ≤ x.n) = false from q]; rfl) e1)
    refine loads_box b1 (x.n, ()) rfl ?_
    dsimp only [flat, unc, unc1, List.nil_append, List.cons_append]
    refine cond_mk (fun r => ?_) (fun r => fin _ _ (by rw [hit, r]; simp) e1)
    refine bareT_of b1 v1.lin.vw ?_
    intro h2 e2
    exact fin _ _ (by rw [hit, r, show decide (-128 ≤ x.n) = true from q]; unfold bareV; simp [Bool.and_assoc]) (e1.trans e2)
  refine cond_f (by simpa using k5) ?_
  by_cases k6 : x.kind = 6
  · refine cond_t (by rw [k6]; rfl) ?_
    have hit : itmR x 1 = (rtR none x.e.terms && z1 x && z2 x && z4 x) := by unfold itmR; rw [if_neg k1, if_neg k2, if_neg k3, if_neg k4, if_neg k5, if_pos k6]; simp
    refine loads_box b1 ((p, l, c), (x.e.num : Int), ()) rfl ?_
    dsimp only [flat, unc, unc1, List.nil_append, List.cons_append]
    refine call_of (right50_hc (c := c) v1.lin.vw (by have := v.lin.many; omega) v.lin.names) ?_
    rintro _ h2 ⟨rfl, e2⟩
    refine ⟨(rtR none x.e.terms, ()), rfl, ?_⟩
    dsimp only [flat, unc, unc1, List.nil_append, List.cons_append]
    refine cond_mk (fun q => ?_) (fun q => fin _ _ (by rw [hit, q]; rfl) (e1.trans e2))
    refine bareT_of (b1.keep e2 (by simp)) (v1.keep e2).lin.vw ?_
    intro h3 e3
    exact fin _ _ (by rw [hit, q]; unfold bareV; simp [Bool.and_assoc]) ((e1.trans e2).trans e3)
  refine cond_f (by simpa using k6) ?_
  by_cases k7 : x.kind = 7
  · refine cond_t (by rw [k7]; rfl) ?_
    have hit : itmR x 1 = (decide (0 ≤ x.n) && decide (x.n ≤ 1048576) && z1 x && z2 x && z3 x) := by unfold itmR; rw [if_neg k1, if_neg k2, if_neg k3, if_neg k4, if_neg k5, if_neg k6, if_pos k7]; simp
    refine loads_box b1 (x.n, ()) rfl ?_
    dsimp only [flat, unc, unc1, List.nil_append, List.cons_append]
    refine cond_mk (fun q => ?_) (fun q => fin _ _ (by rw [hit, show decide (0 ≤ x.n) = false from q]; rfl) e1)
    refine loads_box b1 (x.n, ()) rfl ?_
    dsimp only [flat, unc, unc1, List.nil_append, List.cons_append]
    refine cond_mk (fun r => ?_) (fun r => fin _ _ (by rw [hit, r]; simp) e1)
    refine bareT_of b1 v1.lin.vw ?_
    intro h2 e2
    exact fin _ _ (by rw [hit, r, show decide (0 ≤ x.n) = true from q]; unfold bareV; simp [Bool.and_assoc]) (e1.trans e2)
  refine cond_f (by simpa using k7) ?_
  exact fin _ _ (by unfold itmR; rw [if_neg k1, if_neg k2, if_neg k3, if_neg k4, if_neg k5, if_neg k6, if_neg k7]) e1
theorem rightR_hc {h : Hp} {x : Itm} {p : Option Addr} {l c k : Nat} (v : ItmAt h p l x) (hk : k < 2) : HC Tryz.prog 42 #[itmV p l c x, .int .i64 (k : Int)] h fun w h' => w = no31 (itmR x k) ∧ Ext h h' := by
  have : k = 0 ∨ k = 1 := by omega
  rcases this with rfl | rfl
  · exact right2_0 v
  · exact right2_1 v
end Go.Sx.Ob

set_option linter.unusedVariables false
set_option linter.unusedSimpArgs false
set_option maxRecDepth 100000
namespace Go.Sx.Ob
open Go.Proofs
def enN (s : ByteArray) : List Value := [.string s]
abbrev SN (h : Hp) (b : Nat) (p : Option Addr) (l c : Nat) (xs : List ByteArray) : Prop := SL h b 9 1 p l c (xs.map enN)
theorem SN.len {h : Hp} {b : Nat} {p : Option Addr} {l c : Nat} {xs : List ByteArray} (s : SN h b p l c xs) : l = xs.length := by
  have := s.1
  rwa [List.length_map] at this
theorem SN.cell {h : Hp} {b : Nat} {p : Option Addr} {l c : Nat} {xs : List ByteArray} (s : SN h b p l c xs) {i : Nat} (hi : i < xs.length) : ∃ a, p = some a ∧ cellsAt h (a.add (i * 1)) 0 [.string xs[i]] := by
  obtain ⟨a, ha, hc⟩ := SL.cells s (i := i) (by rw [List.length_map]; exact hi)
  refine ⟨a, ha, ?_⟩
  rw [List.getElem_map] at hc
  exact hc
theorem anyT (D : List ByteArray) (s : ByteArray) (i : Nat) (hi : i < D.length) : inN (D.take (i + 1)) s = (inN (D.take i) s || decide (D[i] = s)) := by
  unfold inN
  rw [List.take_succ_eq_append_getElem hi, List.any_append]
  simp
theorem has_hc {h : Hp} {b : Nat} {p : Option Addr} {l c : Nat} {xs : List ByteArray} (v : SN h b p l c xs) (hl : xs.length ≤ 2 ^ 61) (s : ByteArray) : HCp Tryz.prog 47 [.slice p l c, .string s] h (.bool (inN xs s)) := by
  refine hcp_of mixed Tryz.func47 (by kernel_rfl) (t_spandrelref9_Has_eq p l c s) ?_
  unfold t_spandrelref9_Has
  have n := SN.len v
  refine loop_of (cs := [(false, [.bool]), (false, [.int .i64])]) (fun y m h' => ∃ i : Nat, y.2.1 = (i : Int) ∧ m = xs.length - i ∧ i ≤ xs.length ∧ h' = h ∧ inN (xs.take i) s = false) (false, (0 : Int), ()) xs.length rfl
    ⟨0, rfl, rfl, by omega, rfl, rfl⟩ ?_
  rintro ⟨b2, n3, ⟨⟩⟩ m h' ⟨i, hi, rfl, hle, rfl, hn⟩
  simp only at hi
  subst hi
  dsimp only [flat, unc, unc1, List.nil_append, List.cons_append]
  refine cond_mk (fun q => ?_) (fun q => ?_)
  · have q := of_decide_eq_true q
    have hil : i < xs.length := by omega
    obtain ⟨a, ha, hc⟩ := SN.cell v hil
    refine need_of ⟨by omega, by omega⟩ (osome_mk ha ?_)
    rw [show Int.toNat (i : Int) = i by omega]
    refine loads_of (xs[i], ()) hc ?_
    dsimp only [flat, unc, unc1, List.nil_append, List.cons_append]
    have hs := anyT xs s i hil
    rw [beqL]
    refine cond_mk (fun r => ?_) (fun r => ?_)
    · have r := of_decide_eq_true r
      refine ⟨congrArg Value.bool ?_, rfl⟩
      unfold inN
      exact (List.any_eq_true.2 ⟨_, List.getElem_mem hil, decide_eq_true r⟩).symm
    · rw [hn, r] at hs
      refine again_mk (cs := [(false, [.bool]), (false, [.int .i64])]) (b2, ((i + 1 : Nat) : Int), ()) (xs.length - (i + 1)) rfl (by omega) (by rw [wrap_i64 (by omega) (by omega)]; rfl) ?_
      exact ⟨i + 1, rfl, rfl, by omega, rfl, hs⟩
  · have q := of_decide_eq_false q
    have : i = xs.length := by omega
    subst this
    rw [List.take_length] at hn
    exact ⟨by rw [hn], rfl⟩
def labs (l : List Itm) : List ByteArray := (l.filter fun x => decide (x.kind = 1)).map (·.name)
theorem labs_take (l : List Itm) (i : Nat) (hi : i < l.length) : labs (l.take (i + 1)) = labs (l.take i) ++ if l[i].kind = 1 then [l[i].name] else [] := by
  unfold labs
  rw [List.take_succ_eq_append_getElem hi, List.filter_append, List.map_append]
  congr 1
  by_cases hk : l[i].kind = 1 <;> simp [hk]
theorem SN.push {L : Lp} {K : Value → Hp → Prop} {h : Hp} {b : Nat} {p : Option Addr} {l c : Nat} {xs : List ByteArray} (v : SN h b p l c xs) (x : ByteArray) (hl : xs.length ≤ 2 ^ 40) (hb : b ≤ h.size) {k : Option Addr → Nat → Nat → T}
    (hk : ∀ p' c' h', SN h' b p' (l + 1) c' (xs ++ [x]) → Ch (blkOf p) h h' → k p' (l + 1) c' L K h') :
    T.sem Tryz.prog (Instr.buildSlice 26 1 #[(0, .string x)]) false [(false, [.slice 0])] (fun q m cc => T.sem Tryz.prog (Builtin.append_ #[26, 26] 26 #[.slice p l c, .slice q m cc]) false [(false, [.slice 0])] k) L K h := by
  have n := SN.len v
  refine push_of (vs := [.string x]) und28 strZ rfl (by omega) (by omega) (by kernel_rfl) rfl rfl v hb (by omega) (by omega) ?_
  intro p' c' h' s' ch _
  refine hk p' c' h' ?_ ch
  unfold SN
  rw [List.map_append]
  exact s'
theorem SN.ext {h a b' : Hp} {b : Nat} {p : Option Addr} {l c : Nat} {xs : List ByteArray} (e : Ext h a) (v : SN a b p l c xs) (hb : h.size ≤ b) (k : Ch (blkOf p) a b') : Ext h b' :=
  Ch.trans e k (fun i hi hl => by have := (Ob.SL.blk v i hi).1; omega)
theorem labels_hc {h : Hp} {p : Option Addr} {l c : Nat} {us : List Itm} (v : VwI h p l us) (hm : us.length ≤ 2 ^ 20) :
    HC Tryz.prog 80 #[.slice p l c] h fun w h' => ∃ p' l' c', w = .slice p' l' c' ∧ SN h' h.size p' l' c' (labs us) ∧ Ext h h' := by
  refine hcr_of (args := [.slice p l c]) mixed Tryz.func80 (by kernel_rfl) (t_spandrelref9_labels_eq p l c) ?_
  unfold t_spandrelref9_labels
  have n := v.len
  refine loop_of (cs := [(false, [.slice 0]), (false, [.int .i64])]) (fun y m h' => ∃ i : Nat, y.2.1 = (i : Int) ∧ m = us.length - i ∧ i ≤ us.length ∧ Ext h h' ∧ (labs (us.take i)).length ≤ i ∧ SN h' h.size y.1.1 y.1.2.1 y.1.2.2 (labs (us.take i))) ((none, 0, 0), (0 : Int), ()) us.length rfl
    ⟨0, rfl, rfl, by omega, Ch.refl _ _, by simp [labs], SL.nil _ _ _ _⟩ ?_
  rintro ⟨⟨p1, l2, l3⟩, n4, ⟨⟩⟩ m h1 ⟨i, hi, rfl, hle, e1, hll, s⟩
  simp only at hi s
  subst hi
  dsimp only [flat, unc, unc1, List.nil_append, List.cons_append]
  have hz := e1.size
  refine cond_mk (fun q => ?_) (fun q => ?_)
  · have q := of_decide_eq_true q
    have hil : i < us.length := by omega
    obtain ⟨aa, pp, ll, cc, rfl', hc, va⟩ := (v.keep e1).cells i hil
    have ht := labs_take us i hil
    generalize us[i] = x at hc va ht
    refine need_of ⟨by omega, by omega⟩ (osome_mk rfl' ?_)
    rw [show Int.toNat (i : Int) = i by omega]
    refine loads_of (x.kind, ()) ⟨hc.1, trivial⟩ ?_
    dsimp only [flat, unc, unc1, List.nil_append, List.cons_append]
    refine cond_mk (fun r => ?_) (fun r => ?_)
    · have r : x.kind = 1 := by simpa using r
      rw [if_pos r] at ht
      refine need_of ⟨by omega, by omega⟩ (osome_mk rfl' ?_)
      refine loads_of (x.name, ()) ⟨by rw [add_add]; exact hc.2.1, trivial⟩ ?_
      dsimp only [flat, unc, unc1, List.nil_append, List.cons_append]
      refine SN.push s x.name (by omega) (by omega) ?_
      intro p' c' h2 s2 k2
      refine again_mk (cs := [(false, [.slice 0]), (false, [.int .i64])]) ((p', l2 + 1, c'), ((i + 1 : Nat) : Int), ()) (us.length - (i + 1)) rfl (by omega) (by rw [wrap_i64 (by omega) (by omega)]; rfl) ?_
      exact ⟨i + 1, rfl, rfl, by omega, SN.ext e1 s (Nat.le_refl _) k2, by rw [ht, List.length_append]; simp; omega, by rw [ht]; exact s2⟩
    · have r : ¬ x.kind = 1 := by simpa using r
      rw [if_neg r, List.append_nil] at ht
      refine again_mk (cs := [(false, [.slice 0]), (false, [.int .i64])]) ((p1, l2, l3), ((i + 1 : Nat) : Int), ()) (us.length - (i + 1)) rfl (by omega) (by rw [wrap_i64 (by omega) (by omega)]; rfl) ?_
      exact ⟨i + 1, rfl, rfl, by omega, e1, by rw [ht]; omega, by rw [ht]; exact s⟩
  · have q := of_decide_eq_false q
    have : i = us.length := by omega
    subst this
    rw [List.take_length] at s
    exact ⟨p1, l2, l3, rfl, s, e1⟩
/-- append(l, m...) of names. -/
theorem appS_of {L : Lp} {K : Value → Hp → Prop} {h : Hp} {k : Option Addr → Nat → Nat → T} {b b' : Nat} {p : Option Addr} {l c : Nat} {xs : List ByteArray} (s : SN h b p l c xs) {q : Option Addr} {m d : Nat} {us : List ByteArray} (v : SN h b' q m d us)
    (hl : l + m ≤ 2 ^ 40) (hb : b ≤ h.size)
    (hk : ∀ p' c' h', SN h' b p' (l + m) c' (xs ++ us) → Ch (blkOf p) h h' → k p' (l + m) c' L K h') :
    T.sem Tryz.prog (Builtin.append_ #[26, 26] 26 #[.slice p l c, .slice q m d]) false [(false, [.slice 0])] k L K h := by
  obtain ⟨i, hi, hz, hsz, hby⟩ := inf_of strZ
  refine sem_slice ?_
  cases q with
  | none =>
    have h1 : us = [] := by
      have := v.2.2.2
      simpa using this
    have h0 : m = 0 := by have := SN.len v; rw [h1] at this; exact this
    have hd : d = 0 := v.2.2.1
    subst h0 h1 hd
    have hc0 : l ≤ c := by
      cases p with
      | none =>
        have h2 := s.2.2.2
        have h3 := s.1
        rw [h2] at h3
        simp at h3
        omega
      | some a =>
        obtain ⟨g, pre, rest, rfl, hbg, hlc, _⟩ := s.2.2
        exact hlc.1
    simp [Builtin.append_, semW_bind', semW_underlying und28, semW_sizeOf hi, cellsOf_info hi, Builtin.lenOf, Builtin.firstCells, hc0]
    have hfin : ∃ p' l' c', Value.slice p l c = .slice p' l' c' ∧ k p' l' c' L K h := ⟨p, l, c, rfl, by simpa using hk p c h (by simpa using s) (Ch.refl _ _)⟩
    cases p with
    | none => exact hfin
    | some a => exact hfin
  | some a =>
    have hc : cellsAt h a 0 (us.map enN).flatten := by
      obtain ⟨g, pre, rest, rfl, hbg, hlc, hbox, hr⟩ := v.2.2
      refine hbox.cells _ ?_
      rw [List.drop_left, List.take_left]
    have hpl : (us.map enN).flatten.all plainV = true := by
      rw [List.all_eq_true]
      intro x hx
      obtain ⟨y, hy, hxy⟩ := List.mem_flatten.1 hx
      obtain ⟨z, _, rfl⟩ := List.mem_map.1 hy
      rw [List.mem_singleton.1 hxy]
      rfl
    refine append_of und28 hi hz (by rw [hsz]; rfl) (by rw [hsz]; exact s) (ys := us.map enN) (by rw [List.length_map]; exact SN.len v) (fun y hy => ?_) hc hpl (by rw [hby]; omega) (by omega) hb ?_
    · obtain ⟨t, _, rfl⟩ := List.mem_map.1 hy
      rw [hsz]
      rfl
    · intro p' c' h' s' k' hp'
      rw [hsz, ← List.map_append] at s'
      exact ⟨_, _, _, rfl, hk p' c' h' s' k'⟩
def allN (u : Unt) : List ByteArray := labs u.text ++ labs u.data ++ u.equs.map (·.1)
theorem labs_len (l : List Itm) : (labs l).length ≤ l.length := by
  unfold labs
  rw [List.length_map]
  exact List.length_filter_le _ _
theorem all_hc {h : Hp} {a b c d : Sli} {u : Unt} (v : UntAt h a b c d u) (h1 : u.text.length ≤ 2 ^ 20) (h2 : u.data.length ≤ 2 ^ 20) (h3 : u.equs.length ≤ 2 ^ 20) :
    HC Tryz.prog 45 #[untV a b c d] h fun w h' => ∃ p' l' c', w = .slice p' l' c' ∧ SN h' h.size p' l' c' (allN u) ∧ Ext h h' := by
  refine hcr_of (args := [untV a b c d]) mixed Tryz.func45 (by kernel_rfl) (t_spandrelref9_All_eq a.p a.l a.c b.p b.l b.c c.p c.l c.c d.p d.l d.c) ?_
  unfold t_spandrelref9_All
  refine newB ?_
  intro g1 b1 e1 z1
  have b1 : Box g1 h.size 28 [a.v, b.v, c.v, d.v] := b1
  simp only [add_box]
  refine loads_box b1 ((a.p, a.l, a.c), ()) rfl ?_
  dsimp only [flat, unc, unc1, List.nil_append, List.cons_append]
  refine loads_box b1 ((b.p, b.l, b.c), ()) rfl ?_
  dsimp only [flat, unc, unc1, List.nil_append, List.cons_append]
  refine call_of (labels_hc (c := a.c) (v.text.keep e1) h1) ?_
  rintro _ g2 ⟨p8, l9, l10, rfl, s8, e2⟩
  refine ⟨((p8, l9, l10), ()), rfl, ?_⟩
  dsimp only [flat, unc, unc1, List.nil_append, List.cons_append]
  have b2 := b1.keep e2 (by simp)
  refine ⟨⟨b2.cells _ rfl, trivial⟩, ?_⟩
  refine call_of (labels_hc (c := b.c) (v.data.keep (e1.trans e2)) h2) ?_
  rintro _ g3 ⟨p11, l12, l13, rfl, s11, e3⟩
  refine ⟨((p11, l12, l13), ()), rfl, ?_⟩
  dsimp only [flat, unc, unc1, List.nil_append, List.cons_append]
  have b3 := b2.keep e3 (by simp)
  have q1 := e1.size
  have q2 := e2.size
  have q3 := e3.size
  refine ⟨⟨b3.cells _ rfl, trivial⟩, ?_⟩
  have s8' : SN g3 g1.size p8 l9 l10 (labs u.text) := s8.keep e3 (by simp)
  have n8 := SN.len s8
  have n11 := SN.len s11
  have k8 := labs_len u.text
  have k11 := labs_len u.data
  have e03 := (e1.trans e2).trans e3
  refine appS_of s8' s11 (by omega) (by omega) ?_
  intro p14 c14 g4 s14 k4
  have e4 := SN.ext e03 s8' (by omega) k4
  have nb : h.size ∉ blkOf p8 := fun hi => by have := (Ob.SL.blk s8' _ hi).1; omega
  have b4 := b3.keep k4 nb
  refine ⟨⟨b4.cells _ rfl, b4.cells _ rfl, trivial⟩, ?_⟩
  have nc := v.equs.len
  have hu : ∀ i, i < u.equs.length → labs u.text ++ labs u.data ++ (u.equs.take (i + 1)).map (·.1) = (labs u.text ++ labs u.data ++ (u.equs.take i).map (·.1)) ++ [(u.equs.getD i (nam0, lin0)).1] := by
    intro i hi
    rw [List.take_succ_eq_append_getElem hi, List.map_append, ← List.append_assoc, List.getD_eq_getElem?_getD, List.getElem?_eq_getElem hi]
    rfl
  refine loop_of (cs := [(false, [.slice 0]), (false, [.int .i64])]) (fun y m h' => ∃ i : Nat, y.2.1 = (i : Int) ∧ m = u.equs.length - i ∧ i ≤ u.equs.length ∧ (Ext h h' ∧ g1.size ≤ h'.size) ∧ Box h' h.size 28 [a.v, b.v, c.v, d.v] ∧ SN h' g1.size y.1.1 y.1.2.1 y.1.2.2 (labs u.text ++ labs u.data ++ (u.equs.take i).map (·.1))) ((p14, l9 + l12, c14), (0 : Int), ()) u.equs.length rfl
    ⟨0, rfl, rfl, by omega, ⟨e4, by have := k4.size; omega⟩, b4, by simpa using s14⟩ ?_
  rintro ⟨⟨p1, l2, l3⟩, n4, ⟨⟩⟩ m g5 ⟨i, hi, rfl, hle, ⟨e5, z5⟩, b5, s⟩
  simp only at hi s
  subst hi
  dsimp only [flat, unc, unc1, List.nil_append, List.cons_append]
  have hz := e5.size
  refine loads_box b5 ((c.p, c.l, c.c), ()) rfl ?_
  dsimp only [flat, unc, unc1, List.nil_append, List.cons_append]
  refine cond_mk (fun q => ?_) (fun q => ?_)
  · have q := of_decide_eq_true q
    have hil : i < u.equs.length := by omega
    refine loads_box b5 ((c.p, c.l, c.c), ()) rfl ?_
    dsimp only [flat, unc, unc1, List.nil_append, List.cons_append]
    obtain ⟨aa, pp, ll, cc, rfl', hc, va, vn⟩ := (v.equs.keep e5).cells i hil
    refine need_of ⟨by omega, by omega⟩ (osome_mk rfl' ?_)
    rw [show Int.toNat (i : Int) = i by omega]
    refine loads_of (u.equs[i].1, ()) ⟨hc.1, trivial⟩ ?_
    dsimp only [flat, unc, unc1, List.nil_append, List.cons_append]
    have ns := SN.len s
    have hg : (u.equs.getD i (nam0, lin0)).1 = u.equs[i].1 := by
      rw [List.getD_eq_getElem?_getD, List.getElem?_eq_getElem hil]
      rfl
    refine SN.push s _ (by simp only [List.length_append, List.length_map, List.length_take]; omega) z5 ?_
    intro p' c' h2 s2 k2
    have nb2 : h.size ∉ blkOf p1 := fun hi => by have := (Ob.SL.blk s _ hi).1; omega
    refine again_mk (cs := [(false, [.slice 0]), (false, [.int .i64])]) ((p', l2 + 1, c'), ((i + 1 : Nat) : Int), ()) (u.equs.length - (i + 1)) rfl (by omega) (by rw [wrap_i64 (by omega) (by omega)]; rfl) ?_
    exact ⟨i + 1, rfl, rfl, by omega, ⟨SN.ext e5 s (by omega) k2, by have := k2.size; omega⟩, b5.keep k2 nb2, by rw [hu i hil, hg]; exact s2⟩
  · have q := of_decide_eq_false q
    have : i = u.equs.length := by omega
    subst this
    rw [List.take_length] at s
    exact ⟨p1, l2, l3, rfl, Sx.SL.mono s (by omega), e5⟩
end Go.Sx.Ob

set_option linter.unusedVariables false
set_option linter.unusedSimpArgs false
set_option maxRecDepth 100000
namespace Go.Sx.Ob
open Go.Proofs
theorem cellsAt_names {h : Hp} {a : Addr} : ∀ (xs : List ByteArray) (k : Nat), (∀ i, (hi : i < xs.length) → cellsAt h (a.add ((k + i) * 1)) 0 [.string xs[i]]) → cellsAt h a k (xs.map enN).flatten
  | [], _, _ => trivial
  | x :: xs, k, hc => by
    refine ⟨?_, ?_⟩
    · have := (hc 0 (by simp)).1
      rw [add_add] at this
      simpa using this
    · refine cellsAt_names xs (k + 1) fun i hi => ?_
      have := hc (i + 1) (by simpa using hi)
      rw [show k + 1 + i = k + (i + 1) by omega]
      simpa using this
theorem VwS.flat {h : Hp} {a : Addr} {l : Nat} {xs : List ByteArray} (v : VwS h (some a) l xs) : cellsAt h a 0 (xs.map enN).flatten :=
  cellsAt_names xs 0 fun i hi => by
    obtain ⟨b, hb, hc, _⟩ := v.cells i hi
    cases hb
    rw [Nat.zero_add]
    exact hc
/-- append([]string{}, l...). -/
theorem appV_of {L : Lp} {K : Value → Hp → Prop} {h : Hp} {k : Option Addr → Nat → Nat → T} {b : Nat} {p : Option Addr} {c : Nat} (s : SL h b 9 1 p 0 c []) {q : Option Addr} {m d : Nat} {us : List ByteArray} (v : VwS h q m us)
    (hl : us.length ≤ 2 ^ 40) (hb : b ≤ h.size)
    (hk : ∀ p' c' h', SN h' b p' m c' us → Ch (blkOf p) h h' → k p' m c' L K h') :
    T.sem Tryz.prog (Builtin.append_ #[26, 26] 26 #[.slice p 0 c, .slice q m d]) false [(false, [.slice 0])] k L K h := by
  obtain ⟨i, hi, hz, hsz, hby⟩ := inf_of strZ
  have hlen := v.len
  refine sem_slice ?_
  cases q with
  | none =>
    have h1 : us = [] := by
      cases us with
      | nil => rfl
      | cons t us => obtain ⟨a, ha, _⟩ := v.cells 0 (by simp); cases ha
    have h0 : m = 0 := by rw [h1] at hlen; exact hlen
    subst h0 h1
    have hfin : ∃ p' l' c', Value.slice p 0 c = .slice p' l' c' ∧ k p' l' c' L K h := ⟨p, 0, c, rfl, hk p c h s (Ch.refl _ _)⟩
    cases p with
    | none =>
      have hc : c = 0 := s.2.2.1
      subst hc
      simp [Builtin.append_, semW_bind', semW_underlying und28, semW_sizeOf hi, Builtin.lenOf, Builtin.firstCells, storeCells]
      exact hfin
    | some a =>
      simp [Builtin.append_, semW_bind', semW_underlying und28, semW_sizeOf hi, Builtin.lenOf, Builtin.firstCells, storeCells]
      exact hfin
  | some a =>
    have hpl : (us.map enN).flatten.all plainV = true := by
      rw [List.all_eq_true]
      intro x hx
      obtain ⟨y, hy, hxy⟩ := List.mem_flatten.1 hx
      obtain ⟨z, _, rfl⟩ := List.mem_map.1 hy
      rw [List.mem_singleton.1 hxy]
      rfl
    refine append_of und28 hi hz (by rw [hsz]; rfl) (by rw [hsz]; exact s) (ys := us.map enN) (by rw [List.length_map]; exact hlen) (fun y hy => ?_) v.flat hpl (by rw [hby]; omega) (by omega) hb ?_
    · obtain ⟨t, _, rfl⟩ := List.mem_map.1 hy
      rw [hsz]
      rfl
    · intro p' c' h' s' k' hp'
      rw [hsz] at s'
      rw [Nat.zero_add] at s' ⊢
      exact ⟨_, _, _, rfl, hk p' c' h' s' k'⟩
/-- The boxes of CopyUnit. -/
structure CU (h0 : Hp) (a b c d : Sli) (h : Hp) : Prop where
  b1 : Box h h0.size 28 [a.v, b.v, c.v, d.v]
  b2 : Box h (h0.size + 1) 28 zU
  ext : Ext h0 h
section
variable {h0 h h' : Hp} {a b c d : Sli}
theorem CU.keep (s : CU h0 a b c d h) (e : Ext h h') : CU h0 a b c d h' := ⟨s.b1.keep e (by simp), s.b2.keep e (by simp), s.ext.trans e⟩
theorem CU.c0 (s : CU h0 a b c d h) : cellsAt h ⟨h0.size, 0, none⟩ 0 [a.v] := s.b1.cells _ rfl
theorem CU.c1 (s : CU h0 a b c d h) : cellsAt h (Addr.add ⟨h0.size, 0, none⟩ 1) 0 [b.v] := by rw [add_box]; exact s.b1.cells _ rfl
theorem CU.c3 (s : CU h0 a b c d h) : cellsAt h (Addr.add ⟨h0.size, 0, none⟩ 3) 0 [d.v] := by rw [add_box]; exact s.b1.cells _ rfl
theorem CU.sz (s : CU h0 a b c d h) : h0.size + 2 ≤ h.size := by have := s.b2.lt; omega
end
def copyT (a1 a24 a2 : Addr) : T :=
     T.loop [(false, [.int .i64])] [.int .i64 (0 : Int)] <| fun (n25 : Int) =>
     T.loads (a1.add 2) [.slice 78] <| fun (p26 : Option Addr) (l27 : Nat) (l28 : Nat) =>
     cond (decide (n25 < (l27 : Int)))
      (T.loads (a24.add 2) [.slice 78] <| fun (p29 : Option Addr) (l30 : Nat) (l31 : Nat) =>
      T.loads (a1.add 2) [.slice 78] <| fun (p32 : Option Addr) (l33 : Nat) (l34 : Nat) =>
      T.need (((0 : Int) ≤ n25) ∧ (n25 < (l33 : Int))) <|
      T.osome p32 <| fun (a35 : Addr) =>
      T.loads (a35.add ((Int.toNat n25) * 3)) [.string] <| fun (s36 : ByteArray) =>
      T.loads (a1.add 2) [.slice 78] <| fun (p37 : Option Addr) (l38 : Nat) (l39 : Nat) =>
      T.need (((0 : Int) ≤ n25) ∧ (n25 < (l38 : Int))) <|
      T.osome p37 <| fun (a40 : Addr) =>
      T.loads ((a40.add ((Int.toNat n25) * 3)).add 1) [.slice 104, .int .u32] <| fun (p41 : Option Addr) (l42 : Nat) (l43 : Nat) (n44 : Int) =>
      T.call Tryz.prog 36 [.agg #[.slice p41 l42 l43, .int .u32 n44]] false [(true, [.slice 104, .int .u32])] <| fun (p45 : Option Addr) (l46 : Nat) (l47 : Nat) (n48 : Int) =>
      T.stable [((a1.add 2), [.slice p37 l38 l39]), ((a35.add ((Int.toNat n25) * 3)), [.string s36]), ((a1.add 2), [.slice p32 l33 l34]), ((a24.add 2), [.slice p29 l30 l31])] <|
      T.sem Tryz.prog (Instr.buildSlice 25 1 #[(0, .agg #[.string s36, .slice p45 l46 l47, .int .u32 n48])]) false [(false, [.slice 0])] <| fun (p49 : Option Addr) (l50 : Nat) (l51 : Nat) =>
      T.stable [(((a40.add ((Int.toNat n25) * 3)).add 1), [.slice p41 l42 l43, .int .u32 n44]), ((a1.add 2), [.slice p37 l38 l39]), ((a35.add ((Int.toNat n25) * 3)), [.string s36]), ((a1.add 2), [.slice p32 l33 l34]), ((a24.add 2), [.slice p29 l30 l31])] <|
      T.sem Tryz.prog (Builtin.append_ #[25, 25] 25 #[.slice p29 l30 l31, .slice p49 l50 l51]) false [(false, [.slice 0])] <| fun (p52 : Option Addr) (l53 : Nat) (l54 : Nat) =>
      T.stable [(((a40.add ((Int.toNat n25) * 3)).add 1), [.slice p41 l42 l43, .int .u32 n44]), ((a1.add 2), [.slice p37 l38 l39]), ((a35.add ((Int.toNat n25) * 3)), [.string s36]), ((a1.add 2), [.slice p32 l33 l34])] <|
      T.stores (a24.add 2) [.slice p52 l53 l54] <|
      T.again 0 [.int .i64 (IntKind.wrap .i64 (n25 + (1 : Int)))])
      (T.loads a24 [.slice 102, .slice 102, .slice 78, .slice 9] <| fun (p29 : Option Addr) (l30 : Nat) (l31 : Nat) (p32 : Option Addr) (l33 : Nat) (l34 : Nat) (p35 : Option Addr) (l36 : Nat) (l37 : Nat) (p38 : Option Addr) (l39 : Nat) (l40 : Nat) =>
      T.stores a2 [.slice p29 l30 l31, .slice p32 l33 l34, .slice p35 l36 l37, .slice p38 l39 l40] <|
      T.loads a2 [.slice 102, .slice 102, .slice 78, .slice 9] <| fun (p41 : Option Addr) (l42 : Nat) (l43 : Nat) (p44 : Option Addr) (l45 : Nat) (l46 : Nat) (p47 : Option Addr) (l48 : Nat) (l49 : Nat) (p50 : Option Addr) (l51 : Nat) (l52 : Nat) =>
      T.ret (.agg #[.slice p41 l42 l43, .slice p44 l45 l46, .slice p47 l48 l49, .slice p50 l51 l52]))
/-- What CopyUnit comes to: lists of their own, of the same things. -/
def CopyR (u : Unt) (h : Hp) (w : Value) (h' : Hp) : Prop :=
  (∃ (a b c d : Sli) (wT wD : List (Sli × Itm)) (wE : List (Sli × Eqn)), w = untV a b c d ∧ LcI h' h.size a.p a.l a.c wT ∧ LcI h' h.size b.p b.l b.c wD ∧ LcE h' h.size c.p c.l c.c wE ∧ SN h' h.size d.p d.l d.c u.globs ∧ wT.map (·.2) = u.text ∧ wD.map (·.2) = u.data ∧ wE.map (·.2) = u.equs) ∧ Ext h h'
theorem copyT_ok {h0 h1 : Hp} {a b c d : Sli} {u : Unt} (v : VwE h0 c.p c.l u.equs) (hl : u.equs.length ≤ 2 ^ 20) (htl : ∀ e, e ∈ u.equs → e.2.terms.length ≤ 2 ^ 40) (s : CU h0 a b c d h1) {g : Nat} {A B D : Sli} {wT wD : List (Sli × Itm)} (hg : h0.size + 2 ≤ g) (bg : Box h1 g 28 [A.v, B.v, sl0.v, D.v])
    (lT : LcI h1 (h0.size + 2) A.p A.l A.c wT) (lD : LcI h1 (h0.size + 2) B.p B.l B.c wD) (lS : SN h1 (h0.size + 2) D.p D.l D.c u.globs) (eT : wT.map (·.2) = u.text) (eD : wD.map (·.2) = u.data) :
    copyT ⟨h0.size, 0, none⟩ ⟨g, 0, none⟩ ⟨h0.size + 1, 0, none⟩ [] (CopyR u h0) h1 := by
  unfold copyT
  have hll := v.len
  have hgl := bg.lt
  have hsz := s.sz
  simp only [add_box]
  refine loop_of (cs := [(false, [.int .i64])]) (fun x w h' => ∃ (i : Nat) (C : Sli) (ws : List (Sli × Eqn)), x.1 = (i : Int) ∧ i ≤ u.equs.length ∧ w = u.equs.length - i ∧ Ch [g] h1 h' ∧ Box h' g 28 [A.v, B.v, C.v, D.v] ∧ LcE h' h1.size C.p C.l C.c ws ∧ ws.map (·.2) = u.equs.take i)
    ((0 : Int), ()) u.equs.length rfl ⟨0, sl0, [], rfl, by omega, by omega, Ch.refl _ _, bg, Ls.nil _ _, rfl⟩ ?_
  rintro ⟨n25, ⟨⟩⟩ w h2 ⟨i, C, ws, hi0, hile, rfl, k2, b2, own, hws⟩
  simp only at hi0
  subst hi0
  dsimp only [flat, unc, unc1, List.nil_append, List.cons_append]
  have e02 : Ext h0 h2 := Ch.trans s.ext k2 (fun j hj hl => by simp at hj; omega)
  have hz2 := k2.size
  have ba := s.b1.keep k2 (by simp; omega)
  have bb := s.b2.keep k2 (by simp; omega)
  refine loads_box ba ((c.p, c.l, c.c), ()) rfl ?_
  dsimp only [flat, unc, unc1, List.nil_append, List.cons_append]
  refine cond_mk (fun g1 => ?_) (fun g1 => ?_)
  · have g1 := of_decide_eq_true g1
    have hilt : i < u.equs.length := by omega
    refine loads_box b2 ((C.p, C.l, C.c), ()) rfl ?_
    dsimp only [flat, unc, unc1, List.nil_append, List.cons_append]
    refine loads_box ba ((c.p, c.l, c.c), ()) rfl ?_
    dsimp only [flat, unc, unc1, List.nil_append, List.cons_append]
    obtain ⟨aa, pp, ll, cc, ha, hc0, va0, vn0⟩ := v.cells i hilt
    have htk : u.equs.take (i + 1) = u.equs.take i ++ [u.equs[i]] := List.take_succ_eq_append_getElem hilt
    have htl := htl u.equs[i] (List.getElem_mem hilt)
    generalize u.equs[i] = e at hc0 va0 vn0 htk htl
    have hat : ∀ h', Ext h2 h' → cellsAt h' (aa.add (i * 3)) 0 (encE pp ll cc e) := fun h' x => cellsAt_keep (e02.trans x) (by simp) _ _ hc0
    have hst1 : ∀ h', Ext h2 h' → cellsAt h' (aa.add (i * 3)) 0 [.string e.1] := fun h' x => ⟨(hat h' x).1, trivial⟩
    have hst2 : ∀ h', Ext h2 h' → cellsAt h' ((aa.add (i * 3)).add 1) 0 [.slice pp ll cc, .int .u32 (e.2.num : Int)] := fun h' x => ⟨by rw [add_add]; exact (hat h' x).2.1, by rw [add_add]; exact (hat h' x).2.2.1, trivial⟩
    refine need_of ⟨by omega, by omega⟩ (osome_mk ha ?_)
    rw [show Int.toNat (i : Int) = i by omega]
    refine loads_of (e.1, ()) (hst1 h2 (Ch.refl _ _)) ?_
    dsimp only [flat, unc, unc1, List.nil_append, List.cons_append]
    refine loads_box ba ((c.p, c.l, c.c), ()) rfl ?_
    dsimp only [flat, unc, unc1, List.nil_append, List.cons_append]
    refine need_of ⟨by omega, by omega⟩ (osome_mk ha ?_)
    refine loads_of ((pp, ll, cc), (e.2.num : Int), ()) (hst2 h2 (Ch.refl _ _)) ?_
    dsimp only [flat, unc, unc1, List.nil_append, List.cons_append]
    refine call_of (copyLin_hc (x := e.2) (c := cc) (va0.keep e02).vw htl) ?_
    rintro _ h3 ⟨⟨pc, lc, ccc, rfl, sc⟩, e3⟩
    refine ⟨((pc, lc, ccc), (e.2.num : Int), ()), rfl, ?_⟩
    dsimp only [flat, unc, unc1, List.nil_append, List.cons_append]
    have own3 := own.keep e3 (by simp)
    have st : ∀ h', Ext h2 h' → cellsAt h' ⟨h0.size, 0 + 2, none⟩ 0 [.slice c.p c.l c.c] := fun h' x => (ba.keep x (by simp)).cells _ rfl
    have st' : ∀ h', Ext h2 h' → cellsAt h' ⟨g, 0 + 2, none⟩ 0 [.slice C.p C.l C.c] := fun h' x => (b2.keep x (by simp)).cells _ rfl
    refine ⟨⟨st h3 e3, hst1 h3 e3, st h3 e3, st' h3 e3, trivial⟩, ?_⟩
    have hwl : ws.length = i := by have := congrArg List.length hws; simp at this; omega
    have hol := own.len
    have hz3 := e3.size
    refine push_st (vs := encE pc lc ccc e) und27 equZ rfl (by omega) (by omega) (by kernel_rfl) rfl rfl own3.sl (by omega) (by omega) (by omega) (fun h' x => ⟨hst2 h' (e3.trans x), st h' (e3.trans x), hst1 h' (e3.trans x), st h' (e3.trans x), st' h' (e3.trans x), trivial⟩) ?_
    intro p5 c5 h5 s5 k5 hp5
    have hbb := Ob.SL.blk own3.sl
    have e25 : Ext h0 h5 := Ch.trans (e02.trans e3) k5 (fun j hj hl => by have := (hbb _ hj).1; omega)
    have c05 : cellsAt h5 (aa.add (i * 3)) 0 (encE pp ll cc e) := cellsAt_keep e25 (by simp) _ _ hc0
    have ba5 := (ba.keep e3 (by simp)).keep k5 (fun hj => by have := (hbb _ hj).1; omega)
    refine ⟨⟨⟨by rw [add_add]; exact c05.2.1, by rw [add_add]; exact c05.2.2.1, trivial⟩, ba5.cells _ rfl, ⟨c05.1, trivial⟩, ba5.cells _ rfl, trivial⟩, ?_⟩
    have b5 := (b2.keep e3 (by simp)).keep k5 (fun hj => by have := (hbb _ hj).1; omega)
    refine stores_of b5 rfl (by simp) ?_
    intro h6 b6 k6 z6
    have b6 : Box h6 g 28 [A.v, B.v, (⟨p5, C.l + 1, c5⟩ : Sli).v, D.v] := b6
    rw [wrap_i64 (by omega) (by omega)]
    refine again_mk (cs := [(false, [.int .i64])]) (((i + 1 : Nat) : Int), ()) (u.equs.length - (i + 1)) rfl (by omega) rfl ⟨i + 1, ⟨p5, C.l + 1, c5⟩, ws ++ [((⟨pc, lc, ccc⟩ : Sli), e)], rfl, by omega, rfl, ?_, b6, ?_, by rw [List.map_append, hws, htk]; rfl⟩
    · exact Ch.trans (Ch.trans (Ch.trans k2 e3 (by simp)) k5 (fun j hj hl => by have := (hbb _ hj).1; omega)) k6 (fun j hj _ => hj)
    · have l5 : LcE h5 h1.size p5 (C.l + 1) c5 (ws ++ [((⟨pc, lc, ccc⟩ : Sli), e)]) := by
        refine ⟨by rw [List.map_append]; exact s5, fun x hx => ?_, fun _ _ => trivial⟩
        rcases List.mem_append.1 hx with hx | hx
        · exact SL.keepU (own3.own x hx) k5 (Ob.SL.boxU own3.sl) (by decide)
        · rw [List.mem_singleton.1 hx]
          exact SL.keepU (Sx.SL.mono sc (by omega)) k5 (Ob.SL.boxU own3.sl) (by decide)
      exact l5.keep k6 (fun j hj _ => by simp at hj; omega)
  · have g1 := of_decide_eq_false g1
    have htk : u.equs.take i = u.equs := List.take_of_length_le (by omega)
    rw [htk] at hws
    refine loads_box b2 ((A.p, A.l, A.c), (B.p, B.l, B.c), (C.p, C.l, C.c), (D.p, D.l, D.c), ()) rfl ?_
    dsimp only [flat, unc, unc1, List.nil_append, List.cons_append]
    refine stores_of bb rfl (by simp [zU]) ?_
    intro h3 b3 k3 z3
    have b3 : Box h3 (h0.size + 1) 28 [A.v, B.v, C.v, D.v] := b3
    refine loads_box b3 ((A.p, A.l, A.c), (B.p, B.l, B.c), (C.p, C.l, C.c), (D.p, D.l, D.c), ()) rfl ?_
    have hw : ∀ (e : TypeId), e ≠ 28 → ∀ i, i ∈ [g] → i < h1.size → i < h0.size + 2 ∨ ∃ e' ys, Box h1 i e' ys ∧ e' ≠ e ∧ e' ≠ 104 := fun e he i hi _ => by
      rw [List.mem_singleton.1 hi]
      exact .inr ⟨28, _, bg, fun e => he e.symm, by decide⟩
    have hk3 : ∀ i, i ∈ [(⟨h0.size + 1, 0, none⟩ : Addr).block] → i < h2.size → i < h0.size + 2 := fun i hi _ => by simp at hi; omega
    have lS2 : SN h2 (h0.size + 2) D.p D.l D.c u.globs := SL.keepU lS k2 (e' := 28) (fun i hi => by rw [List.mem_singleton.1 hi]; exact ⟨_, bg⟩) (by decide)
    exact ⟨⟨A, B, C, D, wT, wD, ws, rfl, ((Ls.keepW lT k2 (hw _ (by decide))).keep k3 hk3).mono (by omega), ((Ls.keepW lD k2 (hw _ (by decide))).keep k3 hk3).mono (by omega), (own.keep k3 (fun i hi _ => by simp at hi; omega)).mono (by omega), Sx.SL.mono (SL.keepN lS2 k3 hk3) (by omega), eT, eD, hws⟩, Ch.trans e02 k3 (fun j hj hl => by simp at hj; omega)⟩
end Go.Sx.Ob

set_option linter.unusedVariables false
set_option linter.unusedSimpArgs false
set_option maxRecDepth 100000
namespace Go.Sx.Ob
open Go.Proofs
/-- Blocks of names alone turn. -/
def Zk (h0 h h' : Hp) : Prop := ∃ ws, Ch ws h h' ∧ ∀ i, i ∈ ws → h0.size + 2 ≤ i ∧ ∃ ys, Box h i 9 ys
theorem boxKeepZ {h0 h h' : Hp} {g : Nat} {xs : List Value} (b : Box h g 28 xs) (z : Zk h0 h h') : Box h' g 28 xs := by
  obtain ⟨ws, k, hw⟩ := z
  refine b.keep k (fun hm => ?_)
  obtain ⟨_, ys, b2⟩ := hw g hm
  unfold Box at b b2
  rw [b] at b2
  simp at b2
theorem lcKeepZ {h0 h h' : Hp} {b : Nat} {p : Option Addr} {l c : Nat} {ws : List (Sli × Itm)} (s : LcI h b p l c ws) (z : Zk h0 h h') : LcI h' b p l c ws := by
  obtain ⟨vs, k, hw⟩ := z
  refine Ls.keepW s k (fun i hi _ => ?_)
  obtain ⟨_, ys, b2⟩ := hw i hi
  exact .inr ⟨9, ys, b2, by decide, by decide⟩
theorem CU.keepZ {h0 h h' : Hp} {a b c d : Sli} (s : CU h0 a b c d h) (z : Zk h0 h h') : CU h0 a b c d h' := by
  obtain ⟨vs, k, hw⟩ := z
  exact ⟨s.b1.keep k (fun hm => by have := (hw _ hm).1; omega), s.b2.keep k (fun hm => by have := (hw _ hm).1; omega), Ch.trans s.ext k (fun i hi hl => by have := (hw i hi).1; omega)⟩
section
variable {L : Lp} {K : Value → Hp → Prop} {h0 h : Hp}
theorem itemsZ_of (hz : h0.size + 2 ≤ h.size) {p : Option Addr} {l c : Nat} {us : List Itm} (v : VwI h p l us) (hn : us.length ≤ 2 ^ 20) (ht : ∀ x, x ∈ us → x.e.terms.length ≤ 2 ^ 40) {k : Option Addr → Nat → Nat → T}
    (hk : ∀ p' c' h' ws, LcI h' (h0.size + 2) p' l c' ws → ws.map (·.2) = us → Ext h h' → k p' l c' L K h') : T.call Tryz.prog 35 [.slice p l c] false [(false, [.slice 102])] k L K h := by
  refine call_of (copyItems_hc v hn ht) ?_
  rintro _ h' ⟨⟨p', c', ws, rfl, ls, hw⟩, e⟩
  exact ⟨((p', l, c'), ()), rfl, hk p' c' h' ws (ls.mono hz) hw e⟩
theorem litZ_of (hz : h0.size + 2 ≤ h.size) {k : Option Addr → Nat → Nat → T} (hk : ∀ p h', SL h' (h0.size + 2) 9 1 p 0 0 [] → Ext h h' → k p 0 0 L K h') : T.sem Tryz.prog (Instr.buildSlice 26 0 #[]) false [(false, [.slice 0])] k L K h :=
  lit0_of und28 strZ fun h' s e => hk _ h' (Sx.SL.mono s hz) e
theorem appZ_of (hz : h0.size + 2 ≤ h.size) {p : Option Addr} {c : Nat} (s : SL h (h0.size + 2) 9 1 p 0 c []) {q : Option Addr} {m d : Nat} {us : List ByteArray} (v : VwS h q m us) (hl : us.length ≤ 2 ^ 40) {k : Option Addr → Nat → Nat → T}
    (hk : ∀ p' c' h', SN h' (h0.size + 2) p' m c' us → Zk h0 h h' → k p' m c' L K h') : T.sem Tryz.prog (Builtin.append_ #[26, 26] 26 #[.slice p 0 c, .slice q m d]) false [(false, [.slice 0])] k L K h :=
  appV_of s v hl hz fun p' c' h' s' k' => hk p' c' h' s' ⟨_, k', fun i hi => ⟨(Ob.SL.blk s i hi).1, Ob.SL.boxU s i hi⟩⟩
theorem newG {a b c d : Sli} (s : CU h0 a b c d h) {k : Addr → T} (hk : ∀ h' g, Box h' g 28 zU → h0.size + 2 ≤ g → Ext h h' → k ⟨g, 0, none⟩ L K h') : T.new [.slice none 0 0, .slice none 0 0, .slice none 0 0, .slice none 0 0] 28 k L K h :=
  newB fun h' b e z => hk h' h.size b s.sz e
end
theorem leafZ {h0 h1 : Hp} {a b c d : Sli} {u : Unt} (v : UntAt h0 a b c d u) (hE : u.equs.length ≤ 2 ^ 20) (tE : ∀ e, e ∈ u.equs → e.2.terms.length ≤ 2 ^ 40) (s : CU h0 a b c d h1) {g : Nat} (bg : Box h1 g 28 zU) (hg : h0.size + 2 ≤ g) {A B D : Sli} {wT wD : List (Sli × Itm)}
    (lT : LcI h1 (h0.size + 2) A.p A.l A.c wT) (lD : LcI h1 (h0.size + 2) B.p B.l B.c wD) (lS : SN h1 (h0.size + 2) D.p D.l D.c u.globs) (eT : wT.map (·.2) = u.text) (eD : wD.map (·.2) = u.data) :
    T.stores ⟨g, 0, none⟩ [.slice A.p A.l A.c, .slice B.p B.l B.c, .slice none 0 0, .slice D.p D.l D.c] (copyT ⟨h0.size, 0, none⟩ ⟨g, 0, none⟩ ⟨h0.size + 1, 0, none⟩) [] (CopyR u h0) h1 := by
  refine stores_of bg rfl (by simp [zU]) ?_
  intro h9 b9 k9 z9
  have b9 : Box h9 g 28 [A.v, B.v, sl0.v, D.v] := b9
  have hw : ∀ (e : TypeId), e ≠ 28 → ∀ i, i ∈ [(⟨g, 0, none⟩ : Addr).block] → i < h1.size → i < h0.size + 2 ∨ ∃ e' ys, Box h1 i e' ys ∧ e' ≠ e ∧ e' ≠ 104 := fun e he i hi _ => by
    rw [List.mem_singleton.1 hi]
    exact .inr ⟨28, _, bg, fun e => he e.symm, by decide⟩
  have s9 : CU h0 a b c d h9 := ⟨s.b1.keep k9 (by simp; omega), s.b2.keep k9 (by simp; omega), Ch.trans s.ext k9 (fun i hi hl => by simp at hi; omega)⟩
  exact copyT_ok v.equs hE tE s9 hg b9 (Ls.keepW lT k9 (hw _ (by decide))) (Ls.keepW lD k9 (hw _ (by decide))) (SL.keepU lS k9 (e' := 28) (fun i hi => by rw [List.mem_singleton.1 hi]; exact ⟨_, bg⟩) (by decide)) eT eD
theorem copyUnit_hc {h : Hp} {a b c d : Sli} {u : Unt} (v : UntAt h a b c d u) (hT : u.text.length ≤ 2 ^ 20) (hD : u.data.length ≤ 2 ^ 20) (hE : u.equs.length ≤ 2 ^ 20) (hS : u.globs.length ≤ 2 ^ 40)
    (tT : ∀ x, x ∈ u.text → x.e.terms.length ≤ 2 ^ 40) (tD : ∀ x, x ∈ u.data → x.e.terms.length ≤ 2 ^ 40) (tE : ∀ e, e ∈ u.equs → e.2.terms.length ≤ 2 ^ 40) :
    HC Tryz.prog 13 #[untV a b c d] h (CopyR u h) := by
  refine hcr_of (args := [untV a b c d]) mixed Tryz.func13 (by kernel_rfl) (t_spandrelkeep_CopyUnit_eq a.p a.l a.c b.p b.l b.c c.p c.l c.c d.p d.l d.c) ?_
  unfold t_spandrelkeep_CopyUnit
  refine newB ?_
  intro h1 b1 e1 z1
  refine newB ?_
  intro h2 b2 e2 z2
  rw [z1] at b2
  rw [show (⟨h1.size, 0, none⟩ : Addr) = ⟨h.size + 1, 0, none⟩ by rw [z1]]
  have s : CU h a b c d h2 := ⟨b1.keep e2 (by simp), b2, e1.trans e2⟩
  refine loads_of ((a.p, a.l, a.c), ()) s.c0 ?_
  dsimp only [flat, unc, unc1, List.nil_append, List.cons_append]
  refine loads_of ((b.p, b.l, b.c), ()) s.c1 ?_
  dsimp only [flat, unc, unc1, List.nil_append, List.cons_append]
  refine loads_of ((d.p, d.l, d.c), ()) s.c3 ?_
  dsimp only [flat, unc, unc1, List.nil_append, List.cons_append]
  refine ⟨?_, ?_, ?_, trivial⟩
  · refine itemsZ_of s.sz (v.text.keep s.ext) hT tT ?_
    intro pT cT h1 wT lT eT e1
    have s := s.keep e1
    refine ⟨⟨s.c3, s.c1, trivial⟩, ?_⟩
    refine ⟨?_, ?_, ?_, trivial⟩
    · refine itemsZ_of s.sz (v.data.keep s.ext) hD tD ?_
      intro pD cD h2 wD lD eD e2
      have s := s.keep e2
      have lT := lT.keep e2 (by simp)
      refine ⟨⟨s.c3, s.c0, trivial⟩, ?_⟩
      refine ⟨?_, ?_, trivial⟩
      · refine litZ_of s.sz ?_
        intro pz h3 sl e3
        have s := s.keep e3
        have lT := lT.keep e3 (by simp)
        have lD := lD.keep e3 (by simp)
        refine ⟨⟨s.c3, s.c1, s.c0, trivial⟩, ?_⟩
        refine ⟨?_, ?_, trivial⟩
        · refine appZ_of s.sz sl (v.globs.keep s.ext) hS ?_
          intro pS cS h4 lS k4
          have s := s.keepZ k4
          have lT := lcKeepZ lT k4
          have lD := lcKeepZ lD k4
          refine ⟨⟨s.c1, s.c0, trivial⟩, ?_⟩
          refine newG s ?_
          intro h5 g bx hg e5
          have s := s.keep e5
          have lT := lT.keep e5 (by simp)
          have lD := lD.keep e5 (by simp)
          have lS := lS.keep e5 (by simp)
          refine ⟨⟨s.c3, s.c1, s.c0, trivial⟩, ?_⟩
          exact leafZ (A := ⟨pT, a.l, cT⟩) (B := ⟨pD, b.l, cD⟩) (D := ⟨pS, d.l, cS⟩) v hE tE s bx hg lT lD lS eT eD
        · refine newG s ?_
          intro h7 g bx hg e7
          have s := s.keep e7
          have sl := sl.keep e7 (by simp)
          have lT := lT.keep e7 (by simp)
          have lD := lD.keep e7 (by simp)
          refine ⟨⟨s.c3, s.c1, s.c0, trivial⟩, ?_⟩
          refine appZ_of s.sz sl (v.globs.keep s.ext) hS ?_
          intro pS cS h8 lS k8
          have s := s.keepZ k8
          have bx := boxKeepZ bx k8
          have lT := lcKeepZ lT k8
          have lD := lcKeepZ lD k8
          refine ⟨⟨s.c1, s.c0, trivial⟩, ?_⟩
          exact leafZ (A := ⟨pT, a.l, cT⟩) (B := ⟨pD, b.l, cD⟩) (D := ⟨pS, d.l, cS⟩) v hE tE s bx hg lT lD lS eT eD
      · refine newG s ?_
        intro h10 g bx hg e10
        have s := s.keep e10
        have lT := lT.keep e10 (by simp)
        have lD := lD.keep e10 (by simp)
        refine ⟨⟨s.c3, s.c1, s.c0, trivial⟩, ?_⟩
        refine litZ_of s.sz ?_
        intro pz h11 sl e11
        have s := s.keep e11
        have bx := bx.keep e11 (by simp)
        have lT := lT.keep e11 (by simp)
        have lD := lD.keep e11 (by simp)
        refine ⟨⟨s.c3, s.c1, s.c0, trivial⟩, ?_⟩
        refine appZ_of s.sz sl (v.globs.keep s.ext) hS ?_
        intro pS cS h12 lS k12
        have s := s.keepZ k12
        have bx := boxKeepZ bx k12
        have lT := lcKeepZ lT k12
        have lD := lcKeepZ lD k12
        refine ⟨⟨s.c1, s.c0, trivial⟩, ?_⟩
        exact leafZ (A := ⟨pT, a.l, cT⟩) (B := ⟨pD, b.l, cD⟩) (D := ⟨pS, d.l, cS⟩) v hE tE s bx hg lT lD lS eT eD
    · refine litZ_of s.sz ?_
      intro pz h14 sl e14
      have s := s.keep e14
      have lT := lT.keep e14 (by simp)
      refine ⟨⟨s.c3, s.c1, s.c0, trivial⟩, ?_⟩
      refine ⟨?_, ?_, trivial⟩
      · refine itemsZ_of s.sz (v.data.keep s.ext) hD tD ?_
        intro pD cD h15 wD lD eD e15
        have s := s.keep e15
        have sl := sl.keep e15 (by simp)
        have lT := lT.keep e15 (by simp)
        refine ⟨⟨s.c3, s.c0, trivial⟩, ?_⟩
        refine ⟨?_, ?_, trivial⟩
        · refine appZ_of s.sz sl (v.globs.keep s.ext) hS ?_
          intro pS cS h16 lS k16
          have s := s.keepZ k16
          have lT := lcKeepZ lT k16
          have lD := lcKeepZ lD k16
          refine ⟨⟨s.c1, s.c0, trivial⟩, ?_⟩
          refine newG s ?_
          intro h17 g bx hg e17
          have s := s.keep e17
          have lT := lT.keep e17 (by simp)
          have lD := lD.keep e17 (by simp)
          have lS := lS.keep e17 (by simp)
          refine ⟨⟨s.c3, s.c1, s.c0, trivial⟩, ?_⟩
          exact leafZ (A := ⟨pT, a.l, cT⟩) (B := ⟨pD, b.l, cD⟩) (D := ⟨pS, d.l, cS⟩) v hE tE s bx hg lT lD lS eT eD
        · refine newG s ?_
          intro h19 g bx hg e19
          have s := s.keep e19
          have sl := sl.keep e19 (by simp)
          have lT := lT.keep e19 (by simp)
          have lD := lD.keep e19 (by simp)
          refine ⟨⟨s.c3, s.c1, s.c0, trivial⟩, ?_⟩
          refine appZ_of s.sz sl (v.globs.keep s.ext) hS ?_
          intro pS cS h20 lS k20
          have s := s.keepZ k20
          have bx := boxKeepZ bx k20
          have lT := lcKeepZ lT k20
          have lD := lcKeepZ lD k20
          refine ⟨⟨s.c1, s.c0, trivial⟩, ?_⟩
          exact leafZ (A := ⟨pT, a.l, cT⟩) (B := ⟨pD, b.l, cD⟩) (D := ⟨pS, d.l, cS⟩) v hE tE s bx hg lT lD lS eT eD
      · refine newG s ?_
        intro h22 g bx hg e22
        have s := s.keep e22
        have sl := sl.keep e22 (by simp)
        have lT := lT.keep e22 (by simp)
        refine ⟨⟨s.c3, s.c1, s.c0, trivial⟩, ?_⟩
        refine itemsZ_of s.sz (v.data.keep s.ext) hD tD ?_
        intro pD cD h23 wD lD eD e23
        have s := s.keep e23
        have bx := bx.keep e23 (by simp)
        have sl := sl.keep e23 (by simp)
        have lT := lT.keep e23 (by simp)
        refine ⟨⟨s.c3, s.c0, trivial⟩, ?_⟩
        refine appZ_of s.sz sl (v.globs.keep s.ext) hS ?_
        intro pS cS h24 lS k24
        have s := s.keepZ k24
        have bx := boxKeepZ bx k24
        have lT := lcKeepZ lT k24
        have lD := lcKeepZ lD k24
        refine ⟨⟨s.c1, s.c0, trivial⟩, ?_⟩
        exact leafZ (A := ⟨pT, a.l, cT⟩) (B := ⟨pD, b.l, cD⟩) (D := ⟨pS, d.l, cS⟩) v hE tE s bx hg lT lD lS eT eD
    · refine newG s ?_
      intro h26 g bx hg e26
      have s := s.keep e26
      have lT := lT.keep e26 (by simp)
      refine ⟨⟨s.c3, s.c1, s.c0, trivial⟩, ?_⟩
      refine ⟨?_, ?_, trivial⟩
      · refine itemsZ_of s.sz (v.data.keep s.ext) hD tD ?_
        intro pD cD h27 wD lD eD e27
        have s := s.keep e27
        have bx := bx.keep e27 (by simp)
        have lT := lT.keep e27 (by simp)
        refine ⟨⟨s.c3, s.c0, trivial⟩, ?_⟩
        refine litZ_of s.sz ?_
        intro pz h28 sl e28
        have s := s.keep e28
        have bx := bx.keep e28 (by simp)
        have lT := lT.keep e28 (by simp)
        have lD := lD.keep e28 (by simp)
        refine ⟨⟨s.c3, s.c1, s.c0, trivial⟩, ?_⟩
        refine appZ_of s.sz sl (v.globs.keep s.ext) hS ?_
        intro pS cS h29 lS k29
        have s := s.keepZ k29
        have bx := boxKeepZ bx k29
        have lT := lcKeepZ lT k29
        have lD := lcKeepZ lD k29
        refine ⟨⟨s.c1, s.c0, trivial⟩, ?_⟩
        exact leafZ (A := ⟨pT, a.l, cT⟩) (B := ⟨pD, b.l, cD⟩) (D := ⟨pS, d.l, cS⟩) v hE tE s bx hg lT lD lS eT eD
      · refine litZ_of s.sz ?_
        intro pz h31 sl e31
        have s := s.keep e31
        have bx := bx.keep e31 (by simp)
        have lT := lT.keep e31 (by simp)
        refine ⟨⟨s.c3, s.c1, s.c0, trivial⟩, ?_⟩
        refine itemsZ_of s.sz (v.data.keep s.ext) hD tD ?_
        intro pD cD h32 wD lD eD e32
        have s := s.keep e32
        have bx := bx.keep e32 (by simp)
        have sl := sl.keep e32 (by simp)
        have lT := lT.keep e32 (by simp)
        refine ⟨⟨s.c3, s.c0, trivial⟩, ?_⟩
        refine appZ_of s.sz sl (v.globs.keep s.ext) hS ?_
        intro pS cS h33 lS k33
        have s := s.keepZ k33
        have bx := boxKeepZ bx k33
        have lT := lcKeepZ lT k33
        have lD := lcKeepZ lD k33
        refine ⟨⟨s.c1, s.c0, trivial⟩, ?_⟩
        exact leafZ (A := ⟨pT, a.l, cT⟩) (B := ⟨pD, b.l, cD⟩) (D := ⟨pS, d.l, cS⟩) v hE tE s bx hg lT lD lS eT eD
  · refine litZ_of s.sz ?_
    intro pz h35 sl e35
    have s := s.keep e35
    refine ⟨⟨s.c3, s.c1, s.c0, trivial⟩, ?_⟩
    refine ⟨?_, ?_, trivial⟩
    · refine itemsZ_of s.sz (v.text.keep s.ext) hT tT ?_
      intro pT cT h36 wT lT eT e36
      have s := s.keep e36
      have sl := sl.keep e36 (by simp)
      refine ⟨⟨s.c3, s.c1, trivial⟩, ?_⟩
      refine ⟨?_, ?_, trivial⟩
      · refine itemsZ_of s.sz (v.data.keep s.ext) hD tD ?_
        intro pD cD h37 wD lD eD e37
        have s := s.keep e37
        have sl := sl.keep e37 (by simp)
        have lT := lT.keep e37 (by simp)
        refine ⟨⟨s.c3, s.c0, trivial⟩, ?_⟩
        refine ⟨?_, ?_, trivial⟩
        · refine appZ_of s.sz sl (v.globs.keep s.ext) hS ?_
          intro pS cS h38 lS k38
          have s := s.keepZ k38
          have lT := lcKeepZ lT k38
          have lD := lcKeepZ lD k38
          refine ⟨⟨s.c1, s.c0, trivial⟩, ?_⟩
          refine newG s ?_
          intro h39 g bx hg e39
          have s := s.keep e39
          have lT := lT.keep e39 (by simp)
          have lD := lD.keep e39 (by simp)
          have lS := lS.keep e39 (by simp)
          refine ⟨⟨s.c3, s.c1, s.c0, trivial⟩, ?_⟩
          exact leafZ (A := ⟨pT, a.l, cT⟩) (B := ⟨pD, b.l, cD⟩) (D := ⟨pS, d.l, cS⟩) v hE tE s bx hg lT lD lS eT eD
        · refine newG s ?_
          intro h41 g bx hg e41
          have s := s.keep e41
          have sl := sl.keep e41 (by simp)
          have lT := lT.keep e41 (by simp)
          have lD := lD.keep e41 (by simp)
          refine ⟨⟨s.c3, s.c1, s.c0, trivial⟩, ?_⟩
          refine appZ_of s.sz sl (v.globs.keep s.ext) hS ?_
          intro pS cS h42 lS k42
          have s := s.keepZ k42
          have bx := boxKeepZ bx k42
          have lT := lcKeepZ lT k42
          have lD := lcKeepZ lD k42
          refine ⟨⟨s.c1, s.c0, trivial⟩, ?_⟩
          exact leafZ (A := ⟨pT, a.l, cT⟩) (B := ⟨pD, b.l, cD⟩) (D := ⟨pS, d.l, cS⟩) v hE tE s bx hg lT lD lS eT eD
      · refine newG s ?_
        intro h44 g bx hg e44
        have s := s.keep e44
        have sl := sl.keep e44 (by simp)
        have lT := lT.keep e44 (by simp)
        refine ⟨⟨s.c3, s.c1, s.c0, trivial⟩, ?_⟩
        refine itemsZ_of s.sz (v.data.keep s.ext) hD tD ?_
        intro pD cD h45 wD lD eD e45
        have s := s.keep e45
        have bx := bx.keep e45 (by simp)
        have sl := sl.keep e45 (by simp)
        have lT := lT.keep e45 (by simp)
        refine ⟨⟨s.c3, s.c0, trivial⟩, ?_⟩
        refine appZ_of s.sz sl (v.globs.keep s.ext) hS ?_
        intro pS cS h46 lS k46
        have s := s.keepZ k46
        have bx := boxKeepZ bx k46
        have lT := lcKeepZ lT k46
        have lD := lcKeepZ lD k46
        refine ⟨⟨s.c1, s.c0, trivial⟩, ?_⟩
        exact leafZ (A := ⟨pT, a.l, cT⟩) (B := ⟨pD, b.l, cD⟩) (D := ⟨pS, d.l, cS⟩) v hE tE s bx hg lT lD lS eT eD
    · refine newG s ?_
      intro h48 g bx hg e48
      have s := s.keep e48
      have sl := sl.keep e48 (by simp)
      refine ⟨⟨s.c3, s.c1, s.c0, trivial⟩, ?_⟩
      refine itemsZ_of s.sz (v.text.keep s.ext) hT tT ?_
      intro pT cT h49 wT lT eT e49
      have s := s.keep e49
      have bx := bx.keep e49 (by simp)
      have sl := sl.keep e49 (by simp)
      refine ⟨⟨s.c3, s.c1, trivial⟩, ?_⟩
      refine itemsZ_of s.sz (v.data.keep s.ext) hD tD ?_
      intro pD cD h50 wD lD eD e50
      have s := s.keep e50
      have bx := bx.keep e50 (by simp)
      have sl := sl.keep e50 (by simp)
      have lT := lT.keep e50 (by simp)
      refine ⟨⟨s.c3, s.c0, trivial⟩, ?_⟩
      refine appZ_of s.sz sl (v.globs.keep s.ext) hS ?_
      intro pS cS h51 lS k51
      have s := s.keepZ k51
      have bx := boxKeepZ bx k51
      have lT := lcKeepZ lT k51
      have lD := lcKeepZ lD k51
      refine ⟨⟨s.c1, s.c0, trivial⟩, ?_⟩
      exact leafZ (A := ⟨pT, a.l, cT⟩) (B := ⟨pD, b.l, cD⟩) (D := ⟨pS, d.l, cS⟩) v hE tE s bx hg lT lD lS eT eD
  · refine newG s ?_
    intro h53 g bx hg e53
    have s := s.keep e53
    refine ⟨⟨s.c3, s.c1, s.c0, trivial⟩, ?_⟩
    refine ⟨?_, ?_, trivial⟩
    · refine itemsZ_of s.sz (v.text.keep s.ext) hT tT ?_
      intro pT cT h54 wT lT eT e54
      have s := s.keep e54
      have bx := bx.keep e54 (by simp)
      refine ⟨⟨s.c3, s.c1, trivial⟩, ?_⟩
      refine ⟨?_, ?_, trivial⟩
      · refine itemsZ_of s.sz (v.data.keep s.ext) hD tD ?_
        intro pD cD h55 wD lD eD e55
        have s := s.keep e55
        have bx := bx.keep e55 (by simp)
        have lT := lT.keep e55 (by simp)
        refine ⟨⟨s.c3, s.c0, trivial⟩, ?_⟩
        refine litZ_of s.sz ?_
        intro pz h56 sl e56
        have s := s.keep e56
        have bx := bx.keep e56 (by simp)
        have lT := lT.keep e56 (by simp)
        have lD := lD.keep e56 (by simp)
        refine ⟨⟨s.c3, s.c1, s.c0, trivial⟩, ?_⟩
        refine appZ_of s.sz sl (v.globs.keep s.ext) hS ?_
        intro pS cS h57 lS k57
        have s := s.keepZ k57
        have bx := boxKeepZ bx k57
        have lT := lcKeepZ lT k57
        have lD := lcKeepZ lD k57
        refine ⟨⟨s.c1, s.c0, trivial⟩, ?_⟩
        exact leafZ (A := ⟨pT, a.l, cT⟩) (B := ⟨pD, b.l, cD⟩) (D := ⟨pS, d.l, cS⟩) v hE tE s bx hg lT lD lS eT eD
      · refine litZ_of s.sz ?_
        intro pz h59 sl e59
        have s := s.keep e59
        have bx := bx.keep e59 (by simp)
        have lT := lT.keep e59 (by simp)
        refine ⟨⟨s.c3, s.c1, s.c0, trivial⟩, ?_⟩
        refine itemsZ_of s.sz (v.data.keep s.ext) hD tD ?_
        intro pD cD h60 wD lD eD e60
        have s := s.keep e60
        have bx := bx.keep e60 (by simp)
        have sl := sl.keep e60 (by simp)
        have lT := lT.keep e60 (by simp)
        refine ⟨⟨s.c3, s.c0, trivial⟩, ?_⟩
        refine appZ_of s.sz sl (v.globs.keep s.ext) hS ?_
        intro pS cS h61 lS k61
        have s := s.keepZ k61
        have bx := boxKeepZ bx k61
        have lT := lcKeepZ lT k61
        have lD := lcKeepZ lD k61
        refine ⟨⟨s.c1, s.c0, trivial⟩, ?_⟩
        exact leafZ (A := ⟨pT, a.l, cT⟩) (B := ⟨pD, b.l, cD⟩) (D := ⟨pS, d.l, cS⟩) v hE tE s bx hg lT lD lS eT eD
    · refine litZ_of s.sz ?_
      intro pz h63 sl e63
      have s := s.keep e63
      have bx := bx.keep e63 (by simp)
      refine ⟨⟨s.c3, s.c1, s.c0, trivial⟩, ?_⟩
      refine itemsZ_of s.sz (v.text.keep s.ext) hT tT ?_
      intro pT cT h64 wT lT eT e64
      have s := s.keep e64
      have bx := bx.keep e64 (by simp)
      have sl := sl.keep e64 (by simp)
      refine ⟨⟨s.c3, s.c1, trivial⟩, ?_⟩
      refine itemsZ_of s.sz (v.data.keep s.ext) hD tD ?_
      intro pD cD h65 wD lD eD e65
      have s := s.keep e65
      have bx := bx.keep e65 (by simp)
      have sl := sl.keep e65 (by simp)
      have lT := lT.keep e65 (by simp)
      refine ⟨⟨s.c3, s.c0, trivial⟩, ?_⟩
      refine appZ_of s.sz sl (v.globs.keep s.ext) hS ?_
      intro pS cS h66 lS k66
      have s := s.keepZ k66
      have bx := boxKeepZ bx k66
      have lT := lcKeepZ lT k66
      have lD := lcKeepZ lD k66
      refine ⟨⟨s.c1, s.c0, trivial⟩, ?_⟩
      exact leafZ (A := ⟨pT, a.l, cT⟩) (B := ⟨pD, b.l, cD⟩) (D := ⟨pS, d.l, cS⟩) v hE tE s bx hg lT lD lS eT eD
end Go.Sx.Ob

set_option linter.unusedVariables false
set_option linter.unusedSimpArgs false
set_option maxRecDepth 100000
namespace Go.Sx.Ob
open Go.Proofs
theorem SL.flat {h : Hp} {b : Nat} {e : TypeId} {sz : Nat} {a : Addr} {l c : Nat} {xs : List (List Value)} (s : SL h b e sz (some a) l c xs) : cellsAt h a 0 xs.flatten := by
  obtain ⟨g, pre, rest, rfl, hbg, hlc, hbox, hr⟩ := s.2.2
  refine hbox.cells _ ?_
  rw [List.drop_left, List.take_left]
/-- The table of the powers of ten lies where it was laid. -/
def Pow10 (h : Hp) : Prop := ∃ e f, h[1]? = some (.cells (Lib.pow10Tab.map fun z => Value.int .u64 z).toArray e f)
theorem Pow10.keep {ws : List Nat} {h h' : Hp} (p : Pow10 h) (k : Ch ws h h') (hw : 1 ∉ ws) : Pow10 h' := by
  obtain ⟨e, f, hp⟩ := p
  exact ⟨e, f, k.get hp hw⟩
theorem tab_of {W : World} {name : String} (hg : Tryz.prog.globalNamed name = some 1) (p : Pow10 W.heap) : Lib.TabIs Tryz.prog W name .u64 Lib.pow10Tab := by
  obtain ⟨e, f, hp⟩ := p
  unfold Lib.TabIs World.var?
  rw [hg]
  show (match W.heap[1]? with | some (.cells cs _ _) => some cs | _ => none) = _
  rw [hp]
theorem itoa_hc {h : Hp} (p : Pow10 h) (n : Nat) (hn : n ≤ 2 ^ 60) : HC Tryz.prog 62 #[.int .i64 n] h fun v h' => ∃ s : ByteArray, v = .string s ∧ s.size ≤ 1000 ∧ Ext h h' := by
  intro W hW
  subst hW
  refine (Tryz.strconv_Itoa n (by omega) (by omega) W (tab_of (by kernel_rfl) p)).mono ?_
  rintro e w' ⟨he, k, os, rfl⟩
  refine ⟨_, he, ⟨rfl, rfl, rfl⟩, _, rfl, ?_, ?_⟩
  · show (Lib.itoa (n : Int)).toArray.size ≤ 1000
    have := Lib.itoa_length_le (n : Int) (by omega) (by omega)
    simp
    omega
  · refine ⟨by show W.heap.size ≤ (W.heap ++ os).size; simp, fun i hi _ => ?_⟩
    show (W.heap ++ os)[i]? = _
    rw [Array.getElem?_append_left hi]
theorem und22' : Tryz.prog.underlying 22 = some (.slice 5) := by kernel_rfl
theorem und5' : Tryz.prog.underlying 5 = some (.int .u8) := by kernel_rfl
theorem und9' : Tryz.prog.underlying 9 = some .string := by kernel_rfl
theorem toStr_of {L : Lp} {K : Value → Hp → Prop} {h : Hp} {b : Nat} {p : Option Addr} {l c : Nat} {bs : List UInt8} {k : ByteArray → T} (s : SL h b 5 1 p l c (byC bs)) (h0 : bs ≠ []) (hk : k ⟨bs.toArray⟩ L K h) :
    T.sem Tryz.prog (convert 22 9 (.slice p l c)) false [(false, [.string])] k L K h := by
  show semW Tryz.prog (convert 22 9 (.slice p l c)) h _
  unfold convert
  rw [semW_bind', semW_underlying und22', semW_bind', semW_underlying und9']
  show semW Tryz.prog (do match ← underlying 5 with
    | .int .u8 => Conv.bytesToString (.slice p l c)
    | .int .i32 => Conv.runesToString (.slice p l c)
    | _ => stuck "Convert: a slice of what to string?") h _
  rw [semW_bind', semW_underlying und5']
  cases p with
  | none =>
    have h1 : byC bs = [] := s.2.2.2
    have : bs = [] := by simpa [byC] using h1
    exact absurd this h0
  | some a =>
    have hl : l = bs.length := by rw [s.1, byC_length]
    subst hl
    have hf := SL.flat s
    rw [byC_flat] at hf
    exact bytesBack a bs c _ hf ⟨(⟨bs.toArray⟩, ()), rfl, hk⟩
theorem digitV (n : Nat) : IntKind.wrap .u8 (IntKind.wrap .i64 ((48 : Int) + (Int.tmod (n : Int) (10 : Int)))) = ((UInt8.ofNat (48 + n % 10)).toNat : Int) := by
  have e : Int.tmod (n : Int) 10 = ((n % 10 : Nat) : Int) := by
    rw [Int.tmod_eq_emod_of_nonneg (by omega)]
    rfl
  rw [e, wrap_i64 (by omega) (by omega), wrap_u8 (by omega) (by omega)]
  simp
  omega
theorem append_none {P : Program} {h : Hp} {t ty e : TypeId} {i : TypeInfo} (ht : P.underlying t = some (.slice e)) (hi : P.info? e = some i) (a : Addr) (l : Nat) (K : Value → Hp → Prop) (hk : K (.slice (some a) l l) h) :
    semW P (Builtin.append_ #[t, t] ty #[.slice (some a) l l, .slice none 0 0]) h K := by
  simp [Builtin.append_, semW_bind', semW_underlying ht, semW_sizeOf hi, cellsOf_info hi, Builtin.lenOf, Builtin.firstCells]
  rw [semW_map]
  exact hk
theorem errno_hc (h : Hp) (n : Nat) (hn : n < 10 ^ 18) : HC Tryz.prog 63 #[.int .i64 n] h fun v h' => ∃ s : ByteArray, v = .string s ∧ s.size ≤ 1000 ∧ Ext h h' := by
  refine hcr_of (args := [.int .i64 n]) mixed Tryz.func63 (by kernel_rfl) (t__api_Errno__Error_eq n) ?_
  unfold t__api_Errno__Error
  refine cond_mk (fun _ => ⟨_, rfl, by decide, Ch.refl _ _⟩) (fun _ => ?_)
  refine cond_mk (fun _ => ⟨_, rfl, by decide, Ch.refl _ _⟩) (fun _ => ?_)
  refine cond_mk (fun _ => ⟨_, rfl, by decide, Ch.refl _ _⟩) (fun _ => ?_)
  refine cond_mk (fun _ => ⟨_, rfl, by decide, Ch.refl _ _⟩) (fun _ => ?_)
  refine cond_f (by rw [decide_eq_false_iff_not]; omega) ?_
  refine loop_of (cs := [(false, [.int .i64]), (false, [.slice 0])]) (fun y m h' => ∃ (k : Nat) (bs : List UInt8) (p : Option Addr) (c : Nat), y = ((k : Int), (p, bs.length, c), ()) ∧ m = k + (if bs = [] then 1 else 0) ∧ bs.length ≤ 20 ∧ k ≤ n ∧ k < 10 ^ (20 - bs.length) ∧ SL h' h.size 5 1 p bs.length c (byC bs) ∧ Ext h h') ((n : Int), (none, 0, 0), ()) (n + 1) rfl
    ⟨n, [], none, 0, rfl, rfl, by simp, Nat.le_refl _, Nat.lt_of_lt_of_le hn (Nat.pow_le_pow_right (by omega) (by simp)), SL.nil _ _ _ _, Ch.refl _ _⟩ ?_
  rintro ⟨n6, ⟨p7, l8, l9⟩, ⟨⟩⟩ m h1 ⟨k, bs, p, c, hy, hm, hbl, hkn, hkl, sl, e1⟩
  cases hy
  dsimp only [flat, unc, unc1, List.nil_append, List.cons_append]
  have hz1 := e1.size
  have step : (0 < k ∨ bs = []) → (T.need ((10 : Int) ≠ (0 : Int)) <|
       T.sem Tryz.prog (Instr.buildSlice 22 1 #[(0, .int .u8 (IntKind.wrap .u8 (IntKind.wrap .i64 ((48 : Int) + (Int.tmod (k : Int) (10 : Int))))))]) false [(false, [.slice 0])] <| fun (p5 : Option Addr) (l6 : Nat) (l7 : Nat) =>
       T.sem Tryz.prog (Builtin.append_ #[22, 22] 22 #[.slice p5 l6 l7, .slice p7 bs.length l9]) false [(false, [.slice 0])] <| fun (p8 : Option Addr) (l9 : Nat) (l10 : Nat) =>
       T.need ((10 : Int) ≠ (0 : Int)) <|
       T.again 0 [.int .i64 (IntKind.wrap .i64 (Int.tdiv (k : Int) (10 : Int))), .slice p8 l9 l10]) [Jl (cs := [(false, [.int .i64]), (false, [.slice 0])]) (fun y m h' => ∃ (k : Nat) (bs : List UInt8) (p : Option Addr) (c : Nat), y = ((k : Int), (p, bs.length, c), ()) ∧ m = k + (if bs = [] then 1 else 0) ∧ bs.length ≤ 20 ∧ k ≤ n ∧ k < 10 ^ (20 - bs.length) ∧ SL h' h.size 5 1 p bs.length c (byC bs) ∧ Ext h h') m] (fun v h' => ∃ s : ByteArray, v = .string s ∧ s.size ≤ 1000 ∧ Ext h h') h1 := by
    intro hs
    have hk20 : bs.length < 20 := by
      rcases hs with hs | hs
      · by_cases g : bs.length < 20
        · exact g
        · have : 20 - bs.length = 0 := by omega
          rw [this] at hkl
          simp at hkl
          omega
      · rw [hs]; simp
    refine need_of (by decide) ?_
    rw [digitV]
    refine lit_of und22 byZ (by omega) (by omega) (fill1 ((UInt8.ofNat (48 + k % 10)).toNat : Int)) ?_
    intro h2 b2 e2 z2
    have s2 : SL h2 h1.size 5 1 (some ⟨h1.size, 0, none⟩) 1 1 (byC [UInt8.ofNat (48 + k % 10)]) :=
      ⟨rfl, byC_len _, h1.size, [], [], rfl, Nat.le_refl _, ⟨by omega, by omega⟩, b2, by simp⟩
    have sl2 := sl.keep e2 (by simp)
    obtain ⟨i5, hi5, hz5, hs5, hb5⟩ := inf_of byZ
    have fin : ∀ (bs' : List UInt8) (p' : Option Addr) (c' : Nat) (h3 : Hp), bs' = UInt8.ofNat (48 + k % 10) :: bs → SL h3 h1.size 5 1 p' bs'.length c' (byC bs') → Ext h1 h3 → (T.need ((10 : Int) ≠ (0 : Int)) <|
       T.again 0 [.int .i64 (IntKind.wrap .i64 (Int.tdiv (k : Int) (10 : Int))), .slice p' bs'.length c']) [Jl (cs := [(false, [.int .i64]), (false, [.slice 0])]) (fun y m h' => ∃ (k : Nat) (bs : List UInt8) (p : Option Addr) (c : Nat), y = ((k : Int), (p, bs.length, c), ()) ∧ m = k + (if bs = [] then 1 else 0) ∧ bs.length ≤ 20 ∧ k ≤ n ∧ k < 10 ^ (20 - bs.length) ∧ SL h' h.size 5 1 p bs.length c (byC bs) ∧ Ext h h') m] (fun v h' => ∃ s : ByteArray, v = .string s ∧ s.size ≤ 1000 ∧ Ext h h') h3 := by
      intro bs' p' c' h3 hbs s3 e3
      refine need_of (by decide) ?_
      have hdiv : Int.tdiv (k : Int) (10 : Int) = ((k / 10 : Nat) : Int) := by
        rw [Int.tdiv_eq_ediv_of_nonneg (by omega)]
        rfl
      rw [hdiv, wrap_i64 (by omega) (by omega)]
      refine again_mk (cs := [(false, [.int .i64]), (false, [.slice 0])]) (((k / 10 : Nat) : Int), (p', bs'.length, c'), ()) (k / 10) rfl ?_ rfl ?_
      · rw [hm]
        rcases hs with hs | hs
        · omega
        · rw [if_pos hs]; omega
      · refine ⟨k / 10, bs', p', c', rfl, ?_, ?_, by omega, ?_, s3.mono (by omega), e1.trans e3⟩
        · rw [if_neg (by rw [hbs]; simp)]; rfl
        · rw [hbs]; simp; omega
        · rw [hbs, List.length_cons]
          have : 10 ^ (20 - bs.length) = 10 ^ (20 - (bs.length + 1)) * 10 := by
            rw [← Nat.pow_succ]
            congr 1
            omega
          rw [this] at hkl
          omega
    have hl7 : bs.length = (byC bs).length := (byC_length bs).symm
    cases p7 with
    | none =>
      have hb1 : byC bs = [] := sl2.2.2.2
      have hb3 : l9 = 0 := sl2.2.2.1
      have : bs = [] := by simpa [byC] using hb1
      subst this hb3
      refine sem_slice (append_none und22 hi5 _ 1 _ ?_)
      exact ⟨_, 1, 1, rfl, fin [UInt8.ofNat (48 + k % 10)] _ 1 h2 rfl s2 e2⟩
    | some a7 =>
      refine sem_slice (append_of (i := i5) und22 hi5 hz5 (by rw [hs5]; rfl) (by rw [hs5]; exact s2) (ys := byC bs) hl7 (by rw [hs5]; exact byC_len bs) (SL.flat sl2) (byC_plain bs) (by rw [hb5]; omega) (by omega) (by omega) ?_)
      intro p' c' h3 s3 k3 hp'
      refine ⟨p', 1 + bs.length, c', rfl, ?_⟩
      have hlen : 1 + bs.length = (UInt8.ofNat (48 + k % 10) :: bs).length := by simp; omega
      rw [hlen]
      refine fin _ p' c' h3 rfl ?_ (e2.st k3 (Nat.le_refl _))
      rw [← hlen]
      rw [hs5] at s3
      exact s3
  refine cond_mk (fun q => ?_) (fun q => ?_)
  · have q := of_decide_eq_true q
    exact step (.inl (by omega))
  · refine cond_mk (fun w => ?_) (fun w => ?_)
    · have w : bs.length = 0 := eqN_t w
      exact step (.inr (List.eq_nil_of_length_eq_zero w))
    · have w : ¬ bs.length = 0 := eqN_f w
      refine toStr_of sl (fun e => w (by rw [e]; rfl)) ?_
      have hsz : (⟨bs.toArray⟩ : ByteArray).size = bs.length := by show bs.toArray.size = _; simp
      refine need_of (by rw [hsz]; omega) ?_
      refine ⟨_, rfl, ?_, e1⟩
      rw [ByteArray.size_append, hsz]
      show 8 + bs.length ≤ 1000
      omega
end Go.Sx.Ob

set_option linter.unusedVariables false
set_option linter.unusedSimpArgs false
set_option maxRecDepth 100000
namespace Go.Sx.Ob
open Go.Proofs
theorem is_hc {h : Hp} {a : Nat} {x n : Int} (b : Box h a 59 [.int .i64 x, .int .i64 n]) : HCp Tryz.prog 30 [.iface 57 (ptr a), .iface 48 (.int .i64 n)] h (.bool true) := by
  intro W hW
  subst hW
  refine (Go.Proofs.YtnjohginlglonaaGreatDoor.errorsIs a n W ?_).mono ?_
  · rw [cell_heap, b.cell]
    rfl
  · rintro e w' ⟨he, rfl⟩
    exact ⟨_, he, SameO.refl _, rfl, rfl⟩
theorem unwrap_hc {h : Hp} {a : Nat} {x n : Int} (b : Box h a 59 [.int .i64 x, .int .i64 n]) : HCp Tryz.prog 29 [ptr a] h (.iface 48 (.int .i64 n)) := by
  refine hcp_of mixed Tryz.func29 (by kernel_rfl) (t_object_Refusal__Unwrap_eq (some ⟨a, 0, none⟩)) ?_
  unfold t_object_Refusal__Unwrap
  refine osome_mk rfl ?_
  rw [add_box]
  refine loads_box b (n, ()) rfl ?_
  exact ⟨rfl, rfl⟩
theorem error_hc {h : Hp} (p : Pow10 h) {a x n : Nat} (hx : x ≤ 2 ^ 60) (hn : n < 10 ^ 18) (b : Box h a 59 [.int .i64 (x : Int), .int .i64 (n : Int)]) : HC Tryz.prog 27 #[ptr a] h fun v h' => ∃ s : ByteArray, v = .string s ∧ s.data.toList ≠ [] ∧ Ext h h' := by
  refine hcr_of (args := [ptr a]) mixed Tryz.func27 (by kernel_rfl) (t_object_Refusal__Error_eq (some ⟨a, 0, none⟩)) ?_
  unfold t_object_Refusal__Error
  refine osome_mk rfl ?_
  refine loads_box b ((x : Int), ()) rfl ?_
  dsimp only [flat, unc, unc1, List.nil_append, List.cons_append]
  refine osome_mk rfl ?_
  rw [add_box]
  refine loads_box b ((n : Int), ()) rfl ?_
  dsimp only [flat, unc, unc1, List.nil_append, List.cons_append]
  refine call_of (itoa_hc p x hx) ?_
  rintro _ h1 ⟨s, rfl, hs, e1⟩
  refine ⟨(s, ()), rfl, ?_⟩
  dsimp only [flat, unc, unc1, List.nil_append, List.cons_append]
  have b1 := b.keep e1 (by simp)
  refine ⟨⟨b1.cells _ rfl, trivial⟩, ?_⟩
  have z5 : (⟨#[98, 121, 116, 101, 32]⟩ : ByteArray).size = 5 := rfl
  have z2 : (⟨#[58, 32]⟩ : ByteArray).size = 2 := rfl
  refine need_of (by omega) (need_of (by rw [ByteArray.size_append, z5]; omega) ?_)
  refine call_of (errno_hc h1 n hn) ?_
  rintro _ h2 ⟨t, rfl, ht, e2⟩
  refine ⟨(t, ()), rfl, ?_⟩
  dsimp only [flat, unc, unc1, List.nil_append, List.cons_append]
  refine ⟨⟨(b1.keep e2 (by simp)).cells _ rfl, trivial⟩, ?_⟩
  refine need_of (by rw [ByteArray.size_append, ByteArray.size_append, z5, z2]; omega) ?_
  refine ⟨_, rfl, ?_, e1.trans e2⟩
  intro h0
  have := congrArg List.length h0
  simp at this
theorem eqIN (o : Nat) (t : TypeId) (u : Value) (h : Hp) (K : Value → Hp → Prop) : semW Tryz.prog (Sx.cmpS (BinOp.eql) 30 (Operand.tmp o) (Operand.const Value.nilIface) (.iface t u) .nilIface) h K = K (.bool false) h := by kernel_rfl
theorem eqNN (o : Nat) (h : Hp) (K : Value → Hp → Prop) : semW Tryz.prog (Sx.cmpS (BinOp.eql) 30 (Operand.tmp o) (Operand.const Value.nilIface) .nilIface .nilIface) h K = K (.bool true) h := by kernel_rfl
theorem eqEE (n : Int) (o u : Nat) (h : Hp) (K : Value → Hp → Prop) : semW Tryz.prog (Sx.cmpS (BinOp.eql) 30 (Operand.tmp o) (Operand.tmp u) (.iface 48 (.int .i64 n)) (.iface 48 (.int .i64 n))) h K = K (.bool (n == n)) h := by kernel_rfl
theorem asR (a : Addr) (h : Hp) (K : Value → Hp → Prop) : semW Tryz.prog (Instr.typeAssert (.iface 57 (.pointer (some a))) 30 57 true) h K = K (.tuple #[.pointer (some a), .bool true]) h := by kernel_rfl
theorem asN (h : Hp) (K : Value → Hp → Prop) : semW Tryz.prog (Instr.typeAssert .nilIface 30 57 true) h K = K (.tuple #[.pointer none, .bool false]) h := by kernel_rfl
theorem sameErr_hc (h : Hp) (n : Int) : HCp Tryz.prog 28 [.iface 48 (.int .i64 n), .iface 48 (.int .i64 n)] h (.bool true) := by
  refine hcp_of mixed Tryz.func28 (by kernel_rfl) (t_spandrellaw10_sameErr_eq _ _) ?_
  unfold t_spandrellaw10_sameErr
  refine sem_bool (fun K' hK => by rw [eqIN]; exact hK) ?_
  refine cond_f rfl ?_
  refine sem_bool (fun K' hK => by rw [eqIN]; exact hK) ?_
  refine cond_f rfl ?_
  refine sem_bool (b := true) (fun K' hK => by rw [eqEE]; simpa using hK) ?_
  exact ⟨rfl, rfl⟩
/-- What is expected: why 0: no error. -/
def wants (a w : Nat) (e : Option (Nat × Nat)) : Bool := if w = 0 then decide (e = none) else decide (e = some (a, w))
theorem refused_hc {h : Hp} (p : Pow10 h) {ev : Value} {e : Option (Nat × Nat)} (v : ErrAt h ev e) (hs : ∀ q, e = some q → q.1 ≤ 2 ^ 60 ∧ q.2 < 10 ^ 18) (a w : Nat) :
    HC Tryz.prog 8 #[ev, .agg #[.int .i64 (a : Int), .int .i64 (w : Int)]] h fun r h' => r = .bool (wants a w e) ∧ Ext h h' := by
  refine hcr_of (args := [ev, .agg #[.int .i64 (a : Int), .int .i64 (w : Int)]]) mixed Tryz.func8 (by kernel_rfl) (t_spandrellaw10_refused_eq ev a w) ?_
  unfold t_spandrellaw10_refused
  refine newB ?_
  intro h1 b1 e1 z1
  rw [add_box]
  refine loads_box b1 ((w : Int), ()) rfl ?_
  dsimp only [flat, unc, unc1, List.nil_append, List.cons_append]
  cases e with
  | none =>
    have v : ev = .nilIface := v
    subst v
    refine cond_mk (fun q => ?_) (fun q => ?_)
    · have q : w = 0 := eqN_t q
      refine sem_bool (fun K' hK => by rw [eqNN]; exact hK) ?_
      exact ⟨by unfold wants; rw [if_pos q]; rfl, e1⟩
    · have q : ¬ w = 0 := eqN_f q
      show semW _ _ _ _
      rw [asN]
      refine ⟨(none, false, ()), rfl, ?_⟩
      dsimp only [flat, unc, unc1, List.nil_append, List.cons_append]
      refine cond_f rfl ?_
      exact ⟨by unfold wants; rw [if_neg q]; rfl, e1⟩
  | some er =>
    obtain ⟨ax, rfl, bx⟩ := v
    obtain ⟨hs1, hs2⟩ := hs er rfl
    have bx1 := bx.keep e1 (by simp)
    refine cond_mk (fun q => ?_) (fun q => ?_)
    · have q : w = 0 := eqN_t q
      refine sem_bool (fun K' hK => by rw [eqIN]; exact hK) ?_
      exact ⟨by unfold wants; rw [if_pos q]; rfl, e1⟩
    have q : ¬ w = 0 := eqN_f q
    have ww : wants a w (some er) = decide (er = (a, w)) := by
      unfold wants
      rw [if_neg q]
      simp
    show semW _ _ _ _
    rw [asR]
    refine ⟨(some ⟨ax, 0, none⟩, true, ()), rfl, ?_⟩
    dsimp only [flat, unc, unc1, List.nil_append, List.cons_append]
    refine cond_t rfl ?_
    refine cond_t rfl ?_
    refine osome_mk rfl ?_
    refine loads_box bx1 ((er.1 : Int), ()) rfl ?_
    dsimp only [flat, unc, unc1, List.nil_append, List.cons_append]
    refine loads_box b1 ((a : Int), ()) rfl ?_
    dsimp only [flat, unc, unc1, List.nil_append, List.cons_append]
    refine cond_sw (fun r => ?_) (fun r => ?_)
    · have r : ¬ er.1 = a := eqN_f r
      exact ⟨by rw [ww, decide_eq_false (fun e => r (by rw [e]))], e1⟩
    have r : er.1 = a := eqN_t r
    refine osome_mk rfl ?_
    rw [add_box]
    refine loads_box bx1 ((er.2 : Int), ()) rfl ?_
    dsimp only [flat, unc, unc1, List.nil_append, List.cons_append]
    refine loads_box b1 ((w : Int), ()) rfl ?_
    dsimp only [flat, unc, unc1, List.nil_append, List.cons_append]
    refine cond_sw (fun s => ?_) (fun s => ?_)
    · have s : ¬ er.2 = w := eqN_f s
      exact ⟨by rw [ww, decide_eq_false (fun e => s (by rw [e]))], e1⟩
    have s : er.2 = w := eqN_t s
    have ok : wants a w (some er) = true := by
      rw [ww]
      exact decide_eq_true (Prod.ext r s)
    rw [ok]
    have p1 := p.keep e1 (by simp)
    refine call_of (error_hc p1 hs1 hs2 bx1) ?_
    rintro _ h2 ⟨t, rfl, ht, e2⟩
    refine ⟨(t, ()), rfl, ?_⟩
    dsimp only [flat, unc, unc1, List.nil_append, List.cons_append]
    have b12 := b1.keep e2 (by simp)
    have bx2 := bx1.keep e2 (by simp)
    refine ⟨⟨b12.cells _ rfl, bx2.cells _ rfl, b12.cells _ rfl, bx2.cells _ rfl, trivial⟩, ?_⟩
    refine cond_t (by rw [ByteArray.toList_eq]; simpa using ht) ?_
    refine osome_mk rfl ?_
    refine loads_box bx2 ((er.2 : Int), ()) rfl ?_
    dsimp only [flat, unc, unc1, List.nil_append, List.cons_append]
    refine call_p (unwrap_hc bx2) (.iface 48 (.int .i64 (er.2 : Int)), ()) rfl ?_
    dsimp only [flat, unc, unc1, List.nil_append, List.cons_append]
    refine ⟨⟨bx2.cells _ rfl, b12.cells _ rfl, bx2.cells _ rfl, b12.cells _ rfl, bx2.cells _ rfl, trivial⟩, ?_⟩
    refine call_bool (sameErr_hc h2 er.2) ?_
    refine ⟨⟨bx2.cells _ rfl, b12.cells _ rfl, bx2.cells _ rfl, b12.cells _ rfl, bx2.cells _ rfl, trivial⟩, ?_⟩
    refine cond_t rfl ?_
    refine loads_box b12 ((w : Int), ()) rfl ?_
    dsimp only [flat, unc, unc1, List.nil_append, List.cons_append]
    rw [s] at bx2
    refine call_bool (is_hc bx2) ?_
    refine ⟨⟨b12.cells _ rfl, bx2.cells _ (by rw [s]; rfl), b12.cells _ rfl, bx2.cells _ (by rw [s]; rfl), b12.cells _ rfl, bx2.cells _ rfl, trivial⟩, ?_⟩
    exact ⟨rfl, e1.trans e2⟩
end Go.Sx.Ob

set_option linter.unusedVariables false
set_option linter.unusedSimpArgs false
set_option maxRecDepth 100000
namespace Go.Sx.Ob
open Go.Proofs
theorem byC_get (bs : Bt) {i : Nat} (hi : i < bs.length) : (byC bs)[i]'(by rw [byC_length]; exact hi) = [.int .u8 (bs[i].toNat : Int)] := by
  unfold byC
  rw [List.getElem_map]
theorem SL.vwB {h : Hp} {b : Nat} {p : Option Addr} {l c : Nat} {bs : Bt} (s : SL h b 5 1 p l c (byC bs)) : VwB h p l bs :=
  ⟨by rw [s.1, byC_length], fun i hi => by
    obtain ⟨a, ha, hc⟩ := SL.at_ s (i := i) (by rw [byC_length]; exact hi)
    rw [byC_get bs hi] at hc
    exact ⟨a, ha, hc⟩⟩
theorem SL.capL {h : Hp} {b : Nat} {e : TypeId} {sz : Nat} {p : Option Addr} {l c : Nat} {xs : List (List Value)} (s : SL h b e sz p l c xs) : l ≤ c := by
  cases p with
  | none =>
    have h2 := s.2.2.2
    have h3 := s.1
    rw [h2] at h3
    simp at h3
    omega
  | some a =>
    obtain ⟨g, pre, rest, rfl, hbg, hlc, _⟩ := s.2.2
    exact hlc.1
theorem VwB.take {h : Hp} {p : Option Addr} {l : Nat} {bs : Bt} (v : VwB h p l bs) {n : Nat} (hn : n ≤ l) : VwB h p n (bs.take n) := by
  have hl := v.len
  refine ⟨by rw [List.length_take]; omega, fun i hi => ?_⟩
  rw [List.length_take] at hi
  obtain ⟨a, ha, hc⟩ := v.cells i (by omega)
  rw [List.getElem_take]
  exact ⟨a, ha, hc⟩
theorem cellsAt_bytes {h : Hp} {a : Addr} : ∀ (bs : Bt) (k : Nat), (∀ i, (hi : i < bs.length) → cellsAt h (a.add ((k + i) * 1)) 0 [.int .u8 (bs[i].toNat : Int)]) → cellsAt h a k (byC bs).flatten
  | [], _, _ => trivial
  | t :: us, k, hc => by
    have h0 := hc 0 (by simp)
    obtain ⟨h1, _⟩ := h0
    rw [add_add] at h1
    refine ⟨by simpa using h1, cellsAt_bytes us (k + 1) fun i hi => ?_⟩
    have := hc (i + 1) (by simpa using hi)
    rw [show k + (i + 1) = k + 1 + i by omega] at this
    exact this
theorem VwB.flat {h : Hp} {a : Addr} {l : Nat} {bs : Bt} (v : VwB h (some a) l bs) : cellsAt h a 0 (byC bs).flatten := by
  refine cellsAt_bytes bs 0 fun i hi => ?_
  obtain ⟨a', e, hc⟩ := v.cells i hi
  cases e
  rw [Nat.zero_add]
  exact hc
theorem vwB_flat {h : Hp} {a : Addr} {bs : Bt} (hc : cellsAt h a 0 (byC bs).flatten) : VwB h (some a) bs.length bs := by
  have key : ∀ (bs : Bt) (k : Nat), cellsAt h a k (byC bs).flatten → ∀ i, (hi : i < bs.length) → cellsAt h (a.add ((k + i) * 1)) 0 [.int .u8 (bs[i].toNat : Int)] := by
    intro bs
    induction bs with
    | nil => intro k _ i hi; simp at hi
    | cons t us ih =>
      intro k hc i hi
      obtain ⟨h1, h2⟩ := hc
      cases i with
      | zero => exact ⟨by rw [add_add]; simpa using h1, trivial⟩
      | succ i =>
        have := ih (k + 1) h2 i (by simpa using hi)
        rw [show k + (i + 1) = k + 1 + i by omega]
        exact this
  refine ⟨rfl, fun i hi => ⟨a, rfl, ?_⟩⟩
  have := key bs 0 hc i hi
  rw [Nat.zero_add] at this
  exact this
/-- []byte of a text that is written out. -/
theorem lit_conv {L : Lp} {K : Value → Hp → Prop} {h : Hp} {k : Option Addr → Nat → Nat → T} {n : Nat} {parts : Array (Nat × Value)} (bs : Bt) (hn : n = bs.length) (h0 : n ≠ 0) (hs : n ≤ 100)
    (hf : Instr.fill (fun j => some (j * 1, 1)) ((Array.range (n * 1)).map ((Value.int .u8 0).cells[· % (Value.int .u8 0).cells.size]!)) parts.toList = some ((byC bs).flatten : List Value).toArray)
    (hk : ∀ h' p c, VwB h' p n bs → n ≤ c → Ext h h' → k p n c L K h') :
    T.sem Tryz.prog (Instr.buildSlice 22 n parts) false [(false, [.slice 0])] (fun p l c => T.sem Tryz.prog (convert 22 22 (.slice p l c)) false [(false, [.slice 0])] k) L K h := by
  refine lit_of und22 byZ (by omega) (by omega) hf ?_
  intro h1 b1 e1 z1
  refine sem_slice (conv_of b1 ?_)
  intro h2 c2 k2 z2
  have v := vwB_flat c2
  rw [← hn] at v
  exact ⟨_, _, _, rfl, hk h2 _ _ v (Nat.le_refl _) (e1.st k2 (Nat.le_refl _))⟩
theorem readE_ok {full : Bt} {u v : Unt} {e : Option (Nat × Nat)} (h : ReadE full u e) (hr : readR full = .ok v) : e = none ∧ u = v := by
  cases e with
  | none =>
    have h : readR full = .ok u := h
    rw [h] at hr
    cases hr
    exact ⟨rfl, rfl⟩
  | some e =>
    obtain ⟨h, _⟩ := h
    rw [h] at hr
    cases hr
theorem readE_err {full : Bt} {u : Unt} {q : Nat × Nat} {e : Option (Nat × Nat)} (h : ReadE full u e) (hr : readR full = .error q) : e = some q ∧ u = unt0 := by
  cases e with
  | none =>
    have h : readR full = .ok u := h
    rw [h] at hr
    cases hr
  | some e =>
    obtain ⟨h, h2⟩ := h
    rw [h] at hr
    cases hr
    exact ⟨rfl, h2⟩
theorem UntAt.zero (h : Hp) : UntAt h sl0 sl0 sl0 sl0 unt0 := ⟨⟨rfl, by decide, fun i hi => by cases hi⟩, ⟨rfl, by decide, fun i hi => by cases hi⟩, ⟨rfl, by decide, fun i hi => by cases hi⟩, ⟨rfl, by decide, fun i hi => by cases hi⟩⟩
theorem wr0 : wrE unt0 = 0 := by decide
theorem rd0 : readR (wUnt unt0) = .ok unt0 := by rfl
theorem rdM : readR [83, 80, 65, 77] = .error (3, 15) := by rfl
theorem fillM : Instr.fill (fun j => some (j * 1, 1)) ((Array.range (4 * 1)).map ((Value.int .u8 0).cells[· % (Value.int .u8 0).cells.size]!)) [(0, .int .u8 (83 : Int)), (1, .int .u8 (80 : Int)), (2, .int .u8 (65 : Int)), (3, .int .u8 (77 : Int))] = some ((byC [83, 80, 65, 77]).flatten : List Value).toArray := by kernel_rfl
/-- A unit that was read is put aside. -/
theorem aside {L : Lp} {K : Value → Hp → Prop} {h : Hp} {a b c d : Sli} {k : Addr → T} (hk : ∀ h', Box h' h.size 28 [a.v, b.v, c.v, d.v] → Ext h h' → k ⟨h.size, 0, none⟩ L K h') :
    (T.new [.slice none 0 0, .slice none 0 0, .slice none 0 0, .slice none 0 0] 28 fun x => T.stores x [.slice a.p a.l a.c, .slice b.p b.l b.c, .slice c.p c.l c.c, .slice d.p d.l d.c] (k x)) L K h := by
  refine newB ?_
  intro h1 b1 e1 z1
  refine stores_of b1 rfl (by simp) ?_
  intro h2 b2 k2 z2
  exact hk h2 b2 (e1.st k2 (Nat.le_refl _))
theorem known_hc {h : Hp} (t : Tab h) (p : Pow10 h) : HC Tryz.prog 11 #[] h fun w h' => w = .bool true ∧ Ext h h' := by
  refine hcr_of (args := []) mixed Tryz.func11 (by kernel_rfl) t_spandrellaw10_known_eq ?_
  unfold t_spandrellaw10_known
  refine call_of (write_hc (a := sl0) (b := sl0) (c := sl0) (d := sl0) t (UntAt.zero h) (by decide)) ?_
  rintro _ h1 ⟨s, rfl, _, hs, e1⟩
  rw [wr0] at hs ⊢
  have sl := hs rfl
  refine ⟨((s.p, s.l, s.c), (0 : Int), ()), rfl, ?_⟩
  dsimp only [flat, unc, unc1, List.nil_append, List.cons_append]
  refine call_of (read_hc (t.keep e1 (by simp)) (SL.vwB sl) (SL.capL sl) (by decide)) ?_
  rintro _ h2 ⟨a, b, c, d, ev, u, e, rfl, own, ea, re, _, e2⟩
  obtain ⟨rfl, rfl⟩ := readE_ok re rd0
  have ea : ev = .nilIface := ea
  subst ea
  refine ⟨((a.p, a.l, a.c), (b.p, b.l, b.c), (c.p, c.l, c.c), (d.p, d.l, d.c), .nilIface, ()), rfl, ?_⟩
  dsimp only [flat, unc, unc1, List.nil_append, List.cons_append]
  refine aside ?_
  intro h3 b3 e3
  refine lit_conv [83, 80, 65, 77] rfl (by decide) (by decide) fillM ?_
  intro h4 q m v4 hm e4
  have e04 := ((e1.trans e2).trans e3).trans e4
  refine call_of (read_hc (t.keep e04 (by simp)) v4 hm (by decide)) ?_
  rintro _ h5 ⟨a', b', c', d', ev', u', e', rfl, own', ea', re', _, e5⟩
  obtain ⟨rfl, rfl⟩ := readE_err re' rdM
  refine ⟨((a'.p, a'.l, a'.c), (b'.p, b'.l, b'.c), (c'.p, c'.l, c'.c), (d'.p, d'.l, d'.c), ev', ()), rfl, ?_⟩
  dsimp only [flat, unc, unc1, List.nil_append, List.cons_append]
  refine aside ?_
  intro h6 b6 e6
  refine cond_t rfl ?_
  have sl6 := (((((sl.keep e2 (by simp)).keep e3 (by simp)).keep e4 (by simp)).keep e5 (by simp)).keep e6 (by simp))
  refine toStr_of sl6 (by decide) ?_
  refine cond_t (by rw [ByteArray.toList_eq]; decide) ?_
  refine sem_bool (fun K' hK => by rw [eqNN]; exact hK) ?_
  refine cond_t rfl ?_
  have e36 := (e4.trans e5).trans e6
  refine loads_box (b3.keep e36 (by simp)) ((a.p, a.l, a.c), (b.p, b.l, b.c), (c.p, c.l, c.c), (d.p, d.l, d.c), ()) rfl ?_
  dsimp only [flat, unc, unc1, List.nil_append, List.cons_append]
  refine call_of (sameUnit_hc (a' := sl0) (b' := sl0) (c' := sl0) (d' := sl0) ((own.keep (e3.trans e36) (by simp)).at) (UntAt.zero h6)) ?_
  rintro _ h7 ⟨r, rfl, hr, e7⟩
  have hr := hr.2 rfl
  subst hr
  refine ⟨(true, ()), rfl, ?_⟩
  dsimp only [flat, unc, unc1, List.nil_append, List.cons_append]
  refine cond_t rfl ?_
  have e07 := ((e04.trans e5).trans e6).trans e7
  have ea7 : ErrAt h7 ev' (some (3, 15)) := by
    obtain ⟨x, h1, h2⟩ := ea'
    exact ⟨x, h1, (h2.keep e6 (by simp)).keep e7 (by simp)⟩
  refine call_boolx (refused_hc (p.keep e07 (by simp)) ea7 (fun q hq => by cases hq; decide) 3 15) ?_
  intro h8 e8
  exact ⟨rfl, e07.trans e8⟩
end Go.Sx.Ob
