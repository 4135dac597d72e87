/- The row: it answers true. Condition: the listed variables, as the row says. -/
import Derived.Test.YtpbjlnlekobodaaDoorExprVa
import Derived.Test.YtpbjlnlekobodaaDoorFrameG
import Derived.Test.YtpbjlnlekobodaaDoorFrameF
import Derived.ChangeMaps5
import Derived.Test.YtpbjlnlekobodaaDoorTie
import Derived.Test.YtpbjlnlekobodaaDoorCards
import Derived.SevenTiedAt
set_option linter.unusedVariables false
set_option linter.unusedSimpArgs false
set_option linter.deprecated false
set_option maxRecDepth 100000
namespace Go.Sx
open Go.Proofs Go.Proofs.YtpbjlnlekobodaaDoor
open Go.ChangeMaps
open Go.ChangeShapes Go.WideShapes Go.ChangeAt Go.WideMaps Go.WideElems Go.RowKit
theorem exprValues_small : (Tryd.f15.params.toList.all fun t => decide (t < Tryd.prog.types.size)) = true := by kernel_rfl
theorem exprValues_cell0 : Tryd.prog.inPlace 15 = Rows.exprValuesUptoRow.inPlace := by kernel_rfl
theorem exprValues_cell1 : Tryd.prog.unfollowed 15 = Rows.exprValuesUptoRow.unfollowed := by kernel_rfl
theorem exprValues_cell2 : Tryd.prog.recurses 15 = Rows.exprValuesUptoRow.recurses := by kernel_rfl
theorem exprValues_cell3 : Tryd.prog.varsNamed 15 = Rows.exprValuesUptoRow.named := by kernel_rfl
theorem exprValues_facts : joinedFacts Tryd.prog 15 Tryd.f15 (Rows.OpenSpec.upto Rows.exprValuesSpec).bare Rows.exprValuesUptoRow = true := by
  unfold joinedFacts
  rw [exprValues_cell0, exprValues_cell1, exprValues_cell2, exprValues_cell3]
  kernel_rfl
theorem exprValues_lifted (os : Os) (started : os.Started) (H : Type) (enc : TypeId × Value → H) (F : Stop.Interp) :
    ReturnsInHanded {} Tryd.checked os 15 .any (fun w args => ((Rows.OpenSpec.upto Rows.exprValuesSpec).pre enc Tryd.prog Tryd.f15 [] false w args ∧ laidMetH Tryd.prog Rows.exprValuesUptoRow.laid w) ∧ sizedMet enc Tryd.prog Tryd.f15 (Rows.OpenSpec.upto Rows.exprValuesSpec) false w args)
      (((Rows.OpenSpec.upto Rows.exprValuesSpec).at F).post enc Tryd.prog Tryd.f15 false true false false) := by
  refine ret_cond (k := Rows.uptoSmall) rfl (C := Tryd.checked) (X := fun w _ => laidMetH Tryd.prog Rows.exprValuesUptoRow.laid w) (fun _ _ _ hh h => h.of_heap hh) ownK started (by kernel_rfl) Tryd.func15
    (cond_start (k := Rows.uptoSmall) rfl (C := Tryd.checked) (os := os) (X := fun w _ => laidMetH Tryd.prog Rows.exprValuesUptoRow.laid w) (World.doorLaid Tryd.prog 400 os) #[.agg #[.slice none 0 0, .int .u32 0], .agg #[.slice none 0 0, .int .u32 0], .int .u32 0, .slice none 0 0] 8 rfl (World.shaped_of_RefB (by kernel_rfl) (by kernel_rfl)) (by kernel_rfl) (x := ([.agg [.nil, .lit (.int .u32 0)], .agg [.nil, .lit (.int .u32 0)], .lit (.int .u32 0), .nil], [], [])) (by kernel_rfl) rfl (by kernel_rfl) (door_met4 os _)) ?_
  intro W base args ds gs before hval0 hW hk hL
  have hval : ∀ (j : Nat) t v, Tryd.f15.params[j]? = some t → args[j]? = some v → Value.okWide Tryd.prog W .any base t v := hval0
  have hW' := hW
  obtain ⟨p, q, hA0, hV, rfl, hfz, hnd⟩ := hW
  have hA : DataW.TrodAll enc Tryd.prog W 0 (fun _ => true) true Tryd.f15.params.toList args.toList ds p := hA0
  have hpf : Tryd.f15.params = #[69, 69, 33, 76] := by kernel_rfl
  rw [hpf] at hA hval
  clear hA0 hval0
  obtain ⟨v0, vs0, d0, ds0, p0, q0, hv0, rfl, rfl, t0, hA1⟩ := trodAll_cons hA
  obtain ⟨v1, vs1, d1, ds1, p1, q1, hv1, rfl, rfl, t1, hA2⟩ := trodAll_cons hA1
  subst hv1
  obtain ⟨v2, vs2, d2, ds2, p2, q2, hv2, rfl, rfl, t2, hA3⟩ := trodAll_cons hA2
  subst hv2
  obtain ⟨v3, vs3, d3, ds3, p3, q3, hv3, rfl, rfl, t3, hA4⟩ := trodAll_cons hA3
  subst hv3
  obtain ⟨rfl, rfl, rfl⟩ := trodAll_nil hA4
  obtain ⟨args⟩ := args
  simp only at hv0
  subst hv0
  obtain ⟨rfl, rfl⟩ := trodVars_none hV
  obtain ⟨a0, l0, c0, x0, rfl, h0⟩ := open_lin (hval 0 69 v0 rfl rfl) t0
  obtain ⟨a1, l1, c1, x1, rfl, h1⟩ := open_lin (hval 1 69 v1 rfl rfl) t1
  obtain ⟨y2, rfl, rfl, rfl, h2⟩ := open_int u33 (hval 2 33 v2 rfl rfl) t2
  obtain ⟨x2, rfl⟩ : ∃ n : Nat, y2 = (n : Int) := ⟨y2.toNat, by have := bounds_u32 h2; omega⟩
  obtain ⟨a3, l3, c3, x3, rfl, h3⟩ := open_nums (hval 3 76 v3 rfl rfl) t3
  simp only [List.append_nil] at hW'
  have hk := of_decide_eq_true hk
  simp only [List.append_nil, List.nil_append, List.cons_append, Rows.uptoBulkAll] at hk
  refine (calls_of (exprValues_hc h0 h1 x2 h3 (pow10_of hL) (by have := h0.many; omega) (by have := h1.many; omega)) (fun _ _ h => h.2)).mono fun e W' ⟨v, he, hB, hv, _⟩ => ?_
  subst he hv
  exact ⟨_, rfl, post_old rfl hW' (fun _ _ _ => trodAll_mk1 (shut_bool u4 _)) rfl rfl (fun t ht => of_decide_eq_true (List.all_eq_true.1 exprValues_small t ht)) hB⟩
theorem exprValues_holds : Rows.ExprValuesUptoSaid :=
  OpenClaim.holds_of_cond 15 Tryd.f15 rfl rfl rfl rfl rfl rfl rfl ⟨rfl, rfl, rfl, rfl, rfl⟩ rfl rfl rfl rfl rfl (by kernel_rfl) Tryd.func15 exprValues_facts
    (of_decide_eq_true (by kernel_rfl)) (by unfold Func.isWrapper; first | (rw [if_pos (by decide +kernel)]; kernel_rfl) | (rw [if_neg (by decide +kernel)]; exact ⟨rfl, rfl⟩))
    (fun os started H enc _ F => exprValues_lifted os started H enc F)
end Go.Sx
