/- The row: it answers true. Condition: the listed variables, as the row says. -/
import Derived.Test.YtpbjlnlekobodaaDoorExprSG
import Derived.Test.YtpbjlnlekobodaaDoorFrameG
import Derived.Test.YtpbjlnlekobodaaDoorFrameF
import Derived.ChangeMaps5
import Derived.Test.YtpbjlnlekobodaaDoorTie
import Derived.Test.YtpbjlnlekobodaaDoorCards
import Derived.SevenTiedAt
set_option linter.unusedVariables false
set_option linter.unusedSimpArgs false
set_option maxRecDepth 100000
namespace Go.Sx
open Go.Proofs Go.Proofs.YtpbjlnlekobodaaDoor
open Go.ChangeMaps
open Go.ChangeShapes Go.WideShapes Go.ChangeAt Go.WideMaps Go.WideElems Go.RowKit
theorem exprGroups_small : (Tryd.f19.params.toList.all fun t => decide (t < Tryd.prog.types.size)) = true := by kernel_rfl
theorem exprGroups_cell0 : Tryd.prog.inPlace 19 = Rows.exprGroupsUptoRow.inPlace := by kernel_rfl
theorem exprGroups_cell1 : Tryd.prog.unfollowed 19 = Rows.exprGroupsUptoRow.unfollowed := by kernel_rfl
theorem exprGroups_cell2 : Tryd.prog.recurses 19 = Rows.exprGroupsUptoRow.recurses := by kernel_rfl
theorem exprGroups_cell3 : Tryd.prog.varsNamed 19 = Rows.exprGroupsUptoRow.named := by kernel_rfl
theorem exprGroups_facts : joinedFacts Tryd.prog 19 Tryd.f19 (Rows.OpenSpec.upto Rows.exprGroupsSpec).bare Rows.exprGroupsUptoRow = true := by
  unfold joinedFacts
  rw [exprGroups_cell0, exprGroups_cell1, exprGroups_cell2, exprGroups_cell3]
  kernel_rfl
theorem exprGroups_lifted (os : Os) (started : os.Started) (H : Type) (enc : TypeId × Value → H) (F : Stop.Interp) :
    ReturnsInHanded {} Tryd.checked os 19 .any (fun w args => ((Rows.OpenSpec.upto Rows.exprGroupsSpec).pre enc Tryd.prog Tryd.f19 [] false w args ∧ laidMetH Tryd.prog Rows.exprGroupsUptoRow.laid w) ∧ sizedMet enc Tryd.prog Tryd.f19 (Rows.OpenSpec.upto Rows.exprGroupsSpec) false w args)
      (((Rows.OpenSpec.upto Rows.exprGroupsSpec).at F).post enc Tryd.prog Tryd.f19 false true false false) := by
  refine ret_cond (k := Rows.uptoSmall) rfl (C := Tryd.checked) (X := fun w _ => laidMetH Tryd.prog Rows.exprGroupsUptoRow.laid w) (fun _ _ _ hh h => h.of_heap hh) ownK started (by kernel_rfl) Tryd.func19
    (cond_start (k := Rows.uptoSmall) rfl (C := Tryd.checked) (os := os) (X := fun w _ => laidMetH Tryd.prog Rows.exprGroupsUptoRow.laid w) (World.doorLaid Tryd.prog 400 os) #[.agg #[.slice none 0 0, .int .u32 0], .agg #[.slice none 0 0, .int .u32 0], .agg #[.slice none 0 0, .int .u32 0], .int .u32 0] 8 rfl (World.shaped_of_RefB (by kernel_rfl) (by kernel_rfl)) (by kernel_rfl) (x := ([.agg [.nil, .lit (.int .u32 0)], .agg [.nil, .lit (.int .u32 0)], .agg [.nil, .lit (.int .u32 0)], .lit (.int .u32 0)], [], [])) (by kernel_rfl) rfl (by kernel_rfl) (door_met4 os _)) ?_
  intro W base args ds gs before hval0 hW hk hL
  have hval : ∀ (j : Nat) t v, Tryd.f19.params[j]? = some t → args[j]? = some v → Value.okWide Tryd.prog W .any base t v := hval0
  have hW' := hW
  obtain ⟨p, q, hA0, hV, rfl, hfz, hnd⟩ := hW
  have hA : DataW.TrodAll enc Tryd.prog W 0 (fun _ => true) true Tryd.f19.params.toList args.toList ds p := hA0
  have hpf : Tryd.f19.params = #[69, 69, 69, 33] := by kernel_rfl
  rw [hpf] at hA hval
  clear hA0 hval0
  obtain ⟨v0, vs0, d0, ds0, p0, q0, hv0, rfl, rfl, t0, hA1⟩ := trodAll_cons hA
  obtain ⟨v1, vs1, d1, ds1, p1, q1, hv1, rfl, rfl, t1, hA2⟩ := trodAll_cons hA1
  subst hv1
  obtain ⟨v2, vs2, d2, ds2, p2, q2, hv2, rfl, rfl, t2, hA3⟩ := trodAll_cons hA2
  subst hv2
  obtain ⟨v3, vs3, d3, ds3, p3, q3, hv3, rfl, rfl, t3, hA4⟩ := trodAll_cons hA3
  subst hv3
  obtain ⟨rfl, rfl, rfl⟩ := trodAll_nil hA4
  obtain ⟨args⟩ := args
  simp only at hv0
  subst hv0
  obtain ⟨rfl, rfl⟩ := trodVars_none hV
  obtain ⟨a0, l0, c0, x0, rfl, h0⟩ := open_lin (hval 0 69 v0 rfl rfl) t0
  obtain ⟨a1, l1, c1, x1, rfl, h1⟩ := open_lin (hval 1 69 v1 rfl rfl) t1
  obtain ⟨a2, l2, c2, x2, rfl, h2⟩ := open_lin (hval 2 69 v2 rfl rfl) t2
  obtain ⟨y3, rfl, rfl, rfl, h3⟩ := open_int u33 (hval 3 33 v3 rfl rfl) t3
  obtain ⟨x3, rfl⟩ : ∃ n : Nat, y3 = (n : Int) := ⟨y3.toNat, by have := bounds_u32 h3; omega⟩
  simp only [List.append_nil] at hW'
  have hk := of_decide_eq_true hk
  simp only [List.append_nil, List.nil_append, List.cons_append, Rows.uptoBulkAll] at hk
  refine (calls_of (exprGroups_hc h0 h1 h2 x3 (pow10_of hL) (by have := h0.many; omega) (by have := h1.many; omega) (by have := h2.many; omega)) (fun _ _ h => h.2)).mono fun e W' ⟨v, he, hB, hv, _⟩ => ?_
  subst he hv
  exact ⟨_, rfl, post_old rfl hW' (fun _ _ _ => trodAll_mk1 (shut_bool u4 _)) rfl rfl (fun t ht => of_decide_eq_true (List.all_eq_true.1 exprGroups_small t ht)) hB⟩
theorem exprGroups_holds : Rows.ExprGroupsUptoSaid :=
  OpenClaim.holds_of_cond 19 Tryd.f19 rfl rfl rfl rfl rfl rfl rfl ⟨rfl, rfl, rfl, rfl, rfl⟩ rfl rfl rfl rfl rfl (by kernel_rfl) Tryd.func19 exprGroups_facts
    (of_decide_eq_true (by kernel_rfl)) (by unfold Func.isWrapper; first | (rw [if_pos (by decide +kernel)]; kernel_rfl) | (rw [if_neg (by decide +kernel)]; exact ⟨rfl, rfl⟩))
    (fun os started H enc _ F => exprGroups_lifted os started H enc F)
end Go.Sx
