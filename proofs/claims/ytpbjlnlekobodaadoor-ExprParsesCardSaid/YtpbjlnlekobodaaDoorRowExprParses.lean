/- The row: it answers true. Condition: the listed variables, as the row says. -/
import Derived.Test.YtpbjlnlekobodaaDoorExprPP
import Derived.Test.YtpbjlnlekobodaaDoorFrameG
import Derived.Test.YtpbjlnlekobodaaDoorFrameF
import Derived.ChangeMaps5
import Derived.Test.YtpbjlnlekobodaaDoorTie
import Derived.Test.YtpbjlnlekobodaaDoorCards
import Derived.SevenTiedAt
set_option linter.unusedVariables false
set_option linter.unusedSimpArgs false
set_option maxRecDepth 100000
namespace Go.Sx
open Go.Proofs Go.Proofs.YtpbjlnlekobodaaDoor
open Go.ChangeMaps
open Go.ChangeShapes Go.WideShapes Go.ChangeAt Go.WideMaps Go.WideElems Go.RowKit
theorem exprParses_small : (Tryd.f14.params.toList.all fun t => decide (t < Tryd.prog.types.size)) = true := by kernel_rfl
theorem exprParses_cell0 : Tryd.prog.inPlace 14 = Rows.exprParsesRow.inPlace := by kernel_rfl
theorem exprParses_cell1 : Tryd.prog.unfollowed 14 = Rows.exprParsesRow.unfollowed := by kernel_rfl
theorem exprParses_cell2 : Tryd.prog.recurses 14 = Rows.exprParsesRow.recurses := by kernel_rfl
theorem exprParses_cell3 : Tryd.prog.varsNamed 14 = Rows.exprParsesRow.named := by kernel_rfl
theorem exprParses_facts : joinedFacts Tryd.prog 14 Tryd.f14 Rows.exprParsesSpec Rows.exprParsesRow = true := by
  unfold joinedFacts
  rw [exprParses_cell0, exprParses_cell1, exprParses_cell2, exprParses_cell3]
  kernel_rfl
theorem exprParses_lifted (os : Os) (started : os.Started) (H : Type) (enc : TypeId × Value → H) :
    ReturnsInHanded {} Tryd.checked os 14 .any (fun w args => (Rows.exprParsesSpec.pre enc Tryd.prog Tryd.f14 [] false w args ∧ laidMetH Tryd.prog Rows.exprParsesRow.laid w) ∧ sizedMet enc Tryd.prog Tryd.f14 (OpenSpec.ofChange Rows.exprParsesSpec) false w args)
      (Rows.exprParsesSpec.post enc Tryd.prog Tryd.f14 false true false false) := by
  refine returnsInHanded_of_change_and (C := Tryd.checked) (X := fun w _ => laidMetH Tryd.prog Rows.exprParsesRow.laid w) (fun _ _ _ hh h => h.of_heap hh) ownK started (by kernel_rfl) Tryd.func14
    (ChangeSpec.witness_shaped (enc := enc) (C := Tryd.checked) (os := os) (X := fun w _ => laidMetH Tryd.prog Rows.exprParsesRow.laid w) false (World.doorLaid Tryd.prog 400 os) #[.string ⟨#[]⟩] 8 rfl (World.shaped_of_RefB (by kernel_rfl) (by kernel_rfl)) (by kernel_rfl) (by kernel_rfl) (by kernel_rfl) (door_met4 os _)) ?_
  intro W base args ds gs before hval0 hW _ _ hL _
  have hval : ∀ (j : Nat) t v, Tryd.f14.params[j]? = some t → args[j]? = some v → Value.okWide Tryd.prog W .any base t v := hval0
  have hW' := hW
  obtain ⟨p, q, hA0, hV, rfl, hfz, hnd⟩ := hW
  have hA : DataW.TrodAll enc Tryd.prog W 0 (fun _ => true) true Tryd.f14.params.toList args.toList ds p := hA0
  have hpf : Tryd.f14.params = #[9] := by kernel_rfl
  rw [hpf] at hA hval
  clear hA0 hval0
  obtain ⟨v0, vs0, d0, ds0, p0, q0, hv0, rfl, rfl, t0, hA1⟩ := trodAll_cons hA
  obtain ⟨rfl, rfl, rfl⟩ := trodAll_nil hA1
  obtain ⟨args⟩ := args
  simp only at hv0
  subst hv0
  obtain ⟨rfl, rfl⟩ := trodVars_none hV
  obtain ⟨x0, rfl, rfl, rfl, h0⟩ := open_string u9 (hval 0 9 v0 rfl rfl) t0
  simp only [List.append_nil] at hW'
  refine (calls_of (exprParses_hc x0 (pow10_of hL)) (fun _ _ h => h.2)).mono fun e W' ⟨v, he, hB, hv, _⟩ => ?_
  subst he hv
  exact ⟨_, rfl, post_old rfl hW' (fun _ _ _ => trodAll_mk1 (shut_bool u4 _)) rfl rfl (fun t ht => of_decide_eq_true (List.all_eq_true.1 exprParses_small t ht)) hB⟩
theorem exprParses_holds : Rows.ExprParsesSaid :=
  OpenClaim.holds_of_wide 14 Tryd.f14 rfl rfl rfl rfl rfl rfl rfl ⟨rfl, rfl, rfl, rfl, rfl⟩ rfl rfl rfl rfl rfl (by kernel_rfl) Tryd.func14 exprParses_facts
    (of_decide_eq_true (by kernel_rfl)) (by unfold Func.isWrapper; first | (rw [if_pos (by decide +kernel)]; kernel_rfl) | (rw [if_neg (by decide +kernel)]; exact ⟨rfl, rfl⟩))
    (fun os started H enc _ => exprParses_lifted os started H enc)
end Go.Sx
