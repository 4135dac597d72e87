/- The row: it answers true. Condition: the listed variables, as the row says. -/
import Derived.Test.YtpbjlnlekobodaaDoorFrameG
import Derived.ChangeMaps5
import Derived.Test.YtpbjlnlekobodaaDoorTie
import Derived.Test.YtpbjlnlekobodaaDoorCards
import Derived.SevenTiedAt
set_option linter.unusedVariables false
set_option linter.unusedSimpArgs false
set_option linter.deprecated false
set_option maxRecDepth 100000
namespace Go.Sx
open Go.Proofs Go.Proofs.YtpbjlnlekobodaaDoor
open Go.ChangeMaps
open Go.ChangeShapes Go.WideShapes Go.ChangeAt Go.WideMaps Go.WideElems Go.RowKit
theorem exprNumbers_lifted (os : Os) (started : os.Started) (H : Type) (enc : TypeId × Value → H) :
    ReturnsInHanded {} Tryd.checked os 17 .any (fun w args => (Rows.exprNumbersSpec.pre enc Tryd.prog Tryd.f17 [] false w args ∧ laidMetH Tryd.prog Rows.exprNumbersRow.laid w) ∧ sizedMet enc Tryd.prog Tryd.f17 (OpenSpec.ofChange Rows.exprNumbersSpec) false w args)
      (Rows.exprNumbersSpec.post enc Tryd.prog Tryd.f17 false true false false) := by
  refine returnsInHanded_of_change_and (C := Tryd.checked) (X := fun w _ => laidMetH Tryd.prog Rows.exprNumbersRow.laid w) (fun _ _ _ hh h => h.of_heap hh) ownK started (by kernel_rfl) Tryd.func17
    (ChangeSpec.witness_shaped (enc := enc) (C := Tryd.checked) (os := os) (X := fun w _ => laidMetH Tryd.prog Rows.exprNumbersRow.laid w) false (World.doorLaid Tryd.prog 400 os) #[] 8 rfl (World.shaped_of_RefB (by kernel_rfl) (by kernel_rfl)) (by kernel_rfl) (by kernel_rfl) (by kernel_rfl) (door_met4 os _)) ?_
  intro W base args ds gs before hval0 hW _ _ hL _
  have hval : ∀ (j : Nat) t v, Tryd.f17.params[j]? = some t → args[j]? = some v → Value.okWide Tryd.prog W .any base t v := hval0
  have hW' := hW
  obtain ⟨p, q, hA0, hV, rfl, hfz, hnd⟩ := hW
  have hA : DataW.TrodAll enc Tryd.prog W 0 (fun _ => true) true Tryd.f17.params.toList args.toList ds p := hA0
  have hpf : Tryd.f17.params = #[] := by kernel_rfl
  rw [hpf] at hA hval
  obtain ⟨rfl, rfl, rfl⟩ := trodAll_none hA
  obtain ⟨rfl, rfl⟩ := trodVars_none hV
  clear hA0 hval0
  simp only [List.append_nil] at hW'
  refine (calls_of (exprNumbers_hc (pow10_of hL)) (fun _ _ h => h.2)).mono fun e W' ⟨v, he, hB, hv, _⟩ => ?_
  subst he hv
  exact ⟨_, rfl, post_new hW' (fun _ _ _ => trodAll_mk1 (shut_bool u4 _)) (fun _ => trodAll_mk0) (fun _ => rfl) hB (ok_one (by kernel_rfl) rfl (okWide_bool_mk u4 _))⟩
theorem exprNumbers_cell0 : Tryd.prog.inPlace 17 = Rows.exprNumbersRow.inPlace := by kernel_rfl
theorem exprNumbers_cell1 : Tryd.prog.unfollowed 17 = Rows.exprNumbersRow.unfollowed := by kernel_rfl
theorem exprNumbers_cell2 : Tryd.prog.recurses 17 = Rows.exprNumbersRow.recurses := by kernel_rfl
theorem exprNumbers_cell3 : Tryd.prog.varsNamed 17 = Rows.exprNumbersRow.named := by kernel_rfl
theorem exprNumbers_facts : joinedFacts Tryd.prog 17 Tryd.f17 Rows.exprNumbersSpec Rows.exprNumbersRow = true := by
  unfold joinedFacts
  rw [exprNumbers_cell0, exprNumbers_cell1, exprNumbers_cell2, exprNumbers_cell3]
  kernel_rfl
theorem exprNumbers_holds : Rows.ExprNumbersSaid :=
  OpenClaim.holds_of_wide 17 Tryd.f17 rfl rfl rfl rfl rfl rfl rfl ⟨rfl, rfl, rfl, rfl, rfl⟩ rfl rfl rfl rfl rfl (by kernel_rfl) Tryd.func17 exprNumbers_facts
    (of_decide_eq_true (by kernel_rfl)) (by unfold Func.isWrapper; first | (rw [if_pos (by decide +kernel)]; kernel_rfl) | (rw [if_neg (by decide +kernel)]; exact ⟨rfl, rfl⟩))
    (fun os started H enc _ => exprNumbers_lifted os started H enc)
end Go.Sx
