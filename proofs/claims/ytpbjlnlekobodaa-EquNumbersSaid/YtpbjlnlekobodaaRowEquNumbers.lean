/- EquNumbers: the law answers true. No condition. -/
import Derived.Test.YtpbjlnlekobodaaP6
import Derived.ChangeMaps5
import Derived.OpenShut
import Derived.JoinedCond
set_option linter.unusedVariables false
set_option linter.unusedSimpArgs false
set_option maxRecDepth 100000
namespace Go.Proofs.Ytpbjlnlekobodaa
open Go.Sx
open Go.ChangeMaps
open Go.ChangeShapes Go.WideShapes Go.ChangeAt Go.WideMaps Go.WideElems Go.RowKit
theorem equNumbers_u3 : Try.prog.underlying 3 = some (.int .i64) := by kernel_rfl
theorem equNumbers_small : (Try.f5.params.toList.all fun t => decide (t < Try.prog.types.size)) = true := by kernel_rfl
theorem equNumbers_cell0 : Try.prog.inPlace 5 = Rows.equNumbersRow.inPlace := by kernel_rfl
theorem equNumbers_cell1 : Try.prog.unfollowed 5 = Rows.equNumbersRow.unfollowed := by kernel_rfl
theorem equNumbers_cell2 : Try.prog.recurses 5 = Rows.equNumbersRow.recurses := by kernel_rfl
theorem equNumbers_cell3 : Try.prog.varsNamed 5 = Rows.equNumbersRow.named := by kernel_rfl
theorem equNumbers_facts : joinedFacts Try.prog 5 Try.f5 Rows.equNumbersSpec Rows.equNumbersRow = true := by
  unfold joinedFacts
  rw [equNumbers_cell0, equNumbers_cell1, equNumbers_cell2, equNumbers_cell3]
  kernel_rfl
theorem equNumbers_lifted (os : Os) (started : os.Started) (H : Type) (enc : TypeId × Value → H) :
    ReturnsInHanded {} Try.checked os 5 .any (Rows.equNumbersSpec.pre6 enc Try.prog Try.f5 Rows.equNumbersRow.domain false) (Rows.equNumbersSpec.post enc Try.prog Try.f5 false true false false) := by
  refine returnsInHanded_of_change (C := Try.checked) ownK started (by kernel_rfl) Try.func5
    (ChangeSpec.witness6 (enc := enc) (C := Try.checked) false ⟨#[], #[], []⟩ 8 (by kernel_rfl) (by kernel_rfl) (by kernel_rfl) (by kernel_rfl)) ?_
  intro W base args ds gs before hval0 hW _ _
  have hval : ∀ (j : Nat) t v, Try.f5.params[j]? = some t → args[j]? = some v → Value.okWide Try.prog W .any base t v := hval0
  have hW' := hW
  obtain ⟨p, q, hA0, hV, rfl, hfz, hnd⟩ := hW
  have hA : DataW.TrodAll enc Try.prog W 0 (fun _ => true) true Try.f5.params.toList args.toList ds p := hA0
  have hpf : Try.f5.params = #[] := by kernel_rfl
  rw [hpf] at hA hval
  clear hA0 hval0
  obtain ⟨ha, rfl, rfl⟩ := trodAll_nil hA
  obtain ⟨args⟩ := args
  simp only at ha
  subst ha
  obtain ⟨rfl, rfl⟩ := trodVars_none hV
  simp only [List.append_nil] at hW'
  refine (calls_of (equNumbers_hc W.heap) (fun _ _ h => h.2)).mono fun e W' ⟨v, he, hB, hv, _⟩ => ?_
  subst he hv
  exact ⟨_, rfl, post_old rfl hW' (fun _ _ _ => trodAll_mk1 (shut_bool u4 _)) rfl rfl (fun t ht => of_decide_eq_true (List.all_eq_true.1 equNumbers_small t ht)) hB⟩
theorem equNumbers_proved : Rows.EquNumbersSaid :=
  OpenClaim.holds_of_wide 5 Try.f5 rfl rfl rfl rfl rfl rfl rfl ⟨rfl, rfl, rfl, rfl, rfl⟩ rfl rfl rfl rfl rfl (by kernel_rfl) Try.func5 equNumbers_facts
    (of_decide_eq_true (by kernel_rfl)) (by unfold Func.isWrapper; first | (rw [if_pos (by decide +kernel)]; kernel_rfl) | (rw [if_neg (by decide +kernel)]; exact ⟨rfl, rfl⟩))
    (fun os started H enc _ => equNumbers_lifted os started H enc)
end Go.Proofs.Ytpbjlnlekobodaa
