/- Part of the proof. No condition. -/
import Derived.Test.YtmdncdaladplkaaGreatDoorDcrM
import Derived.Test.YtmdncdaladplkaaGreatDoorDcrF
import Derived.ChangeMaps5
import Derived.Test.YtmdncdaladplkaaGreatDoorTie
import Derived.Test.YtmdncdaladplkaaGreatDoorCards
import Derived.SevenTiedAt
set_option linter.unusedVariables false
set_option linter.unusedSimpArgs false
set_option maxRecDepth 100000
namespace Go.Sx.Ob
open Go.Proofs Go.Proofs.YtmdncdaladplkaaGreatDoor
open Go.ChangeMaps
open Go.ChangeShapes Go.WideShapes Go.ChangeAt Go.WideMaps Go.WideElems Go.RowKit
theorem poolNumbers_small : (Tryz.f3.params.toList.all fun t => decide (t < Tryz.prog.types.size)) = true := by kernel_rfl
theorem poolNumbers_cell0 : Tryz.prog.inPlace 3 = Rows.poolNumbersRow.inPlace := by kernel_rfl
theorem poolNumbers_cell1 : Tryz.prog.unfollowed 3 = Rows.poolNumbersRow.unfollowed := by kernel_rfl
theorem poolNumbers_cell2 : Tryz.prog.recurses 3 = Rows.poolNumbersRow.recurses := by kernel_rfl
theorem poolNumbers_cell3 : Tryz.prog.varsNamed 3 = Rows.poolNumbersRow.named := by kernel_rfl
theorem poolNumbers_facts : joinedFacts Tryz.prog 3 Tryz.f3 Rows.poolNumbersSpec Rows.poolNumbersRow = true := by
  unfold joinedFacts
  rw [poolNumbers_cell0, poolNumbers_cell1, poolNumbers_cell2, poolNumbers_cell3]
  kernel_rfl
theorem poolNumbers_lifted (os : Os) (started : os.Started) (H : Type) (enc : TypeId × Value → H) :
    ReturnsInHanded {} Tryz.checked os 3 .any (fun w args => (Rows.poolNumbersSpec.pre enc Tryz.prog Tryz.f3 [] false w args ∧ laidMetH Tryz.prog Rows.poolNumbersRow.laid w) ∧ sizedMet enc Tryz.prog Tryz.f3 (OpenSpec.ofChange Rows.poolNumbersSpec) false w args)
      (Rows.poolNumbersSpec.post enc Tryz.prog Tryz.f3 false true false false) := by
  refine ret_and_shaped (C := Tryz.checked) (X := fun w _ => laidMetH Tryz.prog Rows.poolNumbersRow.laid w) (fun _ _ _ hh h => h.of_heap hh) ownK started (by kernel_rfl) Tryz.func3
    (ChangeSpec.witness_shaped (enc := enc) (C := Tryz.checked) (os := os) (X := fun w _ => laidMetH Tryz.prog Rows.poolNumbersRow.laid w) false (World.doorLaid Tryz.prog 400 os) #[] 8 rfl (World.shaped_of_RefB (by kernel_rfl) (by kernel_rfl)) (by kernel_rfl) (by kernel_rfl) (by kernel_rfl) (door_met os _)) ?_
  intro W base args ds gs before hval0 hW hsh hL
  have hval : ∀ (j : Nat) t v, Tryz.f3.params[j]? = some t → args[j]? = some v → Value.okWide Tryz.prog W .any base t v := hval0
  have hW' := hW
  obtain ⟨p, q, hA0, hV, rfl, hfz, hnd⟩ := hW
  have hA : DataW.TrodAll enc Tryz.prog W 0 (fun _ => true) true Tryz.f3.params.toList args.toList ds p := hA0
  have hpf : Tryz.f3.params = #[] := by kernel_rfl
  rw [hpf] at hA hval
  clear hA0 hval0
  obtain ⟨args⟩ := args
  obtain ⟨rfl, rfl, rfl⟩ := trodAll_nil hA
  obtain ⟨rfl, rfl⟩ := trodVars_none hV
  simp only [List.append_nil] at hW'
  refine (calls_of (Cr.numbers_cr (laid_tab hL)) (fun _ _ h => h.2)).mono fun e W' ⟨v, he, hB, hv, _⟩ => ?_
  subst he hv
  exact ⟨_, rfl, post_old rfl hW' (fun _ _ _ => trodAll_mk1 (shut_bool u4 _)) rfl rfl (fun t ht => of_decide_eq_true (List.all_eq_true.1 poolNumbers_small t ht)) hB⟩
theorem poolNumbers_holds : Rows.PoolNumbersSaid :=
  OpenClaim.holds_of_wide 3 Tryz.f3 rfl rfl rfl rfl rfl rfl rfl ⟨rfl, rfl, rfl, rfl, rfl⟩ rfl rfl rfl rfl rfl (by kernel_rfl) Tryz.func3 poolNumbers_facts
    (of_decide_eq_true (by kernel_rfl)) (by unfold Func.isWrapper; first | (rw [if_pos (by decide +kernel)]; kernel_rfl) | (rw [if_neg (by decide +kernel)]; exact ⟨rfl, rfl⟩))
    (fun os started H enc _ => poolNumbers_lifted os started H enc)
end Go.Sx.Ob
