/- The tied card. No condition. -/
import Derived.Test.YtpbjlnlekobodaaDoorLineI
import Derived.Test.YtpbjlnlekobodaaDoorFrameD
import Derived.Test.YtpbjlnlekobodaaDoorFrameH
import Derived.ChangeMaps5
import Derived.Test.YtpbjlnlekobodaaDoorTie
import Derived.Test.YtpbjlnlekobodaaDoorCards
import Derived.SevenTiedAt
set_option linter.unusedVariables false
set_option linter.unusedSimpArgs false
set_option linter.deprecated false
set_option maxRecDepth 100000
namespace Go.Sx
open Go.Proofs Go.Proofs.YtpbjlnlekobodaaDoor
open Go.ChangeMaps
open Go.ChangeShapes Go.WideShapes Go.ChangeAt Go.WideMaps Go.WideElems Go.RowKit
theorem lineNumbers_lifted (os : Os) (started : os.Started) (H : Type) (enc : TypeId × Value → H) :
    ReturnsInHanded {} Tryd.checked os 12 .any (fun w args => (Rows.lineNumbersSpec.pre enc Tryd.prog Tryd.f12 [] false w args ∧ laidMetH Tryd.prog Rows.lineNumbersRow.laid w) ∧ sizedMet enc Tryd.prog Tryd.f12 (OpenSpec.ofChange Rows.lineNumbersSpec) false w args)
      (Rows.lineNumbersSpec.post enc Tryd.prog Tryd.f12 false true false false) := by
  refine ret_and_shaped (C := Tryd.checked) (X := fun w _ => laidMetH Tryd.prog Rows.lineNumbersRow.laid w) (fun _ _ _ hh h => h.of_heap hh) ownK started (by kernel_rfl) Tryd.func12
    (ChangeSpec.witness_shaped (enc := enc) (C := Tryd.checked) (os := os) (X := fun w _ => laidMetH Tryd.prog Rows.lineNumbersRow.laid w) false (World.doorLaid Tryd.prog 400 os) #[] 8 rfl (World.shaped_of_RefB (by kernel_rfl) (by kernel_rfl)) (by kernel_rfl) (by kernel_rfl) (by kernel_rfl) (door_met os _)) ?_
  intro W base args ds gs before hval0 hW hsh hL
  have hval : ∀ (j : Nat) t v, Tryd.f12.params[j]? = some t → args[j]? = some v → Value.okWide Tryd.prog W .any base t v := hval0
  have hW' := hW
  obtain ⟨p, q, hA0, hV, rfl, hfz, hnd⟩ := hW
  have hA : DataW.TrodAll enc Tryd.prog W 0 (fun _ => true) true Tryd.f12.params.toList args.toList ds p := hA0
  have hpf : Tryd.f12.params = #[] := by kernel_rfl
  rw [hpf] at hA hval
  obtain ⟨rfl, rfl, rfl⟩ := trodAll_none hA
  obtain ⟨rfl, rfl⟩ := trodVars_none hV
  clear hA0 hval0
  simp only [List.append_nil] at hW'
  obtain ⟨m, hm⟩ := maxLen_cell hsh
  refine (callsIn_wide.1 (lineNumbers_in W (laid_of hL) m hm)).mono fun e W' ⟨he, hB⟩ => ?_
  subst he
  exact ⟨_, rfl, post_new hW' (fun _ _ _ => trodAll_mk1 (shut_bool u4 _)) (fun _ => trodAll_mk0) (fun _ => rfl) hB (ok_one (by kernel_rfl) rfl (okWide_bool_mk u4 _))⟩
theorem lineNumbers_holds : Rows.LineNumbersSaid :=
  OpenClaim.holds_of_wide 12 Tryd.f12 rfl rfl rfl rfl rfl rfl rfl ⟨rfl, rfl, rfl, rfl, rfl⟩ rfl rfl rfl rfl rfl (by kernel_rfl) Tryd.func12 (by kernel_rfl)
    (of_decide_eq_true (by kernel_rfl)) (by unfold Func.isWrapper; first | (rw [if_pos (by decide +kernel)]; kernel_rfl) | (rw [if_neg (by decide +kernel)]; exact ⟨rfl, rfl⟩))
    (fun os started H enc _ => lineNumbers_lifted os started H enc)
end Go.Sx
namespace Go.Proofs.YtpbjlnlekobodaaDoor
open Go Go.Sx
theorem lineNumbers_card : Rows.LineNumbersCardSaid :=
  Claim7.holds_tied_plain_at .later [] [.data, .data, .data, .sentinel, .sentinel] true (true, "c70ca99f8a67370a6cc45372cbabf61b26a9287dfac3afb3f213db2e47886043") true
    lineNumbers_holds (fun _ h => by cases h) (by kernel_rfl) (fun _ h => by cases h) lineNumbers_row_tie rfl ⟨rfl, rfl⟩ (by kernel_rfl) rfl
    (fun f fn hf hfn => by
      obtain rfl : f = 12 := Option.some.inj ((show Tryd.prog.funcNamed "spandrel/spandrellaw3.LineNumbers" = some 12 by kernel_rfl).symm.trans hf) |>.symm
      obtain rfl : fn = Tryd.f12 := (Option.some.inj (Tryd.func12.symm.trans hfn)).symm
      exact ⟨by kernel_rfl, fun j t ht => by
        rw [show Tryd.f12.params = #[] by kernel_rfl] at ht
        have hm : t ∈ ([] : List TypeId) := by simpa using Array.mem_of_getElem? ht
        have hall : (([] : List TypeId).all fun u => !Tryd.prog.wantsStandIn u) = true := by kernel_rfl
        exact (show Tryd.prog.wantsStandIn t = false by simpa using List.all_eq_true.1 hall t hm)⟩)
    (by kernel_rfl)
end Go.Proofs.YtpbjlnlekobodaaDoor
