/- EquTurned: the law answers true, where what it reads is of bulk at most 2 ^ 20. Condition: that bulk (the second form). -/
import Derived.Test.YtpbjlnlekobodaaP7
import Derived.Test.YtpbjlnlekobodaaP6
import Derived.ChangeMaps5
import Derived.OpenShut
import Derived.JoinedCond
set_option linter.unusedVariables false
set_option linter.unusedSimpArgs false
set_option maxRecDepth 100000
namespace Go.Proofs.Ytpbjlnlekobodaa
open Go.Sx
open Go.ChangeMaps
open Go.ChangeShapes Go.WideShapes Go.ChangeAt Go.WideMaps Go.WideElems Go.RowKit
theorem equTurned_u3 : Try.prog.underlying 3 = some (.int .i64) := by kernel_rfl
theorem equTurned_small : (Try.f6.params.toList.all fun t => decide (t < Try.prog.types.size)) = true := by kernel_rfl
theorem equTurned_cell0 : Try.prog.inPlace 6 = Rows.equTurnedUptoRow.inPlace := by kernel_rfl
theorem equTurned_cell1 : Try.prog.unfollowed 6 = Rows.equTurnedUptoRow.unfollowed := by kernel_rfl
theorem equTurned_cell2 : Try.prog.recurses 6 = Rows.equTurnedUptoRow.recurses := by kernel_rfl
theorem equTurned_cell3 : Try.prog.varsNamed 6 = Rows.equTurnedUptoRow.named := by kernel_rfl
theorem equTurned_facts : joinedFacts Try.prog 6 Try.f6 (Rows.OpenSpec.upto Rows.equTurnedSpec).bare Rows.equTurnedUptoRow = true := by
  unfold joinedFacts
  rw [equTurned_cell0, equTurned_cell1, equTurned_cell2, equTurned_cell3]
  kernel_rfl
theorem equTurned_lifted (os : Os) (started : os.Started) (H : Type) (enc : TypeId × Value → H) (F : Stop.Interp) :
    ReturnsInHanded {} Try.checked os 6 .any ((Rows.OpenSpec.upto Rows.equTurnedSpec).pre6 enc Try.prog Try.f6 Rows.equTurnedUptoRow.domain false) (((Rows.OpenSpec.upto Rows.equTurnedSpec).at F).post enc Try.prog Try.f6 false true false false) := by
  refine returnsInHanded_of_cond (C := Try.checked) (s := Rows.OpenSpec.upto Rows.equTurnedSpec) (k := Rows.uptoSmall) rfl ownK started (by kernel_rfl) Try.func6
    (OpenSpec.witness (enc := enc) (C := Try.checked) (s := Rows.OpenSpec.upto Rows.equTurnedSpec) (k := Rows.uptoSmall) rfl false ⟨#[], #[.slice none 0 0, .int .i64 0], []⟩ 8 (by kernel_rfl) (by kernel_rfl) (by kernel_rfl)
      (x := ([.nil, .lit (.int .i64 0)], [], [])) (by kernel_rfl) rfl (by kernel_rfl)) ?_
  intro W base args ds gs before hval0 hW _ hk _
  have hval : ∀ (j : Nat) t v, Try.f6.params[j]? = some t → args[j]? = some v → Value.okWide Try.prog W .any base t v := hval0
  have hW' := hW
  obtain ⟨p, q, hA0, hV, rfl, hfz, hnd⟩ := hW
  have hA : DataW.TrodAll enc Try.prog W 0 (fun _ => true) true Try.f6.params.toList args.toList ds p := hA0
  have hpf : Try.f6.params = #[22, 3] := by kernel_rfl
  rw [hpf] at hA hval
  clear hA0 hval0
  obtain ⟨v0, vs0, d0, ds0, p0, q0, hv0, rfl, rfl, t0, hA1⟩ := trodAll_cons hA
  obtain ⟨v1, vs1, d1, ds1, p1, q1, hv1, rfl, rfl, t1, hA2⟩ := trodAll_cons hA1
  subst hv1
  obtain ⟨rfl, rfl, rfl⟩ := trodAll_nil hA2
  obtain ⟨args⟩ := args
  simp only at hv0
  subst hv0
  obtain ⟨rfl, rfl⟩ := trodVars_none hV
  obtain ⟨a0, l0, c0, x0, rfl, h0⟩ := open_equs (hval 0 22 v0 rfl rfl) t0
  obtain ⟨x1, rfl, rfl, rfl, h1⟩ := open_int equTurned_u3 (hval 1 3 v1 rfl rfl) t1
  simp only [List.append_nil] at hW'
  have hk := of_decide_eq_true hk
  simp only [List.append_nil, List.nil_append, List.cons_append, Rows.uptoBulkAll] at hk
  refine (calls_of (equTurned_hc h0 (by have := hk; omega) x1) (fun _ _ h => h.2)).mono fun e W' ⟨v, he, hB, hv, _⟩ => ?_
  subst he hv
  exact ⟨_, rfl, post_old rfl hW' (fun _ _ _ => trodAll_mk1 (shut_bool u4 _)) rfl rfl (fun t ht => of_decide_eq_true (List.all_eq_true.1 equTurned_small t ht)) hB⟩
theorem equTurned_proved : Rows.EquTurnedUptoSaid :=
  OpenClaim.holds_of_cond 6 Try.f6 rfl rfl rfl rfl rfl rfl rfl ⟨rfl, rfl, rfl, rfl, rfl⟩ rfl rfl rfl rfl rfl (by kernel_rfl) Try.func6 equTurned_facts
    (of_decide_eq_true (by kernel_rfl)) (by unfold Func.isWrapper; first | (rw [if_pos (by decide +kernel)]; kernel_rfl) | (rw [if_neg (by decide +kernel)]; exact ⟨rfl, rfl⟩))
    (fun os started H enc _ F => equTurned_lifted os started H enc F)
end Go.Proofs.Ytpbjlnlekobodaa
