/- EquKept: the law answers true, where what it reads is of bulk at most 2 ^ 20. Condition: that bulk (the second form). -/
import Derived.Test.YtpbjlnlekobodaaP7
import Derived.Test.YtpbjlnlekobodaaP6
import Derived.ChangeMaps5
import Derived.OpenShut
import Derived.JoinedCond
set_option linter.unusedVariables false
set_option linter.unusedSimpArgs false
set_option maxRecDepth 100000
namespace Go.Proofs.Ytpbjlnlekobodaa
open Go.Sx
open Go.ChangeMaps
open Go.ChangeShapes Go.WideShapes Go.ChangeAt Go.WideMaps Go.WideElems Go.RowKit
theorem equKept_u3 : Try.prog.underlying 3 = some (.int .i64) := by kernel_rfl
theorem equKept_small : (Try.f4.params.toList.all fun t => decide (t < Try.prog.types.size)) = true := by kernel_rfl
theorem equKept_cell0 : Try.prog.inPlace 4 = Rows.equKeptUptoRow.inPlace := by kernel_rfl
theorem equKept_cell1 : Try.prog.unfollowed 4 = Rows.equKeptUptoRow.unfollowed := by kernel_rfl
theorem equKept_cell2 : Try.prog.recurses 4 = Rows.equKeptUptoRow.recurses := by kernel_rfl
theorem equKept_cell3 : Try.prog.varsNamed 4 = Rows.equKeptUptoRow.named := by kernel_rfl
theorem equKept_facts : joinedFacts Try.prog 4 Try.f4 (Rows.OpenSpec.upto Rows.equKeptSpec).bare Rows.equKeptUptoRow = true := by
  unfold joinedFacts
  rw [equKept_cell0, equKept_cell1, equKept_cell2, equKept_cell3]
  kernel_rfl
theorem equKept_lifted (os : Os) (started : os.Started) (H : Type) (enc : TypeId × Value → H) (F : Stop.Interp) :
    ReturnsInHanded {} Try.checked os 4 .any ((Rows.OpenSpec.upto Rows.equKeptSpec).pre6 enc Try.prog Try.f4 Rows.equKeptUptoRow.domain false) (((Rows.OpenSpec.upto Rows.equKeptSpec).at F).post enc Try.prog Try.f4 false true false false) := by
  refine returnsInHanded_of_cond (C := Try.checked) (s := Rows.OpenSpec.upto Rows.equKeptSpec) (k := Rows.uptoSmall) rfl ownK started (by kernel_rfl) Try.func4
    (OpenSpec.witness (enc := enc) (C := Try.checked) (s := Rows.OpenSpec.upto Rows.equKeptSpec) (k := Rows.uptoSmall) rfl false ⟨#[], #[.slice none 0 0, .agg #[.slice none 0 0, .int .u32 0]], []⟩ 8 (by kernel_rfl) (by kernel_rfl) (by kernel_rfl)
      (x := ([.nil, .agg [.nil, .lit (.int .u32 0)]], [], [])) (by kernel_rfl) rfl (by kernel_rfl)) ?_
  intro W base args ds gs before hval0 hW _ hk _
  have hval : ∀ (j : Nat) t v, Try.f4.params[j]? = some t → args[j]? = some v → Value.okWide Try.prog W .any base t v := hval0
  have hW' := hW
  obtain ⟨p, q, hA0, hV, rfl, hfz, hnd⟩ := hW
  have hA : DataW.TrodAll enc Try.prog W 0 (fun _ => true) true Try.f4.params.toList args.toList ds p := hA0
  have hpf : Try.f4.params = #[22, 36] := by kernel_rfl
  rw [hpf] at hA hval
  clear hA0 hval0
  obtain ⟨v0, vs0, d0, ds0, p0, q0, hv0, rfl, rfl, t0, hA1⟩ := trodAll_cons hA
  obtain ⟨v1, vs1, d1, ds1, p1, q1, hv1, rfl, rfl, t1, hA2⟩ := trodAll_cons hA1
  subst hv1
  obtain ⟨rfl, rfl, rfl⟩ := trodAll_nil hA2
  obtain ⟨args⟩ := args
  simp only at hv0
  subst hv0
  obtain ⟨rfl, rfl⟩ := trodVars_none hV
  obtain ⟨a0, l0, c0, x0, rfl, h0⟩ := open_equs (hval 0 22 v0 rfl rfl) t0
  obtain ⟨a1, l1, c1, x1, rfl, h1⟩ := open_lin (hval 1 36 v1 rfl rfl) t1
  simp only [List.append_nil] at hW'
  have hk := of_decide_eq_true hk
  simp only [List.append_nil, List.nil_append, List.cons_append, Rows.uptoBulkAll] at hk
  refine (calls_of (TB.equKept_hc h0 h1 (by have := hk; omega)) (fun _ _ h => h.2)).mono fun e W' ⟨v, he, hB, hv, _⟩ => ?_
  subst he hv
  exact ⟨_, rfl, post_old rfl hW' (fun _ _ _ => trodAll_mk1 (shut_bool u4 _)) rfl rfl (fun t ht => of_decide_eq_true (List.all_eq_true.1 equKept_small t ht)) hB⟩
theorem equKept_proved : Rows.EquKeptUptoSaid :=
  OpenClaim.holds_of_cond 4 Try.f4 rfl rfl rfl rfl rfl rfl rfl ⟨rfl, rfl, rfl, rfl, rfl⟩ rfl rfl rfl rfl rfl (by kernel_rfl) Try.func4 equKept_facts
    (of_decide_eq_true (by kernel_rfl)) (by unfold Func.isWrapper; first | (rw [if_pos (by decide +kernel)]; kernel_rfl) | (rw [if_neg (by decide +kernel)]; exact ⟨rfl, rfl⟩))
    (fun os started H enc _ F => equKept_lifted os started H enc F)
end Go.Proofs.Ytpbjlnlekobodaa
