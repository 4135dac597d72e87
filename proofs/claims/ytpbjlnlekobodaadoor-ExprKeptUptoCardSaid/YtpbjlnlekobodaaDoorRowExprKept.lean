/- The row: it answers true. Condition: the listed variables, as the row says. -/
import Derived.Test.YtpbjlnlekobodaaDoorExprTB
import Derived.Test.YtpbjlnlekobodaaDoorFrameG
import Derived.ChangeMaps5
import Derived.Test.YtpbjlnlekobodaaDoorTie
import Derived.Test.YtpbjlnlekobodaaDoorCards
import Derived.SevenTiedAt
set_option linter.unusedVariables false
set_option linter.unusedSimpArgs false
set_option maxRecDepth 100000
namespace Go.Sx
open Go.Proofs Go.Proofs.YtpbjlnlekobodaaDoor
open Go.ChangeMaps
open Go.ChangeShapes Go.WideShapes Go.ChangeAt Go.WideMaps Go.WideElems Go.RowKit
theorem exprKept_small : (Tryd.f16.params.toList.all fun t => decide (t < Tryd.prog.types.size)) = true := by kernel_rfl
theorem exprKept_cell0 : Tryd.prog.inPlace 16 = Rows.exprKeptUptoRow.inPlace := by kernel_rfl
theorem exprKept_cell1 : Tryd.prog.unfollowed 16 = Rows.exprKeptUptoRow.unfollowed := by kernel_rfl
theorem exprKept_cell2 : Tryd.prog.recurses 16 = Rows.exprKeptUptoRow.recurses := by kernel_rfl
theorem exprKept_cell3 : Tryd.prog.varsNamed 16 = Rows.exprKeptUptoRow.named := by kernel_rfl
theorem exprKept_facts : joinedFacts Tryd.prog 16 Tryd.f16 (Rows.OpenSpec.upto Rows.exprKeptSpec).bare Rows.exprKeptUptoRow = true := by
  unfold joinedFacts
  rw [exprKept_cell0, exprKept_cell1, exprKept_cell2, exprKept_cell3]
  kernel_rfl
theorem exprKept_lifted (os : Os) (started : os.Started) (H : Type) (enc : TypeId × Value → H) (F : Stop.Interp) :
    ReturnsInHanded {} Tryd.checked os 16 .any (fun w args => ((Rows.OpenSpec.upto Rows.exprKeptSpec).pre enc Tryd.prog Tryd.f16 [] false w args ∧ laidMetH Tryd.prog Rows.exprKeptUptoRow.laid w) ∧ sizedMet enc Tryd.prog Tryd.f16 (Rows.OpenSpec.upto Rows.exprKeptSpec) false w args)
      (((Rows.OpenSpec.upto Rows.exprKeptSpec).at F).post enc Tryd.prog Tryd.f16 false true false false) := by
  refine ret_cond (k := Rows.uptoSmall) rfl (C := Tryd.checked) (X := fun w _ => laidMetH Tryd.prog Rows.exprKeptUptoRow.laid w) (fun _ _ _ hh h => h.of_heap hh) ownK started (by kernel_rfl) Tryd.func16
    (cond_start (k := Rows.uptoSmall) rfl (C := Tryd.checked) (os := os) (X := fun w _ => laidMetH Tryd.prog Rows.exprKeptUptoRow.laid w) (World.doorLaid Tryd.prog 400 os) #[.agg #[.slice none 0 0, .int .u32 0], .agg #[.slice none 0 0, .int .u32 0], .string ⟨#[]⟩] 8 rfl (World.shaped_of_RefB (by kernel_rfl) (by kernel_rfl)) (by kernel_rfl) (x := ([.agg [.nil, .lit (.int .u32 0)], .agg [.nil, .lit (.int .u32 0)], .lit (.string [])], [], [])) (by kernel_rfl) rfl (by kernel_rfl) (door_met4 os _)) ?_
  intro W base args ds gs before hval0 hW hk hL
  have hval : ∀ (j : Nat) t v, Tryd.f16.params[j]? = some t → args[j]? = some v → Value.okWide Tryd.prog W .any base t v := hval0
  have hW' := hW
  obtain ⟨p, q, hA0, hV, rfl, hfz, hnd⟩ := hW
  have hA : DataW.TrodAll enc Tryd.prog W 0 (fun _ => true) true Tryd.f16.params.toList args.toList ds p := hA0
  have hpf : Tryd.f16.params = #[69, 69, 9] := by kernel_rfl
  rw [hpf] at hA hval
  clear hA0 hval0
  obtain ⟨v0, vs0, d0, ds0, p0, q0, hv0, rfl, rfl, t0, hA1⟩ := trodAll_cons hA
  obtain ⟨v1, vs1, d1, ds1, p1, q1, hv1, rfl, rfl, t1, hA2⟩ := trodAll_cons hA1
  subst hv1
  obtain ⟨v2, vs2, d2, ds2, p2, q2, hv2, rfl, rfl, t2, hA3⟩ := trodAll_cons hA2
  subst hv2
  obtain ⟨rfl, rfl, rfl⟩ := trodAll_nil hA3
  obtain ⟨args⟩ := args
  simp only at hv0
  subst hv0
  obtain ⟨rfl, rfl⟩ := trodVars_none hV
  obtain ⟨a0, l0, c0, x0, rfl, h0⟩ := open_lin (hval 0 69 v0 rfl rfl) t0
  obtain ⟨a1, l1, c1, x1, rfl, h1⟩ := open_lin (hval 1 69 v1 rfl rfl) t1
  obtain ⟨x2, rfl, rfl, rfl, h2⟩ := open_string u9 (hval 2 9 v2 rfl rfl) t2
  simp only [List.append_nil] at hW'
  have hk := of_decide_eq_true hk
  simp only [List.append_nil, List.nil_append, List.cons_append, Rows.uptoBulkAll] at hk
  refine (calls_of (TB.exprKept_hc h0 h1 x2 (pow10_of hL) (by have := h0.many; omega) (by have := h1.many; omega)) (fun _ _ h => h.2)).mono fun e W' ⟨v, he, hB, hv, _⟩ => ?_
  subst he hv
  exact ⟨_, rfl, post_old rfl hW' (fun _ _ _ => trodAll_mk1 (shut_bool u4 _)) rfl rfl (fun t ht => of_decide_eq_true (List.all_eq_true.1 exprKept_small t ht)) hB⟩
theorem exprKept_holds : Rows.ExprKeptUptoSaid :=
  OpenClaim.holds_of_cond 16 Tryd.f16 rfl rfl rfl rfl rfl rfl rfl ⟨rfl, rfl, rfl, rfl, rfl⟩ rfl rfl rfl rfl rfl (by kernel_rfl) Tryd.func16 exprKept_facts
    (of_decide_eq_true (by kernel_rfl)) (by unfold Func.isWrapper; first | (rw [if_pos (by decide +kernel)]; kernel_rfl) | (rw [if_neg (by decide +kernel)]; exact ⟨rfl, rfl⟩))
    (fun os started H enc _ F => exprKept_lifted os started H enc F)
end Go.Sx
