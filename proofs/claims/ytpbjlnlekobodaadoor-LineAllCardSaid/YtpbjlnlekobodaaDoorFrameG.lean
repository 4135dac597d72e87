/- The frame of the laws: from listed variables to heaps, from a contract over heaps to a row's post. No condition. -/
import Derived.Test.YtpbjlnlekobodaaDoorLexI
import Derived.Test.YtpbjlnlekobodaaDoorRows
import Derived.ProofKit
import Derived.LaidMore
import Derived.LaidLaws
import Derived.OpenShut
import Derived.ChangeSame
import Derived.Stop.Joined
set_option linter.unusedVariables false
set_option linter.unusedSimpArgs false
set_option linter.deprecated false
set_option maxRecDepth 100000
namespace Go.Sx
open Go.Proofs Go.Proofs.YtpbjlnlekobodaaDoor
open Go.ChangeShapes Go.WideShapes Go.ChangeAt Go.WideMaps Go.WideElems Go.RowKit
theorem ownK : ownKnob Tryd.prog.godebug = none := by kernel_rfl
theorem gRange : Tryd.prog.globalNamed "strconv.ErrRange" = some 3 := by kernel_rfl
theorem gSyntax : Tryd.prog.globalNamed "strconv.ErrSyntax" = some 2 := by kernel_rfl
theorem tRange : (Tryd.prog.globals[3]?).map (·.type) = some 133 := by kernel_rfl
theorem tSyntax : (Tryd.prog.globals[2]?).map (·.type) = some 133 := by kernel_rfl
theorem u133 : Tryd.prog.underlying 133 = some (.interface #[("Error", 147)]) := by kernel_rfl
theorem u9 : Tryd.prog.underlying 9 = some .string := by kernel_rfl
theorem u4 : Tryd.prog.underlying 4 = some .bool := by kernel_rfl
theorem laid_of {W : World} (h : laidMetH Tryd.prog Rows.lexNamesRow.laid W) : Laid W.heap := by
  rw [MakeChecks.laidMetH_plain _ _ _ (by kernel_rfl)] at h
  obtain ⟨ps, ⟨g0, t0, cs0, f0, p0, q0, hg0, ht0, hv0, hd0, ⟨g1, t1, cs1, f1, p1, q1, hg1, ht1, hv1, hd1, ⟨g2, t2, cs2, f2, p2, q2, hg2, ht2, hv2, hd2, ⟨g3, t3, cs3, f3, p3, q3, hg3, ht3, hv3, hd3, ⟨g4, t4, cs4, f4, p4, q4, hg4, ht4, hv4, hd4, _, _⟩, _⟩, _⟩, _⟩, _⟩, _, _⟩ := h
  obtain rfl := Option.some.inj (gRange.symm.trans hg3)
  obtain rfl := Option.some.inj (gSyntax.symm.trans hg4)
  obtain rfl := Option.some.inj (tRange.symm.trans ht3)
  obtain rfl := Option.some.inj (tSyntax.symm.trans ht4)
  obtain ⟨_, u3, v3, e3, _⟩ := iface_of_trod u133 hd3
  obtain ⟨_, u4, v4, e4, _⟩ := iface_of_trod u133 hd4
  have c3 := World.var?_cell hg3 hv3 0
  have c4 := World.var?_cell hg4 hv4 0
  rw [← Array.getElem?_toList, e3] at c3
  rw [← Array.getElem?_toList, e4] at c4
  exact ⟨⟨_, c4, rfl⟩, ⟨_, c3, rfl⟩⟩
/-- What a call over heaps is, of a world: a call that leaves what was there. -/
theorem calls_of {P : Program} {f : FuncId} {args : Array Value} {W : World} {R : Value → Hp → Prop} (h : HC P f args W.heap R) (he : ∀ v h', R v h' → Ext W.heap h') : Calls P f args W fun e w' => ∃ v, e = .returned v ∧ Below W.heap.size W w' ∧ R v w'.heap := by
  refine (h W rfl).mono fun e w' ⟨v, hv, hs, hr⟩ => ⟨v, hv, ⟨hs.os, hs.tape, hs.output, (he v _ hr).size, fun k hk => (he v _ hr).same k hk (by simp)⟩, hr⟩
theorem post_new {H : Type} {enc : TypeId × Value → H} {P : Program} {f : Func} {s : ChangeSpec} {apart fresh handsOn again : Bool} {W W' : World} {args : Array Value} {v : Value} {ds gs : List (DataW H)}
    (hW : DataW.Whole enc P f.params.toList s.vars apart W args.toList ds gs [])
    (hres : ∀ (b : Nat) (sp : Nat → Bool) (hd : Bool), DataW.TrodAll enc P W' b sp hd f.resultTypes.toList (v.resultList f.resultTypes.size) (s.fn H (ds ++ gs)).results [])
    (hargs : ∀ sp : Nat → Bool, DataW.TrodAll enc P W' 0 sp true f.params.toList args.toList (s.fn H (ds ++ gs)).args [])
    (hvars : ∀ sp : Nat → Bool, DataW.TrodVars enc P W' sp s.vars (s.fn H (ds ++ gs)).vars [])
    (hk : Below W.heap.size W W')
    (hok : ∀ (j : Nat) (t : TypeId) (r : Value), f.resultTypes[j]? = some t → (v.resultList f.resultTypes.size)[j]? = some r → Value.okWide P W' .any 0 t r) :
    s.post enc P f apart fresh handsOn again W args v W' := by
  refine ⟨ds, gs, [], [], [], [], hW, hres _ _ _, hargs _, hvars _, hk.frame _, fun _ => ?_⟩
  refine ⟨hok, _, _, ([] ++ []) ++ [], ⟨[] ++ [], [], trodAll_append (hargs _) (hres _ _ _), hvars _, rfl, ?_, ?_⟩, ?_⟩
  · intro b off hp; simp at hp
  · intro ha; simp
  · intro p hp _; simp at hp
end Go.Sx
