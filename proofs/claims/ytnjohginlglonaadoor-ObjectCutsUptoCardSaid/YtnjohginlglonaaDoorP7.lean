/- Contracts over heaps, and plain laws, for the functions that the laws of chapter 10 call, part 7: The tables, from the rows' listed variables. Units and bytes that are handed in: what they read as, and what lies in memory. Units and bytes that are handed in, joined. Condition: as each statement says. -/
import Derived.Test.YtnjohginlglonaaDoorP6
import Derived.ChangeMaps5
import Derived.Test.YtnjohginlglonaaDoorTie
import Derived.Test.YtnjohginlglonaaDoorCards
import Derived.SevenTiedAt
set_option linter.unusedVariables false
set_option linter.unusedSimpArgs false
set_option maxRecDepth 100000
namespace Go.Sx.Ob
open Go.Proofs Go.Proofs.YtnjohginlglonaaDoor
open Go.ChangeShapes Go.WideShapes Go.ChangeAt Go.WideMaps Go.WideElems Go.RowKit
theorem ownK : ownKnob Tryd.prog.godebug = none := by kernel_rfl
theorem u9 : Tryd.prog.underlying 9 = some .string := by kernel_rfl
theorem u4 : Tryd.prog.underlying 4 = some .bool := by kernel_rfl
theorem u3 : Tryd.prog.underlying 3 = some (.int .i64) := by kernel_rfl
theorem u5 : Tryd.prog.underlying 5 = some (.int .u8) := by kernel_rfl
theorem u127 : Tryd.prog.underlying 127 = some (.array 43 106) := by kernel_rfl
theorem c106 : Tryd.prog.cellsOf 106 = 3 := by kernel_rfl
theorem c127 : Tryd.prog.cellsOf 127 = 129 := by kernel_rfl
theorem c9 : Tryd.prog.cellsOf 9 = 1 := by kernel_rfl
theorem c5 : Tryd.prog.cellsOf 5 = 1 := by kernel_rfl
theorem c3 : Tryd.prog.cellsOf 3 = 1 := by kernel_rfl
theorem s106 : flds2 Tryd.prog 106 = some [(9, 0), (5, 1), (3, 2)] := by kernel_rfl
def tabL : List (DataW Unit) := match (Rows.laid_spandrel_isa_table : DataW Unit) with | .agg l => l | _ => []
def shpOf : DataW Unit → Int
  | .agg [_, _, .lit (.int _ n)] => n
  | _ => 0
theorem tabL_eq : (Rows.laid_spandrel_isa_table : DataW Unit) = .agg tabL := by kernel_rfl
theorem tabL_shp : tabL.map shpOf = (List.range 43).map fun k => ((shpL.getD k 0 : Nat) : Int) := by kernel_rfl
theorem flat_len {α β : Type} (f : α → List β) (m : Nat) (hf : ∀ x, (f x).length = m) : ∀ l : List α, (l.flatMap f).length = l.length * m
  | [] => by simp
  | x :: l => by rw [List.flatMap_cons, List.length_append, hf, flat_len f m hf l, List.length_cons, Nat.succ_mul, Nat.add_comm]
theorem rowsV_length (nm : Nat → ByteArray) (by_ : Nat → Int) : (rowsV nm by_).length = 129 := by
  unfold rowsV
  rw [flat_len _ 3 (fun x => rfl), List.length_range]
theorem tab_cells {enc : TypeId × Value → Unit} {W : World} {base fuel : Nat} {sp : Nat → Bool} {held : Bool} {cs : List Value} {p : List MemPlace}
    (h : DataW.trod enc Tryd.prog W base sp held fuel 127 cs = some (Rows.laid_spandrel_isa_table, p)) : ∃ nm by_, cs = rowsV nm by_ := by
  obtain ⟨xs, m, _, hx, hl, hlen, hf⟩ := DataW.trod_array u127 h
  rw [c127] at hl
  have hxs : xs.map (·.1) = tabL := by
    have := congrArg Prod.fst hx
    rw [show (Rows.laid_spandrel_isa_table, p).1 = DataW.agg tabL from tabL_eq] at this
    simpa using this.symm
  have each : ∀ i, i < 43 → ∃ q : ByteArray × Int, (cs.drop (i * 3)).take 3 = [.string q.1, .int .u8 q.2, .int .i64 ((shpL.getD i 0 : Nat) : Int)] := by
    intro i hi
    have h1 := hf i hi
    rw [c106] at h1
    rw [List.getElem?_eq_getElem (by omega)] at h1
    obtain ⟨ys, n, hy, hyl, hyn, hys⟩ := open_struct s106 h1
    obtain ⟨y0, g0, t0⟩ := hys 0 _ rfl
    obtain ⟨y1, g1, t1⟩ := hys 1 _ rfl
    obtain ⟨y2, g2, t2⟩ := hys 2 _ rfl
    rw [c106] at hyl
    generalize hc : (cs.drop (i * 3)).take 3 = c at *
    match c, hyl with
    | [v0, v1, v2], _ =>
      rw [show Tryd.prog.cellsOf (9, 0).1 = 1 from c9] at t0
      rw [show Tryd.prog.cellsOf (5, 1).1 = 1 from c5] at t1
      rw [show Tryd.prog.cellsOf (3, 2).1 = 1 from c3] at t2
      obtain ⟨s, e0, r0, _⟩ := DataW.trod_string u9 t0
      obtain ⟨b, e1, r1, _⟩ := DataW.trod_int u5 t1
      obtain ⟨k, e2, r2, _⟩ := DataW.trod_int u3 t2
      cases e0; cases e1; cases e2
      refine ⟨(s, b), ?_⟩
      have hk : k = ((shpL.getD i 0 : Nat) : Int) := by
        have hys3 : ys = [y0, y1, y2] := by
          apply List.ext_getElem?
          intro j
          match j with
          | 0 => exact g0
          | 1 => exact g1
          | 2 => exact g2
          | j + 3 => rw [List.getElem?_eq_none (by rw [hyn]; simp), List.getElem?_eq_none (by simp)]
        have h2 : (xs.map (·.1))[i]? = some (xs[i]'(by omega)).1 := by rw [List.getElem?_map, List.getElem?_eq_getElem (by omega)]; rfl
        rw [hxs] at h2
        have h3 : (tabL.map shpOf)[i]? = some (shpOf (xs[i]'(by omega)).1) := by rw [List.getElem?_map, h2]; rfl
        rw [tabL_shp, List.getElem?_map, List.getElem?_range hi] at h3
        rw [hy, hys3, r0, r1, r2] at h3
        exact (Option.some.inj h3).symm
      rw [hk]
  obtain ⟨qs, hql, hqs⟩ := choose_list _ 43 each
  refine ⟨fun k => (qs.getD k (⟨#[]⟩, 0)).1, fun k => (qs.getD k (⟨#[]⟩, 0)).2, ?_⟩
  apply List.ext_getElem?
  intro j
  by_cases hj : j < 129
  · obtain ⟨a, b, hab, hb⟩ : ∃ a b, j = a * 3 + b ∧ b < 3 := ⟨j / 3, j % 3, by omega, by omega⟩
    subst hab
    unfold rowsV
    rw [flat_get (fun k => [Value.string ((qs.getD k (⟨#[]⟩, 0)).1), .int .u8 ((qs.getD k (⟨#[]⟩, 0)).2), .int .i64 (shpL.getD k 0 : Nat)]) 3 (fun x => rfl) _ a b hb, List.getElem?_range (by omega)]
    show cs[a * 3 + b]? = [Value.string ((qs.getD a (⟨#[]⟩, 0)).1), .int .u8 ((qs.getD a (⟨#[]⟩, 0)).2), .int .i64 ((shpL.getD a 0 : Nat) : Int)][b]?
    have ha : a < qs.length := by omega
    have := hqs a ha
    rw [List.getD_eq_getElem?_getD, List.getElem?_eq_getElem ha, Option.getD_some, ← this, List.getElem?_take, if_pos hb, List.getElem?_drop]
  · have hr : (rowsV (fun k => (qs.getD k (⟨#[]⟩, 0)).1) (fun k => (qs.getD k (⟨#[]⟩, 0)).2)).length = 129 := by
      exact rowsV_length _ _
    rw [List.getElem?_eq_none (by omega), List.getElem?_eq_none (by omega)]
theorem var_obj {P : Program} {W : World} {name : String} {g : Nat} {cs : Array Value} (hg : P.globalNamed name = some g) (hv : W.var? P name = some cs) : ∃ e f, W.heap[g]? = some (.cells cs e f) := by
  unfold World.var? at hv
  rw [hg] at hv
  have hv : (match (W.heap[g]? : Option Obj) with | some (.cells cs _ _) => some cs | _ => none) = some cs := hv
  split at hv
  · rename_i cs' e f hh
    cases hv
    exact ⟨e, f, hh⟩
  · cases hv
theorem laid_of {W : World} (h : laidMetH Tryd.prog Rows.objectNumbersRow.laid W) : Tab W.heap ∧ Pow10 W.heap := by
  rw [MakeChecks.laidMetH_plain _ _ _ (by kernel_rfl)] at h
  obtain ⟨ps, ⟨g0, t0, cs0, f0, p0, q0, hg0, ht0, hv0, hd0, ⟨g1, t1, cs1, f1, p1, q1, hg1, ht1, hv1, hd1, ⟨g2, t2, cs2, f2, p2, q2, hg2, ht2, hv2, hd2, ⟨g3, t3, cs3, f3, p3, q3, hg3, ht3, hv3, hd3, _, _⟩, _⟩, _⟩, _⟩, _, _⟩ := h
  obtain rfl := Option.some.inj ((show Tryd.prog.globalNamed _ = some 1 by kernel_rfl).symm.trans hg2)
  obtain rfl := Option.some.inj ((show Tryd.prog.globalNamed _ = some 0 by kernel_rfl).symm.trans hg3)
  have h2 : (Tryd.prog.globals[1]?).map (·.type) = some 142 := by kernel_rfl
  obtain rfl := Option.some.inj (h2.symm.trans ht2)
  have h3 : (Tryd.prog.globals[0]?).map (·.type) = some 127 := by kernel_rfl
  obtain rfl := Option.some.inj (h3.symm.trans ht3)
  have hc := Lib.cells_of_tab (n := 20) (e := 133) (k := .u64) (zs := Lib.pow10Tab) (by kernel_rfl) (by kernel_rfl) (by kernel_rfl) (by kernel_rfl) hd2
  obtain ⟨nm, by_, hr⟩ := tab_cells hd3
  obtain ⟨e2, ff2, ho2⟩ := var_obj hg2 hv2
  obtain ⟨e3, ff3, ho3⟩ := var_obj hg3 hv3
  refine ⟨⟨nm, by_, e3, ff3, ?_⟩, ⟨e2, ff2, ?_⟩⟩
  · rw [ho3, ← hr]
  · rw [ho2, ← hc]
theorem door_met (os : Os) (args : Array Value) : laidMetH Tryd.prog Rows.objectNumbersRow.laid ((World.doorLaid Tryd.prog 400 os).forCall (fun _ _ => 0) ⟨#[], args, []⟩).memory :=
  laidMetH_of_parts3 (fuel := 8) (laidMet_of_run' 8 (by kernel_rfl) (by kernel_rfl)) (by kernel_rfl) (by kernel_rfl)
end Go.Sx.Ob

set_option linter.unusedVariables false
set_option linter.unusedSimpArgs false
set_option maxRecDepth 100000
namespace Go.Sx.Ob
open Go.Proofs Go.Proofs.YtnjohginlglonaaDoor
open Go.ChangeShapes Go.WideShapes Go.ChangeAt Go.WideMaps Go.WideElems Go.RowKit
theorem kidsT : Kids Tryd.prog (· < Tryd.prog.types.size) := kids_rows (by kernel_rfl) (by kernel_rfl)
theorem sliceB : ((List.range Tryd.prog.types.size).all fun t => match Tryd.prog.underlying t with | some (.slice e) => decide (0 < Tryd.prog.cellsOf e) | _ => true) = true := by kernel_rfl
theorem sliceT {t e : TypeId} (ht : t < Tryd.prog.types.size) (hu : Tryd.prog.underlying t = some (.slice e)) : 0 < Tryd.prog.cellsOf e := by
  have := List.all_eq_true.1 sliceB t (List.mem_range.2 ht)
  rw [hu] at this
  exact of_decide_eq_true this
theorem trodAll_stays {H : Type} {enc : TypeId × Value → H} {W W' : World} {sp : Nat → Bool} (hB : Below W.heap.size W W') : ∀ {ts : List TypeId} {vs : List Value} {ds : List (DataW H)} {ps : List MemPlace}, (∀ t ∈ ts, t < Tryd.prog.types.size) →
    DataW.TrodAll enc Tryd.prog W 0 (fun _ => true) true ts vs ds ps → (∀ p ∈ ps, p.block < W.heap.size) → (∀ p ∈ ps, sp p.block = true) → DataW.TrodAll enc Tryd.prog W' 0 sp true ts vs ds ps
  | [], _, _, _, _, h, _, _ => by
    obtain ⟨rfl, rfl, rfl⟩ := trodAll_nil h
    exact trodAll_mk0
  | t :: ts, _, _, _, ht, h, hl, hs => by
    obtain ⟨v, vs1, d, ds1, a, b, rfl, rfl, rfl, ⟨n, h1⟩, h2⟩ := trodAll_cons h
    exact ⟨a, b, ⟨n, DataW.trod_stays kidsT (fun h hu => sliceT h hu) (fun h => by cases h) (ht t (List.mem_cons_self ..)) h1 (fun p hp => below_same hB (hl p (List.mem_append_left _ hp))) (fun p hp => hs p (List.mem_append_left _ hp))⟩,
      trodAll_stays hB (fun t h => ht t (List.mem_cons_of_mem _ h)) h2 (fun p hp => hl p (List.mem_append_right _ hp)) (fun p hp => hs p (List.mem_append_right _ hp)), rfl⟩
/-- A law's post: it answers, what was handed in reads as it did. -/
theorem post_old {H : Type} {enc : TypeId × Value → H} {f : Func} {s : ChangeSpec} {apart fresh handsOn : Bool} {W W' : World} {args : Array Value} {v : Value} {ds gs : List (DataW H)} {before : List MemPlace} (hv0 : s.vars = [])
    (hW : DataW.Whole enc Tryd.prog f.params.toList s.vars apart W args.toList ds gs before)
    (hres : ∀ (b : Nat) (sp : Nat → Bool) (hd : Bool), DataW.TrodAll enc Tryd.prog W' b sp hd f.resultTypes.toList (v.resultList f.resultTypes.size) (s.fn H (ds ++ gs)).results [])
    (hargs : (s.fn H (ds ++ gs)).args = ds) (hvs : (s.fn H (ds ++ gs)).vars = []) (hts : ∀ t ∈ f.params.toList, t < Tryd.prog.types.size) (hB : Below W.heap.size W W') :
    s.post enc Tryd.prog f apart fresh handsOn false W args v W' := by
  have hlt := hW.lt
  have hW' := hW
  obtain ⟨p, q, hA, hV, rfl, hz, hn⟩ := hW
  rw [hv0] at hV
  obtain ⟨rfl, rfl⟩ := trodVars_none hV
  rw [List.append_nil] at hlt hW'
  refine ⟨ds, [], p, [], p, [], hW', hres _ _ _, ?_, ?_, hB.frame _, fun h => by cases h⟩
  · rw [hargs]
    exact trodAll_stays hB hts hA hlt (fun p hp => decide_eq_true (hlt p hp))
  · rw [hvs, hv0]
    rfl
/-- A row with a condition upon what it reads. -/
theorem ret_cond {H : Type} {enc : TypeId × Value → H} {a : Assume} {C : Checked} {os : Os} {f : FuncId} {fn : Func} {s : OpenSpec} {k : (H : Type) → List (DataW H) → Bool} (hk : s.cond = some k) {F : Stop.Interp} {conds : List PathCond} {apart fresh handsOn again : Bool} {X : World → Array Value → Prop}
    (hX : ∀ (w w' : World) (args : Array Value), w.heap = w'.heap → X w args → X w' args)
    (own : ownKnob C.prog.godebug = none) (started : os.Started) (noInit : C.prog.inits.idxOf? f = none) (hfn : C.prog.funcs[f]? = some fn)
    (witness : ∃ (w : World) (tape : Tape) (i : Input), w.os = os ∧ (w.forCall tape i).Shaped C.prog ∧ i.vars = [] ∧ Input.okWide C.prog (w.forCall tape i) .any w.heap.size f i ∧
      ((s.pre enc C.prog fn conds apart (w.forCall tape i).memory i.args ∧ X (w.forCall tape i).memory i.args) ∧ sizedMet enc C.prog fn s apart (w.forCall tape i).memory i.args) ∧ a.holds C.prog (lone (Frame.enter C.prog f i.args .normal) [] (w.forCall tape i)))
    (contract : ∀ (W : World) (base : Nat) (args : Array Value) (ds gs : List (DataW H)) (before : List MemPlace),
      (∀ (j : Nat) t v, fn.params[j]? = some t → args[j]? = some v → Value.okWide C.prog W .any base t v) →
      DataW.Whole enc C.prog fn.params.toList s.vars apart W args.toList ds gs before → k H (ds ++ gs) = true → X W args →
      Calls C.prog f args W fun e W' => ∃ v, e = .returned v ∧ (s.at F).post enc C.prog fn apart fresh handsOn again W args v W') :
    ReturnsInHanded a C os f .any (fun w args => (s.pre enc C.prog fn conds apart w args ∧ X w args) ∧ sizedMet enc C.prog fn s apart w args) ((s.at F).post enc C.prog fn apart fresh handsOn again) := by
  refine returnsInHanded_of_calls own started noInit witness ?_
  intro w tape i _ _ _ hok hpre hholds
  obtain ⟨_, _, _, fn', hfn', _, _, _, _, hval⟩ := hok
  have e : fn' = fn := Option.some.inj (hfn'.symm.trans hfn)
  subst e
  obtain ⟨⟨hp, hx⟩, hz⟩ := hpre
  obtain ⟨ds, gs, before, hw, hc, hkk⟩ := (OpenSpec.pre_some hk conds apart _ _).1 hp
  have hw' := DataW.Whole.of_heap (w' := w.forCall tape i) (by rfl) hw
  refine (contract (w.forCall tape i) w.heap.size i.args ds gs before hval hw' hkk (hX _ _ _ (by rfl) hx)).mono fun e W' ⟨v, he, hp⟩ => ?_
  subst he
  exact ChangeSpec.post_blind hp
/-- A start that meets such a row. -/
theorem cond_start {H : Type} {enc : TypeId × Value → H} {C : Checked} {os : Os} {f : FuncId} {fn : Func} {s : OpenSpec} {k : (H : Type) → List (DataW H) → Bool} (hk : s.cond = some k) {apart : Bool} {X : World → Array Value → Prop} (w0 : World) (args : Array Value) (fuel : Nat) (hos : w0.os = os)
    (hsh : (w0.forCall (fun _ _ => 0) ⟨#[], args, []⟩).Shaped C.prog)
    (hok : Input.okWideB C.prog (w0.forCall (fun _ _ => 0) ⟨#[], args, []⟩) f ⟨#[], args, []⟩ = true)
    {x : List (DataW H) × List (DataW H) × List MemPlace} (hx : DataW.whole enc C.prog (w0.forCall (fun _ _ => 0) ⟨#[], args, []⟩).memory fn.params.toList s.vars apart args.toList fuel = some x) (hkk : k H (x.1 ++ x.2.1) = true)
    (hsz : s.bare.sizedB enc C.prog fn apart (w0.forCall (fun _ _ => 0) ⟨#[], args, []⟩).memory args fuel = true)
    (hX : X (w0.forCall (fun _ _ => 0) ⟨#[], args, []⟩).memory args) :
    ∃ (w : World) (tape : Tape) (i : Input), w.os = os ∧ (w.forCall tape i).Shaped C.prog ∧ i.vars = [] ∧ Input.okWide C.prog (w.forCall tape i) .any w.heap.size f i ∧
      ((s.pre enc C.prog fn [] apart (w.forCall tape i).memory i.args ∧ X (w.forCall tape i).memory i.args) ∧ sizedMet enc C.prog fn s apart (w.forCall tape i).memory i.args) ∧ ({} : Assume).holds C.prog (lone (Frame.enter C.prog f i.args .normal) [] (w.forCall tape i)) :=
  ⟨w0, fun _ _ => 0, ⟨#[], args, []⟩, hos, hsh, (Input.okWide_of_okWideB (base := 0) hok).1, (Input.okWide_of_okWideB hok).2,
    ⟨⟨(OpenSpec.pre_some hk [] apart _ _).2 ⟨x.1, x.2.1, x.2.2, DataW.Whole_of_whole hx, rfl, hkk⟩, hX⟩, sizedMet_of_sizedB hsz⟩, by
    simp only [Assume.holds]
    exact ⟨by simp, by simp, by simp, by simp, by simp⟩⟩
theorem u52 : Tryd.prog.underlying 52 = some (.int .u32) := by kernel_rfl
theorem u21 : Tryd.prog.underlying 21 = some (.int .i32) := by kernel_rfl
theorem u53 : Tryd.prog.underlying 53 = some (.slice 86) := by kernel_rfl
theorem c86 : Tryd.prog.cellsOf 86 = 2 := by kernel_rfl
theorem c55 : Tryd.prog.cellsOf 55 = 2 := by kernel_rfl
theorem c53 : Tryd.prog.cellsOf 53 = 1 := by kernel_rfl
theorem c52 : Tryd.prog.cellsOf 52 = 1 := by kernel_rfl
theorem c21 : Tryd.prog.cellsOf 21 = 1 := by kernel_rfl
theorem c77 : Tryd.prog.cellsOf 77 = 5 := by kernel_rfl
theorem c79 : Tryd.prog.cellsOf 79 = 10 := by kernel_rfl
theorem c57 : Tryd.prog.cellsOf 57 = 3 := by kernel_rfl
theorem c26 : Tryd.prog.cellsOf 26 = 1 := by kernel_rfl
theorem c27 : Tryd.prog.cellsOf 27 = 1 := by kernel_rfl
theorem c28 : Tryd.prog.cellsOf 28 = 1 := by kernel_rfl
theorem c30 : Tryd.prog.cellsOf 30 = 4 := by kernel_rfl
theorem s86 : flds2 Tryd.prog 86 = some [(9, 0), (52, 1)] := by kernel_rfl
theorem s55 : flds2 Tryd.prog 55 = some [(53, 0), (52, 1)] := by kernel_rfl
theorem s77 : flds2 Tryd.prog 77 = some [(3, 0), (3, 1), (3, 2), (21, 3), (3, 4)] := by kernel_rfl
theorem s79 : flds2 Tryd.prog 79 = some [(3, 0), (9, 1), (77, 2), (55, 7), (3, 9)] := by kernel_rfl
theorem s57 : flds2 Tryd.prog 57 = some [(9, 0), (55, 1)] := by kernel_rfl
theorem s30 : flds2 Tryd.prog 30 = some [(26, 0), (26, 1), (27, 2), (28, 3)] := by kernel_rfl
section
variable {H : Type} {enc : TypeId × Value → H} {W : World} {base n : Nat} {sp : Nat → Bool} {held : Bool} {cs : List Value} {y : DataW H × List MemPlace}
theorem list2 {α : Type} {ys : List α} {a b : α} (hl : ys.length = 2) (h0 : ys[0]? = some a) (h1 : ys[1]? = some b) : ys = [a, b] := by
  match ys, hl with
  | [x, y], _ =>
    simp only [List.getElem?_cons_zero, List.getElem?_cons_succ, Option.some.injEq] at h0 h1
    subst h0 h1
    rfl
/-- What is known of a term, its cells, its bulk. -/
def QT (t : ByteArray × Nat) (cs : List Value) (k : Nat) : Prop := cs = encT t ∧ t.1.size ≤ maxLen ∧ t.2 < 4294967296 ∧ k = t.1.size + 3
theorem open_term (h : DataW.trod enc Tryd.prog W base sp held n 86 cs = some y) : ∃ t, QT t cs (Rows.uptoBulk y.1) := by
  obtain ⟨ys, m, hy, hl, hyn, hys⟩ := open_struct s86 h
  obtain ⟨y0, g0, t0⟩ := hys 0 _ rfl
  obtain ⟨y1, g1, t1⟩ := hys 1 _ rfl
  have hys2 := list2 hyn g0 g1
  rw [c86] at hl
  match cs, hl with
  | [v, u], _ =>
    rw [show Tryd.prog.cellsOf (9, 0).1 = 1 from c9] at t0
    rw [show Tryd.prog.cellsOf (52, 1).1 = 1 from c52] at t1
    obtain ⟨s, e0, r0, hs⟩ := DataW.trod_string u9 t0
    obtain ⟨k, e1, r1, hk⟩ := DataW.trod_int u52 t1
    have hb := bounds_u32 hk
    cases e0; cases e1
    refine ⟨(s, k.toNat), ?_, hs, by show k.toNat < _; omega, ?_⟩
    · unfold encT
      simp only [List.cons.injEq, Value.int.injEq, true_and, and_true]
      omega
    · rw [hy, hys2, r0, r1]
      simp only [List.map_cons, List.map_nil, Rows.uptoBulk, Rows.uptoBulkAll]
      rw [Array.length_toList]
      show s.data.size + 1 + (1 + 0) + 1 = s.data.size + 3
      omega
/-- What is known of a Lin. -/
structure LinK (h : Hp) (p : Option Addr) (l c : Nat) (x : Lin) (k : Nat) : Prop where
  vw : VwT h p l x.terms
  names : ∀ t, t ∈ x.terms → t.1.size ≤ maxLen
  num : LinNum x
  many : 3 * x.terms.length ≤ k
  size : (wLin x).length ≤ 2 * k
  cap : l ≤ c
theorem wTerms_len : ∀ (ts : Tms) (ks : List Nat), ks.length = ts.length → (∀ i, (hi : i < ts.length) → (hk : i < ks.length) → ks[i] = ts[i].1.size + 3) → (ts.flatMap wTerm).length = 2 * ks.sum - (ts.map (·.1.size)).sum ∧ (ts.map (·.1.size)).sum + 3 * ts.length = ks.sum
  | [], ks, hl, _ => by
    have : ks = [] := List.length_eq_zero_iff.1 hl
    subst this
    simp
  | t :: ts, [], hl, _ => by simp at hl
  | t :: ts, k :: ks, hl, h => by
    have h0 := h 0 (by simp) (by simp)
    simp only [List.getElem_cons_zero] at h0
    obtain ⟨i1, i2⟩ := wTerms_len ts ks (by simpa using hl) (fun i hi hk => h (i + 1) (by simpa using hi) (by simpa using hk))
    have hw : (wTerm t).length = t.1.size + 6 := by
      unfold wTerm wText
      simp only [List.length_append, bytB_length]
      have : t.1.data.toList.length = t.1.size := by simp
      omega
    rw [List.flatMap_cons, List.length_append, List.sum_cons, List.map_cons, List.sum_cons, List.length_cons, hw, i1]
    omega
theorem open_lin (h : DataW.trod enc Tryd.prog W base sp held n 55 cs = some y) :
    ∃ p l c x, cs = [.slice p l c, .int .u32 ((x : Lin).num : Int)] ∧ LinK W.heap p l c x (Rows.uptoBulk y.1) := by
  obtain ⟨ys, m, hy, hl, hyn, hys⟩ := open_struct s55 h
  obtain ⟨y0, g0, t0⟩ := hys 0 _ rfl
  obtain ⟨y1, g1, t1⟩ := hys 1 _ rfl
  have hys2 := list2 hyn g0 g1
  rw [c55] at hl
  match cs, hl with
  | [v, u], _ =>
    rw [show Tryd.prog.cellsOf (53, 0).1 = 1 from c53] at t0
    rw [show Tryd.prog.cellsOf (52, 1).1 = 1 from c52] at t1
    obtain ⟨p, l, c, us, ks, e0, ls, hsum⟩ := open_slice u53 c86 QT (fun cs y n h => open_term h) t0
    obtain ⟨k, e1, r1, hk⟩ := DataW.trod_int u52 t1
    have hb := bounds_u32 hk
    cases e0; cases e1
    have hkk : ((k.toNat : Nat) : Int) = k := by omega
    have hbulk : Rows.uptoBulk y.1 = Rows.uptoBulk y0.1 + 2 := by
      rw [hy, hys2, r1]
      simp only [List.map_cons, List.map_nil, Rows.uptoBulk, Rows.uptoBulkAll]
    have hq : ∀ i, (hi : i < us.length) → (hk : i < ks.length) → us[i].1.size ≤ maxLen ∧ us[i].2 < 4294967296 ∧ ks[i] = us[i].1.size + 3 := by
      intro i hi hk
      obtain ⟨a, cs, _, _, _, q2, q3, q4⟩ := ls.cells i hi hk
      exact ⟨q2, q3, q4⟩
    have hkl := ls.lenk
    obtain ⟨w1, w2⟩ := wTerms_len us ks hkl (fun i hi hk => (hq i hi hk).2.2)
    refine ⟨p, l, c, ⟨us, k.toNat⟩, by rw [show ((⟨us, k.toNat⟩ : Lin).num : Int) = k from hkk], ⟨ls.len, fun i hi => ?_⟩, ?_, ⟨?_, by show k.toNat < _; omega⟩, ?_, ?_, ls.cap⟩
    · have hi : i < us.length := hi
      obtain ⟨a, cs, ha, hc, q1, _⟩ := ls.cells i hi (by omega)
      rw [q1] at hc
      exact ⟨a, ha, hc⟩
    · intro t (ht : t ∈ us)
      obtain ⟨i, hi, rfl⟩ := List.getElem_of_mem ht
      exact (hq i hi (by omega)).1
    · intro t (ht : t ∈ us)
      obtain ⟨i, hi, rfl⟩ := List.getElem_of_mem ht
      exact (hq i hi (by omega)).2.1
    · show 3 * us.length ≤ _
      omega
    · show (bytB us.length 2 ++ (us.flatMap wTerm ++ bytB k.toNat 4)).length ≤ _
      rw [List.length_append, List.length_append, bytB_length, bytB_length, w1]
      omega
theorem list5 {α : Type} {ys : List α} {a b c d e : α} (hl : ys.length = 5) (h0 : ys[0]? = some a) (h1 : ys[1]? = some b) (h2 : ys[2]? = some c) (h3 : ys[3]? = some d) (h4 : ys[4]? = some e) : ys = [a, b, c, d, e] := by
  match ys, hl with
  | [x0, x1, x2, x3, x4], _ =>
    simp only [List.getElem?_cons_zero, List.getElem?_cons_succ, Option.some.injEq] at h0 h1 h2 h3 h4
    subst h0 h1 h2 h3 h4
    rfl
theorem list4 {α : Type} {ys : List α} {a b c d : α} (hl : ys.length = 4) (h0 : ys[0]? = some a) (h1 : ys[1]? = some b) (h2 : ys[2]? = some c) (h3 : ys[3]? = some d) : ys = [a, b, c, d] := by
  match ys, hl with
  | [x0, x1, x2, x3], _ =>
    simp only [List.getElem?_cons_zero, List.getElem?_cons_succ, Option.some.injEq] at h0 h1 h2 h3
    subst h0 h1 h2 h3
    rfl
theorem open_ins (h : DataW.trod enc Tryd.prog W base sp held n 77 cs = some y) : ∃ i : Ins, cs = insC i ∧ Sm i.op ∧ Rows.uptoBulk y.1 = 6 := by
  obtain ⟨ys, m, hy, hl, hyn, hys⟩ := open_struct s77 h
  obtain ⟨y0, g0, t0⟩ := hys 0 _ rfl
  obtain ⟨y1, g1, t1⟩ := hys 1 _ rfl
  obtain ⟨y2, g2, t2⟩ := hys 2 _ rfl
  obtain ⟨y3, g3, t3⟩ := hys 3 _ rfl
  obtain ⟨y4, g4, t4⟩ := hys 4 _ rfl
  have hys5 := list5 hyn g0 g1 g2 g3 g4
  rw [c77] at hl
  match cs, hl with
  | [v0, v1, v2, v3, v4], _ =>
    rw [show Tryd.prog.cellsOf (3, 0).1 = 1 from c3] at t0
    rw [show Tryd.prog.cellsOf (3, 1).1 = 1 from c3] at t1
    rw [show Tryd.prog.cellsOf (3, 2).1 = 1 from c3] at t2
    rw [show Tryd.prog.cellsOf (21, 3).1 = 1 from c21] at t3
    rw [show Tryd.prog.cellsOf (3, 4).1 = 1 from c3] at t4
    obtain ⟨k0, e0, r0, w0⟩ := DataW.trod_int u3 t0
    obtain ⟨k1, e1, r1, w1⟩ := DataW.trod_int u3 t1
    obtain ⟨k2, e2, r2, w2⟩ := DataW.trod_int u3 t2
    obtain ⟨k3, e3, r3, w3⟩ := DataW.trod_int u21 t3
    obtain ⟨k4, e4, r4, w4⟩ := DataW.trod_int u3 t4
    cases e0; cases e1; cases e2; cases e3; cases e4
    refine ⟨⟨k0, k1, k2, k3, k4⟩, rfl, bounds_i64 w0, ?_⟩
    rw [hy, hys5, r0, r1, r2, r3, r4]
    simp only [List.map_cons, List.map_nil, Rows.uptoBulk, Rows.uptoBulkAll]
/-- What is known of an item. -/
def QI (h : Hp) (x : Itm) (cs : List Value) (k : Nat) : Prop := ∃ p l c b, cs = encI p l c x ∧ LinK h p l c x.e b ∧ x.name.size ≤ maxLen ∧ Sm x.inst.op ∧ k = x.name.size + b + 10
theorem open_item (h : DataW.trod enc Tryd.prog W base sp held n 79 cs = some y) : ∃ x, QI W.heap x cs (Rows.uptoBulk y.1) := by
  obtain ⟨ys, m, hy, hl, hyn, hys⟩ := open_struct s79 h
  obtain ⟨y0, g0, t0⟩ := hys 0 _ rfl
  obtain ⟨y1, g1, t1⟩ := hys 1 _ rfl
  obtain ⟨y2, g2, t2⟩ := hys 2 _ rfl
  obtain ⟨y3, g3, t3⟩ := hys 3 _ rfl
  obtain ⟨y4, g4, t4⟩ := hys 4 _ rfl
  have hys5 := list5 hyn g0 g1 g2 g3 g4
  rw [c79] at hl
  match cs, hl with
  | [v0, v1, v2, v3, v4, v5, v6, v7, v8, v9], _ =>
    rw [show Tryd.prog.cellsOf (3, 0).1 = 1 from c3] at t0
    rw [show Tryd.prog.cellsOf (9, 1).1 = 1 from c9] at t1
    rw [show Tryd.prog.cellsOf (77, 2).1 = 5 from c77] at t2
    rw [show Tryd.prog.cellsOf (55, 7).1 = 2 from c55] at t3
    rw [show Tryd.prog.cellsOf (3, 9).1 = 1 from c3] at t4
    obtain ⟨k0, e0, r0, w0⟩ := DataW.trod_int u3 t0
    obtain ⟨s, e1, r1, w1⟩ := DataW.trod_string u9 t1
    obtain ⟨i, e2, w2, r2⟩ := open_ins t2
    obtain ⟨p, l, c, x, e3, lk⟩ := open_lin t3
    obtain ⟨k4, e4, r4, w4⟩ := DataW.trod_int u3 t4
    cases e0; cases e1; cases e2; cases e3; cases e4
    refine ⟨⟨k0, s, i, x, k4⟩, p, l, c, _, rfl, lk, w1, w2, ?_⟩
    rw [hy, hys5, r0, r1, r4]
    simp only [List.map_cons, List.map_nil, Rows.uptoBulk, Rows.uptoBulkAll, r2]
    rw [Array.length_toList]
    show 1 + (s.data.size + 1 + (6 + (Rows.uptoBulk y3.1 + (1 + 0)))) + 1 = s.data.size + Rows.uptoBulk y3.1 + 10
    omega
def QE (h : Hp) (x : Eqn) (cs : List Value) (k : Nat) : Prop := ∃ p l c b, cs = encE p l c x ∧ LinK h p l c x.2 b ∧ x.1.size ≤ maxLen ∧ k = x.1.size + b + 2
theorem open_equ (h : DataW.trod enc Tryd.prog W base sp held n 57 cs = some y) : ∃ x, QE W.heap x cs (Rows.uptoBulk y.1) := by
  obtain ⟨ys, m, hy, hl, hyn, hys⟩ := open_struct s57 h
  obtain ⟨y0, g0, t0⟩ := hys 0 _ rfl
  obtain ⟨y1, g1, t1⟩ := hys 1 _ rfl
  have hys2 := list2 hyn g0 g1
  rw [c57] at hl
  match cs, hl with
  | [v0, v1, v2], _ =>
    rw [show Tryd.prog.cellsOf (9, 0).1 = 1 from c9] at t0
    rw [show Tryd.prog.cellsOf (55, 1).1 = 2 from c55] at t1
    obtain ⟨s, e1, r1, w1⟩ := DataW.trod_string u9 t0
    obtain ⟨p, l, c, x, e3, lk⟩ := open_lin t1
    cases e1; cases e3
    refine ⟨(s, x), p, l, c, _, rfl, lk, w1, ?_⟩
    rw [hy, hys2, r1]
    simp only [List.map_cons, List.map_nil, Rows.uptoBulk, Rows.uptoBulkAll]
    rw [Array.length_toList]
    show (s.data.size + 1 + (Rows.uptoBulk y1.1 + 0)) + 1 = s.data.size + Rows.uptoBulk y1.1 + 2
    omega
def QS (x : ByteArray) (cs : List Value) (k : Nat) : Prop := cs = [.string x] ∧ x.size ≤ maxLen ∧ k = x.size + 1
theorem open_str (h : DataW.trod enc Tryd.prog W base sp held n 9 cs = some y) : ∃ x, QS x cs (Rows.uptoBulk y.1) := by
  obtain ⟨s, e1, r1, w1⟩ := DataW.trod_string u9 h
  refine ⟨s, e1, w1, ?_⟩
  rw [r1]
  simp only [Rows.uptoBulk]
  rw [Array.length_toList]
  rfl
theorem sum_le {α : Type} (f : α → Nat) (m : Nat) : ∀ (us : List α) (ks : List Nat), ks.length = us.length → (∀ i, (hi : i < us.length) → (hk : i < ks.length) → f us[i] ≤ m * ks[i]) → (us.map f).sum ≤ m * ks.sum
  | [], ks, hl, _ => by simp
  | u :: us, [], hl, _ => by simp at hl
  | u :: us, k :: ks, hl, h => by
    have h0 := h 0 (by simp) (by simp)
    simp only [List.getElem_cons_zero] at h0
    have ih := sum_le f m us ks (by simpa using hl) (fun i hi hk => h (i + 1) (by simpa using hi) (by simpa using hk))
    rw [List.map_cons, List.sum_cons, List.sum_cons, Nat.mul_add]
    omega
theorem wItm_len {h : Hp} {x : Itm} {cs : List Value} {k : Nat} (q : QI h x cs k) : (wItm x).length ≤ 2 * k := by
  obtain ⟨p, l, c, b, _, lk, _, _, rfl⟩ := q
  have h1 := lk.size
  have ht : (wText x.name).length = x.name.size + 2 := by
    unfold wText
    rw [List.length_append, bytB_length]
    have : x.name.data.toList.length = x.name.size := by simp
    omega
  have hi : ∀ (n : Int) (w : Nat), (wInt n w).length = w := fun n w => by unfold wInt; rw [bytB_length]
  unfold wItm
  rw [List.length_append, hi]
  split
  · omega
  · split
    · rw [List.length_append, List.length_append, List.length_append, List.length_append, hi, hi, hi, hi]
      split
      · omega
      · simp
        omega
    · split
      · rw [hi]; omega
      · split
        · omega
        · split
          · rw [hi]; omega
          · simp
            omega
theorem wEqu_len {h : Hp} {x : Eqn} {cs : List Value} {k : Nat} (q : QE h x cs k) : (wEqu x).length ≤ 2 * k := by
  obtain ⟨p, l, c, b, _, lk, _, rfl⟩ := q
  have h1 := lk.size
  unfold wEqu wText
  rw [List.length_append, List.length_append, bytB_length]
  have : x.1.data.toList.length = x.1.size := by simp
  omega
theorem wText_len {x : ByteArray} {cs : List Value} {k : Nat} (q : QS x cs k) : (wText x).length ≤ 2 * k := by
  obtain ⟨_, _, rfl⟩ := q
  unfold wText
  rw [List.length_append, bytB_length]
  have : x.data.toList.length = x.size := by simp
  omega
theorem fm_len {α : Type} (f : α → Bt) (us : List α) : (us.flatMap f).length = (us.map fun u => (f u).length).sum := by rw [List.length_flatMap]
end
end Go.Sx.Ob

set_option linter.unusedVariables false
set_option linter.unusedSimpArgs false
set_option maxRecDepth 100000
namespace Go.Sx.Ob
open Go.Proofs Go.Proofs.YtnjohginlglonaaDoor
open Go.ChangeShapes Go.WideShapes Go.ChangeAt Go.WideMaps Go.WideElems Go.RowKit
theorem get_sum : ∀ (ks : List Nat) (i : Nat) (h : i < ks.length), ks[i] ≤ ks.sum
  | k :: ks, 0, _ => by simp
  | k :: ks, i + 1, h => by
    have := get_sum ks i (by simpa using h)
    simp only [List.getElem_cons_succ, List.sum_cons]
    omega
theorem ones_sum {α : Type} : ∀ us : List α, (us.map fun _ => 1).sum = us.length
  | [] => rfl
  | u :: us => by rw [List.map_cons, List.sum_cons, ones_sum us, List.length_cons, Nat.add_comm]
theorem mem_get {α : Type} {P : α → Prop} {us : List α} (h : ∀ i, (hi : i < us.length) → P us[i]) : ∀ x, x ∈ us → P x := fun x hx => by
  obtain ⟨i, hi, rfl⟩ := List.getElem_of_mem hx
  exact h i hi
theorem LinK.at {h : Hp} {p : Option Addr} {l c : Nat} {x : Lin} {k : Nat} (q : LinK h p l c x k) (hk : k ≤ 2 ^ 60) : LinAt h p l x := ⟨q.vw, by have := q.many; omega, q.names⟩
theorem itms_at {h : Hp} {p : Option Addr} {l c : Nat} {us : List Itm} {ks : List Nat} (s : LsIn (QI h) h 10 p l c us ks) (hs : ks.sum ≤ 2 ^ 58) : VwI h p l us ∧ (∀ x, x ∈ us → LinNum x.e) ∧ (us.flatMap wItm).length ≤ 2 * ks.sum := by
  have hl := s.lenk
  have q : ∀ i, (hi : i < us.length) → ∃ a cs, p = some a ∧ cellsAt h (a.add (i * 10)) 0 cs ∧ QI h us[i] cs ks[i] := fun i hi => s.cells i hi (by omega)
  have one : ∀ i, (hi : i < us.length) → 1 ≤ 1 * ks[i] := fun i hi => by
    obtain ⟨_, _, _, _, _, _, _, _, _, _, _, _, hk⟩ := q i hi
    omega
  have hm : us.length ≤ ks.sum := by
    have := sum_le (fun _ => 1) 1 us ks hl (fun i hi hk => one i hi)
    rw [ones_sum] at this
    omega
  refine ⟨⟨s.len, by omega, fun i hi => ?_⟩, mem_get fun i hi => ?_, ?_⟩
  · obtain ⟨a, cs, ha, hc, p', l', c', b, rfl, lk, hn, ho, hk⟩ := q i hi
    have := get_sum ks i (by omega)
    exact ⟨a, p', l', c', ha, hc, lk.at (by omega), hn, ho⟩
  · obtain ⟨a, cs, ha, hc, p', l', c', b, rfl, lk, hn, ho, hk⟩ := q i hi
    exact lk.num
  · rw [fm_len]
    refine sum_le _ 2 us ks hl (fun i hi hk => ?_)
    obtain ⟨a, cs, ha, hc, hq⟩ := q i hi
    exact wItm_len hq
theorem equs_at {h : Hp} {p : Option Addr} {l c : Nat} {us : List Eqn} {ks : List Nat} (s : LsIn (QE h) h 3 p l c us ks) (hs : ks.sum ≤ 2 ^ 58) : VwE h p l us ∧ (∀ x, x ∈ us → LinNum x.2) ∧ (us.flatMap wEqu).length ≤ 2 * ks.sum := by
  have hl := s.lenk
  have q : ∀ i, (hi : i < us.length) → ∃ a cs, p = some a ∧ cellsAt h (a.add (i * 3)) 0 cs ∧ QE h us[i] cs ks[i] := fun i hi => s.cells i hi (by omega)
  have one : ∀ i, (hi : i < us.length) → 1 ≤ 1 * ks[i] := fun i hi => by
    obtain ⟨_, _, _, _, _, _, _, _, _, _, _, hk⟩ := q i hi
    omega
  have hm : us.length ≤ ks.sum := by
    have := sum_le (fun _ => 1) 1 us ks hl (fun i hi hk => one i hi)
    rw [ones_sum] at this
    omega
  refine ⟨⟨s.len, by omega, fun i hi => ?_⟩, mem_get fun i hi => ?_, ?_⟩
  · obtain ⟨a, cs, ha, hc, p', l', c', b, rfl, lk, hn, hk⟩ := q i hi
    have := get_sum ks i (by omega)
    exact ⟨a, p', l', c', ha, hc, lk.at (by omega), hn⟩
  · obtain ⟨a, cs, ha, hc, p', l', c', b, rfl, lk, hn, hk⟩ := q i hi
    exact lk.num
  · rw [fm_len]
    refine sum_le _ 2 us ks hl (fun i hi hk => ?_)
    obtain ⟨a, cs, ha, hc, hq⟩ := q i hi
    exact wEqu_len hq
theorem strs_at {h : Hp} {p : Option Addr} {l c : Nat} {us : List ByteArray} {ks : List Nat} (s : LsIn QS h 1 p l c us ks) (hs : ks.sum ≤ 2 ^ 58) : VwS h p l us ∧ (us.flatMap wText).length ≤ 2 * ks.sum := by
  have hl := s.lenk
  have q : ∀ i, (hi : i < us.length) → ∃ a cs, p = some a ∧ cellsAt h (a.add (i * 1)) 0 cs ∧ QS us[i] cs ks[i] := fun i hi => s.cells i hi (by omega)
  have one : ∀ i, (hi : i < us.length) → 1 ≤ 1 * ks[i] := fun i hi => by
    obtain ⟨_, _, _, _, _, _, hk⟩ := q i hi
    omega
  have hm : us.length ≤ ks.sum := by
    have := sum_le (fun _ => 1) 1 us ks hl (fun i hi hk => one i hi)
    rw [ones_sum] at this
    omega
  refine ⟨⟨s.len, by omega, fun i hi => ?_⟩, ?_⟩
  · obtain ⟨a, cs, ha, hc, rfl, hn, hk⟩ := q i hi
    exact ⟨a, ha, hc, hn⟩
  · rw [fm_len]
    refine sum_le _ 2 us ks hl (fun i hi hk => ?_)
    obtain ⟨a, cs, ha, hc, hq⟩ := q i hi
    exact wText_len hq
structure UntIn (h : Hp) (a b c d : Sli) (u : Unt) (N : Nat) : Prop where
  at_ : UntAt h a b c d u
  num : UntNum u
  size : (wUnt u).length ≤ 2 * N + 13
section
variable {H : Type} {enc : TypeId × Value → H} {W : World} {base n : Nat} {sp : Nat → Bool} {held : Bool} {cs : List Value} {y : DataW H × List MemPlace}
theorem open_unit_cells (h : DataW.trod enc Tryd.prog W base sp held n 30 cs = some y) (hN : Rows.uptoBulk y.1 ≤ 2 ^ 50) : ∃ a b c d u, cs = [Sli.v a, Sli.v b, Sli.v c, Sli.v d] ∧ UntIn W.heap a b c d u (Rows.uptoBulk y.1) := by
  obtain ⟨ys, m, hy, hl, hyn, hys⟩ := open_struct s30 h
  obtain ⟨y0, g0, t0⟩ := hys 0 _ rfl
  obtain ⟨y1, g1, t1⟩ := hys 1 _ rfl
  obtain ⟨y2, g2, t2⟩ := hys 2 _ rfl
  obtain ⟨y3, g3, t3⟩ := hys 3 _ rfl
  have hys4 := list4 hyn g0 g1 g2 g3
  rw [c30] at hl
  match cs, hl with
  | [v0, v1, v2, v3], _ =>
    rw [show Tryd.prog.cellsOf (26, 0).1 = 1 from c26] at t0
    rw [show Tryd.prog.cellsOf (26, 1).1 = 1 from c26] at t1
    rw [show Tryd.prog.cellsOf (27, 2).1 = 1 from c27] at t2
    rw [show Tryd.prog.cellsOf (28, 3).1 = 1 from c28] at t3
    obtain ⟨p0, l0, k0, u0, b0, e0, s0, m0⟩ := open_slice und26 c79 (QI W.heap) (fun cs y n h => open_item h) t0
    obtain ⟨p1, l1, k1, u1, b1, e1, s1, m1⟩ := open_slice und26 c79 (QI W.heap) (fun cs y n h => open_item h) t1
    obtain ⟨p2, l2, k2, u2, b2, e2, s2, m2⟩ := open_slice und27 c57 (QE W.heap) (fun cs y n h => open_equ h) t2
    obtain ⟨p3, l3, k3, u3, b3, e3, s3, m3⟩ := open_slice und28 c9 QS (fun cs y n h => open_str h) t3
    cases e0; cases e1; cases e2; cases e3
    have hb : Rows.uptoBulk y.1 = Rows.uptoBulk y0.1 + Rows.uptoBulk y1.1 + Rows.uptoBulk y2.1 + Rows.uptoBulk y3.1 + 1 := by
      rw [hy, hys4]
      simp only [List.map_cons, List.map_nil, Rows.uptoBulk, Rows.uptoBulkAll]
      omega
    obtain ⟨x0, n0, w0⟩ := itms_at s0 (by omega)
    obtain ⟨x1, n1, w1⟩ := itms_at s1 (by omega)
    obtain ⟨x2, n2, w2⟩ := equs_at s2 (by omega)
    obtain ⟨x3, w3⟩ := strs_at s3 (by omega)
    refine ⟨⟨p0, l0, k0⟩, ⟨p1, l1, k1⟩, ⟨p2, l2, k2⟩, ⟨p3, l3, k3⟩, ⟨u0, u1, u2, u3⟩, rfl, ⟨x0, x1, x2, x3⟩, ⟨n0, n1, n2⟩, ?_⟩
    show (headL ++ (wCnt wItm u0 ++ (wCnt wItm u1 ++ (wCnt wEqu u2 ++ wCnt wText u3)))).length ≤ _
    unfold wCnt
    simp only [List.length_append, bytB_length]
    rw [show headL.length = 5 from rfl]
    omega
theorem open_unit {b0 : Nat} {v : Value} {d : DataW H} {ps : List MemPlace} (hval : Value.okWide Tryd.prog W .any b0 30 v) (h : DataW.Trod enc Tryd.prog W base sp held 30 v d ps) (hN : Rows.uptoBulk d ≤ 2 ^ 50) :
    ∃ a b c e u, v = untV a b c e ∧ UntIn W.heap a b c e u (Rows.uptoBulk d) := by
  have hval' : ∃ cs, v = .agg cs ∧ cs.size = Tryd.prog.cellsOf 30 := by
    unfold Value.okWide at hval
    cases hu : Tryd.prog.underlying 30 with
    | none => have := s30; unfold flds2 at this; rw [hu] at this; cases this
    | some td =>
      have := s30
      unfold flds2 at this
      rw [hu] at this hval
      simp only [Option.bind_some] at this
      split at this
      · obtain ⟨cs, h1, h2, _⟩ := hval
        exact ⟨cs, h1, h2⟩
      · cases this
  obtain ⟨cs, rfl, hsz⟩ := hval'
  obtain ⟨fuel, h⟩ := h
  have hlist : (Value.agg cs).cells.toList = cs.toList := rfl
  rw [hlist] at h
  obtain ⟨a, b, c, e, u, hcs, hu⟩ := open_unit_cells h hN
  refine ⟨a, b, c, e, u, ?_, hu⟩
  unfold untV
  congr 1
  apply Array.toList_inj.1
  rw [hcs]
/-- Bytes that were handed in. -/
structure BytIn (h : Hp) (p : Option Addr) (l c : Nat) (bs : Bt) (N : Nat) : Prop where
  vw : VwB h p l bs
  cap : l ≤ c
  capm : c ≤ maxLen
  nil : p = none → c = 0
  many : bs.length ≤ N
theorem open_bytes {b0 : Nat} {v : Value} {d : DataW H} {ps : List MemPlace} (hval : Value.okWide Tryd.prog W .any b0 22 v) (h : DataW.Trod enc Tryd.prog W base sp held 22 v d ps) :
    ∃ p l c bs, v = .slice p l c ∧ BytIn W.heap p l c bs (Rows.uptoBulk d) := by
  obtain ⟨p, l, c, rfl⟩ := okWide_slice und22 hval
  obtain ⟨fuel, h⟩ := h
  have hlist : (Value.slice p l c).cells.toList = [.slice p l c] := rfl
  rw [hlist] at h
  obtain ⟨p', l', c', us, ks, e0, s, hs⟩ := open_slice und22 c5 (fun (b : UInt8) cs k => cs = [.int .u8 (b.toNat : Int)] ∧ k = 1) (fun cs y n h => by
    obtain ⟨z, e1, r1, w1⟩ := DataW.trod_int u5 h
    have := bounds_u8 w1
    refine ⟨UInt8.ofNat z.toNat, ?_, ?_⟩
    · rw [e1]
      have : (((UInt8.ofNat z.toNat).toNat : Nat) : Int) = z := by simp; omega
      rw [this]
    · rw [r1]; simp only [Rows.uptoBulk]) h
  cases e0
  have hl := s.lenk
  refine ⟨p, l, c, us, rfl, ⟨s.len, fun i hi => ?_⟩, s.cap, s.capm, s.nil, ?_⟩
  · obtain ⟨a, cs, ha, hc, rfl, _⟩ := s.cells i hi (by omega)
    exact ⟨a, ha, hc⟩
  · have := sum_le (fun _ => 1) 1 us ks hl (fun i hi hk => by
      obtain ⟨a, cs, ha, hc, _, hk1⟩ := s.cells i hi hk
      omega)
    rw [ones_sum] at this
    show us.length ≤ Rows.uptoBulk d
    have hs : ks.sum + 1 ≤ Rows.uptoBulk d := hs
    omega
end
end Go.Sx.Ob

set_option linter.unusedVariables false
set_option linter.unusedSimpArgs false
set_option maxRecDepth 100000
namespace Go.Sx.Ob
open Go.Proofs Go.Proofs.YtnjohginlglonaaDoor
open Go.ChangeMaps
open Go.ChangeShapes Go.WideShapes Go.ChangeAt Go.WideMaps Go.WideElems Go.RowKit
theorem objectCuts_small : (Tryd.f5.params.toList.all fun t => decide (t < Tryd.prog.types.size)) = true := by kernel_rfl
theorem objectCuts_cell0 : Tryd.prog.inPlace 5 = Rows.objectCutsUptoRow.inPlace := by kernel_rfl
theorem objectCuts_cell1 : Tryd.prog.unfollowed 5 = Rows.objectCutsUptoRow.unfollowed := by kernel_rfl
theorem objectCuts_cell2 : Tryd.prog.recurses 5 = Rows.objectCutsUptoRow.recurses := by kernel_rfl
theorem objectCuts_cell3 : Tryd.prog.varsNamed 5 = Rows.objectCutsUptoRow.named := by kernel_rfl
theorem objectCuts_facts : joinedFacts Tryd.prog 5 Tryd.f5 (Rows.OpenSpec.upto Rows.objectCutsSpec).bare Rows.objectCutsUptoRow = true := by
  unfold joinedFacts
  rw [objectCuts_cell0, objectCuts_cell1, objectCuts_cell2, objectCuts_cell3]
  kernel_rfl
theorem objectCuts_lifted (os : Os) (started : os.Started) (H : Type) (enc : TypeId × Value → H) (F : Stop.Interp) :
    ReturnsInHanded {} Tryd.checked os 5 .any (fun w args => ((Rows.OpenSpec.upto Rows.objectCutsSpec).pre enc Tryd.prog Tryd.f5 [] false w args ∧ laidMetH Tryd.prog Rows.objectCutsUptoRow.laid w) ∧ sizedMet enc Tryd.prog Tryd.f5 (Rows.OpenSpec.upto Rows.objectCutsSpec) false w args)
      (((Rows.OpenSpec.upto Rows.objectCutsSpec).at F).post enc Tryd.prog Tryd.f5 false true false false) := by
  refine ret_cond (k := Rows.uptoSmall) rfl (C := Tryd.checked) (X := fun w _ => laidMetH Tryd.prog Rows.objectCutsUptoRow.laid w) (fun _ _ _ hh h => h.of_heap hh) ownK started (by kernel_rfl) Tryd.func5
    (cond_start (k := Rows.uptoSmall) rfl (C := Tryd.checked) (os := os) (X := fun w _ => laidMetH Tryd.prog Rows.objectCutsUptoRow.laid w) (World.doorLaid Tryd.prog 400 os) #[.agg #[.slice none 0 0, .slice none 0 0, .slice none 0 0, .slice none 0 0], .agg #[.slice none 0 0, .slice none 0 0, .slice none 0 0, .slice none 0 0], .int .i64 0, .slice none 0 0] 8 rfl (World.shaped_of_RefB (by kernel_rfl) (by kernel_rfl)) (by kernel_rfl) (x := ([.agg [.nil, .nil, .nil, .nil], .agg [.nil, .nil, .nil, .nil], .lit (.int .i64 0), .nil], [], [])) (by kernel_rfl) rfl (by kernel_rfl) (door_met os _)) ?_
  intro W base args ds gs before hval0 hW hk hL
  have hval : ∀ (j : Nat) t v, Tryd.f5.params[j]? = some t → args[j]? = some v → Value.okWide Tryd.prog W .any base t v := hval0
  have hW' := hW
  obtain ⟨p, q, hA0, hV, rfl, hfz, hnd⟩ := hW
  have hA : DataW.TrodAll enc Tryd.prog W 0 (fun _ => true) true Tryd.f5.params.toList args.toList ds p := hA0
  have hpf : Tryd.f5.params = #[30, 30, 3, 22] := by kernel_rfl
  rw [hpf] at hA hval
  clear hA0 hval0
  obtain ⟨v0, vs0, d0, ds0, p0, q0, hv0, rfl, rfl, t0, hA1⟩ := trodAll_cons hA
  obtain ⟨v1, vs1, d1, ds1, p1, q1, hv1, rfl, rfl, t1, hA2⟩ := trodAll_cons hA1
  subst hv1
  obtain ⟨v2, vs2, d2, ds2, p2, q2, hv2, rfl, rfl, t2, hA3⟩ := trodAll_cons hA2
  subst hv2
  obtain ⟨v3, vs3, d3, ds3, p3, q3, hv3, rfl, rfl, t3, hA4⟩ := trodAll_cons hA3
  subst hv3
  obtain ⟨rfl, rfl, rfl⟩ := trodAll_nil hA4
  obtain ⟨args⟩ := args
  simp only at hv0
  subst hv0
  have hk := of_decide_eq_true hk
  have hkb := hk
  simp only [List.append_nil, List.nil_append, List.cons_append] at hkb
  obtain ⟨rfl, rfl⟩ := trodVars_none hV
  obtain ⟨a0, b0, c0, e0, x0, rfl, h0⟩ := open_unit (hval 0 30 v0 rfl rfl) t0 (by simp only [Rows.uptoBulkAll] at hkb; omega)
  obtain ⟨a1, b1, c1, e1, x1, rfl, h1⟩ := open_unit (hval 1 30 v1 rfl rfl) t1 (by simp only [Rows.uptoBulkAll] at hkb; omega)
  obtain ⟨x2, rfl, rfl, rfl, h2⟩ := open_int u3 (hval 2 3 v2 rfl rfl) t2
  obtain ⟨a3, l3, c3, x3, rfl, h3⟩ := open_bytes (hval 3 22 v3 rfl rfl) t3
  simp only [List.append_nil] at hW'
  simp only [List.append_nil, List.nil_append, List.cons_append, Rows.uptoBulkAll] at hk
  refine (calls_of (cuts_hc (laid_of hL).1 (laid_of hL).2 h0.at_ h0.num (by have := h0.size; omega) h1.at_ h1.num (by have := h1.size; omega) x2 (bounds_i64 h2) h3.vw h3.nil (by have := h3.many; omega)) (fun _ _ h => h.2)).mono fun e W' ⟨v, he, hB, hv, _⟩ => ?_
  subst he hv
  exact ⟨_, rfl, post_old rfl hW' (fun _ _ _ => trodAll_mk1 (shut_bool u4 _)) rfl rfl (fun t ht => of_decide_eq_true (List.all_eq_true.1 objectCuts_small t ht)) hB⟩
theorem objectCuts_holds : Rows.ObjectCutsUptoSaid :=
  OpenClaim.holds_of_cond 5 Tryd.f5 rfl rfl rfl rfl rfl rfl rfl ⟨rfl, rfl, rfl, rfl, rfl⟩ rfl rfl rfl rfl rfl (by kernel_rfl) Tryd.func5 objectCuts_facts
    (of_decide_eq_true (by kernel_rfl)) (by unfold Func.isWrapper; first | (rw [if_pos (by decide +kernel)]; kernel_rfl) | (rw [if_neg (by decide +kernel)]; exact ⟨rfl, rfl⟩))
    (fun os started H enc _ F => objectCuts_lifted os started H enc F)
end Go.Sx.Ob
