/- The frame of the laws: from listed variables to heaps, from a contract over heaps to a row's post. No condition. -/
import Derived.Test.YtpbjlnlekobodaaDoorLexI
import Derived.Test.YtpbjlnlekobodaaDoorExprP
import Derived.Test.YtpbjlnlekobodaaDoorLineA
import Derived.Test.YtpbjlnlekobodaaDoorExprR
import Derived.Test.YtpbjlnlekobodaaDoorRows
import Derived.ProofKit
import Derived.LaidMore
import Derived.LaidLaws
import Derived.OpenShut
import Derived.ChangeSame
import Derived.Stop.Joined
import Derived.ChangeStays
import Derived.ChangeOld
import Derived.ChangeSlices
import Derived.JoinedCond
import Derived.Lib.LaidTab
set_option linter.unusedVariables false
set_option linter.unusedSimpArgs false
set_option linter.deprecated false
set_option maxRecDepth 100000
namespace Go.Sx
open Go.Proofs Go.Proofs.YtpbjlnlekobodaaDoor
open Go.ChangeShapes Go.WideShapes Go.ChangeAt Go.WideMaps Go.WideElems Go.RowKit
theorem ownK : ownKnob Tryd.prog.godebug = none := by kernel_rfl
theorem gRange : Tryd.prog.globalNamed "strconv.ErrRange" = some 3 := by kernel_rfl
theorem gSyntax : Tryd.prog.globalNamed "strconv.ErrSyntax" = some 2 := by kernel_rfl
theorem tRange : (Tryd.prog.globals[3]?).map (·.type) = some 133 := by kernel_rfl
theorem tSyntax : (Tryd.prog.globals[2]?).map (·.type) = some 133 := by kernel_rfl
theorem u133 : Tryd.prog.underlying 133 = some (.interface #[("Error", 147)]) := by kernel_rfl
theorem u9 : Tryd.prog.underlying 9 = some .string := by kernel_rfl
theorem u4 : Tryd.prog.underlying 4 = some .bool := by kernel_rfl
theorem laid_of {W : World} (h : laidMetH Tryd.prog Rows.lexNamesRow.laid W) : Laid W.heap := by
  rw [MakeChecks.laidMetH_plain _ _ _ (by kernel_rfl)] at h
  obtain ⟨ps, ⟨g0, t0, cs0, f0, p0, q0, hg0, ht0, hv0, hd0, ⟨g1, t1, cs1, f1, p1, q1, hg1, ht1, hv1, hd1, ⟨g2, t2, cs2, f2, p2, q2, hg2, ht2, hv2, hd2, ⟨g3, t3, cs3, f3, p3, q3, hg3, ht3, hv3, hd3, ⟨g4, t4, cs4, f4, p4, q4, hg4, ht4, hv4, hd4, _, _⟩, _⟩, _⟩, _⟩, _⟩, _, _⟩ := h
  obtain rfl := Option.some.inj (gRange.symm.trans hg3)
  obtain rfl := Option.some.inj (gSyntax.symm.trans hg4)
  obtain rfl := Option.some.inj (tRange.symm.trans ht3)
  obtain rfl := Option.some.inj (tSyntax.symm.trans ht4)
  obtain ⟨_, u3, v3, e3, _⟩ := iface_of_trod u133 hd3
  obtain ⟨_, u4, v4, e4, _⟩ := iface_of_trod u133 hd4
  have c3 := World.var?_cell hg3 hv3 0
  have c4 := World.var?_cell hg4 hv4 0
  rw [← Array.getElem?_toList, e3] at c3
  rw [← Array.getElem?_toList, e4] at c4
  exact ⟨⟨_, c4, rfl⟩, ⟨_, c3, rfl⟩⟩
/-- What a call over heaps is, of a world: a call that leaves what was there. -/
theorem calls_of {P : Program} {f : FuncId} {args : Array Value} {W : World} {R : Value → Hp → Prop} (h : HC P f args W.heap R) (he : ∀ v h', R v h' → Ext W.heap h') : Calls P f args W fun e w' => ∃ v, e = .returned v ∧ Below W.heap.size W w' ∧ R v w'.heap := by
  refine (h W rfl).mono fun e w' ⟨v, hv, hs, hr⟩ => ⟨v, hv, ⟨hs.os, hs.tape, hs.output, (he v _ hr).size, fun k hk => (he v _ hr).same k hk (by simp)⟩, hr⟩
theorem post_new {H : Type} {enc : TypeId × Value → H} {P : Program} {f : Func} {s : ChangeSpec} {apart fresh handsOn again : Bool} {W W' : World} {args : Array Value} {v : Value} {ds gs : List (DataW H)}
    (hW : DataW.Whole enc P f.params.toList s.vars apart W args.toList ds gs [])
    (hres : ∀ (b : Nat) (sp : Nat → Bool) (hd : Bool), DataW.TrodAll enc P W' b sp hd f.resultTypes.toList (v.resultList f.resultTypes.size) (s.fn H (ds ++ gs)).results [])
    (hargs : ∀ sp : Nat → Bool, DataW.TrodAll enc P W' 0 sp true f.params.toList args.toList (s.fn H (ds ++ gs)).args [])
    (hvars : ∀ sp : Nat → Bool, DataW.TrodVars enc P W' sp s.vars (s.fn H (ds ++ gs)).vars [])
    (hk : Below W.heap.size W W')
    (hok : ∀ (j : Nat) (t : TypeId) (r : Value), f.resultTypes[j]? = some t → (v.resultList f.resultTypes.size)[j]? = some r → Value.okWide P W' .any 0 t r) :
    s.post enc P f apart fresh handsOn again W args v W' := by
  refine ⟨ds, gs, [], [], [], [], hW, hres _ _ _, hargs _, hvars _, hk.frame _, fun _ => ?_⟩
  refine ⟨hok, _, _, ([] ++ []) ++ [], ⟨[] ++ [], [], trodAll_append (hargs _) (hres _ _ _), hvars _, rfl, ?_, ?_⟩, ?_⟩
  · intro b off hp; simp at hp
  · intro ha; simp
  · intro p hp _; simp at hp
end Go.Sx

set_option linter.unusedVariables false
set_option maxRecDepth 100000
namespace Go.Sx
open Go.Proofs Go.Proofs.YtpbjlnlekobodaaDoor
open Go.ChangeShapes Go.WideShapes Go.ChangeAt Go.WideMaps Go.WideElems Go.RowKit
theorem kidsT : Kids Tryd.prog (· < Tryd.prog.types.size) := kids_rows (by kernel_rfl) (by kernel_rfl)
theorem sliceB : ((List.range Tryd.prog.types.size).all fun t => match Tryd.prog.underlying t with | some (.slice e) => decide (0 < Tryd.prog.cellsOf e) | _ => true) = true := by kernel_rfl
theorem sliceT {t e : TypeId} (ht : t < Tryd.prog.types.size) (hu : Tryd.prog.underlying t = some (.slice e)) : 0 < Tryd.prog.cellsOf e := by
  have := List.all_eq_true.1 sliceB t (List.mem_range.2 ht)
  rw [hu] at this
  exact of_decide_eq_true this
theorem below_same {W W' : World} (hB : Below W.heap.size W W') {p : MemPlace} (hp : p.block < W.heap.size) : W.sameAt W' p := by
  cases p with
  | cell b off =>
    show W'.cell? _ = W.cell? _
    unfold World.cell?
    rw [hB.block b hp]
  | map b => exact hB.block b hp
theorem trodAll_stays {H : Type} {enc : TypeId × Value → H} {W W' : World} {sp : Nat → Bool} (hB : Below W.heap.size W W') : ∀ {ts : List TypeId} {vs : List Value} {ds : List (DataW H)} {ps : List MemPlace}, (∀ t ∈ ts, t < Tryd.prog.types.size) →
    DataW.TrodAll enc Tryd.prog W 0 (fun _ => true) true ts vs ds ps → (∀ p ∈ ps, p.block < W.heap.size) → (∀ p ∈ ps, sp p.block = true) → DataW.TrodAll enc Tryd.prog W' 0 sp true ts vs ds ps
  | [], _, _, _, _, h, _, _ => by
    obtain ⟨rfl, rfl, rfl⟩ := trodAll_nil h
    exact trodAll_mk0
  | t :: ts, _, _, _, ht, h, hl, hs => by
    obtain ⟨v, vs1, d, ds1, a, b, rfl, rfl, rfl, ⟨n, h1⟩, h2⟩ := trodAll_cons h
    exact ⟨a, b, ⟨n, DataW.trod_stays kidsT (fun h hu => sliceT h hu) (fun h => by cases h) (ht t (List.mem_cons_self ..)) h1 (fun p hp => below_same hB (hl p (List.mem_append_left _ hp))) (fun p hp => hs p (List.mem_append_left _ hp))⟩,
      trodAll_stays hB (fun t h => ht t (List.mem_cons_of_mem _ h)) h2 (fun p hp => hl p (List.mem_append_right _ hp)) (fun p hp => hs p (List.mem_append_right _ hp)), rfl⟩
/-- A law's post: it answers, what was handed in reads as it did. -/
theorem post_old {H : Type} {enc : TypeId × Value → H} {f : Func} {s : ChangeSpec} {apart fresh handsOn : Bool} {W W' : World} {args : Array Value} {v : Value} {ds gs : List (DataW H)} {before : List MemPlace} (hv0 : s.vars = [])
    (hW : DataW.Whole enc Tryd.prog f.params.toList s.vars apart W args.toList ds gs before)
    (hres : ∀ (b : Nat) (sp : Nat → Bool) (hd : Bool), DataW.TrodAll enc Tryd.prog W' b sp hd f.resultTypes.toList (v.resultList f.resultTypes.size) (s.fn H (ds ++ gs)).results [])
    (hargs : (s.fn H (ds ++ gs)).args = ds) (hvs : (s.fn H (ds ++ gs)).vars = []) (hts : ∀ t ∈ f.params.toList, t < Tryd.prog.types.size) (hB : Below W.heap.size W W') :
    s.post enc Tryd.prog f apart fresh handsOn false W args v W' := by
  have hlt := hW.lt
  have hW' := hW
  obtain ⟨p, q, hA, hV, rfl, hz, hn⟩ := hW
  rw [hv0] at hV
  obtain ⟨rfl, rfl⟩ := trodVars_none hV
  rw [List.append_nil] at hlt hW'
  refine ⟨ds, [], p, [], p, [], hW', hres _ _ _, ?_, ?_, hB.frame _, fun h => by cases h⟩
  · rw [hargs]
    exact trodAll_stays hB hts hA hlt (fun p hp => decide_eq_true (hlt p hp))
  · rw [hvs, hv0]
    rfl
/-- A row with a condition upon what it reads. -/
theorem ret_cond {H : Type} {enc : TypeId × Value → H} {a : Assume} {C : Checked} {os : Os} {f : FuncId} {fn : Func} {s : OpenSpec} {k : (H : Type) → List (DataW H) → Bool} (hk : s.cond = some k) {F : Stop.Interp} {conds : List PathCond} {apart fresh handsOn again : Bool} {X : World → Array Value → Prop}
    (hX : ∀ (w w' : World) (args : Array Value), w.heap = w'.heap → X w args → X w' args)
    (own : ownKnob C.prog.godebug = none) (started : os.Started) (noInit : C.prog.inits.idxOf? f = none) (hfn : C.prog.funcs[f]? = some fn)
    (witness : ∃ (w : World) (tape : Tape) (i : Input), w.os = os ∧ (w.forCall tape i).Shaped C.prog ∧ i.vars = [] ∧ Input.okWide C.prog (w.forCall tape i) .any w.heap.size f i ∧
      ((s.pre enc C.prog fn conds apart (w.forCall tape i).memory i.args ∧ X (w.forCall tape i).memory i.args) ∧ sizedMet enc C.prog fn s apart (w.forCall tape i).memory i.args) ∧ a.holds C.prog (lone (Frame.enter C.prog f i.args .normal) [] (w.forCall tape i)))
    (contract : ∀ (W : World) (base : Nat) (args : Array Value) (ds gs : List (DataW H)) (before : List MemPlace),
      (∀ (j : Nat) t v, fn.params[j]? = some t → args[j]? = some v → Value.okWide C.prog W .any base t v) →
      DataW.Whole enc C.prog fn.params.toList s.vars apart W args.toList ds gs before → k H (ds ++ gs) = true → X W args →
      Calls C.prog f args W fun e W' => ∃ v, e = .returned v ∧ (s.at F).post enc C.prog fn apart fresh handsOn again W args v W') :
    ReturnsInHanded a C os f .any (fun w args => (s.pre enc C.prog fn conds apart w args ∧ X w args) ∧ sizedMet enc C.prog fn s apart w args) ((s.at F).post enc C.prog fn apart fresh handsOn again) := by
  refine returnsInHanded_of_calls own started noInit witness ?_
  intro w tape i _ _ _ hok hpre hholds
  obtain ⟨_, _, _, fn', hfn', _, _, _, _, hval⟩ := hok
  have e : fn' = fn := Option.some.inj (hfn'.symm.trans hfn)
  subst e
  obtain ⟨⟨hp, hx⟩, hz⟩ := hpre
  obtain ⟨ds, gs, before, hw, hc, hkk⟩ := (OpenSpec.pre_some hk conds apart _ _).1 hp
  have hw' := DataW.Whole.of_heap (w' := w.forCall tape i) (by rfl) hw
  refine (contract (w.forCall tape i) w.heap.size i.args ds gs before hval hw' hkk (hX _ _ _ (by rfl) hx)).mono fun e W' ⟨v, he, hp⟩ => ?_
  subst he
  exact ChangeSpec.post_blind hp
/-- A start that meets such a row. -/
theorem cond_start {H : Type} {enc : TypeId × Value → H} {C : Checked} {os : Os} {f : FuncId} {fn : Func} {s : OpenSpec} {k : (H : Type) → List (DataW H) → Bool} (hk : s.cond = some k) {apart : Bool} {X : World → Array Value → Prop} (w0 : World) (args : Array Value) (fuel : Nat) (hos : w0.os = os)
    (hsh : (w0.forCall (fun _ _ => 0) ⟨#[], args, []⟩).Shaped C.prog)
    (hok : Input.okWideB C.prog (w0.forCall (fun _ _ => 0) ⟨#[], args, []⟩) f ⟨#[], args, []⟩ = true)
    {x : List (DataW H) × List (DataW H) × List MemPlace} (hx : DataW.whole enc C.prog (w0.forCall (fun _ _ => 0) ⟨#[], args, []⟩).memory fn.params.toList s.vars apart args.toList fuel = some x) (hkk : k H (x.1 ++ x.2.1) = true)
    (hsz : s.bare.sizedB enc C.prog fn apart (w0.forCall (fun _ _ => 0) ⟨#[], args, []⟩).memory args fuel = true)
    (hX : X (w0.forCall (fun _ _ => 0) ⟨#[], args, []⟩).memory args) :
    ∃ (w : World) (tape : Tape) (i : Input), w.os = os ∧ (w.forCall tape i).Shaped C.prog ∧ i.vars = [] ∧ Input.okWide C.prog (w.forCall tape i) .any w.heap.size f i ∧
      ((s.pre enc C.prog fn [] apart (w.forCall tape i).memory i.args ∧ X (w.forCall tape i).memory i.args) ∧ sizedMet enc C.prog fn s apart (w.forCall tape i).memory i.args) ∧ ({} : Assume).holds C.prog (lone (Frame.enter C.prog f i.args .normal) [] (w.forCall tape i)) :=
  ⟨w0, fun _ _ => 0, ⟨#[], args, []⟩, hos, hsh, (Input.okWide_of_okWideB (base := 0) hok).1, (Input.okWide_of_okWideB hok).2,
    ⟨⟨(OpenSpec.pre_some hk [] apart _ _).2 ⟨x.1, x.2.1, x.2.2, DataW.Whole_of_whole hx, rfl, hkk⟩, hX⟩, sizedMet_of_sizedB hsz⟩, by
    simp only [Assume.holds]
    exact ⟨by simp, by simp, by simp, by simp, by simp⟩⟩
theorem str2 {P : Program} {t t0 t1 : TypeId} {o0 o1 : Nat} (h : ((P.underlying t).bind fun d => match d with | .struct fs => some (fs.toList.map fun f => (f.type, f.offset)) | _ => none) = some [(t0, o0), (t1, o1)]) :
    ∃ f0 f1 : Field, P.underlying t = some (.struct #[f0, f1]) ∧ f0.type = t0 ∧ f0.offset = o0 ∧ f1.type = t1 ∧ f1.offset = o1 := by
  cases hu : P.underlying t with
  | none => rw [hu] at h; cases h
  | some d =>
    rw [hu] at h
    simp only [Option.bind_some] at h
    split at h
    · rename_i fs
      obtain ⟨l⟩ := fs
      simp only [Option.some.injEq] at h
      match l, h with
      | [f0, f1], h =>
        simp only [List.map_cons, List.map_nil, List.cons.injEq, Prod.mk.injEq, and_true] at h
        exact ⟨f0, f1, rfl, h.1.1, h.1.2, h.2.1, h.2.2⟩
    · cases h
theorem linS : ((Tryd.prog.underlying 69).bind fun d => match d with | .struct fs => some (fs.toList.map fun f => (f.type, f.offset)) | _ => none) = some [(67, 0), (33, 1)] := by kernel_rfl
theorem trmS : ((Tryd.prog.underlying 80).bind fun d => match d with | .struct fs => some (fs.toList.map fun f => (f.type, f.offset)) | _ => none) = some [(9, 0), (33, 1)] := by kernel_rfl
theorem c69 : Tryd.prog.cellsOf 69 = 2 := by kernel_rfl
theorem c80 : Tryd.prog.cellsOf 80 = 2 := by kernel_rfl
theorem c67 : Tryd.prog.cellsOf 67 = 1 := by kernel_rfl
theorem c33 : Tryd.prog.cellsOf 33 = 1 := by kernel_rfl
theorem c9 : Tryd.prog.cellsOf 9 = 1 := by kernel_rfl
theorem u33 : Tryd.prog.underlying 33 = some (.int .u32) := by kernel_rfl
theorem choose_list {α : Type} (P : Nat → α → Prop) : ∀ n, (∀ i, i < n → ∃ x, P i x) → ∃ l : List α, l.length = n ∧ ∀ i (hi : i < l.length), P i l[i]
  | 0, _ => ⟨[], rfl, fun i hi => by simp at hi⟩
  | n + 1, h => by
    obtain ⟨l, hl, hp⟩ := choose_list P n (fun i hi => h i (by omega))
    obtain ⟨x, hx⟩ := h n (by omega)
    refine ⟨l ++ [x], by simp [hl], fun i hi => ?_⟩
    by_cases hin : i < l.length
    · rw [List.getElem_append_left hin]
      exact hp i hin
    · have hi' : i = n := by simp at hi; omega
      subst hi'
      rw [List.getElem_append_right (by omega)]
      simpa using hx
theorem bulk_ge {H : Type} (k : Nat) : ∀ l : List (DataW H), (∀ d, d ∈ l → k ≤ Rows.uptoBulk d) → k * l.length ≤ Rows.uptoBulkAll l
  | [], _ => by simp
  | d :: l, h => by
    have h1 := h d (List.mem_cons_self ..)
    have h2 := bulk_ge k l (fun x hx => h x (List.mem_cons_of_mem _ hx))
    rw [List.length_cons, Nat.mul_succ]
    unfold Rows.uptoBulkAll
    omega
theorem bulk_mem {H : Type} {d : DataW H} : ∀ {l : List (DataW H)}, d ∈ l → Rows.uptoBulk d ≤ Rows.uptoBulkAll l
  | x :: l, h => by
    unfold Rows.uptoBulkAll
    rcases List.mem_cons.1 h with rfl | h
    · omega
    · have := bulk_mem h
      omega
/-- A Lin that was handed in. -/
structure LinIn (h : Hp) (p : Option Addr) (l c : Nat) (x : Lin) (N : Nat) : Prop where
  vw : VwT h p l x.terms
  blk : ∀ i, i ∈ blkOf p → i < h.size
  cap : l ≤ c
  capm : c ≤ maxLen
  nil : p = none → c = 0
  names : ∀ t, t ∈ x.terms → t.1.size ≤ maxLen ∧ t.1.size + 3 ≤ N
  coefs : ∀ t, t ∈ x.terms → t.2 < 4294967296
  num : x.num < 4294967296
  many : 3 * x.terms.length ≤ N
theorem cells2 {W : World} {base : Nat} {a : Addr} {cs : List Value} (h : W.cells? base a 2 = some cs) : ∃ v u, cs = [v, u] ∧ hcell W.heap (a.add 0) = some v ∧ hcell W.heap (a.add 1) = some u := by
  unfold World.cells? at h
  split at h
  · rw [show List.range 2 = [0, 1] from rfl] at h
    simp only [List.mapM_cons, List.mapM_nil, cell_heap] at h
    cases h0 : hcell W.heap (a.add 0) with
    | none => simp [h0] at h
    | some v =>
      cases h1 : hcell W.heap (a.add 1) with
      | none => simp [h0, h1] at h
      | some u =>
        simp [h0, h1] at h
        exact ⟨v, u, h.symm, rfl, rfl⟩
  · cases h
theorem open_term {H : Type} {enc : TypeId × Value → H} {W : World} {base n : Nat} {sp : Nat → Bool} {held : Bool} {cs : List Value} {y : DataW H × List MemPlace} (h : DataW.trod enc Tryd.prog W base sp held n 80 cs = some y) :
    ∃ t : ByteArray × Nat, cs = encT t ∧ t.1.size ≤ maxLen ∧ t.2 < 4294967296 ∧ Rows.uptoBulk y.1 = t.1.size + 3 := by
  obtain ⟨f0, f1, hu, a0, b0, a1, b1⟩ := str2 trmS
  obtain ⟨y0, y1, m, rfl, hl, h0, h1⟩ := trod_struct2 hu h
  rw [c80] at hl
  rw [a0, b0, c9] at h0
  rw [a1, b1, c33] at h1
  match cs, hl with
  | [v, u], _ =>
    simp only [List.drop_zero, List.take_succ_cons, List.take_zero] at h0
    simp only [List.drop_succ_cons, List.drop_zero, List.take_succ_cons, List.take_zero] at h1
    obtain ⟨s, e0, rfl, hs⟩ := DataW.trod_string u9 h0
    obtain ⟨k, e1, rfl, hk⟩ := DataW.trod_int u33 h1
    have hb := bounds_u32 hk
    cases e0; cases e1
    refine ⟨(s, k.toNat), ?_, hs, by omega, ?_⟩
    · unfold encT
      simp only [List.cons.injEq, Value.int.injEq, true_and, and_true]
      omega
    · simp only [Rows.uptoBulk, Rows.uptoBulkAll]
      rw [Array.length_toList]
      show s.data.size + 1 + (1 + 0) + 1 = s.data.size + 3
      omega
theorem has_lt {P : Program} {W : World} {r : Reach} {b n : Nat} {a : Addr} {e : TypeId} (h : W.has P r b a e n) : a.block < W.heap.size := by
  obtain ⟨_, _, row, cells, hs, _⟩ := h
  unfold World.shape? at hs
  split at hs
  · rename_i hg
    exact lt_of_get hg
  · cases hs
theorem okSlice_lt {W : World} {b0 l c : Nat} {t e : TypeId} {a : Addr} (ht : Tryd.prog.underlying t = some (.slice e)) (h : Cell.okWide Tryd.prog W .any b0 t (.slice (some a) l c)) : a.block < W.heap.size := by
  unfold Cell.okWide at h
  rw [ht] at h
  have h : Cell.ok Tryd.prog W .any b0 t (.slice (some a) l c) := h
  unfold Cell.ok at h
  rw [ht] at h
  exact has_lt h.2.2
theorem lin_cells : Tryd.prog.cellTypes Tryd.prog.depth 69 = some [67, 33] := by kernel_rfl
theorem open_lin {H : Type} {enc : TypeId × Value → H} {W : World} {base b0 : Nat} {sp : Nat → Bool} {held : Bool} {v : Value} {d : DataW H} {ps : List MemPlace} (hval : Value.okWide Tryd.prog W .any b0 69 v) (h : DataW.Trod enc Tryd.prog W base sp held 69 v d ps) :
    ∃ p l c x, v = linV p l c x ∧ LinIn W.heap p l c x (Rows.uptoBulk d) := by
  obtain ⟨f0, f1, hu, a0, b0', a1, b1⟩ := str2 linS
  have hval' : ∃ cs, v = .agg cs ∧ cs.size = Tryd.prog.cellsOf 69 ∧ Row.okWide Tryd.prog W .any b0 69 cs := by
    unfold Value.okWide at hval
    rw [hu] at hval
    exact hval
  obtain ⟨cs, rfl, hsz, ts, hts, _, hrow⟩ := hval'
  obtain rfl := Option.some.inj (lin_cells.symm.trans hts)
  rw [c69] at hsz
  obtain ⟨fuel, h⟩ := h
  obtain ⟨y0, y1, m, hx, hl, h0, h1⟩ := trod_struct2 hu h
  have hlist : (Value.agg cs).cells.toList = cs.toList := rfl
  rw [hlist] at h0 h1
  rw [a0, b0', c67] at h0
  rw [a1, b1, c33] at h1
  obtain ⟨l⟩ := cs
  match l, hsz with
  | [u, w], _ =>
    simp only [List.drop_zero, List.take_succ_cons, List.take_zero] at h0
    simp only [List.drop_succ_cons, List.drop_zero, List.take_succ_cons, List.take_zero] at h1
    obtain ⟨k, e1, rfl, hk⟩ := DataW.trod_int u33 h1
    have hb := bounds_u32 hk
    cases e1
    have hd : d = .agg [y0.1, .lit (.int .u32 k)] := by
      have := congrArg Prod.fst hx
      simpa using this
    obtain ⟨u', hu', hok⟩ := hrow 0 u rfl
    obtain rfl : (67 : TypeId) = u' := Option.some.inj hu'
    rcases DataW.trod_slice und67 h0 with ⟨e0, hy0⟩ | ⟨a, len, cap, elems, rest, n, _, e0, hy0, hbase, hlc, hcm, hlen, hel, _, _⟩
    · cases e0
      refine ⟨none, 0, 0, ⟨[], k.toNat⟩, ?_, ⟨rfl, fun i hi => by simp at hi⟩, by simp [blkOf], Nat.le_refl _, Nat.zero_le _, (fun _ => rfl), by simp, by simp, by show k.toNat < _; omega, by simp⟩
      unfold linV
      have : ((k.toNat : Nat) : Int) = k := by omega
      rw [this]
    · cases e0
      have each : ∀ i, i < len → ∃ t : ByteArray × Nat, cellsAt W.heap (a.add (i * 2)) 0 (encT t) ∧ t.1.size ≤ maxLen ∧ t.2 < 4294967296 ∧ ∃ y, elems[i]? = some y ∧ Rows.uptoBulk y.1 = t.1.size + 3 := by
        intro i hi
        have he := hel i hi
        rw [c80] at he
        cases hy : elems[i]? with
        | none => rw [List.getElem?_eq_none_iff] at hy; omega
        | some y =>
          rw [hy] at he
          simp only [Option.bind_eq_some_iff] at he
          obtain ⟨cs', hcs, htr⟩ := he
          obtain ⟨v1, v2, rfl, g1, g2⟩ := cells2 hcs
          obtain ⟨t, ht, k1, k2, k3⟩ := open_term htr
          refine ⟨t, ?_, k1, k2, y, rfl, k3⟩
          rw [← ht]
          exact ⟨g1, g2, trivial⟩
      obtain ⟨us, hul, hus⟩ := choose_list _ len each
      have hbl : Rows.uptoBulk d = Rows.uptoBulkAll (elems.map (·.1)) + Rows.uptoBulkAll (rest.map (·.1)) + 1 + (1 + 0) + 1 := by
        rw [hd, hy0]
        simp only [Rows.uptoBulk, Rows.uptoBulkAll]
      have hmem : ∀ i, (hi : i < us.length) → us[i].1.size + 3 ≤ Rows.uptoBulkAll (elems.map (·.1)) := by
        intro i hi
        obtain ⟨_, _, _, y, hy, hyb⟩ := hus i hi
        have := bulk_mem (d := y.1) (l := elems.map (·.1)) (List.mem_map.2 ⟨y, List.mem_of_getElem? hy, rfl⟩)
        omega
      have hmany : 3 * us.length ≤ Rows.uptoBulkAll (elems.map (·.1)) := by
        have := bulk_ge 3 (elems.map (·.1)) (fun d' hd' => by
          obtain ⟨y, hy, rfl⟩ := List.mem_map.1 hd'
          obtain ⟨i, hi, rfl⟩ := List.getElem_of_mem hy
          obtain ⟨_, _, _, y', hy', hyb⟩ := hus i (by omega)
          rw [List.getElem?_eq_getElem hi] at hy'
          cases hy'
          omega)
        rw [List.length_map] at this
        omega
      refine ⟨some a, len, cap, ⟨us, k.toNat⟩, ?_, ⟨hul.symm, fun i hi => ⟨a, rfl, (hus i hi).1⟩⟩, ?_, hlc, hcm, (fun hh => by cases hh), ?_, ?_, by show k.toNat < _; omega, ?_⟩
      · unfold linV
        have : ((k.toNat : Nat) : Int) = k := by omega
        rw [this]
      · intro i hi
        simp only [blkOf, List.mem_singleton] at hi
        subst hi
        exact okSlice_lt und67 hok
      · intro t (ht : t ∈ us)
        obtain ⟨i, hi, rfl⟩ := List.getElem_of_mem ht
        obtain ⟨_, g2, _, _⟩ := hus i hi
        have := hmem i hi
        exact ⟨g2, by omega⟩
      · intro t (ht : t ∈ us)
        obtain ⟨i, hi, rfl⟩ := List.getElem_of_mem ht
        exact (hus i hi).2.2.1
      · show 3 * us.length ≤ _
        omega
/-- Numbers that were handed in. -/
structure NumIn (h : Hp) (p : Option Addr) (l : Nat) (us : List Nat) (N : Nat) : Prop where
  len : l = us.length
  cells : ∀ i, (hi : i < us.length) → ∃ a, p = some a ∧ cellsAt h (a.add (i * 1)) 0 [.int .u32 us[i]]
  lt : ∀ n, n ∈ us → n < 4294967296
  capm : l ≤ maxLen
theorem u76 : Tryd.prog.underlying 76 = some (.slice 33) := by kernel_rfl
theorem open_nums {H : Type} {enc : TypeId × Value → H} {W : World} {base b0 : Nat} {held : Bool} {v : Value} {d : DataW H} {ps : List MemPlace} (hval : Value.okWide Tryd.prog W .any b0 76 v) (h : DataW.Trod enc Tryd.prog W base (fun _ => true) held 76 v d ps) :
    ∃ p l c us, v = .slice p l c ∧ NumIn W.heap p l us 0 := by
  obtain ⟨p, l, c, rfl⟩ := okWide_slice u76 hval
  obtain ⟨fuel, h⟩ := h
  have hlist : (Value.slice p l c).cells.toList = [.slice p l c] := rfl
  rw [hlist] at h
  rcases open_ints u76 u33 c33 h with ⟨e0, _⟩ | ⟨a, len, cap, zs, e0, hb, hlc, hcm, hzl, _, hcell, hwf⟩
  · cases e0
    exact ⟨none, 0, 0, [], rfl, rfl, fun i hi => by simp at hi, by simp, Nat.zero_le _⟩
  · cases e0
    simp only [if_true] at hzl
    refine ⟨some a, l, c, (zs.take l).map Int.toNat, rfl, ?_, ?_, ?_, by omega⟩
    · rw [List.length_map, List.length_take]; omega
    · intro i hi
      rw [List.length_map, List.length_take] at hi
      refine ⟨a, rfl, ?_⟩
      have hi2 : i < zs.length := by omega
      have hc := hcell i hi2
      have hz : zs.getD i 0 = zs[i] := by simp [List.getD, List.getElem?_eq_getElem hi2]
      have hr := bounds_u32 (hwf zs[i] (List.getElem_mem hi2))
      rw [Nat.mul_one]
      refine ⟨?_, trivial⟩
      rw [add_add, Nat.add_zero, ← cell_heap, hc, hz, List.getElem_map, List.getElem_take]
      have : ((zs[i].toNat : Nat) : Int) = zs[i] := by omega
      rw [this]
    · intro n hn
      obtain ⟨z, hz, rfl⟩ := List.mem_map.1 hn
      have hr := bounds_u32 (hwf z (List.mem_of_mem_take hz))
      omega
end Go.Sx

set_option linter.unusedVariables false
set_option maxRecDepth 100000
namespace Go.Sx
open Go.Proofs Go.Proofs.YtpbjlnlekobodaaDoor
open Go.ChangeShapes Go.WideShapes Go.ChangeAt Go.WideMaps Go.WideElems Go.RowKit
theorem pow10_of {W : World} (h : laidMetH Tryd.prog Rows.exprNumbersRow.laid W) : Pow10 W.heap := by
  rw [MakeChecks.laidMetH_plain _ _ _ (by kernel_rfl)] at h
  obtain ⟨ps, ⟨g0, t0, cs0, f0, p0, q0, hg0, ht0, hv0, hd0, ⟨g1, t1, cs1, f1, p1, q1, hg1, ht1, hv1, hd1, ⟨g2, t2, cs2, f2, p2, q2, hg2, ht2, hv2, hd2, _, _⟩, _⟩, _⟩, _, _⟩ := h
  obtain rfl := Option.some.inj ((show Tryd.prog.globalNamed _ = some 1 by kernel_rfl).symm.trans hg2)
  have h3 : (Tryd.prog.globals[1]?).map (·.type) = some 167 := by kernel_rfl
  obtain rfl := Option.some.inj (h3.symm.trans ht2)
  have hc := Lib.cells_of_tab (n := 20) (e := 130) (k := .u64) (zs := Lib.pow10Tab) (by kernel_rfl) (by kernel_rfl) (by kernel_rfl) (by kernel_rfl) hd2
  unfold World.var? at hv2
  rw [hg2] at hv2
  have hv2 : (match (W.heap[1]? : Option Obj) with | some (.cells cs _ _) => some cs | _ => none) = some cs2 := hv2
  split at hv2
  · rename_i cs e f hh
    cases hv2
    refine ⟨e, f, ?_⟩
    rw [hh, ← hc]
  · cases hv2
theorem door_met4 (os : Os) (args : Array Value) : laidMetH Tryd.prog Rows.exprNumbersRow.laid ((World.doorLaid Tryd.prog 400 os).forCall (fun _ _ => 0) ⟨#[], args, []⟩).memory :=
  laidMetH_of_parts3 (fuel := 8) (laidMet_of_run' 8 (by kernel_rfl) (by kernel_rfl)) (by kernel_rfl) (by kernel_rfl)
end Go.Sx
