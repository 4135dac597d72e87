/- Contracts over heaps, and plain laws, for the functions that the laws of chapter 8 call, part 9: What is handed in, opened: structs, lists; over any program. What a row lists lies in the heap: the table of operations with its names, the errors. Units and bytes that are handed in: what they read as, and what lies in memory. Condition: as each statement says. -/
import Derived.Test.YtgnhjkofpmchpaaGreatDoorP4
import Derived.Test.YtgnhjkofpmchpaaGreatDoorP8
import Derived.Test.YtgnhjkofpmchpaaGreatDoorRows
import Derived.ProofKit
import Derived.LaidMore
import Derived.LaidLaws
import Derived.OpenShut
import Derived.ChangeSame
import Derived.ChangeStays
import Derived.ChangeOld
import Derived.ChangeSlices
import Derived.ChangeMaps5
import Derived.JoinedCond
import Derived.Lib.LaidTab
import Derived.Stop.Joined
import Derived.Test.YtgnhjkofpmchpaaGreatDoorTie
import Derived.Test.YtgnhjkofpmchpaaGreatDoorCards
import Derived.SevenTiedAt
set_option linter.unusedVariables false
set_option linter.unusedSimpArgs false
set_option maxRecDepth 100000
namespace Go.Sx.Ob
open Go.Proofs Go.Proofs.YtgnhjkofpmchpaaGreatDoor
open Go.ChangeShapes Go.WideShapes Go.ChangeAt Go.WideMaps Go.WideElems Go.RowKit
def flds2 (P : Program) (t : TypeId) : Option (List (TypeId × Nat)) := (P.underlying t).bind fun d => match d with | .struct fs => some (fs.toList.map fun f => (f.type, f.offset)) | _ => none
section
variable {H : Type} {enc : TypeId × Value → H} {P : Program} {W : World} {base fuel : Nat} {sp : Nat → Bool} {held : Bool} {t : TypeId} {cs : List Value} {y : DataW H × List MemPlace}
theorem open_struct {l : List (TypeId × Nat)} (hu : flds2 P t = some l) (h : DataW.trod enc P W base sp held fuel t cs = some y) :
    ∃ (xs : List (DataW H × List MemPlace)) (n : Nat), y.1 = .agg (xs.map (·.1)) ∧ cs.length = P.cellsOf t ∧ xs.length = l.length ∧ ∀ (i : Nat) (p : TypeId × Nat), l[i]? = some p → ∃ x, xs[i]? = some x ∧ DataW.trod enc P W base sp held n p.1 ((cs.drop p.2).take (P.cellsOf p.1)) = some x := by
  unfold flds2 at hu
  cases hd : P.underlying t with
  | none => rw [hd] at hu; cases hu
  | some d =>
    rw [hd] at hu
    simp only [Option.bind_some] at hu
    split at hu
    · rename_i fs
      simp only [Option.some.injEq] at hu
      obtain ⟨xs, n, _, hy, hl, hlen, hf⟩ := DataW.trod_struct hd h
      refine ⟨xs, n, by rw [hy], hl, by rw [← hu, List.length_map, hlen, Array.length_toList], fun i p hp => ?_⟩
      rw [← hu, List.getElem?_map, Option.map_eq_some_iff] at hp
      obtain ⟨f, hf1, rfl⟩ := hp
      rw [Array.getElem?_toList] at hf1
      have h1 := hf i f hf1
      cases hx : xs[i]? with
      | none =>
        rw [List.getElem?_eq_none_iff] at hx
        have : i < fs.size := by
          by_cases g : i < fs.size
          · exact g
          · rw [Array.getElem?_eq_none (by omega)] at hf1
            cases hf1
        omega
      | some x => rw [hx] at h1; exact ⟨x, rfl, h1⟩
    · cases hu
end
theorem calls_of {P : Program} {f : FuncId} {args : Array Value} {W : World} {R : Value → Hp → Prop} (h : HC P f args W.heap R) (he : ∀ v h', R v h' → Ext W.heap h') : Calls P f args W fun e w' => ∃ v, e = .returned v ∧ Below W.heap.size W w' ∧ R v w'.heap := by
  refine (h W rfl).mono fun e w' ⟨v, hv, hs, hr⟩ => ⟨v, hv, ⟨hs.os, hs.tape, hs.output, (he v _ hr).size, fun k hk => (he v _ hr).same k hk (by simp)⟩, hr⟩
theorem below_same {W W' : World} (hB : Below W.heap.size W W') {p : MemPlace} (hp : p.block < W.heap.size) : W.sameAt W' p := by
  cases p with
  | cell b off =>
    show W'.cell? _ = W.cell? _
    unfold World.cell?
    rw [hB.block b hp]
  | map b => exact hB.block b hp
theorem ownK : ownKnob Tryz.prog.godebug = none := by kernel_rfl
theorem u9 : Tryz.prog.underlying 9 = some .string := by kernel_rfl
theorem u4 : Tryz.prog.underlying 4 = some .bool := by kernel_rfl
theorem u3 : Tryz.prog.underlying 3 = some (.int .i64) := by kernel_rfl
theorem u5 : Tryz.prog.underlying 5 = some (.int .u8) := by kernel_rfl
theorem u127 : Tryz.prog.underlying 113 = some (.array 43 112) := by kernel_rfl
theorem c106 : Tryz.prog.cellsOf 112 = 3 := by kernel_rfl
theorem c127 : Tryz.prog.cellsOf 113 = 129 := by kernel_rfl
theorem c9 : Tryz.prog.cellsOf 9 = 1 := by kernel_rfl
theorem c5 : Tryz.prog.cellsOf 5 = 1 := by kernel_rfl
theorem c3 : Tryz.prog.cellsOf 3 = 1 := by kernel_rfl
theorem s106 : flds2 Tryz.prog 112 = some [(9, 0), (5, 1), (3, 2)] := by kernel_rfl
def tabL : List (DataW Unit) := match (Rows.laid_spandrel_isa_table : DataW Unit) with | .agg l => l | _ => []
def shpOf : DataW Unit → Int
  | .agg [_, _, .lit (.int _ n)] => n
  | _ => 0
theorem tabL_eq : (Rows.laid_spandrel_isa_table : DataW Unit) = .agg tabL := by kernel_rfl
theorem tabL_shp : tabL.map shpOf = (List.range 43).map fun k => ((shpL.getD k 0 : Nat) : Int) := by kernel_rfl
theorem flat_len {α β : Type} (f : α → List β) (m : Nat) (hf : ∀ x, (f x).length = m) : ∀ l : List α, (l.flatMap f).length = l.length * m
  | [] => by simp
  | x :: l => by rw [List.flatMap_cons, List.length_append, hf, flat_len f m hf l, List.length_cons, Nat.succ_mul, Nat.add_comm]
theorem rowsV_length (nm : Nat → ByteArray) (by_ : Nat → Int) : (rowsV nm by_).length = 129 := by
  unfold rowsV
  rw [flat_len _ 3 (fun x => rfl), List.length_range]
def nmOf : DataW Unit → List UInt8
  | .agg [.lit (.string s), _, _] => s
  | _ => []
def byOf : DataW Unit → Int
  | .agg [_, .lit (.int _ n), _] => n
  | _ => 0
theorem tabL_nm : tabL.map nmOf = (List.range 43).map fun k => opNm k := by kernel_rfl
theorem tabL_by : tabL.map byOf = (List.range 43).map fun k => opsB k := by kernel_rfl
theorem tab_cells {enc : TypeId × Value → Unit} {W : World} {base fuel : Nat} {sp : Nat → Bool} {held : Bool} {cs : List Value} {p : List MemPlace}
    (h : DataW.trod enc Tryz.prog W base sp held fuel 113 cs = some (Rows.laid_spandrel_isa_table, p)) : cs = rowsV opsN opsB := by
  obtain ⟨xs, m, _, hx, hl, hlen, hf⟩ := DataW.trod_array u127 h
  rw [c127] at hl
  have hxs : xs.map (·.1) = tabL := by
    have := congrArg Prod.fst hx
    rw [show (Rows.laid_spandrel_isa_table, p).1 = DataW.agg tabL from tabL_eq] at this
    simpa using this.symm
  have each : ∀ i, i < 43 → (cs.drop (i * 3)).take 3 = [.string (opsN i), .int .u8 (opsB i), .int .i64 ((shpL.getD i 0 : Nat) : Int)] := by
    intro i hi
    have h1 := hf i hi
    rw [c106] at h1
    rw [List.getElem?_eq_getElem (by omega)] at h1
    obtain ⟨ys, n, hy, hyl, hyn, hys⟩ := open_struct s106 h1
    obtain ⟨y0, g0, t0⟩ := hys 0 _ rfl
    obtain ⟨y1, g1, t1⟩ := hys 1 _ rfl
    obtain ⟨y2, g2, t2⟩ := hys 2 _ rfl
    rw [c106] at hyl
    generalize hc : (cs.drop (i * 3)).take 3 = c at *
    match c, hyl with
    | [v0, v1, v2], _ =>
      rw [show Tryz.prog.cellsOf (9, 0).1 = 1 from c9] at t0
      rw [show Tryz.prog.cellsOf (5, 1).1 = 1 from c5] at t1
      rw [show Tryz.prog.cellsOf (3, 2).1 = 1 from c3] at t2
      obtain ⟨s, e0, r0, _⟩ := DataW.trod_string u9 t0
      obtain ⟨b, e1, r1, _⟩ := DataW.trod_int u5 t1
      obtain ⟨k, e2, r2, _⟩ := DataW.trod_int u3 t2
      cases e0; cases e1; cases e2
      have hys3 : ys = [y0, y1, y2] := by
        apply List.ext_getElem?
        intro j
        match j with
        | 0 => exact g0
        | 1 => exact g1
        | 2 => exact g2
        | j + 3 => rw [List.getElem?_eq_none (by rw [hyn]; simp), List.getElem?_eq_none (by simp)]
      have h2 : (xs.map (·.1))[i]? = some (xs[i]'(by omega)).1 := by rw [List.getElem?_map, List.getElem?_eq_getElem (by omega)]; rfl
      rw [hxs] at h2
      have hk : k = ((shpL.getD i 0 : Nat) : Int) := by
        have h3 : (tabL.map shpOf)[i]? = some (shpOf (xs[i]'(by omega)).1) := by rw [List.getElem?_map, h2]; rfl
        rw [tabL_shp, List.getElem?_map, List.getElem?_range hi] at h3
        rw [hy, hys3, r0, r1, r2] at h3
        exact (Option.some.inj h3).symm
      have hb : b = opsB i := by
        have h3 : (tabL.map byOf)[i]? = some (byOf (xs[i]'(by omega)).1) := by rw [List.getElem?_map, h2]; rfl
        rw [tabL_by, List.getElem?_map, List.getElem?_range hi] at h3
        rw [hy, hys3, r0, r1, r2] at h3
        exact (Option.some.inj h3).symm
      have hs : s = opsN i := by
        have h3 : (tabL.map nmOf)[i]? = some (nmOf (xs[i]'(by omega)).1) := by rw [List.getElem?_map, h2]; rfl
        rw [tabL_nm, List.getElem?_map, List.getElem?_range hi] at h3
        rw [hy, hys3, r0, r1, r2] at h3
        exact ba_ext (Option.some.inj h3).symm
      rw [hk, hb, hs]
  apply List.ext_getElem?
  intro j
  by_cases hj : j < 129
  · obtain ⟨a, b, hab, hb⟩ : ∃ a b, j = a * 3 + b ∧ b < 3 := ⟨j / 3, j % 3, by omega, by omega⟩
    subst hab
    unfold rowsV
    rw [flat_get (fun k => [Value.string (opsN k), .int .u8 (opsB k), .int .i64 (shpL.getD k 0 : Nat)]) 3 (fun x => rfl) _ a b hb, List.getElem?_range (by omega)]
    show cs[a * 3 + b]? = [Value.string (opsN a), .int .u8 (opsB a), .int .i64 ((shpL.getD a 0 : Nat) : Int)][b]?
    have := each a (by omega)
    rw [← this, List.getElem?_take, if_pos hb, List.getElem?_drop]
  · have hr : (rowsV opsN opsB).length = 129 := rowsV_length _ _
    rw [List.getElem?_eq_none (by omega), List.getElem?_eq_none (by omega)]
theorem var_obj {P : Program} {W : World} {name : String} {g : Nat} {cs : Array Value} (hg : P.globalNamed name = some g) (hv : W.var? P name = some cs) : ∃ e f, W.heap[g]? = some (.cells cs e f) := by
  unfold World.var? at hv
  rw [hg] at hv
  have hv : (match (W.heap[g]? : Option Obj) with | some (.cells cs _ _) => some cs | _ => none) = some cs := hv
  split at hv
  · rename_i cs' e f hh
    cases hv
    exact ⟨e, f, hh⟩
  · cases hv
theorem u148 : Tryz.prog.underlying 148 = some (.interface #[("Error", 228)]) := by kernel_rfl
theorem laid_of {W : World} (h : laidMetH Tryz.prog Rows.itemReadsRow.laid W) : TabN W.heap ∧ Laid W.heap := by
  rw [MakeChecks.laidMetH_plain _ _ _ (by kernel_rfl)] at h
  obtain ⟨ps, ⟨g0, t0, cs0, f0, p0, q0, hg0, ht0, hv0, hd0, ⟨g1, t1, cs1, f1, p1, q1, hg1, ht1, hv1, hd1, ⟨g2, t2, cs2, f2, p2, q2, hg2, ht2, hv2, hd2, ⟨g3, t3, cs3, f3, p3, q3, hg3, ht3, hv3, hd3, ⟨g4, t4, cs4, f4, p4, q4, hg4, ht4, hv4, hd4, ⟨g5, t5, cs5, f5, p5, q5, hg5, ht5, hv5, hd5, _, _⟩, _⟩, _⟩, _⟩, _⟩, _⟩, _, _⟩ := h
  obtain rfl := Option.some.inj ((show Tryz.prog.globalNamed _ = some 0 by kernel_rfl).symm.trans hg3)
  obtain rfl := Option.some.inj ((show Tryz.prog.globalNamed _ = some 3 by kernel_rfl).symm.trans hg4)
  obtain rfl := Option.some.inj ((show Tryz.prog.globalNamed _ = some 2 by kernel_rfl).symm.trans hg5)
  have h3 : (Tryz.prog.globals[0]?).map (·.type) = some 113 := by kernel_rfl
  obtain rfl := Option.some.inj (h3.symm.trans ht3)
  have h4 : (Tryz.prog.globals[3]?).map (·.type) = some 148 := by kernel_rfl
  obtain rfl := Option.some.inj (h4.symm.trans ht4)
  have h5 : (Tryz.prog.globals[2]?).map (·.type) = some 148 := by kernel_rfl
  obtain rfl := Option.some.inj (h5.symm.trans ht5)
  have hr := tab_cells hd3
  obtain ⟨e3, ff3, ho3⟩ := var_obj hg3 hv3
  obtain ⟨_, w4, v4, e4, _⟩ := iface_of_trod u148 hd4
  obtain ⟨_, w5, v5, e5, _⟩ := iface_of_trod u148 hd5
  have c4 := World.var?_cell hg4 hv4 0
  have c5 := World.var?_cell hg5 hv5 0
  rw [← Array.getElem?_toList, e4] at c4
  rw [← Array.getElem?_toList, e5] at c5
  refine ⟨⟨e3, ff3, ?_⟩, ⟨⟨_, c5, rfl⟩, ⟨_, c4, rfl⟩⟩⟩
  rw [ho3, ← hr]
theorem door_met (os : Os) (args : Array Value) : laidMetH Tryz.prog Rows.itemReadsRow.laid ((World.doorLaid Tryz.prog 400 os).forCall (fun _ _ => 0) ⟨#[], args, []⟩).memory :=
  laidMetH_of_parts3 (fuel := 8) (laidMet_of_run' 8 (by kernel_rfl) (by kernel_rfl)) (by kernel_rfl) (by kernel_rfl)
theorem kidsT : Kids Tryz.prog (· < Tryz.prog.types.size) := kids_rows (by kernel_rfl) (by kernel_rfl)
theorem sliceB : ((List.range Tryz.prog.types.size).all fun t => match Tryz.prog.underlying t with | some (.slice e) => decide (0 < Tryz.prog.cellsOf e) | _ => true) = true := by kernel_rfl
theorem sliceT {t e : TypeId} (ht : t < Tryz.prog.types.size) (hu : Tryz.prog.underlying t = some (.slice e)) : 0 < Tryz.prog.cellsOf e := by
  have := List.all_eq_true.1 sliceB t (List.mem_range.2 ht)
  rw [hu] at this
  exact of_decide_eq_true this
theorem trodAll_stays {H : Type} {enc : TypeId × Value → H} {W W' : World} {sp : Nat → Bool} (hB : Below W.heap.size W W') : ∀ {ts : List TypeId} {vs : List Value} {ds : List (DataW H)} {ps : List MemPlace}, (∀ t ∈ ts, t < Tryz.prog.types.size) →
    DataW.TrodAll enc Tryz.prog W 0 (fun _ => true) true ts vs ds ps → (∀ p ∈ ps, p.block < W.heap.size) → (∀ p ∈ ps, sp p.block = true) → DataW.TrodAll enc Tryz.prog W' 0 sp true ts vs ds ps
  | [], _, _, _, _, h, _, _ => by
    obtain ⟨rfl, rfl, rfl⟩ := trodAll_nil h
    exact trodAll_mk0
  | t :: ts, _, _, _, ht, h, hl, hs => by
    obtain ⟨v, vs1, d, ds1, a, b, rfl, rfl, rfl, ⟨n, h1⟩, h2⟩ := trodAll_cons h
    exact ⟨a, b, ⟨n, DataW.trod_stays kidsT (fun h hu => sliceT h hu) (fun h => by cases h) (ht t (List.mem_cons_self ..)) h1 (fun p hp => below_same hB (hl p (List.mem_append_left _ hp))) (fun p hp => hs p (List.mem_append_left _ hp))⟩,
      trodAll_stays hB (fun t h => ht t (List.mem_cons_of_mem _ h)) h2 (fun p hp => hl p (List.mem_append_right _ hp)) (fun p hp => hs p (List.mem_append_right _ hp)), rfl⟩
theorem post_old {H : Type} {enc : TypeId × Value → H} {f : Func} {s : ChangeSpec} {apart fresh handsOn : Bool} {W W' : World} {args : Array Value} {v : Value} {ds gs : List (DataW H)} {before : List MemPlace} (hv0 : s.vars = [])
    (hW : DataW.Whole enc Tryz.prog f.params.toList s.vars apart W args.toList ds gs before)
    (hres : ∀ (b : Nat) (sp : Nat → Bool) (hd : Bool), DataW.TrodAll enc Tryz.prog W' b sp hd f.resultTypes.toList (v.resultList f.resultTypes.size) (s.fn H (ds ++ gs)).results [])
    (hargs : (s.fn H (ds ++ gs)).args = ds) (hvs : (s.fn H (ds ++ gs)).vars = []) (hts : ∀ t ∈ f.params.toList, t < Tryz.prog.types.size) (hB : Below W.heap.size W W') :
    s.post enc Tryz.prog f apart fresh handsOn false W args v W' := by
  have hlt := hW.lt
  have hW' := hW
  obtain ⟨p, q, hA, hV, rfl, hz, hn⟩ := hW
  rw [hv0] at hV
  obtain ⟨rfl, rfl⟩ := trodVars_none hV
  rw [List.append_nil] at hlt hW'
  refine ⟨ds, [], p, [], p, [], hW', hres _ _ _, ?_, ?_, hB.frame _, fun h => by cases h⟩
  · rw [hargs]
    exact trodAll_stays hB hts hA hlt (fun p hp => decide_eq_true (hlt p hp))
  · rw [hvs, hv0]
    rfl
theorem s55 : flds2 Tryz.prog 26 = some [(23, 0), (24, 1)] := by kernel_rfl
theorem s79 : flds2 Tryz.prog 54 = some [(3, 0), (9, 1), (52, 2), (26, 7), (3, 9)] := by kernel_rfl
section
variable {H : Type} {enc : TypeId × Value → H} {W : World} {base n : Nat} {sp : Nat → Bool} {held : Bool} {cs : List Value} {y : DataW H × List MemPlace}
end
open Go.ChangeMaps
theorem itemReads_small : (Tryz.f3.params.toList.all fun t => decide (t < Tryz.prog.types.size)) = true := by kernel_rfl
theorem itemReads_cell0 : Tryz.prog.inPlace 3 = Rows.itemReadsRow.inPlace := by kernel_rfl
theorem itemReads_cell1 : Tryz.prog.unfollowed 3 = Rows.itemReadsRow.unfollowed := by kernel_rfl
theorem itemReads_cell2 : Tryz.prog.recurses 3 = Rows.itemReadsRow.recurses := by kernel_rfl
theorem itemReads_cell3 : Tryz.prog.varsNamed 3 = Rows.itemReadsRow.named := by kernel_rfl
theorem itemReads_facts : joinedFacts Tryz.prog 3 Tryz.f3 Rows.itemReadsSpec Rows.itemReadsRow = true := by
  unfold joinedFacts
  rw [itemReads_cell0, itemReads_cell1, itemReads_cell2, itemReads_cell3]
  kernel_rfl
theorem itemReads_lifted (os : Os) (started : os.Started) (H : Type) (enc : TypeId × Value → H) :
    ReturnsInHanded {} Tryz.checked os 3 .any (fun w args => (Rows.itemReadsSpec.pre enc Tryz.prog Tryz.f3 [] false w args ∧ laidMetH Tryz.prog Rows.itemReadsRow.laid w) ∧ sizedMet enc Tryz.prog Tryz.f3 (OpenSpec.ofChange Rows.itemReadsSpec) false w args)
      (Rows.itemReadsSpec.post enc Tryz.prog Tryz.f3 false true false false) := by
  refine returnsInHanded_of_change_and (C := Tryz.checked) (X := fun w _ => laidMetH Tryz.prog Rows.itemReadsRow.laid w) (fun _ _ _ hh h => h.of_heap hh) ownK started (by kernel_rfl) Tryz.func3
    (ChangeSpec.witness_shaped (enc := enc) (C := Tryz.checked) (os := os) (X := fun w _ => laidMetH Tryz.prog Rows.itemReadsRow.laid w) false (World.doorLaid Tryz.prog 400 os) #[.string ⟨#[]⟩, .int .i64 0] 8 rfl (World.shaped_of_RefB (by kernel_rfl) (by kernel_rfl)) (by kernel_rfl) (by kernel_rfl) (by kernel_rfl) (door_met os _)) ?_
  intro W base args ds gs before hval0 hW _ hwt hL _
  have hval : ∀ (j : Nat) t v, Tryz.f3.params[j]? = some t → args[j]? = some v → Value.okWide Tryz.prog W .any base t v := hval0
  have hW' := hW
  obtain ⟨p, q, hA0, hV, rfl, hfz, hnd⟩ := hW
  have hA : DataW.TrodAll enc Tryz.prog W 0 (fun _ => true) true Tryz.f3.params.toList args.toList ds p := hA0
  have hpf : Tryz.f3.params = #[9, 3] := by kernel_rfl
  rw [hpf] at hA hval
  clear hA0 hval0
  obtain ⟨v0, vs0, d0, ds0, p0, q0, hv0, rfl, rfl, t0, hA1⟩ := trodAll_cons hA
  obtain ⟨v1, vs1, d1, ds1, p1, q1, hv1, rfl, rfl, t1, hA2⟩ := trodAll_cons hA1
  subst hv1
  obtain ⟨rfl, rfl, rfl⟩ := trodAll_nil hA2
  obtain ⟨args⟩ := args
  simp only at hv0
  subst hv0
  obtain ⟨rfl, rfl⟩ := trodVars_none hV
  obtain ⟨x0, rfl, rfl, rfl, h0⟩ := open_string u9 (hval 0 9 v0 rfl rfl) t0
  obtain ⟨x1, rfl, rfl, rfl, h1⟩ := open_int u3 (hval 1 3 v1 rfl rfl) t1
  simp only [List.append_nil] at hW'
  refine (calls_of (itemReads_hc (laid_of hL).1 (laid_of hL).2 x0 x1) (fun _ _ h => h.2)).mono fun e W' ⟨v, he, hB, hv, _⟩ => ?_
  subst he hv
  exact ⟨_, rfl, post_old rfl hW' (fun _ _ _ => trodAll_mk1 (shut_bool u4 _)) rfl rfl (fun t ht => of_decide_eq_true (List.all_eq_true.1 itemReads_small t ht)) hB⟩
theorem itemReads_holds : Rows.ItemReadsSaid :=
  OpenClaim.holds_of_wide 3 Tryz.f3 rfl rfl rfl rfl rfl rfl rfl ⟨rfl, rfl, rfl, rfl, rfl⟩ rfl rfl rfl rfl rfl (by kernel_rfl) Tryz.func3 itemReads_facts
    (of_decide_eq_true (by kernel_rfl)) (by unfold Func.isWrapper; first | (rw [if_pos (by decide +kernel)]; kernel_rfl) | (rw [if_neg (by decide +kernel)]; exact ⟨rfl, rfl⟩))
    (fun os started H enc _ => itemReads_lifted os started H enc)
end Go.Sx.Ob
