/- LineAll over heaps: it answers true, and what was there stays. Condition: the errors of strconv and bytealg.MaxLen lie as they lie when the program begins. -/
import Derived.Test.YtpbjlnlekobodaaDoorRngB
set_option linter.unusedVariables false
set_option linter.unusedSimpArgs false
set_option linter.deprecated false
set_option maxRecDepth 100000
namespace Go.Proofs
open Go.RowKit Go.Shelf
attribute [local go_sem] Oper.semAt_some
attribute [local go_sem] run_eql_func
set_option maxHeartbeats 2000000 in
theorem lineAll_in (W : World) (src : ByteArray) (stop : Int) (hl : Sx.Laid W.heap) (m : Int) (hm : W.cell? ⟨0, 0, none⟩ = some (.int .i64 m)) :
    CallsIn Fence.wide 7 Tryd.prog 13 #[.string src, .int .i64 stop] W fun e w' => e = .returned (.bool true) ∧ Below W.heap.size W w' := by
  refine callsIn_of_wp_marks Tryd.func13 rfl trivial ?_ rfl
  simp only [Tryd.ntmps13, List.size_toArray, List.length_cons, List.length_nil, Nat.reduceAdd, Nat.reduceSub, Array.replicate_succ, Array.replicate_zero, List.push_toArray, List.append_toArray, List.nil_append, List.cons_append]
  gi_wp2
  obtain ⟨w1, hw1⟩ : ∃ w1, (W.alloc (.cells #[.int .i64 stop] 3)).alloc (.cells #[.bool false] 4) = w1 := ⟨_, rfl⟩
  have b3 : Boxed w1 W.heap.size 3 (.int .i64 stop) := by rw [← hw1]; exact (Boxed.new _ _ _).alloc _
  have b4 : Boxed w1 (W.heap.size + 1) 4 (.bool false) := by rw [← hw1]; simpa using Boxed.new (W.alloc (.cells #[.int .i64 stop] 3)) 4 (.bool false)
  have z1 : w1.heap.size = W.heap.size + 2 := by rw [← hw1]; simp
  have B1 : Below W.heap.size W w1 := by rw [← hw1]; exact ((Below.refl _ W).alloc (Nat.le_refl _) _).alloc (by simp) _
  rw [hw1]
  clear hw1
  refine calls_wide (Sx.few3_hc src 3000 _ (by omega)) (fun v h' ⟨_, e⟩ => by rw [e]; exact Sx.Ch.refl _ _) ?_
  rintro _ w2 B2 ⟨rfl, -⟩
  obtain ⟨s, hs⟩ : ∃ s, src.extract 0 (min (3000 : Int).toNat src.size) = s := ⟨_, rfl⟩
  have hsz : s.size ≤ 3000 := by rw [← hs]; simp; omega
  rw [hs]
  replace b3 := box_below b3 B2 (by omega)
  replace b4 := box_below b4 B2 (by omega)
  have z2 := B2.size
  replace B1 : Below W.heap.size W w2 := B1.trans (B2.mono (by omega))
  clear B2
  gi_wp2
  refine calls_wide (Sx.lines_hc s _ (by omega)) (fun v h' ⟨_, e⟩ => e) ?_
  rintro _ w3 B2 ⟨⟨p5, c5, rfl, sl⟩, -⟩
  replace b3 := box_below b3 B2 (by omega)
  replace b4 := box_below b4 B2 (by omega)
  have z3 := B2.size
  have hp5 : w2.heap.size ≤ w3.heap.size := z3
  replace B1 : Below W.heap.size W w3 := B1.trans (B2.mono (by omega))
  clear B2
  gi_wp2
  obtain ⟨w4, hw4⟩ : ∃ w4, w3.alloc (.cells #[.slice p5 (Sx.lnS s).length c5] 44) = w4 := ⟨_, rfl⟩
  have b5 : Boxed w4 w3.heap.size 44 (.slice p5 (Sx.lnS s).length c5) := by rw [← hw4]; exact Boxed.new _ _ _
  have B4 : Below w3.heap.size w3 w4 := by rw [← hw4]; exact (Below.refl _ w3).alloc (Nat.le_refl _) _
  have z4 : w4.heap.size = w3.heap.size + 1 := by rw [← hw4]; simp
  rw [hw4]
  clear hw4
  replace b3 := box_below b3 B4 (by omega)
  replace b4 := box_below b4 B4 (by omega)
  replace B1 : Below W.heap.size W w4 := B1.trans (B4.mono (by omega))
  have Bw2 : Below w3.heap.size w3 w4 := B4
  clear B4
  refine calls_wide (Sx.all_hc s _) (fun v h' h => h.2.2.1) ?_
  rintro _ w5 B2 ⟨rfl, b6, -, z5⟩
  replace b6 : Boxed w5 w4.heap.size 9 (.string s) := b6
  replace b3 := box_below b3 B2 (by omega)
  replace b4 := box_below b4 B2 (by omega)
  replace b5 := box_below b5 B2 (by omega)
  replace B1 : Below W.heap.size W w5 := B1.trans (B2.mono (by omega))
  replace Bw2 : Below w3.heap.size w3 w5 := Bw2.trans (B2.mono (by omega))
  clear B2
  have hc3 := b3.cell
  have hf3 := b3.frozen
  gi_wp2
  refine calls_wide (Sx.within_hc stop _) (fun v h' ⟨_, e⟩ => by rw [e]; exact Sx.Ch.refl _ _) ?_
  rintro _ w6 B2 ⟨⟨q, rfl, hq⟩, ew6⟩
  have z6 : w6.heap.size = w5.heap.size := by rw [ew6]
  clear ew6
  replace b3 := box_below b3 B2 (by omega)
  replace b4 := box_below b4 B2 (by omega)
  replace b5 := box_below b5 B2 (by omega)
  replace b6 := box_below b6 B2 (by omega)
  replace B1 : Below W.heap.size W w6 := B1.trans (B2.mono (by omega))
  replace Bw2 : Below w3.heap.size w3 w6 := Bw2.trans (B2.mono (by omega))
  clear B2 hc3 hf3
  have hc3 := b3.cell
  have hf3 := b3.frozen
  gi_wp2
  obtain ⟨w7, hw7⟩ : ∃ w7, (w6.setCell ⟨W.heap.size, 0, none⟩ (.int .i64 q)).alloc (.cells #[.int .i64 0] 3) = w7 := ⟨_, rfl⟩
  have z7 : w7.heap.size = w3.heap.size + 3 := by rw [← hw7]; simp; omega
  have zz : w3.heap.size + 1 + 1 = w3.heap.size + 2 := rfl
  have b7 : Boxed w7 (w3.heap.size + 1 + 1) 3 (.int .i64 0) := by
    rw [← hw7]
    have := Boxed.new (w6.setCell ⟨W.heap.size, 0, none⟩ (.int .i64 q)) 3 (.int .i64 0)
    rwa [show (w6.setCell ⟨W.heap.size, 0, none⟩ (.int .i64 q)).heap.size = w3.heap.size + 1 + 1 by simp; omega] at this
  replace b5 : Boxed w7 w3.heap.size 44 (.slice p5 (Sx.lnS s).length c5) := by rw [← hw7]; exact (b5.other (by omega) _).alloc _
  replace b6 : Boxed w7 (w3.heap.size + 1) 9 (.string s) := by rw [← hw7]; rw [z4] at b6; exact (b6.other (by omega) _).alloc _
  replace b4 : Boxed w7 (W.heap.size + 1) 4 (.bool false) := by rw [← hw7]; exact (b4.other (by omega) _).alloc _
  replace b3 : Boxed w7 W.heap.size 3 (.int .i64 q) := by rw [← hw7]; exact (b3.set _).alloc _
  replace B1 : Below W.heap.size W w7 := by rw [← hw7]; exact (B1.setCell (p := ⟨W.heap.size, 0, none⟩) (Nat.le_refl _) _).alloc (by simp; omega) _
  have hlin : ∀ k x, (Sx.lnS s)[k]? = some x → ∃ g o, p5 = some ⟨g, o, none⟩ ∧ w7.cell? ⟨g, o + k, none⟩ = some (.string x) := by
    intro k x hk
    obtain ⟨g, o, rfl, hg, hgl, hc⟩ := sl_at sl hk
    refine ⟨g, o, rfl, ?_⟩
    rw [← hw7]
    refine cell_al _ (((grownBy_setCell' w6 W.heap.size (.int .i64 q)).block g (by have := Bw2.size; omega) (fun e => by cases e; omega)) |> fun h => (World.cell?_of_block (a := ⟨g, o + k, none⟩) h).trans ((Bw2.cell (p := ⟨g, o + k, none⟩) hgl).trans hc))
  rw [hw7]
  clear hw7
  refine wpIn_loop (fun a w' => ∃ (t : Nat) (tb : Nat) (dl : List Deferred) (v8 v9 v10 v21 v22 v23 v24 v25 v26 v27 v28 v29 v30 v31 v32 v33 v34 v35 v36 v37 v38 v39 v40 v41 v42 v43 v44 v45 v46 v47 v48 v49 v50 v51 v52 v53 v54 v55 v56 v57 v58 v59 v60 v61 : Value), a = { tmps := #[.string s, .int .i64 stop, undef, .pointer (some ⟨W.heap.size, 0, none⟩), .pointer (some ⟨W.heap.size + 1, 0, none⟩), .pointer (some ⟨w3.heap.size, 0, none⟩), .func (.func 76) #[] #[.pointer (some ⟨w3.heap.size + 1, 0, none⟩)], .pointer (some ⟨tb, 0, none⟩), v8, v9, v10, .string src, .string s, .string s, .slice p5 (Sx.lnS s).length c5, .string s, .func (.func 76) #[] #[.pointer (some ⟨w3.heap.size + 1, 0, none⟩)], .func (.func 76) #[] #[.pointer (some ⟨w3.heap.size + 1, 0, none⟩)], .bool false, .int .i64 stop, .int .i64 q, v21, v22, v23, v24, v25, v26, v27, v28, v29, v30, v31, v32, v33, v34, v35, v36, v37, v38, v39, v40, v41, v42, v43, v44, v45, v46, v47, v48, v49, v50, v51, v52, v53, v54, v55, v56, v57, v58, v59, v60, v61], defers := dl } ∧ t ≤ 2 ∧ Boxed w' tb 3 (.int .i64 (t : Int)) ∧ Below w7.heap.size w7 w' ∧ Marks w7.heap.size dl w')
    (turnLeft 7) ⟨0, w3.heap.size + 1 + 1, [], _, _, _, _, _, _, _, _, _, _, _, _, _, _, _, _, _, _, _, _, _, _, _, _, _, _, _, _, _, _, _, _, _, _, _, _, _, _, _, _, _, _, _, _, rfl, by omega, b7, Below.refl _ _, ⟨[], rfl, by simp, by simp⟩⟩ ?_
  rintro _ w8 ⟨t, tb, dl, v8, v9, v10, v21, v22, v23, v24, v25, v26, v27, v28, v29, v30, v31, v32, v33, v34, v35, v36, v37, v38, v39, v40, v41, v42, v43, v44, v45, v46, v47, v48, v49, v50, v51, v52, v53, v54, v55, v56, v57, v58, v59, v60, v61, rfl, ht, bt, B8, hmk⟩
  have hct := bt.cell
  have hft := bt.frozen
  gi_wp2
  · have hlt8 : w7.heap.size ≤ w8.heap.size := B8.size
    have hNl : (linesF (s.size + 1) 1 s).length = (Sx.lnS s).length := by unfold Sx.lnS; simp
    have BW8 : Below W.heap.size W w8 := B1.trans (B8.mono (by have := B1.size; omega))
    have hm8 : w8.cell? ⟨0, 0, none⟩ = some (.int .i64 m) := (BW8.cell (p := ⟨0, 0, none⟩) (cell_lt hm)).trans hm
    have c6 := box_below b6 B8 (by omega)
    refine wpIn_rangeFunc_ownF (F := Fence.wide) rfl (by omega) (gf := 76) (lb := #[.pointer (some ⟨w3.heap.size + 1, 0, none⟩)]) rfl trivial (enters_of Tryd.func76 (by kernel_rfl) rfl)
      (all76_stops (w3.heap.size + 1) w8.heap.size s (by omega) Sx.cutB_lt m _ (cell_al _ hm8) (by omega) (by simp) (cell_al _ c6.cell)) belowK_t (belowK_b (by simp)) (Below.refl _ _) (fun _ => rfl)
      (fun pre W' => Boxed W' w8.heap.size 3 (.int .i64 (pre.length : Int)) ∧ Below w8.heap.size w8 W')
      (fun c pre W' => c = .ret ∧ (pre <+: linesF (s.size + 1) 1 s → Boxed W' (W.heap.size + 1) 4 (.bool true)) ∧ Below W.heap.size W W' ∧ SaveFor w8.heap.size (W.heap.size + 1) w8 W')
      (fun s A B row hs hg hr => ⟨boxed_own (β := List (Nat × ByteArray)) _ 3 (fun pre => .int .i64 (pre.length : Int)) s A B row hs.1 hg (fun r e => (hr r e).2), ownFrom_below (β := Unit) (Nat.le_refl _) (by simp) () A B row hs.2 hg hr⟩)
      (fun c s A B row hs hg hr => ⟨hs.1, fun h => boxed_own (β := Unit) _ 4 (fun _ => .bool true) () A B row (hs.2.1 h) hg (fun r e => (hr r e).2), ownFrom_below (β := Unit) (Nat.le_refl _) (by simp; omega) () A B row hs.2.2.1 hg hr, saveFor_own (β := Unit) (by simp) (Nat.le_refl _) () A B row hs.2.2.2 hg hr⟩)
      ⟨Boxed.new _ _ _, (Below.refl _ w8).alloc (Nat.le_refl _) _⟩
      (fun x => { tmps := #[.string s, .int .i64 stop, undef, .pointer (some ⟨W.heap.size, 0, none⟩), .pointer (some ⟨W.heap.size + 1, 0, none⟩), .pointer (some ⟨w3.heap.size, 0, none⟩), .func (.func 76) #[] #[.pointer (some ⟨w3.heap.size + 1, 0, none⟩)], .pointer (some ⟨tb, 0, none⟩), .pointer (some ⟨w8.heap.size, 0, none⟩), .int .i64 x.1, .string x.2, .string src, .string s, .string s, .slice p5 (Sx.lnS s).length c5, .string s, .func (.func 76) #[] #[.pointer (some ⟨w3.heap.size + 1, 0, none⟩)], .func (.func 76) #[] #[.pointer (some ⟨w3.heap.size + 1, 0, none⟩)], .bool false, .int .i64 stop, .int .i64 q, .int .i64 (t : Int), .bool true, v23, v24, .func (.func 76) #[] #[.pointer (some ⟨w3.heap.size + 1, 0, none⟩)], .int .i64 x.1, .string x.2, v28, v29, v30, v31, v32, v33, v34, v35, v36, v37, v38, v39, v40, v41, v42, v43, v44, v45, v46, v47, v48, v49, v50, v51, v52, v53, v54, v55, v56, v57, v58, v59, v60, v61], defers := [] }) ?assign ?body ?done ?stop
    case assign =>
      intro l x W' K hK
      unfold encL
      gi_wp2
      exact hK
    case body =>
      rintro l pre x W' ⟨bn, hB'⟩ hlen
      have hlen' : pre.length < (Sx.lnS s).length := by omega
      obtain ⟨g, o, hp5e, hcg⟩ := hlin _ _ (List.getElem?_eq_getElem hlen')
      subst hp5e
      have hgl : g < w7.heap.size := by
        unfold World.cell? at hcg
        split at hcg
        · rename_i hg; exact (Array.getElem?_eq_some_iff.1 hg).1
        · cases hcg
      have d3 := box_below (box_below b3 B8 (by omega)) hB' (by omega)
      have d4 := box_below (box_below b4 B8 (by omega)) hB' (by omega)
      have d5 := box_below (box_below b5 B8 (by omega)) hB' (by omega)
      have dt := box_below bt hB' bt.lt
      have e3 := d3.cell
      have e4 := d4.cell
      have f4 := d4.frozen
      have e5 := d5.cell
      have et := dt.cell
      have en := bn.cell
      have fn := bn.frozen
      have eg : W'.cell? ⟨g, o + pre.length, none⟩ = some (.string (Sx.lnS s)[pre.length]) := (hB'.cell (p := ⟨g, o + pre.length, none⟩) (by show g < _; omega)).trans ((B8.cell (p := ⟨g, o + pre.length, none⟩) hgl).trans hcg)
      have hgood : pre ++ [x] <+: linesF (s.size + 1) 1 s → x.1 = pre.length + 1 ∧ x.2 = (Sx.lnS s)[pre.length] := fun hp => by
        have h3 := Sx.linesF_at hp
        rw [List.getElem?_eq_getElem hlen'] at h3
        exact ⟨h3.1, (Option.some.inj h3.2).symm⟩
      have hbad : ¬ ((Sx.lnS s).length ≤ pre.length ∨ (!(Sx.lnS s)[pre.length].toList == (Sx.lnS s)[pre.length].toList) = true) := by
        rintro (h | h)
        · omega
        · simp at h
      have hwr : wrap64 ((pre.length : Int) + 1) = ((pre.length + 1 : Nat) : Int) := by
        have hl1 := linesF_len (s.size + 1) 1 s
        rw [Go.IntWalk.wrap64_in _ ⟨by omega, by omega⟩]
        omega
      have BW : Below W.heap.size W W' := (B1.trans (B8.mono (by have := B1.size; omega))).trans (hB'.mono (by have := B1.size; omega))
      have hlaid' : Sx.Laid W'.heap := laid_below hl BW
      gi_wp2
      · rename_i h1 h2
        refine ⟨KeepsOthers.setCell _ _ _, rfl, fun hp => ?_, BW.setCell (p := ⟨W.heap.size + 1, 0, none⟩) (by show _ ≤ _ + 1; omega) _, SaveFor.set hB' (Nat.le_refl _) _⟩
        rw [(hgood hp).2] at h2
        exact (hbad h2).elim
      · refine calls_round (Sx.known3_hc _ hlaid') (fun v h' h => h.2) ?_
        rintro _ w9 B9 ⟨rfl, -⟩
        have d9 := box_below d4 B9 d4.lt
        have e9 := d9.cell
        have f9 := d9.frozen
        gi_wp2
        exact ⟨(keeps_below B9).trans (KeepsOthers.setCell _ _ _), rfl, fun _ => d9.set _, (BW.trans (B9.mono (by have := BW.size; omega))).setCell (p := ⟨W.heap.size + 1, 0, none⟩) (by show _ ≤ _ + 1; omega) _, SaveFor.set (hB'.trans (B9.mono hB'.size)) (Nat.le_refl _) _⟩
      · refine ⟨KeepsOthers.setCell _ _ _, (Below.refl _ W').setCell (p := ⟨w8.heap.size, 0, none⟩) (Nat.le_refl _) _, ?_, hB'.setCell (p := ⟨w8.heap.size, 0, none⟩) (Nat.le_refl _) _⟩
        rw [show (((pre ++ [x]).length : Nat) : Int) = (pre.length : Int) + 1 by simp]
        exact bn.set _
      · refine ⟨KeepsOthers.setCell _ _ _, (Below.refl _ W').setCell (p := ⟨w8.heap.size, 0, none⟩) (Nat.le_refl _) _, ?_, hB'.setCell (p := ⟨w8.heap.size, 0, none⟩) (Nat.le_refl _) _⟩
        rw [show (((pre ++ [x]).length : Nat) : Int) = (pre.length : Int) + 1 by simp]
        exact bn.set _
      · rename_i h1
        refine ⟨KeepsOthers.setCell _ _ _, rfl, fun hp => ?_, BW.setCell (p := ⟨W.heap.size + 1, 0, none⟩) (by show _ ≤ _ + 1; omega) _, SaveFor.set hB' (Nat.le_refl _) _⟩
        exact absurd (by rw [(hgood hp).1]; simp) h1
    case done =>
      rintro D ys W' hD rfl ⟨bn, hB'⟩ hK
      have d5 := box_below (box_below b5 B8 (by omega)) hB' (by omega)
      have dt := box_below bt hB' bt.lt
      have e5 := d5.cell
      have et := dt.cell
      have ft := dt.frozen
      have en := bn.cell
      rw [hNl] at en
      gi_wp2
      refine ⟨⟨t + 1, W'.heap.size, { target := .collected D, args := #[] } :: dl, _, _, _, _, _, _, _, _, _, _, _, _, _, _, _, _, _, _, _, _, _, _, _, _, _, _, _, _, _, _, _, _, _, _, _, _, _, _, _, _, _, _, _, _, rfl, by omega, ?_, ?_, ?_⟩, ?_⟩
      · exact Boxed.new _ _ _
      · exact (B8.trans (hB'.mono (by omega))).alloc (by have := hB'.size; omega) _
      · exact hmk.more (by omega) (by simp at hD; omega) ((Below.refl W'.heap.size W').alloc (Nat.le_refl _) _) hB' hK
      · have h1 := (Boxed.new W' 3 (.int .i64 ((t : Int) + 1))).cell
        simp [turnLeft, h1, hct]
        omega
    case stop =>
      rintro D c pre W' hD hpre ⟨rfl, hret, hB', hsv⟩ hK
      have d4 := hret hpre
      gi_wp2
      refine Marks.leaves (b := w7.heap.size) (?marks : Marks w7.heap.size ({ target := .collected D, args := #[] } :: dl) W') fun w' hb _ => ?fin
      case marks =>
        obtain ⟨Ds, e, hn, hd⟩ := hmk
        refine Marks.cons (Marks.save ⟨Ds, e, hn, hd⟩ (by omega) hsv) (by simp at hD; omega) hK fun E hE => ?_
        rw [e] at hE
        obtain ⟨E', hE', he⟩ := List.mem_map.1 hE
        have h5 := (Array.getElem?_eq_some_iff.1 (hd E' hE').2).1
        have h6 : E' = E := by injection he with h1; injection h1
        simp at hD
        omega
      case fin =>
        have c4 := (box_below d4 hb (by omega)).cell
        refine ⟨.bool true, ?_, rfl, hB'.trans (hb.mono (by have := B1.size; omega))⟩
        simp [results, Tryd.f13, go_sem, c4]
  · refine calls_wide (Sx.known3_hc _ (laid_below hl (B1.trans (B8.mono (by have := B1.size; omega))))) (fun v h' h => h.2) ?_
    rintro _ w9 B9 ⟨rfl, -⟩
    have h89 := B8.size
    have h17 := B1.size
    have d4 := box_below (box_below b4 B8 (by omega)) B9 (by omega)
    have c4 := d4.cell
    have f4 := d4.frozen
    gi_wp2
    refine Marks.leaves (hmk.keeps ((keeps_below B9).trans (KeepsOthers.setCell _ _ _))) fun w' hb _ => ?fin
    have e4 := (box_below (d4.set (.bool true)) hb (by omega)).cell
    refine ⟨.bool true, ?_, rfl, ((B1.trans (B8.mono (by omega))).trans (B9.mono (by omega))).setCell (p := ⟨W.heap.size + 1, 0, none⟩) (by show _ ≤ _ + 1; omega) _ |>.trans (hb.mono (by omega))⟩
    simp [results, Tryd.f13, go_sem, e4]
end Go.Proofs
