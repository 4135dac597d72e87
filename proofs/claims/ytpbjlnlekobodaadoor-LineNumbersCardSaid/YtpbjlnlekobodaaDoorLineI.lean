/- LineNumbers over heaps: it answers true, and what was there stays. Condition: the errors of strconv and bytealg.MaxLen lie as they lie when the program begins. -/
import Derived.Test.YtpbjlnlekobodaaDoorRngB
import Derived.Test.YtpbjlnlekobodaaDoorLineF
set_option linter.unusedVariables false
set_option linter.unusedSimpArgs false
set_option linter.deprecated false
set_option maxRecDepth 100000
namespace Go.Sx
open Go.Proofs
/-- The wrong lines of chapter 3's runs, and where they are wrong. -/
def brkT (k : Nat) : ByteArray := [(⟨#[97, 100, 100, 32, 44, 32, 114, 49]⟩ : ByteArray), ⟨#[58, 32, 97, 100, 100]⟩, ⟨#[51]⟩, ⟨#[97, 58, 32, 98, 58, 32, 99]⟩, ⟨#[97, 32, 98, 32, 99, 58]⟩, ⟨#[97, 100, 100, 32, 114, 49, 32, 36]⟩].getD k ⟨#[]⟩
def brkA (k : Nat) : Nat := [4, 0, 0, 4, 5, 7].getD k 0
theorem bad0 : parseS (brkT 0) = (lnNil, brkA 0, 20) := by kernel_rfl
theorem bad1 : parseS (brkT 1) = (lnNil, brkA 1, 20) := by kernel_rfl
theorem bad2 : parseS (brkT 2) = (lnNil, brkA 2, 20) := by kernel_rfl
theorem bad3 : parseS (brkT 3) = (lnNil, brkA 3, 20) := by kernel_rfl
theorem bad4 : parseS (brkT 4) = (lnNil, brkA 4, 20) := by kernel_rfl
theorem bad5 : parseS (brkT 5) = (lnNil, brkA 5, 20) := by kernel_rfl
theorem brkAll (k : Nat) (hk : k < 6) : parseS (brkT k) = (lnNil, brkA k, 20) ∧ (brkT k).size ≤ 100 := by
  rcases k with _ | _ | _ | _ | _ | _ | k
  · exact ⟨bad0, by decide⟩
  · exact ⟨bad1, by decide⟩
  · exact ⟨bad2, by decide⟩
  · exact ⟨bad3, by decide⟩
  · exact ⟨bad4, by decide⟩
  · exact ⟨bad5, by decide⟩
  · omega
theorem parse_of {s lab op : ByteArray} {at_ e : Nat} {h : Hp} (hp : parseS s = (⟨lab, op, []⟩, at_, e)) (hs : s.size ≤ 2 ^ 40) (hl : Laid h) : HC Tryd.prog 34 #[.string s] h fun v h' => (∃ p c, v = .tuple #[.agg #[.string lab, .string op, .slice p 0 c], .int .i64 at_, .int .i64 e] ∧ Args h' h.size 23 35 p c []) ∧ Ext h h' := by
  refine (parse_hc s h hs hl).mono ?_
  rintro v h' ⟨ex, p, c, al, hv, A, hal⟩
  rw [hp] at hv hal
  have : al = [] := by simpa using hal
  subst this
  exact ⟨⟨p, c, hv, A⟩, ex⟩
theorem same_nil {h : Hp} {b : Nat} {p : Option Addr} {c : Nat} (A : Args h b 23 35 p c []) : HC Tryd.prog 36 #[.agg #[.string ⟨#[]⟩, .string ⟨#[]⟩, .slice p 0 c], .agg #[.string ⟨#[]⟩, .string ⟨#[]⟩, .slice none 0 0]] h fun v h' => v = .bool true ∧ Ext h h' :=
  sameLine_hc (al := []) (al' := []) (s0 := ⟨#[]⟩) (s1 := ⟨#[]⟩) A (Args.nil h b 27 105) rfl (by simp) (by simp)
abbrev ab : ByteArray := ⟨#[97, 10, 10, 98]⟩
theorem lnF_ab : linesF (ab.size + 1) 1 ab = [(1, ⟨#[97]⟩), (2, ⟨#[]⟩), (3, ⟨#[98]⟩)] := by kernel_rfl
def joinB : List (Nat × ByteArray) → ByteArray → ByteArray
  | [], a => a
  | x :: l, a => joinB l ((a ++ x.2) ++ ⟨#[124]⟩)
theorem joinB_snoc : ∀ (l : List (Nat × ByteArray)) (x : Nat × ByteArray) (a : ByteArray), joinB (l ++ [x]) a = (joinB l a ++ x.2) ++ ⟨#[124]⟩
  | [], _, _ => rfl
  | _ :: l, x, a => joinB_snoc l x _
theorem ab_small {x : Nat × ByteArray} (h : x ∈ linesF (ab.size + 1) 1 ab) : x.2.size ≤ 1 := by
  rw [lnF_ab] at h
  simp only [List.mem_cons, List.not_mem_nil, or_false] at h
  rcases h with rfl | rfl | rfl <;> decide
theorem joinB_le : ∀ (l : List (Nat × ByteArray)) (a : ByteArray), (∀ x ∈ l, x.2.size ≤ 1) → (joinB l a).size ≤ a.size + 2 * l.length
  | [], a, _ => by simp [joinB]
  | x :: l, a, h => by
    have h1 := joinB_le l ((a ++ x.2) ++ ⟨#[124]⟩) (fun y hy => h y (List.mem_cons_of_mem _ hy))
    have h2 := h x (List.mem_cons_self ..)
    have h3 : ((a ++ x.2) ++ (⟨#[124]⟩ : ByteArray)).size = a.size + x.2.size + 1 := by
      rw [ByteArray.size_append, ByteArray.size_append]; rfl
    show (joinB l _).size ≤ _
    simp only [List.length_cons]
    omega
theorem joinB_small (q : List { x // x ∈ linesF (ab.size + 1) 1 ab }) : (joinB (q.map (·.1)) ⟨#[]⟩).size ≤ 2 * q.length := by
  have := joinB_le (q.map (·.1)) ⟨#[]⟩ (fun x hx => by obtain ⟨y, _, rfl⟩ := List.mem_map.1 hx; exact ab_small y.2)
  have h0 : (⟨#[]⟩ : ByteArray).size = 0 := rfl
  simp only [List.length_map] at this
  omega
theorem p_x : parseS ⟨#[120, 58]⟩ = (⟨⟨#[120]⟩, ⟨#[]⟩, []⟩, 0, 0) := by kernel_rfl
theorem p_0 : parseS ⟨#[]⟩ = (⟨⟨#[]⟩, ⟨#[]⟩, []⟩, 0, 0) := by kernel_rfl
end Go.Sx
namespace Go.Proofs
open Go.RowKit Go.Shelf
attribute [local go_sem] Oper.semAt_some
attribute [local go_sem] run_eql_func
theorem fold_enc (t : Array Value) (x : Nat × ByteArray) : (#[65, 66].zip (encL x)).foldl (fun t (p, v) => t.setIfInBounds p v) t = (t.setIfInBounds 65 (.int .i64 x.1)).setIfInBounds 66 (.string x.2) := by
  simp [encL]
set_option maxHeartbeats 2000000 in
theorem lineNumbers_in (W : World) (hl : Sx.Laid W.heap) (m : Int) (hm : W.cell? ⟨0, 0, none⟩ = some (.int .i64 m)) :
    CallsIn Fence.wide 7 Tryd.prog 12 #[] W fun e w' => e = .returned (.bool true) ∧ Below W.heap.size W w' := by
  refine callsIn_of_wp_marks Tryd.func12 rfl trivial ?_ rfl
  simp only [Tryd.ntmps12, List.size_toArray, List.length_cons, List.length_nil, Nat.reduceAdd, Nat.reduceSub, Array.replicate_succ, Array.replicate_zero, List.push_toArray, List.append_toArray, List.nil_append, List.cons_append]
  gi_wp2
  obtain ⟨w1, hw1⟩ : ∃ w1, ((W.alloc (.cells #[.bool false] 4)).alloc (.cells #[.string ⟨#[97, 100, 100, 32, 44, 32, 114, 49]⟩, .string ⟨#[58, 32, 97, 100, 100]⟩, .string ⟨#[51]⟩, .string ⟨#[97, 58, 32, 98, 58, 32, 99]⟩, .string ⟨#[97, 32, 98, 32, 99, 58]⟩, .string ⟨#[97, 100, 100, 32, 114, 49, 32, 36]⟩] 9)).alloc (.cells #[.int .i64 4, .int .i64 0, .int .i64 0, .int .i64 4, .int .i64 5, .int .i64 7] 3) = w1 := ⟨_, rfl⟩
  have b0 : Boxed w1 W.heap.size 4 (.bool false) := by rw [← hw1]; exact ((Boxed.new _ _ _).alloc _).alloc _
  have z1 : w1.heap.size = W.heap.size + 3 := by rw [← hw1]; simp
  have B1 : Below W.heap.size W w1 := by rw [← hw1]; exact (((Below.refl _ W).alloc (Nat.le_refl _) _).alloc (by simp) _).alloc (by simp; omega) _
  have ct : ∀ k, k < 6 → w1.cell? ⟨W.heap.size + 1, k, none⟩ = some (.string (Sx.brkT k)) := by
    intro k hk
    rw [← hw1]
    refine cell_al _ ?_
    have := World.alloc_heap_new (W.alloc (.cells #[.bool false] 4)) (.cells #[.string ⟨#[97, 100, 100, 32, 44, 32, 114, 49]⟩, .string ⟨#[58, 32, 97, 100, 100]⟩, .string ⟨#[51]⟩, .string ⟨#[97, 58, 32, 98, 58, 32, 99]⟩, .string ⟨#[97, 32, 98, 32, 99, 58]⟩, .string ⟨#[97, 100, 100, 32, 114, 49, 32, 36]⟩] 9)
    rw [World.size_alloc] at this
    unfold World.cell?
    rw [this]
    rcases k with _ | _ | _ | _ | _ | _ | k <;> first | rfl | omega
  have ca : ∀ k, k < 6 → w1.cell? ⟨W.heap.size + 1 + 1, k, none⟩ = some (.int .i64 (Sx.brkA k : Int)) := by
    intro k hk
    rw [← hw1]
    have := World.alloc_heap_new ((W.alloc (.cells #[.bool false] 4)).alloc (.cells #[.string ⟨#[97, 100, 100, 32, 44, 32, 114, 49]⟩, .string ⟨#[58, 32, 97, 100, 100]⟩, .string ⟨#[51]⟩, .string ⟨#[97, 58, 32, 98, 58, 32, 99]⟩, .string ⟨#[97, 32, 98, 32, 99, 58]⟩, .string ⟨#[97, 100, 100, 32, 114, 49, 32, 36]⟩] 9)) (.cells #[.int .i64 4, .int .i64 0, .int .i64 0, .int .i64 4, .int .i64 5, .int .i64 7] 3)
    rw [World.size_alloc, World.size_alloc] at this
    unfold World.cell?
    rw [this]
    rcases k with _ | _ | _ | _ | _ | _ | k <;> first | rfl | omega
  rw [hw1]
  clear hw1
  gi_loopw [3] (fun vk wr => ∃ k : Nat, vk = .int .i64 (k : Int) ∧ k ≤ 6 ∧ Below w1.heap.size w1 wr) (fun vk _ => match vk with | .int _ x => (6 - x).toNat | _ => 0)
  case atStart => exact ⟨0, rfl, by omega, Below.refl _ _⟩
  case round =>
    obtain ⟨k, rfl, hk, hB⟩ := hrel
    have BW := B1.trans (hB.mono (by omega))
    have hlr := laid_below hl BW
    by_cases hk6 : k < 6
    · have ctk := (hB.cell (p := ⟨W.heap.size + 1, k, none⟩) (by show _ + 1 < _; omega)).trans (ct k hk6)
      gi_wp2
      refine calls_wide (Sx.parse_of (Sx.brkAll k hk6).1 (Nat.le_trans (Sx.brkAll k hk6).2 (by omega)) hlr) (fun v h' h => h.2) ?_
      rintro _ w2 B2 ⟨⟨p2, c2, rfl, A2⟩, -⟩
      have hB2 := hB.trans (B2.mono hB.size)
      gi_wp2
      obtain ⟨w3, hw3⟩ : ∃ w3, w2.alloc (.cells #[.string ⟨#[]⟩, .string ⟨#[]⟩, .slice p2 0 c2] 48) = w3 := ⟨_, rfl⟩
      have B3 : Below w2.heap.size w2 w3 := by rw [← hw3]; exact (Below.refl _ w2).alloc (Nat.le_refl _) _
      rw [hw3]
      clear hw3
      have hB3 := hB2.trans (B3.mono hB2.size)
      refine calls_wide (Sx.same_nil (A2.keep (ext_below B3) (by simp) (by simp))) (fun v h' h => h.2) ?_
      rintro _ w4 B4 ⟨rfl, -⟩
      have hB4 := hB3.trans (B4.mono hB3.size)
      have cak := (hB4.cell (p := ⟨W.heap.size + 1 + 1, k, none⟩) (by show _ + 1 + 1 < _; omega)).trans (ca k hk6)
      gi_wp2
      go_roundw
      case rel => exact ⟨k + 1, by simp, by omega, hB4⟩
      case measure => simp; omega
    · gi_wp2
      refine calls_wide (Sx.parse_of Sx.p_x (by decide) hlr) (fun v h' h => h.2) ?_
      rintro _ w2 B2 ⟨⟨p2, c2, rfl, A2⟩, -⟩
      have hB2 := hB.trans (B2.mono hB.size)
      gi_wp2
      obtain ⟨w3, hw3⟩ : ∃ w3, w2.alloc (.cells #[.string ⟨#[120]⟩, .string ⟨#[]⟩, .slice p2 0 c2] 48) = w3 := ⟨_, rfl⟩
      have l3 : w3.heap[w2.heap.size]? = some (.cells #[.string ⟨#[120]⟩, .string ⟨#[]⟩, .slice p2 0 c2] 48) := by rw [← hw3]; exact World.alloc_heap_new _ _
      have B3 : Below w2.heap.size w2 w3 := by rw [← hw3]; exact (Below.refl _ w2).alloc (Nat.le_refl _) _
      have z3 : w3.heap.size = w2.heap.size + 1 := by rw [← hw3]; simp
      rw [hw3]
      clear hw3
      have hB3 := hB2.trans (B3.mono hB2.size)
      refine calls_wide (Sx.parse_of Sx.p_0 (by decide) (laid_below hl (B1.trans (hB3.mono (by omega))))) (fun v h' h => h.2) ?_
      rintro _ w4 B4 ⟨⟨p4, c4, rfl, A4⟩, -⟩
      have hB4 := hB3.trans (B4.mono hB3.size)
      have z4 := B4.size
      gi_wp2
      obtain ⟨w5, hw5⟩ : ∃ w5, w4.alloc (.cells #[.string ⟨#[]⟩, .string ⟨#[]⟩, .slice p4 0 c4] 48) = w5 := ⟨_, rfl⟩
      have l5 : w5.heap[w4.heap.size]? = some (.cells #[.string ⟨#[]⟩, .string ⟨#[]⟩, .slice p4 0 c4] 48) := by rw [← hw5]; exact World.alloc_heap_new _ _
      have B5 : Below w4.heap.size w4 w5 := by rw [← hw5]; exact (Below.refl _ w4).alloc (Nat.le_refl _) _
      have z5 : w5.heap.size = w4.heap.size + 1 := by rw [← hw5]; simp
      rw [hw5]
      clear hw5
      have hB5 := hB4.trans (B5.mono hB4.size)
      refine calls_wide (Sx.all_hc Sx.ab _) (fun v h' h => h.2.2.1) ?_
      rintro _ w6 B6 ⟨rfl, b6, -, z6⟩
      replace b6 : Boxed w6 w5.heap.size 9 (.string Sx.ab) := b6
      have hB6 := hB5.trans (B6.mono hB5.size)
      have h1w := hB4.size
      have h1v := hB2.size
      have B06 : Below W.heap.size W w6 := B1.trans (hB6.mono (by omega))
      have hm6 : w6.cell? ⟨0, 0, none⟩ = some (.int .i64 m) := (B06.cell (p := ⟨0, 0, none⟩) (cell_lt hm)).trans hm
      rw [z5] at b6
      have l3' := ((B4.trans ((B5.trans (B6.mono (by omega))).mono z4)).block w2.heap.size (by omega)).trans l3
      have l5' := (B6.block w4.heap.size (by omega)).trans l5
      have b0' := box_below b0 hB6 (by omega)
      gi_wp2
      have e6 : w4.heap.size + 1 + 1 = w6.heap.size := by omega
      refine' wpIn_rangeFunc_ownF (F := Fence.wide) rfl (by omega) (gf := 76) (lb := #[.pointer (some ⟨w4.heap.size + 1, 0, none⟩)]) rfl trivial (enters_of Tryd.func76 (by kernel_rfl) rfl)
        (all76_sub (w4.heap.size + 1) w6.heap.size Sx.ab (by decide) Sx.cutB_lt m _ (cell_al _ (cell_al _ hm6)) (by omega) (by simp; omega) (cell_al _ (cell_al _ b6.cell))) belowK_t (belowK_b (by simp; omega)) (Below.refl _ _) (fun _ => rfl)
        (fun pre W' => (Boxed W' (w4.heap.size + 1 + 1) 9 (.string (Sx.joinB (pre.map (·.1)) ⟨#[]⟩)) ∧ Boxed W' (w4.heap.size + 1 + 1 + 1) 3 (.int .i64 (pre.length : Int))) ∧ Below w6.heap.size w6 W')
        (fun c pre W' => c = .ret ∧ ¬ pre.map (·.1) <+: linesF (Sx.ab.size + 1) 1 Sx.ab)
        (fun s A B row hs hg hr => ⟨⟨boxed_own (β := List { x // x ∈ linesF (Sx.ab.size + 1) 1 Sx.ab }) _ 9 (fun pre => .string (Sx.joinB (pre.map (·.1)) ⟨#[]⟩)) s A B row hs.1.1 hg (fun r e => (hr r e).2), boxed_own (β := List { x // x ∈ linesF (Sx.ab.size + 1) 1 Sx.ab }) _ 3 (fun pre => .int .i64 (pre.length : Int)) s A B row hs.1.2 hg (fun r e => (hr r e).2)⟩, ownFrom_below (β := Unit) (Nat.le_refl _) (by simp; omega) () A B row hs.2 hg hr⟩)
        (fun c s A B row hs hg hr => hs)
        ⟨⟨by rw [e6]; exact (Boxed.new w6 9 (.string ⟨#[]⟩)).alloc _, by rw [e6]; have := Boxed.new (w6.alloc (.cells #[.string ⟨#[]⟩] 9)) 3 (.int .i64 0); rw [World.size_alloc] at this; exact this⟩, ((Below.refl _ w6).alloc (Nat.le_refl _) _).alloc (by simp) _⟩
        _ ?assign ?body ?done ?stop
      case assign =>
        intro l x W' K hK
        rw [fold_enc]
        dsimp only
        simp only [List.setIfInBounds_toArray, List.set_cons_succ, List.set_cons_zero]
        gi_wp2
        exact hK
      case body =>
        rintro l pre x W' ⟨⟨bn, bm⟩, hB'⟩ hlen
        have hlen3 : pre.length < 3 := by have h3 : (linesF (Sx.ab.size + 1) 1 Sx.ab).length = 3 := by rw [Sx.lnF_ab]; rfl
                                          omega
        have cn := bn.cell
        have fn := bn.frozen
        have cm := bm.cell
        have fm := bm.frozen
        have d0 := box_below b0' hB' (by omega)
        have c0 := d0.cell
        have f0 := d0.frozen
        have hgood : (pre ++ [x]).map (·.1) <+: linesF (Sx.ab.size + 1) 1 Sx.ab → x.1.1 = pre.length + 1 := fun hp => by rw [List.map_append] at hp; simpa using (Sx.linesF_at hp).1
        have hx2 : x.1.2.size ≤ 1 := Sx.ab_small x.2
        have hj2 := Sx.joinB_small pre
        have hbig1 : ¬ 9223372036854775807 < (Sx.joinB (pre.map (·.1)) ⟨#[]⟩).size + x.1.2.size := by omega
        have hbig2 : ¬ 9223372036854775807 < (Sx.joinB (pre.map (·.1)) ⟨#[]⟩).size + x.1.2.size + 1 := by omega
        clear e6
        gi_wp2
        · rename_i h1
          refine ⟨(KeepsOthers.setCell _ _ _).trans (KeepsOthers.setCell _ _ _), rfl, fun hp => ?_⟩
          rw [hgood hp] at h1
          simp at h1
        · refine ⟨(KeepsOthers.setCell _ _ _).trans (KeepsOthers.setCell _ _ _), ((Below.refl _ W').setCell (p := ⟨w4.heap.size + 1 + 1 + 1, 0, none⟩) (by show _ ≤ _ + 1; omega) _).setCell (p := ⟨w4.heap.size + 1 + 1, 0, none⟩) (by show _ ≤ _ + 1; omega) _, ⟨?_, ?_⟩, (hB'.setCell (p := ⟨w4.heap.size + 1 + 1 + 1, 0, none⟩) (by show _ ≤ _ + 1; omega) _).setCell (p := ⟨w4.heap.size + 1 + 1, 0, none⟩) (by show _ ≤ _ + 1; omega) _⟩
          · rw [List.map_append, List.map_cons, List.map_nil, Sx.joinB_snoc]
            exact (bn.other (by omega) _).set _
          · rw [show (((pre ++ [x]).length : Nat) : Int) = (pre.length : Int) + 1 by simp]
            exact (bm.set _).other (by omega) _
      case done =>
        rintro D ys W' hD hys ⟨⟨bn, bm⟩, hB'⟩ hK
        rw [hys, Sx.lnF_ab] at bn
        replace bn : Boxed W' (w4.heap.size + 1 + 1) 9 (.string ⟨#[97, 124, 124, 98, 124]⟩) := bn
        have cn := bn.cell
        have d0 := box_below b0' hB' (by omega)
        have c0 := d0.cell
        have f0 := d0.frozen
        have l3'' := (hB'.block w2.heap.size (by omega)).trans l3'
        have l5'' := (hB'.block w4.heap.size (by omega)).trans l5'
        have g0 : W'.cell? ⟨w2.heap.size, 0, none⟩ = some (.string ⟨#[120]⟩) := by unfold World.cell?; rw [l3'']; rfl
        have g1 : W'.cell? ⟨w2.heap.size, 1, none⟩ = some (.string ⟨#[]⟩) := by unfold World.cell?; rw [l3'']; rfl
        have g2 : W'.cell? ⟨w4.heap.size, 0, none⟩ = some (.string ⟨#[]⟩) := by unfold World.cell?; rw [l5'']; rfl
        have g3 : W'.cell? ⟨w4.heap.size, 1, none⟩ = some (.string ⟨#[]⟩) := by unfold World.cell?; rw [l5'']; rfl
        have g4 : W'.cell? ⟨w4.heap.size, 2, none⟩ = some (.slice p4 0 c4) := by unfold World.cell?; rw [l5'']; rfl
        have B4' : Below w4.heap.size w4 W' := (B5.trans (B6.mono (by omega))).trans (hB'.mono (by omega))
        have BW' : Below W.heap.size W W' := B06.trans (hB'.mono (by omega))
        clear e6
        gi_wp2
        refine calls_wide (Sx.same_nil (A4.keep (ext_below B4') (by simp) (by simp))) (fun v h' h => h.2) ?_
        rintro _ w8 B8 ⟨rfl, -⟩
        have hz8 := BW'.size
        have hz9 := hB'.size
        have BW8 : Below W.heap.size W w8 := BW'.trans (B8.mono hz8)
        have cn8 := (box_below bn B8 bn.lt).cell
        gi_wp2
        refine calls_wide (Sx.known3_hc _ (laid_below hl BW8)) (fun v h' h => h.2) ?_
        rintro _ w9 B9 ⟨rfl, -⟩
        have hz10 := B8.size
        have d9 := box_below (box_below d0 B8 (by omega)) B9 (by omega)
        have c9 := d9.cell
        have f9 := d9.frozen
        have BW9 : Below W.heap.size W w9 := BW8.trans (B9.mono (by omega))
        gi_wp2
        have hmk : Marks w6.heap.size [{ target := .collected D, args := #[] }] W' := ⟨[D], rfl, by simp, fun E hE => by
          rw [List.mem_singleton.1 hE]
          exact ⟨by simp at hD; omega, hK⟩⟩
        refine Marks.leaves (hmk.keeps (((keeps_below B8).trans (keeps_below B9)).trans (KeepsOthers.setCell _ _ _))) fun w' hb _ => ?fin
        have e4 := (box_below (d9.set (.bool true)) hb (by omega)).cell
        refine ⟨.bool true, ?_, rfl, BW9.setCell (p := ⟨W.heap.size, 0, none⟩) (Nat.le_refl _) _ |>.trans (hb.mono (by omega))⟩
        simp [results, Tryd.f12, go_sem, e4]
      case stop =>
        rintro D c pre W' hD hpre ⟨rfl, hn⟩ hK
        exact (hn hpre).elim
end Go.Proofs
