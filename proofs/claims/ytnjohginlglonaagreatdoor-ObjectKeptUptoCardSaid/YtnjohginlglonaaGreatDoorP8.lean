/- Contracts over heaps, and plain laws, for the functions that the laws of chapter 10 call, part 8: ObjectKept over heaps. What is handed in, opened: structs, lists; over any program. The tables, from the rows' listed variables. Units and bytes that are handed in: what they read as, and what lies in memory. Units and bytes that are handed in, joined. Bytes that were handed in are no more than the reach lets in. Condition: as each statement says. -/
import Derived.Test.YtnjohginlglonaaGreatDoorP7
import Derived.Test.YtnjohginlglonaaGreatDoorRows
import Derived.ProofKit
import Derived.LaidMore
import Derived.LaidLaws
import Derived.OpenShut
import Derived.ChangeSame
import Derived.ChangeStays
import Derived.ChangeOld
import Derived.ChangeSlices
import Derived.ChangeMaps5
import Derived.JoinedCond
import Derived.Lib.LaidTab
import Derived.Stop.Joined
import Derived.Test.YtnjohginlglonaaGreatDoorTie
import Derived.Test.YtnjohginlglonaaGreatDoorCards
import Derived.SevenTiedAt
set_option linter.unusedVariables false
set_option linter.unusedSimpArgs false
set_option maxRecDepth 100000
namespace Go.Sx.Ob
open Go.Proofs Go.Sx.BB
theorem LcI.at {h h0 : Hp} {b : Nat} {p p0 : Option Addr} {l c l0 : Nat} {ws : List (Sli × Itm)} {us : List Itm} (s : LcI h b p l c ws) (hu : ws.map (·.2) = us) (v : VwI h0 p0 l0 us) : VwI h p l us := by
  subst hu
  refine ⟨by rw [s.len, List.length_map], v.many, fun i hi => ?_⟩
  obtain ⟨_, _, _, _, _, _, v0⟩ := v.cells i hi
  rw [List.length_map] at hi
  obtain ⟨a, ha, hc⟩ := SL.at_ s.sl (i := i) (by rw [List.length_map]; exact hi)
  rw [List.getElem_map] at hc v0 ⊢
  exact ⟨a, _, _, _, ha, hc, ⟨⟨Sx.SL.vwT (s.own _ (List.getElem_mem hi)), v0.lin.many, v0.lin.names⟩, v0.name, v0.op⟩⟩
theorem LcE.at {h h0 : Hp} {b : Nat} {p p0 : Option Addr} {l c l0 : Nat} {ws : List (Sli × Eqn)} {us : List Eqn} (s : LcE h b p l c ws) (hu : ws.map (·.2) = us) (v : VwE h0 p0 l0 us) : VwE h p l us := by
  subst hu
  refine ⟨by rw [s.len, List.length_map], v.many, fun i hi => ?_⟩
  obtain ⟨_, _, _, _, _, _, v0, n0⟩ := v.cells i hi
  rw [List.length_map] at hi
  obtain ⟨a, ha, hc⟩ := SL.at_ s.sl (i := i) (by rw [List.length_map]; exact hi)
  rw [List.getElem_map] at hc v0 n0 ⊢
  exact ⟨a, _, _, _, ha, hc, ⟨Sx.SL.vwT (s.own _ (List.getElem_mem hi)), v0.many, v0.names⟩, n0⟩
theorem SN.at {h h0 : Hp} {b : Nat} {p p0 : Option Addr} {l c l0 : Nat} {us : List ByteArray} (s : SN h b p l c us) (v : VwS h0 p0 l0 us) : VwS h p l us := by
  refine ⟨SN.len s, v.many, fun i hi => ?_⟩
  obtain ⟨_, _, _, n0⟩ := v.cells i hi
  obtain ⟨a, ha, hc⟩ := SN.cell s hi
  exact ⟨a, ha, hc, n0⟩
theorem CopyR.at {u : Unt} {h h' : Hp} {w : Value} {a b c d : Sli} (r : CopyR u h w h') (v : UntAt h a b c d u) : ∃ a' b' c' d' : Sli, w = untV a' b' c' d' ∧ UntAt h' a' b' c' d' u := by
  obtain ⟨⟨a', b', c', d', wT, wD, wE, rfl, lT, lD, lE, lS, eT, eD, eE⟩, e⟩ := r
  exact ⟨a', b', c', d', rfl, ⟨LcI.at lT eT v.text, LcI.at lD eD v.data, LcE.at lE eE v.equs, SN.at lS v.globs⟩⟩
theorem Btw.ch {lo hi : Nat} {h h' : Hp} (b : Btw lo hi h h') : Ch (List.range' lo (hi - lo)) h h' :=
  ⟨b.1, fun i hi hn => b.2 i hi (by rw [List.mem_range'_1] at hn; omega)⟩
theorem Book.empty {h : Hp} {gb : Nat} (b : Box h gb 47 [.slice none 0 0, .slice none 0 0, .int .i64 (0 : Int), .bool false]) : Book h gb gb none 0 none 0 [] :=
  ⟨⟨0, b⟩, Nat.le_refl _, SL.nil _ _ _ _, SL.nil _ _ _ _, by simp, by simp [blkOf], by simp [blkOf], by simp [blkOf], by simp, by simp, List.Pairwise.nil⟩
structure SmU (u : Unt) : Prop where
  text : ∀ x, x ∈ u.text → x.e.terms.length ≤ 2 ^ 40
  data : ∀ x, x ∈ u.data → x.e.terms.length ≤ 2 ^ 40
  equs : ∀ x, x ∈ u.equs → x.2.terms.length ≤ 2 ^ 40
  globs : u.globs.length ≤ 2 ^ 40
  nT : u.text.length ≤ 2 ^ 20
  nD : u.data.length ≤ 2 ^ 20
  nE : u.equs.length ≤ 2 ^ 20
theorem kept_hc {h : Hp} (t : Tab h) (p : Pow10 h) {a b c d : Sli} {u : Unt} (x : UntAt h a b c d u) (n : UntNum u) (sm : SmU u) (hw : (wUnt u).length ≤ 2 ^ 39) :
    HC Tryz.prog 4 #[untV a b c d] h fun w h' => w = .bool true ∧ Ext h h' := by
  refine hcr_of (args := [untV a b c d]) mixed Tryz.func4 (by kernel_rfl) (t_spandrellaw10_ObjectKept_eq a.p a.l a.c b.p b.l b.c c.p c.l c.c d.p d.l d.c) ?_
  unfold t_spandrellaw10_ObjectKept
  refine newB ?_
  intro h1 b1 e1 z1
  have b1 : Box h1 h.size 28 [a.v, b.v, c.v, d.v] := b1
  refine loads_box b1 ((a.p, a.l, a.c), (b.p, b.l, b.c), (c.p, c.l, c.c), (d.p, d.l, d.c), ()) rfl ?_
  dsimp only [flat, unc, unc1, List.nil_append, List.cons_append]
  refine lit_of und40 untZ (by omega) (by omega) (fillU1 a.p a.l a.c b.p b.l b.c c.p c.l c.c d.p d.l d.c) ?_
  intro h2 b2 e2 z2
  have e02 := e1.trans e2
  have vu : VwU h2 (some ⟨h1.size, 0, none⟩) 1 [u] := ⟨rfl, by show 1 ≤ 2 ^ 60; decide, fun i hi => by
    have hi : i < 1 := hi
    obtain rfl : i = 0 := by omega
    exact ⟨_, a, b, c, d, rfl, b2.cells _ rfl, x.keep e02⟩⟩
  refine call_bool (large_hc vu) ?_
  refine cond_mk (fun _ => ?_) (fun _ => ?_)
  · refine call_boolx (known_hc (t.keep e02 (by simp)) (p.keep e02 (by simp))) ?_
    intro h3 e3
    exact ⟨rfl, e02.trans e3⟩
  have b12 := b1.keep e2 (by simp)
  refine loads_box b12 ((a.p, a.l, a.c), (b.p, b.l, b.c), (c.p, c.l, c.c), (d.p, d.l, d.c), ()) rfl ?_
  dsimp only [flat, unc, unc1, List.nil_append, List.cons_append]
  have x2 := x.keep e02
  refine call_of (copyUnit_hc x2 sm.nT sm.nD sm.nE sm.globs sm.text sm.data sm.equs) ?_
  intro w h3 r3
  have e3 := r3.2
  obtain ⟨a', b', c', d', rfl, y3⟩ := CopyR.at r3 x2
  refine ⟨((a'.p, a'.l, a'.c), (b'.p, b'.l, b'.c), (c'.p, c'.l, c'.c), (d'.p, d'.l, d'.c), ()), rfl, ?_⟩
  dsimp only [flat, unc, unc1, List.nil_append, List.cons_append]
  refine aside ?_
  intro h4 b4 e4
  refine newB ?_
  intro h5 b5 e5 z5
  have e35 := e4.trans e5
  have e05 := (e02.trans e3).trans e35
  have y5 := y3.keep e35
  have b45 := b4.keep e5 (by simp)
  have b15 := b12.keep (e3.trans e35) (by simp)
  refine loads_box b15 ((a.p, a.l, a.c), (b.p, b.l, b.c), (c.p, c.l, c.c), (d.p, d.l, d.c), ()) rfl ?_
  dsimp only [flat, unc, unc1, List.nil_append, List.cons_append]
  refine call_of (write_hc (a := a) (b := b) (c := c) (d := d) (t.keep e05 (by simp)) (x.keep e05) (by omega)) ?_
  rintro _ h6 ⟨s, rfl, hs0, hs, e6⟩
  refine ⟨((s.p, s.l, s.c), (((wrE u : Nat)) : Int), ()), rfl, ?_⟩
  dsimp only [flat, unc, unc1, List.nil_append, List.cons_append]
  have e06 := e05.trans e6
  refine loads_box (b15.keep e6 (by simp)) ((a.p, a.l, a.c), (b.p, b.l, b.c), (c.p, c.l, c.c), (d.p, d.l, d.c), ()) rfl ?_
  dsimp only [flat, unc, unc1, List.nil_append, List.cons_append]
  refine call_of (write_hc (a := a) (b := b) (c := c) (d := d) (t.keep e06 (by simp)) (x.keep e06) (by omega)) ?_
  rintro _ h7 ⟨s', rfl, hs0', hs', e7⟩
  refine ⟨((s'.p, s'.l, s'.c), (((wrE u : Nat)) : Int), ()), rfl, ?_⟩
  dsimp only [flat, unc, unc1, List.nil_append, List.cons_append]
  have e57 := e6.trans e7
  have q1 := e1.size
  have q4 := e4.size
  have q05 := e05.size
  have q6 := e6.size
  have q7 := e7.size
  -- the two lists, as bytes
  obtain ⟨bs, sx, sy, hbs, hwr⟩ : ∃ bs : Bt, SL h6 h5.size 5 1 s.p s.l s.c (bs.map enB) ∧ SL h7 h6.size 5 1 s'.p s'.l s'.c (bs.map enB) ∧ bs.length ≤ 2 ^ 40 ∧ (wrE u = 0 → bs = wUnt u) := by
    by_cases hr : wrE u = 0
    · exact ⟨wUnt u, hs hr, hs' hr, by omega, fun _ => rfl⟩
    · have h1 := hs0 hr
      have h2 := hs0' hr
      subst h1 h2
      exact ⟨[], SL.nil _ _ _ _, SL.nil _ _ _ _, by simp, fun h => absurd h hr⟩
  have sx7 := sx.keep e7 (by simp)
  have bk := Book.empty (b5.keep e57 (by simp))
  have bx := fun i hi => Ob.SL.blk sx i hi
  have by' := fun i hi => Ob.SL.blk sy i hi
  refine call_of (keep_hc bk (by simp) (sx7.mono (by omega)) hbs (fun i hi => ⟨by have := bx i hi; omega, by simp [blkOf], by simp [blkOf], by simp⟩) (by omega)) ?_
  rintro _ h8 ⟨rfl, es, hes, pl, cl, pw, cw, B8, k8, f1, f2, f3⟩
  refine ⟨(), rfl, ?_⟩
  dsimp only [flat, unc, unc1, List.nil_append, List.cons_append]
  have q8 := k8.size
  have k8 : Ch [h4.size] h7 h8 := k8.mono (by simp [blkOf])
  have sy8 : SL h8 h4.size 5 1 s'.p s'.l s'.c (bs.map enB) := Sx.SL.mono (Sx.SL.keep' sy k8 (fun i hi => by have := by' i hi; simp; omega)) (by omega)
  refine call_of (keep_hc B8 hes sy8 hbs (fun i hi => ?_) (by omega)) ?_
  · have h1 := by' i hi
    refine ⟨by omega, fun hm => ?_, fun hm => ?_, fun e he hm => ?_⟩
    · rcases f1 i hm with h | h
      · simp [blkOf] at h
      · omega
    · rcases f2 i hm with h | h
      · simp [blkOf] at h
      · omega
    · rcases f3 e he i hm with h | h | ⟨f, hf, _⟩
      · have := bx i h; omega
      · omega
      · simp at hf
  rintro _ h9 ⟨rfl, es', hes', pl', cl', pw', cw', B9, k9, g1, g2, g3⟩
  refine ⟨(), rfl, ?_⟩
  dsimp only [flat, unc, unc1, List.nil_append, List.cons_append]
  have q9 := k9.size
  have e59 : Ext h4 h9 := by
    have e47 : Ext h4 h7 := e5.trans e57
    have e48 : Ext h4 h8 := Ch.trans e47 k8 (fun i hi hl => by simp at hi; omega)
    refine Ch.trans e48 k9 (fun i hi hl => ?_)
    rcases List.mem_cons.1 hi with rfl | hi
    · omega
    · rcases List.mem_append.1 hi with hi | hi
      · rcases f1 i hi with h | h
        · simp [blkOf] at h
        · omega
      · rcases f2 i hi with h | h
        · simp [blkOf] at h
        · omega
  have e04 := (e02.trans e3).trans e4
  have e09 := e04.trans e59
  have b19 := b12.keep ((e3.trans e4).trans e59) (by simp)
  have b49 := b4.keep e59 (by simp)
  have y9 := (y3.keep e4).keep e59
  have x9 := x.keep e09
  have t9 := t.keep e09 (by simp)
  have p9 := p.keep e09 (by simp)
  refine cond_mk (fun r => ?_) (fun r => ?_)
  · have r : ¬ wrE u = 0 := fun h => by rw [h] at r; simp at r
    have hs1 := hs0 r
    refine loads_box b19 ((a.p, a.l, a.c), (b.p, b.l, b.c), (c.p, c.l, c.c), (d.p, d.l, d.c), ()) rfl ?_
    dsimp only [flat, unc, unc1, List.nil_append, List.cons_append]
    refine loads_box b49 ((a'.p, a'.l, a'.c), (b'.p, b'.l, b'.c), (c'.p, c'.l, c'.c), (d'.p, d'.l, d'.c), ()) rfl ?_
    dsimp only [flat, unc, unc1, List.nil_append, List.cons_append]
    refine call_of (sameUnit_hc x9 y9) ?_
    rintro _ h10 ⟨bb, rfl, hb, e10⟩
    have hb := hb.2 rfl
    subst hb
    refine ⟨(true, ()), rfl, ?_⟩
    dsimp only [flat, unc, unc1, List.nil_append, List.cons_append]
    refine cond_t rfl ?_
    refine cond_t (by rw [hs1]; rfl) ?_
    have e010 := e09.trans e10
    refine call_boolx (known_hc (t.keep e010 (by simp)) (p.keep e010 (by simp))) ?_
    intro h11 e11
    exact ⟨rfl, e010.trans e11⟩
  have r : wrE u = 0 := by
    have : ((wrE u : Nat) : Int) = 0 := by simpa using r
    omega
  have hb0 := hwr r
  subst hb0
  obtain ⟨o1, o2, o3⟩ := wrE_ok n r
  -- the list x where it lies now
  have sx9 : SL h9 h5.size 5 1 s.p s.l s.c ((wUnt u).map enB) := by
    have s8 := Sx.SL.keep' sx7 k8 (fun i hi => by have := bx i hi; simp; omega)
    refine Sx.SL.keep' s8 k9 (fun i hi hm => ?_)
    have h1 := bx i hi
    rcases List.mem_cons.1 hm with rfl | hm
    · omega
    · rcases List.mem_append.1 hm with hm | hm
      · rcases f1 i hm with h | h
        · simp [blkOf] at h
        · omega
      · rcases f2 i hm with h | h
        · simp [blkOf] at h
        · omega
  refine call_of (read_hc t9 (SL.vwB sx9) (SL.capL sx9) (by omega)) ?_
  rintro _ h10 ⟨ra, rb, rc, rd, ev, u1, er, rfl, own1, ea1, re1, ⟨_, ap1⟩, e10⟩
  obtain ⟨rfl, rfl⟩ := readE_ok re1 (rd_ok o1 o2 o3)
  refine ⟨((ra.p, ra.l, ra.c), (rb.p, rb.l, rb.c), (rc.p, rc.l, rc.c), (rd.p, rd.l, rd.c), ev, ()), rfl, ?_⟩
  dsimp only [flat, unc, unc1, List.nil_append, List.cons_append]
  refine aside ?_
  intro h11 b11 e11
  have e911 := e10.trans e11
  have sx11 := sx9.keep e911 (by simp)
  refine call_of (read_hc (t9.keep e911 (by simp)) (SL.vwB sx11) (SL.capL sx11) (by omega)) ?_
  rintro _ h12 ⟨qa, qb, qc, qd, ev2, u2, er2, rfl, own2, ea2, re2, _, e12⟩
  obtain ⟨rfl, rfl⟩ := readE_ok re2 (rd_ok o1 o2 o3)
  refine ⟨((qa.p, qa.l, qa.c), (qb.p, qb.l, qb.c), (qc.p, qc.l, qc.c), (qd.p, qd.l, qd.c), ev2, ()), rfl, ?_⟩
  dsimp only [flat, unc, unc1, List.nil_append, List.cons_append]
  refine aside ?_
  intro h13 b13 e13
  have e1013 := (e11.trans e12).trans e13
  refine loads_box (b11.keep (e12.trans e13) (by simp)) ((ra.p, ra.l, ra.c), (rb.p, rb.l, rb.c), (rc.p, rc.l, rc.c), (rd.p, rd.l, rd.c), ()) rfl ?_
  dsimp only [flat, unc, unc1, List.nil_append, List.cons_append]
  have q10 := e10.size
  have q11 := e11.size
  have q12 := e12.size
  have q13 := e13.size
  refine call_of (spoil_hc own1 ap1 e1013 (by omega)) ?_
  rintro _ h14 ⟨rfl, bt⟩
  refine ⟨(), rfl, ?_⟩
  dsimp only [flat, unc, unc1, List.nil_append, List.cons_append]
  have kb := bt.ch
  have hkb : ∀ i, i ∈ List.range' h9.size (h10.size - h9.size) → h9.size ≤ i ∧ i < h10.size := fun i hi => by rw [List.mem_range'_1] at hi; omega
  have e914 : Ext h9 h14 := Ch.trans (e10.trans e1013) kb (fun i hi hl => by have := hkb i hi; omega)
  have own2' := (own2.keep e13 (by simp)).keep kb (fun i hi _ => by have := hkb i hi; omega)
  refine loads_box (b13.keep kb (fun hm => by have := hkb _ hm; omega)) ((qa.p, qa.l, qa.c), (qb.p, qb.l, qb.c), (qc.p, qc.l, qc.c), (qd.p, qd.l, qd.c), ()) rfl ?_
  dsimp only [flat, unc, unc1, List.nil_append, List.cons_append]
  refine loads_box (b49.keep e914 (by simp)) ((a'.p, a'.l, a'.c), (b'.p, b'.l, b'.c), (c'.p, c'.l, c'.c), (d'.p, d'.l, d'.c), ()) rfl ?_
  dsimp only [flat, unc, unc1, List.nil_append, List.cons_append]
  refine call_of (sameUnit_hc own2'.at (y9.keep e914)) ?_
  rintro _ h15 ⟨bb, rfl, hb, e15⟩
  have hb := hb.2 rfl
  subst hb
  refine ⟨(true, ()), rfl, ?_⟩
  dsimp only [flat, unc, unc1, List.nil_append, List.cons_append]
  refine cond_t rfl ?_
  have e915 := e914.trans e15
  refine loads_box (b19.keep e915 (by simp)) ((a.p, a.l, a.c), (b.p, b.l, b.c), (c.p, c.l, c.c), (d.p, d.l, d.c), ()) rfl ?_
  dsimp only [flat, unc, unc1, List.nil_append, List.cons_append]
  refine loads_box (b49.keep e915 (by simp)) ((a'.p, a'.l, a'.c), (b'.p, b'.l, b'.c), (c'.p, c'.l, c'.c), (d'.p, d'.l, d'.c), ()) rfl ?_
  dsimp only [flat, unc, unc1, List.nil_append, List.cons_append]
  refine call_of (sameUnit_hc (x9.keep e915) (y9.keep e915)) ?_
  rintro _ h16 ⟨bb, rfl, hb, e16⟩
  have hb := hb.2 rfl
  subst hb
  refine ⟨(true, ()), rfl, ?_⟩
  dsimp only [flat, unc, unc1, List.nil_append, List.cons_append]
  refine cond_t rfl ?_
  have e916 := e915.trans e16
  refine loads_box (b19.keep e916 (by simp)) ((a.p, a.l, a.c), (b.p, b.l, b.c), (c.p, c.l, c.c), (d.p, d.l, d.c), ()) rfl ?_
  dsimp only [flat, unc, unc1, List.nil_append, List.cons_append]
  refine call_of (right9_hc (x9.keep e916)) ?_
  rintro _ h17 ⟨rfl, e17⟩
  refine ⟨(((untR _ : Nat) : Int), ()), rfl, ?_⟩
  dsimp only [flat, unc, unc1, List.nil_append, List.cons_append]
  refine cond_t (by rw [o1]; rfl) ?_
  have e917 := e916.trans e17
  have B17 := B9.keep e917 (by simp) (by simp) (by simp) (by simp)
  have q17 := e917.size
  refine call_of (apart_hc B17 hes' (by omega)) ?_
  rintro _ h18 ⟨rfl, s18⟩
  refine ⟨(true, ()), rfl, ?_⟩
  dsimp only [flat, unc, unc1, List.nil_append, List.cons_append]
  refine cond_t rfl ?_
  have e018 : Ext h h18 := Since.ext (e09.trans e917) ⟨s18.1, fun i hi hl => s18.2 i (by have := e04.size; omega) hl⟩
  refine call_boolx (known_hc (t.keep e018 (by simp)) (p.keep e018 (by simp))) ?_
  intro h19 e19
  exact ⟨rfl, e018.trans e19⟩
end Go.Sx.Ob

set_option linter.unusedVariables false
set_option linter.unusedSimpArgs false
set_option maxRecDepth 100000
namespace Go.Sx.Ob
open Go.Proofs Go.Proofs.YtnjohginlglonaaGreatDoor
open Go.ChangeShapes Go.WideShapes Go.ChangeAt Go.WideMaps Go.WideElems Go.RowKit
def flds2 (P : Program) (t : TypeId) : Option (List (TypeId × Nat)) := (P.underlying t).bind fun d => match d with | .struct fs => some (fs.toList.map fun f => (f.type, f.offset)) | _ => none
section
variable {H : Type} {enc : TypeId × Value → H} {P : Program} {W : World} {base fuel : Nat} {sp : Nat → Bool} {held : Bool} {t : TypeId} {cs : List Value} {y : DataW H × List MemPlace}
theorem open_struct {l : List (TypeId × Nat)} (hu : flds2 P t = some l) (h : DataW.trod enc P W base sp held fuel t cs = some y) :
    ∃ (xs : List (DataW H × List MemPlace)) (n : Nat), y.1 = .agg (xs.map (·.1)) ∧ cs.length = P.cellsOf t ∧ xs.length = l.length ∧ ∀ (i : Nat) (p : TypeId × Nat), l[i]? = some p → ∃ x, xs[i]? = some x ∧ DataW.trod enc P W base sp held n p.1 ((cs.drop p.2).take (P.cellsOf p.1)) = some x := by
  unfold flds2 at hu
  cases hd : P.underlying t with
  | none => rw [hd] at hu; cases hu
  | some d =>
    rw [hd] at hu
    simp only [Option.bind_some] at hu
    split at hu
    · rename_i fs
      simp only [Option.some.injEq] at hu
      obtain ⟨xs, n, _, hy, hl, hlen, hf⟩ := DataW.trod_struct hd h
      refine ⟨xs, n, by rw [hy], hl, by rw [← hu, List.length_map, hlen, Array.length_toList], fun i p hp => ?_⟩
      rw [← hu, List.getElem?_map, Option.map_eq_some_iff] at hp
      obtain ⟨f, hf1, rfl⟩ := hp
      rw [Array.getElem?_toList] at hf1
      have h1 := hf i f hf1
      cases hx : xs[i]? with
      | none =>
        rw [List.getElem?_eq_none_iff] at hx
        have : i < fs.size := by
          by_cases g : i < fs.size
          · exact g
          · rw [Array.getElem?_eq_none (by omega)] at hf1
            cases hf1
        omega
      | some x => rw [hx] at h1; exact ⟨x, rfl, h1⟩
    · cases hu
theorem cellsAt_of {h : Hp} {a : Addr} : ∀ (vs : List Value) (i : Nat), (∀ j, (hj : j < vs.length) → hcell h (a.add (i + j)) = some vs[j]) → cellsAt h a i vs
  | [], _, _ => trivial
  | v :: vs, i, hh => ⟨by have := hh 0 (by simp); rw [Nat.add_zero] at this; exact this, cellsAt_of vs (i + 1) fun j hj => by
    have := hh (j + 1) (by simpa using hj)
    rw [show i + 1 + j = i + (j + 1) by omega]
    simpa using this⟩
theorem cellsN {a : Addr} {n : Nat} (h : W.cells? base a n = some cs) : cs.length = n ∧ cellsAt W.heap a 0 cs := by
  unfold World.cells? at h
  split at h
  · have hl : cs.length = n := by simpa using Lib.mapM_length h
    refine ⟨hl, cellsAt_of cs 0 fun j hj => ?_⟩
    obtain ⟨b, hb, hf⟩ := Lib.mapM_at h j j (List.getElem?_range (by omega))
    rw [List.getElem?_eq_getElem hj] at hb
    cases hb
    rw [Nat.zero_add, ← cell_heap]
    exact hf
  · cases h
theorem choose_list {α : Type} (Q : Nat → α → Prop) : ∀ n, (∀ i, i < n → ∃ x, Q i x) → ∃ l : List α, l.length = n ∧ ∀ i (hi : i < l.length), Q i l[i]
  | 0, _ => ⟨[], rfl, fun i hi => by simp at hi⟩
  | n + 1, h => by
    obtain ⟨l, hl, hp⟩ := choose_list Q n (fun i hi => h i (by omega))
    obtain ⟨x, hx⟩ := h n (by omega)
    refine ⟨l ++ [x], by simp [hl], fun i hi => ?_⟩
    by_cases hin : i < l.length
    · rw [List.getElem_append_left hin]
      exact hp i hin
    · have hi' : i = n := by simp at hi; omega
      subst hi'
      rw [List.getElem_append_right (by omega)]
      simpa using hx
/-- The bulk of a list whose things have these bulks. -/
theorem bulk_sum {ds : List (DataW H)} {ks : List Nat} (hl : ds.length = ks.length) (h : ∀ i, (hi : i < ks.length) → (hj : i < ds.length) → ks[i] = Rows.uptoBulk ds[i]) : Rows.uptoBulkAll ds = ks.sum := by
  induction ds generalizing ks with
  | nil =>
    cases ks with
    | nil => rfl
    | cons k ks => simp at hl
  | cons d ds ih =>
    cases ks with
    | nil => simp at hl
    | cons k ks =>
      have h0 := h 0 (by simp) (by simp)
      simp only [List.getElem_cons_zero] at h0
      have := ih (ks := ks) (by simpa using hl) (fun i hi hj => h (i + 1) (by simpa using hi) (by simpa using hj))
      unfold Rows.uptoBulkAll
      rw [this, List.sum_cons, h0]
/-- What is known of a list that lies in memory: each thing, its cells, its bulk. -/
structure LsIn {α : Type} (Q : α → List Value → Nat → Prop) (h : Hp) (sz : Nat) (p : Option Addr) (l c : Nat) (us : List α) (ks : List Nat) : Prop where
  len : l = us.length
  lenk : ks.length = us.length
  cells : ∀ i, (hi : i < us.length) → (hk : i < ks.length) → ∃ a cs, p = some a ∧ cellsAt h (a.add (i * sz)) 0 cs ∧ Q us[i] cs ks[i]
  cap : l ≤ c
  capm : c ≤ maxLen
  nil : p = none → c = 0
theorem open_slice {α : Type} {e : TypeId} {sz : Nat} (hu : P.underlying t = some (.slice e)) (hc : P.cellsOf e = sz) (Q : α → List Value → Nat → Prop)
    (hel : ∀ (cs : List Value) (y : DataW H × List MemPlace) (n : Nat), DataW.trod enc P W base sp held n e cs = some y → ∃ x : α, Q x cs (Rows.uptoBulk y.1))
    (h : DataW.trod enc P W base sp held fuel t cs = some y) :
    ∃ (p : Option Addr) (l c : Nat) (us : List α) (ks : List Nat), cs = [.slice p l c] ∧ LsIn Q W.heap sz p l c us ks ∧ ks.sum + 1 ≤ Rows.uptoBulk y.1 := by
  rcases DataW.trod_slice hu h with ⟨e0, hy0⟩ | ⟨a, len, cap, elems, rest, n, _, e0, hy0, hbase, hlc, hcm, hlen, hev, _, _⟩
  · refine ⟨none, 0, 0, [], [], e0, ⟨rfl, rfl, fun i hi => by simp at hi, Nat.le_refl _, Nat.zero_le _, fun _ => rfl⟩, ?_⟩
    rw [hy0]
    simp only [Rows.uptoBulk]
    decide
  · have each : ∀ i, i < len → ∃ x : α × Nat, ∃ cs', cellsAt W.heap (a.add (i * sz)) 0 cs' ∧ Q x.1 cs' x.2 ∧ ∃ y, elems[i]? = some y ∧ x.2 = Rows.uptoBulk y.1 := by
      intro i hi
      have he := hev i hi
      cases hy : elems[i]? with
      | none => rw [List.getElem?_eq_none_iff] at hy; omega
      | some y =>
        rw [hy, hc] at he
        simp only [Option.bind_eq_some_iff] at he
        obtain ⟨cs', hcs, htr⟩ := he
        obtain ⟨hl, hcell⟩ := cellsN hcs
        obtain ⟨x, hx⟩ := hel _ _ _ htr
        exact ⟨(x, Rows.uptoBulk y.1), cs', hcell, hx, y, rfl, rfl⟩
    obtain ⟨xs, hxl, hxs⟩ := choose_list _ len each
    refine ⟨some a, len, cap, xs.map (·.1), xs.map (·.2), e0, ⟨by rw [List.length_map, hxl], by rw [List.length_map, List.length_map], fun i hi hk => ?_, hlc, hcm, fun h => by cases h⟩, ?_⟩
    · rw [List.length_map] at hi
      obtain ⟨cs', h1, h2, _⟩ := hxs i hi
      rw [List.getElem_map, List.getElem_map]
      exact ⟨a, cs', rfl, h1, h2⟩
    · have := bulk_sum (ds := elems.map (·.1)) (ks := xs.map (·.2)) (by rw [List.length_map, List.length_map, hlen, hxl]) (fun i hi hj => by
        rw [List.length_map] at hi hj
        obtain ⟨cs', _, _, y, hy, hk⟩ := hxs i hi
        rw [List.getElem?_eq_getElem hj] at hy
        rw [List.getElem_map, List.getElem_map, hk, Option.some.inj hy])
      rw [hy0]
      simp only [Rows.uptoBulk]
      rw [this]
      omega
end
/-- What a call over heaps is, of a world: a call that leaves what was there. -/
theorem calls_of {P : Program} {f : FuncId} {args : Array Value} {W : World} {R : Value → Hp → Prop} (h : HC P f args W.heap R) (he : ∀ v h', R v h' → Ext W.heap h') : Calls P f args W fun e w' => ∃ v, e = .returned v ∧ Below W.heap.size W w' ∧ R v w'.heap := by
  refine (h W rfl).mono fun e w' ⟨v, hv, hs, hr⟩ => ⟨v, hv, ⟨hs.os, hs.tape, hs.output, (he v _ hr).size, fun k hk => (he v _ hr).same k hk (by simp)⟩, hr⟩
theorem below_same {W W' : World} (hB : Below W.heap.size W W') {p : MemPlace} (hp : p.block < W.heap.size) : W.sameAt W' p := by
  cases p with
  | cell b off =>
    show W'.cell? _ = W.cell? _
    unfold World.cell?
    rw [hB.block b hp]
  | map b => exact hB.block b hp
end Go.Sx.Ob

set_option linter.unusedVariables false
set_option linter.unusedSimpArgs false
set_option maxRecDepth 100000
namespace Go.Sx.Ob
open Go.Proofs Go.Proofs.YtnjohginlglonaaGreatDoor
open Go.ChangeShapes Go.WideShapes Go.ChangeAt Go.WideMaps Go.WideElems Go.RowKit
theorem ownK : ownKnob Tryz.prog.godebug = none := by kernel_rfl
theorem u9 : Tryz.prog.underlying 9 = some .string := by kernel_rfl
theorem u4 : Tryz.prog.underlying 4 = some .bool := by kernel_rfl
theorem u3 : Tryz.prog.underlying 3 = some (.int .i64) := by kernel_rfl
theorem u5 : Tryz.prog.underlying 5 = some (.int .u8) := by kernel_rfl
theorem u127 : Tryz.prog.underlying 167 = some (.array 43 155) := by kernel_rfl
theorem c106 : Tryz.prog.cellsOf 155 = 3 := by kernel_rfl
theorem c127 : Tryz.prog.cellsOf 167 = 129 := by kernel_rfl
theorem c9 : Tryz.prog.cellsOf 9 = 1 := by kernel_rfl
theorem c5 : Tryz.prog.cellsOf 5 = 1 := by kernel_rfl
theorem c3 : Tryz.prog.cellsOf 3 = 1 := by kernel_rfl
theorem s106 : flds2 Tryz.prog 155 = some [(9, 0), (5, 1), (3, 2)] := by kernel_rfl
def tabL : List (DataW Unit) := match (Rows.laid_spandrel_isa_table : DataW Unit) with | .agg l => l | _ => []
def shpOf : DataW Unit → Int
  | .agg [_, _, .lit (.int _ n)] => n
  | _ => 0
theorem tabL_eq : (Rows.laid_spandrel_isa_table : DataW Unit) = .agg tabL := by kernel_rfl
theorem tabL_shp : tabL.map shpOf = (List.range 43).map fun k => ((shpL.getD k 0 : Nat) : Int) := by kernel_rfl
theorem flat_len {α β : Type} (f : α → List β) (m : Nat) (hf : ∀ x, (f x).length = m) : ∀ l : List α, (l.flatMap f).length = l.length * m
  | [] => by simp
  | x :: l => by rw [List.flatMap_cons, List.length_append, hf, flat_len f m hf l, List.length_cons, Nat.succ_mul, Nat.add_comm]
theorem rowsV_length (nm : Nat → ByteArray) (by_ : Nat → Int) : (rowsV nm by_).length = 129 := by
  unfold rowsV
  rw [flat_len _ 3 (fun x => rfl), List.length_range]
theorem tab_cells {enc : TypeId × Value → Unit} {W : World} {base fuel : Nat} {sp : Nat → Bool} {held : Bool} {cs : List Value} {p : List MemPlace}
    (h : DataW.trod enc Tryz.prog W base sp held fuel 167 cs = some (Rows.laid_spandrel_isa_table, p)) : ∃ nm by_, cs = rowsV nm by_ := by
  obtain ⟨xs, m, _, hx, hl, hlen, hf⟩ := DataW.trod_array u127 h
  rw [c127] at hl
  have hxs : xs.map (·.1) = tabL := by
    have := congrArg Prod.fst hx
    rw [show (Rows.laid_spandrel_isa_table, p).1 = DataW.agg tabL from tabL_eq] at this
    simpa using this.symm
  have each : ∀ i, i < 43 → ∃ q : ByteArray × Int, (cs.drop (i * 3)).take 3 = [.string q.1, .int .u8 q.2, .int .i64 ((shpL.getD i 0 : Nat) : Int)] := by
    intro i hi
    have h1 := hf i hi
    rw [c106] at h1
    rw [List.getElem?_eq_getElem (by omega)] at h1
    obtain ⟨ys, n, hy, hyl, hyn, hys⟩ := open_struct s106 h1
    obtain ⟨y0, g0, t0⟩ := hys 0 _ rfl
    obtain ⟨y1, g1, t1⟩ := hys 1 _ rfl
    obtain ⟨y2, g2, t2⟩ := hys 2 _ rfl
    rw [c106] at hyl
    generalize hc : (cs.drop (i * 3)).take 3 = c at *
    match c, hyl with
    | [v0, v1, v2], _ =>
      rw [show Tryz.prog.cellsOf (9, 0).1 = 1 from c9] at t0
      rw [show Tryz.prog.cellsOf (5, 1).1 = 1 from c5] at t1
      rw [show Tryz.prog.cellsOf (3, 2).1 = 1 from c3] at t2
      obtain ⟨s, e0, r0, _⟩ := DataW.trod_string u9 t0
      obtain ⟨b, e1, r1, _⟩ := DataW.trod_int u5 t1
      obtain ⟨k, e2, r2, _⟩ := DataW.trod_int u3 t2
      cases e0; cases e1; cases e2
      refine ⟨(s, b), ?_⟩
      have hk : k = ((shpL.getD i 0 : Nat) : Int) := by
        have hys3 : ys = [y0, y1, y2] := by
          apply List.ext_getElem?
          intro j
          match j with
          | 0 => exact g0
          | 1 => exact g1
          | 2 => exact g2
          | j + 3 => rw [List.getElem?_eq_none (by rw [hyn]; simp), List.getElem?_eq_none (by simp)]
        have h2 : (xs.map (·.1))[i]? = some (xs[i]'(by omega)).1 := by rw [List.getElem?_map, List.getElem?_eq_getElem (by omega)]; rfl
        rw [hxs] at h2
        have h3 : (tabL.map shpOf)[i]? = some (shpOf (xs[i]'(by omega)).1) := by rw [List.getElem?_map, h2]; rfl
        rw [tabL_shp, List.getElem?_map, List.getElem?_range hi] at h3
        rw [hy, hys3, r0, r1, r2] at h3
        exact (Option.some.inj h3).symm
      rw [hk]
  obtain ⟨qs, hql, hqs⟩ := choose_list _ 43 each
  refine ⟨fun k => (qs.getD k (⟨#[]⟩, 0)).1, fun k => (qs.getD k (⟨#[]⟩, 0)).2, ?_⟩
  apply List.ext_getElem?
  intro j
  by_cases hj : j < 129
  · obtain ⟨a, b, hab, hb⟩ : ∃ a b, j = a * 3 + b ∧ b < 3 := ⟨j / 3, j % 3, by omega, by omega⟩
    subst hab
    unfold rowsV
    rw [flat_get (fun k => [Value.string ((qs.getD k (⟨#[]⟩, 0)).1), .int .u8 ((qs.getD k (⟨#[]⟩, 0)).2), .int .i64 (shpL.getD k 0 : Nat)]) 3 (fun x => rfl) _ a b hb, List.getElem?_range (by omega)]
    show cs[a * 3 + b]? = [Value.string ((qs.getD a (⟨#[]⟩, 0)).1), .int .u8 ((qs.getD a (⟨#[]⟩, 0)).2), .int .i64 ((shpL.getD a 0 : Nat) : Int)][b]?
    have ha : a < qs.length := by omega
    have := hqs a ha
    rw [List.getD_eq_getElem?_getD, List.getElem?_eq_getElem ha, Option.getD_some, ← this, List.getElem?_take, if_pos hb, List.getElem?_drop]
  · have hr : (rowsV (fun k => (qs.getD k (⟨#[]⟩, 0)).1) (fun k => (qs.getD k (⟨#[]⟩, 0)).2)).length = 129 := by
      exact rowsV_length _ _
    rw [List.getElem?_eq_none (by omega), List.getElem?_eq_none (by omega)]
theorem var_obj {P : Program} {W : World} {name : String} {g : Nat} {cs : Array Value} (hg : P.globalNamed name = some g) (hv : W.var? P name = some cs) : ∃ e f, W.heap[g]? = some (.cells cs e f) := by
  unfold World.var? at hv
  rw [hg] at hv
  have hv : (match (W.heap[g]? : Option Obj) with | some (.cells cs _ _) => some cs | _ => none) = some cs := hv
  split at hv
  · rename_i cs' e f hh
    cases hv
    exact ⟨e, f, hh⟩
  · cases hv
theorem laid_of {W : World} (h : laidMetH Tryz.prog Rows.objectReadsRow.laid W) : Tab W.heap ∧ Pow10 W.heap := by
  rw [MakeChecks.laidMetH_plain _ _ _ (by kernel_rfl)] at h
  obtain ⟨ps, ⟨g0, t0, cs0, f0, p0, q0, hg0, ht0, hv0, hd0, ⟨g1, t1, cs1, f1, p1, q1, hg1, ht1, hv1, hd1, ⟨g2, t2, cs2, f2, p2, q2, hg2, ht2, hv2, hd2, ⟨g3, t3, cs3, f3, p3, q3, hg3, ht3, hv3, hd3, _, _⟩, _⟩, _⟩, _⟩, _, _⟩ := h
  obtain rfl := Option.some.inj ((show Tryz.prog.globalNamed _ = some 1 by kernel_rfl).symm.trans hg2)
  obtain rfl := Option.some.inj ((show Tryz.prog.globalNamed _ = some 0 by kernel_rfl).symm.trans hg3)
  have h2 : (Tryz.prog.globals[1]?).map (·.type) = some 179 := by kernel_rfl
  obtain rfl := Option.some.inj (h2.symm.trans ht2)
  have h3 : (Tryz.prog.globals[0]?).map (·.type) = some 167 := by kernel_rfl
  obtain rfl := Option.some.inj (h3.symm.trans ht3)
  have hc := Lib.cells_of_tab (n := 20) (e := 172) (k := .u64) (zs := Lib.pow10Tab) (by kernel_rfl) (by kernel_rfl) (by kernel_rfl) (by kernel_rfl) hd2
  obtain ⟨nm, by_, hr⟩ := tab_cells hd3
  obtain ⟨e2, ff2, ho2⟩ := var_obj hg2 hv2
  obtain ⟨e3, ff3, ho3⟩ := var_obj hg3 hv3
  refine ⟨⟨nm, by_, e3, ff3, ?_⟩, ⟨e2, ff2, ?_⟩⟩
  · rw [ho3, ← hr]
  · rw [ho2, ← hc]
theorem door_met (os : Os) (args : Array Value) : laidMetH Tryz.prog Rows.objectReadsRow.laid ((World.doorLaid Tryz.prog 400 os).forCall (fun _ _ => 0) ⟨#[], args, []⟩).memory :=
  laidMetH_of_parts3 (fuel := 8) (laidMet_of_run' 8 (by kernel_rfl) (by kernel_rfl)) (by kernel_rfl) (by kernel_rfl)
end Go.Sx.Ob

set_option linter.unusedVariables false
set_option linter.unusedSimpArgs false
set_option maxRecDepth 100000
namespace Go.Sx.Ob
open Go.Proofs Go.Proofs.YtnjohginlglonaaGreatDoor
open Go.ChangeShapes Go.WideShapes Go.ChangeAt Go.WideMaps Go.WideElems Go.RowKit
theorem kidsT : Kids Tryz.prog (· < Tryz.prog.types.size) := kids_rows (by kernel_rfl) (by kernel_rfl)
theorem sliceB : ((List.range Tryz.prog.types.size).all fun t => match Tryz.prog.underlying t with | some (.slice e) => decide (0 < Tryz.prog.cellsOf e) | _ => true) = true := by kernel_rfl
theorem sliceT {t e : TypeId} (ht : t < Tryz.prog.types.size) (hu : Tryz.prog.underlying t = some (.slice e)) : 0 < Tryz.prog.cellsOf e := by
  have := List.all_eq_true.1 sliceB t (List.mem_range.2 ht)
  rw [hu] at this
  exact of_decide_eq_true this
theorem trodAll_stays {H : Type} {enc : TypeId × Value → H} {W W' : World} {sp : Nat → Bool} (hB : Below W.heap.size W W') : ∀ {ts : List TypeId} {vs : List Value} {ds : List (DataW H)} {ps : List MemPlace}, (∀ t ∈ ts, t < Tryz.prog.types.size) →
    DataW.TrodAll enc Tryz.prog W 0 (fun _ => true) true ts vs ds ps → (∀ p ∈ ps, p.block < W.heap.size) → (∀ p ∈ ps, sp p.block = true) → DataW.TrodAll enc Tryz.prog W' 0 sp true ts vs ds ps
  | [], _, _, _, _, h, _, _ => by
    obtain ⟨rfl, rfl, rfl⟩ := trodAll_nil h
    exact trodAll_mk0
  | t :: ts, _, _, _, ht, h, hl, hs => by
    obtain ⟨v, vs1, d, ds1, a, b, rfl, rfl, rfl, ⟨n, h1⟩, h2⟩ := trodAll_cons h
    exact ⟨a, b, ⟨n, DataW.trod_stays kidsT (fun h hu => sliceT h hu) (fun h => by cases h) (ht t (List.mem_cons_self ..)) h1 (fun p hp => below_same hB (hl p (List.mem_append_left _ hp))) (fun p hp => hs p (List.mem_append_left _ hp))⟩,
      trodAll_stays hB (fun t h => ht t (List.mem_cons_of_mem _ h)) h2 (fun p hp => hl p (List.mem_append_right _ hp)) (fun p hp => hs p (List.mem_append_right _ hp)), rfl⟩
/-- A law's post: it answers, what was handed in reads as it did. -/
theorem post_old {H : Type} {enc : TypeId × Value → H} {f : Func} {s : ChangeSpec} {apart fresh handsOn : Bool} {W W' : World} {args : Array Value} {v : Value} {ds gs : List (DataW H)} {before : List MemPlace} (hv0 : s.vars = [])
    (hW : DataW.Whole enc Tryz.prog f.params.toList s.vars apart W args.toList ds gs before)
    (hres : ∀ (b : Nat) (sp : Nat → Bool) (hd : Bool), DataW.TrodAll enc Tryz.prog W' b sp hd f.resultTypes.toList (v.resultList f.resultTypes.size) (s.fn H (ds ++ gs)).results [])
    (hargs : (s.fn H (ds ++ gs)).args = ds) (hvs : (s.fn H (ds ++ gs)).vars = []) (hts : ∀ t ∈ f.params.toList, t < Tryz.prog.types.size) (hB : Below W.heap.size W W') :
    s.post enc Tryz.prog f apart fresh handsOn false W args v W' := by
  have hlt := hW.lt
  have hW' := hW
  obtain ⟨p, q, hA, hV, rfl, hz, hn⟩ := hW
  rw [hv0] at hV
  obtain ⟨rfl, rfl⟩ := trodVars_none hV
  rw [List.append_nil] at hlt hW'
  refine ⟨ds, [], p, [], p, [], hW', hres _ _ _, ?_, ?_, hB.frame _, fun h => by cases h⟩
  · rw [hargs]
    exact trodAll_stays hB hts hA hlt (fun p hp => decide_eq_true (hlt p hp))
  · rw [hvs, hv0]
    rfl
/-- A row with a condition upon what it reads. -/
theorem ret_cond {H : Type} {enc : TypeId × Value → H} {a : Assume} {C : Checked} {os : Os} {f : FuncId} {fn : Func} {s : OpenSpec} {k : (H : Type) → List (DataW H) → Bool} (hk : s.cond = some k) {F : Stop.Interp} {conds : List PathCond} {apart fresh handsOn again : Bool} {X : World → Array Value → Prop}
    (hX : ∀ (w w' : World) (args : Array Value), w.heap = w'.heap → X w args → X w' args)
    (own : ownKnob C.prog.godebug = none) (started : os.Started) (noInit : C.prog.inits.idxOf? f = none) (hfn : C.prog.funcs[f]? = some fn)
    (witness : ∃ (w : World) (tape : Tape) (i : Input), w.os = os ∧ (w.forCall tape i).Shaped C.prog ∧ i.vars = [] ∧ Input.okWide C.prog (w.forCall tape i) .any w.heap.size f i ∧
      ((s.pre enc C.prog fn conds apart (w.forCall tape i).memory i.args ∧ X (w.forCall tape i).memory i.args) ∧ sizedMet enc C.prog fn s apart (w.forCall tape i).memory i.args) ∧ a.holds C.prog (lone (Frame.enter C.prog f i.args .normal) [] (w.forCall tape i)))
    (contract : ∀ (W : World) (base : Nat) (args : Array Value) (ds gs : List (DataW H)) (before : List MemPlace),
      (∀ (j : Nat) t v, fn.params[j]? = some t → args[j]? = some v → Value.okWide C.prog W .any base t v) →
      DataW.Whole enc C.prog fn.params.toList s.vars apart W args.toList ds gs before → k H (ds ++ gs) = true → X W args →
      Calls C.prog f args W fun e W' => ∃ v, e = .returned v ∧ (s.at F).post enc C.prog fn apart fresh handsOn again W args v W') :
    ReturnsInHanded a C os f .any (fun w args => (s.pre enc C.prog fn conds apart w args ∧ X w args) ∧ sizedMet enc C.prog fn s apart w args) ((s.at F).post enc C.prog fn apart fresh handsOn again) := by
  refine returnsInHanded_of_calls own started noInit witness ?_
  intro w tape i _ _ _ hok hpre hholds
  obtain ⟨_, _, _, fn', hfn', _, _, _, _, hval⟩ := hok
  have e : fn' = fn := Option.some.inj (hfn'.symm.trans hfn)
  subst e
  obtain ⟨⟨hp, hx⟩, hz⟩ := hpre
  obtain ⟨ds, gs, before, hw, hc, hkk⟩ := (OpenSpec.pre_some hk conds apart _ _).1 hp
  have hw' := DataW.Whole.of_heap (w' := w.forCall tape i) (by rfl) hw
  refine (contract (w.forCall tape i) w.heap.size i.args ds gs before hval hw' hkk (hX _ _ _ (by rfl) hx)).mono fun e W' ⟨v, he, hp⟩ => ?_
  subst he
  exact ChangeSpec.post_blind hp
/-- A start that meets such a row. -/
theorem cond_start {H : Type} {enc : TypeId × Value → H} {C : Checked} {os : Os} {f : FuncId} {fn : Func} {s : OpenSpec} {k : (H : Type) → List (DataW H) → Bool} (hk : s.cond = some k) {apart : Bool} {X : World → Array Value → Prop} (w0 : World) (args : Array Value) (fuel : Nat) (hos : w0.os = os)
    (hsh : (w0.forCall (fun _ _ => 0) ⟨#[], args, []⟩).Shaped C.prog)
    (hok : Input.okWideB C.prog (w0.forCall (fun _ _ => 0) ⟨#[], args, []⟩) f ⟨#[], args, []⟩ = true)
    {x : List (DataW H) × List (DataW H) × List MemPlace} (hx : DataW.whole enc C.prog (w0.forCall (fun _ _ => 0) ⟨#[], args, []⟩).memory fn.params.toList s.vars apart args.toList fuel = some x) (hkk : k H (x.1 ++ x.2.1) = true)
    (hsz : s.bare.sizedB enc C.prog fn apart (w0.forCall (fun _ _ => 0) ⟨#[], args, []⟩).memory args fuel = true)
    (hX : X (w0.forCall (fun _ _ => 0) ⟨#[], args, []⟩).memory args) :
    ∃ (w : World) (tape : Tape) (i : Input), w.os = os ∧ (w.forCall tape i).Shaped C.prog ∧ i.vars = [] ∧ Input.okWide C.prog (w.forCall tape i) .any w.heap.size f i ∧
      ((s.pre enc C.prog fn [] apart (w.forCall tape i).memory i.args ∧ X (w.forCall tape i).memory i.args) ∧ sizedMet enc C.prog fn s apart (w.forCall tape i).memory i.args) ∧ ({} : Assume).holds C.prog (lone (Frame.enter C.prog f i.args .normal) [] (w.forCall tape i)) :=
  ⟨w0, fun _ _ => 0, ⟨#[], args, []⟩, hos, hsh, (Input.okWide_of_okWideB (base := 0) hok).1, (Input.okWide_of_okWideB hok).2,
    ⟨⟨(OpenSpec.pre_some hk [] apart _ _).2 ⟨x.1, x.2.1, x.2.2, DataW.Whole_of_whole hx, rfl, hkk⟩, hX⟩, sizedMet_of_sizedB hsz⟩, by
    simp only [Assume.holds]
    exact ⟨by simp, by simp, by simp, by simp, by simp⟩⟩
theorem u52 : Tryz.prog.underlying 69 = some (.int .u32) := by kernel_rfl
theorem u21 : Tryz.prog.underlying 21 = some (.int .i32) := by kernel_rfl
theorem u53 : Tryz.prog.underlying 73 = some (.slice 104) := by kernel_rfl
theorem c86 : Tryz.prog.cellsOf 104 = 2 := by kernel_rfl
theorem c55 : Tryz.prog.cellsOf 75 = 2 := by kernel_rfl
theorem c53 : Tryz.prog.cellsOf 73 = 1 := by kernel_rfl
theorem c52 : Tryz.prog.cellsOf 69 = 1 := by kernel_rfl
theorem c21 : Tryz.prog.cellsOf 21 = 1 := by kernel_rfl
theorem c77 : Tryz.prog.cellsOf 100 = 5 := by kernel_rfl
theorem c79 : Tryz.prog.cellsOf 102 = 10 := by kernel_rfl
theorem c57 : Tryz.prog.cellsOf 78 = 3 := by kernel_rfl
theorem c26 : Tryz.prog.cellsOf 24 = 1 := by kernel_rfl
theorem c27 : Tryz.prog.cellsOf 25 = 1 := by kernel_rfl
theorem c28 : Tryz.prog.cellsOf 26 = 1 := by kernel_rfl
theorem c30 : Tryz.prog.cellsOf 28 = 4 := by kernel_rfl
theorem s86 : flds2 Tryz.prog 104 = some [(9, 0), (69, 1)] := by kernel_rfl
theorem s55 : flds2 Tryz.prog 75 = some [(73, 0), (69, 1)] := by kernel_rfl
theorem s77 : flds2 Tryz.prog 100 = some [(3, 0), (3, 1), (3, 2), (21, 3), (3, 4)] := by kernel_rfl
theorem s79 : flds2 Tryz.prog 102 = some [(3, 0), (9, 1), (100, 2), (75, 7), (3, 9)] := by kernel_rfl
theorem s57 : flds2 Tryz.prog 78 = some [(9, 0), (75, 1)] := by kernel_rfl
theorem s30 : flds2 Tryz.prog 28 = some [(24, 0), (24, 1), (25, 2), (26, 3)] := by kernel_rfl
section
variable {H : Type} {enc : TypeId × Value → H} {W : World} {base n : Nat} {sp : Nat → Bool} {held : Bool} {cs : List Value} {y : DataW H × List MemPlace}
theorem list2 {α : Type} {ys : List α} {a b : α} (hl : ys.length = 2) (h0 : ys[0]? = some a) (h1 : ys[1]? = some b) : ys = [a, b] := by
  match ys, hl with
  | [x, y], _ =>
    simp only [List.getElem?_cons_zero, List.getElem?_cons_succ, Option.some.injEq] at h0 h1
    subst h0 h1
    rfl
/-- What is known of a term, its cells, its bulk. -/
def QT (t : ByteArray × Nat) (cs : List Value) (k : Nat) : Prop := cs = encT t ∧ t.1.size ≤ maxLen ∧ t.2 < 4294967296 ∧ k = t.1.size + 3
theorem open_term (h : DataW.trod enc Tryz.prog W base sp held n 104 cs = some y) : ∃ t, QT t cs (Rows.uptoBulk y.1) := by
  obtain ⟨ys, m, hy, hl, hyn, hys⟩ := open_struct s86 h
  obtain ⟨y0, g0, t0⟩ := hys 0 _ rfl
  obtain ⟨y1, g1, t1⟩ := hys 1 _ rfl
  have hys2 := list2 hyn g0 g1
  rw [c86] at hl
  match cs, hl with
  | [v, u], _ =>
    rw [show Tryz.prog.cellsOf (9, 0).1 = 1 from c9] at t0
    rw [show Tryz.prog.cellsOf (69, 1).1 = 1 from c52] at t1
    obtain ⟨s, e0, r0, hs⟩ := DataW.trod_string u9 t0
    obtain ⟨k, e1, r1, hk⟩ := DataW.trod_int u52 t1
    have hb := bounds_u32 hk
    cases e0; cases e1
    refine ⟨(s, k.toNat), ?_, hs, by show k.toNat < _; omega, ?_⟩
    · unfold encT
      simp only [List.cons.injEq, Value.int.injEq, true_and, and_true]
      omega
    · rw [hy, hys2, r0, r1]
      simp only [List.map_cons, List.map_nil, Rows.uptoBulk, Rows.uptoBulkAll]
      rw [Array.length_toList]
      show s.data.size + 1 + (1 + 0) + 1 = s.data.size + 3
      omega
/-- What is known of a Lin. -/
structure LinK (h : Hp) (p : Option Addr) (l c : Nat) (x : Lin) (k : Nat) : Prop where
  vw : VwT h p l x.terms
  names : ∀ t, t ∈ x.terms → t.1.size ≤ maxLen
  num : LinNum x
  many : 3 * x.terms.length ≤ k
  size : (wLin x).length ≤ 2 * k
  cap : l ≤ c
theorem wTerms_len : ∀ (ts : Tms) (ks : List Nat), ks.length = ts.length → (∀ i, (hi : i < ts.length) → (hk : i < ks.length) → ks[i] = ts[i].1.size + 3) → (ts.flatMap wTerm).length = 2 * ks.sum - (ts.map (·.1.size)).sum ∧ (ts.map (·.1.size)).sum + 3 * ts.length = ks.sum
  | [], ks, hl, _ => by
    have : ks = [] := List.length_eq_zero_iff.1 hl
    subst this
    simp
  | t :: ts, [], hl, _ => by simp at hl
  | t :: ts, k :: ks, hl, h => by
    have h0 := h 0 (by simp) (by simp)
    simp only [List.getElem_cons_zero] at h0
    obtain ⟨i1, i2⟩ := wTerms_len ts ks (by simpa using hl) (fun i hi hk => h (i + 1) (by simpa using hi) (by simpa using hk))
    have hw : (wTerm t).length = t.1.size + 6 := by
      unfold wTerm wText
      simp only [List.length_append, bytB_length]
      have : t.1.data.toList.length = t.1.size := by simp
      omega
    rw [List.flatMap_cons, List.length_append, List.sum_cons, List.map_cons, List.sum_cons, List.length_cons, hw, i1]
    omega
theorem open_lin (h : DataW.trod enc Tryz.prog W base sp held n 75 cs = some y) :
    ∃ p l c x, cs = [.slice p l c, .int .u32 ((x : Lin).num : Int)] ∧ LinK W.heap p l c x (Rows.uptoBulk y.1) := by
  obtain ⟨ys, m, hy, hl, hyn, hys⟩ := open_struct s55 h
  obtain ⟨y0, g0, t0⟩ := hys 0 _ rfl
  obtain ⟨y1, g1, t1⟩ := hys 1 _ rfl
  have hys2 := list2 hyn g0 g1
  rw [c55] at hl
  match cs, hl with
  | [v, u], _ =>
    rw [show Tryz.prog.cellsOf (73, 0).1 = 1 from c53] at t0
    rw [show Tryz.prog.cellsOf (69, 1).1 = 1 from c52] at t1
    obtain ⟨p, l, c, us, ks, e0, ls, hsum⟩ := open_slice u53 c86 QT (fun cs y n h => open_term h) t0
    obtain ⟨k, e1, r1, hk⟩ := DataW.trod_int u52 t1
    have hb := bounds_u32 hk
    cases e0; cases e1
    have hkk : ((k.toNat : Nat) : Int) = k := by omega
    have hbulk : Rows.uptoBulk y.1 = Rows.uptoBulk y0.1 + 2 := by
      rw [hy, hys2, r1]
      simp only [List.map_cons, List.map_nil, Rows.uptoBulk, Rows.uptoBulkAll]
    have hq : ∀ i, (hi : i < us.length) → (hk : i < ks.length) → us[i].1.size ≤ maxLen ∧ us[i].2 < 4294967296 ∧ ks[i] = us[i].1.size + 3 := by
      intro i hi hk
      obtain ⟨a, cs, _, _, _, q2, q3, q4⟩ := ls.cells i hi hk
      exact ⟨q2, q3, q4⟩
    have hkl := ls.lenk
    obtain ⟨w1, w2⟩ := wTerms_len us ks hkl (fun i hi hk => (hq i hi hk).2.2)
    refine ⟨p, l, c, ⟨us, k.toNat⟩, by rw [show ((⟨us, k.toNat⟩ : Lin).num : Int) = k from hkk], ⟨ls.len, fun i hi => ?_⟩, ?_, ⟨?_, by show k.toNat < _; omega⟩, ?_, ?_, ls.cap⟩
    · have hi : i < us.length := hi
      obtain ⟨a, cs, ha, hc, q1, _⟩ := ls.cells i hi (by omega)
      rw [q1] at hc
      exact ⟨a, ha, hc⟩
    · intro t (ht : t ∈ us)
      obtain ⟨i, hi, rfl⟩ := List.getElem_of_mem ht
      exact (hq i hi (by omega)).1
    · intro t (ht : t ∈ us)
      obtain ⟨i, hi, rfl⟩ := List.getElem_of_mem ht
      exact (hq i hi (by omega)).2.1
    · show 3 * us.length ≤ _
      omega
    · show (bytB us.length 2 ++ (us.flatMap wTerm ++ bytB k.toNat 4)).length ≤ _
      rw [List.length_append, List.length_append, bytB_length, bytB_length, w1]
      omega
theorem list5 {α : Type} {ys : List α} {a b c d e : α} (hl : ys.length = 5) (h0 : ys[0]? = some a) (h1 : ys[1]? = some b) (h2 : ys[2]? = some c) (h3 : ys[3]? = some d) (h4 : ys[4]? = some e) : ys = [a, b, c, d, e] := by
  match ys, hl with
  | [x0, x1, x2, x3, x4], _ =>
    simp only [List.getElem?_cons_zero, List.getElem?_cons_succ, Option.some.injEq] at h0 h1 h2 h3 h4
    subst h0 h1 h2 h3 h4
    rfl
theorem list4 {α : Type} {ys : List α} {a b c d : α} (hl : ys.length = 4) (h0 : ys[0]? = some a) (h1 : ys[1]? = some b) (h2 : ys[2]? = some c) (h3 : ys[3]? = some d) : ys = [a, b, c, d] := by
  match ys, hl with
  | [x0, x1, x2, x3], _ =>
    simp only [List.getElem?_cons_zero, List.getElem?_cons_succ, Option.some.injEq] at h0 h1 h2 h3
    subst h0 h1 h2 h3
    rfl
theorem open_ins (h : DataW.trod enc Tryz.prog W base sp held n 100 cs = some y) : ∃ i : Ins, cs = insC i ∧ Sm i.op ∧ Rows.uptoBulk y.1 = 6 := by
  obtain ⟨ys, m, hy, hl, hyn, hys⟩ := open_struct s77 h
  obtain ⟨y0, g0, t0⟩ := hys 0 _ rfl
  obtain ⟨y1, g1, t1⟩ := hys 1 _ rfl
  obtain ⟨y2, g2, t2⟩ := hys 2 _ rfl
  obtain ⟨y3, g3, t3⟩ := hys 3 _ rfl
  obtain ⟨y4, g4, t4⟩ := hys 4 _ rfl
  have hys5 := list5 hyn g0 g1 g2 g3 g4
  rw [c77] at hl
  match cs, hl with
  | [v0, v1, v2, v3, v4], _ =>
    rw [show Tryz.prog.cellsOf (3, 0).1 = 1 from c3] at t0
    rw [show Tryz.prog.cellsOf (3, 1).1 = 1 from c3] at t1
    rw [show Tryz.prog.cellsOf (3, 2).1 = 1 from c3] at t2
    rw [show Tryz.prog.cellsOf (21, 3).1 = 1 from c21] at t3
    rw [show Tryz.prog.cellsOf (3, 4).1 = 1 from c3] at t4
    obtain ⟨k0, e0, r0, w0⟩ := DataW.trod_int u3 t0
    obtain ⟨k1, e1, r1, w1⟩ := DataW.trod_int u3 t1
    obtain ⟨k2, e2, r2, w2⟩ := DataW.trod_int u3 t2
    obtain ⟨k3, e3, r3, w3⟩ := DataW.trod_int u21 t3
    obtain ⟨k4, e4, r4, w4⟩ := DataW.trod_int u3 t4
    cases e0; cases e1; cases e2; cases e3; cases e4
    refine ⟨⟨k0, k1, k2, k3, k4⟩, rfl, bounds_i64 w0, ?_⟩
    rw [hy, hys5, r0, r1, r2, r3, r4]
    simp only [List.map_cons, List.map_nil, Rows.uptoBulk, Rows.uptoBulkAll]
/-- What is known of an item. -/
def QI (h : Hp) (x : Itm) (cs : List Value) (k : Nat) : Prop := ∃ p l c b, cs = encI p l c x ∧ LinK h p l c x.e b ∧ x.name.size ≤ maxLen ∧ Sm x.inst.op ∧ k = x.name.size + b + 10
theorem open_item (h : DataW.trod enc Tryz.prog W base sp held n 102 cs = some y) : ∃ x, QI W.heap x cs (Rows.uptoBulk y.1) := by
  obtain ⟨ys, m, hy, hl, hyn, hys⟩ := open_struct s79 h
  obtain ⟨y0, g0, t0⟩ := hys 0 _ rfl
  obtain ⟨y1, g1, t1⟩ := hys 1 _ rfl
  obtain ⟨y2, g2, t2⟩ := hys 2 _ rfl
  obtain ⟨y3, g3, t3⟩ := hys 3 _ rfl
  obtain ⟨y4, g4, t4⟩ := hys 4 _ rfl
  have hys5 := list5 hyn g0 g1 g2 g3 g4
  rw [c79] at hl
  match cs, hl with
  | [v0, v1, v2, v3, v4, v5, v6, v7, v8, v9], _ =>
    rw [show Tryz.prog.cellsOf (3, 0).1 = 1 from c3] at t0
    rw [show Tryz.prog.cellsOf (9, 1).1 = 1 from c9] at t1
    rw [show Tryz.prog.cellsOf (100, 2).1 = 5 from c77] at t2
    rw [show Tryz.prog.cellsOf (75, 7).1 = 2 from c55] at t3
    rw [show Tryz.prog.cellsOf (3, 9).1 = 1 from c3] at t4
    obtain ⟨k0, e0, r0, w0⟩ := DataW.trod_int u3 t0
    obtain ⟨s, e1, r1, w1⟩ := DataW.trod_string u9 t1
    obtain ⟨i, e2, w2, r2⟩ := open_ins t2
    obtain ⟨p, l, c, x, e3, lk⟩ := open_lin t3
    obtain ⟨k4, e4, r4, w4⟩ := DataW.trod_int u3 t4
    cases e0; cases e1; cases e2; cases e3; cases e4
    refine ⟨⟨k0, s, i, x, k4⟩, p, l, c, _, rfl, lk, w1, w2, ?_⟩
    rw [hy, hys5, r0, r1, r4]
    simp only [List.map_cons, List.map_nil, Rows.uptoBulk, Rows.uptoBulkAll, r2]
    rw [Array.length_toList]
    show 1 + (s.data.size + 1 + (6 + (Rows.uptoBulk y3.1 + (1 + 0)))) + 1 = s.data.size + Rows.uptoBulk y3.1 + 10
    omega
def QE (h : Hp) (x : Eqn) (cs : List Value) (k : Nat) : Prop := ∃ p l c b, cs = encE p l c x ∧ LinK h p l c x.2 b ∧ x.1.size ≤ maxLen ∧ k = x.1.size + b + 2
theorem open_equ (h : DataW.trod enc Tryz.prog W base sp held n 78 cs = some y) : ∃ x, QE W.heap x cs (Rows.uptoBulk y.1) := by
  obtain ⟨ys, m, hy, hl, hyn, hys⟩ := open_struct s57 h
  obtain ⟨y0, g0, t0⟩ := hys 0 _ rfl
  obtain ⟨y1, g1, t1⟩ := hys 1 _ rfl
  have hys2 := list2 hyn g0 g1
  rw [c57] at hl
  match cs, hl with
  | [v0, v1, v2], _ =>
    rw [show Tryz.prog.cellsOf (9, 0).1 = 1 from c9] at t0
    rw [show Tryz.prog.cellsOf (75, 1).1 = 2 from c55] at t1
    obtain ⟨s, e1, r1, w1⟩ := DataW.trod_string u9 t0
    obtain ⟨p, l, c, x, e3, lk⟩ := open_lin t1
    cases e1; cases e3
    refine ⟨(s, x), p, l, c, _, rfl, lk, w1, ?_⟩
    rw [hy, hys2, r1]
    simp only [List.map_cons, List.map_nil, Rows.uptoBulk, Rows.uptoBulkAll]
    rw [Array.length_toList]
    show (s.data.size + 1 + (Rows.uptoBulk y1.1 + 0)) + 1 = s.data.size + Rows.uptoBulk y1.1 + 2
    omega
def QS (x : ByteArray) (cs : List Value) (k : Nat) : Prop := cs = [.string x] ∧ x.size ≤ maxLen ∧ k = x.size + 1
theorem open_str (h : DataW.trod enc Tryz.prog W base sp held n 9 cs = some y) : ∃ x, QS x cs (Rows.uptoBulk y.1) := by
  obtain ⟨s, e1, r1, w1⟩ := DataW.trod_string u9 h
  refine ⟨s, e1, w1, ?_⟩
  rw [r1]
  simp only [Rows.uptoBulk]
  rw [Array.length_toList]
  rfl
theorem sum_le {α : Type} (f : α → Nat) (m : Nat) : ∀ (us : List α) (ks : List Nat), ks.length = us.length → (∀ i, (hi : i < us.length) → (hk : i < ks.length) → f us[i] ≤ m * ks[i]) → (us.map f).sum ≤ m * ks.sum
  | [], ks, hl, _ => by simp
  | u :: us, [], hl, _ => by simp at hl
  | u :: us, k :: ks, hl, h => by
    have h0 := h 0 (by simp) (by simp)
    simp only [List.getElem_cons_zero] at h0
    have ih := sum_le f m us ks (by simpa using hl) (fun i hi hk => h (i + 1) (by simpa using hi) (by simpa using hk))
    rw [List.map_cons, List.sum_cons, List.sum_cons, Nat.mul_add]
    omega
theorem wItm_len {h : Hp} {x : Itm} {cs : List Value} {k : Nat} (q : QI h x cs k) : (wItm x).length ≤ 2 * k := by
  obtain ⟨p, l, c, b, _, lk, _, _, rfl⟩ := q
  have h1 := lk.size
  have ht : (wText x.name).length = x.name.size + 2 := by
    unfold wText
    rw [List.length_append, bytB_length]
    have : x.name.data.toList.length = x.name.size := by simp
    omega
  have hi : ∀ (n : Int) (w : Nat), (wInt n w).length = w := fun n w => by unfold wInt; rw [bytB_length]
  unfold wItm
  rw [List.length_append, hi]
  split
  · omega
  · split
    · rw [List.length_append, List.length_append, List.length_append, List.length_append, hi, hi, hi, hi]
      split
      · omega
      · simp
        omega
    · split
      · rw [hi]; omega
      · split
        · omega
        · split
          · rw [hi]; omega
          · simp
            omega
theorem wEqu_len {h : Hp} {x : Eqn} {cs : List Value} {k : Nat} (q : QE h x cs k) : (wEqu x).length ≤ 2 * k := by
  obtain ⟨p, l, c, b, _, lk, _, rfl⟩ := q
  have h1 := lk.size
  unfold wEqu wText
  rw [List.length_append, List.length_append, bytB_length]
  have : x.1.data.toList.length = x.1.size := by simp
  omega
theorem wText_len {x : ByteArray} {cs : List Value} {k : Nat} (q : QS x cs k) : (wText x).length ≤ 2 * k := by
  obtain ⟨_, _, rfl⟩ := q
  unfold wText
  rw [List.length_append, bytB_length]
  have : x.data.toList.length = x.size := by simp
  omega
theorem fm_len {α : Type} (f : α → Bt) (us : List α) : (us.flatMap f).length = (us.map fun u => (f u).length).sum := by rw [List.length_flatMap]
end
end Go.Sx.Ob

set_option linter.unusedVariables false
set_option linter.unusedSimpArgs false
set_option maxRecDepth 100000
namespace Go.Sx.Ob
open Go.Proofs Go.Proofs.YtnjohginlglonaaGreatDoor
open Go.ChangeShapes Go.WideShapes Go.ChangeAt Go.WideMaps Go.WideElems Go.RowKit
theorem get_sum : ∀ (ks : List Nat) (i : Nat) (h : i < ks.length), ks[i] ≤ ks.sum
  | k :: ks, 0, _ => by simp
  | k :: ks, i + 1, h => by
    have := get_sum ks i (by simpa using h)
    simp only [List.getElem_cons_succ, List.sum_cons]
    omega
theorem ones_sum {α : Type} : ∀ us : List α, (us.map fun _ => 1).sum = us.length
  | [] => rfl
  | u :: us => by rw [List.map_cons, List.sum_cons, ones_sum us, List.length_cons, Nat.add_comm]
theorem mem_get {α : Type} {P : α → Prop} {us : List α} (h : ∀ i, (hi : i < us.length) → P us[i]) : ∀ x, x ∈ us → P x := fun x hx => by
  obtain ⟨i, hi, rfl⟩ := List.getElem_of_mem hx
  exact h i hi
theorem LinK.at {h : Hp} {p : Option Addr} {l c : Nat} {x : Lin} {k : Nat} (q : LinK h p l c x k) (hk : k ≤ 2 ^ 60) : LinAt h p l x := ⟨q.vw, by have := q.many; omega, q.names⟩
theorem itms_at {h : Hp} {p : Option Addr} {l c : Nat} {us : List Itm} {ks : List Nat} (s : LsIn (QI h) h 10 p l c us ks) (hs : ks.sum ≤ 2 ^ 58) : VwI h p l us ∧ (∀ x, x ∈ us → LinNum x.e) ∧ (us.flatMap wItm).length ≤ 2 * ks.sum := by
  have hl := s.lenk
  have q : ∀ i, (hi : i < us.length) → ∃ a cs, p = some a ∧ cellsAt h (a.add (i * 10)) 0 cs ∧ QI h us[i] cs ks[i] := fun i hi => s.cells i hi (by omega)
  have one : ∀ i, (hi : i < us.length) → 1 ≤ 1 * ks[i] := fun i hi => by
    obtain ⟨_, _, _, _, _, _, _, _, _, _, _, _, hk⟩ := q i hi
    omega
  have hm : us.length ≤ ks.sum := by
    have := sum_le (fun _ => 1) 1 us ks hl (fun i hi hk => one i hi)
    rw [ones_sum] at this
    omega
  refine ⟨⟨s.len, by omega, fun i hi => ?_⟩, mem_get fun i hi => ?_, ?_⟩
  · obtain ⟨a, cs, ha, hc, p', l', c', b, rfl, lk, hn, ho, hk⟩ := q i hi
    have := get_sum ks i (by omega)
    exact ⟨a, p', l', c', ha, hc, lk.at (by omega), hn, ho⟩
  · obtain ⟨a, cs, ha, hc, p', l', c', b, rfl, lk, hn, ho, hk⟩ := q i hi
    exact lk.num
  · rw [fm_len]
    refine sum_le _ 2 us ks hl (fun i hi hk => ?_)
    obtain ⟨a, cs, ha, hc, hq⟩ := q i hi
    exact wItm_len hq
theorem equs_at {h : Hp} {p : Option Addr} {l c : Nat} {us : List Eqn} {ks : List Nat} (s : LsIn (QE h) h 3 p l c us ks) (hs : ks.sum ≤ 2 ^ 58) : VwE h p l us ∧ (∀ x, x ∈ us → LinNum x.2) ∧ (us.flatMap wEqu).length ≤ 2 * ks.sum := by
  have hl := s.lenk
  have q : ∀ i, (hi : i < us.length) → ∃ a cs, p = some a ∧ cellsAt h (a.add (i * 3)) 0 cs ∧ QE h us[i] cs ks[i] := fun i hi => s.cells i hi (by omega)
  have one : ∀ i, (hi : i < us.length) → 1 ≤ 1 * ks[i] := fun i hi => by
    obtain ⟨_, _, _, _, _, _, _, _, _, _, _, hk⟩ := q i hi
    omega
  have hm : us.length ≤ ks.sum := by
    have := sum_le (fun _ => 1) 1 us ks hl (fun i hi hk => one i hi)
    rw [ones_sum] at this
    omega
  refine ⟨⟨s.len, by omega, fun i hi => ?_⟩, mem_get fun i hi => ?_, ?_⟩
  · obtain ⟨a, cs, ha, hc, p', l', c', b, rfl, lk, hn, hk⟩ := q i hi
    have := get_sum ks i (by omega)
    exact ⟨a, p', l', c', ha, hc, lk.at (by omega), hn⟩
  · obtain ⟨a, cs, ha, hc, p', l', c', b, rfl, lk, hn, hk⟩ := q i hi
    exact lk.num
  · rw [fm_len]
    refine sum_le _ 2 us ks hl (fun i hi hk => ?_)
    obtain ⟨a, cs, ha, hc, hq⟩ := q i hi
    exact wEqu_len hq
theorem strs_at {h : Hp} {p : Option Addr} {l c : Nat} {us : List ByteArray} {ks : List Nat} (s : LsIn QS h 1 p l c us ks) (hs : ks.sum ≤ 2 ^ 58) : VwS h p l us ∧ (us.flatMap wText).length ≤ 2 * ks.sum := by
  have hl := s.lenk
  have q : ∀ i, (hi : i < us.length) → ∃ a cs, p = some a ∧ cellsAt h (a.add (i * 1)) 0 cs ∧ QS us[i] cs ks[i] := fun i hi => s.cells i hi (by omega)
  have one : ∀ i, (hi : i < us.length) → 1 ≤ 1 * ks[i] := fun i hi => by
    obtain ⟨_, _, _, _, _, _, hk⟩ := q i hi
    omega
  have hm : us.length ≤ ks.sum := by
    have := sum_le (fun _ => 1) 1 us ks hl (fun i hi hk => one i hi)
    rw [ones_sum] at this
    omega
  refine ⟨⟨s.len, by omega, fun i hi => ?_⟩, ?_⟩
  · obtain ⟨a, cs, ha, hc, rfl, hn, hk⟩ := q i hi
    exact ⟨a, ha, hc, hn⟩
  · rw [fm_len]
    refine sum_le _ 2 us ks hl (fun i hi hk => ?_)
    obtain ⟨a, cs, ha, hc, hq⟩ := q i hi
    exact wText_len hq
theorem itms_t {h : Hp} {p : Option Addr} {l c : Nat} {us : List Itm} {ks : List Nat} (s : LsIn (QI h) h 10 p l c us ks) : (∀ x, x ∈ us → x.e.terms.length ≤ ks.sum) ∧ us.length ≤ ks.sum := by
  have hl := s.lenk
  have q : ∀ i, (hi : i < us.length) → ∃ a cs, p = some a ∧ cellsAt h (a.add (i * 10)) 0 cs ∧ QI h us[i] cs ks[i] := fun i hi => s.cells i hi (by omega)
  refine ⟨mem_get fun i hi => ?_, ?_⟩
  · obtain ⟨a, cs, ha, hc, p', l', c', b, rfl, lk, hn, ho, hk⟩ := q i hi
    have := get_sum ks i (by omega)
    have := lk.many
    omega
  · have := sum_le (fun _ => 1) 1 us ks hl (fun i hi hk => by
      obtain ⟨_, _, _, _, _, _, _, _, _, _, _, _, hk⟩ := q i hi
      omega)
    rw [ones_sum] at this
    omega
theorem equs_t {h : Hp} {p : Option Addr} {l c : Nat} {us : List Eqn} {ks : List Nat} (s : LsIn (QE h) h 3 p l c us ks) : (∀ x, x ∈ us → x.2.terms.length ≤ ks.sum) ∧ us.length ≤ ks.sum := by
  have hl := s.lenk
  have q : ∀ i, (hi : i < us.length) → ∃ a cs, p = some a ∧ cellsAt h (a.add (i * 3)) 0 cs ∧ QE h us[i] cs ks[i] := fun i hi => s.cells i hi (by omega)
  refine ⟨mem_get fun i hi => ?_, ?_⟩
  · obtain ⟨a, cs, ha, hc, p', l', c', b, rfl, lk, hn, hk⟩ := q i hi
    have := get_sum ks i (by omega)
    have := lk.many
    omega
  · have := sum_le (fun _ => 1) 1 us ks hl (fun i hi hk => by
      obtain ⟨_, _, _, _, _, _, _, _, _, _, _, hk⟩ := q i hi
      omega)
    rw [ones_sum] at this
    omega
theorem strs_t {h : Hp} {p : Option Addr} {l c : Nat} {us : List ByteArray} {ks : List Nat} (s : LsIn QS h 1 p l c us ks) : us.length ≤ ks.sum := by
  have hl := s.lenk
  have q : ∀ i, (hi : i < us.length) → ∃ a cs, p = some a ∧ cellsAt h (a.add (i * 1)) 0 cs ∧ QS us[i] cs ks[i] := fun i hi => s.cells i hi (by omega)
  have := sum_le (fun _ => 1) 1 us ks hl (fun i hi hk => by
    obtain ⟨_, _, _, _, _, _, hk⟩ := q i hi
    omega)
  rw [ones_sum] at this
  omega
structure UntIn (h : Hp) (a b c d : Sli) (u : Unt) (N : Nat) : Prop where
  at_ : UntAt h a b c d u
  num : UntNum u
  size : (wUnt u).length ≤ 2 * N + 13
  small : (∀ x, x ∈ u.text → x.e.terms.length ≤ N) ∧ (∀ x, x ∈ u.data → x.e.terms.length ≤ N) ∧ (∀ x, x ∈ u.equs → x.2.terms.length ≤ N) ∧ u.globs.length ≤ N ∧ u.text.length ≤ N ∧ u.data.length ≤ N ∧ u.equs.length ≤ N
section
variable {H : Type} {enc : TypeId × Value → H} {W : World} {base n : Nat} {sp : Nat → Bool} {held : Bool} {cs : List Value} {y : DataW H × List MemPlace}
theorem open_unit_cells (h : DataW.trod enc Tryz.prog W base sp held n 28 cs = some y) (hN : Rows.uptoBulk y.1 ≤ 2 ^ 50) : ∃ a b c d u, cs = [Sli.v a, Sli.v b, Sli.v c, Sli.v d] ∧ UntIn W.heap a b c d u (Rows.uptoBulk y.1) := by
  obtain ⟨ys, m, hy, hl, hyn, hys⟩ := open_struct s30 h
  obtain ⟨y0, g0, t0⟩ := hys 0 _ rfl
  obtain ⟨y1, g1, t1⟩ := hys 1 _ rfl
  obtain ⟨y2, g2, t2⟩ := hys 2 _ rfl
  obtain ⟨y3, g3, t3⟩ := hys 3 _ rfl
  have hys4 := list4 hyn g0 g1 g2 g3
  rw [c30] at hl
  match cs, hl with
  | [v0, v1, v2, v3], _ =>
    rw [show Tryz.prog.cellsOf (24, 0).1 = 1 from c26] at t0
    rw [show Tryz.prog.cellsOf (24, 1).1 = 1 from c26] at t1
    rw [show Tryz.prog.cellsOf (25, 2).1 = 1 from c27] at t2
    rw [show Tryz.prog.cellsOf (26, 3).1 = 1 from c28] at t3
    obtain ⟨p0, l0, k0, u0, b0, e0, s0, m0⟩ := open_slice und26 c79 (QI W.heap) (fun cs y n h => open_item h) t0
    obtain ⟨p1, l1, k1, u1, b1, e1, s1, m1⟩ := open_slice und26 c79 (QI W.heap) (fun cs y n h => open_item h) t1
    obtain ⟨p2, l2, k2, u2, b2, e2, s2, m2⟩ := open_slice und27 c57 (QE W.heap) (fun cs y n h => open_equ h) t2
    obtain ⟨p3, l3, k3, u3, b3, e3, s3, m3⟩ := open_slice und28 c9 QS (fun cs y n h => open_str h) t3
    cases e0; cases e1; cases e2; cases e3
    have hb : Rows.uptoBulk y.1 = Rows.uptoBulk y0.1 + Rows.uptoBulk y1.1 + Rows.uptoBulk y2.1 + Rows.uptoBulk y3.1 + 1 := by
      rw [hy, hys4]
      simp only [List.map_cons, List.map_nil, Rows.uptoBulk, Rows.uptoBulkAll]
      omega
    obtain ⟨x0, n0, w0⟩ := itms_at s0 (by omega)
    obtain ⟨x1, n1, w1⟩ := itms_at s1 (by omega)
    obtain ⟨x2, n2, w2⟩ := equs_at s2 (by omega)
    obtain ⟨x3, w3⟩ := strs_at s3 (by omega)
    refine ⟨⟨p0, l0, k0⟩, ⟨p1, l1, k1⟩, ⟨p2, l2, k2⟩, ⟨p3, l3, k3⟩, ⟨u0, u1, u2, u3⟩, rfl, ⟨x0, x1, x2, x3⟩, ⟨n0, n1, n2⟩, ?_, ⟨fun x hx => by have := (itms_t s0).1 x hx; omega, fun x hx => by have := (itms_t s1).1 x hx; omega, fun x hx => by have := (equs_t s2).1 x hx; omega, by have := strs_t s3; show u3.length ≤ _; omega, by have := (itms_t s0).2; show u0.length ≤ _; omega, by have := (itms_t s1).2; show u1.length ≤ _; omega, by have := (equs_t s2).2; show u2.length ≤ _; omega⟩⟩
    show (headL ++ (wCnt wItm u0 ++ (wCnt wItm u1 ++ (wCnt wEqu u2 ++ wCnt wText u3)))).length ≤ _
    unfold wCnt
    simp only [List.length_append, bytB_length]
    rw [show headL.length = 5 from rfl]
    omega
theorem open_unit {b0 : Nat} {v : Value} {d : DataW H} {ps : List MemPlace} (hval : Value.okWide Tryz.prog W .any b0 28 v) (h : DataW.Trod enc Tryz.prog W base sp held 28 v d ps) (hN : Rows.uptoBulk d ≤ 2 ^ 50) :
    ∃ a b c e u, v = untV a b c e ∧ UntIn W.heap a b c e u (Rows.uptoBulk d) := by
  have hval' : ∃ cs, v = .agg cs ∧ cs.size = Tryz.prog.cellsOf 28 := by
    unfold Value.okWide at hval
    cases hu : Tryz.prog.underlying 28 with
    | none => have := s30; unfold flds2 at this; rw [hu] at this; cases this
    | some td =>
      have := s30
      unfold flds2 at this
      rw [hu] at this hval
      simp only [Option.bind_some] at this
      split at this
      · obtain ⟨cs, h1, h2, _⟩ := hval
        exact ⟨cs, h1, h2⟩
      · cases this
  obtain ⟨cs, rfl, hsz⟩ := hval'
  obtain ⟨fuel, h⟩ := h
  have hlist : (Value.agg cs).cells.toList = cs.toList := rfl
  rw [hlist] at h
  obtain ⟨a, b, c, e, u, hcs, hu⟩ := open_unit_cells h hN
  refine ⟨a, b, c, e, u, ?_, hu⟩
  unfold untV
  congr 1
  apply Array.toList_inj.1
  rw [hcs]
end
end Go.Sx.Ob

set_option linter.unusedVariables false
set_option linter.unusedSimpArgs false
set_option maxRecDepth 100000
namespace Go.Sx.Ob
open Go.Proofs Go.Proofs.YtnjohginlglonaaGreatDoor
open Go.ChangeShapes Go.WideShapes Go.ChangeAt Go.WideMaps Go.WideElems Go.RowKit
end Go.Sx.Ob

set_option linter.unusedVariables false
set_option linter.unusedSimpArgs false
set_option maxRecDepth 100000
namespace Go.Sx.Ob
open Go.Proofs Go.Proofs.YtnjohginlglonaaGreatDoor
open Go.ChangeMaps
open Go.ChangeShapes Go.WideShapes Go.ChangeAt Go.WideMaps Go.WideElems Go.RowKit
theorem objectKept_small : (Tryz.f4.params.toList.all fun t => decide (t < Tryz.prog.types.size)) = true := by kernel_rfl
theorem objectKept_cell0 : Tryz.prog.inPlace 4 = Rows.objectKeptUptoRow.inPlace := by kernel_rfl
theorem objectKept_cell1 : Tryz.prog.unfollowed 4 = Rows.objectKeptUptoRow.unfollowed := by kernel_rfl
theorem objectKept_cell2 : Tryz.prog.recurses 4 = Rows.objectKeptUptoRow.recurses := by kernel_rfl
theorem objectKept_cell3 : Tryz.prog.varsNamed 4 = Rows.objectKeptUptoRow.named := by kernel_rfl
theorem objectKept_facts : joinedFacts Tryz.prog 4 Tryz.f4 (Rows.OpenSpec.upto Rows.objectKeptSpec).bare Rows.objectKeptUptoRow = true := by
  unfold joinedFacts
  rw [objectKept_cell0, objectKept_cell1, objectKept_cell2, objectKept_cell3]
  kernel_rfl
theorem objectKept_lifted (os : Os) (started : os.Started) (H : Type) (enc : TypeId × Value → H) (F : Stop.Interp) :
    ReturnsInHanded {} Tryz.checked os 4 .any (fun w args => ((Rows.OpenSpec.upto Rows.objectKeptSpec).pre enc Tryz.prog Tryz.f4 [] false w args ∧ laidMetH Tryz.prog Rows.objectKeptUptoRow.laid w) ∧ sizedMet enc Tryz.prog Tryz.f4 (Rows.OpenSpec.upto Rows.objectKeptSpec) false w args)
      (((Rows.OpenSpec.upto Rows.objectKeptSpec).at F).post enc Tryz.prog Tryz.f4 false true false false) := by
  refine ret_cond (k := Rows.uptoSmall) rfl (C := Tryz.checked) (X := fun w _ => laidMetH Tryz.prog Rows.objectKeptUptoRow.laid w) (fun _ _ _ hh h => h.of_heap hh) ownK started (by kernel_rfl) Tryz.func4
    (cond_start (k := Rows.uptoSmall) rfl (C := Tryz.checked) (os := os) (X := fun w _ => laidMetH Tryz.prog Rows.objectKeptUptoRow.laid w) (World.doorLaid Tryz.prog 400 os) #[.agg #[.slice none 0 0, .slice none 0 0, .slice none 0 0, .slice none 0 0]] 8 rfl (World.shaped_of_RefB (by kernel_rfl) (by kernel_rfl)) (by kernel_rfl) (x := ([.agg [.nil, .nil, .nil, .nil]], [], [])) (by kernel_rfl) rfl (by kernel_rfl) (door_met os _)) ?_
  intro W base args ds gs before hval0 hW hk hL
  have hval : ∀ (j : Nat) t v, Tryz.f4.params[j]? = some t → args[j]? = some v → Value.okWide Tryz.prog W .any base t v := hval0
  have hW' := hW
  obtain ⟨p, q, hA0, hV, rfl, hfz, hnd⟩ := hW
  have hA : DataW.TrodAll enc Tryz.prog W 0 (fun _ => true) true Tryz.f4.params.toList args.toList ds p := hA0
  have hpf : Tryz.f4.params = #[28] := by kernel_rfl
  rw [hpf] at hA hval
  clear hA0 hval0
  obtain ⟨v0, vs0, d0, ds0, p0, q0, hv0, rfl, rfl, t0, hA1⟩ := trodAll_cons hA
  obtain ⟨rfl, rfl, rfl⟩ := trodAll_nil hA1
  obtain ⟨args⟩ := args
  simp only at hv0
  subst hv0
  have hk := of_decide_eq_true hk
  have hkb := hk
  simp only [List.append_nil, List.nil_append, List.cons_append] at hkb
  obtain ⟨rfl, rfl⟩ := trodVars_none hV
  obtain ⟨a0, b0, c0, e0, x0, rfl, h0⟩ := open_unit (hval 0 28 v0 rfl rfl) t0 (by simp only [Rows.uptoBulkAll] at hkb; omega)
  simp only [List.append_nil] at hW'
  simp only [List.append_nil, List.nil_append, List.cons_append, Rows.uptoBulkAll] at hk
  refine (calls_of (kept_hc (laid_of hL).1 (laid_of hL).2 h0.at_ h0.num ⟨fun x hx => by have := h0.small.1 x hx; omega, fun x hx => by have := h0.small.2.1 x hx; omega, fun x hx => by have := h0.small.2.2.1 x hx; omega, by have := h0.small.2.2.2.1; omega, by have := h0.small.2.2.2.2.1; omega, by have := h0.small.2.2.2.2.2.1; omega, by have := h0.small.2.2.2.2.2.2; omega⟩ (by have := h0.size; omega)) (fun _ _ h => h.2)).mono fun e W' ⟨v, he, hB, hv, _⟩ => ?_
  subst he hv
  exact ⟨_, rfl, post_old rfl hW' (fun _ _ _ => trodAll_mk1 (shut_bool u4 _)) rfl rfl (fun t ht => of_decide_eq_true (List.all_eq_true.1 objectKept_small t ht)) hB⟩
theorem objectKept_holds : Rows.ObjectKeptUptoSaid :=
  OpenClaim.holds_of_cond 4 Tryz.f4 rfl rfl rfl rfl rfl rfl rfl ⟨rfl, rfl, rfl, rfl, rfl⟩ rfl rfl rfl rfl rfl (by kernel_rfl) Tryz.func4 objectKept_facts
    (of_decide_eq_true (by kernel_rfl)) (by unfold Func.isWrapper; first | (rw [if_pos (by decide +kernel)]; kernel_rfl) | (rw [if_neg (by decide +kernel)]; exact ⟨rfl, rfl⟩))
    (fun os started H enc _ F => objectKept_lifted os started H enc F)
end Go.Sx.Ob
