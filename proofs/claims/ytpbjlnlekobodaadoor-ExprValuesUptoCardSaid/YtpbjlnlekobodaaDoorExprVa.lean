/- The law ExprValues over heaps: it answers true. Asked: the table of powers of ten as it is laid, 2 ^ 30 terms at most. -/
import Derived.Test.YtpbjlnlekobodaaDoorExprSB
import Derived.Test.YtpbjlnlekobodaaDoorExprR
import Derived.Test.YtpbjlnlekobodaaDoorExprSO
import Derived.Test.YtpbjlnlekobodaaDoorExprY
import Derived.Test.YtpbjlnlekobodaaDoorFrameF
set_option linter.unusedVariables false
set_option linter.unusedSimpArgs false
set_option maxRecDepth 100000
namespace Go.Sx
open Go.Proofs
theorem tmod_nat (a b : Nat) : Int.tmod (a : Int) (b : Int) = ((a % b : Nat) : Int) := rfl
theorem wrap_succ {i : Nat} (h : i < 2 ^ 60) : IntKind.wrap .i64 ((i : Int) + 1) = ((i + 1 : Nat) : Int) := by rw [wrap_i64 (by omega) (by omega)]; omega
theorem getN_getO (D : Tms) (s : ByteArray) : getN D s = (getO D s).getD 0 := rfl
theorem exprValues_hc {h : Hp} {p q r : Option Addr} {l c m d k cr N M Q : Nat} {x y : Lin} {us : List Nat} (v : LinIn h p l c x N) (u : LinIn h q m d y M) (n : Nat) (w : NumIn h r k us Q) (hp : Pow10 h) (hx : x.terms.length ≤ 2 ^ 30) (hy : y.terms.length ≤ 2 ^ 30) :
    HC Tryd.prog 15 #[linV p l c x, linV q m d y, .int .u32 n, .slice r k cr] h fun z h' => z = .bool true ∧ Ext h h' := by
  refine hcr_of (args := [.agg #[.slice p l c, .int .u32 x.num], .agg #[.slice q m d, .int .u32 y.num], .int .u32 n, .slice r k cr]) mixed Tryd.func15 (by kernel_rfl) (t_spandrellaw4_ExprValues_eq p l c x.num q m d y.num n r k cr) ?_
  unfold t_spandrellaw4_ExprValues
  have hll := v.vw.len
  have hmm := u.vw.len
  have hkm : k ≤ 9223372036854775807 := w.capm
  refine newB ?_
  intro h1 b1 e1 z1
  refine newB ?_
  intro h2 b2 e2 z2
  have b1 := b1.keep e2 (by simp)
  have e02 := e1.trans e2
  refine loads_box b1 ((p, l, c), (x.num : Int), ()) rfl ?_
  dsimp only [flat, unc, unc1, List.nil_append, List.cons_append]
  refine call_boolx (right50_hc (v.vw.keep e02 (by simp)) (by omega) (fun t ht => (v.names t ht).1)) ?_
  intro h3 e3
  have e03 := e02.trans e3
  refine cond_mk (fun g1 => ?_) (fun g1 => ?_)
  · refine call_boolx (known44_hc (hp.keep e03 (by simp))) ?_
    intro h4 e4
    exact ⟨rfl, e03.trans e4⟩
  have g1 : rtR none x.terms = true := by simpa using g1
  have gx := rt_good g1 v.coefs v.num
  refine loads_box (b2.keep e3 (by simp)) ((q, m, d), (y.num : Int), ()) rfl ?_
  dsimp only [flat, unc, unc1, List.nil_append, List.cons_append]
  refine call_boolx (right50_hc (u.vw.keep e03 (by simp)) (by omega) (fun t ht => (u.names t ht).1)) ?_
  intro h4 e4
  have e04 := e03.trans e4
  have e24 := e3.trans e4
  refine cond_mk (fun g2 => ?_) (fun g2 => ?_)
  · refine call_boolx (known44_hc (hp.keep e04 (by simp))) ?_
    intro h5 e5
    exact ⟨rfl, e04.trans e5⟩
  have g2 : rtR none y.terms = true := by simpa using g2
  have gy := rt_good g2 u.coefs u.num
  have b1 := b1.keep e24 (by simp)
  have b2 := b2.keep e24 (by simp)
  refine makeMap_of _ ?_
  intro h5 m5 e5 z5
  refine ⟨(some h4.size, ()), rfl, ?_⟩
  dsimp only [flat, unc, unc1, List.nil_append, List.cons_append]
  have b1 := b1.keep e5 (by simp)
  have b2 := b2.keep e5 (by simp)
  refine loads_box b1 ((p, l, c), ()) rfl ?_
  dsimp only [flat, unc, unc1, List.nil_append, List.cons_append]
  refine loads_box b2 ((q, m, d), ()) rfl ?_
  dsimp only [flat, unc, unc1, List.nil_append, List.cons_append]
  refine lit0_of und67 termZ ?_
  intro h6 s6 e6
  have b1 := b1.keep e6 (by simp)
  have b2 := b2.keep e6 (by simp)
  have e06 := (e04.trans e5).trans e6
  have hz6 := e6.size
  have hb1 := b1.lt
  have hb2 := b2.lt
  have hm5 := m5.lt
  refine ⟨⟨b2.cells _ rfl, b1.cells _ rfl, trivial⟩, ?_⟩
  have hz2 : h2.size ≤ h5.size := (e24.trans e5).size
  have hz24 := e24.size
  have hn1 : h.size ∉ blkOf (some (⟨h5.size, 0, none⟩ : Addr)) := by simp [blkOf]; omega
  have hn2 : h1.size ∉ blkOf (some (⟨h5.size, 0, none⟩ : Addr)) := by simp [blkOf]; omega
  have hn3 : h4.size ∉ blkOf (some (⟨h5.size, 0, none⟩ : Addr)) := by simp [blkOf]; omega
  refine appT_of (xs := []) s6 (v.vw.keep e06 (by simp)) v.nil (by omega) (by omega) ?_
  intro p7 c7 h7 s7 k7 hp7
  have k7 : Ch [h5.size] h6 h7 := k7
  have b1 := b1.keep k7 hn1
  have b2 := b2.keep k7 hn2
  have e57 : Ext h5 h7 := Ch.trans e6 k7 (fun j hj hl => by simp at hj; omega)
  have e07 := (e04.trans e5).trans e57
  refine ⟨⟨b2.cells _ rfl, trivial⟩, ?_⟩
  have hz7 := e57.size
  refine appT_of s7 (u.vw.keep e07 (by simp)) u.nil (by omega) (by omega) ?_
  intro p8 c8 h8 s8 k8 hp8
  have hp7' : ∀ i, i ∈ blkOf p7 → h5.size ≤ i := fun i hi => (s7.blk hi).1
  have e58 : Ext h5 h8 := Ch.trans e57 k8 (fun j hj hl => by have := hp7' j hj; omega)
  have e08 := (e04.trans e5).trans e58
  have b1 := b1.keep k8 (fun hh => by have := hp7' _ hh; omega)
  have b2 := b2.keep k8 (fun hh => by have := hp7' _ hh; omega)
  have m8 : MapB h8 h4.size (vm []) := m5.keep e58 (by simp)
  refine ⟨⟨b1.cells _ rfl, trivial⟩, ?_⟩
  rw [List.nil_append] at s8
  have hal : 0 + l + m = (x.terms ++ y.terms).length := by rw [List.length_append]; omega
  rw [hal] at s8 ⊢
  have hz8 := e58.size
  have hns : ∀ t, t ∈ x.terms ++ y.terms → t.1.size ≤ maxLen := fun t ht => (List.mem_append.1 ht).elim (fun h => (v.names t h).1) (fun h => (u.names t h).1)
  have hal2 : (x.terms ++ y.terms).length ≤ 2 ^ 31 := by rw [List.length_append]; omega
  have hmemx : ∀ t, t ∈ x.terms → t ∈ x.terms ++ y.terms := fun t h => List.mem_append_left _ h
  have hmemy : ∀ t, t ∈ y.terms → t ∈ x.terms ++ y.terms := fun t h => List.mem_append_right _ h
  generalize x.terms ++ y.terms = al at s8 hns hal2 hmemx hmemy
  refine loop_of (cs := [(false, [.int .i64]), (false, [.int .i64])]) (fun z w h' => ∃ (i : Nat) (D : Tms), z.1 = (i : Int) ∧ z.2.1 = (i : Int) ∧ i ≤ al.length ∧ w = al.length - i ∧ Ch [h4.size] h8 h' ∧ MapB h' h4.size (vm D) ∧
    (us = [] → D = []) ∧ (us ≠ [] → ∀ j, (hj : j < al.length) → j < i → (getO D al[j].1).isSome = true)) ((0 : Int), (0 : Int), ()) al.length rfl
    ⟨0, [], rfl, rfl, by omega, by omega, Ch.refl _ _, m8, fun _ => rfl, fun _ j _ hj => by omega⟩ ?_
  rintro ⟨n7, n8, ⟨⟩⟩ wd h9 ⟨i, D, hi, hi', hile, rfl, k9, m9, hD0, hD1⟩
  simp only at hi hi'
  subst hi hi'
  dsimp only [flat, unc, unc1, List.nil_append, List.cons_append]
  have e09 : Ext h h9 := Ch.trans e08 k9 (fun j hj hl => by simp at hj; have := e04.size; omega)
  have hw1 := wrap_succ (i := i) (by omega)
  refine cond_mk (fun g3 => ?_) (fun g3 => ?_)
  · have g3 := of_decide_eq_true g3
    have hilt : i < al.length := by omega
    refine cond_mk (fun g4 => ?_) (fun g4 => ?_)
    · have g4 := of_decide_eq_true g4
      have hk0 : 0 < k := by omega
      have hus : us ≠ [] := fun hh => by have := w.len; rw [hh] at this; simp at this; omega
      have s9 := s8.keep' k9 (fun j hj => by have := (s8.blk hj).1; simp; omega)
      obtain ⟨a, ha, hc⟩ := s9.vwT.cells i hilt
      subst ha
      have hszt := hns al[i] (List.getElem_mem hilt)
      refine need_of ⟨by omega, by omega⟩ (osome_mk rfl ?_)
      rw [show Int.toNat (i : Int) = i by omega]
      refine loads_of (al[i].1, ()) (encT_cells hc).1 ?_
      dsimp only [flat, unc, unc1, List.nil_append, List.cons_append]
      have hmod : i % k < k := Nat.mod_lt _ hk0
      have hmu : i % k < us.length := by have := w.len; omega
      rw [tmod_nat]
      refine need_of (by omega) (need_of ⟨by omega, by omega⟩ ?_)
      obtain ⟨a', ha', hc'⟩ := w.cells (i % k) hmu
      subst ha'
      refine osome_mk rfl ?_
      rw [show Int.toNat ((i % k : Nat) : Int) = i % k by omega]
      refine loads_of ((us[i % k] : Int), ()) (cellsAt_keep e09 (by simp) _ _ hc') ?_
      dsimp only [flat, unc, unc1, List.nil_append, List.cons_append]
      refine put_of (n := us[i % k]) m9 hszt rfl ?_
      intro h10 m10 k10 z10
      refine again_mk (cs := [(false, [.int .i64]), (false, [.int .i64])]) (((i + 1 : Nat) : Int), ((i + 1 : Nat) : Int), ()) (al.length - (i + 1)) rfl (by omega) (by rw [hw1]; rfl) ⟨i + 1, _, rfl, rfl, by omega, rfl, Ch.trans k9 k10 (fun j hj _ => hj), m10, fun hh => absurd hh hus, fun hh j hj hji => ?_⟩
      refine getO_isSome_putN _ _ _ _ ?_
      by_cases hje : j = i
      · subst hje; exact .inl rfl
      · exact .inr (hD1 hus j hj (by omega))
    · have g4 := of_decide_eq_false g4
      have hk0 : k = 0 := by omega
      have hus : us = [] := List.length_eq_zero_iff.1 (by have := w.len; omega)
      exact again_mk (cs := [(false, [.int .i64]), (false, [.int .i64])]) (((i + 1 : Nat) : Int), ((i + 1 : Nat) : Int), ()) (al.length - (i + 1)) rfl (by omega) (by rw [hw1]; rfl) ⟨i + 1, D, rfl, rfl, by omega, rfl, k9, m9, hD0, fun hh => absurd hus hh⟩
  have g3 := of_decide_eq_false g3
  have b1 := b1.keep k9 (by simp; omega)
  have b2 := b2.keep k9 (by simp; omega)
  have hall : us ≠ [] → ∀ t, t ∈ al → (getO D t.1).isSome = true := by
    intro hh t ht
    obtain ⟨j, hj, rfl⟩ := List.getElem_of_mem ht
    exact hD1 hh j hj (by omega)
  have vx := v.vw.keep e09 (by simp)
  have vy := u.vw.keep e09 (by simp)
  have hxs : ∀ t, t ∈ x.terms → t.1.size ≤ maxLen := fun t ht => (v.names t ht).1
  have hys : ∀ t, t ∈ y.terms → t.1.size ≤ maxLen := fun t ht => (u.names t ht).1
  have e89 : ∀ i, i < h.size → i < h9.size := fun i hi => by have := e09.size; omega
  refine loads_box b1 ((p, l, c), (x.num : Int), ()) rfl ?_
  dsimp only [flat, unc, unc1, List.nil_append, List.cons_append]
  refine call_of (value_hc (r := some h4.size) vx m9 (by omega)) ?_
  rintro _ h10 ⟨rfl, e10⟩
  refine ⟨(((valN (getO D) x.num x.terms).1 : Int), (valN (getO D) x.num x.terms).2, ()), rfl, ?_⟩
  dsimp only [flat, unc, unc1, List.nil_append, List.cons_append]
  refine loads_box (b2.keep e10 (by simp)) ((q, m, d), (y.num : Int), ()) rfl ?_
  dsimp only [flat, unc, unc1, List.nil_append, List.cons_append]
  refine call_of (value_hc (r := some h4.size) (vy.keep e10 (by simp)) (m9.keep e10 (by simp)) (by omega)) ?_
  rintro _ h11 ⟨rfl, e11⟩
  refine ⟨(((valN (getO D) y.num y.terms).1 : Int), (valN (getO D) y.num y.terms).2, ()), rfl, ?_⟩
  dsimp only [flat, unc, unc1, List.nil_append, List.cons_append]
  have e911 := e10.trans e11
  refine loads_box (b1.keep e911 (by simp)) ((p, l, c), (x.num : Int), ()) rfl ?_
  dsimp only [flat, unc, unc1, List.nil_append, List.cons_append]
  refine loads_box (b2.keep e911 (by simp)) ((q, m, d), (y.num : Int), ()) rfl ?_
  dsimp only [flat, unc, unc1, List.nil_append, List.cons_append]
  have hsz11 : h.size ≤ h11.size := by have := e09.size; have := e911.size; omega
  refine call_of (add_hc (vx.keep e911 (by simp)) (vy.keep e911 (by simp)) (fun i hi => by have := v.blk i hi; omega) (fun i hi => by have := u.blk i hi; omega) (by omega) hxs hys) ?_
  rintro _ h12 ⟨e12, pa, la, ca, rfl, s12⟩
  rw [linAdd_eq gx.nf gy.nf] at s12 ⊢
  refine ⟨((pa, la, ca), ((linA x y).num : Int), ()), rfl, ?_⟩
  dsimp only [flat, unc, unc1, List.nil_append, List.cons_append]
  have e912 := e911.trans e12
  have hla : (linA x y).terms.length ≤ 2 ^ 31 := by
    have := addM_length x.terms y.terms
    show (addM x.terms y.terms).length ≤ _
    omega
  refine call_of (value_hc (r := some h4.size) s12.vwT (m9.keep e912 (by simp)) (by omega)) ?_
  rintro _ h13 ⟨rfl, e13⟩
  refine ⟨(((valN (getO D) (linA x y).num (linA x y).terms).1 : Int), (valN (getO D) (linA x y).num (linA x y).terms).2, ()), rfl, ?_⟩
  dsimp only [flat, unc, unc1, List.nil_append, List.cons_append]
  have e913 := e912.trans e13
  refine loads_box (b1.keep e913 (by simp)) ((p, l, c), (x.num : Int), ()) rfl ?_
  dsimp only [flat, unc, unc1, List.nil_append, List.cons_append]
  refine call_of (times_hc (vx.keep e913 (by simp)) (by omega) hxs n) ?_
  rintro _ h14 ⟨e14, pt, lt, ct, rfl, s14⟩
  rw [linTimes_eq gx.nf] at s14 ⊢
  refine ⟨((pt, lt, ct), ((linT x n).num : Int), ()), rfl, ?_⟩
  dsimp only [flat, unc, unc1, List.nil_append, List.cons_append]
  have e914 := e913.trans e14
  have hlt : (linT x n).terms.length ≤ 2 ^ 30 := by
    have := timesN_length n x.terms
    show (timesN n x.terms).length ≤ _
    omega
  refine call_of (value_hc (r := some h4.size) s14.vwT (m9.keep e914 (by simp)) (by omega)) ?_
  rintro _ h15 ⟨rfl, e15⟩
  refine ⟨(((valN (getO D) (linT x n).num (linT x n).terms).1 : Int), (valN (getO D) (linT x n).num (linT x n).terms).2, ()), rfl, ?_⟩
  dsimp only [flat, unc, unc1, List.nil_append, List.cons_append]
  have e915 := e914.trans e15
  have e015 := e09.trans e915
  have b15 := b1.keep e915 (by simp)
  refine cond_mk (fun g5 => ?_) (fun g5 => ?_)
  · have hk0 : k = 0 := by have : (k : Int) = 0 := by simpa using g5
                           omega
    have hus : us = [] := List.length_eq_zero_iff.1 (by have := w.len; omega)
    have hD := hD0 hus
    subst hD
    refine loads_box b15 ((p, l, c), ()) rfl ?_
    dsimp only [flat, unc, unc1, List.nil_append, List.cons_append]
    have hfin : T.call Tryd.prog 44 [] false [(false, [.bool])] (fun (b73 : Bool) => T.ret (.bool b73)) [] (fun z h' => z = .bool true ∧ Ext h h') h15 := by
      refine call_boolx (known44_hc (hp.keep e015 (by simp))) ?_
      intro h16 e16
      exact ⟨rfl, e015.trans e16⟩
    cases hxt : x.terms with
    | nil =>
      have hl0 : l = 0 := by rw [hxt] at hll; simpa using hll
      subst hl0
      refine cond_t rfl (cond_t rfl hfin)
    | cons t ts =>
      have hl0 : ((l : Int) == 0) = false := by rw [hxt] at hll; simp at hll; simp; omega
      rw [valN_none, hl0]
      exact cond_t rfl (cond_f rfl (cond_t rfl hfin))
  · have hk0 : ¬ k = 0 := by have : ¬ (k : Int) = 0 := by simpa using g5
                             omega
    have hus : us ≠ [] := fun hh => by have := w.len; rw [hh] at this; simp at this; omega
    have hax : ∀ t, t ∈ x.terms → (getO D t.1).isSome = true := fun t ht => hall hus t (hmemx t ht)
    have hay : ∀ t, t ∈ y.terms → (getO D t.1).isSome = true := fun t ht => hall hus t (hmemy t ht)
    have haa : ∀ t, t ∈ (linA x y).terms → (getO D t.1).isSome = true := fun t ht => by
      rcases mem_addM ht with ⟨p, hp, he⟩ | ⟨p, hp, he⟩
      · rw [← he]; exact hax p hp
      · rw [← he]; exact hay p hp
    have hat : ∀ t, t ∈ (linT x n).terms → (getO D t.1).isSome = true := fun t ht => by
      obtain ⟨p, hp, he⟩ := mem_timesN ht
      rw [← he]; exact hax p hp
    have hna : (linA x y).num < 4294967296 := Nat.mod_lt _ (by decide)
    have hnt : (linT x n).num < 4294967296 := Nat.mod_lt _ (by decide)
    rw [valN_all _ _ v.num hax, valN_all _ _ u.num hay, valN_all _ _ hna haa, valN_all _ _ hnt hat]
    have f1 := valS_addM (fun s => (getO D s).getD 0) x.terms y.terms
    have f2 := valS_timesN (fun s => (getO D s).getD 0) n x.terms
    rw [add_box]
    refine loads_box b15 ((x.num : Int), ()) rfl ?_
    dsimp only [flat, unc, unc1, List.nil_append, List.cons_append]
    have v15 := vx.keep e915 (by simp)
    have m15 := m9.keep e915 (by simp)
    refine loop_of (cs := [(false, [.int .u32]), (false, [.int .i64])]) (fun z w h' => ∃ (i nn : Nat), z.2.1 = (i : Int) ∧ z.1 = (nn : Int) ∧ i ≤ x.terms.length ∧ w = x.terms.length - i ∧ h15 = h' ∧ nn < 4294967296 ∧
      (x.num + valS (fun s => (getO D s).getD 0) x.terms) % 4294967296 = (nn + valS (fun s => (getO D s).getD 0) (x.terms.drop i)) % 4294967296) ((x.num : Int), (0 : Int), ()) x.terms.length rfl
      ⟨0, x.num, rfl, rfl, by omega, by omega, rfl, v.num, rfl⟩ ?_
    rintro ⟨n7, n8, ⟨⟩⟩ wd h16 ⟨i, nn, hi, hi', hile, rfl, rfl, hnn, hq⟩
    simp only at hi hi'
    subst hi hi'
    dsimp only [flat, unc, unc1, List.nil_append, List.cons_append]
    refine loads_box b15 ((p, l, c), ()) rfl ?_
    dsimp only [flat, unc, unc1, List.nil_append, List.cons_append]
    refine cond_mk (fun g6 => ?_) (fun g6 => ?_)
    · have g6 := of_decide_eq_true g6
      have hilt : i < x.terms.length := by omega
      obtain ⟨a, ha, hc⟩ := v15.cells i hilt
      subst ha
      have hdr : x.terms.drop i = x.terms[i] :: x.terms.drop (i + 1) := List.drop_eq_getElem_cons hilt
      rw [hdr, valS_cons] at hq
      generalize x.terms[i] = t at hc hq
      refine loads_box b15 ((some a, l, c), ()) rfl ?_
      dsimp only [flat, unc, unc1, List.nil_append, List.cons_append]
      refine need_of ⟨by omega, by omega⟩ (osome_mk rfl ?_)
      rw [show Int.toNat (i : Int) = i by omega]
      refine loads_of ((t.2 : Int), ()) (encT_cells hc).2 ?_
      dsimp only [flat, unc, unc1, List.nil_append, List.cons_append]
      refine loads_box b15 ((some a, l, c), ()) rfl ?_
      dsimp only [flat, unc, unc1, List.nil_append, List.cons_append]
      refine need_of ⟨by omega, by omega⟩ (osome_mk rfl ?_)
      refine loads_of (t.1, ()) (encT_cells hc).1 ?_
      dsimp only [flat, unc, unc1, List.nil_append, List.cons_append]
      refine look_of m15 _ ?_
      refine ⟨⟨b15.cells _ rfl, (encT_cells hc).2, b15.cells _ rfl, trivial⟩, ?_⟩
      have hw2 := wrap_succ (i := i) (by omega)
      rw [u32_mul, u32_add, getN_getO]
      refine again_mk (cs := [(false, [.int .u32]), (false, [.int .i64])]) ((((nn + t.2 * (getO D t.1).getD 0 % 4294967296) % 4294967296 : Nat) : Int), ((i + 1 : Nat) : Int), ()) (x.terms.length - (i + 1)) rfl (by omega) (by rw [hw2]; rfl) ⟨i + 1, _, rfl, rfl, by omega, rfl, rfl, Nat.mod_lt _ (by decide), ?_⟩
      omega
    · have g6 := of_decide_eq_false g6
      have hi : i = x.terms.length := by omega
      subst hi
      rw [List.drop_length] at hq
      have hq : (x.num + valS (fun s => (getO D s).getD 0) x.terms) % 4294967296 = nn := by rw [hq]; show (nn + 0) % 4294967296 = nn; omega
      refine cond_t rfl (cond_t rfl (cond_t rfl (cond_t rfl (cond_t ?_ (cond_t ?_ (cond_t ?_ ?_))))))
      · show ((((x.num + valS (fun s => (getO D s).getD 0) x.terms) % 4294967296 : Nat) : Int) == (nn : Int)) = true
        rw [hq]; simp
      · rw [u32_add]
        show ((((linA x y).num + valS (fun s => (getO D s).getD 0) (addM x.terms y.terms)) % 4294967296 : Nat) : Int) == _
        have : ((linA x y).num + valS (fun s => (getO D s).getD 0) (addM x.terms y.terms)) % 4294967296 = ((x.num + valS (fun s => (getO D s).getD 0) x.terms) % 4294967296 + (y.num + valS (fun s => (getO D s).getD 0) y.terms) % 4294967296) % 4294967296 := by
          show ((x.num + y.num) % 4294967296 + _) % 4294967296 = _
          omega
        rw [this]; simp
      · rw [u32_mul]
        show ((((linT x n).num + valS (fun s => (getO D s).getD 0) (timesN n x.terms)) % 4294967296 : Nat) : Int) == _
        have h3 := mod_mul' (x.num + valS (fun s => (getO D s).getD 0) x.terms) n
        rw [Nat.add_mul] at h3
        have : ((linT x n).num + valS (fun s => (getO D s).getD 0) (timesN n x.terms)) % 4294967296 = (x.num + valS (fun s => (getO D s).getD 0) x.terms) % 4294967296 * n % 4294967296 := by
          show (x.num * n % 4294967296 + _) % 4294967296 = _
          omega
        rw [this]; simp
      · refine call_boolx (known44_hc (hp.keep e015 (by simp))) ?_
        intro h16 e16
        exact ⟨rfl, e015.trans e16⟩
end Go.Sx
