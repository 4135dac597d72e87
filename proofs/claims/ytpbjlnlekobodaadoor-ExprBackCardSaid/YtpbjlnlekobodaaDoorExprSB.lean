/- Values, groups and texts of sums in plain Lean; the law ExprBack over heaps. Condition: the table of powers of ten as it is laid. -/
import Derived.Test.YtpbjlnlekobodaaDoorExprR
import Derived.Test.YtpbjlnlekobodaaDoorLexQ
import Derived.Test.YtpbjlnlekobodaaDoorExprSO
import Derived.Test.YtpbjlnlekobodaaDoorExprY
import Derived.Test.YtpbjlnlekobodaaDoorFrameF
set_option linter.unusedVariables false
set_option linter.unusedSimpArgs false
set_option maxRecDepth 100000
namespace Go.Sx
open Go.Proofs
def valS (f : ByteArray → Nat) : Tms → Nat
  | [] => 0
  | p :: l => p.2 * f p.1 + valS f l
theorem valS_cons (f : ByteArray → Nat) (p : ByteArray × Nat) (l : Tms) : valS f (p :: l) = p.2 * f p.1 + valS f l := rfl
theorem valN_all {f : ByteArray → Option Nat} : ∀ (l : Tms) (n : Nat), n < 4294967296 → (∀ t, t ∈ l → (f t.1).isSome = true) → valN f n l = ((n + valS (fun s => (f s).getD 0) l) % 4294967296, true)
  | [], n, hn, _ => by simp [valN, valS, Nat.mod_eq_of_lt hn]
  | t :: r, n, hn, h => by
    obtain ⟨v, hv⟩ := Option.isSome_iff_exists.1 (h t (List.mem_cons_self ..))
    rw [valN_cons, hv]
    dsimp only
    rw [valN_all r _ (Nat.mod_lt _ (by decide)) (fun u hu => h u (List.mem_cons_of_mem _ hu)), valS_cons, hv, Option.getD_some]
    congr 1
    omega
theorem mod_mul' (a b : Nat) : a % 4294967296 * b % 4294967296 = a * b % 4294967296 := by rw [Nat.mul_mod, Nat.mod_mod, ← Nat.mul_mod]
theorem valS_timesN (f : ByteArray → Nat) (n : Nat) : ∀ l : Tms, valS f (timesN n l) % 4294967296 = valS f l * n % 4294967296
  | [] => by simp [timesN, valS]
  | p :: l => by
    have ih := valS_timesN f n l
    have h1 := mod_mul' (p.2 * n) (f p.1)
    have h2 : (p.2 * f p.1 + valS f l) * n = p.2 * n * f p.1 + valS f l * n := by rw [Nat.add_mul, Nat.mul_right_comm]
    have hc : timesN n (p :: l) = if p.2 * n % 4294967296 = 0 then timesN n l else (p.1, p.2 * n % 4294967296) :: timesN n l := by
      unfold timesN
      rw [List.filterMap_cons]
      split
      · rename_i hg
        split at hg
        · rename_i h0
          rw [if_pos h0]
        · cases hg
      · rename_i hg
        split at hg
        · cases hg
        · rename_i h0
          cases hg
          rw [if_neg h0]
    rw [hc, valS_cons, h2]
    split
    · rename_i h0
      rw [h0, Nat.zero_mul] at h1
      omega
    · rw [valS_cons]
      dsimp only
      omega
theorem valS_addF (f : ByteArray → Nat) {n : Nat} {x y : Tms} (hn : x.length + y.length ≤ n) : valS f (addF n x y) % 4294967296 = (valS f x + valS f y) % 4294967296 := by
  induction n generalizing x y with
  | zero =>
    have h1 : x = [] := List.length_eq_zero_iff.1 (by omega)
    have h2 : y = [] := List.length_eq_zero_iff.1 (by omega)
    subst h1 h2
    rfl
  | succ n ih =>
    rcases x with _ | ⟨p, x⟩ <;> rcases y with _ | ⟨q, y⟩
    · rfl
    · simp only [addF, valS]
      have := ih (x := []) (y := y) (by simp at hn ⊢; omega)
      simp only [valS] at this
      omega
    · simp only [addF, valS]
      have := ih (x := x) (y := []) (by simp at hn ⊢; omega)
      simp only [valS] at this
      omega
    · simp only [List.length_cons] at hn
      simp only [addF]
      split
      · have := ih (x := x) (y := q :: y) (by simp; omega)
        simp only [valS] at this ⊢
        omega
      · rename_i h1
        split
        · have := ih (x := p :: x) (y := y) (by simp; omega)
          simp only [valS] at this ⊢
          omega
        · rename_i h2
          have he := ltN_tri _ _ h1 h2
          have := ih (x := x) (y := y) (by omega)
          have h3 := mod_mul' (p.2 + q.2) (f p.1)
          rw [Nat.add_mul] at h3
          split
          · rename_i h0
            rw [h0, Nat.zero_mul] at h3
            simp only [valS, ← he]
            omega
          · simp only [valS, ← he]
            omega
theorem valS_addM (f : ByteArray → Nat) (x y : Tms) : valS f (addM x y) % 4294967296 = (valS f x + valS f y) % 4294967296 := valS_addF f (Nat.le_refl _)
theorem valN_none {t : ByteArray × Nat} {r : Tms} (n : Nat) : valN (getO []) n (t :: r) = (0, false) := rfl
theorem getO_isSome_putN (D : Tms) (t : ByteArray) (v : Nat) (s : ByteArray) (h : s = t ∨ (getO D s).isSome = true) : (getO (putN D t v) s).isSome = true := by
  unfold getO putN at *
  simp only [Option.isSome_map] at h ⊢
  rw [List.find?_isSome] at *
  split
  · rename_i hs
    rw [List.find?_isSome] at hs
    rcases h with rfl | ⟨p, hp, he⟩
    · obtain ⟨p, hp, he⟩ := hs
      refine ⟨(p.1, v), List.mem_map.2 ⟨p, hp, ?_⟩, he⟩
      rw [if_pos (of_decide_eq_true he)]
    · refine ⟨if t = p.1 then (p.1, v) else p, List.mem_map.2 ⟨p, hp, rfl⟩, ?_⟩
      split <;> exact he
  · rcases h with rfl | ⟨p, hp, he⟩
    · exact ⟨(s, v), by simp, by simp⟩
    · exact ⟨p, by simp [hp], he⟩
/-! Sums in any order. -/
theorem linA_ext {x y : Lin} (hx : Nf x.terms) (hy : Nf y.terms) (h : ∀ s, cf x.terms s % 4294967296 = cf y.terms s % 4294967296) (hn : x.num = y.num) : x = y := by
  cases x; cases y
  simp only at hn
  subst hn
  simp only at h hx hy
  rw [Nf.uniq hx hy h]
theorem linA_nf {x y : Lin} (hx : Nf x.terms) (hy : Nf y.terms) : Nf (linA x y).terms := addM_nf hx hy
theorem linT_nf {x : Lin} (hx : Nf x.terms) (n : Nat) : Nf (linT x n).terms := timesN_nf hx
theorem linA_group {x y z : Lin} (hx : Nf x.terms) (hy : Nf y.terms) (hz : Nf z.terms) : linA (linA x y) z = linA y (linA z x) := by
  refine linA_ext (linA_nf (linA_nf hx hy) hz) (linA_nf hy (linA_nf hz hx)) (fun s => ?_) ?_
  · have h1 := cf_addM (linA x y).terms z.terms s
    have h2 := cf_addM x.terms y.terms s
    have h3 := cf_addM y.terms (linA z x).terms s
    have h4 := cf_addM z.terms x.terms s
    show cf (addM (linA x y).terms z.terms) s % 4294967296 = cf (addM y.terms (linA z x).terms) s % 4294967296
    have e1 : (linA x y).terms = addM x.terms y.terms := rfl
    have e2 : (linA z x).terms = addM z.terms x.terms := rfl
    rw [e1] at h1 ⊢
    rw [e2] at h3 ⊢
    omega
  · show ((x.num + y.num) % 4294967296 + z.num) % 4294967296 = (y.num + (z.num + x.num) % 4294967296) % 4294967296
    omega
theorem linT_sum {x y : Lin} (hx : Nf x.terms) (hy : Nf y.terms) (n : Nat) : linA (linT x n) (linT y n) = linT (linA x y) n := by
  refine linA_ext (linA_nf (linT_nf hx n) (linT_nf hy n)) (linT_nf (linA_nf hx hy) n) (fun s => ?_) ?_
  · have h1 := cf_addM (timesN n x.terms) (timesN n y.terms) s
    have h2 := cf_timesN n x.terms s
    have h3 := cf_timesN n y.terms s
    have h4 := cf_timesN n (addM x.terms y.terms) s
    have h5 := cf_addM x.terms y.terms s
    have h6 := mod_mul' (cf (addM x.terms y.terms) s) n
    have h7 := mod_mul' (cf x.terms s + cf y.terms s) n
    rw [h5] at h6
    have h8 : (cf x.terms s + cf y.terms s) * n = cf x.terms s * n + cf y.terms s * n := Nat.add_mul ..
    show cf (addM (timesN n x.terms) (timesN n y.terms)) s % 4294967296 = cf (timesN n (addM x.terms y.terms)) s % 4294967296
    omega
  · show (x.num * n % 4294967296 + y.num * n % 4294967296) % 4294967296 = (x.num + y.num) % 4294967296 * n % 4294967296
    rw [mod_mul', Nat.add_mul]
    omega
theorem linA_zero {x : Lin} (hx : Nf x.terms) : linA x (linT x 4294967295) = linZ := by
  refine linA_ext (linA_nf hx (linT_nf hx _)) Nf.nil (fun s => ?_) ?_
  · have h1 := cf_addM x.terms (timesN 4294967295 x.terms) s
    have h2 := cf_timesN 4294967295 x.terms s
    show cf (addM x.terms (timesN 4294967295 x.terms)) s % 4294967296 = 0 % 4294967296
    omega
  · show (x.num + x.num * 4294967295 % 4294967296) % 4294967296 = 0
    omega
end Go.Sx

set_option linter.unusedVariables false
set_option linter.unusedSimpArgs false
set_option maxRecDepth 100000
namespace Go.Sx
open Go.Proofs
/-- A word: its bytes, its kind, its number. -/
structure Wd where
  w : List UInt8
  k : Nat
  n : Nat
def cat : List Wd → List UInt8
  | [] => []
  | x :: r => x.w ++ cat r
theorem cat_append (a b : List Wd) : cat (a ++ b) = cat a ++ cat b := by
  induction a with
  | nil => rfl
  | cons x a ih => simp only [List.cons_append, cat, ih, List.append_assoc]
def toksAt : Nat → List Wd → List Tok
  | _, [] => []
  | k, x :: r => ⟨x.k, ⟨x.w.toArray⟩, x.n, k⟩ :: toksAt (k + x.w.length) r
theorem toksAt_append (a b : List Wd) : ∀ k, toksAt k (a ++ b) = toksAt k a ++ toksAt (k + (cat a).length) b := by
  induction a with
  | nil => intro k; rfl
  | cons x a ih =>
    intro k
    simp only [List.cons_append, toksAt, cat, ih, List.length_append]
    rw [Nat.add_assoc]
theorem toksAt_length (a : List Wd) : ∀ k, (toksAt k a).length = a.length := by
  induction a with
  | nil => intro k; rfl
  | cons x a ih => intro k; simp only [toksAt, List.length_cons, ih]
def Spelt : List Wd → Prop
  | [] => True
  | x :: r => lexD (x.w ++ cat r) = .tok x.k x.w.length x.n ∧ Spelt r
theorem chain_words {s : ByteArray} : ∀ (ws : List Wd) (k : Nat), Spelt ws → k ≤ s.size → s.data.toList.drop k = cat ws → Chain s k (toksAt k ws)
  | [], k, _, hk, hd => by
    refine .stop k hk ?_
    rw [← List.drop_drop, hd]
    rfl
  | x :: r, k, h, hk, hd => by
    obtain ⟨h1, h2⟩ := h
    have hsz : s.data.toList.length = s.size := by simp
    have hb : rowN (s.data.toList.drop k) blanksL = 0 := by rw [hd]; exact lexD_blank h1
    have hd : s.data.toList.drop k = x.w ++ cat r := hd
    have hlen := congrArg List.length hd
    rw [List.length_drop, List.length_append] at hlen
    have hd2 : s.data.toList.drop (k + x.w.length) = cat r := by
      rw [← List.drop_drop, hd, List.drop_left]
    have hpos := (lexD_pos h1).1
    have hc := chain_words (s := s) r (k + x.w.length) h2 (by omega) hd2
    have := Chain.tok k x.k x.w.length x.n (toksAt (k + x.w.length) r) hk (by rw [hb, Nat.add_zero, hd]; exact h1) (by rw [hb, Nat.add_zero]; exact hc)
    rw [hb, Nat.add_zero] at this
    have he : s.extract k (k + x.w.length) = ⟨x.w.toArray⟩ := by
      refine Go.Sx.ba_ext ?_
      rw [ext_list, show k + x.w.length - k = x.w.length by omega, hd, List.take_left]
    rw [he] at this
    exact this
theorem gl_is (c : UInt8) : gluedL.contains c = (isLet c || isDig c) := glued_is c
theorem let_dig (c : UInt8) (h : isDig c = true) : isLet c = false := by
  have := all_bytes (fun c => isLet c && isDig c) (fun _ => false) (by decide +kernel) c
  simp only [h, Bool.and_true] at this
  exact this
theorem glued_ne (c : UInt8) (h : gluedL.contains c = true) : c ≠ 59 := by rintro rfl; revert h; decide
theorem getD_head (a b : List UInt8) (h : a ≠ []) : (a ++ b).getD 0 0 = a.getD 0 0 := by
  cases a with
  | nil => exact absurd rfl h
  | cons c a => rfl
theorem lexD_name {s E : List UInt8} (h : legalL s = true) (hE : rowN E gluedL = 0) : lexD (s ++ E) = .tok 1 s.length 0 := by
  unfold legalL at h
  simp only [Bool.and_eq_true, decide_eq_true_eq] at h
  obtain ⟨⟨⟨⟨h1, h2⟩, h3⟩, h4⟩, _⟩ := h
  have hne : s ≠ [] := fun hh => by rw [hh] at h1; simp at h1
  have hall : rowN s gluedL = s.length := rowN_all.2 (by simpa only [gl_is] using h4)
  have hrow : rowN (s ++ E) gluedL = s.length := by rw [rowN_append_all hall, hE]; rfl
  unfold lexD
  rw [if_neg (by simp [hne]), getD_head _ _ hne, if_neg, if_pos h3, hrow, if_neg (by omega)]
  exact glued_ne _ (by rw [gl_is, h3]; rfl)
theorem valB_append (l : List UInt8) (c : UInt8) : valB 10 (l ++ [c]) = valB 10 l * 10 + dv c := by
  unfold valB
  rw [List.foldl_append]
  rfl
theorem dig_ofNat {u : Nat} (h : u < 10) : isDig (UInt8.ofNat (48 + u)) = true ∧ dv (UInt8.ofNat (48 + u)) = u ∧ (UInt8.ofNat (48 + u) = 48 → u = 0) := by
  have : ∀ u, u < 10 → (isDig (UInt8.ofNat (48 + u)) = true ∧ dv (UInt8.ofNat (48 + u)) = u ∧ (UInt8.ofNat (48 + u) = 48 → u = 0)) := by decide
  exact this u h
theorem dec_facts (n : Nat) : (∀ c, c ∈ Lib.decDigits n → isDig c = true) ∧ valB 10 (Lib.decDigits n) = n ∧ Lib.decDigits n ≠ [] ∧ ((Lib.decDigits n).getD 0 0 = 48 → n = 0) ∧ (n = 0 → (Lib.decDigits n).length = 1) := by
  induction n using Nat.strongRecOn with
  | ind n ih =>
    rw [Lib.decDigits]
    by_cases h10 : n < 10
    · rw [dif_pos h10]
      obtain ⟨a, b, c⟩ := dig_ofNat h10
      refine ⟨?_, ?_, by simp, ?_, fun _ => rfl⟩
      · intro d hd
        rw [List.mem_singleton] at hd
        subst hd
        exact a
      · show valB 10 ([] ++ [_]) = n
        rw [valB_append, b]
        show 0 * 10 + n = n
        omega
      · exact c
    · rw [dif_neg h10]
      obtain ⟨a, b, c, d, e⟩ := ih (n / 10) (by omega)
      obtain ⟨a', b', _⟩ := dig_ofNat (u := n % 10) (by omega)
      refine ⟨?_, ?_, by simp, ?_, fun h => by omega⟩
      · intro x hx
        rcases List.mem_append.1 hx with hx | hx
        · exact a x hx
        · rw [List.mem_singleton] at hx
          subst hx
          exact a'
      · rw [valB_append, b, b']
        omega
      · rw [getD_head _ _ c]
        intro h0
        have := d h0
        omega
theorem lexD_dec {n : Nat} {E : List UInt8} (hn : n < 4294967296) (hE : rowN E gluedL = 0) : lexD (Lib.decDigits n ++ E) = .tok 2 (Lib.decDigits n).length n := by
  obtain ⟨h1, h2, h3, h4, h5⟩ := dec_facts n
  have hall : rowN (Lib.decDigits n) digitsL = (Lib.decDigits n).length := rowN_all.2 (List.all_eq_true.2 fun c hc => by rw [digits_is]; exact h1 c hc)
  have hrow : rowN (Lib.decDigits n ++ E) digitsL = (Lib.decDigits n).length := by rw [rowN_append_all hall, rowN_digits0 hE]; rfl
  have hd : isDig ((Lib.decDigits n).getD 0 0) = true := by
    cases hl : Lib.decDigits n with
    | nil => exact absurd hl h3
    | cons c r => exact h1 c (by rw [hl]; exact List.mem_cons_self ..)
  have hpos : 0 < (Lib.decDigits n).length := List.length_pos_iff.2 h3
  have htk : (Lib.decDigits n ++ E).take 2 ≠ [48, 120] := by
    intro hh
    have h0 : (Lib.decDigits n).getD 0 0 = 48 := by
      rw [← getD_head _ E h3]
      have := congrArg (fun l => l.getD 0 0) hh
      simpa using this
    have hn0 := h4 h0
    have hl1 := h5 hn0
    have h1' : (Lib.decDigits n ++ E).getD 1 0 = 120 := by
      have := congrArg (fun l => l.getD 1 0) hh
      simpa using this
    match hm : Lib.decDigits n, hl1 with
    | [c], _ =>
      rw [hm] at h1' hh
      cases E with
      | nil => simp at hh
      | cons e E =>
        have he : e = 120 := by simpa using h1'
        subst he
        have := rowN_zero.1 hE 120 E rfl
        revert this
        decide
  have hnum : numL (Lib.decDigits n ++ E) = ((Lib.decDigits n).length, n) := by
    unfold numL
    rw [if_neg htk, hrow, List.take_left, h2, if_neg]
    rintro (⟨ha, hb⟩ | hb | hb)
    · rw [getD_head _ _ h3] at hb
      have := h5 (h4 hb)
      omega
    · omega
    · omega
  unfold lexD
  rw [if_neg (by simp [h3]), getD_head _ _ h3, if_neg (glued_ne _ (by rw [gl_is, hd, Bool.or_true])), if_neg (by rw [let_dig _ hd]; simp), if_pos hd, hnum, List.drop_left, hE, if_neg]
  simp only [Nat.lt_irrefl, or_false]
  omega
theorem lexD_sign {c : UInt8} (hc : c = 43 ∨ c = 42) (E : List UInt8) : lexD (c :: E) = .tok 3 1 0 := by
  have hd : (c :: E).getD 0 0 = c := rfl
  unfold lexD
  rw [hd]
  rcases hc with rfl | rfl
  · rw [if_neg (by simp), if_neg (by decide), if_neg (by decide), if_neg (by decide), if_neg (by decide), if_pos (by decide)]
  · rw [if_neg (by simp), if_neg (by decide), if_neg (by decide), if_neg (by decide), if_neg (by decide), if_pos (by decide)]
/-! Words of an expression. -/
def plusW : Wd := ⟨[43], 3, 0⟩
def starW : Wd := ⟨[42], 3, 0⟩
def nameW (s : ByteArray) : Wd := ⟨s.data.toList, 1, 0⟩
def numW (n : Nat) : Wd := ⟨Lib.decDigits n, 2, n⟩
def pieceW (t : ByteArray × Nat) : List Wd := if t.2 = 1 then [nameW t.1] else [numW t.2, starW, nameW t.1]
theorem cat_pieceW (t : ByteArray × Nat) : cat (pieceW t) = (pieceL t).data.toList := by
  unfold pieceW pieceL
  split
  · simp [cat, nameW]
  · simp [cat, nameW, numW, starW, decB]
/-- An item: its words, and what they say. -/
structure It where
  ws : List Wd
  x : Lin
def itemsT (l : Tms) : List It := l.map fun t => ⟨pieceW t, ⟨[t], 0⟩⟩
def itemsN (x : Lin) : List It := if x.num ≠ 0 ∨ x.terms = [] then [⟨[numW x.num], ⟨[], x.num⟩⟩] else []
def restW (l : List It) : List Wd := l.flatMap fun i => plusW :: i.ws
def allW : List It → List Wd
  | [] => []
  | i :: r => i.ws ++ restW r
theorem cat_rest : ∀ (i : It) (l : List It), cat i.ws ++ cat (restW l) = Lib.join ((i :: l).map fun i => cat i.ws) [43]
  | i, [] => by
    rw [List.map_cons, List.map_nil, Lib.join_one]
    simp [restW, cat]
  | i, j :: l => by
    have ih := cat_rest j l
    have e : Lib.join ((i :: j :: l).map fun i => cat i.ws) [43] = cat i.ws ++ [43] ++ Lib.join ((j :: l).map fun i => cat i.ws) [43] := by
      unfold Lib.join
      simp [List.intercalate, List.intersperse]
    rw [e, ← ih]
    have e2 : restW (j :: l) = plusW :: (j.ws ++ restW l) := by simp [restW]
    rw [e2]
    show cat i.ws ++ ([43] ++ cat (j.ws ++ restW l)) = _
    rw [cat_append]
    simp only [List.append_assoc]
theorem cat_all (x : Lin) : cat (allW (itemsT x.terms ++ itemsN x)) = (textL x).data.toList := by
  have h1 : (itemsT x.terms ++ itemsN x).map (fun i => cat i.ws) = (x.terms.map pieceL ++ tailL x).map (·.data.toList) := by
    rw [List.map_append, List.map_append]
    congr 1
    · unfold itemsT
      rw [List.map_map, List.map_map]
      refine List.map_congr_left fun t _ => ?_
      exact cat_pieceW t
    · unfold itemsN tailL
      split
      · simp [cat, numW, decB]
      · rfl
  unfold textL
  rw [← h1]
  cases hl : itemsT x.terms ++ itemsN x with
  | nil => rfl
  | cons i l =>
    show cat (i.ws ++ restW l) = _
    rw [cat_append, cat_rest]
/-- An item's words are read as they are, whatever sign follows. -/
def ItOk (i : It) : Prop := ∀ r : List Wd, rowN (cat r) gluedL = 0 → Spelt r → Spelt (i.ws ++ r)
theorem itemT_ok {t : ByteArray × Nat} (h : legalL t.1.data.toList = true) (h2 : t.2 < 4294967296) : ItOk ⟨pieceW t, ⟨[t], 0⟩⟩ := by
  intro r hr hs
  show Spelt (pieceW t ++ r)
  unfold pieceW
  split
  · exact ⟨lexD_name h hr, hs⟩
  · refine ⟨lexD_dec h2 (E := cat ([starW, nameW t.1] ++ r)) ?_, lexD_sign (.inr rfl) _, lexD_name h hr, hs⟩
    exact rowN_zero.2 (by rintro c e ⟨⟩; decide)
theorem itemN_ok {n : Nat} (h : n < 4294967296) (x : Lin) : ItOk ⟨[numW n], x⟩ := fun r hr hs => ⟨lexD_dec h hr, hs⟩
theorem rest_glued (l : List It) : rowN (cat (restW l)) gluedL = 0 := by
  cases l with
  | nil => rfl
  | cons i l => exact rowN_zero.2 (by rintro c e ⟨⟩; decide)
theorem spelt_rest : ∀ l : List It, (∀ i, i ∈ l → ItOk i) → Spelt (restW l)
  | [], _ => trivial
  | i :: l, h => by
    have ih := spelt_rest l fun j hj => h j (List.mem_cons_of_mem _ hj)
    have e2 : restW (i :: l) = plusW :: (i.ws ++ restW l) := by simp [restW]
    rw [e2]
    exact ⟨lexD_sign (.inl rfl) _, h i (List.mem_cons_self ..) _ (rest_glued l) ih⟩
theorem spelt_all (l : List It) (h : ∀ i, i ∈ l → ItOk i) : Spelt (allW l) := by
  cases l with
  | nil => trivial
  | cons i l => exact h i (List.mem_cons_self ..) _ (rest_glued l) (spelt_rest l fun j hj => h j (List.mem_cons_of_mem _ hj))
/-! What the parser makes of them. -/
def NoStar (r : List Tok) : Prop := signB 0 r 42 = false
theorem facG_num (o : Option (List Tok → PRes)) {t : Tok} (hk : t.kind = 2) (r : List Tok) : facG o (t :: r) = .ok (⟨[], t.num⟩, r) := by
  have h1 : isS t 45 = false := by unfold isS; rw [hk]; rfl
  unfold facG facN
  rw [if_neg (by rw [h1]; simp)]
  unfold facS facH
  simp only [hk]
  rfl
theorem facG_name (o : Option (List Tok → PRes)) {t : Tok} (hk : t.kind = 1) (hr : (regL t.text.data.toList).2.2 = false) (r : List Tok) : facG o (t :: r) = .ok (⟨[(t.text, 1)], 0⟩, r) := by
  have h1 : isS t 45 = false := by unfold isS; rw [hk]; rfl
  unfold facG facN
  rw [if_neg (by rw [h1]; simp)]
  unfold facS facH
  simp only [hk, hr]
  rfl
theorem legal_reg {s : List UInt8} (h : legalL s = true) : (regL s).2.2 = false := by
  unfold legalL at h
  simp only [Bool.and_eq_true] at h
  simpa using h.2
/-- What the parser makes of an item. -/
def ItPart (o : Option (List Tok → PRes)) (i : It) : Prop := ∀ (k : Nat) (r : List Tok), NoStar r → partG (facG o) (toksAt k i.ws ++ r) = .ok (i.x, r)
theorem itemN_part (o : Option (List Tok → PRes)) (n : Nat) : ItPart o ⟨[numW n], ⟨[], n⟩⟩ := by
  intro k r hr
  show partG (facG o) (⟨2, _, n, k⟩ :: r) = _
  unfold partG
  rw [facG_num o rfl]
  simp only
  exact partL_stop hr
theorem itemT_part (o : Option (List Tok → PRes)) {t : ByteArray × Nat} (h : legalL t.1.data.toList = true) (h0 : t.2 ≠ 0) (h2 : t.2 < 4294967296) : ItPart o ⟨pieceW t, ⟨[t], 0⟩⟩ := by
  intro k r hr
  show partG (facG o) (toksAt k (pieceW t) ++ r) = _
  have hreg := legal_reg h
  unfold pieceW
  split
  · rename_i h1
    show partG (facG o) (⟨1, ⟨t.1.data.toList.toArray⟩, 0, k⟩ :: r) = _
    unfold partG
    rw [facG_name o rfl (by simpa using hreg)]
    simp only
    rw [partL_stop hr]
    have e : t = (⟨t.1.data.toList.toArray⟩, 1) := by rw [← h1]
    rw [← e]
  · show partG (facG o) (⟨2, _, t.2, k⟩ :: ⟨3, ⟨#[42]⟩, 0, k + (numW t.2).w.length⟩ :: ⟨1, ⟨t.1.data.toList.toArray⟩, 0, k + (numW t.2).w.length + 1⟩ :: r) = _
    unfold partG
    rw [facG_num o rfl]
    simp only [List.length_cons]
    unfold partL
    simp only
    rw [if_pos (by rfl), facG_name o rfl (by simpa using hreg)]
    simp only
    rw [if_neg (by simp), if_pos (by simp), partL_stop hr]
    have hm : t.2 % 4294967296 = t.2 := Nat.mod_eq_of_lt h2
    unfold linT timesN
    simp only [List.filterMap_cons, Nat.one_mul, hm, if_neg h0, List.filterMap_nil, Nat.zero_mul]
theorem sum_rest (o : Option (List Tok → PRes)) : ∀ (l : List It), (∀ i, i ∈ l → ItPart o i) → ∀ (n k : Nat) (x : Lin), l.length ≤ n → sumL (partG (facG o)) n x (toksAt k (restW l)) = .ok (l.foldl (fun a i => linA a i.x) x, [])
  | [], _, n, k, x, _ => by cases n <;> rfl
  | i :: l, h, n, k, x, hn => by
    simp only [List.length_cons] at hn
    obtain ⟨n, rfl⟩ : ∃ m, n = m + 1 := ⟨n - 1, by omega⟩
    have e2 : restW (i :: l) = plusW :: (i.ws ++ restW l) := by simp [restW]
    rw [e2]
    have hst : NoStar (toksAt (k + 1 + (cat i.ws).length) (restW l)) := by
      cases l with
      | nil => rfl
      | cons j l => rfl
    have hp := h i (List.mem_cons_self ..) (k + 1) _ hst
    show sumL (partG (facG o)) (n + 1) x (⟨3, ⟨#[43]⟩, 0, k⟩ :: toksAt (k + 1) (i.ws ++ restW l)) = _
    rw [toksAt_append]
    unfold sumL
    simp only
    rw [if_pos (by rfl), hp]
    simp only
    rw [sum_rest o l (fun j hj => h j (List.mem_cons_of_mem _ hj)) n _ _ (by omega)]
    rfl
theorem sum_all (o : Option (List Tok → PRes)) {i : It} {l : List It} (h : ∀ j, j ∈ i :: l → ItPart o j) (k : Nat) : sumG (partG (facG o)) (toksAt k (allW (i :: l))) = .ok (l.foldl (fun a i => linA a i.x) i.x, []) := by
  have hst : NoStar (toksAt (k + (cat i.ws).length) (restW l)) := by
    cases l with
    | nil => rfl
    | cons j l => rfl
  show sumG (partG (facG o)) (toksAt k (i.ws ++ restW l)) = _
  rw [toksAt_append]
  unfold sumG
  rw [h i (List.mem_cons_self ..) k _ hst]
  simp only
  refine sum_rest o l (fun j hj => h j (List.mem_cons_of_mem _ hj)) _ _ _ ?_
  rw [toksAt_length]
  unfold restW
  clear h hst
  induction l with
  | nil => simp
  | cons j l ih =>
    simp only [List.flatMap_cons, List.length_append, List.length_cons]
    omega
theorem addM_snoc {l : Tms} {t : ByteArray × Nat} (h : Nf (l ++ [t])) : addM l [t] = l ++ [t] := by
  have hl : Nf l := ⟨(List.pairwise_append.1 h.1).1, fun p hp => h.2 p (List.mem_append_left _ hp)⟩
  have ht : Nf [t] := ⟨List.pairwise_singleton _ _, fun p hp => h.2 p (List.mem_append_right _ hp)⟩
  refine Nf.uniq (addM_nf hl ht) h fun s => ?_
  rw [cf_addM, cf_append]
theorem addM_nil {l : Tms} (h : Nf l) : addM l [] = l := Nf.uniq (addM_nf h Nf.nil) h fun s => by rw [cf_addM]; simp [cf]
theorem fold_terms : ∀ (r a : Tms), Nf (a ++ r) → (itemsT r).foldl (fun a i => linA a i.x) ⟨a, 0⟩ = ⟨a ++ r, 0⟩
  | [], a, _ => by simp [itemsT]
  | t :: r, a, h => by
    have h' : Nf ((a ++ [t]) ++ r) := by simpa using h
    have h1 : Nf (a ++ [t]) := ⟨(List.pairwise_append.1 h'.1).1, fun p hp => h'.2 p (List.mem_append_left _ hp)⟩
    have ih := fold_terms r (a ++ [t]) h'
    show (itemsT r).foldl (fun a i => linA a i.x) (linA ⟨a, 0⟩ ⟨[t], 0⟩) = _
    have e : linA ⟨a, 0⟩ ⟨[t], 0⟩ = ⟨a ++ [t], 0⟩ := by
      unfold linA
      rw [addM_snoc h1]
      rfl
    rw [e, ih]
    simp
theorem fold_all {x : Lin} (hx : Good x) (i : It) (l : List It) (h : itemsT x.terms ++ itemsN x = i :: l) : l.foldl (fun a i => linA a i.x) i.x = x := by
  have hn := hx.num
  cases ht : x.terms with
  | nil =>
    rw [ht] at h
    have hN : itemsN x = [⟨[numW x.num], ⟨[], x.num⟩⟩] := by unfold itemsN; rw [if_pos (.inr ht)]
    rw [hN] at h
    simp only [itemsT, List.map_nil, List.nil_append, List.cons.injEq] at h
    obtain ⟨rfl, rfl⟩ := h
    cases x
    simp only at ht
    subst ht
    rfl
  | cons t r =>
    rw [ht] at h
    simp only [itemsT, List.map_cons, List.cons_append, List.cons.injEq] at h
    obtain ⟨rfl, rfl⟩ := h
    have hnf : Nf ([t] ++ r) := by rw [List.singleton_append, ← ht]; exact hx.nf
    rw [List.foldl_append]
    have h1 := fold_terms r [t] hnf
    show (itemsN x).foldl (fun a i => linA a i.x) ((itemsT r).foldl (fun a i => linA a i.x) ⟨[t], 0⟩) = x
    rw [h1]
    unfold itemsN
    cases x with
    | mk terms num =>
      simp only at ht hn hnf ⊢
      subst ht
      split
      · show linA ⟨t :: r, 0⟩ ⟨[], num⟩ = _
        unfold linA
        rw [addM_nil hx.nf, Nat.zero_add, Nat.mod_eq_of_lt hn]
      · rename_i h0
        have : num = 0 := by
          rcases Nat.eq_zero_or_pos num with h | h
          · exact h
          · exact absurd (.inl (by omega)) h0
        subst this
        rfl
/-- Text is read as what it was. -/
theorem text_back {x : Lin} (hx : Good x) : (lexS (textL x)).2 = (0, 0) ∧ parseX (lexS (textL x)).1 = .ok x := by
  have hok : ∀ i, i ∈ itemsT x.terms ++ itemsN x → ItOk i ∧ ItPart (lowD 32) i := by
    intro i hi
    rcases List.mem_append.1 hi with hi | hi
    · obtain ⟨t, ht, rfl⟩ := List.mem_map.1 hi
      have h1 := hx.legal t ht
      have h2 := hx.nf.2 t ht
      exact ⟨itemT_ok h1 h2.2, itemT_part _ h1 h2.1 h2.2⟩
    · unfold itemsN at hi
      split at hi
      · rw [List.mem_singleton] at hi
        subst hi
        exact ⟨itemN_ok hx.num _, itemN_part _ _⟩
      · cases hi
  have hch : lexS (textL x) = (toksAt 0 (allW (itemsT x.terms ++ itemsN x)), 0, 0) :=
    chain_lexS (chain_words _ 0 (spelt_all _ fun i hi => (hok i hi).1) (Nat.zero_le _) (by rw [cat_all]; rfl))
  rw [hch]
  refine ⟨rfl, ?_⟩
  cases hl : itemsT x.terms ++ itemsN x with
  | nil =>
    exfalso
    unfold itemsN at hl
    split at hl
    · simp at hl
    · rename_i h0
      have : x.terms = [] := by simpa [itemsT] using hl
      exact h0 (.inr this)
  | cons i l =>
    unfold parseX
    rw [sumD_eq, sum_all (lowD 32) (fun j hj => (hok j (by rw [hl]; exact hj)).2), fold_all hx i l hl]
    rfl
end Go.Sx

set_option linter.unusedVariables false
set_option linter.unusedSimpArgs false
set_option maxRecDepth 100000
namespace Go.Sx
open Go.Proofs
theorem textL_size {x : Lin} (hs : ∀ t, t ∈ x.terms → t.1.size ≤ 32 ∧ t.2 < 4294967296) (hn : x.num < 4294967296) : (textL x).size ≤ (x.terms.length + 1) * 54 := by
  have h1 : (textL x).size = (Lib.join ((x.terms.map pieceL ++ tailL x).map (·.data.toList)) [43]).length := by
    show (List.toArray _).size = _
    rw [List.size_toArray]
  rw [h1]
  have h2 := join_length ((x.terms.map pieceL ++ tailL x).map (·.data.toList)) 53 (fun y hy => by
    obtain ⟨z, hz, rfl⟩ := List.mem_map.1 hy
    have e : z.data.toList.length = z.size := by simp
    rw [e]
    rcases List.mem_append.1 hz with hz | hz
    · obtain ⟨t, ht, rfl⟩ := List.mem_map.1 hz
      exact piece_size (hs t ht).1 (hs t ht).2
    · unfold tailL at hz
      split at hz
      · rw [List.mem_singleton] at hz
        subst hz
        have := dec_size hn
        omega
      · cases hz)
  have h3 : (tailL x).length ≤ 1 := by unfold tailL; split <;> simp
  simp only [List.length_map, List.length_append] at h2
  have h4 : (x.terms.length + (tailL x).length) * (53 + 1) ≤ (x.terms.length + 1) * 54 := Nat.mul_le_mul_right _ (by omega)
  omega
theorem exprBack_hc {h : Hp} {p : Option Addr} {l c N : Nat} {x : Lin} (v : LinIn h p l c x N) (hp : Pow10 h) : HC Tryd.prog 18 #[linV p l c x] h fun w h' => w = .bool true ∧ Ext h h' := by
  refine hcr_of (args := [.agg #[.slice p l c, .int .u32 x.num]]) mixed Tryd.func18 (by kernel_rfl) (t_spandrellaw4_ExprBack_eq p l c x.num) ?_
  unfold t_spandrellaw4_ExprBack
  have hll := v.vw.len
  have hlm : x.terms.length ≤ 9223372036854775807 := by
    have h1 := v.cap
    have h2 := v.capm
    have : maxLen = 9223372036854775807 := rfl
    omega
  refine newB ?_
  intro h1 b1 e1 z1
  refine loads_box b1 ((p, l, c), (x.num : Int), ()) rfl ?_
  dsimp only [flat, unc, unc1, List.nil_append, List.cons_append]
  refine call_boolx (right63_hc (v.vw.keep e1 (by simp)) hlm (fun t ht => (v.names t ht).1)) ?_
  intro h2 e2
  have e02 := e1.trans e2
  refine cond_mk (fun g1 => ?_) (fun g1 => ?_)
  · refine call_boolx (known44_hc (hp.keep e02 (by simp))) ?_
    intro h3 e3
    exact ⟨rfl, e02.trans e3⟩
  · have g1 : rtR none x.terms = true := by simpa using g1
    have gx := rt_good g1 v.coefs v.num
    have b2 := b1.keep e2 (by simp)
    refine loads_box b2 ((p, l, c), ()) rfl ?_
    dsimp only [flat, unc, unc1, List.nil_append, List.cons_append]
    refine cond_mk (fun g2 => ?_) (fun g2 => ?_)
    · refine call_boolx (known44_hc (hp.keep e02 (by simp))) ?_
      intro h3 e3
      exact ⟨rfl, e02.trans e3⟩
    · have g2 := of_decide_eq_false g2
      have h200 : x.terms.length ≤ 200 := by omega
      refine loads_box b2 ((p, l, c), (x.num : Int), ()) rfl ?_
      dsimp only [flat, unc, unc1, List.nil_append, List.cons_append]
      have hsz : ∀ t, t ∈ x.terms → t.1.size ≤ 32 ∧ t.2 < 4294967296 := fun t ht => ⟨legal_size (gx.legal t ht), v.coefs t ht⟩
      refine call_of (text_hc (v.vw.keep e02 (by simp)) (hp.keep e02 (by simp)) (by omega) hsz v.num) ?_
      rintro _ h3 ⟨rfl, e3⟩
      refine ⟨(textL x, ()), rfl, ?_⟩
      dsimp only [flat, unc, unc1, List.nil_append, List.cons_append]
      have htx := textL_size hsz v.num
      have htx2 : (x.terms.length + 1) * 54 ≤ 201 * 54 := Nat.mul_le_mul_right _ (by omega)
      obtain ⟨hb1, hb2⟩ := text_back gx
      refine call_of (tokens42_hc (textL x) h3 (by omega)) ?_
      rintro _ h4 ⟨q, m, d, q', m', d', rfl, s4, _, e4⟩
      refine ⟨((q, m, d), (q', m', d'), (((lexS (textL x)).2.2 : Int) == 0), ()), rfl, ?_⟩
      dsimp only [flat, unc, unc1, List.nil_append, List.cons_append]
      refine call_of (parse46_hc s4.vw (fun i hi => (s4.blk hi).2) (wf_lexS _) (by have := lexS_len (textL x); omega)) ?_
      rintro _ h5 ⟨e5, hv⟩
      rw [hb2] at hv
      obtain ⟨r, n, cr, rfl, s5, _⟩ := hv
      refine ⟨((r, n, cr), (x.num : Int), (0 : Int), ()), rfl, ?_⟩
      dsimp only [flat, unc, unc1, List.nil_append, List.cons_append]
      refine newB ?_
      intro h6 b6 e6 z6
      refine stores_of b6 rfl (by simp) ?_
      intro h7 b7 k7 z7
      have b7 : Box h7 h5.size 69 [.slice r n cr, .int .u32 (x.num : Int)] := b7
      have e57 : Ext h5 h7 := Ch.trans e6 k7 (fun j hj hl => by simp at hj; omega)
      have e27 := ((e3.trans e4).trans e5).trans e57
      have e07 := e02.trans e27
      rw [hb1]
      refine cond_mk (fun _ => ?_) (fun g => by cases g)
      refine cond_mk (fun _ => ?_) (fun g => by cases g)
      refine loads_box (b2.keep e27 (by simp)) ((p, l, c), (x.num : Int), ()) rfl ?_
      dsimp only [flat, unc, unc1, List.nil_append, List.cons_append]
      refine loads_box b7 ((r, n, cr), (x.num : Int), ()) rfl ?_
      dsimp only [flat, unc, unc1, List.nil_append, List.cons_append]
      refine call_boolx (same64_hc (x := x) (y := x) (v.vw.keep e07 (by simp)) (s5.keep' e57 (by simp)).vwT (by omega)) ?_
      intro h8 e8
      rw [linB_refl]
      refine cond_mk (fun _ => ?_) (fun g => by cases g)
      refine call_boolx (known44_hc (hp.keep (e07.trans e8) (by simp))) ?_
      intro h9 e9
      exact ⟨rfl, (e07.trans e8).trans e9⟩
end Go.Sx
