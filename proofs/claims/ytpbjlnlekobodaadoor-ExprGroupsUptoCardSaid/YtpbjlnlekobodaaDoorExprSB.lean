/- Values, groups and texts of sums in plain Lean; the law ExprBack over heaps. Condition: the table of powers of ten as it is laid. -/
import Derived.Test.YtpbjlnlekobodaaDoorExprR
set_option linter.unusedVariables false
set_option linter.unusedSimpArgs false
set_option maxRecDepth 100000
namespace Go.Sx
open Go.Proofs
def valS (f : ByteArray → Nat) : Tms → Nat
  | [] => 0
  | p :: l => p.2 * f p.1 + valS f l
theorem valS_cons (f : ByteArray → Nat) (p : ByteArray × Nat) (l : Tms) : valS f (p :: l) = p.2 * f p.1 + valS f l := rfl
theorem valN_all {f : ByteArray → Option Nat} : ∀ (l : Tms) (n : Nat), n < 4294967296 → (∀ t, t ∈ l → (f t.1).isSome = true) → valN f n l = ((n + valS (fun s => (f s).getD 0) l) % 4294967296, true)
  | [], n, hn, _ => by simp [valN, valS, Nat.mod_eq_of_lt hn]
  | t :: r, n, hn, h => by
    obtain ⟨v, hv⟩ := Option.isSome_iff_exists.1 (h t (List.mem_cons_self ..))
    rw [valN_cons, hv]
    dsimp only
    rw [valN_all r _ (Nat.mod_lt _ (by decide)) (fun u hu => h u (List.mem_cons_of_mem _ hu)), valS_cons, hv, Option.getD_some]
    congr 1
    omega
theorem mod_mul' (a b : Nat) : a % 4294967296 * b % 4294967296 = a * b % 4294967296 := by rw [Nat.mul_mod, Nat.mod_mod, ← Nat.mul_mod]
theorem valS_timesN (f : ByteArray → Nat) (n : Nat) : ∀ l : Tms, valS f (timesN n l) % 4294967296 = valS f l * n % 4294967296
  | [] => by simp [timesN, valS]
  | p :: l => by
    have ih := valS_timesN f n l
    have h1 := mod_mul' (p.2 * n) (f p.1)
    have h2 : (p.2 * f p.1 + valS f l) * n = p.2 * n * f p.1 + valS f l * n := by rw [Nat.add_mul, Nat.mul_right_comm]
    have hc : timesN n (p :: l) = if p.2 * n % 4294967296 = 0 then timesN n l else (p.1, p.2 * n % 4294967296) :: timesN n l := by
      unfold timesN
      rw [List.filterMap_cons]
      split
      · rename_i hg
        split at hg
        · rename_i h0
          rw [if_pos h0]
        · cases hg
      · rename_i hg
        split at hg
        · cases hg
        · rename_i h0
          cases hg
          rw [if_neg h0]
    rw [hc, valS_cons, h2]
    split
    · rename_i h0
      rw [h0, Nat.zero_mul] at h1
      omega
    · rw [valS_cons]
      dsimp only
      omega
theorem valS_addF (f : ByteArray → Nat) {n : Nat} {x y : Tms} (hn : x.length + y.length ≤ n) : valS f (addF n x y) % 4294967296 = (valS f x + valS f y) % 4294967296 := by
  induction n generalizing x y with
  | zero =>
    have h1 : x = [] := List.length_eq_zero_iff.1 (by omega)
    have h2 : y = [] := List.length_eq_zero_iff.1 (by omega)
    subst h1 h2
    rfl
  | succ n ih =>
    rcases x with _ | ⟨p, x⟩ <;> rcases y with _ | ⟨q, y⟩
    · rfl
    · simp only [addF, valS]
      have := ih (x := []) (y := y) (by simp at hn ⊢; omega)
      simp only [valS] at this
      omega
    · simp only [addF, valS]
      have := ih (x := x) (y := []) (by simp at hn ⊢; omega)
      simp only [valS] at this
      omega
    · simp only [List.length_cons] at hn
      simp only [addF]
      split
      · have := ih (x := x) (y := q :: y) (by simp; omega)
        simp only [valS] at this ⊢
        omega
      · rename_i h1
        split
        · have := ih (x := p :: x) (y := y) (by simp; omega)
          simp only [valS] at this ⊢
          omega
        · rename_i h2
          have he := ltN_tri _ _ h1 h2
          have := ih (x := x) (y := y) (by omega)
          have h3 := mod_mul' (p.2 + q.2) (f p.1)
          rw [Nat.add_mul] at h3
          split
          · rename_i h0
            rw [h0, Nat.zero_mul] at h3
            simp only [valS, ← he]
            omega
          · simp only [valS, ← he]
            omega
theorem valS_addM (f : ByteArray → Nat) (x y : Tms) : valS f (addM x y) % 4294967296 = (valS f x + valS f y) % 4294967296 := valS_addF f (Nat.le_refl _)
theorem valN_none {t : ByteArray × Nat} {r : Tms} (n : Nat) : valN (getO []) n (t :: r) = (0, false) := rfl
theorem getO_isSome_putN (D : Tms) (t : ByteArray) (v : Nat) (s : ByteArray) (h : s = t ∨ (getO D s).isSome = true) : (getO (putN D t v) s).isSome = true := by
  unfold getO putN at *
  simp only [Option.isSome_map] at h ⊢
  rw [List.find?_isSome] at *
  split
  · rename_i hs
    rw [List.find?_isSome] at hs
    rcases h with rfl | ⟨p, hp, he⟩
    · obtain ⟨p, hp, he⟩ := hs
      refine ⟨(p.1, v), List.mem_map.2 ⟨p, hp, ?_⟩, he⟩
      rw [if_pos (of_decide_eq_true he)]
    · refine ⟨if t = p.1 then (p.1, v) else p, List.mem_map.2 ⟨p, hp, rfl⟩, ?_⟩
      split <;> exact he
  · rcases h with rfl | ⟨p, hp, he⟩
    · exact ⟨(s, v), by simp, by simp⟩
    · exact ⟨p, by simp [hp], he⟩
/-! Sums in any order. -/
theorem linA_ext {x y : Lin} (hx : Nf x.terms) (hy : Nf y.terms) (h : ∀ s, cf x.terms s % 4294967296 = cf y.terms s % 4294967296) (hn : x.num = y.num) : x = y := by
  cases x; cases y
  simp only at hn
  subst hn
  simp only at h hx hy
  rw [Nf.uniq hx hy h]
theorem linA_nf {x y : Lin} (hx : Nf x.terms) (hy : Nf y.terms) : Nf (linA x y).terms := addM_nf hx hy
theorem linT_nf {x : Lin} (hx : Nf x.terms) (n : Nat) : Nf (linT x n).terms := timesN_nf hx
theorem linA_group {x y z : Lin} (hx : Nf x.terms) (hy : Nf y.terms) (hz : Nf z.terms) : linA (linA x y) z = linA y (linA z x) := by
  refine linA_ext (linA_nf (linA_nf hx hy) hz) (linA_nf hy (linA_nf hz hx)) (fun s => ?_) ?_
  · have h1 := cf_addM (linA x y).terms z.terms s
    have h2 := cf_addM x.terms y.terms s
    have h3 := cf_addM y.terms (linA z x).terms s
    have h4 := cf_addM z.terms x.terms s
    show cf (addM (linA x y).terms z.terms) s % 4294967296 = cf (addM y.terms (linA z x).terms) s % 4294967296
    have e1 : (linA x y).terms = addM x.terms y.terms := rfl
    have e2 : (linA z x).terms = addM z.terms x.terms := rfl
    rw [e1] at h1 ⊢
    rw [e2] at h3 ⊢
    omega
  · show ((x.num + y.num) % 4294967296 + z.num) % 4294967296 = (y.num + (z.num + x.num) % 4294967296) % 4294967296
    omega
theorem linT_sum {x y : Lin} (hx : Nf x.terms) (hy : Nf y.terms) (n : Nat) : linA (linT x n) (linT y n) = linT (linA x y) n := by
  refine linA_ext (linA_nf (linT_nf hx n) (linT_nf hy n)) (linT_nf (linA_nf hx hy) n) (fun s => ?_) ?_
  · have h1 := cf_addM (timesN n x.terms) (timesN n y.terms) s
    have h2 := cf_timesN n x.terms s
    have h3 := cf_timesN n y.terms s
    have h4 := cf_timesN n (addM x.terms y.terms) s
    have h5 := cf_addM x.terms y.terms s
    have h6 := mod_mul' (cf (addM x.terms y.terms) s) n
    have h7 := mod_mul' (cf x.terms s + cf y.terms s) n
    rw [h5] at h6
    have h8 : (cf x.terms s + cf y.terms s) * n = cf x.terms s * n + cf y.terms s * n := Nat.add_mul ..
    show cf (addM (timesN n x.terms) (timesN n y.terms)) s % 4294967296 = cf (timesN n (addM x.terms y.terms)) s % 4294967296
    omega
  · show (x.num * n % 4294967296 + y.num * n % 4294967296) % 4294967296 = (x.num + y.num) % 4294967296 * n % 4294967296
    rw [mod_mul', Nat.add_mul]
    omega
theorem linA_zero {x : Lin} (hx : Nf x.terms) : linA x (linT x 4294967295) = linZ := by
  refine linA_ext (linA_nf hx (linT_nf hx _)) Nf.nil (fun s => ?_) ?_
  · have h1 := cf_addM x.terms (timesN 4294967295 x.terms) s
    have h2 := cf_timesN 4294967295 x.terms s
    show cf (addM x.terms (timesN 4294967295 x.terms)) s % 4294967296 = 0 % 4294967296
    omega
  · show (x.num + x.num * 4294967295 % 4294967296) % 4294967296 = 0
    omega
end Go.Sx
