/- Closed runs, part Jd: slicing, indexing, fields, maps over a store. Asked: of the context, what Ok says. -/
import Derived.Test.YtmdncdaladplkaaGreatDoorSxJc
set_option linter.unusedVariables false
set_option linter.unusedSimpArgs false
set_option linter.deprecated false
set_option linter.unusedSectionVars false
namespace Go.Sx.Cr
section
variable {C : Cx} {h0 : Hp} {ρ : Rho} {s s1 : CS} {h : Hp} {e : Ev} {e' : Env} {L : Lp} {K : Value → Hp → Prop} {kk : Value → T}
theorem isStr_of {d : Option TypeDesc} (h : isStrD d = true) : d = some .string := by
  unfold isStrD at h
  split at h
  · rfl
  · cases h
theorem slice_run {t : TypeId} {a a' v : Value} {lo hi : Option Value} (ha : VR ρ a a') (hx : cslice C.P t a lo hi = some v) :
    ∃ v', VR ρ v v' ∧ ∀ (kk : Value → T) (L : Lp) (K : Value → Hp → Prop), kk v' L K h → xslice C.P t a' lo hi none kk L K h := by
  unfold cslice at hx
  obtain ⟨h1, hx⟩ := chk_iff.1 hx
  have hii : (isIntV lo && isIntV hi && isIntV none) = true := by rw [h1]; rfl
  cases hd : C.P.underlying t with
  | none => rw [hd] at hx; cases hx
  | some d =>
    rw [hd] at hx
    cases d <;> first | (cases hx; done) | skip
    · simp only at hx
      cases a <;> first | (cases hx; done) | skip
      cases ha
      obtain ⟨h2, hx⟩ := chk_iff.1 (show chk _ _ = some v from hx)
      cases hx
      refine ⟨_, .string _, fun kk L K hk => ?_⟩
      unfold xslice
      simp only [hii, hd]
      exact ⟨by simpa using h2, hk⟩
    · rename_i e
      simp only at hx
      cases ha with
      | @sl b pl off len cap c' hb hc hl =>
        obtain ⟨h2, hx⟩ := chk_iff.1 (show chk _ _ = some v from hx)
        cases hx
        simp only [Bool.and_eq_true, decide_eq_true_eq, Bool.or_eq_true] at h2
        obtain ⟨⟨h3, h4, h5, h6, h7⟩, h8⟩ := h2
        refine ⟨.slice (some ⟨pl.blk, pl.sh + (off + (lowV lo).toNat * C.P.cellsOf e), none⟩) ((highV len hi).toNat - (lowV lo).toNat) (c' - (lowV lo).toNat), ?_, fun kk L K hk => ?_⟩
        · refine .sl _ _ hb ?_ (by omega)
          rcases hc with ⟨g1, g2⟩ | ⟨g1, g2⟩
          · exact .inl ⟨by omega, by omega⟩
          · rcases h8 with h8 | h8
            · rw [Nat.blt_eq] at h8; omega
            · have h8 := Nat.le_of_ble_eq_true h8
              exact .inr ⟨h8, by unfold half at *; omega⟩
        · unfold xslice
          simp only [hii, hd, h3]
          refine ⟨⟨h4, h5, by omega⟩, ?_⟩
          rw [if_neg (by omega)]
          simp only [Option.map_some, add_box]
          rw [Nat.add_assoc]
          exact hk
      | _ => cases hx
theorem sl_run {t : TypeId} {a a' v : Value} {lo hi mx : Option Operand} {vs vs' : List Value} (ha : VR ρ a a') (hv : VRs ρ vs vs') (hx : csl C.P t lo hi mx a vs = some v) :
    ∃ v', VR ρ v v' ∧ ∀ (kk : Value → T) (L : Lp) (K : Value → Hp → Prop), kk v' L K h → xsl C.P t lo hi mx a' vs' kk L K h := by
  unfold csl at hx
  have one : ∀ {l l' : Value}, VR ρ l l' → isIntV (some l) = true → l' = l := fun hl hi => by
    cases hl <;> first | rfl | (simp [isIntV] at hi; done)
  have ints : ∀ {lo hi : Option Value}, cslice C.P t a lo hi = some v → isIntV lo = true ∧ isIntV hi = true := fun hx => by
    unfold cslice at hx
    have := (chk_iff.1 hx).1
    simpa using this
  split at hx
  · cases hv; exact slice_run ha hx
  · cases hv with
    | cons h1 hv => cases hv; rw [one h1 (ints hx).1]; exact slice_run ha hx
  · cases hv with
    | cons h1 hv => cases hv; rw [one h1 (ints hx).2]; exact slice_run ha hx
  · cases hv with
    | cons h1 hv => cases hv with
      | cons h2 hv => cases hv; rw [one h1 (ints hx).1, one h2 (ints hx).2]; exact slice_run ha hx
  · cases hx
theorem intOf_vr {i i' : Value} {n : Int} (hi : VR ρ i i') (hx : intOf i = some n) : ∃ k, i' = .int k n := by
  cases hi <;> first | (cases hx; done) | (cases hx; exact ⟨_, rfl⟩)
theorem idxA_run {t : TypeId} {a a' i i' v : Value} (ha : VR ρ a a') (hi : VR ρ i i') (hx : cidxA C.P t a i = some v) :
    ∃ v', VR ρ v v' ∧ ∀ (kk : Value → T) (L : Lp) (K : Value → Hp → Prop), kk v' L K h → xidxA C.P t a' i' kk L K h := by
  unfold cidxA at hx
  obtain ⟨n, hn, hx⟩ := Option.bind_eq_some_iff.1 hx
  obtain ⟨k, rfl⟩ := intOf_vr hi hn
  cases hd : C.P.underlying t with
  | none => rw [hd] at hx; cases hx
  | some d =>
    rw [hd] at hx
    cases d <;> first | (cases hx; done) | skip
    case array len el =>
      simp only at hx
      obtain ⟨⟨b, off⟩, hp, hx⟩ := Option.bind_eq_some_iff.1 hx
      obtain ⟨h1, hx⟩ := chk_iff.1 (show chk _ _ = some v from hx)
      cases hx
      have := ptrOf_iff.1 hp
      rw [this] at ha
      obtain ⟨pl, hb, rfl⟩ := ha.ptr_inv
      simp only [Bool.and_eq_true, decide_eq_true_eq] at h1
      refine ⟨_, .ptr _ hb, fun kk L K hk => ?_⟩
      unfold xidxA
      simp only [hd, h1.1, Bool.not_true, cond_false]
      refine ⟨h1.2, ?_⟩
      simp only [T.osome, add_box]
      rw [Nat.add_assoc]
      exact hk
    case slice el =>
      simp only at hx
      cases ha with
      | @sl b pl off len cap c' hb hc hl =>
        obtain ⟨h1, hx⟩ := chk_iff.1 (show chk _ _ = some v from hx)
        cases hx
        simp only [Bool.and_eq_true, decide_eq_true_eq] at h1
        refine ⟨_, .ptr _ hb, fun kk L K hk => ?_⟩
        unfold xidxA
        simp only [hd, h1.1, Bool.not_true, cond_false]
        refine ⟨h1.2, ?_⟩
        simp only [T.osome, add_box]
        rw [Nat.add_assoc]
        exact hk
      | _ => cases hx
theorem idx_run {t : TypeId} {a a' i i' v : Value} (ha : VR ρ a a') (hi : VR ρ i i') (hx : cidx C.P t a i = some v) :
    VR ρ v v ∧ ∀ (kk : Value → T) (L : Lp) (K : Value → Hp → Prop), kk v L K h → xidx C.P t a' i' kk L K h := by
  unfold cidx at hx
  obtain ⟨n, hn, hx⟩ := Option.bind_eq_some_iff.1 hx
  obtain ⟨k, rfl⟩ := intOf_vr hi hn
  cases ha <;> first | (cases hx; done) | skip
  obtain ⟨h1, hx⟩ := chk_iff.1 (show chk _ _ = some v from hx)
  cases hx
  simp only [Bool.and_eq_true, decide_eq_true_eq] at h1
  have hd := isStr_of h1.1
  refine ⟨.int _ _, fun kk L K hk => ?_⟩
  unfold xidx
  simp only [hd]
  exact ⟨h1.2, hk⟩
theorem fld_of {P : Program} {t : TypeId} {f : Nat} {fd : Field} (hx : fldOf P t f = some fd) : ∃ fs, P.underlying t = some (.struct fs) ∧ fs[f]? = some fd := by
  unfold fldOf at hx
  split at hx
  · rename_i fs hd; exact ⟨fs, hd, hx⟩
  · cases hx
theorem fieldA_run {t : TypeId} {f : Nat} {a a' v : Value} (ha : VR ρ a a') (hx : cfieldA C.P t f a = some v) :
    ∃ v', VR ρ v v' ∧ ∀ (kk : Value → T) (L : Lp) (K : Value → Hp → Prop), kk v' L K h → (match a', C.P.underlying t with
    | .pointer p, some (.struct fs) => match fs[f]? with
      | some fd => match C.P.cellsOf fd.type with
        | 0 => T.fail
        | _ + 1 => T.osome p fun a => kk (.pointer (some (a.add fd.offset)))
      | none => T.fail
    | _, _ => T.fail) L K h := by
  unfold cfieldA at hx
  obtain ⟨⟨b, off⟩, hp, hx⟩ := Option.bind_eq_some_iff.1 hx
  obtain ⟨fd, hf, hx⟩ := Option.bind_eq_some_iff.1 hx
  obtain ⟨h1, hx⟩ := chk_iff.1 hx
  cases hx
  have := ptrOf_iff.1 hp
  rw [this] at ha
  obtain ⟨pl, hb, rfl⟩ := ha.ptr_inv
  obtain ⟨fs, hd, hfs⟩ := fld_of hf
  refine ⟨_, .ptr _ hb, fun kk L K hk => ?_⟩
  simp only [hd, hfs]
  have h1 := Nat.le_of_ble_eq_true h1
  cases hc : C.P.cellsOf fd.type with
  | zero => omega
  | succ n =>
    simp only [T.osome, add_box]
    rw [Nat.add_assoc]
    exact hk
theorem part_run {t : TypeId} {off : Nat} {cs cs' : List Value} {v : Value} (hc : VRs ρ cs cs') (hx : cpart C.P t off cs = some v) :
    ∃ v', VR ρ v v' ∧ ∀ (kk : Value → T) (L : Lp) (K : Value → Hp → Prop), kk v' L K h → xpart C.P t cs' off kk L K h := by
  unfold cpart at hx
  obtain ⟨g, hg, hx⟩ := Option.bind_eq_some_iff.1 hx
  unfold isAggD at hg
  cases hd : C.P.underlying t with
  | none => rw [hd] at hg; cases hg
  | some d =>
    rw [hd] at hg
    cases g with
    | true =>
      cases hx
      refine ⟨_, .agg ((hc.drop off).take _), fun kk L K hk => ?_⟩
      unfold xpart
      rw [hd]
      cases d <;> first | (cases hg; done) | exact hk
    | false =>
      obtain ⟨v', h1, h2⟩ := hc.get hx
      refine ⟨v', h2, fun kk L K hk => ?_⟩
      unfold xpart
      rw [hd]
      cases d <;> first | (cases hg; done) | (simp only [h1]; exact hk)
end
end Go.Sx.Cr
