/- Closed runs, part Jb: structs, slice literals, append. No condition but the store's. -/
import Derived.Test.YtmdncdaladplkaaGreatDoorSxJa
set_option linter.unusedVariables false
set_option linter.unusedSimpArgs false
set_option linter.deprecated false
set_option linter.unusedSectionVars false
namespace Go.Sx.Cr
inductive PR (ρ : Rho) : List (Nat × Value) → List (Nat × Value) → Prop
  | nil : PR ρ [] []
  | cons (i : Nat) {v v' : Value} {l l' : List (Nat × Value)} (h : VR ρ v v') (t : PR ρ l l') : PR ρ ((i, v) :: l) ((i, v') :: l')
inductive QR (ρ : Rho) : List (Nat × List Value) → List (Nat × List Value) → Prop
  | nil : QR ρ [] []
  | cons (i : Nat) {v v' : List Value} {l l' : List (Nat × List Value)} (h : VRs ρ v v') (t : QR ρ l l') : QR ρ ((i, v) :: l) ((i, v') :: l')
theorem PR.zip {ρ : Rho} : ∀ (is : List Nat) {vs vs' : List Value}, VRs ρ vs vs' → PR ρ (is.zip vs) (is.zip vs')
  | [], _, _, _ => by simp only [List.zip_nil_left]; exact .nil
  | i :: is, _, _, .nil => by simp only [List.zip_nil_right]; exact .nil
  | i :: is, _, _, .cons h t => by simp only [List.zip_cons_cons]; exact .cons i h (PR.zip is t)
theorem VRs.putL {ρ : Rho} : ∀ {vs vs' l l' : List Value} (i : Nat), VRs ρ l l' → VRs ρ vs vs' → VRs ρ (putL l i vs) (putL l' i vs')
  | _, _, _, _, _, h, .nil => h
  | _, _, _, _, i, h, .cons hv t => VRs.putL (i + 1) (h.set i hv) t
theorem fillL_of {ρ : Rho} {place : Nat → Option (Nat × Nat)} : ∀ (r : List (Nat × List Value)) {r' : List (Nat × List Value)} {c c' cs : List Value}, fillL place c r = some cs → VRs ρ c c' → QR ρ r r' → ∃ cs', fillL place c' r' = some cs' ∧ VRs ρ cs cs'
  | [], r', c, c', cs, h, hc, hq => by
    have : some c = some cs := h
    cases this
    cases hq
    exact ⟨c', rfl, hc⟩
  | (i, v) :: r, r', c, c', cs, h, hc, hq => by
    cases hq with
    | cons _ hv t =>
    unfold fillL at h ⊢
    cases hp : place i with
    | none => rw [hp] at h; cases h
    | some p =>
      obtain ⟨off, size⟩ := p
      rw [hp] at h
      simp only at h ⊢
      rw [← hv.length, ← hc.length]
      cases hb : (!Nat.beq v.length size || Nat.blt c.length (off + v.length)) with
      | true => rw [hb] at h; cases h
      | false =>
        rw [hb] at h
        exact fillL_of r h (hc.putL off hv) t
section
variable {C : Cx} {h0 : Hp} {ρ : Rho} {s s1 : CS} {h : Hp} {e : Ev} {e' : Env} {L : Lp} {K : Value → Hp → Prop} {kk : Value → T}
theorem ccells_of {agg : Nat → Option Bool} : ∀ {ps ps' : List (Nat × Value)} {r : List (Nat × List Value)}, PR ρ ps ps' → ccells agg ps = some r → ∃ r', QR ρ r r' ∧ ∀ (k : List (Nat × List Value) → T) (L : Lp) (K : Value → Hp → Prop), k r' L K h → xcells agg ps' k L K h
  | _, _, r, .nil, hx => by
    have : some [] = some r := hx
    cases this
    exact ⟨[], .nil, fun k L K hk => hk⟩
  | _, _, r, .cons (v := v) (v' := v') (l := l) (l' := l') i hv t, hx => by
    obtain ⟨g, hg, hx⟩ := Option.bind_eq_some_iff.1 (show (agg i).bind _ = some r from hx)
    obtain ⟨c, hc, hx⟩ := Option.bind_eq_some_iff.1 hx
    obtain ⟨q, hq, hx⟩ := Option.bind_eq_some_iff.1 hx
    cases hx
    obtain ⟨ha, c', h1, h2⟩ := cellsIf_of hv hc
    obtain ⟨q', h3, h4⟩ := ccells_of t hq
    refine ⟨(i, c') :: q', .cons i h1 h3, fun k L K hk => ?_⟩
    unfold xcells
    subst h2
    cases g with
    | true => simp only [hg, ha, cond_true]; exact h4 _ _ _ hk
    | false => simp only [hg, ha, cond_false]; exact h4 _ _ _ hk
theorem build_run {t : TypeId} {ps ps' : List (Nat × Value)} {v : Value} (hp : PR ρ ps ps') (hx : cbuild C.P t ps = some v) : ∃ v', VR ρ v v' ∧ ∀ (kk : Value → T) (L : Lp) (K : Value → Hp → Prop), kk v' L K h →
    (match C.P.underlying t, (C.P.info? t).bind (·.zero) with
    | some (.struct fs), some z =>
      bif !(fs.all fun (f : Field) => hasT C.P f.type) then T.fail else xcells (fun i => (fs[i]?).bind fun (f : Field) => isAggD C.P f.type) ps' fun ls => match fillL (((fs.map fun (f : Field) => (f.offset, C.P.cellsOf f.type)))[·]?) z.cells.toList ls with
      | some cs => kk (.agg cs.toArray)
      | none => T.fail
    | some (.array _ el), some z =>
      bif !hasT C.P el then T.fail else xcells (fun _ => isAggD C.P el) ps' fun ls => match fillL (fun i => some (i * C.P.cellsOf el, C.P.cellsOf el)) z.cells.toList ls with
      | some cs => kk (.agg cs.toArray)
      | none => T.fail
    | _, _ => T.fail) L K h := by
  unfold cbuild at hx
  obtain ⟨z, hz, hx⟩ := Option.bind_eq_some_iff.1 hx
  obtain ⟨zv, hz1, rfl, hz2⟩ := zeroOf_iff hz
  split at hx
  · rename_i fs hu
    unfold cbuildS at hx
    obtain ⟨h1, hx⟩ := chk_iff.1 hx
    obtain ⟨ls, hl, hx⟩ := Option.bind_eq_some_iff.1 hx
    obtain ⟨cs, hc, hx⟩ := Option.bind_eq_some_iff.1 hx
    cases hx
    obtain ⟨r', h2, h3⟩ := ccells_of (h := h) hp hl
    obtain ⟨cs', h4, h5⟩ := fillL_of _ hc (hz2 ρ) h2
    refine ⟨.agg ⟨cs'⟩, .agg h5, fun kk L K hk => ?_⟩
    simp only [hu, hz1, h1, Bool.not_true, cond_false]
    refine h3 _ _ _ ?_
    simp only [h4]
    exact hk
  · rename_i n el hu
    unfold cbuildA at hx
    obtain ⟨h1, hx⟩ := chk_iff.1 hx
    obtain ⟨ls, hl, hx⟩ := Option.bind_eq_some_iff.1 hx
    obtain ⟨cs, hc, hx⟩ := Option.bind_eq_some_iff.1 hx
    cases hx
    obtain ⟨r', h2, h3⟩ := ccells_of (h := h) hp hl
    obtain ⟨cs', h4, h5⟩ := fillL_of _ hc (hz2 ρ) h2
    refine ⟨.agg ⟨cs'⟩, .agg h5, fun kk L K hk => ?_⟩
    simp only [hu, hz1, h1, Bool.not_true, cond_false]
    refine h3 _ _ _ ?_
    simp only [h4]
    exact hk
  · cases hx
/-- Of an element's type. -/
structure ElIs (P : Program) (t : TypeId) (q : El) (i : TypeInfo) (z : Value) : Prop where
  und : P.underlying t = some (.slice q.e)
  info : P.info? q.e = some i
  zero : i.zero = some z
  sz : i.size = q.sz
  by_ : i.bytes = q.by_
  zl : q.z = z.cells.toList
  zs : z.cells.size = i.size
  pos : 1 ≤ q.sz
  flat : ∀ ρ, VRs ρ q.z q.z
theorem elOf_is {P : Program} {t : TypeId} {q : El} (hx : elOf P t = some q) : ∃ i z, ElIs P t q i z := by
  unfold elOf at hx
  obtain ⟨e, he, hx⟩ := Option.bind_eq_some_iff.1 hx
  have hu : P.underlying t = some (.slice e) := by
    unfold elemOf at he
    split at he
    · rename_i hh; cases he; exact hh
    · cases he
  unfold infoOf at hx
  obtain ⟨i, hi, hx⟩ := Option.bind_eq_some_iff.1 hx
  obtain ⟨z, hz, hx⟩ := Option.bind_eq_some_iff.1 hx
  obtain ⟨h1, hx⟩ := chk_iff.1 hx
  cases hx
  simp only [Bool.and_eq_true] at h1
  exact ⟨i, z, hu, hi, hz, rfl, rfl, rfl, Nat.eq_of_beq_eq_true h1.1.2, Nat.le_of_ble_eq_true h1.2, fun ρ => flat_all (flat_vr 9) _ h1.1.1⟩
theorem setL_put : ∀ (xs : List Value) (i : Nat) (vs : List Value), putL xs i vs = setL xs i vs
  | xs, i, [] => rfl
  | xs, i, v :: vs => setL_put (xs.set i v) (i + 1) vs
theorem seqL_fill {sz : Nat} : ∀ {r : List (Nat × List Value)} {i : Nat} {cs A B : List Value}, seqL sz i r = some cs → A.length = i * sz → B.length = r.length * sz → fillL (fun j => some (j * sz, sz)) (A ++ B) r = some (A ++ cs)
  | [], i, cs, A, B, h, hA, hB => by
    have : some [] = some cs := h
    cases this
    have : B = [] := List.eq_nil_of_length_eq_zero (by simpa using hB)
    subst this
    rfl
  | (k, c) :: r, i, cs, A, B, h, hA, hB => by
    obtain ⟨h1, h⟩ := chk_iff.1 (show chk _ _ = some cs from h)
    obtain ⟨d, hd, h⟩ := Option.bind_eq_some_iff.1 h
    cases h
    simp only [Bool.and_eq_true] at h1
    obtain rfl : k = i := Nat.eq_of_beq_eq_true h1.1
    have hc : c.length = sz := Nat.eq_of_beq_eq_true h1.2
    simp only [List.length_cons, Nat.add_mul, Nat.one_mul] at hB
    unfold fillL
    simp only
    have hb1 : Nat.beq c.length sz = true := by rw [hc]; exact Nat.beq_refl _
    have hb2 : Nat.blt (A ++ B).length (k * sz + c.length) = false := by
      cases hb : Nat.blt (A ++ B).length (k * sz + c.length) with
      | false => rfl
      | true =>
        rw [Nat.blt_eq] at hb
        rw [List.length_append] at hb; omega
    rw [hb1, hb2]
    simp only [Bool.not_true, Bool.or_false, cond_false]
    have hsplit : A ++ B = A ++ (B.take sz ++ B.drop sz) := by rw [List.take_append_drop]
    rw [setL_put, hsplit, ← hA, setL_mid (by rw [List.length_take]; omega), ← List.append_assoc]
    rw [seqL_fill hd (A := A ++ c) (by rw [List.length_append, hA, hc, Nat.add_mul, Nat.one_mul]) (by rw [List.length_drop]; omega), List.append_assoc]
theorem seqL_of {sz : Nat} : ∀ (r : List (Nat × List Value)) {r' : List (Nat × List Value)} {i : Nat} {cs : List Value}, seqL sz i r = some cs → QR ρ r r' → ∃ cs', seqL sz i r' = some cs' ∧ VRs ρ cs cs' ∧ r'.length = r.length
  | [], r', i, cs, h, hq => by
    have : some [] = some cs := h
    cases this
    cases hq
    exact ⟨[], rfl, .nil, rfl⟩
  | (k, v) :: r, r', i, cs, h, hq => by
    cases hq with
    | cons _ hv t =>
    rename_i v' r'
    obtain ⟨h1, h⟩ := chk_iff.1 (show chk _ _ = some cs from h)
    obtain ⟨d, hd, h⟩ := Option.bind_eq_some_iff.1 h
    cases h
    obtain ⟨d', h2, h3, h4⟩ := seqL_of r hd t
    refine ⟨v' ++ d', ?_, hv.append h3, by simp [h4]⟩
    unfold seqL
    rw [← hv.length, h1, h2]; rfl
theorem partL_of : ∀ {ps ps' : List (Nat × Value)}, PR ρ ps ps' → QR ρ (partL ps) (partL ps') ∧ CellsAs ps' (partL ps')
  | _, _, .nil => ⟨.nil, .nil⟩
  | _, _, .cons (v := v) (v' := v') i hv t => by
    obtain ⟨h1, h2⟩ := partL_of t
    unfold partL
    cases ha : aggL v with
    | some c =>
      have := aggL_iff.1 ha; subst this
      cases hv with
      | agg hl =>
        refine ⟨.cons i hl h1, ?_⟩
        exact CellsAs.cons rfl h2
    | none =>
      have ha' : aggL v' = none := by
        cases hv <;> first | rfl | (simp [aggL] at ha; done)
      rw [ha']
      refine ⟨.cons i (.cons hv .nil) h1, ?_⟩
      refine CellsAs.cons ?_ h2
      have : isAggV v' = false := by
        unfold aggL at ha'
        split at ha'
        · cases ha'
        · rename_i hn
          cases v' <;> first | rfl | (rename_i cs; exact (hn cs.toList rfl).elim)
      exact (cells_plain this)
end
end Go.Sx.Cr
