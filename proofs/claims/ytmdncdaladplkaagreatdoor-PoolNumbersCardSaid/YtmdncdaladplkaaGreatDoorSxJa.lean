/- Closed runs, part Ja: cells that are read and written, blocks that are made. No condition but the store's. -/
import Derived.Test.YtmdncdaladplkaaGreatDoorSxJ
set_option linter.unusedVariables false
set_option linter.unusedSimpArgs false
set_option linter.deprecated false
set_option linter.unusedSectionVars false
namespace Go.Sx.Cr
section
variable {C : Cx} {h0 : Hp} {ρ : Rho} {s s1 : CS} {h : Hp} {e : Ev} {e' : Env} {L : Lp} {K : Value → Hp → Prop} {kk : Value → T}
theorem fitV_of {d : TypeDesc} {v v' : Value} (hv : VR ρ v v') (hf : fitV d v = true) : ∃ x : Sv d, sval d x = v' := by
  cases d with
  | bool => cases hv <;> first | exact ⟨_, rfl⟩ | (simp [fitV] at hf; done)
  | int k => cases hv <;> first | (simp [fitV] at hf; done) | (simp only [fitV, decide_eq_true_eq] at hf; subst hf; exact ⟨_, rfl⟩)
  | string => cases hv <;> first | exact ⟨_, rfl⟩ | (simp [fitV] at hf; done)
  | pointer _ => cases hv <;> first | exact ⟨none, rfl⟩ | exact ⟨some _, rfl⟩ | (simp [fitV] at hf; done)
  | slice _ => cases hv <;> first | exact ⟨(none, _, _), rfl⟩ | exact ⟨(some _, _, _), rfl⟩ | (simp [fitV] at hf; done)
  | map _ _ => cases hv <;> first | exact ⟨none, rfl⟩ | exact ⟨some _, rfl⟩ | (simp [fitV] at hf; done)
  | _ => exact ⟨v', rfl⟩
theorem fits_of : ∀ {ds : List TypeDesc} {vs vs' : List Value}, VRs ρ vs vs' → fits ds vs = true → ∃ x : HVs ds, hvs ds x = vs'
  | [], [], _, .nil, _ => ⟨(), rfl⟩
  | d :: ds, v :: vs, _, .cons hv ht, hf => by
    simp only [fits, Bool.and_eq_true] at hf
    obtain ⟨x, hx⟩ := fitV_of hv hf.1
    obtain ⟨y, hy⟩ := fits_of ht hf.2
    exact ⟨(x, y), by simp only [hvs, hx, hy]⟩
  | [], _ :: _, _, _, hf => by simp [fits] at hf
  | _ :: _, [], _, _, hf => by simp [fits] at hf
theorem fits_len : ∀ {ds : List TypeDesc} {vs : List Value}, fits ds vs = true → vs.length = ds.length
  | [], [], _ => rfl
  | d :: ds, v :: vs, hf => by
    simp only [fits, Bool.and_eq_true] at hf
    simp [fits_len hf.2]
  | [], _ :: _, hf => by simp [fits] at hf
  | _ :: _, [], hf => by simp [fits] at hf
theorem aggL_iff {v : Value} {l : List Value} : aggL v = some l ↔ v = .agg ⟨l⟩ := by
  unfold aggL
  split
  · simp
  · rename_i hn
    simp only [reduceCtorEq, false_iff]
    intro hh; exact hn _ hh
theorem tupL_iff {v : Value} {l : List Value} : tupL v = some l ↔ v = .tuple ⟨l⟩ := by
  unfold tupL
  split
  · simp
  · rename_i hn
    simp only [reduceCtorEq, false_iff]
    intro hh; exact hn _ hh
theorem fitC_of {c : Comp} {v v' : Value} (hv : VR ρ v v') (hf : fitC c v = true) : ∃ x : HVs c.2, ∀ rest rs, parts (c :: rest) (hvs _ x ++ rs) = v' :: parts rest rs := by
  obtain ⟨b, ds⟩ := c
  cases b with
  | true =>
    unfold fitC at hf
    simp only at hf
    cases ha : aggL v with
    | none => rw [ha] at hf; cases hf
    | some l =>
      rw [ha] at hf
      have := aggL_iff.1 ha; subst this
      cases hv with
      | agg hl =>
        obtain ⟨x, hx⟩ := fits_of hl hf
        refine ⟨x, fun rest rs => ?_⟩
        have hn := hvs_length ds x
        simp only [parts]
        rw [← hn, List.take_left, List.drop_left, hx]
  | false =>
    unfold fitC at hf
    simp only at hf
    have hn := fits_len hf
    obtain ⟨x, hx⟩ := fits_of (.cons hv .nil) hf
    refine ⟨x, fun rest rs => ?_⟩
    simp only [parts]
    rw [hx]
    rfl
theorem hvs_app : ∀ (ds es : List TypeDesc) (x : HVs ds) (y : HVs es), ∃ z : HVs (ds ++ es), hvs _ z = hvs _ x ++ hvs _ y
  | [], es, x, y => ⟨y, rfl⟩
  | d :: ds, es, x, y => by
    obtain ⟨z, hz⟩ := hvs_app ds es x.2 y
    exact ⟨(x.1, z), by simp only [hvs, hz, List.cons_append]⟩
theorem fitCs_of : ∀ {cs : List Comp} {vs vs' : List Value}, VRs ρ vs vs' → fitCs cs vs = true → ∃ x : HVs (flat cs), parts cs (hvs _ x) = vs'
  | [], [], _, .nil, _ => ⟨(), rfl⟩
  | c :: cs, v :: vs, _, .cons hv ht, hf => by
    simp only [fitCs, Bool.and_eq_true] at hf
    obtain ⟨x, hx⟩ := fitC_of hv hf.1
    obtain ⟨y, hy⟩ := fitCs_of ht hf.2
    obtain ⟨z, hz⟩ := hvs_app c.2 (flat cs) x y
    refine ⟨z, ?_⟩
    show parts (c :: cs) (hvs (c.2 ++ flat cs) z) = _
    rw [hz, hx, hy]
  | [], _ :: _, _, _, hf => by simp [fitCs] at hf
  | _ :: _, [], _, _, hf => by simp [fitCs] at hf
theorem fitR_of {q : Bool × List Comp} {v v' : Value} (hv : VR ρ v v') (hf : fitR q v = true) : ∃ x : HVs (flat q.2), v' = rv q.1 q.2 (hvs _ x) := by
  obtain ⟨b, cs⟩ := q
  cases b with
  | true =>
    unfold fitR at hf
    simp only at hf
    cases ha : tupL v with
    | none => rw [ha] at hf; cases hf
    | some l =>
      rw [ha] at hf
      have := tupL_iff.1 ha; subst this
      cases hv with
      | tuple hl =>
        obtain ⟨x, hx⟩ := fitCs_of hl hf
        exact ⟨x, by simp only [rv]; rw [hx]⟩
  | false =>
    unfold fitR at hf
    simp only at hf
    obtain ⟨x, hx⟩ := fitCs_of (.cons hv .nil) hf
    exact ⟨x, by simp only [rv]; rw [hx]; rfl⟩
/-- Cells that are read. -/
theorem cells_of (R : Rel C h0 ρ s.σ h) {b off n : Nat} {vs : List Value} (hx : cells C s b off n = some vs) {pl : Pl} (hp : ρ b = some pl) :
    vs.length = n ∧ ∃ vs', VRs ρ vs vs' ∧ cellsAt h ⟨pl.blk, pl.sh + off, none⟩ 0 vs' := by
  unfold cells cellsO at hx
  split at hx
  · rename_i c e m hb
    obtain ⟨h1, h2⟩ := takeX_spec off n c vs hx
    obtain ⟨cs, f, hg, hc, _⟩ := R.row hb hp
    exact ⟨h1, cellsAt_of hg vs 0 fun j v hj => by rw [Nat.add_zero]; exact hc _ _ (h2 j v hj)⟩
  · rename_i hb
    obtain ⟨c, hc, hx⟩ := Option.bind_eq_some_iff.1 hx
    obtain ⟨h1, h2⟩ := takeX_spec off n c vs hx
    obtain ⟨hlt, cs, e, f, hg, hcs⟩ := R.ro b c hc
    rw [R.glob b hlt] at hp
    cases hp
    have hg' : h[b]? = some (.cells cs e f) := by rw [R.base b (lt_of_get hg)]; exact hg
    refine ⟨h1, cellsAt_of (pl := ⟨b, 0, 0⟩) hg' vs 0 fun j v hj => ?_⟩
    obtain ⟨e1, e2⟩ := hcs _ v (h2 j v hj)
    exact ⟨v, by simpa using e1, flat_vr 9 v e2⟩
  · cases hx
theorem ptrOf_iff {v : Value} {b off : Nat} : ptrOf v = some (b, off) ↔ v = .pointer (some ⟨b, off, none⟩) := by
  unfold ptrOf
  split
  · simp
  · rename_i hn
    simp only [reduceCtorEq, false_iff]
    intro hh; exact hn _ _ hh
theorem VR.ptr_inv {b off : Nat} {v' : Value} (hv : VR ρ (.pointer (some ⟨b, off, none⟩)) v') : ∃ pl, ρ b = some pl ∧ v' = .pointer (some ⟨pl.blk, pl.sh + off, none⟩) := by
  cases hv with
  | ptr off h => exact ⟨_, h, rfl⟩
/-- A load. -/
theorem cload_of (R : Rel C h0 ρ s.σ h) {t : TypeId} {v v' u : Value} {b off : Nat} {l : List Value} (hv : VR ρ v v') (hx : cload C t v s = some (b, off, l, u)) :
    ∃ pl l' u', ρ b = some pl ∧ v' = .pointer (some ⟨pl.blk, pl.sh + off, none⟩) ∧ VRs ρ l l' ∧ VR ρ u u' ∧ cellsAt h ⟨pl.blk, pl.sh + off, none⟩ 0 l' ∧ cells C s b off l.length = some l ∧
      ((isAggD C.P t = some true ∧ ((flatD C.P 9 t).length == C.P.cellsOf t) = true ∧ u' = .agg l'.toArray ∧ ∃ x : HVs (flatD C.P 9 t), hvs _ x = l') ∨
       (isAggD C.P t = some false ∧ u' = l'.headD undef ∧ ∃ x : HVs (compD C.P t).2, hvs _ x = l')) := by
  unfold cload at hx
  obtain ⟨⟨b1, off1⟩, hp, hx⟩ := Option.bind_eq_some_iff.1 hx
  obtain ⟨g, hg, hx⟩ := Option.bind_eq_some_iff.1 hx
  have := ptrOf_iff.1 hp; subst this
  obtain ⟨pl, hpl, rfl⟩ := hv.ptr_inv
  cases g with
  | true =>
    simp only [loadA] at hx
    obtain ⟨h1, hx⟩ := chk_iff.1 hx
    obtain ⟨vs, hc, hx⟩ := Option.bind_eq_some_iff.1 hx
    obtain ⟨h2, hx⟩ := chk_iff.1 hx
    cases hx
    obtain ⟨hn, l', h3, h4⟩ := cells_of R hc hpl
    obtain ⟨x, hx⟩ := fits_of h3 h2
    exact ⟨pl, l', .agg l'.toArray, hpl, rfl, h3, .agg h3, h4, by rw [hn]; exact hc, .inl ⟨hg, by simpa using h1, rfl, x, hx⟩⟩
  | false =>
    simp only [loadC] at hx
    obtain ⟨vs, hc, hx⟩ := Option.bind_eq_some_iff.1 hx
    obtain ⟨h2, hx⟩ := chk_iff.1 hx
    cases hx
    obtain ⟨hn, l', h3, h4⟩ := cells_of R hc hpl
    obtain ⟨x, hx⟩ := fits_of h3 h2
    refine ⟨pl, l', l'.headD undef, hpl, rfl, h3, ?_, h4, by rw [hn]; exact hc, .inr ⟨hg, rfl, x, hx⟩⟩
    cases h3 with
    | nil => exact undef_vr
    | cons h _ => exact h
theorem load_run (R : Rel C h0 ρ s.σ h) {t : TypeId} {v v' u : Value} {b off : Nat} {l : List Value} (hv : VR ρ v v') (hx : cload C t v s = some (b, off, l, u)) :
    ∃ pl l' u', ρ b = some pl ∧ VRs ρ l l' ∧ VR ρ u u' ∧ cells C s b off l.length = some l ∧ ∀ (kk : Addr → List Value → Value → T) (L : Lp) (K : Value → Hp → Prop), kk ⟨pl.blk, pl.sh + off, none⟩ l' u' L K h →
      (match v', isAggD C.P t with
        | .pointer p, some true => bif (flatD C.P 9 t).length == C.P.cellsOf t then T.osome p fun a => T.loads a (flatD C.P 9 t) (cur _ fun l => kk a l (.agg l.toArray)) else T.fail
        | .pointer p, some false => T.osome p fun a => T.loads a (compD C.P t).2 (cur _ fun l => kk a l (l.headD undef))
        | _, _ => T.fail) L K h := by
  obtain ⟨pl, l', u', h1, h2, h3, h4, h5, h6, h7⟩ := cload_of R hv hx
  refine ⟨pl, l', u', h1, h3, h4, h6, fun kk L K hk => ?_⟩
  subst h2
  rcases h7 with ⟨e1, e2, e3, x, e4⟩ | ⟨e1, e2, x, e3⟩
  · simp only [e1, e2, cond_true]
    subst e3
    exact ⟨x, by rw [e4]; exact h5, by rw [unc_cur, e4]; exact hk⟩
  · simp only [e1]
    subst e2
    exact ⟨x, by rw [e3]; exact h5, by rw [unc_cur, e3]; exact hk⟩
theorem plain_vr {v v' : Value} (h : VR ρ v v') : plainV v' = plainV v := by cases h <;> rfl
theorem plain_vrs : ∀ {l l' : List Value}, VRs ρ l l' → l'.all plainV = l.all plainV
  | _, _, .nil => rfl
  | _, _, .cons h t => by rw [List.all_cons, List.all_cons, plain_vr h, plain_vrs t]
theorem agg_vr {v v' : Value} (h : VR ρ v v') : isAggV v' = isAggV v := by cases h <;> rfl
/-- A value's cells. -/
theorem cellsIf_of {g : Bool} {v v' : Value} {l : List Value} (hv : VR ρ v v') (hx : cellsIf g v = some l) : isAggV v' = g ∧ ∃ l', VRs ρ l l' ∧ l' = (match g with
    | true => cellsV v'
    | false => [v']) := by
  unfold cellsIf at hx
  cases g with
  | true =>
    have := aggL_iff.1 hx; subst this
    cases hv with
    | agg hl => exact ⟨rfl, _, hl, rfl⟩
  | false =>
    obtain ⟨h1, h2⟩ := chk_iff.1 hx
    cases h2
    refine ⟨by rw [agg_vr hv]; simpa using h1, _, .cons hv .nil, rfl⟩
/-- Cells that are written. -/
theorem cput_of (R : Rel C h0 ρ s.σ h) {b off : Nat} {vs vs' : List Value} (hv : VRs ρ vs vs') (hx : cput s b off vs = some s1) {pl : Pl} (hp : ρ b = some pl) :
    canSt h ⟨pl.blk, pl.sh + off, none⟩ 0 vs' ∧ Rel C h0 ρ s1.σ (hsets h ⟨pl.blk, pl.sh + off, none⟩ 0 vs') := by
  unfold cput at hx
  split at hx
  · rename_i c e m hb
    obtain ⟨h1, h2⟩ := chk_iff.1 hx
    cases h2
    simp only [Bool.and_eq_true, Bool.not_eq_true'] at h1
    obtain ⟨⟨⟨h1, h2⟩, h3⟩, h4⟩ := h1
    refine R.store hb ?_ hp hv (by rw [plain_vrs hv]; exact h2) (Nat.le_of_ble_eq_true h3) (Nat.le_of_ble_eq_true h4)
    intro hm
    subst hm
    cases h1
  · cases hx
theorem store_run (R : Rel C h0 ρ s.σ h) {t : TypeId} {p p' v v' : Value} (hp : VR ρ p p') (hv : VR ρ v v') (hx : cstore C.P t p v s = some s1) {k : T} (hk : ∀ h1, Rel C h0 ρ s1.σ h1 → k L K h1) :
      (match p', isAggD C.P t with
        | .pointer p, some true => cond (isAggV v') (bif (cellsV v').length == C.P.cellsOf t then T.osome p fun a => T.stores a (cellsV v') k else T.fail) T.fail
        | .pointer p, some false => bif C.P.cellsOf t == 1 then cond (isAggV v') T.fail (T.osome p fun a => T.stores a [v'] k) else T.fail
        | _, _ => T.fail) L K h := by
  unfold cstore at hx
  obtain ⟨⟨b, off⟩, hpp, hx0⟩ := Option.bind_eq_some_iff.1 hx
  clear hx
  have := ptrOf_iff.1 hpp; subst this
  have hx := hx0
  clear hx0
  obtain ⟨g, hg, hx⟩ := Option.bind_eq_some_iff.1 hx
  obtain ⟨l, hl, hx⟩ := Option.bind_eq_some_iff.1 hx
  obtain ⟨hn, hx⟩ := chk_iff.1 hx
  obtain ⟨pl, hpl, rfl⟩ := hp.ptr_inv
  obtain ⟨ha, l', hl', he⟩ := cellsIf_of hv hl
  obtain ⟨k1, k2⟩ := cput_of R hl' hx hpl
  have hn' : l'.length = C.P.cellsOf t := by rw [← hl'.length]; exact Nat.eq_of_beq_eq_true hn
  cases g with
  | true =>
    simp only at he; subst he
    simp only [hg, ha, cond_true]
    have : ((cellsV v').length == C.P.cellsOf t) = true := by simpa using hn'
    rw [this]
    exact ⟨k1, hk _ k2⟩
  | false =>
    simp only at he; subst he
    simp only [hg, ha, cond_false]
    have : (C.P.cellsOf t == 1) = true := by simp at hn'; simp [← hn']
    rw [this]
    exact ⟨k1, hk _ k2⟩
/-- A new block of cells. -/
theorem cnew_iff {o : AO} : cnew s o = some s1 ↔ s.σ.get s.nx = none ∧ s1 = ⟨s.σ.put s.nx o, s.nx + 1⟩ := by
  unfold cnew
  split
  · rename_i h
    simp only [h, Option.some.injEq, true_and]
    exact eq_comm
  · rename_i h
    simp [h]
theorem new_run (R : Rel C h0 ρ s.σ h) {c c' : List Value} {t : TypeId} {v : Value} (hc : VRs ρ c c') (hx : ptrNew s t c = some (v, s1)) (P : Post C h0 ρ s1 v kk L K) : T.new c' t (fun a => kk (.pointer (some a))) L K h := by
  unfold ptrNew at hx
  obtain ⟨s2, hn2, hx⟩ := Option.bind_eq_some_iff.1 hx
  obtain ⟨hn, h2⟩ := cnew_iff.1 hn2
  subst h2
  cases hx
  have hb := Box.new h t c'
  obtain ⟨R1, le⟩ := R.newRow (rest := []) (e := t) (m := 0) (cap := 0) hn hc (by rw [List.append_nil]; exact hb) (Ext.push h _) (by omega)
  have := VR.ptr (ρ := upd ρ s.nx ⟨h.size, 0, 0⟩) 0 (upd_self _ _ _)
  exact P _ _ _ le R1 (by simpa using this)
theorem zeroOf_iff {P : Program} {t : TypeId} {l : List Value} (hx : zeroOf P t = some l) : ∃ z, (P.info? t).bind (·.zero) = some z ∧ l = z.cells.toList ∧ ∀ ρ, VRs ρ l l := by
  unfold zeroOf at hx
  obtain ⟨z, hz, hx⟩ := Option.bind_eq_some_iff.1 hx
  obtain ⟨h1, h2⟩ := chk_iff.1 hx
  cases h2
  exact ⟨z, hz, rfl, fun ρ => flat_all (flat_vr 9) _ h1⟩
end
end Go.Sx.Cr
