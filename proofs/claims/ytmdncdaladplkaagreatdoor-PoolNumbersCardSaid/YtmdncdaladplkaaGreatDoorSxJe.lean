/- Closed runs, part Je: maps over a store. Asked: of the context, what Ok says. -/
import Derived.Test.YtmdncdaladplkaaGreatDoorSxJd
set_option linter.unusedVariables false
set_option linter.unusedSimpArgs false
set_option linter.deprecated false
set_option linter.unusedSectionVars false
namespace Go.Sx.Cr
theorem eqTxt_dec (a b : ByteArray) : eqTxt a b = decide (a = b) := by
  unfold eqTxt
  by_cases h : a = b
  · subst h; simp
  · rw [decide_eq_false h]
    exact beq_eq_false_iff_ne.2 fun e => h (by
      cases a; cases b
      congr 1
      exact Array.toList_inj.1 e)
theorem eqKey_dec (a b : Nat × ByteArray) : eqKey a b = decide (a = b) := by
  unfold eqKey
  rw [eqTxt_dec]
  obtain ⟨a1, a2⟩ := a
  obtain ⟨b1, b2⟩ := b
  have : Nat.beq a1 b1 = decide (a1 = b1) := by
    by_cases h : a1 = b1
    · subst h; simp
    · rw [decide_eq_false h]
      cases hb : Nat.beq a1 b1 with
      | false => rfl
      | true => exact (h (Nat.eq_of_beq_eq_true hb)).elim
  simp only [this, Prod.mk.injEq]
  exact (Bool.decide_and _ _).symm
theorem nbeq_dec (a b : Nat) : Nat.beq a b = decide (a = b) := by
  by_cases h : a = b
  · subst h; simp
  · rw [decide_eq_false h]
    cases hb : Nat.beq a b with
    | false => rfl
    | true => exact (h (Nat.eq_of_beq_eq_true hb)).elim
theorem eqPair_dec (a b : Nat × Nat) : eqPair a b = decide (a = b) := by
  unfold eqPair
  obtain ⟨a1, a2⟩ := a
  obtain ⟨b1, b2⟩ := b
  simp only [nbeq_dec, Prod.mk.injEq]
  exact (Bool.decide_and _ _).symm
section gen
variable {α : Type} [DecidableEq α] {q : α → α → Bool} {ρ : Rho}
theorem lookG_eq (hq : ∀ a b, q a b = decide (a = b)) (s : α) : ∀ D : List (α × Value), lookG q s D = (D.find? fun p => decide (s = p.1)).map (·.2)
  | [] => rfl
  | p :: D => by
    unfold lookG
    rw [hq, List.find?_cons]
    cases decide (s = p.1) with
    | true => rfl
    | false => exact lookG_eq hq s D
theorem updG_eq (hq : ∀ a b, q a b = decide (a = b)) (s : α) (v : Value) : ∀ D : List (α × Value), (D.map (·.1)).Nodup → updG q s v D = if (lookG q s D).isSome then D.map fun p => if s = p.1 then (p.1, v) else p else D ++ [(s, v)]
  | [], _ => rfl
  | p :: D, hn => by
    unfold updG lookG
    rw [hq]
    simp only [List.map_cons, List.nodup_cons] at hn
    by_cases h : s = p.1
    · rw [decide_eq_true h]
      simp only [Option.isSome_some, if_true, List.map_cons, h]
      congr 1
      have : ∀ x ∈ D, (if p.1 = x.1 then (x.1, v) else x) = x := fun x hx => by
        rw [if_neg]
        intro hh; exact hn.1 (hh ▸ List.mem_map.2 ⟨x, hx, rfl⟩)
      conv => lhs; rw [← List.map_id D]
      exact List.map_congr_left fun x hx => (this x hx).symm
    · rw [decide_eq_false h]
      simp only
      rw [updG_eq hq s v D hn.2]
      split
      · simp [h]
      · rfl
theorem lookG_dr (s : α) : ∀ {D D' : List (α × Value)}, DR ρ D D' → (lookG q s D = none ∧ lookG q s D' = none) ∨ ∃ v v', lookG q s D = some v ∧ lookG q s D' = some v' ∧ VR ρ v v'
  | [], [], _ => .inl ⟨rfl, rfl⟩
  | [], p :: D, h => by simp [DR] at h
  | p :: D, [], h => by simp [DR] at h
  | p :: D, p' :: D', h => by
    obtain ⟨h1, h2⟩ := h
    simp only [List.map_cons, List.cons.injEq] at h1 h2
    cases h2 with
    | cons hv ht =>
    unfold lookG
    rw [← h1.1]
    cases q s p.1 with
    | true => exact .inr ⟨_, _, rfl, rfl, hv⟩
    | false => exact lookG_dr s ⟨h1.2, ht⟩
theorem updG_dr (s : α) {v v' : Value} (hv : VR ρ v v') : ∀ {D D' : List (α × Value)}, DR ρ D D' → DR ρ (updG q s v D) (updG q s v' D')
  | [], [], _ => ⟨rfl, .cons hv .nil⟩
  | [], p :: D, h => by simp [DR] at h
  | p :: D, [], h => by simp [DR] at h
  | p :: D, p' :: D', h => by
    obtain ⟨h1, h2⟩ := h
    simp only [List.map_cons, List.cons.injEq] at h1 h2
    cases h2 with
    | cons hp ht =>
    unfold updG
    rw [← h1.1]
    cases q s p.1 with
    | true => exact ⟨by simp [h1.2], .cons hv ht⟩
    | false =>
      obtain ⟨h3, h4⟩ := updG_dr s hv (D := D) (D' := D') ⟨h1.2, ht⟩
      exact ⟨by simp [h1.1, h3], .cons hp h4⟩
end gen
section
variable {C : Cx} {h0 : Hp} {ρ : Rho} {s s1 : CS} {h : Hp} {e : Ev} {e' : Env} {L : Lp} {K : Value → Hp → Prop} {kk : Value → T}
theorem DR.length {α : Type} {D D' : List (α × Value)} (h : DR ρ D D') : D.length = D'.length := by
  have := congrArg List.length h.1
  simpa using this
theorem mapD_iff {d : Option TypeDesc} {k el : TypeId} (h : mapD d = some (k, el)) : d = some (.map k el) := by
  unfold mapD at h
  split at h
  · cases h; rfl
  · cases h
theorem zero1_of {P : Program} {el : TypeId} {z : Value} (h : zero1 P el = some z) : (P.info? el).bind (·.zero) = some z ∧ ∀ ρ, VR ρ z z := by
  unfold zero1 at h
  obtain ⟨u, h1, h2⟩ := Option.bind_eq_some_iff.1 h
  obtain ⟨h3, rfl⟩ := cflat_iff.1 h2
  exact ⟨h1, fun ρ => flat_vr 9 _ h3⟩
theorem kkey_of {x x' : Value} {y : Nat × ByteArray} (hx : VR ρ x x') (hk : kkey x = some y) : x' = keyV y := by
  unfold kkey at hk
  split at hk
  · cases hk
    cases hx with
    | agg hl =>
    cases hl with
    | cons a1 hl =>
    cases hl with
    | cons a2 hl =>
    cases hl; cases a1; cases a2; rfl
  · cases hk
theorem ikey_of {x x' : Value} {y : Nat × Nat} (hx : VR ρ x x') (hk : ikey x = some y) : x' = keyI y := by
  unfold ikey at hk
  split at hk
  · cases hk
    cases hx with
    | agg hl =>
    cases hl with
    | cons a1 hl =>
    cases hl with
    | cons a2 hl =>
    cases hl; cases a1; cases a2; rfl
  · cases hk
theorem skey_of {x x' : Value} {y : ByteArray} (hx : VR ρ x x') (hk : skey x = some y) : x' = .string y := by
  unfold skey at hk
  split at hk
  · cases hk; cases hx; rfl
  · cases hk
theorem natOf_of {x x' : Value} {n : Nat} (hx : VR ρ x x') (hk : natOf x = some n) : ∃ k, x' = .int k (n : Int) := by
  unfold natOf at hk
  split at hk
  · cases hk; cases hx; exact ⟨_, rfl⟩
  · cases hk
/-- A look into a map. -/
theorem mapIn_of (O : Ok C) (R : Rel C h0 ρ s.σ h) {t k el : TypeId} {m m' x x' z : Value} {r : Option Value} (hd : C.P.underlying t = some (.map k el)) (hz : (C.P.info? el).bind (·.zero) = some z) (hm : VR ρ m m') (hx : VR ρ x x')
    (hi : mapIn C k m x s = some r) : ∃ r', ((r = none ∧ r' = none) ∨ ∃ v v', r = some v ∧ r' = some v' ∧ VR ρ v v') ∧
      ∀ (ok : Bool) (K : Value → Hp → Prop), K (lookR ok z r') h → semW C.P (Instr.lookup t m' x' ok) h K := by
  unfold mapIn at hi
  cases hb : isK C k with
  | true =>
    rw [hb] at hi
    simp only at hi
    unfold mapK at hi
    split at hi
    · rename_i b
      obtain ⟨y, hy, hi⟩ := Option.bind_eq_some_iff.1 hi
      obtain ⟨o, ho, hi⟩ := Option.bind_eq_some_iff.1 hi
      have hx' := kkey_of hx hy
      subst hx'
      cases hm with
      | map hp =>
      cases o <;> first | (cases hi; done) | skip
      rename_i D
      cases hi
      obtain ⟨_, D', hD, hr⟩ := R.row ho hp
      refine ⟨lookG eqKey y D', ?_, fun ok K hk => ?_⟩
      · rcases lookG_dr (q := eqKey) y hr with ⟨e1, e2⟩ | ⟨v, v', e1, e2, e3⟩
        · exact .inl ⟨e1, e2⟩
        · exact .inr ⟨v, v', e1, e2, e3⟩
      · refine lookup_k (O.kt k hb) hd hz hD y ok K ?_
        rw [lookG_eq eqKey_dec] at hk
        cases ok <;> exact hk
    · cases hi
  | false =>
    rw [hb] at hi
    simp only at hi
    cases hbi : isI C k with
    | true =>
      rw [hbi] at hi
      simp only at hi
      unfold mapI at hi
      split at hi
      · rename_i b
        obtain ⟨y, hy, hi⟩ := Option.bind_eq_some_iff.1 hi
        obtain ⟨o, ho, hi⟩ := Option.bind_eq_some_iff.1 hi
        have hx' := ikey_of hx hy
        subst hx'
        cases hm with
        | map hp =>
        cases o <;> first | (cases hi; done) | skip
        rename_i D
        cases hi
        obtain ⟨_, D', hD, hr⟩ := R.row ho hp
        refine ⟨lookG eqPair y D', ?_, fun ok K hk => ?_⟩
        · rcases lookG_dr (q := eqPair) y hr with ⟨e1, e2⟩ | ⟨v, v', e1, e2, e3⟩
          · exact .inl ⟨e1, e2⟩
          · exact .inr ⟨v, v', e1, e2, e3⟩
        · refine lookup_k (O.ki k hbi) hd hz hD y ok K ?_
          rw [lookG_eq eqPair_dec] at hk
          cases ok <;> exact hk
      · cases hi
    | false =>
    rw [hbi] at hi
    simp only at hi
    obtain ⟨h1, hi⟩ := chk_iff.1 hi
    unfold mapS at hi
    split at hi
    · obtain ⟨y, hy, hi⟩ := Option.bind_eq_some_iff.1 hi
      have hx' := skey_of hx hy
      subst hx'
      cases hi
      cases hm
      refine ⟨none, .inl ⟨rfl, rfl⟩, fun ok K hk => lookup_nil hd (isStr_of h1) hz y ok K ?_⟩
      cases ok <;> exact hk
    · rename_i b
      obtain ⟨y, hy, hi⟩ := Option.bind_eq_some_iff.1 hi
      obtain ⟨o, ho, hi⟩ := Option.bind_eq_some_iff.1 hi
      have hx' := skey_of hx hy
      subst hx'
      cases hm with
      | map hp =>
      cases o <;> first | (cases hi; done) | skip
      rename_i D
      cases hi
      obtain ⟨_, D', hD, hr⟩ := R.row ho hp
      refine ⟨lookG eqTxt y D', ?_, fun ok K hk => ?_⟩
      · rcases lookG_dr (q := eqTxt) y hr with ⟨e1, e2⟩ | ⟨v, v', e1, e2, e3⟩
        · exact .inl ⟨e1, e2⟩
        · exact .inr ⟨v, v', e1, e2, e3⟩
      · refine lookup_of hd (isStr_of h1) hz hD y ok K ?_
        rw [lookG_eq eqTxt_dec] at hk
        cases ok <;> exact hk
    · cases hi
theorem look_run (O : Ok C) (R : Rel C h0 ρ s.σ h) {t : TypeId} {m m' x x' v : Value} {ok : Bool} (hm : VR ρ m m') (hx : VR ρ x x') (hc : clook C t m x ok s = some v) :
    ∃ v', VR ρ v v' ∧ ∀ (kk : Value → T) (L : Lp) (K : Value → Hp → Prop), kk v' L K h → (match C.P.underlying t with
    | some (.map _ el) => match ok with
      | true => T.sem C.P (Instr.lookup t m' x' true) true [compD C.P el, (false, [.bool])] (cur _ fun l => kk (rv true [compD C.P el, (false, [.bool])] l))
      | false => T.sem C.P (Instr.lookup t m' x' false) false [compD C.P el] (cur _ fun l => kk (rv false [compD C.P el] l))
    | _ => T.fail) L K h := by
  unfold clook at hc
  obtain ⟨⟨k, el⟩, hd, hc⟩ := Option.bind_eq_some_iff.1 hc
  obtain ⟨z, hz, hc⟩ := Option.bind_eq_some_iff.1 hc
  obtain ⟨r, hr, hc⟩ := Option.bind_eq_some_iff.1 hc
  obtain ⟨hf, hc⟩ := chk_iff.1 hc
  cases hc
  have hd := mapD_iff hd
  obtain ⟨hz1, hz2⟩ := zero1_of hz
  obtain ⟨r', hr', hsem⟩ := mapIn_of O R hd hz1 hm hx hr
  have hg : VR ρ (r.getD z) (r'.getD z) ∧ r.isSome = r'.isSome := by
    rcases hr' with ⟨e1, e2⟩ | ⟨v, v', e1, e2, e3⟩
    · rw [e1, e2]; exact ⟨hz2 ρ, rfl⟩
    · rw [e1, e2]; exact ⟨e3, rfl⟩
  cases ok with
  | true =>
    refine ⟨.tuple ⟨[r'.getD z, .bool r.isSome]⟩, .tuple (.cons hg.1 (.cons (.bool _) .nil)), fun kk L K hk => ?_⟩
    simp only [hd]
    refine hsem true _ ?_
    obtain ⟨y, hy⟩ := fitR_of (q := (true, [compD C.P el, (false, [.bool])])) (v := .tuple ⟨[r.getD z, .bool r.isSome]⟩) (.tuple (.cons hg.1 (.cons (.bool _) .nil))) (by
      show (fitC (compD C.P el) (r.getD z) && true) = true
      rw [hf]; rfl)
    refine ⟨y, ?_, ?_⟩
    · rw [← hy, hg.2]; rfl
    · rw [unc_cur]
      have : rv true [compD C.P el, (false, [TypeDesc.bool])] (hvs _ y) = _ := hy.symm
      rw [this]; exact hk
  | false =>
    refine ⟨r'.getD z, hg.1, fun kk L K hk => ?_⟩
    simp only [hd]
    refine hsem false _ ?_
    obtain ⟨y, hy⟩ := fitR_of (q := (false, [compD C.P el])) (v := r.getD z) hg.1 (by
      show (fitC (compD C.P el) (r.getD z) && true) = true
      rw [hf]; rfl)
    refine ⟨y, hy, ?_⟩
    rw [unc_cur]
    have : rv false [compD C.P el] (hvs _ y) = _ := hy.symm
    rw [this]; exact hk
/-- A map that is turned. -/
theorem upd_run (O : Ok C) (R : Rel C h0 ρ s.σ h) {t : TypeId} {m m' x x' v v' : Value} (hm : VR ρ m m') (hx : VR ρ x x') (hv : VR ρ v v') (hc : cupd C t m x v s = some s1) {k : T} (hk : ∀ h1, Rel C h0 ρ s1.σ h1 → k L K h1) :
    T.semU C.P (Instr.mapUpdate t m' x' v') k L K h := by
  unfold cupd at hc
  split at hc
  · rename_i b
    obtain ⟨⟨kt, el⟩, hd, hc⟩ := Option.bind_eq_some_iff.1 hc
    obtain ⟨o, ho, hc⟩ := Option.bind_eq_some_iff.1 hc
    have hd := mapD_iff hd
    cases hm with
    | map hb =>
    unfold mapSet at hc
    cases o <;> first | (cases hc; done) | skip
    · rename_i D
      obtain ⟨h1, hc⟩ := chk_iff.1 (show chk _ _ = some s1 from hc)
      obtain ⟨y, hy, hc⟩ := Option.bind_eq_some_iff.1 hc
      obtain ⟨h2, hc⟩ := chk_iff.1 hc
      cases hc
      have hx' := skey_of hx hy
      subst hx'
      obtain ⟨hg, D', hD, hr⟩ := R.row ho hb
      refine mapUpdate_of hd (isStr_of h1) hD (Nat.le_of_ble_eq_true h2) v' _ fun h' m' c' z' => hk h' ?_
      refine R.put ho rfl hb hg c' ⟨hg, _, m', ?_⟩
      have := updG_eq eqTxt_dec (q := eqTxt) y v' D' hD.nodup
      rw [lookG_eq eqTxt_dec] at this
      rw [show Sx.upd D' y v' = updG eqTxt y v' D' from this.symm]
      exact updG_dr _ hv hr
    · rename_i D
      obtain ⟨h1, hc⟩ := chk_iff.1 (show chk _ _ = some s1 from hc)
      obtain ⟨y, hy, hc⟩ := Option.bind_eq_some_iff.1 hc
      cases hc
      have hx' := kkey_of hx hy
      subst hx'
      obtain ⟨hg, D', hD, hr⟩ := R.row ho hb
      refine mapUpdate_k (O.kt kt h1) hd hD y v' _ fun h' m' c' z' => hk h' ?_
      refine R.put ho rfl hb hg c' ⟨hg, _, m', ?_⟩
      have := updG_eq eqKey_dec (q := eqKey) y v' D' (MapK.nodup (O.kt kt h1) hD)
      rw [lookG_eq eqKey_dec] at this
      rw [show updK D' y v' = updG eqKey y v' D' from this.symm]
      exact updG_dr _ hv hr
    · rename_i D
      obtain ⟨h1, hc⟩ := chk_iff.1 (show chk _ _ = some s1 from hc)
      obtain ⟨y, hy, hc⟩ := Option.bind_eq_some_iff.1 hc
      cases hc
      have hx' := ikey_of hx hy
      subst hx'
      obtain ⟨hg, D', hD, hr⟩ := R.row ho hb
      refine mapUpdate_k (O.ki kt h1) hd hD y v' _ fun h' m' c' z' => hk h' ?_
      refine R.put ho rfl hb hg c' ⟨hg, _, m', ?_⟩
      have := updG_eq eqPair_dec (q := eqPair) y v' D' (MapK.nodup (O.ki kt h1) hD)
      rw [lookG_eq eqPair_dec] at this
      rw [show updK D' y v' = updG eqPair y v' D' from this.symm]
      exact updG_dr _ hv hr
  · cases hc
theorem mkmap_run (R : Rel C h0 ρ s.σ h) {t : TypeId} {v : Value} (hc : cmkmap C t s = some (v, s1)) (P : Post C h0 ρ s1 v kk L K) : T.sem C.P (Instr.makeMap t none) false [(false, [.map 0 0])] (fun r => kk (.map r)) L K h := by
  unfold cmkmap at hc
  obtain ⟨⟨k, el⟩, hd, hc⟩ := Option.bind_eq_some_iff.1 hc
  simp only at hc
  cases hb : isK C k with
  | true =>
    rw [hb] at hc
    obtain ⟨s2, hn2, hc⟩ := Option.bind_eq_some_iff.1 hc
    obtain ⟨hn, h2⟩ := cnew_iff.1 hn2
    subst h2
    cases hc
    refine makeMap_k (α := Nat × ByteArray) (kv := keyV) _ fun h' m e z => ⟨(some h.size, ()), rfl, ?_⟩
    obtain ⟨R1, le⟩ := R.new (pl := ⟨h.size, 0, 0⟩) (o := .kmap []) hn (Nat.le_refl _) e ⟨R.size, [], m, rfl, .nil⟩
    exact P _ _ _ le R1 (.map (upd_self _ _ _))
  | false =>
    rw [hb] at hc
    simp only at hc
    cases hbi : isI C k with
    | true =>
      rw [hbi] at hc
      obtain ⟨s2, hn2, hc⟩ := Option.bind_eq_some_iff.1 hc
      obtain ⟨hn, h2⟩ := cnew_iff.1 hn2
      subst h2
      cases hc
      refine makeMap_k (α := Nat × Nat) (kv := keyI) _ fun h' m e z => ⟨(some h.size, ()), rfl, ?_⟩
      obtain ⟨R1, le⟩ := R.new (pl := ⟨h.size, 0, 0⟩) (o := .imap []) hn (Nat.le_refl _) e ⟨R.size, [], m, rfl, .nil⟩
      exact P _ _ _ le R1 (.map (upd_self _ _ _))
    | false =>
    rw [hbi] at hc
    obtain ⟨h1, hc⟩ := chk_iff.1 hc
    obtain ⟨s2, hn2, hc⟩ := Option.bind_eq_some_iff.1 hc
    obtain ⟨hn, h2⟩ := cnew_iff.1 hn2
    subst h2
    cases hc
    refine makeMap_of _ fun h' m e z => ⟨(some h.size, ()), rfl, ?_⟩
    obtain ⟨R1, le⟩ := R.new (pl := ⟨h.size, 0, 0⟩) (o := .smap []) hn (Nat.le_refl _) e ⟨R.size, [], m, rfl, .nil⟩
    exact P _ _ _ le R1 (.map (upd_self _ _ _))
theorem zeros_eq {z : Value} {n sz : Nat} (hz : z.cells.size = sz) (hp : 1 ≤ sz) : (List.range (n * sz)).map (z.cells[· % z.cells.size]!) = (List.replicate n z.cells.toList).flatten := by
  apply List.ext_getElem?
  intro j
  have hl : ((List.replicate n z.cells.toList).flatten).length = n * sz := by simp [hz]
  rw [List.getElem?_map]
  by_cases hj : j < n * sz
  · rw [List.getElem?_range hj]
    have h1 := flatten_chunk (sz := sz) (List.replicate n z.cells.toList) (j / sz) [] (fun x hx => by rw [List.eq_of_mem_replicate hx]; simpa using hz) (by simpa using Nat.div_lt_of_lt_mul (by rw [Nat.mul_comm]; exact hj))
    rw [List.append_nil] at h1
    have h2 := congrArg (fun l : List Value => l[j % sz]?) h1
    have hm : j % sz < sz := Nat.mod_lt _ hp
    simp only [List.getElem?_take, List.getElem?_drop, if_pos hm, List.getElem_replicate] at h2
    rw [show j / sz * sz + j % sz = j from by rw [Nat.mul_comm]; exact Nat.div_add_mod j sz] at h2
    rw [h2, hz]
    have : j % sz < z.cells.size := by omega
    simp [this]
  · rw [List.getElem?_eq_none (by simp; omega), List.getElem?_eq_none (by omega)]
    rfl
theorem mkslice_run (R : Rel C h0 ρ s.σ h) {t : TypeId} {l l' c c' v : Value} (hl : VR ρ l l') (hc : VR ρ c c') (hx : cmkslice C.P t l c s = some (v, s1)) (P : Post C h0 ρ s1 v kk L K) :
    T.sem C.P (Instr.makeSlice t l' c') false [(false, [.slice 0])] (fun p l c => kk (.slice p l c)) L K h := by
  unfold cmkslice at hx
  obtain ⟨l0, hl0, hx⟩ := Option.bind_eq_some_iff.1 hx
  obtain ⟨c0, hc0, hx⟩ := Option.bind_eq_some_iff.1 hx
  obtain ⟨k1, rfl⟩ := natOf_of hl hl0
  obtain ⟨k2, rfl⟩ := natOf_of hc hc0
  obtain ⟨q, hq, hx⟩ := Option.bind_eq_some_iff.1 hx
  obtain ⟨h1, hx⟩ := chk_iff.1 hx
  obtain ⟨s2, hn2, hx⟩ := Option.bind_eq_some_iff.1 (show (cnew s (.row _ q.e 0)).bind _ = some (v, s1) from hx)
  obtain ⟨hn, h2⟩ := cnew_iff.1 hn2
  subst h2
  cases hx
  obtain ⟨i, z, E⟩ := elOf_is hq
  simp only [Bool.and_eq_true] at h1
  have g1 := Nat.le_of_ble_eq_true h1.1.1
  have g2 := Nat.le_of_ble_eq_true h1.1.2
  have g3 := Nat.le_of_ble_eq_true h1.2
  refine sem_slice ?_
  refine makeSlice_of E.und E.info E.zero g1 (by rw [E.by_]; omega) (by omega) fun h' b k _ => ⟨_, _, _, rfl, ?_⟩
  have hfl : VRs ρ (List.replicate c0 q.z).flatten (List.replicate c0 q.z).flatten := by
    have : ∀ n, VRs ρ (List.replicate n q.z).flatten (List.replicate n q.z).flatten := by
      intro n
      induction n with
      | zero => exact .nil
      | succ n ih => simp only [List.replicate_succ, List.flatten_cons]; exact (E.flat ρ).append ih
    exact this c0
  rw [E.sz] at b
  rw [zeros_eq (by rw [E.zs, E.sz]) E.pos, ← E.zl] at b
  obtain ⟨R1, le⟩ := R.newRow (rest := []) (e := q.e) (m := 0) (cap := 0) hn hfl (by rw [List.append_nil]; exact b) k (by omega)
  have hv := VR.sl (ρ := upd ρ s.nx ⟨h.size, 0, 0⟩) (c := c0) (c' := c0) 0 l0 (upd_self _ _ _) (.inl ⟨by unfold half; omega, rfl⟩) g1
  exact P _ _ _ le R1 (by simpa using hv)
end
end Go.Sx.Cr
