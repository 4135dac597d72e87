/- A framework of our own, part F: from a function's tree to its call. No condition. -/
import Derived.Test.YtmdncdaladplkaaGreatDoorSxR
set_option linter.unusedVariables false
set_option linter.unusedSimpArgs false
set_option linter.deprecated false
namespace Go.Sx

/-- A computation that only reads. -/
def ro {α : Type} : Sem α → Prop
  | .pure _ => True
  | .load _ _ k => ∀ v, ro (k v)
  | .shape _ k => ∀ v, ro (k v)
  | .frozen _ k => ∀ v, ro (k v)
  | .getObj _ k => ∀ v, ro (k v)
  | .program k => ∀ v, ro (k v)
  | .mark _ k => ro k
  | .halt _ => True
  | _ => False
theorem ro_run {P : Program} {α : Type} (s : Sem α) : ro s → ∀ (w : World) a w', s.run P w = .ok a w' → w' = w := by
  induction s with
  | pure a => intro _ w b w' h; simp only [Sem.run, Result.ok.injEq] at h; exact h.2.symm
  | load m a k ih =>
    intro hr w b w' h
    simp only [Sem.run] at h
    cases hc : w.cell? a with
    | some v => rw [hc] at h; exact ih v (hr v) w b w' h
    | none =>
      rw [hc] at h
      simp only at h
      split at h
      · rename_i v l _; exact ih v (hr v) w b w' h
      · cases h
  | shape r k ih => intro hr w b w' h; exact ih _ (hr _) w b w' h
  | frozen a k ih => intro hr w b w' h; exact ih _ (hr _) w b w' h
  | getObj r k ih =>
    intro hr w b w' h
    simp only [Sem.run] at h
    split at h
    · cases h
    · rename_i o _ _; exact ih o (hr o) w b w' h
    · cases h
  | program k ih => intro hr w b w' h; exact ih _ (hr _) w b w' h
  | mark m k ih => intro hr w b w' h; exact ih hr w b w' h
  | halt x => intro _ w b w' h; simp [Sem.run] at h
  | store m a v k ih => intro hr; exact hr.elim
  | new o k ih => intro hr; exact hr.elim
  | freeze a n k ih => intro hr; exact hr.elim
  | setObj r o k ih => intro hr; exact hr.elim
  | choose q k ih => intro hr; exact hr.elim
  | sys c k ih => intro hr; exact hr.elim
theorem ro_bind {α β : Type} (s : Sem α) (f : α → Sem β) (hs : ro s) (hf : ∀ a, ro (f a)) : ro (s >>= f) := by
  show ro (s.bind f)
  induction s with
  | pure a => exact hf a
  | load m a k ih => exact fun v => ih v (hs v)
  | shape r k ih => exact fun v => ih v (hs v)
  | frozen a k ih => exact fun v => ih v (hs v)
  | getObj r k ih => exact fun v => ih v (hs v)
  | program k ih => exact fun v => ih v (hs v)
  | mark m k ih => exact ih hs
  | halt x => trivial
  | store m a v k ih => exact hs.elim
  | new o k ih => exact hs.elim
  | freeze a n k ih => exact hs.elim
  | setObj r o k ih => exact hs.elim
  | choose q k ih => exact hs.elim
  | sys c k ih => exact hs.elim
theorem ro_underlying (t : TypeId) : ro (underlying t) := by
  unfold underlying
  refine ro_bind _ _ (fun P => trivial) fun P => ?_
  split <;> exact trivial
theorem ro_typeInfo (t : TypeId) : ro (typeInfo t) := by
  unfold typeInfo
  refine ro_bind _ _ (fun P => trivial) fun P => ?_
  split <;> exact trivial
theorem ro_sizeOf (t : TypeId) : ro (sizeOf t) := ro_bind _ _ (ro_typeInfo t) fun _ => trivial
theorem ro_loadCellsFrom (a : Addr) : ∀ (n i : Nat) (acc : Array Value), ro (loadCellsFrom a i n acc)
  | 0, i, acc => trivial
  | n + 1, i, acc => ro_bind _ _ (fun v => trivial) fun v => ro_loadCellsFrom a n (i + 1) (acc.push v)
theorem ro_loadVar (t : TypeId) (a : Addr) : ro (loadVar t a) := by
  unfold loadVar
  refine ro_bind _ _ ?_ fun b => ?_
  · unfold isAgg
    refine ro_bind _ _ (ro_underlying t) fun d => ?_
    cases d <;> exact trivial
  · cases b
    · exact fun v => trivial
    · exact ro_bind _ _ (ro_sizeOf t) fun n => ro_bind _ _ (ro_loadCellsFrom a n 0 #[]) fun _ => trivial

section res
variable {P : Program}
/-- One result. -/
def resOne (tmps : Array Value) : ResultVar → Sem Value
  | .tmp t => pure (tmps.getD t undef)
  | .cell a t => do loadVar t (← asAddr (tmps.getD a undef))
theorem results_eq (fn : Func) (tmps : Array Value) : results fn tmps = (do let vs ← fn.results.mapM (resOne tmps); pure (if h : vs.size = 1 then vs[0] else .tuple vs)) := by
  unfold results
  congr 1
/-- The results' values, one by one. -/
def Res (P : Program) (h : Hp) (tmps : Array Value) : List ResultVar → List Value → Prop
  | [], [] => True
  | r :: rs, v :: vs => (ro (resOne tmps r) ∧ ∀ R : Value → Hp → Prop, R v h → semW P (resOne tmps r) h R) ∧ Res P h tmps rs vs
  | _, _ => False
theorem semW_mapM (tmps : Array Value) {h : Hp} : ∀ (rs : List ResultVar) (vs : List Value) (R : List Value → Hp → Prop), R vs h → Res P h tmps rs vs →
    semW P (rs.mapM (resOne tmps)) h R ∧ ro (rs.mapM (resOne tmps))
  | [], [], R, hk, _ => ⟨hk, trivial⟩
  | r :: rs, v :: vs, R, hk, hf => by
    rw [List.mapM_cons]
    obtain ⟨h3, h4⟩ := semW_mapM tmps rs vs (fun vs h => R (v :: vs) h) hk hf.2
    refine ⟨?_, ro_bind _ _ hf.1.1 fun v => ro_bind _ _ h4 fun _ => trivial⟩
    rw [semW_bind']
    refine hf.1.2 _ ?_
    show semW P (rs.mapM (resOne tmps) >>= _) h R
    rw [semW_bind']
    exact h3
  | [], v :: vs, R, _, hf => hf.elim
  | r :: rs, [], R, _, hf => hf.elim
theorem xres_of {n : Nd} {a : Act} {e : Env} (g : Agr n e a) {L : Lp} {K : Value → Hp → Prop} {h : Hp} : ∀ {rs : List ResultVar} {k : List Value → T}, xres P rs e k L K h →
    ∃ vs, k vs L K h ∧ Res P h a.tmps rs vs
  | [], k, ht => ⟨[], ht, trivial⟩
  | .tmp t :: rs, k, ht => by
    obtain ⟨v, hv, ht⟩ := with1_of ht
    obtain ⟨vs, hk, hf⟩ := xres_of g ht
    refine ⟨v :: vs, hk, ⟨trivial, fun R hR => ?_⟩, hf⟩
    have := g.get t v hv
    show R (a.tmps.getD t undef) h
    rw [this]; exact hR
  | .cell q t :: rs, k, ht => by
    obtain ⟨v, hv, ht⟩ := with1_of ht
    have hq := g.get q v hv
    cases hb : isAggD P t with
    | none => cases v <;> simp only [hb] at ht <;> exact ht.elim
    | some b =>
      obtain ⟨pp, rfl⟩ : ∃ pp, v = .pointer pp := by
        cases v <;> cases b <;> simp only [hb] at ht <;> first | exact ht.elim | exact ⟨_, rfl⟩
      have ht' : (match b with
        | true => (bif (flatD P 9 t).length == P.cellsOf t then T.osome pp fun a => T.loads a (flatD P 9 t) (cur _ fun l => (fun (_ : Addr) (_ : List Value) (v : Value) => xres P rs e fun l' => k (v :: l')) a l (.agg l.toArray)) else T.fail)
        | false => T.osome pp fun a => T.loads a (compD P t).2 (cur _ fun l => (fun (_ : Addr) (_ : List Value) (v : Value) => xres P rs e fun l' => k (v :: l')) a l (l.headD undef))) L K h := by
        cases b <;> simp only [hb] at ht <;> exact ht
      obtain ⟨p, l, v, rfl, hc, hk, hall⟩ := loadAt_of (n := n) (kk := fun (_ : Addr) (_ : List Value) (v : Value) => xres P rs e fun l' => k (v :: l')) hb ht'
      obtain ⟨vs, hk, hf⟩ := xres_of g hk
      refine ⟨v :: vs, hk, ⟨?_, fun R hR => ?_⟩, hf⟩
      · show ro (asAddr (a.tmps.getD q undef) >>= fun x => loadVar t x)
        rw [hq]
        exact ro_loadVar t p
      · show semW P (asAddr (a.tmps.getD q undef) >>= fun x => loadVar t x) h R
        rw [hq]
        exact hall h R hc hR
theorem results_run {fn : Func} {tmps : Array Value} {h : Hp} {K : Value → Hp → Prop} {vs : List Value}
    (hf : Res P h tmps fn.results.toList vs) (hk : K (one vs) h) : semW P (results fn tmps) h K ∧ ro (results fn tmps) := by
  obtain ⟨h1, h2⟩ := semW_mapM tmps fn.results.toList vs (fun vs h => K (one vs) h) hk hf
  have e1 : (fn.results.mapM (resOne tmps)) = (fn.results.toList.mapM (resOne tmps) >>= fun l => pure l.toArray) := by
    rw [Array.mapM_eq_mapM_toList, map_eq_pure_bind]
  rw [results_eq, e1]
  refine ⟨?_, ro_bind _ _ (ro_bind _ _ h2 fun _ => trivial) fun _ => trivial⟩
  rw [semW_bind', semW_bind']
  refine semW_mono _ _ _ _ ?_ h1
  intro vs h hk
  show K (if h : vs.toArray.size = 1 then vs.toArray[0] else .tuple vs.toArray) h
  rcases vs with _ | ⟨v, _ | ⟨u, l⟩⟩
  · exact hk
  · exact hk
  · exact hk
theorem eget_env0 : ∀ (l : List Value) (i s : Nat) (v : Value), eget (env0 i l) s = some v → i ≤ s ∧ l[s - i]? = some v
  | [], i, s, v, h => by simp [env0, eget] at h
  | u :: l, i, s, v, h => by
    simp only [env0, eget_cons] at h
    by_cases hi : i = s
    · subst hi; simp at h; subst h; simp
    · rw [if_neg hi] at h
      obtain ⟨h1, h2⟩ := eget_env0 l (i + 1) s v h
      refine ⟨by omega, ?_⟩
      have : s - i = (s - (i + 1)) + 1 := by omega
      rw [this]; simpa using h2
/-- A call of a function does what its tree asks. -/
theorem hc_of {f : FuncId} {fn : Func} {cuts : List Nat} {args : List Value} {K : Value → Hp → Prop} {h : Hp} (hm : P.follows .mixedOrders = true) (hf : P.funcs[f]? = some fn) (hl : Nat.ble args.length fn.ntmps = true)
    (ht : xfun P cuts fn args [] K h) : HC P f args.toArray h K := by
  unfold xfun at ht
  cases hb : fn.body with
  | none => simp only [hb] at ht; exact ht.elim
  | some c =>
    simp only [hb] at ht
    have hl' : args.length ≤ fn.ntmps := Nat.le_of_ble_eq_true hl
    have g : Agr ⟨fn.ntmps, []⟩ (env0 0 args) { tmps := args.toArray ++ Array.replicate (fn.ntmps - args.toArray.size) undef, defers := [] } := by
      refine ⟨by simp; omega, rfl, fun s v hv => ?_⟩
      obtain ⟨_, h2⟩ := eget_env0 args 0 s v hv
      have hs : s < args.length := by
        rcases Nat.lt_or_ge s args.length with h | h
        · exact h
        · simp only [Nat.sub_zero] at h2; rw [List.getElem?_eq_none h] at h2; cases h2
      simp only [Nat.sub_zero] at h2
      simp [Array.getD_eq_getD_getElem?, Array.getElem?_append, hs]
      rw [List.getElem?_eq_getElem hs] at h2
      exact Option.some.inj h2
    intro w hw
    have hcw : cW P c (fun x a h => (x = .normal ∨ x = .ret) ∧ a.defers = [] ∧ ∃ vs, Res P h a.tmps fn.results.toList vs ∧ K (one vs) h) { tmps := args.toArray ++ Array.replicate (fn.ntmps - args.toArray.size) undef, defers := [] } h := by
      refine xcode_of (rok hm) 100000 c (env0 0 args) _ [] K _ _ h ?_ ht g
      intro x e a h L' hp hx g' fr
      cases x <;> simp only at hx <;> first | exact hx.elim | skip
      · obtain ⟨vs, hk, hres⟩ := xres_of g' hx
        exact ⟨.inl rfl, g'.defers, vs, hres, hk⟩
      · obtain ⟨vs, hk, hres⟩ := xres_of g' hx
        exact ⟨.inr rfl, g'.defers, vs, hres, hk⟩
    refine calls_of_wp hf hb (Code.wp_mono ?_ (hcw w w (SameO.refl w) hw))
    rintro x a w' ⟨h1, hx, hd, vs, hres, hk⟩
    obtain ⟨h2, h3⟩ := results_run hres hk
    obtain ⟨v, w'', hr, hs, hR⟩ := semW_sound _ w' _ h2
    have := ro_run _ h3 w' v w'' hr
    subst this
    rcases hx with rfl | rfl
    · exact ⟨hd, v, hr, v, rfl, h1, hR⟩
    · exact ⟨hd, v, hr, v, rfl, h1, hR⟩
end res
end Go.Sx
