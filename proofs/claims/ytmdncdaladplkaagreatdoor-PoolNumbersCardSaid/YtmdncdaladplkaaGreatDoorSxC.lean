/- A framework of our own, part C: what a tree asks of code, the code does. No condition. -/
import Derived.Test.YtmdncdaladplkaaGreatDoorSxO
set_option linter.unusedVariables false
set_option linter.unusedSimpArgs false
set_option linter.deprecated false
namespace Go.Sx

/-- Beyond some slots nothing that is known has turned. -/
def Fr (l : List Nat) (e e' : Env) : Prop := ∀ s, s ∉ l → eget e' s = eget e s
theorem Fr.refl (l : List Nat) (e : Env) : Fr l e e := fun _ _ => rfl
theorem Fr.trans {l : List Nat} {a b c : Env} (h : Fr l a b) (k : Fr l b c) : Fr l a c := fun s hs => (k s hs).trans (h s hs)
theorem Fr.mono {l l' : List Nat} {a b : Env} (h : Fr l a b) (m : ∀ s ∈ l, s ∈ l') : Fr l' a b := fun s hs => h s fun hh => hs (m s hh)
theorem Fr.eput {l : List Nat} (n : Nat) (e : Env) {dst : Option Tmp} (v : Value) (hd : ∀ d, dst = some d → d ∈ l) : Fr l e (eput n e dst v) := by
  intro s hs
  cases dst with
  | none => rfl
  | some d =>
    simp only [Sx.eput]
    cases Nat.blt d n with
    | false => rfl
    | true =>
      simp only [cond_true, eget_cons]
      rw [if_neg (fun hh : d = s => hs (hh ▸ hd d rfl))]

theorem wanted_none {ops : Array Oper} {o : Oper} {tm : Array Value} (h : o.guard = none) : Region.wanted o (yielded ops tm) = true := by
  simp [Region.wanted, h]
theorem wanted_some {ops : Array Oper} {o : Oper} {tm : Array Value} {j : Nat} {w : Bool} (h : o.guard = some (j, w)) :
    Region.wanted o (yielded ops tm) = (yielded ops tm j == some w) := by
  simp [Region.wanted, h]
theorem yielded_bool {ops : Array Oper} {tm : Array Value} {j d : Nat} {b : Bool} (hj : (ops[j]?).bind (·.dst) = some d) (hd : tm.getD d undef = .bool b) : yielded ops tm j = some b := by
  unfold yielded
  rw [hj]
  rw [Array.getD_eq_getD_getElem?] at hd
  cases hx : tm[d]? with
  | none => rw [hx] at hd; simp [undef] at hd
  | some v => rw [hx] at hd; simp at hd; subst hd; simp [hx]
theorem yielded_tuple {ops : Array Oper} {tm : Array Value} {j d : Nat} {vs : Array Value} (hj : (ops[j]?).bind (·.dst) = some d) (hd : tm.getD d undef = .tuple vs) : yielded ops tm j = none := by
  unfold yielded
  rw [hj]
  rw [Array.getD_eq_getD_getElem?] at hd
  cases hx : tm[d]? with
  | none => simp [hx]
  | some v => rw [hx] at hd; simp at hd; subst hd; simp [hx]
theorem dst_mem {ops : Array Oper} {j d : Nat} (hj : (ops[j]?).bind (·.dst) = some d) : d ∈ dstsOf ops := by
  obtain ⟨o, ho, hd⟩ := Option.bind_eq_some_iff.1 hj
  have := Array.mem_of_getElem? ho
  exact List.mem_filterMap.2 ⟨o, by simpa using this, hd⟩
theorem xguard_of {n : Nd} {ops : Array Oper} {o : Oper} {e : Env} {a : Act} (g : Agr n e a) {yes no : Env → T} {L : Lp} {K : Value → Hp → Prop} {h : Hp}
    (ht : xguard n ops o e yes no L K h) :
    ∃ e', Agr n e' a ∧ Fr (dstsOf ops) e e' ∧ ((Region.wanted o (yielded ops a.tmps) = true ∧ yes e' L K h) ∨ (Region.wanted o (yielded ops a.tmps) = false ∧ no e' L K h)) := by
  unfold xguard guardOf at ht
  cases hg : o.guard with
  | none =>
    simp only [hg] at ht
    exact ⟨e, g, Fr.refl _ _, .inl ⟨wanted_none hg, ht⟩⟩
  | some p =>
    obtain ⟨j, w⟩ := p
    simp only [hg] at ht
    rw [wanted_some hg]
    cases hj : (ops[j]?).bind (·.dst) with
    | none =>
      simp only [hj] at ht
      exact ⟨e, g, Fr.refl _ _, .inr ⟨by simp [yielded, hj], ht⟩⟩
    | some d =>
      simp only [hj] at ht
      cases hv : eget e d with
      | none => simp only [hv] at ht; exact ht.elim
      | some v =>
        have hav := g.get d v hv
        cases v <;> simp only [hv] at ht <;> first | exact ht.elim | skip
        case tuple vs => exact ⟨e, g, Fr.refl _ _, .inr ⟨by rw [yielded_tuple hj hav]; rfl, ht⟩⟩
        case bool b =>
          rw [yielded_bool hj hav]
          have fr : ∀ u, Fr (dstsOf ops) e (eput n e (some d) u) := fun u => Fr.eput n e u (fun d' hd' => by simp at hd'; subst hd'; exact dst_mem hj)
          cases w <;> simp only at ht <;> rcases cond_of ht with ⟨hb, ht⟩ | ⟨hb, ht⟩ <;> subst hb
          · exact ⟨_, g.setFresh hv _ rfl, fr _, .inr ⟨rfl, ht⟩⟩
          · exact ⟨_, g.setFresh hv _ rfl, fr _, .inl ⟨rfl, ht⟩⟩
          · exact ⟨_, g.setFresh hv _ rfl, fr _, .inl ⟨rfl, ht⟩⟩
          · exact ⟨_, g.setFresh hv _ rfl, fr _, .inr ⟨rfl, ht⟩⟩

/-- A post over heaps, at worlds that differ from a given one by heap and draws alone. -/
abbrev atW (w0 : World) (Q : Exit → Act → Hp → Prop) : Exit → Act → World → Prop := fun e a w => SameO w0 w ∧ Q e a w.heap

theorem xops_of {P : Program} {n : Nd} {ops : Array Oper} {Q : Exit → Act → Hp → Prop} {k : Env → T} {K : Value → Hp → Prop} {L : Lp} {e0 : Env}
    (hk : ∀ e a h, k e L K h → Agr n e a → Fr (dstsOf ops) e0 e → Q .normal a h) : ∀ (rest : List Oper) (e : Env) (a : Act) (h : Hp), (∀ o ∈ rest, o ∈ ops.toList) →
    xops P n ops rest e k L K h → Agr n e a → Fr (dstsOf ops) e0 e → ∀ w0 w : World, SameO w0 w → w.heap = h → wpList P ops (atW w0 Q) rest a w
  | [], e, a, h, _, ht, g, fr, w0, w, hs, hw => by
    subst hw
    exact ⟨hs, hk e a _ ht g fr⟩
  | o :: rest, e, a, h, hin, ht, g, fr, w0, w, hs, hw => by
    subst hw
    have hd : ∀ d, o.dst = some d → d ∈ dstsOf ops := fun d hd => List.mem_filterMap.2 ⟨o, hin o (by simp), hd⟩
    obtain ⟨e', g', fr', hx⟩ := xguard_of g (show xguard n ops o e _ _ L K w.heap from ht)
    unfold wpList
    rcases hx with ⟨hwant, ht⟩ | ⟨hwant, ht⟩
    · rw [if_pos hwant]
      refine .inl (wp_of_opW (xop_of g' ht) ?_)
      intro v w' hs' ht'
      exact xops_of hk rest _ _ _ (fun o ho => hin o (by simp [ho])) ht' (g'.put o.dst v) ((fr.trans fr').trans (Fr.eput n _ _ hd)) w0 w' (hs.trans hs') rfl
    · rw [if_neg (by simp [hwant])]
      exact xops_of hk rest _ _ _ (fun o ho => hin o (by simp [ho])) ht (g'.put o.dst undef) ((fr.trans fr').trans (Fr.eput n _ _ hd)) w0 w hs rfl

theorem mem_insertN {x y : Nat} : ∀ {l : List Nat}, y ∈ insertN x l ↔ y = x ∨ y ∈ l
  | [] => by simp [insertN]
  | z :: l => by
    simp only [insertN]
    cases hb : Nat.blt x z with
    | true => simp
    | false =>
      cases hc : Nat.beq x z with
      | true =>
        have := Nat.eq_of_beq_eq_true hc; subst this
        simp
      | false => simp [mem_insertN (l := l)]; exact or_left_comm
theorem mem_sortN {y : Nat} (l : List Nat) : y ∈ sortN l ↔ y ∈ l := by
  unfold sortN
  have : ∀ (l acc : List Nat), y ∈ l.foldl (fun acc x => insertN x acc) acc ↔ y ∈ acc ∨ y ∈ l := by
    intro l
    induction l with
    | nil => intro acc; simp
    | cons x l ih => intro acc; simp only [List.foldl_cons, ih, mem_insertN, List.mem_cons]; rw [or_assoc]; exact or_left_comm
  simpa using this l []
theorem eget_append (e e' : Env) (s : Nat) : eget (e ++ e') s = if s ∈ e.map (·.1) then eget e s else eget e' s := by
  induction e with
  | nil => simp
  | cons p e ih =>
    obtain ⟨t, v⟩ := p
    rw [List.cons_append, eget_cons, eget_cons, ih]
    by_cases h : t = s
    · simp [h]
    · have : ¬ s = t := fun hh => h hh.symm
      simp only [List.map_cons, List.mem_cons, this, false_or, h, if_false]
theorem eget_forget {e : Env} {l : List Nat} {s : Nat} : eget (forget e l) s = if s ∈ l then none else eget e s := by
  unfold forget
  rw [eget_append]
  have h1 : (l.map (fun s => ((s, none) : Nat × Option Value))).map (·.1) = l := by
    rw [List.map_map]; simp [Function.comp_def]
  rw [h1]
  by_cases hs : s ∈ l
  · rw [if_pos hs, if_pos hs]
    clear h1
    induction l with
    | nil => simp at hs
    | cons t l ih =>
      rw [List.map_cons, eget_cons]
      by_cases ht : t = s
      · rw [if_pos ht]
      · rw [if_neg ht]
        exact ih (by simp at hs; rcases hs with hh | hh; exact (ht hh.symm).elim; exact hh)
  · rw [if_neg hs, if_neg hs]
theorem valsOf_of {e : Env} {L : Lp} {K : Value → Hp → Prop} {h : Hp} : ∀ {ss : List Nat} {k : List Value → T}, valsOf e ss k L K h → ∃ vs, ss.map (eget e) = vs.map some ∧ k vs L K h
  | [], k, ht => ⟨[], rfl, ht⟩
  | s :: ss, k, ht => by
    unfold valsOf at ht
    cases hv : eget e s with
    | none => simp only [hv] at ht; exact ht.elim
    | some v =>
      simp only [hv] at ht
      obtain ⟨vs, hvs, ht⟩ := valsOf_of ht
      exact ⟨v :: vs, by simp [hv, hvs], ht⟩
/-- The head's environment fits, where what is known at the round's end does. -/
theorem Agr.head {n : Nd} {e e' : Env} {a : Act} {ss ms : List Nat} {vs : List Value} (g : Agr n e' a) (hv : ss.map (eget e') = vs.map some) (fr : Fr ms e e') :
    Agr n (bindL ss vs ++ forget e (sortN ms)) a := by
  refine ⟨g.size, g.defers, fun s v hs => ?_⟩
  have key : ∀ (ss : List Nat) (vs : List Value), ss.map (eget e') = vs.map some → ∀ v, eget (bindL ss vs ++ forget e (sortN ms)) s = some v → eget e' s = some v := by
    intro ss
    induction ss with
    | nil =>
      intro vs hh v hs
      simp only [bindL, List.zip_nil_left, List.map_nil, List.nil_append, eget_forget] at hs
      by_cases hm : s ∈ sortN ms
      · rw [if_pos hm] at hs; cases hs
      · rw [if_neg hm] at hs
        rw [fr s (fun hh => hm ((mem_sortN ms).2 hh))]
        exact hs
    | cons t ss ih =>
      intro vs hh v hs
      cases vs with
      | nil => simp at hh
      | cons u vs =>
        simp only [List.map_cons, List.cons.injEq] at hh
        have : bindL (t :: ss) (u :: vs) = (t, some u) :: bindL ss vs := rfl
        rw [this, List.cons_append, eget_cons] at hs
        by_cases ht : t = s
        · rw [if_pos ht] at hs; simp at hs; subst hs; rw [← ht]; exact hh.1
        · rw [if_neg ht] at hs; exact ih vs hh.2 v hs
  exact g.get s v (key ss vs hv v hs)
theorem live_spec (e : Env) : ∀ l, (live e l).map (fun p => eget e p.1) = (live e l).map (fun p => some p.2)
  | [] => rfl
  | s :: l => by
    unfold live
    cases hv : eget e s with
    | none => simp only; exact live_spec e l
    | some v => simp only [List.map_cons, hv, live_spec e l]

/-- A piece of a proof: a tree that goes on at a place. -/
def Pre (L L' : Lp) : Prop := ∃ M, L' = L ++ M
theorem Pre.refl (L : Lp) : Pre L L := ⟨[], by simp⟩
theorem Pre.trans {a b c : Lp} (h : Pre a b) (k : Pre b c) : Pre a c := by
  obtain ⟨m, rfl⟩ := h; obtain ⟨m', rfl⟩ := k; exact ⟨m ++ m', by simp⟩
theorem Pre.snoc (L : Lp) (J : List Value → Hp → Prop) : Pre L (L ++ [J]) := ⟨[J], rfl⟩
theorem again_of {L L' : Lp} {J : List Value → Hp → Prop} {K : Value → Hp → Prop} {h : Hp} {vs : List Value} (hp : Pre (L ++ [J]) L') (ht : T.again L.length vs L' K h) : J vs h := by
  obtain ⟨M, rfl⟩ := hp
  unfold T.again at ht
  simpa using ht

/-- What a continuation must be good for. -/
def KOk (n : Nd) (L : Lp) (K : Value → Hp → Prop) (e0 : Env) (ms : List Nat) (κ : Exit → Env → Nat → T) (Q : Exit → Act → Hp → Prop) : Prop :=
  ∀ x e a h L', Pre L L' → κ x e L'.length L' K h → Agr n e a → Fr ms e0 e → Q x a h
def COk (P : Program) (n : Nd) (cuts : List Nat) (fu : Nat) : Prop :=
  ∀ (c : Code) (e : Env) (κ : Exit → Env → Nat → T) (L : Lp) (K : Value → Hp → Prop) (Q : Exit → Act → Hp → Prop) (a : Act) (h : Hp),
    KOk n L K e (mods c) κ Q → xcode P n cuts fu c e L.length κ L K h → Agr n e a → cW P c Q a h

theorem xloop_of {P : Program} {n : Nd} {ms : List Nat} {e : Env} {L : Lp} {K : Value → Hp → Prop} {h : Hp} {a : Act} {body : Env → (Env → T) → T}
    (ht : xloop ms e L.length body L K h) (g : Agr n e a) :
    ∃ (Inv : Nat → Act → Hp → Prop), (∃ m, Inv m a h) ∧ ∀ m a h, Inv m a h → ∃ (e1 : Env) (J : List Value → Hp → Prop) (k : Env → T), Fr ms e e1 ∧ Agr n e1 a ∧ body e1 k (L ++ [J]) K h ∧
      ∀ e2 a2 h2 L2, Pre (L ++ [J]) L2 → k e2 L2 K h2 → Agr n e2 a2 → Fr ms e1 e2 → ∃ m', m' < m ∧ Inv m' a2 h2 := by
  unfold xloop at ht
  obtain ⟨I, ⟨x0, m0, hinit, hI0⟩, hround⟩ := ht
  have frh : ∀ vs, Fr ms e (bindL ((live e (sortN ms)).map (·.1)) vs ++ forget e (sortN ms)) := by
    intro vs s hs
    have hs' : s ∉ sortN ms := fun hh => hs ((mem_sortN ms).1 hh)
    have hns : s ∉ (bindL ((live e (sortN ms)).map (·.1)) vs).map (·.1) := by
      intro hh
      have h1 : ∀ l : List Nat, ∀ t ∈ (live e l).map (·.1), t ∈ l := by
        intro l
        induction l with
        | nil => intro t ht; simp [live] at ht
        | cons u l ih =>
          intro t ht
          unfold live at ht
          cases hv : eget e u with
          | none => simp only [hv] at ht; exact List.mem_cons_of_mem _ (ih t ht)
          | some v =>
            simp only [hv, List.map_cons, List.mem_cons] at ht
            rcases ht with rfl | ht
            · simp
            · exact List.mem_cons_of_mem _ (ih t ht)
      have h2 : ∀ (l : List Nat) (vs : List Value), ∀ t ∈ (bindL l vs).map (·.1), t ∈ l := by
        intro l vs t ht
        unfold bindL at ht
        rw [List.map_map] at ht
        obtain ⟨p, hp, rfl⟩ := List.mem_map.1 ht
        exact (List.of_mem_zip hp).1
      exact hs' (h1 _ _ (h2 _ _ _ hh))
    rw [eget_append, if_neg hns, eget_forget, if_neg hs']
  refine ⟨fun m a h => ∃ x, I x m h ∧ Agr n (bindL ((live e (sortN ms)).map (·.1)) (parts ((live e (sortN ms)).map fun p => compV p.2) (hvs _ x)) ++ forget e (sortN ms)) a, ?_, ?_⟩
  · refine ⟨m0, x0, hI0, ?_⟩
    refine Agr.head g ?_ (Fr.refl _ _)
    rw [← hinit, List.map_map, List.map_map]
    exact live_spec e (sortN ms)
  · rintro m a1 h1 ⟨x, hI, g1⟩
    have := hround x m h1 hI
    rw [unc_cur] at this
    refine ⟨_, _, _, frh _, g1, this, ?_⟩
    intro e2 a2 h2 L2 hp hk g2 fr2
    obtain ⟨vs, hvs, hk⟩ := valsOf_of hk
    obtain ⟨m', hm, y, rfl, hIy⟩ := again_of hp hk
    exact ⟨m', hm, y, hIy, Agr.head g2 hvs ((frh _).trans fr2)⟩
theorem xjoin_of {n : Nd} {ss : List Nat} {cs : List Comp} {ms : List Nat} {e : Env} {L : Lp} {K : Value → Hp → Prop} {h : Hp} {first : (Env → T) → T} {after : Env → T}
    (hss : ∀ s ∈ ss, s ∈ ms) (ht : xjoin ss cs ms e L.length first after L K h) :
    ∃ (J : List Value → Hp → Prop) (k : Env → T), first k (L ++ [J]) K h ∧
      ∀ e2 a2 h2 L2, Pre (L ++ [J]) L2 → k e2 L2 K h2 → Agr n e2 a2 → Fr ms e e2 → ∃ e3, Fr ms e e3 ∧ Agr n e3 a2 ∧ after e3 L K h2 := by
  obtain ⟨J, hf, ha⟩ := ht
  refine ⟨_, _, hf, ?_⟩
  intro e2 a2 h2 L2 hp hk g2 fr2
  obtain ⟨vs, hvs', hk⟩ := valsOf_of hk
  obtain ⟨y, rfl, hJ⟩ := again_of hp hk
  have := ha y h2 hJ
  rw [unc_cur] at this
  refine ⟨_, ?_, Agr.head g2 hvs' fr2, this⟩
  intro s hs
  have hs' : s ∉ sortN ms := fun hh => hs ((mem_sortN ms).1 hh)
  have hns : s ∉ (bindL ss (parts cs (hvs (flat cs) y))).map (·.1) := by
    intro hh
    unfold bindL at hh
    rw [List.map_map] at hh
    obtain ⟨p, hp, rfl⟩ := List.mem_map.1 hh
    exact hs (hss _ (List.of_mem_zip hp).1)
  rw [eget_append, if_neg hns, eget_forget, if_neg hs']

/-- A goto within a scope: to a label of its own. -/
def gotoQ (c : Code) (J : Nat → Act → Hp → Prop) (Q : Exit → Act → Hp → Prop) : Exit → Act → Hp → Prop
  | .goto l, a, h => match findLabel c l with
    | some _ => J l a h
    | none => Q (.goto l) a h
  | e, a, h => Q e a h
theorem cW_scope {P : Program} {c : Code} {Q : Exit → Act → Hp → Prop} {a : Act} {h : Hp} {M : Type} {lt : M → M → Prop} (wf : WellFounded lt) (J : Nat → M → Act → Hp → Prop)
    (first : cW P c (gotoQ c (fun l a h => ∃ m, J l m a h) Q) a h)
    (pass : ∀ l m a h, J l m a h → ∃ r, findLabel c l = some r ∧ cW P r (gotoQ c (fun l' a' h' => ∃ m', lt m' m ∧ J l' m' a' h') Q) a h) : cW P (.scope c) Q a h := by
  intro w0 w hs hw b k cs
  have hg : ∀ l r, findLabel c l = some r → gotoIn l (.inScope c :: k) = some (.code r :: .inScope c :: k) := fun l r hr => by simp [gotoIn, hr]
  have hg' : ∀ l, findLabel c l = none → ∀ k', gotoIn l k = some k' → gotoIn l (.inScope c :: k) = some k' := fun l hr k' hk => by simp [gotoIn, hr, hk]
  have key : ∀ (m : M), ∀ l a w r, SameO w0 w → J l m a w.heap → findLabel c l = some r → ∃ e a' w', atW w0 Q e a' w' ∧ Arrives P (lone (b.at a (.code r :: .inScope c :: k)) cs w) b k cs e a' w' := by
    intro m
    induction m using wf.induction with
    | _ m ih =>
      intro l a w r hs hJ hr
      obtain ⟨r', hr', hc⟩ := pass l m a w.heap hJ
      rw [hr] at hr'; obtain rfl := Option.some.inj hr'
      obtain ⟨e, a₁, w₁, ⟨hs1, hq⟩, harr⟩ := hc w0 w hs rfl b (.inScope c :: k) cs
      cases e with
      | normal => exact ⟨.normal, a₁, w₁, ⟨hs1, hq⟩, Steps.trans harr (.one step_inScope)⟩
      | exit id => exact ⟨.exit id, a₁, w₁, ⟨hs1, hq⟩, fun k' hk => harr k' (by simp [exitTo, hk])⟩
      | goto l' =>
        simp only [gotoQ] at hq
        cases hf : findLabel c l' with
        | none => simp only [hf] at hq; exact ⟨.goto l', a₁, w₁, ⟨hs1, hq⟩, fun k' hk => harr k' (hg' l' hf k' hk)⟩
        | some r2 =>
          simp only [hf] at hq
          obtain ⟨m', hlt, hJ'⟩ := hq
          obtain ⟨e₂, a₂, w₂, hq₂, harr₂⟩ := ih m' hlt l' a₁ w₁ r2 hs1 hJ' hf
          exact ⟨e₂, a₂, w₂, hq₂, .of_steps (harr _ (hg l' r2 hf)) harr₂⟩
      | ret => exact ⟨_, a₁, w₁, ⟨hs1, hq⟩, harr⟩
      | panic ch => exact ⟨_, a₁, w₁, ⟨hs1, hq⟩, harr⟩
      | outgrown => exact ⟨_, a₁, w₁, ⟨hs1, hq⟩, harr⟩
  obtain ⟨e, a₁, w₁, ⟨hs1, hq⟩, harr⟩ := first w0 w hs hw b (.inScope c :: k) cs
  cases e with
  | normal => exact ⟨.normal, a₁, w₁, ⟨hs1, hq⟩, .head step_scope (Steps.trans harr (.one step_inScope))⟩
  | exit id => exact ⟨.exit id, a₁, w₁, ⟨hs1, hq⟩, fun k' hk => .head step_scope (harr k' (by simp [exitTo, hk]))⟩
  | goto l' =>
    simp only [gotoQ] at hq
    cases hf : findLabel c l' with
    | none => simp only [hf] at hq; exact ⟨.goto l', a₁, w₁, ⟨hs1, hq⟩, fun k' hk => .head step_scope (harr k' (hg' l' hf k' hk))⟩
    | some r2 =>
      simp only [hf] at hq
      obtain ⟨m', hJ'⟩ := hq
      obtain ⟨e₂, a₂, w₂, hq₂, harr₂⟩ := key m' l' a₁ w₁ r2 hs1 hJ' hf
      exact ⟨e₂, a₂, w₂, hq₂, .of_steps (.head step_scope (harr _ (hg l' r2 hf))) harr₂⟩
  | ret => exact ⟨_, a₁, w₁, ⟨hs1, hq⟩, .of_steps (.one step_scope) harr⟩
  | panic ch => exact ⟨_, a₁, w₁, ⟨hs1, hq⟩, .of_steps (.one step_scope) harr⟩
  | outgrown => exact ⟨_, a₁, w₁, ⟨hs1, hq⟩, .of_steps (b := b) (k := k) (cs := cs) (e := .outgrown) (.one step_scope) harr⟩

theorem mods_find : ∀ {c : Code} {l : Nat} {r : Code}, findLabel c l = some r → ∀ s ∈ mods r, s ∈ mods c
  | .seq a b, l, r, hr, s, hs => by
    simp only [findLabel] at hr
    cases ha : findLabel a l with
    | none => rw [ha] at hr; exact List.mem_append_right _ (mods_find hr s hs)
    | some ra =>
      rw [ha] at hr
      simp only [Option.some.injEq] at hr
      subst hr
      rcases List.mem_append.1 hs with hs | hs
      · exact List.mem_append_left _ (mods_find ha s hs)
      · exact List.mem_append_right _ hs
  | .label l', l, r, hr, s, hs => by
    simp only [findLabel] at hr
    split at hr
    · simp only [Option.some.injEq] at hr; subst hr; exact hs
    · cases hr
  | .skip, l, r, hr, _, _ => by simp [findLabel] at hr
  | .region _ _ _, l, r, hr, _, _ => by simp [findLabel] at hr
  | .cond _ _ _, l, r, hr, _, _ => by simp [findLabel] at hr
  | .block _ _, l, r, hr, _, _ => by simp [findLabel] at hr
  | .loop _, l, r, hr, _, _ => by simp [findLabel] at hr
  | .rangeFunc _ _ _ _, l, r, hr, _, _ => by simp [findLabel] at hr
  | .exit _, l, r, hr, _, _ => by simp [findLabel] at hr
  | .scope _, l, r, hr, _, _ => by simp [findLabel] at hr
  | .goto _, l, r, hr, _, _ => by simp [findLabel] at hr
  | .ret, l, r, hr, _, _ => by simp [findLabel] at hr
  | .refuse _, l, r, hr, _, _ => by simp [findLabel] at hr

theorem head_same {P : Program} {n : Nat} {cuts : List Nat} : ∀ (t : Code) {l : Nat} {r : Code}, headLabel l t = true → findLabel t l = some r →
    mods t = mods r ∧ ∀ fu e lv κ, xcode P n cuts fu t e lv κ = xcode P n cuts fu r e lv κ
  | .label l', l, r, hh, hr => by
    simp only [findLabel] at hr
    split at hr
    · simp only [Option.some.injEq] at hr; subst hr
      refine ⟨rfl, fun fu e lv κ => ?_⟩
      cases fu <;> simp only [xcode]
    · cases hr
  | .seq a b, l, r, hh, hr => by
    simp only [findLabel] at hr
    cases ha : findLabel a l with
    | none =>
      exfalso
      have : ∀ (a : Code), headLabel l a = true → findLabel a l ≠ none := by
        intro a
        induction a with
        | label l' =>
          intro h1 h2
          simp only [headLabel] at h1
          have := Nat.eq_of_beq_eq_true h1
          subst this
          simp [findLabel] at h2
        | seq x y ihx ihy =>
          intro h1 h2
          simp only [headLabel] at h1
          simp only [findLabel] at h2
          cases hx : findLabel x l with
          | none => exact ihx h1 hx
          | some rx => rw [hx] at h2; cases h2
        | _ => intro h1; simp [headLabel] at h1
      exact this a (by simpa [headLabel] using hh) ha
    | some ra =>
      rw [ha] at hr
      simp only [Option.some.injEq] at hr
      subst hr
      obtain ⟨h1, h2⟩ := head_same (P := P) (n := n) (cuts := cuts) a (by simpa [headLabel] using hh) ha
      refine ⟨by simp [mods, h1], fun fu e lv κ => ?_⟩
      cases fu with
      | zero => simp only [xcode]
      | succ fu => simp only [xcode, h1, h2]
  | .skip, l, r, hh, hr => by simp [findLabel] at hr
  | .region _ _ _, l, r, hh, hr => by simp [findLabel] at hr
  | .cond _ _ _, l, r, hh, hr => by simp [findLabel] at hr
  | .block _ _, l, r, hh, hr => by simp [findLabel] at hr
  | .loop _, l, r, hh, hr => by simp [findLabel] at hr
  | .rangeFunc _ _ _ _, l, r, hh, hr => by simp [findLabel] at hr
  | .exit _, l, r, hh, hr => by simp [findLabel] at hr
  | .scope _, l, r, hh, hr => by simp [findLabel] at hr
  | .goto _, l, r, hh, hr => by simp [findLabel] at hr
  | .ret, l, r, hh, hr => by simp [findLabel] at hr
  | .refuse _, l, r, hh, hr => by simp [findLabel] at hr
end Go.Sx
