/- A framework of our own, part O: what a tree asks of an operation, the operation does. No condition. -/
import Derived.Test.YtmdncdaladplkaaGreatDoorSxX
set_option linter.unusedVariables false
set_option linter.unusedSimpArgs false
set_option linter.deprecated false
namespace Go.Sx

section sems
variable {P : Program} {h : Hp}
theorem semW_program {α : Type} (f : Program → Sem α) (K : α → Hp → Prop) : semW P (program >>= f) h K = semW P (f P) h K := by
  rw [semW_bind']; rfl
theorem semW_underlying {t : TypeId} {d : TypeDesc} (hd : P.underlying t = some d) (K : TypeDesc → Hp → Prop) : semW P (underlying t) h K = K d h := by
  unfold underlying; rw [semW_program, hd]; rfl
theorem info_of_underlying {t : TypeId} {d : TypeDesc} (hd : P.underlying t = some d) : ∃ i, P.info? t = some i := by
  unfold Program.underlying at hd
  cases hi : P.info? t with
  | none => rw [hi] at hd; simp at hd
  | some i => exact ⟨i, rfl⟩
theorem semW_typeInfo {t : TypeId} {i : TypeInfo} (hi : P.info? t = some i) (K : TypeInfo → Hp → Prop) : semW P (typeInfo t) h K = K i h := by
  unfold typeInfo; rw [semW_program, hi]; rfl
theorem cellsOf_info {t : TypeId} {i : TypeInfo} (hi : P.info? t = some i) : P.cellsOf t = i.size := by
  simp [Program.cellsOf, hi]
theorem semW_sizeOf {t : TypeId} {i : TypeInfo} (hi : P.info? t = some i) (K : Nat → Hp → Prop) : semW P (sizeOf t) h K = K (P.cellsOf t) h := by
  unfold sizeOf; rw [semW_bind', semW_typeInfo hi, cellsOf_info hi]; rfl
theorem semW_zeroValue {t : TypeId} {z : Value} (hz : (P.info? t).bind (·.zero) = some z) (K : Value → Hp → Prop) : semW P (zeroValue t) h K = K z h := by
  cases hi : P.info? t with
  | none => rw [hi] at hz; simp at hz
  | some i =>
    rw [hi] at hz; simp at hz
    unfold zeroValue; rw [semW_bind', semW_typeInfo hi, hz]; rfl
theorem semW_isAgg {t : TypeId} {b : Bool} (hb : isAggD P t = some b) (K : Bool → Hp → Prop) : semW P (isAgg t) h K = K b h := by
  unfold isAggD at hb
  cases hd : P.underlying t with
  | none => rw [hd] at hb; simp at hb
  | some d =>
    rw [hd] at hb
    unfold isAgg; rw [semW_bind', semW_underlying hd]
    cases d <;> simp at hb <;> subst hb <;> rfl
theorem info_of_isAgg {t : TypeId} {b : Bool} (hb : isAggD P t = some b) : ∃ i, P.info? t = some i := by
  unfold isAggD at hb
  cases hd : P.underlying t with
  | none => rw [hd] at hb; simp at hb
  | some d => exact info_of_underlying hd
theorem semW_loadCellsFrom (a : Addr) : ∀ (vs : List Value) (i : Nat) (acc : Array Value) (K : Array Value → Hp → Prop), cellsAt h a i vs → K (acc ++ vs.toArray) h →
    semW P (loadCellsFrom a i vs.length acc) h K
  | [], i, acc, K, _, hk => by
    have hk' : K acc h := by simpa using hk
    exact hk'
  | v :: vs, i, acc, K, hc, hk => by
    simp only [List.length_cons, loadCellsFrom]
    rw [semW_bind']
    refine ⟨v, hc.1, semW_loadCellsFrom a vs (i + 1) (acc.push v) K hc.2 ?_⟩
    have e : acc.push v ++ vs.toArray = acc ++ (v :: vs).toArray := by
      apply Array.toList_inj.1; simp
    rw [e]; exact hk
theorem semW_loadCells {a : Addr} {n : Nat} {vs : List Value} (hn : vs.length = n) (hc : cellsAt h a 0 vs) (K : Array Value → Hp → Prop) (hk : K vs.toArray h) : semW P (loadCells a n) h K := by
  subst hn
  exact semW_loadCellsFrom a vs 0 #[] K hc (by simpa using hk)
theorem semW_storeCells (a : Addr) : ∀ (vs : List Value) (h : Hp) (i : Nat) (K : Unit → Hp → Prop), canSt h a i vs → K () (hsets h a i vs) → semW P (storeCells a vs i) h K
  | [], h, i, K, _, hk => hk
  | v :: vs, h, i, K, hc, hk => by
    simp only [storeCells]
    rw [semW_bind']
    exact ⟨hc.1, hc.2.1, hc.2.2.1, semW_storeCells a vs _ (i + 1) K hc.2.2.2 hk⟩
end sems

/-- How many slots a frame has, and what it defers. -/
structure Nd where
  n : Nat
  d : List Deferred
instance : Coe Nd Nat := ⟨Nd.n⟩
/-- The slots' array bears what is known. -/
structure Agr (n : Nd) (e : Env) (a : Act) : Prop where
  size : a.tmps.size = n.n
  defers : a.defers = n.d
  get : ∀ s v, eget e s = some v → a.tmps.getD s undef = v
theorem Agr.ev {n : Nd} {e : Env} {a : Act} (g : Agr n e a) {x : Operand} {v : Value} (hx : ev e x = some v) : a.eval x = v := by
  cases x with
  | tmp t => exact g.get t v hx
  | const w => simpa [Sx.ev, Act.eval] using hx
  | global i => simpa [Sx.ev, Act.eval] using hx
  | func f => simpa [Sx.ev, Act.eval] using hx
theorem eget_cons (e : Env) (s : Nat) (v : Option Value) (t : Nat) : eget ((s, v) :: e) t = if s = t then v else eget e t := by
  simp only [eget]
  by_cases h : s = t
  · subst h; simp
  · have : Nat.beq s t = false := by
      cases hb : Nat.beq s t
      · rfl
      · exact (h (Nat.eq_of_beq_eq_true hb)).elim
    rw [this, if_neg h]; rfl
theorem Agr.put {n : Nd} {e : Env} {a : Act} (g : Agr n e a) (dst : Option Tmp) (v : Value) : Agr n (eput n e dst v) (a.put dst v) := by
  cases dst with
  | none => exact g
  | some d =>
    refine ⟨by simp [Act.put, g.size], by simp [Act.put, g.defers], fun s u hu => ?_⟩
    simp only [eput] at hu
    cases hb : Nat.blt d n with
    | true =>
      have hd : d < n := by simpa [Nat.blt_eq] using hb
      rw [hb] at hu
      simp only [cond_true, eget_cons] at hu
      simp only [Act.put, Array.getD_eq_getD_getElem?, Array.getElem?_setIfInBounds]
      by_cases hs : d = s
      · subst hs
        rw [if_pos rfl] at hu
        simp at hu; subst hu
        simp [g.size, hd]
      · rw [if_neg hs] at hu
        rw [if_neg hs]
        have := g.get s u hu
        simpa [Array.getD_eq_getD_getElem?] using this
    | false =>
      rw [hb] at hu
      have hd : ¬ d < n := by intro hh; rw [← Nat.blt_eq] at hh; rw [hb] at hh; cases hh
      have hput : a.put (some d) v = a := by
        simp only [Act.put]
        have : a.tmps.setIfInBounds d v = a.tmps := Array.setIfInBounds_eq_of_size_le (by rw [g.size]; exact Nat.le_of_not_lt hd)
        rw [this]
      rw [hput]
      exact g.get s u hu
theorem Agr.setFresh {n : Nd} {e : Env} {a : Act} (g : Agr n e a) {s : Nat} {v : Value} (hv : eget e s = some v) (w : Value) (hw : w = v) : Agr n (eput n e (some s) w) a := by
  subst hw
  refine ⟨g.size, g.defers, fun t u hu => ?_⟩
  simp only [eput] at hu
  cases hb : Nat.blt s n with
  | true =>
    rw [hb] at hu
    simp only [cond_true, eget_cons] at hu
    by_cases hs : s = t
    · subst hs; rw [if_pos rfl] at hu; simp at hu; subst hu; exact g.get s w hv
    · rw [if_neg hs] at hu; exact g.get t u hu
  | false => rw [hb] at hu; exact g.get t u hu

section trees
variable {L : Lp} {K : Value → Hp → Prop} {h : Hp}
theorem with1_of {e : Env} {x : Operand} {k : Value → T} (ht : with1 e x k L K h) : ∃ v, ev e x = some v ∧ k v L K h := by
  unfold with1 at ht
  cases hx : ev e x with
  | none => rw [hx] at ht; exact ht.elim
  | some v => rw [hx] at ht; exact ⟨v, rfl, ht⟩
theorem withL_of {e : Env} : ∀ {xs : List Operand} {k : List Value → T}, withL e xs k L K h → ∃ vs, xs.map (ev e) = vs.map some ∧ k vs L K h
  | [], k, ht => ⟨[], rfl, ht⟩
  | x :: xs, k, ht => by
    obtain ⟨v, hv, ht⟩ := with1_of ht
    obtain ⟨vs, hvs, ht⟩ := withL_of ht
    exact ⟨v :: vs, by simp [hv, hvs], ht⟩
theorem Agr.evs {n : Nd} {e : Env} {a : Act} (g : Agr n e a) : ∀ {xs : List Operand} {vs : List Value}, xs.map (Sx.ev e) = vs.map some → xs.map a.eval = vs
  | [], [], _ => rfl
  | x :: xs, v :: vs, hh => by
    simp only [List.map_cons, List.cons.injEq] at hh
    simp only [List.map_cons, g.ev hh.1, g.evs hh.2]
  | [], v :: vs, hh => by simp at hh
  | x :: xs, [], hh => by simp at hh
theorem osome_of {p : Option Addr} {k : Addr → T} (ht : T.osome p k L K h) : ∃ a, p = some a ∧ k a L K h := by
  cases p with
  | none => exact ht.elim
  | some a => exact ⟨a, rfl, ht⟩
theorem cond_of {b : Bool} {t u : T} (ht : (cond b t u) L K h) : (b = true ∧ t L K h) ∨ (b = false ∧ u L K h) := by
  cases b
  · exact .inr ⟨rfl, ht⟩
  · exact .inl ⟨rfl, ht⟩
end trees

section ops
variable {P : Program} {L : Lp} {K : Value → Hp → Prop} {h : Hp}
theorem opV {s : Sem Value} {R : Value → Hp → Prop} : semW P (do pure (Next.value (← s))) h (nextK P R) = semW P s h R := by
  rw [semW_bind']; rfl
theorem opU {s : Sem Unit} {R : Value → Hp → Prop} : semW P (do s; pure Next.skip) h (nextK P R) = semW P s h (fun _ h' => R undef h') := by
  rw [semW_bind']; rfl
theorem sem_of {s : Sem Value} {tup : Bool} {cs : List Comp} {kk : Value → T} (ht : T.sem P s tup cs (cur _ fun l => kk (rv tup cs l)) L K h) :
    semW P s h (fun v h' => kk v L K h') := by
  refine semW_mono _ _ _ _ ?_ ht
  rintro v h' ⟨x, rfl, hx⟩
  rw [unc_cur] at hx
  exact hx
theorem semSl_of {s : Sem Value} {el : TypeId} {kk : Value → T} (ht : T.sem P s false [(false, [.slice el])] (fun p l c => kk (.slice p l c)) L K h) :
    semW P s h (fun v h' => kk v L K h') := by
  refine semW_mono _ _ _ _ ?_ ht
  rintro v h' ⟨x, rfl, hx⟩
  exact hx
theorem semB_of {s : Sem Value} {kk : Value → T} (ht : T.sem P s false [(false, [.bool])] (fun b => kk (.bool b)) L K h) : semW P s h (fun v h' => kk v L K h') := by
  refine semW_mono _ _ _ _ ?_ ht
  rintro v h' ⟨x, rfl, hx⟩
  exact hx
theorem semI_of {s : Sem Value} {kk : Value → T} (ht : T.sem P s false [(false, [.int .i64])] (fun b => kk (.int .i64 b)) L K h) : semW P s h (fun v h' => kk v L K h') := by
  refine semW_mono _ _ _ _ ?_ ht
  rintro v h' ⟨x, rfl, hx⟩
  exact hx
theorem semS_of {s : Sem Value} {kk : Value → T} (ht : T.sem P s false [(false, [.string])] (fun b => kk (.string b)) L K h) : semW P s h (fun v h' => kk v L K h') := by
  refine semW_mono _ _ _ _ ?_ ht
  rintro v h' ⟨x, rfl, hx⟩
  exact hx
theorem semM_of {s : Sem Value} {a b : TypeId} {kk : Value → T} (ht : T.sem P s false [(false, [.map a b])] (fun b => kk (.map b)) L K h) : semW P s h (fun v h' => kk v L K h') := by
  refine semW_mono _ _ _ _ ?_ ht
  rintro v h' ⟨x, rfl, hx⟩
  exact hx
theorem semP_of {s : Sem Value} {a : TypeId} {kk : Value → T} (ht : T.sem P s false [(false, [.pointer a])] (fun b => kk (.pointer b)) L K h) : semW P s h (fun v h' => kk v L K h') := by
  refine semW_mono _ _ _ _ ?_ ht
  rintro v h' ⟨x, rfl, hx⟩
  exact hx
theorem semN_of {s : Sem Value} {kk : T} (ht : T.sem P s true [] kk L K h) : semW P s h (fun v h' => v = .tuple #[] ∧ kk L K h') := by
  refine semW_mono _ _ _ _ ?_ ht
  rintro v h' ⟨x, rfl, hx⟩
  exact ⟨rfl, hx⟩

theorem xint_of {op : BinOp} {k : IntKind} {m n : Int} {kk : Value → T} (hs : isShift op = false) (t : TypeId) (ht : xint op k m n kk L K h) :
    semW P (binOp op t (.int k m) (.int k n)) h (fun v h' => kk v L K h') := by
  cases op <;> simp only [isShift, Bool.true_eq_false] at hs <;> simp only [xint] at ht <;>
    first
    | exact ht.elim
    | (simp only [binOp, Op.intArith, Op.intDiv, Op.intBits, Op.intCmp, ne_eq, not_true_eq_false, if_false]; exact ht)
    | (obtain ⟨h0, ht⟩ := ht
       simp only [binOp, Op.intDiv, ne_eq, not_true_eq_false, if_false, if_neg h0]; exact ht)
theorem xshift_of {op : BinOp} {k k' : IntKind} {m n : Int} {kk : Value → T} (hs : isShift op = true) (t : TypeId) (ht : xshift op k m n kk L K h) :
    semW P (binOp op t (.int k m) (.int k' n)) h (fun v h' => kk v L K h') := by
  cases op <;> simp only [isShift, Bool.false_eq_true] at hs <;> simp only [xshift] at ht <;> obtain ⟨h0, ht⟩ := ht <;>
    simp only [binOp, Op.shift, if_neg (Int.not_lt.2 h0)] <;> exact ht
theorem xstr_of {op : BinOp} {m n : ByteArray} {kk : Value → T} (t : TypeId) (ht : xstr op m n kk L K h) :
    semW P (binOp op t (.string m) (.string n)) h (fun v h' => kk v L K h') := by
  cases op <;> simp only [xstr] at ht <;>
    first
    | exact ht.elim
    | (simp only [binOp, Op.stringOp]; exact ht)
    | (obtain ⟨h0, ht⟩ := ht
       simp only [binOp, Op.stringOp, if_neg (Int.not_lt.2 h0)]; exact ht)

def guardFree : Value → Bool
  | .nilIface => false
  | .agg _ => false
  | _ => true
theorem eqGuard_free {op : BinOp} {t : TypeId} {x y : Operand} {a b : Value} (ha : guardFree a = true) {R : Value → Hp → Prop} :
    semW P (do eqGuard op t x y a b; binOp op t a b) h R = semW P (binOp op t a b) h R := by
  rw [semW_bind']
  have : ∀ K : Unit → Hp → Prop, semW P (eqGuard op t x y a b) h K = K () h := by
    intro K
    cases op <;> first | rfl | (cases a <;> first | (simp [guardFree] at ha; done) | rfl)
  rw [this]
theorem equal_bool {t : TypeId} (hd : P.underlying t = some .bool) (m n : Bool) (R : Bool → Hp → Prop) : semW P (Op.equal t (.bool m) (.bool n)) h R = R (m == n) h := by
  show semW P (Op.equalIn (9999 + 1) t (.bool m) (.bool n)) h R = _
  unfold Op.equalIn
  rw [semW_bind', semW_underlying hd]; rfl
theorem equal_ptr_nil {t e : TypeId} (hd : P.underlying t = some (.pointer e)) (p : Option Addr) (R : Bool → Hp → Prop) : semW P (Op.equal t (.pointer p) (.pointer none)) h R = R p.isNone h := by
  show semW P (Op.equalIn (9999 + 1) t (.pointer p) (.pointer none)) h R = _
  unfold Op.equalIn
  rw [semW_bind', semW_underlying hd]; cases p <;> rfl
theorem equal_slice_nil {t e : TypeId} (hd : P.underlying t = some (.slice e)) (p : Option Addr) (l c : Nat) (R : Bool → Hp → Prop) : semW P (Op.equal t (.slice p l c) (.slice none 0 0)) h R = R p.isNone h := by
  show semW P (Op.equalIn (9999 + 1) t (.slice p l c) (.slice none 0 0)) h R = _
  unfold Op.equalIn
  rw [semW_bind', semW_underlying hd]; cases p <;> rfl
theorem equal_map_nil {t a b : TypeId} (hd : P.underlying t = some (.map a b)) (p : Option Nat) (R : Bool → Hp → Prop) : semW P (Op.equal t (.map p) (.map none)) h R = R p.isNone h := by
  show semW P (Op.equalIn (9999 + 1) t (.map p) (.map none)) h R = _
  unfold Op.equalIn
  rw [semW_bind', semW_underlying hd]; cases p <;> rfl
theorem asked_of {op : BinOp} {t : TypeId} {a b : Value} {r : Bool} {kk : Value → T}
    (hq : ∀ R : Bool → Hp → Prop, semW P (Op.equal t a b) h R = R r h)
    (h1 : binOp .eql t a b = (do pure (.bool (← Op.equal t a b)))) (h2 : binOp .neq t a b = (do pure (.bool (!(← Op.equal t a b)))))
    (ht : asked op r kk T.fail L K h) : semW P (binOp op t a b) h (fun v h' => kk v L K h') := by
  cases op <;> simp only [asked] at ht <;> first
    | exact ht.elim
    | (rw [h1, semW_bind', hq]; exact ht)
    | (rw [h2, semW_bind', hq]; exact ht)
theorem xcmp_of {op : BinOp} {t : TypeId} {x y : Operand} {a b : Value} {kk : Value → T} (ht : xcmp P op t x y a b kk L K h) :
    semW P (do eqGuard op t x y a b; binOp op t a b) h (fun v h' => kk v L K h') := semB_of ht
theorem xbin_of {e : Env} {op : BinOp} {t : TypeId} {x y : Operand} {a b : Value} {kk : Value → T} (hy : ev e y = some b)
    (ht : xbin P op t x y a b kk L K h) : semW P (do eqGuard op t x y a b; binOp op t a b) h (fun v h' => kk v L K h') := by
  have hnil : ∀ q, b = .pointer q → isNil y = true → q = none := by
    intro q hq hn
    cases y <;> simp only [isNil, Bool.false_eq_true] at hn
    rename_i c
    simp only [Sx.ev, Option.some.injEq] at hy
    subst hy; subst hq
    cases q with
    | none => rfl
    | some a => simp [isNil] at hn
  have hnilS : ∀ q l c, b = .slice q l c → isNil y = true → q = none ∧ l = 0 ∧ c = 0 := by
    intro q l c hq hn
    cases y <;> simp only [isNil, Bool.false_eq_true] at hn
    rename_i c
    simp only [Sx.ev, Option.some.injEq] at hy
    subst hy; subst hq
    cases q with
    | none =>
      cases l <;> cases c <;> simp [isNil] at hn <;> exact ⟨rfl, rfl, rfl⟩
    | some a => simp [isNil] at hn
  have hnilM : ∀ q, b = .map q → isNil y = true → q = none := by
    intro q hq hn
    cases y <;> simp only [isNil, Bool.false_eq_true] at hn
    rename_i c
    simp only [Sx.ev, Option.some.injEq] at hy
    subst hy; subst hq
    cases q with
    | none => rfl
    | some a => simp [isNil] at hn
  unfold xbin at ht
  cases hpt : pureTy P t x y with
  | false => simp only [hpt] at ht; exact xcmp_of ht
  | true =>
  simp only [hpt] at ht
  unfold xbinP at ht
  split at ht
  · rename_i k m k' n
    rw [eqGuard_free rfl]
    cases hs : isShift op with
    | true => simp only [hs] at ht; exact xshift_of hs t ht
    | false =>
      simp only [hs] at ht
      by_cases hk : k = k'
      · subst hk
        simp only [decide_true] at ht
        exact xint_of hs t ht
      · simp only [hk, decide_false] at ht
        exact ht.elim
  · rw [eqGuard_free rfl]; exact xstr_of t ht
  · rename_i m n
    rw [eqGuard_free rfl]
    cases hd : P.underlying t with
    | none => simp only [hd] at ht; exact ht.elim
    | some d =>
      cases d <;> simp only [hd] at ht <;> first
        | exact ht.elim
        | exact asked_of (fun R => equal_bool hd m n R) rfl rfl ht
  · rename_i p q
    cases hd : P.underlying t with
    | none => simp only [hd] at ht; exact ht.elim
    | some d =>
      cases d <;> simp only [hd] at ht <;> first
        | exact ht.elim
        | skip
      have hn : isNil y = true := by simpa [pureTy, hd] using hpt
      obtain rfl := hnil q rfl hn
      rw [eqGuard_free rfl]; exact asked_of (fun R => equal_ptr_nil hd p R) rfl rfl ht
  · rename_i p l c q l' c'
    cases hd : P.underlying t with
    | none => simp only [hd] at ht; exact ht.elim
    | some d =>
      cases d <;> simp only [hd] at ht <;> first
        | exact ht.elim
        | skip
      have hn : isNil y = true := by simpa [pureTy, hd] using hpt
      obtain ⟨rfl, rfl, rfl⟩ := hnilS q _ _ rfl hn
      rw [eqGuard_free rfl]; exact asked_of (fun R => equal_slice_nil hd p l c R) rfl rfl ht
  · rename_i p q
    cases hd : P.underlying t with
    | none => simp only [hd] at ht; exact ht.elim
    | some d =>
      cases d <;> simp only [hd] at ht <;> first
        | exact ht.elim
        | skip
      have hn : isNil y = true := by simpa [pureTy, hd] using hpt
      obtain rfl := hnilM q rfl hn
      rw [eqGuard_free rfl]; exact asked_of (fun R => equal_map_nil hd p R) rfl rfl ht
  · exact ht.elim
theorem xun_of {op : UnOp} {a : Value} {kk : Value → T} (ht : xun op a kk L K h) : semW P (Op.unary op a) h (fun v h' => kk v L K h') := by
  unfold xun at ht
  split at ht
  · exact ht
  · exact ht
  · exact ht
  · exact ht.elim
theorem xconv_of {s d : TypeId} {a : Value} {kk : Value → T} (ht : xconv P s d a kk L K h) : semW P (convert s d a) h (fun v h' => kk v L K h') := by
  unfold xconv at ht
  generalize hs : P.underlying s = us at ht
  generalize hd : P.underlying d = ud at ht
  split at ht
  · unfold convert
    rw [semW_bind', semW_underlying hs, semW_bind', semW_underlying hd]
    exact ht
  · unfold convert
    rw [semW_bind', semW_underlying hs, semW_bind', semW_underlying hd]
    exact ht
  · exact ht.elim
  · exact semSl_of ht
  · exact semS_of ht
  · exact ht.elim

theorem semW_sliceBound_none (y : Nat) (code : BoundsCode) {v : Value} {k : IntKind} {i : Int} (hv : v = .int k i) (h0 : 0 ≤ i) (h1 : i ≤ y) (R : Nat → Hp → Prop) :
    semW P (Instr.sliceBound v y code) h R = R i.toNat h := by
  subst hv
  unfold Instr.sliceBound
  rw [semW_bind']
  show semW P (if 0 ≤ i ∧ i ≤ ↑y then pure i.toNat else boundsPanic k i ↑y code) h R = _
  rw [if_pos ⟨h0, h1⟩]; rfl
theorem isIntV_some {v : Value} (hv : isIntV (some v) = true) : ∃ k i, v = .int k i := by
  cases v <;> simp only [isIntV, Bool.false_eq_true] at hv
  exact ⟨_, _, rfl⟩
theorem semW_sliceBounds (isSlice : Bool) (len cap : Nat) {lo hi : Option Value} (il : isIntV lo = true) (ih : isIntV hi = true)
    (h0 : 0 ≤ lowV lo) (h1 : lowV lo ≤ highV len hi) (h2 : highV len hi ≤ cap) (R : Nat × Nat × Nat → Hp → Prop) :
    semW P (Instr.sliceBounds isSlice len cap lo hi none) h R = R ((lowV lo).toNat, (highV len hi).toNat, cap) h := by
  unfold Instr.sliceBounds
  cases hi with
  | none =>
    cases lo with
    | none => rfl
    | some v =>
      obtain ⟨k, i, rfl⟩ := isIntV_some il
      have h0' : 0 ≤ i := h0
      have h1' : i ≤ len := h1
      show semW P (Instr.sliceBound (.int k i) len _ >>= fun l => pure (l, len, cap)) h R = _
      rw [semW_bind', semW_sliceBound_none len _ rfl h0' h1']; rfl
  | some u =>
    obtain ⟨ku, iu, rfl⟩ := isIntV_some ih
    have hu0 : (0 : Int) ≤ iu := Int.le_trans h0 h1
    cases lo with
    | none =>
      show semW P (Instr.sliceBound (.int ku iu) cap _ >>= fun hh => pure (0, hh, cap)) h R = _
      have h2' : iu ≤ cap := h2
      rw [semW_bind', semW_sliceBound_none cap _ rfl hu0 h2']; rfl
    | some v =>
      obtain ⟨k, i, rfl⟩ := isIntV_some il
      show semW P (Instr.sliceBound (.int ku iu) cap _ >>= fun hh => Instr.sliceBound (.int k i) hh _ >>= fun l => pure (l, hh, cap)) h R = _
      have h0' : 0 ≤ i := h0
      have h1' : i ≤ iu := h1
      have h2' : iu ≤ cap := h2
      rw [semW_bind', semW_sliceBound_none cap _ rfl hu0 h2', semW_bind', semW_sliceBound_none _ _ rfl h0' (by rw [Int.toNat_of_nonneg hu0]; exact h1')]; rfl
theorem xslice_of {t : TypeId} {a : Value} {lo hi mx : Option Value} {kk : Value → T} (ht : xslice P t a lo hi mx kk L K h) :
    semW P (Instr.sliceAt t a lo hi mx) h (fun v h' => kk v L K h') := by
  unfold xslice at ht
  cases hint : isIntV lo && isIntV hi && isIntV mx with
  | false => simp only [hint] at ht; exact ht.elim
  | true =>
    simp only [hint] at ht
    simp only [Bool.and_eq_true] at hint
    obtain ⟨⟨il, ih⟩, im⟩ := hint
    cases hd : P.underlying t with
    | none => simp only [hd] at ht; exact semSl_of ht
    | some d =>
      cases d <;> simp only [hd] at ht <;> first | exact semSl_of ht | skip
      case string =>
        cases mx with
        | some m => cases a <;> exact ht.elim
        | none =>
        cases a <;> first | exact ht.elim | skip
        rename_i s
        obtain ⟨⟨h0, h1, h2⟩, ht⟩ := ht
        unfold Instr.sliceAt
        rw [semW_bind', semW_underlying hd]
        show semW P (Instr.slice t (.string s) lo hi none) h _
        unfold Instr.slice
        rw [semW_bind', semW_underlying hd]
        show semW P (Instr.sliceBounds false s.size s.size lo hi none >>= fun x => (pure (Value.string (s.extract x.1 x.2.1)) : Sem Value)) h _
        rw [semW_bind', semW_sliceBounds false _ _ il ih h0 h1 h2]
        exact ht
      case slice el =>
        cases mx with
        | some m => exact semSl_of ht
        | none =>
        cases a <;> first | exact ht.elim | skip
        rename_i p len cap
        simp only at ht
        cases hT : hasT P el with
        | false => simp only [hT] at ht; exact ht.elim
        | true =>
          simp only [hT] at ht
          obtain ⟨⟨h0, h1, h2⟩, ht⟩ := ht
          obtain ⟨i, hi'⟩ := Option.isSome_iff_exists.1 hT
          unfold Instr.sliceAt
          rw [semW_bind', semW_underlying hd]
          show semW P (Instr.slice t (.slice p len cap) lo hi none) h _
          unfold Instr.slice
          rw [semW_bind', semW_underlying hd]
          show semW P (Instr.sliceBounds true len cap lo hi none >>= fun x => sizeOf el >>= fun size => (pure (Value.slice (if x.2.2 = x.1 then p else p.map (·.add (x.1 * size))) (x.2.1 - x.1) (x.2.2 - x.1)) : Sem Value)) h _
          rw [semW_bind', semW_sliceBounds true _ _ il ih h0 h1 h2, semW_bind', semW_sizeOf hi']
          exact ht
theorem part_info {t : TypeId} {d : TypeDesc} (hd : P.underlying t = some d) : ∃ i, P.info? t = some i := info_of_underlying hd
theorem xpart_of {t : TypeId} {cs : Array Value} {off : Nat} {kk : Value → T} (ht : xpart P t cs.toList off kk L K h) :
    semW P (part t cs off) h (fun v h' => kk v L K h') := by
  have hx : ∀ n, ((cs.toList.drop off).take n).toArray = cs.extract off (off + n) := by
    intro n
    apply Array.toList_inj.1
    simp [Array.toList_extract, List.extract_eq_drop_take]
  unfold xpart at ht
  generalize hd : P.underlying t = ud at ht
  split at ht
  · obtain ⟨i, hi⟩ := info_of_underlying hd
    unfold part
    rw [semW_bind', semW_isAgg (b := true) (by simp [isAggD, hd])]
    show semW P (sizeOf t >>= fun n => (pure (Value.agg (cs.extract off (off + n))) : Sem Value)) h _
    rw [semW_bind', semW_sizeOf hi, ← hx]
    exact ht
  · obtain ⟨i, hi⟩ := info_of_underlying hd
    unfold part
    rw [semW_bind', semW_isAgg (b := true) (by simp [isAggD, hd])]
    show semW P (sizeOf t >>= fun n => (pure (Value.agg (cs.extract off (off + n))) : Sem Value)) h _
    rw [semW_bind', semW_sizeOf hi, ← hx]
    exact ht
  · rename_i d hns hna
    unfold part
    rw [semW_bind', semW_isAgg (b := false) (by simp only [isAggD, hd])]
    show semW P (match cs[off]? with | some v => pure v | none => stuck "part: no such cell") h _
    rw [← Array.getElem?_toList]
    cases hv : cs.toList[off]? with
    | none => simp only [hv] at ht; exact ht.elim
    | some v => simp only [hv] at ht; exact ht
  · exact ht.elim
theorem hasBody_spec {f : FuncId} (hb : hasBody P f = true) (args : Array Value) (R : Next → Hp → Prop) : semW P (callFunc f args) h R = R (.enter f args) h := by
  unfold hasBody at hb
  unfold callFunc
  rw [semW_program]
  cases hf : P.funcs[f]? with
  | none => rw [hf] at hb; simp at hb
  | some fn =>
    rw [hf] at hb
    simp only [Bool.and_eq_true, Bool.not_eq_true'] at hb
    obtain ⟨h1, h2⟩ := hb
    have h3 : fn.body.isNone = false := by cases hbd : fn.body <;> simp_all
    simp only [h2, h3]; rfl
theorem xcall_of {f : FuncId} {args : List Value} {t : TypeId} {kk : Value → T} (ht : xcall P f args t kk L K h) :
    semW P (callFunc f args.toArray) h (nextK P fun v h' => kk v L K h') := by
  unfold xcall at ht
  cases hb : hasBody P f with
  | false =>
    simp only [hb] at ht
    have := sem_of ht
    unfold extS at this
    rw [semW_bind'] at this
    refine semW_mono _ _ _ _ ?_ this
    intro x h' hx
    cases x <;> first | exact hx | exact hx.elim
  | true =>
    simp only [hb] at ht
    rw [hasBody_spec hb]
    refine HC.mono ht ?_
    rintro v h' ⟨x, rfl, hx⟩
    rw [unc_cur] at hx
    exact hx
theorem xlen_of {c : Call} {t : TypeId} {args : List Value} {kk : Value → T} (ht : xlen P c t args kk L K h) :
    semW P (Builtin.len_ c.argTypes t args.toArray) h (fun v h' => kk v L K h') := by
  unfold xlen at ht
  cases hd : (c.argTypes[0]?).bind P.underlying with
  | none => simp only [hd] at ht; exact semI_of ht
  | some d =>
    obtain ⟨t0, ht0, hd'⟩ := Option.bind_eq_some_iff.1 hd
    cases d <;> simp only [hd] at ht <;> first | exact semI_of ht | skip
    case string =>
      split at ht
      · unfold Builtin.len_
        simp only [ht0]
        show semW P (underlying t0 >>= _) h _
        rw [semW_bind', semW_underlying hd']
        exact ht
      · exact ht.elim
    case slice el =>
      split at ht
      · unfold Builtin.len_
        simp only [ht0]
        show semW P (underlying t0 >>= _) h _
        rw [semW_bind', semW_underlying hd']
        exact ht
      · exact ht.elim
theorem xcap_of {c : Call} {t : TypeId} {args : List Value} {kk : Value → T} (ht : xcap P c args kk L K h) :
    semW P (Builtin.cap_ c.argTypes t args.toArray) h (fun v h' => kk v L K h') := by
  unfold xcap at ht
  cases hd : (c.argTypes[0]?).bind P.underlying with
  | none => simp only [hd] at ht; exact ht.elim
  | some d =>
    obtain ⟨t0, ht0, hd'⟩ := Option.bind_eq_some_iff.1 hd
    cases d <;> simp only [hd] at ht <;> first | exact ht.elim | skip
    split at ht
    · unfold Builtin.cap_
      simp only [ht0]
      show semW P (underlying t0 >>= _) h _
      rw [semW_bind', semW_underlying hd']
      exact ht
    · exact ht.elim
inductive CellsAs : List (Nat × Value) → List (Nat × List Value) → Prop
  | nil : CellsAs [] []
  | cons {i : Nat} {v : Value} {l : List Value} {ps : List (Nat × Value)} {r : List (Nat × List Value)} (h : v.cells.toList = l) (t : CellsAs ps r) : CellsAs ((i, v) :: ps) ((i, l) :: r)
theorem cells_agg {v : Value} (h : isAggV v = true) : v.cells.toList = cellsV v := by
  cases v <;> first | rfl | (simp [isAggV] at h)
theorem cells_plain {v : Value} (h : isAggV v = false) : v.cells.toList = [v] := by
  cases v <;> first | rfl | (simp [isAggV] at h)
theorem xcells_of {agg : Nat → Option Bool} : ∀ {ps : List (Nat × Value)} {k : List (Nat × List Value) → T}, xcells agg ps k L K h → ∃ r, CellsAs ps r ∧ k r L K h
  | [], k, ht => ⟨[], .nil, ht⟩
  | (i, v) :: l, k, ht => by
    simp only [xcells] at ht
    cases ha : agg i with
    | none => rw [ha] at ht; exact ht.elim
    | some b =>
      rw [ha] at ht
      cases b with
      | true =>
        rcases cond_of ht with ⟨hv, ht⟩ | ⟨_, ht⟩
        · obtain ⟨r, hr, hk⟩ := xcells_of ht
          exact ⟨_, .cons (cells_agg hv) hr, hk⟩
        · exact ht.elim
      | false =>
        rcases cond_of ht with ⟨_, ht⟩ | ⟨hv, ht⟩
        · exact ht.elim
        · obtain ⟨r, hr, hk⟩ := xcells_of ht
          exact ⟨_, .cons (cells_plain hv) hr, hk⟩
theorem putL_foldl : ∀ (l : List Value) (off k : Nat) (cs : Array Value), ((l.zipIdx k).foldl (fun (cs : Array Value) (x : Value × Nat) => cs.setIfInBounds (off + x.2) x.1) cs) = (putL cs.toList (off + k) l).toArray
  | [], off, k, cs => by simp [putL]
  | v :: l, off, k, cs => by
    rw [List.zipIdx_cons, List.foldl_cons, putL_foldl l off (k + 1)]
    simp only [putL, Array.toList_setIfInBounds]
    rfl
theorem putL_len : ∀ (l xs : List Value) (i : Nat), (putL xs i l).length = xs.length
  | [], _, _ => rfl
  | v :: vs, xs, i => by simp [putL, putL_len vs]
theorem fill_of {place : Nat → Option (Nat × Nat)} {ps : List (Nat × Value)} {r : List (Nat × List Value)} (hc : CellsAs ps r) : ∀ {c cs : List Value}, fillL place c r = some cs → Instr.fill place c.toArray ps = some cs.toArray := by
  induction hc with
  | nil => intro c cs h; simp [fillL] at h; subst h; rfl
  | @cons i v l ps r hv _ ih =>
    intro c cs h
    unfold fillL at h
    unfold Instr.fill
    split at h
    · cases h
    · rename_i off size hp
      rw [hp]
      simp only
      have hs : v.cells.size = l.length := by rw [← hv, Array.length_toList]
      cases hb : !(Nat.beq l.length size) || Nat.blt c.length (off + l.length) with
      | true => rw [hb] at h; cases h
      | false =>
        rw [hb] at h
        simp only [Bool.or_eq_false_iff, Bool.not_eq_false'] at hb
        have h1 : l.length = size := Nat.eq_of_beq_eq_true hb.1
        have h2 : ¬ c.length < off + l.length := fun hlt => by
          have := Nat.ble_eq_true_of_le hlt
          rw [show Nat.blt c.length (off + l.length) = Nat.ble (c.length + 1) (off + l.length) from rfl, this] at hb
          exact absurd hb.2 (by simp)
        rw [if_neg (by simp [hs, h1]; omega)]
        have e : v.cells.zipIdx.foldl (fun cs (x : Value × Nat) => cs.setIfInBounds (off + x.2) x.1) c.toArray = (putL c off l).toArray := by
          rw [← Array.foldl_toList, Array.toList_zipIdx, hv]
          exact putL_foldl l off 0 c.toArray
        have := ih h
        rw [← e] at this
        exact this
theorem xbuiltin_of {b : Builtin} {c : Call} {t : TypeId} {args : List Value} {consts : Array Bool} {kk : Value → T} (ht : xbuiltin P b c t args kk L K h) :
    semW P (builtin b c.argTypes t consts args.toArray) h (nextK P fun v h' => kk v L K h') := by
  unfold xbuiltin at ht
  split at ht
  · show semW P (do pure (Next.value (← Builtin.len_ c.argTypes t args.toArray))) h _
    rw [opV]; exact xlen_of ht
  · show semW P (do pure (Next.value (← Builtin.cap_ c.argTypes t args.toArray))) h _
    rw [opV]; exact xcap_of ht
  · show semW P (do pure (Next.value (← Builtin.append_ c.argTypes t args.toArray))) h _
    rw [opV]; exact semSl_of ht
  · show semW P (do pure (Next.value (← Builtin.copy_ c.argTypes t args.toArray))) h _
    rw [opV]; exact semI_of ht
  · show semW P (do pure (Next.value (← Builtin.min_ c.argTypes t args.toArray))) h _
    rw [opV]; exact sem_of ht
  · show semW P (do pure (Next.value (← Builtin.max_ c.argTypes t args.toArray))) h _
    rw [opV]; exact sem_of ht
  · show semW P (do pure (Next.value (← Builtin.delete_ c.argTypes t args.toArray))) h _
    rw [opV]
    exact semW_mono _ _ _ _ (fun v h' ⟨e, hk⟩ => by subst e; exact hk) (semN_of ht)
  · show semW P (do pure (Next.value (← Builtin.unsafeString_ c.argTypes t args.toArray))) h _
    rw [opV]; exact sem_of ht
  · show semW P (do pure (Next.value (← Builtin.unsafeSliceData_ c.argTypes t args.toArray))) h _
    rw [opV]; exact sem_of ht
  · exact ht.elim

theorem new_of {vs : List Value} {e : TypeId} {kk : Value → T} (ht : T.new vs e (fun a => kk (.pointer (some a))) L K h) {cs : Array Value} (hv : cs = vs.toArray) :
    semW P (do pure (Value.pointer (some (← newRow e cs)))) h (fun v h' => kk v L K h') := by
  subst hv
  exact ht
theorem loadAt_of {n : Nat} {t : TypeId} {p : Option Addr} {kk : Addr → List Value → Value → T} {b : Bool} (hb : isAggD P t = some b)
    (ht : (match b with
      | true => (bif (flatD P 9 t).length == P.cellsOf t then T.osome p fun a => T.loads a (flatD P 9 t) (cur _ fun l => kk a l (.agg l.toArray)) else T.fail)
      | false => T.osome p fun a => T.loads a (compD P t).2 (cur _ fun l => kk a l (l.headD undef))) L K h) :
    ∃ a l v, p = some a ∧ cellsAt h a 0 l ∧ kk a l v L K h ∧ ∀ h' (R : Value → Hp → Prop), cellsAt h' a 0 l → R v h' → semW P (Instr.loadAt t (.pointer p)) h' R := by
  obtain ⟨i, hi⟩ := info_of_isAgg hb
  cases b with
  | true =>
    simp only at ht
    cases hl : (flatD P 9 t).length == P.cellsOf t with
    | false => rw [hl] at ht; exact ht.elim
    | true =>
      rw [hl] at ht
      have hl' : (flatD P 9 t).length = P.cellsOf t := by simpa using hl
      obtain ⟨a, rfl, ht⟩ := osome_of ht
      obtain ⟨x, hc, ht⟩ := ht
      rw [unc_cur] at ht
      refine ⟨a, hvs _ x, _, rfl, hc, ht, fun h' R hc' hk => ?_⟩
      unfold Instr.loadAt
      show semW P (loadVar t a) h' R
      unfold loadVar
      rw [semW_bind', semW_isAgg hb]
      show semW P (sizeOf t >>= fun n => loadCells a n >>= fun cs => (pure (Value.agg cs) : Sem Value)) h' R
      rw [semW_bind', semW_sizeOf hi, semW_bind']
      exact semW_loadCells (by rw [hvs_length, hl']) hc' _ hk
  | false =>
    simp only at ht
    obtain ⟨a, rfl, ht⟩ := osome_of ht
    obtain ⟨x, hc, ht⟩ := ht
    rw [unc_cur] at ht
    have h1 : ∃ d, (compD P t).2 = [d] := by
      unfold isAggD at hb
      unfold compD
      cases hd : P.underlying t with
      | none => rw [hd] at hb; simp at hb
      | some d => rw [hd] at hb; cases d <;> simp at hb <;> exact ⟨_, rfl⟩
    obtain ⟨d, hd⟩ := h1
    refine ⟨a, hvs _ x, _, rfl, hc, ht, fun h' R hc' hk => ?_⟩
    revert x
    rw [hd]
    intro x hc ht hc' hk
    unfold Instr.loadAt
    show semW P (loadVar t a) h' R
    unfold loadVar
    rw [semW_bind', semW_isAgg hb]
    have hc0 := hc'.1
    have : a.add 0 = a := by simp [Addr.add]
    rw [this] at hc0
    exact ⟨_, hc0, hk⟩
theorem xload_of {n : Nd} {e : Env} {a : Act} (g : Agr n e a) {t : TypeId} {x : Operand} {kk : Addr → List Value → Value → T} (ht : xload P t x e kk L K h) :
    ∃ p l v, ev e x = some (.pointer (some p)) ∧ cellsAt h p 0 l ∧ kk p l v L K h ∧ ∀ h' (R : Value → Hp → Prop), cellsAt h' p 0 l → R v h' → semW P (Instr.loadAt t (.pointer (some p))) h' R := by
  unfold xload at ht
  obtain ⟨v, hv, ht⟩ := with1_of ht
  cases hb : isAggD P t with
  | none => cases v <;> simp only [hb] at ht <;> exact ht.elim
  | some b =>
    cases v <;> first
      | (cases b <;> simp only [hb] at ht <;> exact ht.elim)
      | (rename_i p
         have ht' : (match b with
            | true => (bif (flatD P 9 t).length == P.cellsOf t then T.osome p fun a => T.loads a (flatD P 9 t) (cur _ fun l => kk a l (.agg l.toArray)) else T.fail)
            | false => T.osome p fun a => T.loads a (compD P t).2 (cur _ fun l => kk a l (l.headD undef))) L K h := by
            cases b <;> simp only [hb] at ht <;> exact ht
         obtain ⟨q, l, v, rfl, hc, hk, hall⟩ := loadAt_of (n := n) hb ht'
         exact ⟨q, l, v, hv, hc, hk, hall⟩)
theorem xop_of {n : Nd} {o : Oper} {e : Env} {a : Act} (g : Agr n e a) {kk : Value → T} (ht : xop P o e kk L K h) :
    opW P o a.eval h (fun v h' => kk v L K h') := by
  obtain ⟨dst, op, type, pos, after, guard⟩ := o
  unfold opW
  cases op <;> simp only [xop] at ht <;> unfold execOp <;> simp only
  case move x => obtain ⟨v, hv, ht⟩ := with1_of ht; rw [g.ev hv]; exact ht
  case assign x => obtain ⟨v, hv, ht⟩ := with1_of ht; rw [g.ev hv]; exact ht
  case pick c x y =>
    obtain ⟨v, hv, ht⟩ := with1_of ht
    rw [g.ev hv]
    cases v <;> simp only at ht <;> first
      | exact ht.elim
      | (rename_i b
         rw [semW_bind']
         show semW P (pure b) h _
         cases b
         · obtain ⟨w, hw, ht⟩ := with1_of (show with1 e y kk L K h from ht); rw [g.ev hw]; exact ht
         · obtain ⟨w, hw, ht⟩ := with1_of (show with1 e x kk L K h from ht); rw [g.ev hw]; exact ht)
  case alloc t =>
    cases hz : (P.info? t).bind (·.zero) with
    | none => simp only [hz] at ht; exact ht.elim
    | some z =>
      simp only [hz] at ht
      rw [opV]
      unfold Instr.alloc
      rw [semW_bind', semW_zeroValue hz]
      exact new_of ht (by simp)
  case box t x =>
    obtain ⟨v, hv, ht⟩ := with1_of ht
    rw [g.ev hv, opV]
    unfold Instr.box newVar
    cases hb : isAggD P t with
    | none => simp only [hb] at ht; exact ht.elim
    | some b =>
      cases b <;> simp only [hb] at ht <;> rcases cond_of ht with ⟨hv, ht⟩ | ⟨hv, ht⟩ <;> first
        | exact ht.elim
        | (refine new_of ht ?_
           cases v <;> first | (simp [isAggV] at hv; done) | simp [Value.cells, cellsV])
  case build t ps =>
    obtain ⟨vs, hvs, ht⟩ := withL_of ht
    have hvs := g.evs hvs
    have hps : (ps.map fun x => (x.1, a.eval x.2)).toList = (ps.toList.map (·.1)).zip vs := by
      rw [← hvs]
      simp only [Array.toList_map]
      generalize ps.toList = l
      induction l with
      | nil => rfl
      | cons p l ih => simp [ih]
    rw [opV]
    unfold Instr.build
    rw [semW_bind']
    cases hz : (P.info? t).bind (·.zero) with
    | none =>
      generalize P.underlying t = ud at ht
      cases ud with
      | none => simp only [hz] at ht; exact ht.elim
      | some d => cases d <;> simp only [hz] at ht <;> exact ht.elim
    | some z =>
      rw [semW_zeroValue hz]
      show semW P (underlying t >>= _) h _
      cases hd : P.underlying t with
      | none => simp only [hd] at ht; exact ht.elim
      | some d =>
        rw [semW_bind', semW_underlying hd]
        cases d <;> simp only [hd, hz] at ht <;> first | exact ht.elim | skip
        case array len el =>
          rcases cond_of ht with ⟨_, ht⟩ | ⟨hT, ht⟩
          · exact ht.elim
          · have hT : hasT P el = true := by simpa using hT
            obtain ⟨i, hi⟩ := Option.isSome_iff_exists.1 hT
            simp only
            rw [semW_bind', semW_sizeOf hi]
            have hps' : (Array.map (fun x => (x.1, a.eval x.2)) ps).toList = (ps.toList.map (·.1)).zip vs := hps
            obtain ⟨ls, hls, ht⟩ := xcells_of ht
            cases hf : fillL (fun i => some (i * P.cellsOf el, P.cellsOf el)) z.cells.toList ls with
            | none => simp only [hf] at ht; exact ht.elim
            | some cs =>
              simp only [hf] at ht
              rw [hps', fill_of hls hf]
              exact ht
        case struct fs =>
          rcases cond_of ht with ⟨_, ht⟩ | ⟨hT, ht⟩
          · exact ht.elim
          · have hT : (fs.all fun f => hasT P f.type) = true := by simpa using hT
            simp only
            rw [semW_bind']
            have hm : ∀ R : Array (Nat × Nat) → Hp → Prop, semW P (fs.mapM fun f => do pure (f.offset, ← sizeOf f.type)) h R = R (fs.map fun f => (f.offset, P.cellsOf f.type)) h := by
              intro R
              rw [Array.mapM_eq_mapM_toList]
              have hT' : ∀ f ∈ fs.toList, hasT P f.type = true := by
                intro f hf; exact (Array.all_eq_true_iff_forall_mem.1 hT) f (by simpa using hf)
              have : ∀ (l : List Field) (R : List (Nat × Nat) → Hp → Prop), (∀ f ∈ l, hasT P f.type = true) →
                  semW P (l.mapM fun f => (do pure (f.offset, ← sizeOf f.type) : Sem (Nat × Nat))) h R = R (l.map fun f => (f.offset, P.cellsOf f.type)) h := by
                intro l
                induction l with
                | nil => intro R _; rfl
                | cons f l ih =>
                  intro R hl
                  obtain ⟨i, hi⟩ := Option.isSome_iff_exists.1 (hl f (by simp))
                  rw [List.mapM_cons, semW_bind', semW_bind', semW_sizeOf hi]
                  show semW P ((l.mapM fun f => (do pure (f.offset, ← sizeOf f.type) : Sem (Nat × Nat))) >>= _) h R = _
                  rw [semW_bind', ih _ (fun f hf => hl f (by simp [hf]))]
                  rfl
              show semW P (List.toArray <$> _) h R = _
              rw [map_eq_pure_bind, semW_bind', this _ _ hT']
              show R (List.toArray _) h = _
              congr 1
              apply Array.toList_inj.1
              simp
            rw [hm]
            obtain ⟨ls, hls, ht⟩ := xcells_of ht
            cases hf : fillL (fun i => (fs.map fun f => (f.offset, P.cellsOf f.type))[i]?) z.cells.toList ls with
            | none => simp only [hf] at ht; exact ht.elim
            | some cs =>
              simp only [hf] at ht
              have hps' : (Array.map (fun x => (x.1, a.eval x.2)) ps).toList = (ps.toList.map (·.1)).zip vs := hps
              rw [hps', fill_of hls hf]
              exact ht
  case buildSlice t len ps =>
    obtain ⟨vs, hvs, ht⟩ := withL_of ht
    have hvs := g.evs hvs
    have hps : (ps.map fun x => (x.1, a.eval x.2)) = ((ps.toList.map (·.1)).zip vs).toArray := by
      apply Array.toList_inj.1
      rw [← hvs]
      simp only [Array.toList_map]
      generalize ps.toList = l
      induction l with
      | nil => rfl
      | cons p l ih => simpa using ih
    rw [opV]
    have hps' : (Array.map (fun x => (x.1, a.eval x.2)) ps) = ((ps.toList.map (·.1)).zip vs).toArray := hps
    rw [hps']
    exact semSl_of ht
  case load t x =>
    have ht' : xload P t x e (fun _ _ v => kk v) L K h := ht
    obtain ⟨p, l, v, hv, hc, hk, hall⟩ := xload_of g ht'
    rw [g.ev hv, opV]
    exact hall h _ hc hk
  case store t x y =>
    obtain ⟨v, hv, ht⟩ := with1_of ht
    obtain ⟨u, hu, ht⟩ := with1_of ht
    rw [g.ev hv, g.ev hu, opU]
    cases hb : isAggD P t with
    | none => cases v <;> simp only [hb] at ht <;> exact ht.elim
    | some b =>
      obtain ⟨i, hi⟩ := info_of_isAgg hb
      cases v <;> first
        | (cases b <;> simp only [hb] at ht <;> exact ht.elim)
        | skip
      rename_i p
      cases b <;> simp only [hb] at ht
      · rcases cond_of ht with ⟨hl, ht⟩ | ⟨hl, ht⟩
        · rcases cond_of ht with ⟨hag, ht⟩ | ⟨hag, ht⟩
          · exact ht.elim
          · obtain ⟨q, rfl, ht⟩ := osome_of ht
            obtain ⟨hc, ht⟩ := ht
            unfold Instr.storeAt storeVar
            show semW P (sizeOf t >>= _) h _
            rw [semW_bind', semW_sizeOf hi]
            have hcl : u.cells = #[u] := by cases u <;> first | (simp [isAggV] at hag; done) | rfl
            have h1 : P.cellsOf t = 1 := by simpa using hl
            rw [hcl, h1]
            exact semW_storeCells q [u] h 0 _ hc ht
        · exact ht.elim
      · rcases cond_of ht with ⟨hag, ht⟩ | ⟨hag, ht⟩
        · rcases cond_of ht with ⟨hl, ht⟩ | ⟨hl, ht⟩
          · obtain ⟨q, rfl, ht⟩ := osome_of ht
            obtain ⟨hc, ht⟩ := ht
            unfold Instr.storeAt storeVar
            show semW P (sizeOf t >>= _) h _
            rw [semW_bind', semW_sizeOf hi]
            obtain ⟨cs, rfl⟩ : ∃ cs, u = .agg cs := by cases u <;> first | (simp [isAggV] at hag; done) | exact ⟨_, rfl⟩
            have h1 : cs.size = P.cellsOf t := by simpa [cellsV] using hl
            show semW P (if cs.size ≠ P.cellsOf t then _ else storeCells q cs.toList 0) h _
            rw [if_neg (by simp [h1])]
            exact semW_storeCells q cs.toList h 0 _ hc ht
          · exact ht.elim
        · exact ht.elim
  case nilCheck x =>
    obtain ⟨v, hv, ht⟩ := with1_of ht
    rw [g.ev hv]
    cases v with
    | pointer p => obtain ⟨q, rfl, ht⟩ := osome_of ht; exact ht
    | func fn fi ca => cases fn <;> first | exact ht.elim | exact ht
    | iface t w => exact ht
    | _ => exact ht.elim
  case binOp op t x y yt =>
    obtain ⟨v, hv, ht⟩ := with1_of ht
    obtain ⟨u, hu, ht⟩ := with1_of ht
    rw [g.ev hv, g.ev hu, opV]
    exact xbin_of hu ht
  case unOp op t x => obtain ⟨v, hv, ht⟩ := with1_of ht; rw [g.ev hv, opV]; exact xun_of ht
  case convert s d x => obtain ⟨v, hv, ht⟩ := with1_of ht; rw [g.ev hv, opV]; exact xconv_of ht
  case makeInterface t x =>
    obtain ⟨v, hv, ht⟩ := with1_of ht
    rw [g.ev hv, opV]
    unfold Instr.makeInterface
    cases hd : P.underlying t with
    | none => simp only [hd] at ht; exact ht.elim
    | some d =>
      rw [semW_bind', semW_underlying hd]
      cases d <;> simp only [hd] at ht <;> first | exact ht.elim | exact ht
  case makeFunc fn fi ca =>
    obtain ⟨vs, hvs, ht⟩ := withL_of ht
    obtain ⟨us, hus, ht⟩ := withL_of ht
    rw [opV]
    have e1 : fi.map a.eval = vs.toArray := by apply Array.toList_inj.1; simpa using g.evs hvs
    have e2 : ca.map a.eval = us.toArray := by apply Array.toList_inj.1; simpa using g.evs hus
    rw [e1, e2]
    exact ht
  case makeMap t r =>
    cases r with
    | none => rw [opV]; exact semM_of ht
    | some r => exact ht.elim
  case makeSlice t l c =>
    obtain ⟨v, hv, ht⟩ := with1_of ht
    obtain ⟨u, hu, ht⟩ := with1_of ht
    rw [g.ev hv, g.ev hu, opV]
    exact semSl_of ht
  case slice t x lo hi mx =>
    obtain ⟨v, hv, ht⟩ := with1_of ht
    obtain ⟨vs, hvs, ht⟩ := withL_of ht
    have hvs := g.evs hvs
    rw [g.ev hv, opV]
    unfold xsl at ht
    cases lo <;> cases hi <;> cases mx <;> simp only [Option.toList, List.nil_append, List.append_nil, List.map_cons, List.map_nil, List.cons_append] at hvs <;> subst hvs <;>
      first | exact ht.elim | exact xslice_of ht
  case fieldAddr s x f =>
    obtain ⟨v, hv, ht⟩ := with1_of ht
    rw [g.ev hv, opV]
    cases hd : P.underlying s with
    | none => cases v <;> simp only [hd] at ht <;> exact ht.elim
    | some d =>
      cases v <;> first
        | (cases d <;> simp only [hd] at ht <;> exact ht.elim)
        | skip
      rename_i p
      cases d <;> simp only [hd] at ht <;> first | exact ht.elim | skip
      rename_i fs
      cases hf : fs[f]? with
      | none => simp only [hf] at ht; exact ht.elim
      | some fd =>
        simp only [hf] at ht
        cases hc : P.cellsOf fd.type with
        | zero => simp only [hc] at ht; exact ht.elim
        | succ m =>
          simp only [hc] at ht
          obtain ⟨q, rfl, ht⟩ := osome_of ht
          have hi : ∃ i, P.info? fd.type = some i := by
            cases hi : P.info? fd.type with
            | none => simp [Program.cellsOf, hi] at hc
            | some i => exact ⟨i, rfl⟩
          obtain ⟨i, hi⟩ := hi
          unfold Instr.fieldAt
          rw [semW_bind', semW_underlying hd]
          simp only [hf]
          show semW P (fieldPlace q fd >>= fun y => (pure (Value.pointer (some y)) : Sem Value)) h _
          unfold fieldPlace
          rw [semW_bind', semW_bind', semW_sizeOf hi, hc]
          exact ht
  case field s x f =>
    obtain ⟨v, hv, ht⟩ := with1_of ht
    rw [g.ev hv, opV]
    cases hd : P.underlying s with
    | none => cases v <;> simp only [hd] at ht <;> exact ht.elim
    | some d =>
      cases v <;> first
        | (cases d <;> simp only [hd] at ht <;> exact ht.elim)
        | skip
      rename_i cs
      cases d <;> simp only [hd] at ht <;> first | exact ht.elim | skip
      rename_i fs
      cases hf : fs[f]? with
      | none => simp only [hf] at ht; exact ht.elim
      | some fd =>
        simp only [hf] at ht
        unfold Instr.field
        rw [semW_bind', semW_underlying hd]
        simp only [hf]
        show semW P (part fd.type cs fd.offset) h _
        exact xpart_of ht
  case indexAddr t x i =>
    obtain ⟨v, hv, ht1⟩ := with1_of ht
    obtain ⟨u, hu, ht2⟩ := with1_of ht1
    clear ht ht1
    rw [g.ev hv, g.ev hu, opV]
    clear hv hu
    unfold xidxA at ht2
    generalize hd : P.underlying t = ud at ht2
    split at ht2
    · rename_i p len cp k m el
      rcases cond_of ht2 with ⟨_, ht⟩ | ⟨hT, ht⟩
      · exact ht.elim
      · have hT : hasT P el = true := by simpa using hT
        obtain ⟨i, hi⟩ := Option.isSome_iff_exists.1 hT
        obtain ⟨hb, ht⟩ := ht
        obtain ⟨q, rfl, ht⟩ := osome_of ht
        unfold Instr.indexAt
        show semW P (underlying t >>= _) h _
        rw [semW_bind', semW_underlying hd]
        show semW P (underlying t >>= _) h _
        rw [semW_bind', semW_underlying hd]
        show semW P (if 0 ≤ m ∧ m < len then (sizeOf el >>= fun z => (pure (Value.pointer (some (q.add (m.toNat * z)))) : Sem Value)) else _) h _
        rw [if_pos hb, semW_bind', semW_sizeOf hi]
        exact ht
    · rename_i p k m len el
      rcases cond_of ht2 with ⟨_, ht⟩ | ⟨hT, ht⟩
      · exact ht.elim
      · have hT : hasT P el = true := by simpa using hT
        obtain ⟨i, hi⟩ := Option.isSome_iff_exists.1 hT
        obtain ⟨hb, ht⟩ := ht
        obtain ⟨q, rfl, ht⟩ := osome_of ht
        unfold Instr.indexAt
        show semW P (underlying t >>= _) h _
        rw [semW_bind', semW_underlying hd]
        show semW P (underlying t >>= _) h _
        rw [semW_bind', semW_underlying hd]
        show semW P (if 0 ≤ m ∧ m < len then (sizeOf el >>= fun z => (pure (Value.pointer (some (q.add (m.toNat * z)))) : Sem Value)) else _) h _
        rw [if_pos hb, semW_bind', semW_sizeOf hi]
        exact ht
    · exact ht2.elim
  case index t x i =>
    obtain ⟨v, hv, ht1⟩ := with1_of ht
    obtain ⟨u, hu, ht2⟩ := with1_of ht1
    clear ht ht1
    rw [g.ev hv, g.ev hu, opV]
    clear hv hu
    unfold xidx at ht2
    generalize hd : P.underlying t = ud at ht2
    split at ht2
    · rename_i s k m
      obtain ⟨hb, ht⟩ := ht2
      unfold Instr.index
      show semW P (underlying t >>= _) h _
      rw [semW_bind', semW_underlying hd]
      have hs : s[m.toNat]? = some (s.data.toList.getD m.toNat 0) := by
        have hlt : m.toNat < s.size := by omega
        have : s[m.toNat]? = some s[m.toNat] := by simp [hlt]
        rw [this]
        congr 1
        have h2 : m.toNat < s.data.toList.length := by simpa using hlt
        rw [List.getD_eq_getElem?_getD, List.getElem?_eq_getElem h2]
        rfl
      show semW P (match (if 0 ≤ m then s[m.toNat]? else none) with | some b => (pure (Value.int .u8 b.toNat) : Sem Value) | none => boundsPanic k m s.size .index) h _
      rw [if_pos hb.1, hs]
      exact ht
    · exact sem_of ht2
    · exact ht2.elim
  case lookup t m x ok =>
    obtain ⟨v, hv, ht⟩ := with1_of ht
    obtain ⟨u, hu, ht⟩ := with1_of ht
    rw [g.ev hv, g.ev hu, opV]
    generalize hd : P.underlying t = ud at ht
    split at ht
    · cases ok <;> simp only at ht <;> exact sem_of ht
    · exact ht.elim
  case mapUpdate t m x y =>
    obtain ⟨v, hv, ht⟩ := with1_of ht
    obtain ⟨u, hu, ht⟩ := with1_of ht
    obtain ⟨w, hw, ht⟩ := with1_of ht
    rw [g.ev hv, g.ev hu, g.ev hw, opU]
    exact ht
  case insert t m x y =>
    obtain ⟨v, hv, ht⟩ := with1_of ht
    obtain ⟨u, hu, ht⟩ := with1_of ht
    obtain ⟨w, hw, ht⟩ := with1_of ht
    rw [g.ev hv, g.ev hu, g.ev hw, opU]
    exact ht
  case mapEntry t m x =>
    obtain ⟨v, hv, ht⟩ := with1_of ht
    obtain ⟨u, hu, ht⟩ := with1_of ht
    rw [g.ev hv, g.ev hu, opV]
    generalize hd : P.underlying t = ud at ht
    split at ht
    · exact sem_of ht
    · exact ht.elim
  case entryStore t m x y =>
    obtain ⟨v, hv, ht⟩ := with1_of ht
    obtain ⟨u, hu, ht⟩ := with1_of ht
    obtain ⟨w, hw, ht⟩ := with1_of ht
    rw [g.ev hv, g.ev hu, g.ev hw, opU]
    exact ht
  case range t x =>
    obtain ⟨v, hv, ht⟩ := with1_of ht
    rw [g.ev hv, opV]
    exact semP_of ht
  case next it b =>
    obtain ⟨v, hv, ht⟩ := with1_of ht
    rw [g.ev hv, opV]
    generalize hd : P.underlying type = ud at ht
    split at ht
    · rename_i ts
      generalize hts : ts.toList = tl at ht
      cases tl with
      | nil =>
        refine semW_mono _ _ _ _ ?_ ht
        rintro v h' (⟨rfl, hx⟩ | ⟨x, rfl, hx⟩)
        · exact hx
        · rw [unc_cur] at hx; exact hx
      | cons t0 ts =>
        refine semW_mono _ _ _ _ ?_ ht
        rintro v h' (⟨rfl, hx⟩ | ⟨x, rfl, hx⟩)
        · exact hx
        · rw [unc_cur] at hx; exact hx
    · exact ht.elim
  case entry it =>
    obtain ⟨v, hv, ht⟩ := with1_of ht
    rw [g.ev hv, opV]
    exact sem_of ht
  case typeAssert x t d ok =>
    obtain ⟨v, hv, ht⟩ := with1_of ht
    rw [g.ev hv, opV]
    cases ok <;> simp only at ht <;> exact sem_of ht
  case extract x i =>
    obtain ⟨v, hv, ht⟩ := with1_of ht
    rw [g.ev hv, opV]
    cases v with
    | tuple vs =>
      unfold Instr.extract
      show semW P (match vs[i]? with | some v => pure v | none => stuck "Extract: no such component") h _
      rw [← Array.getElem?_toList]
      cases hi : vs.toList[i]? with
      | none => simp only [hi] at ht; exact ht.elim
      | some w => simp only [hi] at ht; exact ht
    | _ => exact ht.elim
  case call c =>
    rw [semW_bind']
    unfold resolve
    cases hc : c.callee with
    | builtin b =>
      simp only [hc] at ht
      obtain ⟨vs, hvs, ht⟩ := withL_of ht
      have e1 : c.args.map a.eval = vs.toArray := by apply Array.toList_inj.1; simpa using g.evs hvs
      simp only [e1]
      exact xbuiltin_of ht
    | invoke r m => simp only [hc] at ht; exact ht.elim
    | value f =>
      simp only [hc] at ht
      cases htm : isTmp f with
      | true =>
        simp only [htm] at ht
        obtain ⟨gv, hg, ht⟩ := with1_of ht
        obtain ⟨vs, hvs, ht⟩ := withL_of ht
        have e1 : c.args.map a.eval = vs.toArray := by apply Array.toList_inj.1; simpa using g.evs hvs
        simp only [e1, g.ev hg]
        obtain ⟨f', fi, ca, rfl, ht, fn, hfn, hb, hn⟩ := ht
        have hbd : hasBody P f' = true := by
          unfold hasBody
          rw [hfn]
          simp [hb, hn]
        show semW P (callFunc f' (fi ++ vs.toArray ++ ca)) h _
        have e2 : (fi.toList ++ vs ++ ca.toList).toArray = fi ++ vs.toArray ++ ca := by
          apply Array.toList_inj.1; simp
        rw [← e2, hasBody_spec hbd]
        refine HC.mono ht ?_
        rintro v h' ⟨x, rfl, hx⟩
        rw [unc_cur] at hx
        exact hx
      | false =>
        simp only [htm] at ht
        obtain ⟨gv, hg, ht⟩ := with1_of ht
        obtain ⟨vs, hvs, ht⟩ := withL_of ht
        have e1 : c.args.map a.eval = vs.toArray := by apply Array.toList_inj.1; simpa using g.evs hvs
        simp only [e1, g.ev hg]
        obtain ⟨f, fi, ca, rfl⟩ : ∃ f fi ca, gv = .func (.func f) fi ca := by
          cases gv with
          | func fn fi ca => cases fn <;> first | exact ht.elim | exact ⟨_, _, _, rfl⟩
          | _ => exact ht.elim
        have := xcall_of (show xcall P f (fi.toList ++ vs ++ ca.toList) type kk L K h from ht)
        show semW P (callFunc f (fi ++ vs.toArray ++ ca)) h _
        have e2 : (fi.toList ++ vs ++ ca.toList).toArray = fi ++ vs.toArray ++ ca := by
          apply Array.toList_inj.1; simp
        rw [← e2]
        exact this
  all_goals exact ht.elim
end ops
end Go.Sx
