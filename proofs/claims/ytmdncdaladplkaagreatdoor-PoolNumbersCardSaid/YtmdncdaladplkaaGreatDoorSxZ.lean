/- Closed runs, part Z: a long run cut in pieces: between them what is live is written down. Asked: of the context, what Ok says. -/
import Derived.Test.YtmdncdaladplkaaGreatDoorSxQ
set_option linter.unusedVariables false
set_option linter.unusedSimpArgs false
set_option linter.deprecated false
set_option linter.unusedSectionVars false
namespace Go.Sx.Cr
noncomputable section
def addrIn (p : Nat → Bool) : Option Addr → Bool
  | none => true
  | some a => p a.block
/-- Does a value speak of known blocks alone? -/
def idsV (p : Nat → Bool) : Nat → Value → Bool
  | 0, _ => false
  | n + 1, v => match v with
    | .pointer a => addrIn p a
    | .slice a _ _ => addrIn p a
    | .map none => true
    | .map (some b) => p b
    | .func _ ⟨a⟩ ⟨c⟩ => a.all (idsV p n) && c.all (idsV p n)
    | .iface _ v => idsV p n v
    | .agg ⟨l⟩ => l.all (idsV p n)
    | .tuple ⟨l⟩ => l.all (idsV p n)
    | _ => true
def idsO (p : Nat → Bool) : AO → Bool
  | .row c _ _ => c.all (idsV p 9)
  | .smap d => d.all fun q => idsV p 9 q.2
  | .kmap d => d.all fun q => idsV p 9 q.2
  | .imap d => d.all fun q => idsV p 9 q.2
  | .gone => true
abbrev SL1 := List (Nat × Value)
abbrev SL2 := List (Nat × AO)
def toTri {α : Type} : List (Nat × α) → Tri α
  | [] => .nil
  | q :: l => (toTri l).put q.1 q.2
def goneTo : Nat → Tri AO → Tri AO
  | 0, t => t
  | n + 1, t => (goneTo n t).put n .gone
/-- What is written down of a store. -/
def stOf (C : Cx) (ol : SL2) : Tri AO := goneTo C.ng (toTri ol)
def knownB (σ : Tri AO) (b : Nat) : Bool := (σ.get b).isSome
def sameE (e : Ev) (p : Nat → Bool) (q : Nat × Value) : Bool := (e.get q.1).elim false fun v => beqV 9 v q.2 && idsV p 9 q.2
def sameO (C : Cx) (σ : Tri AO) (p : Nat → Bool) (q : Nat × AO) : Bool := Nat.ble C.ng q.1 && (σ.get q.1).elim false fun o => beqO o q.2 && idsO p q.2
def weaker (C : Cx) (e : Ev) (σ : Tri AO) (el : SL1) (ol : SL2) : Bool :=
  el.all (sameE e (knownB (stOf C ol))) && ol.all (sameO C σ (knownB (stOf C ol)))
theorem toTri_get {α : Type} : ∀ (l : List (Nat × α)) (b : Nat) (o : α), (toTri l).get b = some o → (b, o) ∈ l
  | [], b, o, h => by simp [toTri, Tri.get_nil] at h
  | q :: l, b, o, h => by
    simp only [toTri] at h
    rw [Tri.get_put] at h
    by_cases hb : b = q.1
    · rw [if_pos hb] at h
      cases h
      rw [hb]; simp
    · rw [if_neg hb] at h
      exact List.mem_cons_of_mem _ (toTri_get l b o h)
theorem goneTo_get (t : Tri AO) : ∀ (n b : Nat), (goneTo n t).get b = if b < n then some .gone else t.get b
  | 0, b => by simp [goneTo]
  | n + 1, b => by
    simp only [goneTo]
    rw [Tri.get_put, goneTo_get t n b]
    by_cases h : b = n
    · rw [if_pos h, if_pos (by omega)]
    · rw [if_neg h]
      by_cases h2 : b < n
      · rw [if_pos h2, if_pos (by omega)]
      · rw [if_neg h2, if_neg (by omega)]
def cutR (σ : Tri AO) (ρ : Rho) : Rho := fun b => match knownB σ b with
  | true => ρ b
  | false => none
theorem cutR_of {σ : Tri AO} {ρ : Rho} {b : Nat} {pl : Pl} (h : ρ b = some pl) (hk : knownB σ b = true) : cutR σ ρ b = some pl := by
  unfold cutR; rw [hk]; exact h
theorem cut_all {σ : Tri AO} {ρ : Rho} {n : Nat} (ih : ∀ {v v' : Value}, VR ρ v v' → idsV (knownB σ) n v = true → VR (cutR σ ρ) v v') : ∀ {l l' : List Value}, VRs ρ l l' → l.all (idsV (knownB σ) n) = true → VRs (cutR σ ρ) l l'
  | _, _, .nil, _ => .nil
  | _, _, .cons h t, ha => by
    simp only [List.all_cons, Bool.and_eq_true] at ha
    exact .cons (ih h ha.1) (cut_all ih t ha.2)
theorem VR.cut {σ : Tri AO} {ρ : Rho} : ∀ (n : Nat) {v v' : Value}, VR ρ v v' → idsV (knownB σ) n v = true → VR (cutR σ ρ) v v'
  | 0, _, _, _, h => by cases h
  | n + 1, _, _, hv, h => by
    have ih := fun {v v' : Value} => VR.cut (σ := σ) (ρ := ρ) n (v := v) (v' := v')
    cases hv with
    | bool b => exact .bool b
    | int k m => exact .int k m
    | string x => exact .string x
    | ptr0 => exact .ptr0
    | ptr off hb => exact .ptr off (cutR_of hb h)
    | sl0 hl => exact .sl0 hl
    | sl off l hb hc hl => exact .sl off l (cutR_of hb h) hc hl
    | map0 => exact .map0
    | map hb => exact .map (cutR_of hb h)
    | func f h1 h2 =>
      have h : (_ && _) = true := h
      simp only [Bool.and_eq_true] at h
      exact .func f (cut_all ih h1 h.1) (cut_all ih h2 h.2)
    | nilFunc => exact .nilFunc
    | nilIface => exact .nilIface
    | iface t hv => exact .iface t (ih hv h)
    | agg hl => exact .agg (cut_all ih hl h)
    | tuple hl => exact .tuple (cut_all ih hl h)
theorem DR.cut {σ : Tri AO} {ρ : Rho} {α : Type} {d d' : List (α × Value)} (h : DR ρ d d') (hi : (d.all fun q => idsV (knownB σ) 9 q.2) = true) : DR (cutR σ ρ) d d' := by
  refine ⟨h.1, cut_all (fun h k => VR.cut 9 h k) h.2 ?_⟩
  rw [List.all_map]
  exact hi
theorem ObjR.cut {P : Program} {σ : Tri AO} {ρ : Rho} {h0 h : Hp} {pl : Pl} {o : AO} (ho : ObjR P ρ h0 h pl o) (hi : idsO (knownB σ) o = true) : ObjR P (cutR σ ρ) h0 h pl o := by
  cases o with
  | gone => trivial
  | row c e m =>
    obtain ⟨cs, f, h1, h2, h3, h4⟩ := ho
    refine ⟨cs, f, h1, fun i v hv => ?_, h3, h4⟩
    obtain ⟨v', e1, e2⟩ := h2 i v hv
    exact ⟨v', e1, e2.cut 9 (List.all_eq_true.1 hi v (List.mem_of_getElem? hv))⟩
  | smap d => obtain ⟨h1, d', h2, h3⟩ := ho; exact ⟨h1, d', h2, h3.cut hi⟩
  | kmap d => obtain ⟨h1, d', h2, h3⟩ := ho; exact ⟨h1, d', h2, h3.cut hi⟩
  | imap d => obtain ⟨h1, d', h2, h3⟩ := ho; exact ⟨h1, d', h2, h3.cut hi⟩
section
variable {C : Cx} {h0 : Hp} {ρ : Rho} {σ : Tri AO} {h : Hp} {e : Ev} {e' : Env}
theorem weaker_of (R : Rel C h0 ρ σ h) (er : ER ρ e e') {el : SL1} {ol : SL2} (hw : weaker C e σ el ol = true) : Rel C h0 (cutR (stOf C ol) ρ) (stOf C ol) h ∧ ER (cutR (stOf C ol) ρ) (toTri el) e' := by
  unfold weaker at hw
  simp only [Bool.and_eq_true] at hw
  obtain ⟨h1, h2⟩ := hw
  have hin : ∀ b o, (stOf C ol).get b = some o → (b < C.ng ∧ o = .gone) ∨ (σ.get b = some o ∧ idsO (knownB (stOf C ol)) o = true) := by
    intro b o hb
    have hb' := hb
    unfold stOf at hb
    rw [goneTo_get] at hb
    by_cases hg : b < C.ng
    · rw [if_pos hg] at hb; cases hb; exact .inl ⟨hg, rfl⟩
    · rw [if_neg hg] at hb
      have := List.all_eq_true.1 h2 _ (toTri_get ol b o hb)
      unfold sameO at this
      simp only [Bool.and_eq_true] at this
      obtain ⟨_, h3⟩ := this
      cases ho : σ.get b with
      | none => rw [ho] at h3; cases h3
      | some o' =>
        rw [ho] at h3
        have h3 : (beqO o' o && idsO (knownB (stOf C ol)) o) = true := h3
        simp only [Bool.and_eq_true] at h3
        rw [beqO_eq h3.1]
        exact .inr ⟨rfl, h3.2⟩
  have hg : ∀ g, g < C.ng → knownB (stOf C ol) g = true := by
    intro g hg
    unfold knownB stOf
    rw [goneTo_get, if_pos hg]; rfl
  refine ⟨⟨fun g hgg => cutR_of (R.glob g hgg) (hg g hgg), R.ro, R.size, R.base, fun b o hb => ?_, fun b b' o o' pl pl' hb hb' hl hl' hp hp' he => ?_, fun b hb => ?_⟩, fun t v ht => ?_⟩
  · have hk : knownB (stOf C ol) b = true := by unfold knownB; rw [hb]; rfl
    rcases hin b o hb with ⟨hlt, rfl⟩ | ⟨h3, h4⟩
    · exact ⟨_, cutR_of (R.glob b hlt) hk, trivial⟩
    · obtain ⟨pl, e1, e2⟩ := R.obj b o h3
      exact ⟨pl, cutR_of e1 hk, e2.cut h4⟩
  · have hk : knownB (stOf C ol) b = true := by unfold knownB; rw [hb]; rfl
    have hk' : knownB (stOf C ol) b' = true := by unfold knownB; rw [hb']; rfl
    have e1 : ρ b = some pl := by unfold cutR at hp; rw [hk] at hp; exact hp
    have e2 : ρ b' = some pl' := by unfold cutR at hp'; rw [hk'] at hp'; exact hp'
    rcases hin b o hb with ⟨_, rfl⟩ | ⟨h3, _⟩
    · cases hl
    · rcases hin b' o' hb' with ⟨_, rfl⟩ | ⟨h4, _⟩
      · cases hl'
      · exact R.apart b b' o o' pl pl' h3 h4 hl hl' e1 e2 he
  · unfold cutR knownB
    rw [hb]; rfl
  · have := List.all_eq_true.1 h1 _ (toTri_get el t v ht)
    unfold sameE at this
    cases hv : e.get t with
    | none => rw [hv] at this; cases this
    | some u =>
      rw [hv] at this
      have this : (beqV 9 u v && idsV (knownB (stOf C ol)) 9 v) = true := this
      simp only [Bool.and_eq_true] at this
      obtain ⟨v', e1, e2⟩ := er t u hv
      rw [beqV_eq 9 _ _ this.1] at e2
      exact ⟨v', e1, e2.cut 9 this.2⟩
end
/-- What stands behind some pieces of a code. -/
def behind : Nat → Code → Code
  | 0, c => c
  | k + 1, .seq _ b => behind k b
  | _ + 1, c => c
/-- Some pieces of a code, one behind the other; then what is live. -/
def cpiece (C : Cx) (call : CallF) (n : Nat) (el : SL1) (ol : SL2) : Nat → Code → Ev → CS → Bool
  | 0, _, e, s => weaker C e s.σ el ol
  | k + 1, .seq a b, e, s => (ccode C call n 1000 a e s).elim false fun (x, e, s) => isNorm x && cpiece C call n el ol k b e s
  | _ + 1, _, _, _ => false
/-- A state that is written down. -/
structure Cut where
  el : SL1
  ol : SL2
  nx : Nat
def Cut.ev (q : Cut) : Ev := toTri q.el
def Cut.cs (C : Cx) (q : Cut) : CS := ⟨stOf C q.ol, q.nx⟩
/-- Wherever the heap is as written down, the code does what is asked. -/
def GoesOn (C : Cx) (h0 : Hp) (n : Nat) (q : Cut) (c : Code) (Q : Exit → Act → Hp → Prop) : Prop :=
  ∀ ρ e' a h, Rel C h0 ρ (q.cs C).σ h → ER ρ q.ev e' → Agr ⟨n, []⟩ e' a → cW C.P c Q a h
theorem piece_ok {C : Cx} {h0 : Hp} {n : Nat} (O : Ok C) (hm : C.P.follows .mixedOrders = true) {call : CallF} (CO : CallOk C h0 call) {q' : Cut} {Q : Exit → Act → Hp → Prop} : ∀ (k : Nat) {c : Code} {e : Ev} {s : CS},
    cpiece C call n q'.el q'.ol k c e s = true → GoesOn C h0 n q' (behind k c) Q → ∀ ρ e' a h, Rel C h0 ρ s.σ h → ER ρ e e' → Agr ⟨n, []⟩ e' a → cW C.P c Q a h
  | 0, c, e, s, hx, hg, ρ, e', a, h, R, er, g => by
    obtain ⟨R1, er1⟩ := weaker_of R er (show weaker C e s.σ q'.el q'.ol = true from hx)
    exact hg _ e' a h R1 er1 g
  | k + 1, c, e, s, hx, hg, ρ, e', a, h, R, er, g => by
    cases c <;> first | (cases hx; done) | skip
    rename_i c1 c2
    have hx : ((ccode C call n 1000 c1 e s).elim false fun (x, e, s) => isNorm x && cpiece C call n q'.el q'.ol k c2 e s) = true := hx
    cases hc : ccode C call n 1000 c1 e s with
    | none => rw [hc] at hx; cases hx
    | some r =>
      obtain ⟨x, e2, s2⟩ := r
      rw [hc] at hx
      have hx : (isNorm x && cpiece C call n q'.el q'.ol k c2 e2 s2) = true := hx
      simp only [Bool.and_eq_true] at hx
      refine cW_seq (ccode_ok O hm CO 1000 c1 e s x e2 s2 hc ρ e' a h _ R er g ?_)
      rw [norm_of hx.1]
      intro ρ1 e3 a1 h3 le1 R1 er1 g1
      exact piece_ok O hm CO k hx.2 hg ρ1 e3 a1 h3 R1 er1 g1
/-- The last piece: what a function hands back. -/
def clast (C : Cx) (call : CallF) (fn : Func) (v : Value) (c : Code) (e : Ev) (s : CS) : Bool :=
  (ccode C call fn.ntmps 1000 c e s).elim false fun (x, e, s) => returns x && (cres C s e fn.results.toList).elim false fun l => beqV 9 (one l) v
/-- What is asked of a function's body where it ends. -/
def Gives (C : Cx) (h0 : Hp) (fn : Func) (v : Value) : Exit → Act → Hp → Prop :=
  fun x a h' => (x = .normal ∨ x = .ret) ∧ a.defers = [] ∧ ∃ us, Res C.P h' a.tmps fn.results.toList us ∧ one us = v ∧ Ext h0 h'
theorem Rel.gives {C : Cx} {h0 : Hp} {ρ : Rho} {σ : Tri AO} {h : Hp} (R : Rel C h0 ρ σ h) : Ext h0 h := ⟨R.size, fun i hi _ => R.base i hi⟩
theorem last_ok {C : Cx} {h0 : Hp} (O : Ok C) (hm : C.P.follows .mixedOrders = true) {call : CallF} (CO : CallOk C h0 call) {fn : Func} {v : Value} (hv : flatV 9 v = true) {c : Code} {e : Ev} {s : CS}
    (hx : clast C call fn v c e s = true) : ∀ ρ e' a h, Rel C h0 ρ s.σ h → ER ρ e e' → Agr ⟨fn.ntmps, []⟩ e' a → cW C.P c (Gives C h0 fn v) a h := by
  intro ρ e' a h R er g
  unfold clast at hx
  cases hc : ccode C call fn.ntmps 1000 c e s with
  | none => rw [hc] at hx; cases hx
  | some r =>
    obtain ⟨x, e2, s2⟩ := r
    rw [hc] at hx
    have hx : (returns x && (cres C s2 e2 fn.results.toList).elim false fun l => beqV 9 (one l) v) = true := hx
    simp only [Bool.and_eq_true] at hx
    obtain ⟨hr, hx⟩ := hx
    cases hl : cres C s2 e2 fn.results.toList with
    | none => rw [hl] at hx; cases hx
    | some l =>
      rw [hl] at hx
      have hx := beqV_eq 9 _ _ (show beqV 9 (one l) v = true from hx)
      refine ccode_ok O hm CO 1000 c e s x e2 s2 hc ρ e' a h _ R er g ?_
      intro ρ1 e3 a1 h1 le R1 er1 g1
      refine ⟨?_, g1.defers, ?_⟩
      · cases x <;> first | exact .inl rfl | exact .inr rfl | (cases hr; done)
      · obtain ⟨l', h3, h4⟩ := cres_of (K := fun _ _ => True) R1 er1 hl
        obtain ⟨us, h5, h6⟩ := xres_of g1 (h4 (fun us _ _ _ => us = l') rfl)
        subst h5
        refine ⟨us, h6, ?_, R1.gives⟩
        have := one_vr h3
        rw [hx] at this
        exact this.inj (flat_vr 9 v hv)
/-- Out of a body's pieces: the function's call. -/
theorem hc_gives {C : Cx} {h0 : Hp} {f : FuncId} {fn : Func} {c : Code} {v : Value} (hf : C.P.funcs[f]? = some fn) (hb : fn.body = some c)
    (hc : ∀ e' a, ER (fun b => if b < C.ng then some ⟨b, 0, 0⟩ else none) .nil e' → Agr ⟨fn.ntmps, []⟩ e' a → cW C.P c (Gives C h0 fn v) a h0) : HC C.P f #[] h0 fun v' h' => v' = v ∧ Ext h0 h' := by
  have g : Agr ⟨fn.ntmps, []⟩ (env0 0 []) { tmps := #[] ++ Array.replicate (fn.ntmps - 0) undef, defers := [] } := ⟨by simp, rfl, fun s v hv => by simp [env0, eget] at hv⟩
  have hcw := hc (env0 0 []) _ (fun t v ht => by simp [Tri.get_nil] at ht) g
  intro w hw
  refine calls_of_wp hf hb (Code.wp_mono ?_ (hcw w w (SameO.refl w) hw))
  rintro x a w' ⟨h1, hx, hd, us, hres, hk, hext⟩
  obtain ⟨h2, h3⟩ := results_run (K := fun v' h' => v' = v ∧ Ext h0 h') hres ⟨hk, hext⟩
  obtain ⟨v', w'', hr, hs, hR⟩ := semW_sound _ w' _ h2
  have := ro_run _ h3 w' v' w'' hr
  subst this
  rcases hx with rfl | rfl
  · exact ⟨hd, v', hr, v', rfl, h1, hR⟩
  · exact ⟨hd, v', hr, v', rfl, h1, hR⟩
/-- A heap with the laid variables alone. -/
theorem rel_start {C : Cx} {h0 : Hp} (hro : ∀ b c, C.ro b = some c → b < C.ng ∧ ∃ cs e f, h0[b]? = some (.cells cs e f) ∧ ∀ (i : Nat) (v : Value), c[i]? = some v → cs[i]? = some v ∧ flatV 9 v = true) :
    Rel C h0 (fun b => if b < C.ng then some ⟨b, 0, 0⟩ else none) (goneTo C.ng .nil) h0 := by
  have hg : ∀ b o, (goneTo C.ng .nil).get b = some o → b < C.ng ∧ o = .gone := by
    intro b o hb
    rw [goneTo_get] at hb
    by_cases h : b < C.ng
    · rw [if_pos h] at hb; cases hb; exact ⟨h, rfl⟩
    · rw [if_neg h, Tri.get_nil] at hb; cases hb
  refine ⟨fun g hg => by simp [hg], hro, Nat.le_refl _, fun _ _ => rfl, fun b o hb => ?_, fun b b' o o' pl pl' hb hb' hl hl' _ _ _ => ?_, fun b hb => ?_⟩
  · obtain ⟨h1, rfl⟩ := hg b o hb
    exact ⟨⟨b, 0, 0⟩, by simp [h1], trivial⟩
  · obtain ⟨_, rfl⟩ := hg b o hb
    cases hl
  · rw [goneTo_get] at hb
    by_cases h : b < C.ng
    · rw [if_pos h] at hb; cases hb
    · simp [h]
end
end Go.Sx.Cr
