/- Closed runs, part N: regions over a store, and over the heap that it stands for. Asked: of the context, what Ok says; of calls, what CallOk says. -/
import Derived.Test.YtmdncdaladplkaaGreatDoorSxJg
import Derived.Test.YtmdncdaladplkaaGreatDoorSxY
import Derived.Test.YtmdncdaladplkaaGreatDoorSxF
set_option linter.unusedVariables false
set_option linter.unusedSimpArgs false
set_option linter.deprecated false
set_option linter.unusedSectionVars false
namespace Go.Sx.Cr
section
variable {C : Cx} {h0 : Hp} {ρ : Rho} {s s1 : CS} {h : Hp} {e e1 : Ev} {e' : Env} {L : Lp} {K : Value → Hp → Prop} {n : Nat} {ops : Array Oper}
theorem forced_eq {α : Type} (v : Value) (k : Value → α) : forced v k = k v := by
  unfold forced
  split
  · split
    · split <;> rfl
    · rfl
  · split <;> rfl
  · rfl
theorem ER.put (er : ER ρ e e') (dst : Option Tmp) {v v' : Value} (hv : VR ρ v v') : ER ρ (cset n e dst v) (eput n e' dst v') := by
  cases dst with
  | none => exact er
  | some d =>
    unfold cset eput
    simp only [forced_eq]
    cases hb : Nat.blt d n with
    | false => exact er
    | true =>
      simp only [cond_true]
      intro t u ht
      rw [Tri.get_put] at ht
      rw [eget_cons]
      by_cases h : t = d
      · rw [if_pos h] at ht; cases ht
        rw [if_pos h.symm]; exact ⟨v', rfl, hv⟩
      · rw [if_neg h] at ht
        rw [if_neg fun hh => h hh.symm]; exact er t u ht
/-- A slot is said again. -/
theorem ER.again (er : ER ρ e e') {d : Nat} {v : Value} (hd : eget e' d = some v) : ER ρ e (eput n e' (some d) v) := by
  intro t u ht
  obtain ⟨u', h1, h2⟩ := er t u ht
  refine ⟨u', ?_, h2⟩
  unfold eput
  simp only
  cases Nat.blt d n with
  | false => exact h1
  | true =>
    simp only [cond_true]
    rw [eget_cons]
    by_cases h : d = t
    · subst h; rw [if_pos rfl, ← h1, hd]
    · rw [if_neg h]; exact h1
/-- Is an operation wanted? -/
theorem guard_run (er : ER ρ e e') {o : Oper} {w : Bool} (hw : cwant ops o e = some w) {yes no : Env → T} (hy : w = true → ∀ e2, ER ρ e e2 → yes e2 L K h) (hn : w = false → ∀ e2, ER ρ e e2 → no e2 L K h) : xguard n ops o e' yes no L K h := by
  unfold cwant at hw
  unfold xguard
  cases hg : guardOf ops o with
  | none =>
    rw [hg] at hw; simp only at hw ⊢
    cases hw; exact hy rfl e' er
  | some p =>
    obtain ⟨od, want⟩ := p
    rw [hg] at hw
    cases od with
    | none => simp only at hw ⊢; cases hw; exact hn rfl e' er
    | some d =>
      simp only at hw ⊢
      obtain ⟨v, hv, hw⟩ := Option.bind_eq_some_iff.1 hw
      obtain ⟨v', h1, h2⟩ := er d v hv
      rw [h1]
      unfold wantB at hw
      split at hw
      · rename_i b
        cases hw; cases h2
        have ea := er.again (n := n) h1
        cases want <;> cases b <;> simp only [cond_true, cond_false]
        · exact hy rfl _ ea
        · exact hn rfl _ ea
        · exact hn rfl _ ea
        · exact hy rfl _ ea
      · cases hw
        cases h2
        exact hn rfl e' er
      · cases hw
/-- Operations one behind the other. -/
theorem cops_of (O : Ok C) {call : CallF} (CO : CallOk C h0 call) {k : Env → T} : ∀ (l : List Oper) {ρ : Rho} {s : CS} {h : Hp} {e : Ev} {e' : Env}, cops C call n ops l e s = some (e1, s1) → Rel C h0 ρ s.σ h → ER ρ e e' →
    (∀ ρ1 h1 e2, Le ρ ρ1 → Rel C h0 ρ1 s1.σ h1 → ER ρ1 e1 e2 → k e2 L K h1) → xops C.P n ops l e' k L K h
  | [], ρ, s, h, e, e', hx, R, er, hk => by
    cases (show some (e, s) = some (e1, s1) from hx)
    exact hk ρ h e' (Le.refl _) R er
  | o :: l, ρ, s, h, e, e', hx, R, er, hk => by
    obtain ⟨w, hw, hx⟩ := Option.bind_eq_some_iff.1 (show (cwant ops o e).bind _ = some (e1, s1) from hx)
    unfold xops
    refine guard_run er hw (fun hwt e2 er2 => ?_) (fun hwf e2 er2 => ?_)
    · subst hwt
      obtain ⟨⟨v, s2⟩, h1, h2⟩ := Option.bind_eq_some_iff.1 (show (cop C call o e s).bind _ = some (e1, s1) from hx)
      refine cop_of O CO R er2 h1 ?_
      intro ρ1 v1 h1 le R1 hv
      exact cops_of O CO l h2 R1 ((er2.mono le).put o.dst hv) fun ρ2 h2 e3 le2 => hk ρ2 h2 e3 (le.trans le2)
    · subst hwf
      exact cops_of O CO l hx R (er2.put o.dst undef_vr) hk

/-! Equal results. -/
theorem beqL_eq {q : Value → Value → Bool} (hq : ∀ a b, q a b = true → a = b) : ∀ {l k : List Value}, beqL q l k = true → l = k
  | [], [], _ => rfl
  | a :: l, b :: k, h => by
    simp only [beqL, Bool.and_eq_true] at h
    rw [hq a b h.1, beqL_eq hq h.2]
  | [], _ :: _, h => by simp [beqL] at h
  | _ :: _, [], h => by simp [beqL] at h
theorem beqA_eq {a b : Option Addr} (h : beqA a b = true) : a = b := by
  unfold beqA at h
  split at h
  · rfl
  · simp only [Bool.and_eq_true] at h
    rw [Nat.eq_of_beq_eq_true h.1, Nat.eq_of_beq_eq_true h.2]
  · cases h
theorem eqTxt_eq {a b : ByteArray} (h : eqTxt a b = true) : a = b := by
  rw [eqTxt_dec] at h; exact of_decide_eq_true h
theorem beqV_eq : ∀ (n : Nat) (a b : Value), beqV n a b = true → a = b
  | 0, _, _, h => by cases h
  | n + 1, a, b, h => by
    unfold beqV at h
    split at h <;> first
      | (cases h; done)
      | rfl
      | skip
    · rw [beq_iff_eq] at h; rw [h]
    · simp only [Bool.and_eq_true, decide_eq_true_eq, beq_iff_eq] at h; rw [h.1, h.2]
    · rw [eqTxt_eq h]
    · rw [beqA_eq h]
    · simp only [Bool.and_eq_true] at h
      rw [beqA_eq h.1.1, Nat.eq_of_beq_eq_true h.1.2, Nat.eq_of_beq_eq_true h.2]
    · rw [Nat.eq_of_beq_eq_true h]
    · simp only [Bool.and_eq_true] at h
      rw [Nat.eq_of_beq_eq_true h.1.1, beqL_eq (beqV_eq n) h.1.2, beqL_eq (beqV_eq n) h.2]
    · simp only [Bool.and_eq_true] at h
      rw [Nat.eq_of_beq_eq_true h.1, beqV_eq n _ _ h.2]
    · rw [beqL_eq (beqV_eq n) h]
    · rw [beqL_eq (beqV_eq n) h]
theorem beqD_eq {α : Type} {q : α → α → Bool} (hq : ∀ a b, q a b = true → a = b) : ∀ {l k : List (α × Value)}, beqD q l k = true → l = k
  | [], [], _ => rfl
  | a :: l, b :: k, h => by
    simp only [beqD, Bool.and_eq_true] at h
    rw [show a = b from Prod.ext (hq _ _ h.1.1) (beqV_eq _ _ _ h.1.2), beqD_eq hq h.2]
  | [], _ :: _, h => by simp [beqD] at h
  | _ :: _, [], h => by simp [beqD] at h
theorem beqO_eq {a b : AO} (h : beqO a b = true) : a = b := by
  unfold beqO at h
  split at h
  · rfl
  · simp only [Bool.and_eq_true] at h
    rw [Nat.eq_of_beq_eq_true h.1.1, Nat.eq_of_beq_eq_true h.1.2, beqL_eq (beqV_eq _) h.2]
  · rw [beqD_eq (fun a b => eqTxt_eq) h]
  · rw [beqD_eq (fun a b hh => by rw [eqKey_dec] at hh; exact of_decide_eq_true hh) h]
  · rw [beqD_eq (fun a b hh => by rw [eqPair_dec] at hh; exact of_decide_eq_true hh) h]
  · cases h
theorem beqOpt_eq {α : Type} {q : α → α → Bool} (hq : ∀ a b, q a b = true → a = b) {a b : Option α} (h : beqOpt q a b = true) : a = b := by
  unfold beqOpt at h
  split at h
  · rfl
  · rw [hq _ _ h]
  · cases h
theorem beqT_eq {α : Type} {q : α → α → Bool} (hq : ∀ a b, q a b = true → a = b) : ∀ {a b : Tri α}, beqT q a b = true → a = b
  | .nil, .nil, _ => rfl
  | .node o l r, .node o' l' r', h => by
    simp only [beqT, Bool.and_eq_true] at h
    rw [beqOpt_eq hq h.1.1, beqT_eq hq h.1.2, beqT_eq hq h.2]
  | .nil, .node _ _ _, h => by simp [beqT] at h
  | .node _ _ _, .nil, h => by simp [beqT] at h

/-! Regions whose order is drawn. -/
/-- Loads that have been made, over the store and over the heap. -/
def MR (C : Cx) (ρ : Rho) : CMade → Made → Prop
  | [], [] => True
  | (i, b, off, l) :: m, (i', a, l') :: m' => i = i' ∧ (∃ pl, ρ b = some pl ∧ a = ⟨pl.blk, pl.sh + off, none⟩) ∧ VRs ρ l l' ∧ MR C ρ m m'
  | _, _ => False
theorem MR.mono {ρ ρ' : Rho} (le : Le ρ ρ') : ∀ {m : CMade} {m' : Made}, MR C ρ m m' → MR C ρ' m m'
  | [], [], _ => trivial
  | (i, b, off, l) :: m, (i', a, l') :: m', ⟨h1, ⟨pl, h2, h3⟩, h4, h5⟩ => ⟨h1, ⟨pl, le _ _ h2, h3⟩, h4.mono le, MR.mono le h5⟩
  | [], _ :: _, h => h.elim
  | _ :: _, [], h => h.elim
theorem CapR.inj {pl : Pl} {c a b : Nat} (h : CapR pl c a) (k : CapR pl c b) : a = b := by
  rcases h with ⟨h1, h2⟩ | ⟨h1, h2⟩ <;> rcases k with ⟨k1, k2⟩ | ⟨k1, k2⟩ <;> omega
mutual
theorem VR.inj {ρ : Rho} : ∀ {v a b : Value}, VR ρ v a → VR ρ v b → a = b
  | _, _, _, .bool _, h => by cases h; rfl
  | _, _, _, .int _ _, h => by cases h; rfl
  | _, _, _, .string _, h => by cases h; rfl
  | _, _, _, .ptr0, h => by cases h; rfl
  | _, _, _, .ptr off hb, h => by cases h with | ptr _ h2 => rw [hb] at h2; cases h2; rfl
  | _, _, _, .sl0 _, h => by cases h; rfl
  | _, _, _, .sl _ _ hb hc _, h => by cases h with | sl _ _ h2 h3 _ => rw [hb] at h2; cases h2; rw [hc.inj h3]
  | _, _, _, .map0, h => by cases h; rfl
  | _, _, _, .map hb, h => by cases h with | map h2 => rw [hb] at h2; cases h2; rfl
  | _, _, _, .func _ h1 h2, h => by cases h with | func _ k1 k2 => rw [VRs.inj h1 k1, VRs.inj h2 k2]
  | _, _, _, .nilFunc, h => by cases h; rfl
  | _, _, _, .nilIface, h => by cases h; rfl
  | _, _, _, .iface _ h1, h => by cases h with | iface _ k1 => rw [VR.inj h1 k1]
  | _, _, _, .agg h1, h => by cases h with | agg k1 => rw [VRs.inj h1 k1]
  | _, _, _, .tuple h1, h => by cases h with | tuple k1 => rw [VRs.inj h1 k1]
theorem VRs.inj {ρ : Rho} : ∀ {v a b : List Value}, VRs ρ v a → VRs ρ v b → a = b
  | _, _, _, .nil, h => by cases h; rfl
  | _, _, _, .cons h1 t1, h => by cases h with | cons k1 t2 => rw [VR.inj h1 k1, VRs.inj t1 t2]
end
/-- What was loaded is still there. -/
theorem stable_run (R : Rel C h0 ρ s.σ h) {o : Oper} : ∀ {m : CMade} {m' : Made}, MR C ρ m m' → cstable C s (waits o) m = true → T.stab h (heldMade o m')
  | [], [], _, _ => trivial
  | (i, b, off, l) :: m, (i', a, l') :: m', ⟨h1, ⟨pl, h2, h3⟩, h4, h5⟩, hx => by
    subst h1
    unfold cstable at hx
    unfold heldMade
    cases hw : memN i (waits o) with
    | true =>
      rw [hw] at hx
      simp only [cond_true]
      exact stable_run R h5 hx
    | false =>
      rw [hw] at hx
      simp only [cond_false, Bool.and_eq_true] at hx ⊢
      obtain ⟨hc, hx⟩ := hx
      refine ⟨?_, stable_run R h5 hx⟩
      cases hk : cells C s b off l.length with
      | none => rw [hk] at hc; cases hc
      | some k =>
        rw [hk] at hc
        have := beqL_eq (beqV_eq 9) (show beqL (beqV 9) k l = true from hc)
        subst this
        obtain ⟨_, k', h6, h7⟩ := cells_of R hk h2
        rw [h4.inj h6, h3]
        exact h7
  | [], _ :: _, h, _ => h.elim
  | _ :: _, [], h, _ => h.elim
theorem stableX_mk {l : List (Addr × List Value)} {t : T} (h1 : T.stab h l) (h2 : t L K h) : stableX l t L K h := by
  cases l with
  | nil => exact h2
  | cons p l => exact ⟨h1, h2⟩
theorem allX_mk : ∀ {ts : List T}, ts ≠ [] → (∀ t ∈ ts, t L K h) → allX ts L K h
  | [], hn, _ => (hn rfl).elim
  | [t], _, ht => ht t (by simp)
  | t :: u :: ts, _, ht => by
    show T.every L K h (t :: u :: ts)
    have : ∀ l : List T, (∀ t ∈ l, t L K h) → T.every L K h l := by
      intro l
      induction l with
      | nil => intro _; trivial
      | cons a l ih => exact fun hl => ⟨hl a (by simp), ih fun t ht => hl t (by simp [ht])⟩
    exact this _ ht
/-- What is asked of what comes behind a region. -/
def After (C : Cx) (h0 : Hp) (ρ : Rho) (σ : Tri AO) (e : Ev) (k : Env → T) (L : Lp) (K : Value → Hp → Prop) : Prop :=
  ∀ ρ1 h1 e2, Le ρ ρ1 → Rel C h0 ρ1 σ h1 → ER ρ1 e e2 → k e2 L K h1
theorem After.mono {ρ ρ' : Rho} {σ : Tri AO} {k : Env → T} (le : Le ρ ρ') (h : After C h0 ρ σ e k L K) : After C h0 ρ' σ e k L K := fun ρ1 h1 e2 le2 => h ρ1 h1 e2 (le.trans le2)
theorem cdraw_of (O : Ok C) {call : CallF} (CO : CallOk C h0 call) {k : Env → T} : ∀ (fu : Nat) {D : List Nat} {ρ : Rho} {s : CS} {h : Hp} {e e1 : Ev} {s1 : CS} {e' : Env} {m : CMade} {m' : Made} {p p1 : Plan},
    cdraw C call n ops fu D e s m p = some (e1, s1, p1) → Rel C h0 ρ s.σ h → ER ρ e e' → MR C ρ m m' → After C h0 ρ s1.σ e1 k L K → xdraw C.P n ops fu D e' m' k L K h
  | 0, D, ρ, s, h, e, e1, s1, e', m, m', p, p1, hx, R, er, mr, hk => by cases hx
  | fu + 1, D, ρ, s, h, e, e1, s1, e', m, m', p, p1, hx, R, er, mr, hk => by
    unfold cdraw at hx
    unfold xdraw
    cases hc : findReady C.P D true (idx 0 ops.toList) with
    | cons q qs =>
      obtain ⟨i, o⟩ := q
      rw [hc] at hx
      simp only at hx ⊢
      obtain ⟨w, hw, hx⟩ := Option.bind_eq_some_iff.1 hx
      refine guard_run er hw (fun hwt e2 er2 => ?_) (fun hwf e2 er2 => ?_)
      · subst hwt
        simp only at hx
        unfold calmStep at hx
        split at hx
        · rename_i t x hop
          simp only [hop]
          obtain ⟨v, hv, hx⟩ := Option.bind_eq_some_iff.1 hx
          obtain ⟨⟨b, off, l, u⟩, hl, hx⟩ := Option.bind_eq_some_iff.1 hx
          obtain ⟨v', g1, _, g2⟩ := with1_run R er2 hv
          unfold xload
          rw [g2]
          obtain ⟨pl, l', u', k1, k2, k3, k4, k5⟩ := load_run R g1 hl
          refine k5 (fun a l v => xdraw C.P n ops fu (i :: D) (eput n e2 o.dst v) ((i, a, l) :: m') k) L K ?_
          exact cdraw_of O CO fu hx R (er2.put o.dst k3) ⟨rfl, ⟨pl, k1, rfl⟩, k2, mr⟩ hk
        · rename_i hnl
          obtain ⟨⟨v, s2⟩, h1, hx⟩ := Option.bind_eq_some_iff.1 hx
          have hgo : xop C.P o e2 (fun v => xdraw C.P n ops fu (i :: D) (eput n e2 o.dst v) m' k) L K h := by
            refine cop_of O CO R er2 h1 ?_
            intro ρ1 v1 h1 le R1 hv
            exact cdraw_of O CO fu hx R1 ((er2.mono le).put o.dst hv) (mr.mono le) (hk.mono le)
          have hne : ∀ t x, o.op ≠ .load t x := fun t x hh => hnl t x hh
          clear hx hw
          obtain ⟨dst, op, type, pos, after, guard⟩ := o
          cases op <;> first | exact hgo | exact (hne _ _ rfl).elim
      · subst hwf
        exact cdraw_of O CO fu hx R (er2.put o.dst undef_vr) mr hk
    | nil =>
      rw [hc] at hx
      simp only at hx ⊢
      cases hn : findReady C.P D false (idx 0 ops.toList) with
      | nil =>
        rw [hn] at hx
        cases hx
        exact hk ρ h e' (Le.refl _) R er
      | cons q qs =>
        rw [hn] at hx
        simp only at hx ⊢
        unfold actAll at hx
        obtain ⟨⟨e3, s3, p3⟩, h1, hx⟩ := Option.bind_eq_some_iff.1 hx
        obtain ⟨h2, hx⟩ := chk_iff.1 (show chk _ _ = some (e1, s1, p1) from hx)
        cases hx
        have one : ∀ (q : Nat × Oper) (p2 : Plan) (e4 : Ev) (s4 : CS) (p4 : Plan), actStep C call n ops e s m (fun i e s p => cdraw C call n ops fu (i :: D) e s m p) q p2 = some (e4, s4, p4) → e4 = e1 → s4.σ = s1.σ →
            xguard n ops q.2 e' (fun e => xop C.P q.2 e fun v => stableX (heldMade q.2 m') (xdraw C.P n ops fu (q.1 :: D) (eput n e q.2.dst v) m' k)) (fun e => xdraw C.P n ops fu (q.1 :: D) (eput n e q.2.dst undef) m' k) L K h := by
          rintro ⟨i, o⟩ p2 e4 s4 p4 hs rfl hσ
          unfold actStep at hs
          simp only at hs ⊢
          obtain ⟨w, hw, hs⟩ := Option.bind_eq_some_iff.1 hs
          refine guard_run er hw (fun hwt e2 er2 => ?_) (fun hwf e2 er2 => ?_)
          · subst hwt
            obtain ⟨⟨v, s5⟩, g1, hs⟩ := Option.bind_eq_some_iff.1 hs
            obtain ⟨g2, hs⟩ := chk_iff.1 (show chk _ _ = some (e4, s4, p4) from hs)
            refine cop_of (s := ⟨s.σ, baseOf i s.nx p2⟩) O CO R er2 g1 ?_
            intro ρ1 v1 h1 le R1 hv
            have mr1 := mr.mono le
            refine stableX_mk (stable_run R1 mr1 g2) ?_
            exact cdraw_of O CO fu hs R1 ((er2.mono le).put o.dst hv) mr1 (by rw [hσ]; exact hk.mono le)
          · subst hwf
            exact cdraw_of O CO fu hs R (er2.put o.dst undef_vr) mr (by rw [hσ]; exact hk)
        refine allX_mk (by simp) fun t ht => ?_
        simp only [List.map_cons, List.mem_cons, List.mem_map] at ht
        rcases ht with rfl | ⟨q2, hq2, rfl⟩
        · exact one q p e1 s1 p1 h1 rfl rfl
        · have := List.all_eq_true.1 h2 q2 hq2
          unfold sameAs at this
          cases hs2 : actStep C call n ops e s m (fun i e s p => cdraw C call n ops fu (i :: D) e s m p) q2 p1 with
          | none => rw [hs2] at this; cases this
          | some r =>
            obtain ⟨e4, s4, p4⟩ := r
            rw [hs2] at this
            have this : (beqT (beqV 9) e4 e1 && beqT beqO s4.σ s1.σ) = true := this
            simp only [Bool.and_eq_true] at this
            exact one q2 p1 e4 s4 p4 hs2 (beqT_eq (beqV_eq 9) this.1) (beqT_eq (fun a b => beqO_eq) this.2)
end
end Go.Sx.Cr
