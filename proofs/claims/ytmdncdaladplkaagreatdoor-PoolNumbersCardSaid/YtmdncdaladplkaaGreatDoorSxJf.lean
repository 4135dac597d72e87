/- Closed runs, part Jf: lengths, comparisons, calls over a store. Asked: of the context, what Ok says; of calls, what CallOk says. -/
import Derived.Test.YtmdncdaladplkaaGreatDoorSxJe
set_option linter.unusedVariables false
set_option linter.unusedSimpArgs false
set_option linter.deprecated false
set_option linter.unusedSectionVars false
namespace Go.Sx.Cr
section
variable {C : Cx} {h0 : Hp} {ρ : Rho} {s s1 : CS} {h : Hp} {e : Ev} {e' : Env} {L : Lp} {K : Value → Hp → Prop} {kk : Value → T}
theorem one1_of {vs vs' : List Value} {v : Value} (hv : VRs ρ vs vs') (hx : one1 vs = some v) : ∃ v', vs' = [v'] ∧ VR ρ v v' := by
  unfold one1 at hx
  split at hx
  · cases hx
    cases hv with
    | cons h t => cases t; exact ⟨_, rfl, h⟩
  · cases hx
theorem len_run (R : Rel C h0 ρ s.σ h) {c : Call} {t : TypeId} {v v' u : Value} (hv : VR ρ v v') (hx : clen s ((c.argTypes[0]?).bind C.P.underlying) v = some u) : VR ρ u u ∧ ∀ (kk : Value → T) (L : Lp) (K : Value → Hp → Prop), kk u L K h → xlen C.P c t [v'] kk L K h := by
  unfold clen at hx
  cases hd : (c.argTypes[0]?).bind C.P.underlying with
  | none => rw [hd] at hx; cases hx
  | some d =>
    rw [hd] at hx
    cases d <;> first | (cases hx; done) | skip
    case string =>
      cases hv <;> first | (cases hx; done) | skip
      cases hx
      refine ⟨.int _ _, fun kk L K hk => ?_⟩
      unfold xlen
      simp only [hd]
      exact hk
    case slice el =>
      cases hv <;> first | (cases hx; done) | skip
      · cases hx
        refine ⟨.int _ _, fun kk L K hk => ?_⟩
        unfold xlen
        simp only [hd]
        exact hk
      · cases hx
        refine ⟨.int _ _, fun kk L K hk => ?_⟩
        unfold xlen
        simp only [hd]
        exact hk
    case map k el =>
      cases hv <;> first | (cases hx; done) | skip
      rename_i b pl hb
      obtain ⟨n, hn, hx⟩ := Option.bind_eq_some_iff.1 hx
      cases hx
      obtain ⟨o, ho, hn⟩ := Option.bind_eq_some_iff.1 hn
      have hsz : ∃ (es : Array MapEntry) (clock : Nat), h[pl.blk]? = some (.map es clock) ∧ es.size = n := by
        cases o <;> first | (cases hn; done) | skip
        · cases hn
          obtain ⟨_, D', ⟨es, clock, h1, h2, _⟩, hr⟩ := R.row ho hb
          refine ⟨es, clock, h1, ?_⟩
          have := congrArg List.length h2
          simp only [List.length_map, Array.length_toList] at this
          rw [this, hr.length]
        · cases hn
          obtain ⟨_, D', ⟨es, clock, h1, h2, _⟩, hr⟩ := R.row ho hb
          refine ⟨es, clock, h1, ?_⟩
          have := congrArg List.length h2
          simp only [List.length_map, Array.length_toList] at this
          rw [this, hr.length]
        · cases hn
          obtain ⟨_, D', ⟨es, clock, h1, h2, _⟩, hr⟩ := R.row ho hb
          refine ⟨es, clock, h1, ?_⟩
          have := congrArg List.length h2
          simp only [List.length_map, Array.length_toList] at this
          rw [this, hr.length]
      obtain ⟨es, clock, h1, h2⟩ := hsz
      refine ⟨.int _ _, fun kk L K hk => ?_⟩
      unfold xlen
      simp only [hd]
      obtain ⟨t0, ht0, hd'⟩ := Option.bind_eq_some_iff.1 hd
      show semW _ _ _ _
      unfold Builtin.len_
      simp only [ht0, List.getElem?_toArray, List.getElem?_cons_zero]
      rw [semW_bind', semW_underlying hd']
      simp only [pure_bind]
      rw [semW_bind']
      refine semW_getObj h1 (by simp) _ ?_
      simp only [pure_bind]
      exact ⟨((n : Int), ()), by rw [h2]; rfl, hk⟩
theorem natPair {vs vs' : List Value} {v : Value} (hv : VRs ρ vs vs') (hx : cmin vs = some v) : ∃ a b : Nat, vs' = [.int .i64 a, .int .i64 b] ∧ v = .int .i64 ((Nat.min a b : Nat) : Int) := by
  unfold cmin at hx
  split at hx
  · cases hx
    cases hv with
    | cons h1 t =>
    cases t with
    | cons h2 t =>
    cases t; cases h1; cases h2
    exact ⟨_, _, rfl, rfl⟩
  · cases hx
theorem min_run {t : TypeId} {ts : Array TypeId} {vs vs' : List Value} {u : Value} (hv : VRs ρ vs vs') (hx : (cmin vs).bind (minTo C.P t) = some u) : VR ρ u u ∧ ∀ (kk : Value → T) (L : Lp) (K : Value → Hp → Prop), kk u L K h →
    T.sem C.P (Builtin.min_ ts t vs'.toArray) false [compD C.P t] (cur _ fun l => kk (rv false [compD C.P t] l)) L K h := by
  obtain ⟨v, h1, hx⟩ := Option.bind_eq_some_iff.1 hx
  obtain ⟨hf, hx⟩ := chk_iff.1 (show chk _ _ = some u from hx)
  cases hx
  obtain ⟨a, b, rfl, rfl⟩ := natPair hv h1
  refine ⟨.int _ _, fun kk L K hk => ?_⟩
  obtain ⟨y, hy⟩ := fitR_of (ρ := ρ) (q := (false, [compD C.P t])) (.int _ _) (by
    show (fitC (compD C.P t) _ && true) = true
    rw [hf]; rfl)
  show semW _ _ _ _
  refine ⟨y, ?_, ?_⟩
  · rw [← hy]
    show Value.int .i64 (if (b : Int) < (a : Int) then (b : Int) else (a : Int)) = .int .i64 ((Nat.min a b : Nat) : Int)
    congr 1
    show _ = ((min a b : Nat) : Int)
    split <;> omega
  · rw [unc_cur]
    have : rv false [compD C.P t] (hvs _ y) = _ := hy.symm
    rw [this]; exact hk
theorem okC_same {d : TypeDesc} {x y x' y' : Value} (hx : VR ρ x x') (hy : VR ρ y y') (hok : okC d x y = true) : x' = x ∧ y' = y := by
  cases d <;> cases hx <;> cases hy <;> first | exact ⟨rfl, rfl⟩ | (simp [okC] at hok; done)
theorem all_congr {α : Type} {p q : α → Bool} {as : Array α} (h : ∀ a ∈ as, p a = q a) : as.all p = as.all q := by
  rw [← Array.all_toList, ← Array.all_toList]
  have : ∀ l : List α, (∀ a ∈ l, p a = q a) → l.all p = l.all q := by
    intro l
    induction l with
    | nil => intro _; rfl
    | cons a l ih => intro h; simp only [List.all_cons]; rw [h a (by simp), ih fun b hb => h b (by simp [hb])]
  exact this _ fun a ha => h a (by simpa using ha)
theorem eqCell_eq (a b : Value) : eqCell a b = eqC a b := by
  cases a <;> cases b <;> first | rfl | skip
  show eqTxt _ _ = (_ == _)
  rw [eqTxt_dec, ba_beq]
theorem cmp_run {op : BinOp} {t : TypeId} {x y : Operand} {a a' b b' v : Value} (ha : VR ρ a a') (hb : VR ρ b b') (hx : ccmp C.P op t a b = some v) : VR ρ v v ∧ ∀ (kk : Value → T) (L : Lp) (K : Value → Hp → Prop), kk v L K h →
    xcmp C.P op t x y a' b' kk L K h := by
  unfold ccmp at hx
  split at hx
  · rename_i xs ys fs hd
    obtain ⟨h1, hx⟩ := chk_iff.1 hx
    simp only [Bool.and_eq_true, Bool.not_eq_true'] at h1
    obtain ⟨⟨h1, h2⟩, h3⟩ := h1
    obtain ⟨xl⟩ := xs
    obtain ⟨yl⟩ := ys
    cases ha with
    | @agg _ xl' hxl =>
    cases hb with
    | @agg _ yl' hyl =>
    have hf : ∀ f ∈ fs, okF C.P ⟨xl'⟩ ⟨yl'⟩ f = true ∧ eqCell ((⟨xl⟩ : Array Value)[f.offset]?.getD .nilIface) ((⟨yl⟩ : Array Value)[f.offset]?.getD .nilIface) = eqF ⟨xl'⟩ ⟨yl'⟩ f := by
      intro f hf
      have h3 : (fs.toList.all (okF C.P ⟨xl⟩ ⟨yl⟩)) = true := by rw [Array.all_toList]; exact h3
      have := List.all_eq_true.1 h3 f (by simpa using hf)
      obtain ⟨dd, u, w, e1, e2, e3, e4, e5, e6⟩ := okF_spec this
      rw [List.getElem?_toArray] at e2 e3
      obtain ⟨u', g1, g2⟩ := hxl.get e2
      obtain ⟨w', g3, g4⟩ := hyl.get e3
      obtain ⟨rfl, rfl⟩ := okC_same g2 g4 e4
      refine ⟨?_, ?_⟩
      · unfold okF
        simp only [e1, List.getElem?_toArray, g1, g3, e4, Bool.true_and]
        simpa using e5
      · unfold eqF
        simp only [List.getElem?_toArray, g1, g3, e2, e3, Option.getD_some]
        exact eqCell_eq _ _
    have hall : fs.all (okF C.P ⟨xl'⟩ ⟨yl'⟩) = true := by
      rw [← Array.all_toList]
      exact List.all_eq_true.2 fun f h => (hf f (by simpa using h)).1
    have heq : (fs.all fun f => eqCell ((⟨xl⟩ : Array Value)[f.offset]?.getD .nilIface) ((⟨yl⟩ : Array Value)[f.offset]?.getD .nilIface)) = fs.all (eqF ⟨xl'⟩ ⟨yl'⟩) := all_congr fun f h => (hf f h).2
    rw [heq] at hx
    refine ⟨casked_flat hx, fun kk L K hk => ?_⟩
    unfold casked at hx
    unfold xcmp
    split at hx
    · cases hx
      exact cmpS_eql hd h1 h2 hall _ ⟨(_, ()), rfl, hk⟩
    · cases hx
      exact cmpS_neq hd h1 h2 hall _ ⟨(_, ()), rfl, hk⟩
    · cases hx
  · cases hx
theorem bin_run {op : BinOp} {t : TypeId} {x y : Operand} {a a' b b' v : Value} (ha : VR ρ a a') (hb : VR ρ b b') (hx : cbin C.P op t x y a b = some v) : VR ρ v v ∧ ∀ (kk : Value → T) (L : Lp) (K : Value → Hp → Prop), kk v L K h →
    xbin C.P op t x y a' b' kk L K h := by
  unfold cbin at hx
  cases hp : pureTy C.P t x y with
  | true =>
    rw [hp] at hx
    refine ⟨(cbinP_of (L := []) (K := fun _ _ => True) (h := h) (kk := fun _ _ _ _ => True) ha hb hx trivial).2, fun kk L K hk => ?_⟩
    unfold xbin
    rw [hp]
    exact (cbinP_of ha hb hx hk).1
  | false =>
    rw [hp] at hx
    obtain ⟨h1, h2⟩ := cmp_run (h := h) (x := x) (y := y) ha hb hx
    refine ⟨h1, fun kk L K hk => ?_⟩
    unfold xbin
    rw [hp]
    exact h2 kk L K hk

/-! Calls. -/
theorem fitted_iff {t : TypeId} {r : VS} {v : Value} : fitted C.P t r = some (v, s1) ↔ r = some (v, s1) ∧ fitR (tupD C.P t) v = true := by
  unfold fitted
  constructor
  · intro h
    obtain ⟨⟨u, s2⟩, h1, h2⟩ := Option.bind_eq_some_iff.1 h
    obtain ⟨h3, h4⟩ := chk_iff.1 (show chk _ _ = some (v, s1) from h2)
    cases h4
    exact ⟨h1, h3⟩
  · rintro ⟨rfl, h2⟩
    show chk (fitR (tupD C.P t) v) (some (v, s1)) = _
    rw [h2]; rfl
/-- Out of a call's contract. -/
theorem call_mk {f : FuncId} {vs' : List Value} {t : TypeId} {v : Value} (hc : HC C.P f vs'.toArray h fun v' h' => ∃ ρ1, Le ρ ρ1 ∧ Rel C h0 ρ1 s1.σ h' ∧ VR ρ1 v v') (hf : fitR (tupD C.P t) v = true) (P : Post C h0 ρ s1 v kk L K) :
    T.call C.P f vs' (tupD C.P t).1 (tupD C.P t).2 (cur _ fun l => kk (rv (tupD C.P t).1 (tupD C.P t).2 l)) L K h := by
  refine hc.mono ?_
  rintro v' h' ⟨ρ1, le, R1, hv⟩
  obtain ⟨x, hx⟩ := fitR_of hv hf
  refine ⟨x, hx, ?_⟩
  rw [unc_cur, ← hx]
  exact P ρ1 v' h' le R1 hv
theorem sorted_hc' (O : Ok C) (R : Rel C h0 ρ s.σ h) {vs vs' : List Value} {v : Value} (hv : VRs ρ vs vs') (hx : csorted C vs s = some (v, s1)) :
    HC C.P C.srt vs'.toArray h fun v' h' => ∃ ρ1, Le ρ ρ1 ∧ Rel C h0 ρ1 s1.σ h' ∧ VR ρ1 v v' := by
  unfold csorted at hx
  obtain ⟨a, ha, hx⟩ := Option.bind_eq_some_iff.1 hx
  obtain ⟨⟨q, off⟩, hq, hx⟩ := Option.bind_eq_some_iff.1 hx
  obtain ⟨h0', hx⟩ := chk_iff.1 hx
  obtain rfl : off = 0 := Nat.eq_of_beq_eq_true h0'
  obtain ⟨l, hl, hx⟩ := Option.bind_eq_some_iff.1 hx
  obtain ⟨m, hm, hx⟩ := Option.bind_eq_some_iff.1 hx
  obtain ⟨b, hb, hx⟩ := Option.bind_eq_some_iff.1 hx
  obtain ⟨o, ho, hx⟩ := Option.bind_eq_some_iff.1 hx
  obtain ⟨a', rfl, ha'⟩ := one1_of hv ha
  -- the function value
  obtain ⟨pl, hpl, rfl⟩ : ∃ pl, ρ q = some pl ∧ a' = .func (.func C.seq) #[] #[.pointer (some ⟨pl.blk, pl.sh + 0, none⟩)] := by
    unfold seqPtr at hq
    split at hq
    · rename_i f p
      obtain ⟨h1, h2⟩ := chk_iff.1 hq
      obtain rfl : f = C.seq := Nat.eq_of_beq_eq_true h1
      have := ptrOf_iff.1 h2
      subst this
      cases ha' with
      | func f h1 h2 =>
      cases h1
      cases h2 with
      | cons h2 t =>
      cases t
      obtain ⟨pl, h3, rfl⟩ := h2.ptr_inv
      exact ⟨pl, h3, rfl⟩
    · cases hq
  -- its cell
  obtain ⟨cs, hsh, f, eT, hg, hc0⟩ : ∃ (cs : Array Value), pl.sh = 0 ∧ ∃ f eT, h[pl.blk]? = some (.cells cs eT f) ∧ ∃ m', cs[0]? = some m' ∧ VR ρ m m' := by
    unfold row0 at hl
    split at hl
    · rename_i c eT mm hq2
      obtain ⟨h1, h2⟩ := chk_iff.1 hl
      cases h2
      obtain rfl : mm = 0 := Nat.eq_of_beq_eq_true h1
      obtain ⟨cs, f, e1, e2, _, e4⟩ := R.row hq2 hpl
      have hs := e4.2 rfl
      obtain ⟨m', e5, e6⟩ := e2 0 m (by
        unfold one1 at hm
        split at hm
        · cases hm; rfl
        · cases hm)
      exact ⟨cs, hs, f, eT, e1, m', by rw [hs] at e5; exact e5, e6⟩
    · cases hl
  obtain ⟨m', hc0, hm'⟩ := hc0
  obtain ⟨plb, hplb, hme⟩ : ∃ pl, ρ b = some pl ∧ m' = .map (some pl.blk) := by
    unfold mapRef at hb
    split at hb
    · cases hb
      cases hm' with
      | map h => exact ⟨_, h, rfl⟩
    · cases hb
  subst hme
  unfold sortedO at hx
  split at hx
  · rename_i D
    obtain ⟨hD1, hx⟩ := chk_iff.1 hx
    have hD1 := Nat.le_of_ble_eq_true hD1
    obtain ⟨_, D', hD, hr⟩ := R.row ho hplb
    rw [hsh]
    refine (O.srt h pl.blk plb.blk D' cs eT f hg hc0 hD (by rw [← hr.length]; exact hD1)).mono ?_
    rintro v' h' ⟨k, hm2⟩
    cases D with
    | nil =>
      have : D' = [] := List.eq_nil_of_length_eq_zero (by rw [← hr.length]; rfl)
      subst this
      cases hx
      have hv' : v' = .slice none 0 0 := hm2
      subst hv'
      exact ⟨ρ, Le.refl _, R.ext k, .sl0 (Nat.le_refl _)⟩
    | cons p D =>
      cases D' with
      | nil => have := hr.length; simp at this
      | cons p' D' =>
        obtain ⟨s2, hn2, hx⟩ := Option.bind_eq_some_iff.1 (show (cnew s (.row _ 9 1)).bind _ = some (v, s1) from hx)
        obtain ⟨hn, h2⟩ := cnew_iff.1 hn2
        subst h2
        cases hx
        obtain ⟨g, rest, cap, g1, rfl, g2, g3, g4, g5⟩ := hm2
        have hkeys : ∀ l : List ByteArray, VRs ρ (l.map .string) (l.map .string) := by
          intro l
          induction l with
          | nil => exact .nil
          | cons a l ih => exact .cons (.string _) ih
        have hlen : ∀ l : List ByteArray, (sortS l).length = l.length := by
          intro l
          induction l with
          | nil => rfl
          | cons a l ih =>
            have hi : ∀ (x : ByteArray) (l : List ByteArray), (insS x l).length = l.length + 1 := by
              intro x l
              induction l with
              | nil => rfl
              | cons y l ih =>
                unfold insS
                split
                · rfl
                · simp [ih]
            unfold sortS
            rw [hi, ih]; rfl
        rw [← hr.1] at g5
        have hl2 : ((sortS ((p :: D).map (·.1))).map Value.string).length = (p' :: D').length := by rw [List.length_map, hlen, List.length_map, hr.length]
        obtain ⟨R1, le⟩ := R.new (n := s.nx) (pl := ⟨g, 0, cap⟩) hn g1 k (row_of (e := 9) (m := 1) (cap := cap) (Nat.le_trans R.size g1) (hkeys _) (Le.upd (R.dom _ hn)) g5 fun _ => ⟨by rw [g3, hl2], g2⟩)
        refine ⟨_, le, R1, ?_⟩
        have hv := VR.sl (ρ := upd ρ s.nx ⟨g, 0, cap⟩) (c := big) (c' := cap) 0 (p' :: D').length (upd_self _ _ _) (.inr ⟨Nat.le_of_lt half_big, rfl⟩) g4
        rw [hr.length]
        simpa using hv
  · cases hx
end
end Go.Sx.Cr
