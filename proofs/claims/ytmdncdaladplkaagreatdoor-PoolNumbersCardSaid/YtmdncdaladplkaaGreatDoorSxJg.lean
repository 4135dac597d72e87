/- Closed runs, part Jg: an operation over a store, and over the heap that it stands for. Asked: of the context, what Ok says; of calls, what CallOk says. -/
import Derived.Test.YtmdncdaladplkaaGreatDoorSxJf
set_option linter.unusedVariables false
set_option linter.unusedSimpArgs false
set_option linter.deprecated false
set_option linter.unusedSectionVars false
namespace Go.Sx.Cr
section
variable {C : Cx} {h0 : Hp} {ρ : Rho} {s s1 : CS} {h : Hp} {e : Ev} {e' : Env} {L : Lp} {K : Value → Hp → Prop} {kk : Value → T}
theorem pick_run (R : Rel C h0 ρ s.σ h) (er : ER ρ e e') {c a b : Operand} {v : Value} (hx : oPick C e s c a b = some (v, s1)) (P : Post C h0 ρ s1 v kk L K) :
    (with1 e' c fun c => match c with
    | .bool b' => cond b' (with1 e' a kk) (with1 e' b kk)
    | _ => T.fail) L K h := by
  unfold oPick at hx
  obtain ⟨u, hu, hx⟩ := Option.bind_eq_some_iff.1 hx
  obtain ⟨u', g1, _, g2⟩ := with1_run R er hu
  rw [g2]
  split at hx
  · cases g1
    obtain ⟨h1, rfl⟩ := val_iff.1 hx
    obtain ⟨v', g3, _, g4⟩ := with1_run R er h1
    simp only [cond_true]
    rw [g4]
    exact P.here R g3
  · cases g1
    obtain ⟨h1, rfl⟩ := val_iff.1 hx
    obtain ⟨v', g3, _, g4⟩ := with1_run R er h1
    simp only [cond_false]
    rw [g4]
    exact P.here R g3
  · cases hx
theorem callTo_run (O : Ok C) {call : CallF} (CO : CallOk C h0 call) (R : Rel C h0 ρ s.σ h) {t : TypeId} {f : FuncId} {vs vs' : List Value} {v : Value} (hv : VRs ρ vs vs') (hx : callTo C call t s f vs = some (v, s1)) (P : Post C h0 ρ s1 v kk L K) :
    xcall C.P f vs' t kk L K h := by
  unfold callTo at hx
  unfold xcall
  cases hb : hasBody C.P f with
  | true =>
    rw [hb] at hx
    simp only at hx ⊢
    obtain ⟨h1, h2⟩ := fitted_iff.1 hx
    cases hs : Nat.beq f C.srt with
    | true =>
      rw [hs] at h1
      obtain rfl : f = C.srt := Nat.eq_of_beq_eq_true hs
      exact call_mk (sorted_hc' O R hv h1) h2 P
    | false =>
      rw [hs] at h1
      exact call_mk (CO f vs s v s1 h1 ρ h vs' R hv) h2 P
  | false =>
    rw [hb] at hx
    simp only at hx ⊢
    obtain ⟨hi, hx1⟩ := chk_iff.1 hx
    clear hx
    obtain rfl : f = C.idx := Nat.eq_of_beq_eq_true hi
    obtain ⟨h1, h2⟩ := fitted_iff.1 hx1
    clear hx1
    obtain ⟨h3, rfl⟩ := val_iff.1 h1
    clear h1
    unfold cindex at h3
    split at h3
    · cases h3
      cases hv with
      | cons a1 hv =>
      cases hv with
      | cons a2 hv =>
      cases hv; cases a1; cases a2
      obtain ⟨y, hy⟩ := fitR_of (.int (ρ := ρ) _ _) h2
      refine O.idx _ _ h _ ⟨y, hy, ?_⟩
      rw [unc_cur, ← hy]
      exact P.here R (.int _ _)
    · cases h3
theorem callV_run {call : CallF} (CO : CallOk C h0 call) (R : Rel C h0 ρ s.σ h) {t : TypeId} {g g' : Value} {vs vs' : List Value} {v : Value} (hg : VR ρ g g') (hv : VRs ρ vs vs') (hx : callV C call t s g vs = some (v, s1)) (P : Post C h0 ρ s1 v kk L K) :
    T.callv C.P g' vs' (tupD C.P t).1 (tupD C.P t).2 (cur _ fun l => kk (rv (tupD C.P t).1 (tupD C.P t).2 l)) L K h := by
  unfold callV at hx
  split at hx
  · rename_i f fi ca
    obtain ⟨hb, hx⟩ := chk_iff.1 hx
    obtain ⟨h1, h2⟩ := fitted_iff.1 hx
    cases hg with
    | @func _ _ fi' _ ca' k1 k2 =>
    refine ⟨f, ⟨fi'⟩, ⟨ca'⟩, rfl, ?_, ?_⟩
    · have := call_mk (t := t) (kk := kk) (L := L) (K := K) (CO f _ s v s1 h1 ρ h (fi' ++ vs' ++ ca') R ((k1.append hv).append k2)) h2 P
      exact this
    · unfold hasBody at hb
      split at hb
      · rename_i fn hf
        simp only [Bool.and_eq_true, Bool.not_eq_true', beq_eq_false_iff_ne] at hb
        exact ⟨fn, hf, hb.1, hb.2⟩
      · cases hb
  · cases hx
theorem builtin_run (R : Rel C h0 ρ s.σ h) {b : Builtin} {t : TypeId} {c : Call} {vs vs' : List Value} {v : Value} (hv : VRs ρ vs vs') (hx : cbuiltin C b t c vs s = some (v, s1)) (P : Post C h0 ρ s1 v kk L K) :
    xbuiltin C.P b c t vs' kk L K h := by
  unfold cbuiltin at hx
  split at hx
  · obtain ⟨u, hu, hx⟩ := Option.bind_eq_some_iff.1 hx
    obtain ⟨hx1, hs⟩ := val_iff.1 hx
    subst hs
    obtain ⟨u', rfl, hu'⟩ := one1_of hv hu
    obtain ⟨g1, g2⟩ := len_run (t := t) R hu' hx1
    exact g2 kk L K (P.here R g1)
  · exact append_run R hv hx P
  · obtain ⟨hx1, hs⟩ := val_iff.1 hx
    subst hs
    obtain ⟨g1, g2⟩ := min_run (h := h) (ts := c.argTypes) hv hx1
    exact g2 kk L K (P.here R g1)
  · cases hx
theorem call_run (O : Ok C) {call : CallF} (CO : CallOk C h0 call) (R : Rel C h0 ρ s.σ h) (er : ER ρ e e') {t : TypeId} {c : Call} {v : Value} (hx : oCall C call e s t c = some (v, s1)) (P : Post C h0 ρ s1 v kk L K) (o : Oper) (ho : o.op = .call c) (ht : o.type = t) :
    xop C.P o e' kk L K h := by
  unfold oCall at hx
  obtain ⟨vs, hvs, hx⟩ := Option.bind_eq_some_iff.1 hx
  obtain ⟨vs', g1, g2⟩ := withL_run R er hvs
  unfold xop
  rw [ho]
  simp only
  obtain ⟨callee, args, argTypes⟩ := c
  simp only at hx g2 ⊢
  subst ht
  cases callee with
  | builtin b =>
    simp only at hx ⊢
    rw [g2]
    exact builtin_run R g1 hx P
  | value g =>
    cases g with
    | func f =>
      simp only [isTmp] at hx ⊢
      obtain ⟨w, w1, w2, w3⟩ := with1_run R er (x := .func f) (v := .func (.func f) #[] #[]) rfl
      rw [w3, g2]
      cases w1 with
      | func f k1 k2 =>
      cases k1; cases k2
      simp only [List.nil_append, List.append_nil]
      exact callTo_run O CO R g1 hx P
    | tmp t =>
      simp only [isTmp] at hx ⊢
      obtain ⟨g, hg, hx⟩ := Option.bind_eq_some_iff.1 hx
      obtain ⟨w, w1, w2, w3⟩ := with1_run R er (x := .tmp t) hg
      rw [w3, g2]
      exact callV_run CO R w1 g1 hx P
    | const _ => cases hx
    | global _ => cases hx
  | invoke _ _ => cases hx
theorem cop_of (O : Ok C) {call : CallF} (CO : CallOk C h0 call) (R : Rel C h0 ρ s.σ h) (er : ER ρ e e') {o : Oper} {v : Value} (hx : cop C call o e s = some (v, s1)) (P : Post C h0 ρ s1 v kk L K) : xop C.P o e' kk L K h := by
  unfold cop at hx
  cases hop : o.op <;> simp only [hop] at hx <;> first
    | (cases hx; done)
    | (exact call_run O CO R er hx P o hop rfl)
    | (unfold xop; simp only [hop])
    | skip
  case move x =>
    obtain ⟨hx1, hs⟩ := val_iff.1 hx
    subst hs
    clear hx
    have hx := hx1
    obtain ⟨v', g1, _, g2⟩ := with1_run R er hx
    rw [g2]; exact P.here R g1
  case assign x =>
    obtain ⟨hx1, hs⟩ := val_iff.1 hx
    subst hs
    clear hx
    have hx := hx1
    obtain ⟨v', g1, _, g2⟩ := with1_run R er hx
    rw [g2]; exact P.here R g1
  case pick c a b => exact pick_run R er hx P
  case alloc t =>
    obtain ⟨z, hz, hx⟩ := Option.bind_eq_some_iff.1 hx
    obtain ⟨zv, h1, rfl, h2⟩ := zeroOf_iff hz
    simp only [h1]
    exact new_run R (h2 ρ) hx P
  case box t x =>
    obtain ⟨u, hu, hx⟩ := Option.bind_eq_some_iff.1 (show (cev C e x).bind _ = some (v, s1) from hx)
    obtain ⟨g, hg, hx⟩ := Option.bind_eq_some_iff.1 hx
    obtain ⟨l, hl, hx3⟩ := Option.bind_eq_some_iff.1 hx
    obtain ⟨u', g1, _, g2⟩ := with1_run R er hu
    rw [g2]
    obtain ⟨ha, l', hl1, hl2⟩ := cellsIf_of g1 hl
    subst hl2
    cases g with
    | true => simp only [hg, ha, cond_true]; exact new_run R hl1 hx3 P
    | false => simp only [hg, ha, cond_false]; exact new_run R hl1 hx3 P
  case build t ps =>
    obtain ⟨vs, hvs, hx⟩ := Option.bind_eq_some_iff.1 (show (cevL C e _).bind _ = some (v, s1) from hx)
    obtain ⟨hx1, hs⟩ := val_iff.1 hx
    subst hs
    clear hx
    have hx := hx1
    obtain ⟨vs', g1, g2⟩ := withL_run R er hvs
    rw [g2]
    obtain ⟨v', g3, g4⟩ := build_run (h := h) (PR.zip (ps.toList.map (·.1)) g1) hx
    exact g4 kk L K (P.here R g3)
  case buildSlice t n ps =>
    obtain ⟨vs, hvs, hx⟩ := Option.bind_eq_some_iff.1 (show (cevL C e _).bind _ = some (v, s1) from hx)
    obtain ⟨vs', g1, g2⟩ := withL_run R er hvs
    rw [g2]
    exact lit_run R (PR.zip (ps.toList.map (·.1)) g1) hx P
  case load t x =>
    obtain ⟨u, hu, hx⟩ := Option.bind_eq_some_iff.1 (show (cev C e x).bind _ = some (v, s1) from hx)
    obtain ⟨⟨b, off, l, w⟩, hl, hx⟩ := Option.bind_eq_some_iff.1 hx
    cases hx
    obtain ⟨u', g1, _, g2⟩ := with1_run R er hu
    rw [g2]
    obtain ⟨pl, l', w', k1, k2, k3, k4, k5⟩ := load_run R g1 hl
    exact k5 (fun _ _ v => kk v) L K (P.here R k3)
  case store t x y =>
    obtain ⟨p, hp, hx⟩ := Option.bind_eq_some_iff.1 (show (cev C e x).bind _ = some (v, s1) from hx)
    obtain ⟨u, hu, hx⟩ := Option.bind_eq_some_iff.1 hx
    obtain ⟨s2, hs, hx⟩ := Option.bind_eq_some_iff.1 hx
    cases hx
    obtain ⟨p', g1, _, g2⟩ := with1_run R er hp
    obtain ⟨u', g3, _, g4⟩ := with1_run R er hu
    rw [g2, g4]
    exact store_run R g1 g3 hs fun h1 R1 => P ρ undef h1 (Le.refl _) R1 undef_vr
  case nilCheck x =>
    obtain ⟨u, hu, hx⟩ := Option.bind_eq_some_iff.1 (show (cev C e x).bind _ = some (v, s1) from hx)
    obtain ⟨hx1, hs⟩ := val_iff.1 hx
    subst hs
    clear hx
    have hx := hx1
    obtain ⟨u', g1, _, g2⟩ := with1_run R er hu
    rw [g2]
    unfold notNil at hx
    split at hx
    · cases hx
      cases g1 with
      | ptr off hb => exact P.here R (.ptr off hb)
    · cases hx
  case binOp op t x y yt =>
    obtain ⟨a, ha, hx⟩ := Option.bind_eq_some_iff.1 (show (cev C e x).bind _ = some (v, s1) from hx)
    obtain ⟨b, hb, hx⟩ := Option.bind_eq_some_iff.1 hx
    obtain ⟨hx1, hs⟩ := val_iff.1 hx
    subst hs
    clear hx
    have hx := hx1
    obtain ⟨a', g1, _, g2⟩ := with1_run R er ha
    obtain ⟨b', g3, _, g4⟩ := with1_run R er hb
    rw [g2, g4]
    obtain ⟨g5, g6⟩ := bin_run (h := h) g1 g3 hx
    exact g6 kk L K (P.here R g5)
  case unOp op t x =>
    obtain ⟨a, ha, hx⟩ := Option.bind_eq_some_iff.1 (show (cev C e x).bind _ = some (v, s1) from hx)
    obtain ⟨hx1, hs⟩ := val_iff.1 hx
    subst hs
    clear hx
    have hx := hx1
    obtain ⟨a', g1, _, g2⟩ := with1_run R er ha
    rw [g2]
    have g5 := (cun_of (L := []) (K := fun _ _ => True) (h := h) (kk := fun _ _ _ _ => True) g1 hx trivial).2
    exact (cun_of g1 hx (P.here R g5)).1
  case convert a d x =>
    obtain ⟨u, hu, hx⟩ := Option.bind_eq_some_iff.1 (show (cev C e x).bind _ = some (v, s1) from hx)
    obtain ⟨hx1, hs⟩ := val_iff.1 hx
    subst hs
    clear hx
    have hx := hx1
    obtain ⟨u', g1, _, g2⟩ := with1_run R er hu
    rw [g2]
    have g5 := (cconv_of (L := []) (K := fun _ _ => True) (h := h) (kk := fun _ _ _ _ => True) g1 hx trivial).2
    exact (cconv_of g1 hx (P.here R g5)).1
  case makeFunc fn fi ca =>
    cases fn <;> first | (cases hx; done) | skip
    rename_i f
    obtain ⟨a, ha, hx⟩ := Option.bind_eq_some_iff.1 (show (cevL C e fi.toList).bind _ = some (v, s1) from hx)
    obtain ⟨c, hc, hx⟩ := Option.bind_eq_some_iff.1 hx
    cases hx
    obtain ⟨a', g1, g2⟩ := withL_run R er ha
    obtain ⟨c', g3, g4⟩ := withL_run R er hc
    rw [g2, g4]
    exact P.here R (.func f g1 g3)
  case makeMap t r =>
    cases r with
    | some _ => cases hx
    | none => exact mkmap_run R hx P
  case makeSlice t l c =>
    obtain ⟨a, ha, hx⟩ := Option.bind_eq_some_iff.1 (show (cev C e l).bind _ = some (v, s1) from hx)
    obtain ⟨b, hb, hx⟩ := Option.bind_eq_some_iff.1 hx
    obtain ⟨a', g1, _, g2⟩ := with1_run R er ha
    obtain ⟨b', g3, _, g4⟩ := with1_run R er hb
    rw [g2, g4]
    exact mkslice_run R g1 g3 hx P
  case lookup t m x ok =>
    obtain ⟨a, ha, hx⟩ := Option.bind_eq_some_iff.1 (show (cev C e m).bind _ = some (v, s1) from hx)
    obtain ⟨b, hb, hx⟩ := Option.bind_eq_some_iff.1 hx
    obtain ⟨hx1, hs⟩ := val_iff.1 hx
    subst hs
    clear hx
    have hx := hx1
    obtain ⟨a', g1, _, g2⟩ := with1_run R er ha
    obtain ⟨b', g3, _, g4⟩ := with1_run R er hb
    rw [g2, g4]
    obtain ⟨v', g5, g6⟩ := look_run O R g1 g3 hx
    exact g6 kk L K (P.here R g5)
  case mapUpdate t m x y =>
    obtain ⟨a, ha, hx⟩ := Option.bind_eq_some_iff.1 (show (cev C e m).bind _ = some (v, s1) from hx)
    obtain ⟨b, hb, hx⟩ := Option.bind_eq_some_iff.1 hx
    obtain ⟨c, hc, hx⟩ := Option.bind_eq_some_iff.1 hx
    obtain ⟨s2, hs, hx⟩ := Option.bind_eq_some_iff.1 hx
    cases hx
    obtain ⟨a', g1, _, g2⟩ := with1_run R er ha
    obtain ⟨b', g3, _, g4⟩ := with1_run R er hb
    obtain ⟨c', g5, _, g6⟩ := with1_run R er hc
    rw [g2, g4, g6]
    exact upd_run O R g1 g3 g5 hs fun h1 R1 => P ρ undef h1 (Le.refl _) R1 undef_vr
  case slice t x lo hi mx =>
    obtain ⟨a, ha, hx⟩ := Option.bind_eq_some_iff.1 (show (cev C e x).bind _ = some (v, s1) from hx)
    obtain ⟨vs, hvs, hx⟩ := Option.bind_eq_some_iff.1 hx
    obtain ⟨hx1, hs⟩ := val_iff.1 hx
    subst hs
    clear hx
    have hx := hx1
    obtain ⟨a', g1, _, g2⟩ := with1_run R er ha
    obtain ⟨vs', g3, g4⟩ := withL_run R er hvs
    rw [g2, g4]
    obtain ⟨v', g5, g6⟩ := sl_run (h := h) g1 g3 hx
    exact g6 kk L K (P.here R g5)
  case fieldAddr t x f =>
    obtain ⟨a, ha, hx⟩ := Option.bind_eq_some_iff.1 (show (cev C e x).bind _ = some (v, s1) from hx)
    obtain ⟨hx1, hs⟩ := val_iff.1 hx
    subst hs
    clear hx
    have hx := hx1
    obtain ⟨a', g1, _, g2⟩ := with1_run R er ha
    rw [g2]
    obtain ⟨v', g5, g6⟩ := fieldA_run (h := h) g1 hx
    exact g6 kk L K (P.here R g5)
  case field t x f =>
    obtain ⟨a, ha, hx⟩ := Option.bind_eq_some_iff.1 (show (cev C e x).bind _ = some (v, s1) from hx)
    obtain ⟨cs, hcs, hx⟩ := Option.bind_eq_some_iff.1 hx
    obtain ⟨fd, hfd, hx⟩ := Option.bind_eq_some_iff.1 hx
    obtain ⟨hx9, hs⟩ := val_iff.1 hx
    subst hs
    obtain ⟨a', g1, _, g2⟩ := with1_run R er ha
    rw [g2]
    have := aggL_iff.1 hcs
    subst this
    have hx := hx9
    obtain ⟨fs, hd, hf⟩ := fld_of hfd
    cases g1 with
    | agg hl =>
    obtain ⟨v', g5, g6⟩ := part_run (h := h) hl hx
    simp only [hd, hf]
    exact g6 kk L K (P.here R g5)
  case indexAddr t x i =>
    obtain ⟨a, ha, hx⟩ := Option.bind_eq_some_iff.1 (show (cev C e x).bind _ = some (v, s1) from hx)
    obtain ⟨b, hb, hx⟩ := Option.bind_eq_some_iff.1 hx
    obtain ⟨hx1, hs⟩ := val_iff.1 hx
    subst hs
    clear hx
    have hx := hx1
    obtain ⟨a', g1, _, g2⟩ := with1_run R er ha
    obtain ⟨b', g3, _, g4⟩ := with1_run R er hb
    rw [g2, g4]
    obtain ⟨v', g5, g6⟩ := idxA_run (h := h) g1 g3 hx
    exact g6 kk L K (P.here R g5)
  case index t x i =>
    obtain ⟨a, ha, hx⟩ := Option.bind_eq_some_iff.1 (show (cev C e x).bind _ = some (v, s1) from hx)
    obtain ⟨b, hb, hx⟩ := Option.bind_eq_some_iff.1 hx
    obtain ⟨hx1, hs⟩ := val_iff.1 hx
    subst hs
    clear hx
    have hx := hx1
    obtain ⟨a', g1, _, g2⟩ := with1_run R er ha
    obtain ⟨b', g3, _, g4⟩ := with1_run R er hb
    rw [g2, g4]
    obtain ⟨g5, g6⟩ := idx_run (h := h) g1 g3 hx
    exact g6 kk L K (P.here R g5)
  case extract x i =>
    obtain ⟨a, ha, hx⟩ := Option.bind_eq_some_iff.1 (show (cev C e x).bind _ = some (v, s1) from hx)
    obtain ⟨vs, hvs, hx⟩ := Option.bind_eq_some_iff.1 hx
    obtain ⟨hx9, hs⟩ := val_iff.1 hx
    subst hs
    obtain ⟨a', g1, _, g2⟩ := with1_run R er ha
    rw [g2]
    have := tupL_iff.1 hvs
    subst this
    have hx := hx9
    cases g1 with
    | tuple hl =>
    obtain ⟨v', g5, g6⟩ := hl.get hx
    simp only [g5]
    exact P.here R g6
end
end Go.Sx.Cr
