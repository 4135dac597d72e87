/- Closed runs, part J: what an operation comes to over a store, it comes to over the heap that the store stands for. Asked: of the context, what Ok says. -/
import Derived.Test.YtmdncdaladplkaaGreatDoorSxW
set_option linter.unusedVariables false
set_option linter.unusedSimpArgs false
set_option linter.deprecated false
set_option linter.unusedSectionVars false
namespace Go.Sx.Cr
/-- What is asked of a context. -/
structure Ok (C : Cx) : Prop where
  kt : ∀ k, isK C k = true → KeyT C.P k keyV
  ki : ∀ k, isI C k = true → KeyT C.P k keyI
  idx : ∀ (x : ByteArray) (n : Int) (h : Hp) (K : Value → Hp → Prop), K (.int .i64 (Lib.indexByte x.data.toList n.toNat.toUInt8)) h → semW C.P (extS C.idx #[.string x, .int .u8 n]) h K
  srt : ∀ (h : Hp) (q b : Nat) (D : List (ByteArray × Value)) (cs : Array Value) (e : TypeId) (f : Nat × Nat), h[q]? = some (.cells cs e f) → cs[0]? = some (.map (some b)) → MapB h b D → D.length ≤ 1024 →
    HC C.P C.srt #[.func (.func C.seq) #[] #[.pointer (some ⟨q, 0, none⟩)]] h fun v h' => Ext h h' ∧ match D with
      | [] => v = .slice none 0 0
      | _ :: _ => ∃ g rest cap, h.size ≤ g ∧ v = .slice (some ⟨g, 0, none⟩) D.length cap ∧ cap < 9223372036854775808 ∧ cap * C.P.cellsOf 9 = D.length + rest.length ∧ D.length ≤ cap ∧ Box h' g 9 ((sortS (D.map (·.1))).map .string ++ rest)
/-- What slots bear. -/
def ER (ρ : Rho) (e : Ev) (e' : Env) : Prop := ∀ t v, e.get t = some v → ∃ v', eget e' t = some v' ∧ VR ρ v v'
theorem ER.mono {ρ ρ' : Rho} (le : Le ρ ρ') {e : Ev} {e' : Env} (h : ER ρ e e') : ER ρ' e e' := fun t v ht => by
  obtain ⟨v', h1, h2⟩ := h t v ht
  exact ⟨v', h1, h2.mono le⟩
/-- What is asked of what is done behind an operation. -/
def Post (C : Cx) (h0 : Hp) (ρ : Rho) (s1 : CS) (v : Value) (kk : Value → T) (L : Lp) (K : Value → Hp → Prop) : Prop :=
  ∀ ρ1 v1 h1, Le ρ ρ1 → Rel C h0 ρ1 s1.σ h1 → VR ρ1 v v1 → kk v1 L K h1
/-- What is asked of calls. -/
def CallOk (C : Cx) (h0 : Hp) (call : CallF) : Prop :=
  ∀ f vs s v s1, call f vs s = some (v, s1) → ∀ ρ h vs', Rel C h0 ρ s.σ h → VRs ρ vs vs' → HC C.P f vs'.toArray h fun v' h' => ∃ ρ1, Le ρ ρ1 ∧ Rel C h0 ρ1 s1.σ h' ∧ VR ρ1 v v'
section
variable {C : Cx} {h0 : Hp} {ρ : Rho} {s s1 : CS} {h : Hp} {e : Ev} {e' : Env} {L : Lp} {K : Value → Hp → Prop} {kk : Value → T}
theorem cflat_iff {v u : Value} : cflat v = some u ↔ flatV 9 v = true ∧ v = u := by
  unfold cflat; rw [chk_iff]; simp
theorem cev_of (R : Rel C h0 ρ s.σ h) (er : ER ρ e e') {x : Operand} {v : Value} (hx : cev C e x = some v) : ∃ v', ev e' x = some v' ∧ VR ρ v v' := by
  cases x with
  | tmp t => exact er t v hx
  | const u =>
    obtain ⟨h1, rfl⟩ := cflat_iff.1 (show cflat u = some v from hx)
    exact ⟨u, rfl, flat_vr 9 u h1⟩
  | func f =>
    have : some (Value.func (.func f) #[] #[]) = some v := hx
    cases this
    exact ⟨_, rfl, .func f .nil .nil⟩
  | global g =>
    obtain ⟨h1, h2⟩ := chk_iff.1 (show cglob C g = some v from hx)
    cases h2
    have hg : g < C.ng := by simpa [Nat.blt_eq] using h1
    refine ⟨_, rfl, ?_⟩
    have := VR.ptr (ρ := ρ) 0 (R.glob g hg)
    simpa using this
theorem with1_run (R : Rel C h0 ρ s.σ h) (er : ER ρ e e') {x : Operand} {v : Value} (hx : cev C e x = some v) : ∃ v', VR ρ v v' ∧ ev e' x = some v' ∧ ∀ k : Value → T, with1 e' x k = k v' := by
  obtain ⟨v', h1, h2⟩ := cev_of R er hx
  exact ⟨v', h2, h1, fun k => by unfold with1; rw [h1]⟩
theorem withL_run (R : Rel C h0 ρ s.σ h) (er : ER ρ e e') : ∀ {xs : List Operand} {vs : List Value}, cevL C e xs = some vs → ∃ vs', VRs ρ vs vs' ∧ ∀ k : List Value → T, withL e' xs k = k vs'
  | [], vs, hx => by
    have : some [] = some vs := hx
    cases this
    exact ⟨[], .nil, fun k => rfl⟩
  | x :: xs, vs, hx => by
    obtain ⟨v, hv, hx⟩ := Option.bind_eq_some_iff.1 (show (cev C e x).bind _ = some vs from hx)
    obtain ⟨l, hl, hx⟩ := Option.bind_eq_some_iff.1 hx
    cases hx
    obtain ⟨v', h1, _, h2⟩ := with1_run R er hv
    obtain ⟨l', h3, h4⟩ := withL_run R er hl
    exact ⟨v' :: l', .cons h1 h3, fun k => by simp only [withL]; rw [h2, h4]⟩
theorem val_iff {r : Option Value} {v : Value} : val s r = some (v, s1) ↔ r = some v ∧ s = s1 := by
  unfold val
  cases r <;> simp
theorem Post.here {v v' : Value} (P : Post C h0 ρ s v kk L K) (R : Rel C h0 ρ s.σ h) (hv : VR ρ v v') : kk v' L K h := P ρ v' h (Le.refl _) R hv

/-! Numbers, texts, Bools. -/
theorem cint_of {op : BinOp} {k : IntKind} {m n : Int} {v : Value} (hx : cint op k m n = some v) (hk : kk v L K h) : xint op k m n kk L K h := by
  unfold cint at hx
  cases op <;> simp only [Option.some.injEq, reduceCtorEq] at hx <;> simp only [xint] <;> first
    | (subst hx; exact hk)
    | (obtain ⟨h1, h2⟩ := chk_iff.1 hx
       cases h2
       exact ⟨by simpa using h1, hk⟩)
theorem cstr_of {op : BinOp} {m n : ByteArray} {v : Value} (hx : cstr op m n = some v) (hk : kk v L K h) : xstr op m n kk L K h := by
  unfold cstr at hx
  simp only [← ByteArray.toList_eq] at hx
  cases op <;> simp only [Option.some.injEq, reduceCtorEq] at hx <;> simp only [xstr] <;> first
    | (subst hx; exact hk)
    | (obtain ⟨h1, h2⟩ := chk_iff.1 hx
       cases h2
       exact ⟨by simpa using h1, hk⟩)
theorem casked_of {op : BinOp} {b : Bool} {v : Value} {other : T} (hx : casked op b = some v) (hk : kk v L K h) : asked op b kk other L K h := by
  unfold casked at hx
  cases op <;> simp only [Option.some.injEq, reduceCtorEq] at hx <;> (subst hx; exact hk)
theorem cint_flat {op : BinOp} {k : IntKind} {m n : Int} {v : Value} (hx : cint op k m n = some v) : VR ρ v v := by
  unfold cint at hx
  cases op <;> simp only [Option.some.injEq, reduceCtorEq] at hx <;> first
    | (subst hx; first | exact .int _ _ | exact .bool _)
    | (obtain ⟨h1, h2⟩ := chk_iff.1 hx
       cases h2
       exact .int _ _)
theorem cstr_flat {op : BinOp} {m n : ByteArray} {v : Value} (hx : cstr op m n = some v) : VR ρ v v := by
  unfold cstr at hx
  cases op <;> simp only [Option.some.injEq, reduceCtorEq] at hx <;> first
    | (subst hx; first | exact .string _ | exact .bool _)
    | (obtain ⟨h1, h2⟩ := chk_iff.1 hx
       cases h2
       exact .string _)
theorem casked_flat {op : BinOp} {b : Bool} {v : Value} (hx : casked op b = some v) : VR ρ v v := by
  unfold casked at hx
  cases op <;> simp only [Option.some.injEq, reduceCtorEq] at hx <;> (subst hx; exact .bool _)
theorem cbinP_of {op : BinOp} {t : TypeId} {a b a' b' v : Value} (ha : VR ρ a a') (hb : VR ρ b b') (hx : cbinP C.P op t a b = some v) (hk : kk v L K h) : xbinP C.P op t a' b' kk L K h ∧ VR ρ v v := by
  unfold cbinP at hx
  split at hx
  · cases ha; cases hb
    obtain ⟨h1, h2⟩ := chk_iff.1 hx
    simp only [Bool.and_eq_true, Bool.not_eq_true', decide_eq_true_eq] at h1
    obtain ⟨h1, rfl⟩ := h1
    unfold xbinP
    simp only [h1, decide_true]
    exact ⟨cint_of h2 hk, cint_flat h2⟩
  · cases ha; cases hb
    exact ⟨cstr_of hx hk, cstr_flat hx⟩
  · cases ha; cases hb
    obtain ⟨h1, h2⟩ := chk_iff.1 hx
    unfold isBoolD at h1
    split at h1 <;> first | (cases h1; done) | skip
    rename_i hd
    unfold xbinP
    simp only [hd]
    exact ⟨casked_of h2 hk, casked_flat h2⟩
  · obtain ⟨h1, h2⟩ := chk_iff.1 hx
    unfold isPtrD at h1
    split at h1 <;> first | (cases h1; done) | skip
    rename_i hd
    refine ⟨?_, casked_flat h2⟩
    cases ha <;> cases hb <;> (unfold xbinP; simp only [hd]; exact casked_of h2 hk)
  · obtain ⟨h1, h2⟩ := chk_iff.1 hx
    unfold isSlD at h1
    split at h1 <;> first | (cases h1; done) | skip
    rename_i hd
    refine ⟨?_, casked_flat h2⟩
    cases ha <;> cases hb <;> (unfold xbinP; simp only [hd]; exact casked_of h2 hk)
  · cases hx
theorem cun_of {op : UnOp} {a a' v : Value} (ha : VR ρ a a') (hx : cun op a = some v) (hk : kk v L K h) : xun op a' kk L K h ∧ VR ρ v v := by
  unfold cun at hx
  split at hx
  · cases ha; cases hx; exact ⟨hk, .int _ _⟩
  · cases ha; cases hx; exact ⟨hk, .bool _⟩
  · cases hx
theorem cconv_of {a d : TypeId} {x x' v : Value} (hx' : VR ρ x x') (hx : cconv C.P a d x = some v) (hk : kk v L K h) : xconv C.P a d x' kk L K h ∧ VR ρ v v := by
  unfold cconv at hx
  split at hx
  · rename_i h1 h2
    cases hx'; cases hx
    unfold xconv
    simp only [h1, h2]
    exact ⟨hk, .int _ _⟩
  · rename_i h1 h2
    cases hx'; cases hx
    unfold xconv
    simp only [h1, h2]
    exact ⟨hk, .string _⟩
  · cases hx
end
end Go.Sx.Cr
