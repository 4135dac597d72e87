/- A framework of our own, part E: equality of structs whose cells are numbers, strings and Bools. No condition. -/
import Derived.Test.YtmdncdaladplkaaGreatDoorSxU
set_option linter.unusedVariables false
set_option linter.unusedSimpArgs false
set_option linter.deprecated false
namespace Go.Sx
section
variable {P : Program} {h : Hp}
/-- Equality of two plain cells. -/
def eqC : Value → Value → Bool
  | .int _ a, .int _ b => a == b
  | .string a, .string b => a == b
  | .bool a, .bool b => a == b
  | _, _ => false
def okC (d : TypeDesc) (x y : Value) : Bool :=
  match d, x, y with
  | .int _, .int k _, .int k' _ => decide (k = k')
  | .string, .string _, .string _ => true
  | .bool, .bool _, .bool _ => true
  | _, _, _ => false
theorem equalIn_cell {d : Nat} {t : TypeId} {dd : TypeDesc} {x y : Value} (ht : P.underlying t = some dd) (hc : okC dd x y = true) (K : Bool → Hp → Prop) : semW P (Op.equalIn (d + 1) t x y) h K = K (eqC x y) h := by
  unfold Op.equalIn
  rw [semW_bind', semW_underlying ht]
  cases dd <;> cases x <;> cases y <;> first | (simp [okC] at hc; done) | skip
  · rfl
  · simp only [okC, decide_eq_true_eq] at hc
    subst hc
    simp only [if_true]
    rfl
  · rfl
theorem part_cell {t : TypeId} (hb : isAggD P t = some false) {cs : Array Value} {off : Nat} {v : Value} (hv : cs[off]? = some v) (K : Value → Hp → Prop) : semW P (part t cs off) h K = K v h := by
  unfold part
  rw [semW_bind', semW_isAgg hb]
  simp only [Bool.false_eq_true, if_false, hv]
  rfl
/-- What a struct's fields must be. -/
def okF (P : Program) (xs ys : Array Value) (f : Field) : Bool :=
  match P.underlying f.type, xs[f.offset]?, ys[f.offset]? with
  | some d, some x, some y => okC d x y && (f.name != "_")
  | _, _, _ => false
def eqF (xs ys : Array Value) (f : Field) : Bool := eqC (xs[f.offset]?.getD .nilIface) (ys[f.offset]?.getD .nilIface)
theorem okF_spec {xs ys : Array Value} {f : Field} (h : okF P xs ys f = true) : ∃ dd x y, P.underlying f.type = some dd ∧ xs[f.offset]? = some x ∧ ys[f.offset]? = some y ∧ okC dd x y = true ∧ f.name ≠ "_" ∧ isAggD P f.type = some false := by
  unfold okF at h
  split at h
  · rename_i dd x y h1 h2 h3
    simp only [Bool.and_eq_true, bne_iff_ne] at h
    refine ⟨dd, x, y, h1, h2, h3, h.1, h.2, ?_⟩
    unfold isAggD
    rw [h1]
    have := h.1
    cases dd <;> first | rfl | (simp [okC] at this)
  · cases h
theorem equalIn_fields {d : Nat} {xs ys : Array Value} : ∀ (l : List Field), l.all (okF P xs ys) = true → ∀ (K : (Option Bool × Unit) → Hp → Prop),
    semW P (forIn l ((none, ()) : Option Bool × Unit) fun f __s =>
              if f.name ≠ "_" then do
                let __do_lift ← part f.type xs f.offset
                let __do_lift_1 ← part f.type ys f.offset
                let __do_lift ← Op.equalIn (d + 1) f.type __do_lift __do_lift_1
                if (!__do_lift) = true then pure (ForInStep.done ((some false, ()) : Option Bool × Unit))
                  else pure (ForInStep.yield (none, ()))
              else pure (ForInStep.yield (none, ()))) h K = K (if l.all (eqF xs ys) then (none, ()) else (some false, ())) h
  | [], _, K => rfl
  | f :: l, hl, K => by
    rw [List.all_cons, Bool.and_eq_true] at hl
    obtain ⟨dd, x, y, h1, h2, h3, h4, h5, h6⟩ := okF_spec hl.1
    rw [List.forIn_cons, semW_bind', if_pos h5, semW_bind', part_cell h6 h2, semW_bind', part_cell h6 h3, semW_bind', equalIn_cell h1 h4]
    have he : eqF xs ys f = eqC x y := by unfold eqF; rw [h2, h3]; rfl
    rw [List.all_cons, he]
    cases hq : eqC x y with
    | false => rfl
    | true =>
      simp only [Bool.not_true, Bool.false_eq_true, if_false, Bool.true_and]
      rw [semW_pure]
      exact equalIn_fields l hl.2 K
theorem equalIn_struct {d : Nat} {t : TypeId} {fs : Array Field} {xs ys : Array Value} (ht : P.underlying t = some (.struct fs)) (hst : P.stoodInHeld t = false) (hok : fs.all (okF P xs ys) = true) (K : Bool → Hp → Prop) :
    semW P (Op.equalIn (d + 2) t (.agg xs) (.agg ys)) h K = K (fs.all (eqF xs ys)) h := by
  unfold Op.equalIn
  rw [semW_bind', semW_underlying ht]
  simp only
  rw [semW_program]
  simp only [hst, Bool.false_eq_true, if_false]
  rw [semW_bind', ← Array.forIn_toList, equalIn_fields fs.toList (by rw [Array.all_toList]; exact hok), Array.all_toList]
  cases fs.all (eqF xs ys) <;> rfl
theorem eqGuard_struct {op : BinOp} {t : TypeId} {x y : Operand} {xs ys : Array Value} (hg : P.eqGuardType P.depth t = false) (K : Unit → Hp → Prop) (hk : K () h) : semW P (eqGuard op t x y (.agg xs) (.agg ys)) h K := by
  unfold eqGuard
  cases op <;> first
    | exact hk
    | (simp only [Bool.not_true, Bool.false_eq_true, if_false]
       show semW P (program >>= _) h K
       rw [semW_program, semW_program]
       simp only [hg, Bool.not_false, if_true]
       exact hk)
theorem equal_struct {t : TypeId} {fs : Array Field} {xs ys : Array Value} (ht : P.underlying t = some (.struct fs)) (hst : P.stoodInHeld t = false) (hok : fs.all (okF P xs ys) = true) (K : Bool → Hp → Prop) :
    semW P (Op.equal t (.agg xs) (.agg ys)) h K = K (fs.all (eqF xs ys)) h := equalIn_struct (d := 9998) ht hst hok K
theorem cmpS_neq {t : TypeId} {x y : Operand} {fs : Array Field} {xs ys : Array Value} (ht : P.underlying t = some (.struct fs)) (hst : P.stoodInHeld t = false) (hg : P.eqGuardType P.depth t = false) (hok : fs.all (okF P xs ys) = true) (K : Value → Hp → Prop) (hk : K (.bool !(fs.all (eqF xs ys))) h) :
    semW P (cmpS .neq t x y (.agg xs) (.agg ys)) h K := by
  unfold cmpS
  rw [semW_bind']
  refine eqGuard_struct hg _ ?_
  unfold binOp
  simp only
  first
    | (rw [semW_bind', equal_struct ht hst hok]; exact hk)
    | trace_state
theorem cmpS_eql {t : TypeId} {x y : Operand} {fs : Array Field} {xs ys : Array Value} (ht : P.underlying t = some (.struct fs)) (hst : P.stoodInHeld t = false) (hg : P.eqGuardType P.depth t = false) (hok : fs.all (okF P xs ys) = true) (K : Value → Hp → Prop) (hk : K (.bool (fs.all (eqF xs ys))) h) :
    semW P (cmpS .eql t x y (.agg xs) (.agg ys)) h K := by
  unfold cmpS
  rw [semW_bind']
  refine eqGuard_struct hg _ ?_
  unfold binOp
  simp only
  first
    | (rw [semW_bind', equal_struct ht hst hok]; exact hk)
    | trace_state
end
end Go.Sx
