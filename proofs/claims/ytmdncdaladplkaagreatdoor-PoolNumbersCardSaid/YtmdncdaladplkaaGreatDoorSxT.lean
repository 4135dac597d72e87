/- A framework of our own, part T: trees: what a body of code asks for, step by step. No condition. -/
import Derived.Test.YtmdncdaladplkaaGreatDoorSxS
set_option linter.unusedVariables false
set_option linter.unusedSimpArgs false
set_option linter.deprecated false
namespace Go.Sx

/-- What holds at the heads of the loops round a place, the outermost first. -/
abbrev Lp := List (List Value → Hp → Prop)
def T := Lp → (Value → Hp → Prop) → Hp → Prop
def cellsAt (h : Hp) (a : Addr) : Nat → List Value → Prop
  | _, [] => True
  | i, v :: vs => hcell h (a.add i) = some v ∧ cellsAt h a (i + 1) vs
def canSt (h : Hp) (a : Addr) : Nat → List Value → Prop
  | _, [] => True
  | i, v :: vs => plainV v = true ∧ (∃ u, hcell h (a.add i) = some u) ∧ hfrozen h (a.add i) = false ∧ canSt (hset h (a.add i) v) a (i + 1) vs
def hsets (h : Hp) (a : Addr) : Nat → List Value → Hp
  | _, [] => h
  | i, v :: vs => hsets (hset h (a.add i) v) a (i + 1) vs
namespace T
def ret (v : Value) : T := fun _ K h => K v h
def fail : T := fun _ _ _ => False
def need (p : Prop) (t : T) : T := fun L K h => p ∧ t L K h
def loads (a : Addr) (ds : List TypeDesc) (k : Cur ds T) : T := fun L K h =>
  ∃ x : HVs ds, cellsAt h a 0 (hvs ds x) ∧ unc ds k x L K h
def stores (a : Addr) (vs : List Value) (k : T) : T := fun L K h =>
  canSt h a 0 vs ∧ k L K (hsets h a 0 vs)
def new (cells : List Value) (e : TypeId) (k : Addr → T) : T := fun L K h => k ⟨h.size, 0, none⟩ L K (h.push (.cells cells.toArray e))
def call (P : Program) (f : FuncId) (args : List Value) (tup : Bool) (cs : List Comp) (k : Cur (flat cs) T) : T := fun L K h =>
  HC P f args.toArray h fun v h' => ∃ x : HVs (flat cs), v = rv tup cs (hvs _ x) ∧ unc _ k x L K h'
def callv (P : Program) (g : Value) (args : List Value) (tup : Bool) (cs : List Comp) (k : Cur (flat cs) T) : T := fun L K h =>
  ∃ f first cap, g = .func (.func f) first cap ∧ (call P f (first.toList ++ args ++ cap.toList) tup cs k) L K h ∧ ∃ fn, P.funcs[f]? = some fn ∧ fn.body.isSome = true ∧ fn.name ≠ "runtime.NumGoroutine"
def sem (P : Program) (s : Sem Value) (tup : Bool) (cs : List Comp) (k : Cur (flat cs) T) : T := fun L K h =>
  semW P s h fun v h' => ∃ x : HVs (flat cs), v = rv tup cs (hvs _ x) ∧ unc _ k x L K h'
def semU (P : Program) (s : Sem Unit) (k : T) : T := fun L K h => semW P s h fun _ h' => k L K h'
def next (P : Program) (s : Sem Value) (cs : List Comp) (k0 : T) (k1 : Cur (flat cs) T) : T := fun L K h =>
  semW P s h fun v h' => (v = .tuple #[.bool false] ∧ k0 L K h') ∨ ∃ x : HVs (flat cs), v = .tuple (.bool true :: parts cs (hvs _ x)).toArray ∧ unc _ k1 x L K h'
def loop (cs : List Comp) (init : List Value) (body : Cur (flat cs) T) : T := fun L K h =>
  ∃ I : HVs (flat cs) → Nat → Hp → Prop, (∃ x n, init = parts cs (hvs _ x) ∧ I x n h) ∧
    ∀ x n h', I x n h' → unc _ body x (L ++ [fun vs h'' => ∃ m, m < n ∧ ∃ y, vs = parts cs (hvs _ y) ∧ I y m h'']) K h'
def join (cs : List Comp) (first : T) (after : Cur (flat cs) T) : T := fun L K h =>
  ∃ J : HVs (flat cs) → Hp → Prop, first (L ++ [fun vs h' => ∃ y, vs = parts cs (hvs _ y) ∧ J y h']) K h ∧ ∀ y h', J y h' → unc _ after y L K h'
def again (lv : Nat) (vs : List Value) : T := fun L _ h =>
  match L[lv]? with
  | some J => J vs h
  | none => False
def stab (h : Hp) : List (Addr × List Value) → Prop
  | [] => True
  | p :: l => cellsAt h p.1 0 p.2 ∧ stab h l
def stable (l : List (Addr × List Value)) (t : T) : T := fun L K h => stab h l ∧ t L K h
def every (L : Lp) (K : Value → Hp → Prop) (h : Hp) : List T → Prop
  | [] => True
  | t :: ts => t L K h ∧ every L K h ts
def all (ts : List T) : T := fun L K h => every L K h ts
end T
end Go.Sx
