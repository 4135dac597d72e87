/- A framework of our own, part S: shapes of values. No condition. -/
import Derived.Test.YtmdncdaladplkaaGreatDoorSxA
set_option linter.unusedVariables false
set_option linter.unusedSimpArgs false
set_option linter.deprecated false
namespace Go.Sx

/-- What a cell of a type holds, as plain data. -/
def Sv : TypeDesc → Type
  | .bool => Bool
  | .int _ => Int
  | .string => ByteArray
  | .pointer _ => Option Addr
  | .slice _ => Option Addr × Nat × Nat
  | .map _ _ => Option Nat
  | _ => Value
def sval (d : TypeDesc) (x : Sv d) : Value := by
  cases d with
  | bool => exact .bool x
  | int k => exact .int k x
  | string => exact .string x
  | pointer e => exact .pointer x
  | slice e => exact .slice x.1 x.2.1 x.2.2
  | map a b => exact .map x
  | _ => exact x
def Cur1 (d : TypeDesc) (R : Type) : Type :=
  match d with
  | .bool => Bool → R
  | .int _ => Int → R
  | .string => ByteArray → R
  | .pointer _ => Option Addr → R
  | .slice _ => Option Addr → Nat → Nat → R
  | .map _ _ => Option Nat → R
  | _ => Value → R
def cur1 (d : TypeDesc) {R : Type} (f : Sv d → R) : Cur1 d R := by
  cases d with
  | slice e => exact fun p l c => f (p, l, c)
  | _ => exact f
def unc1 (d : TypeDesc) {R : Type} (f : Cur1 d R) (x : Sv d) : R := by
  cases d with
  | slice e => exact f x.1 x.2.1 x.2.2
  | _ => exact f x
theorem unc1_cur1 (d : TypeDesc) {R : Type} (f : Sv d → R) (x : Sv d) : unc1 d (cur1 d f) x = f x := by
  cases d <;> rfl

def HVs : List TypeDesc → Type
  | [] => Unit
  | d :: ds => Sv d × HVs ds
def hvs : (ds : List TypeDesc) → HVs ds → List Value
  | [], _ => []
  | d :: ds, x => sval d x.1 :: hvs ds x.2
def Cur : List TypeDesc → Type → Type
  | [], R => R
  | d :: ds, R => Cur1 d (Cur ds R)
/-- A function of the cells' values, as a function of their data, one by one. -/
def cur : (ds : List TypeDesc) → {R : Type} → (List Value → R) → Cur ds R
  | [], _, f => f []
  | d :: ds, _, f => cur1 d fun x => cur ds fun l => f (sval d x :: l)
def unc : (ds : List TypeDesc) → {R : Type} → Cur ds R → HVs ds → R
  | [], _, f, _ => f
  | d :: ds, _, f, x => unc ds (unc1 d f x.1) x.2
theorem unc_cur : ∀ (ds : List TypeDesc) {R : Type} (f : List Value → R) (x : HVs ds), unc ds (cur ds f) x = f (hvs ds x)
  | [], _, _, _ => rfl
  | d :: ds, _, f, x => by
    simp only [cur, unc, hvs, unc1_cur1]
    exact unc_cur ds _ x.2
theorem hvs_length : ∀ (ds : List TypeDesc) (x : HVs ds), (hvs ds x).length = ds.length
  | [], _ => rfl
  | d :: ds, x => by simp [hvs, hvs_length ds x.2]

/-- One part of a result, or one slot: is it a struct or an array; its cells. -/
abbrev Comp := Bool × List TypeDesc
def flat : List Comp → List TypeDesc
  | [] => []
  | c :: cs => c.2 ++ flat cs
/-- The parts' values, out of all cells' values. -/
def parts : List Comp → List Value → List Value
  | [], _ => []
  | (true, ds) :: cs, l => .agg (l.take ds.length).toArray :: parts cs (l.drop ds.length)
  | (false, _) :: cs, l => l.headD undef :: parts cs l.tail
def rv (tup : Bool) (cs : List Comp) (l : List Value) : Value :=
  match tup with
  | true => .tuple (parts cs l).toArray
  | false => (parts cs l).headD undef
end Go.Sx
