/- Trees of functions, each checked by the kernel against the code. No condition. -/
import Derived.Test.YtnjohginlglonaaGreatDoorProg
import Derived.Test.YtnjohginlglonaaGreatDoorChecked
import Derived.WalkKit
import Derived.LaidEql
import Derived.Stop.Asserts
import Derived.RowKitTokens
set_option linter.unusedVariables false
set_option linter.unusedSimpArgs false
set_option linter.deprecated false
set_option maxRecDepth 100000
namespace Go.Proofs.YtnjohginlglonaaGreatDoor
open Go.RowKit Go.Extern.Stop Go.Stop Go.Extern
theorem isTypeOf (v : Value) (w : World) : (Extern.ReflectliteType.typeOf #[.iface 48 v]).run Tryz.prog w = .ok (.iface 143 (.agg #[.pointer (some ⟨5, 48, none⟩)])) w := by kernel_rfl
theorem isComparable (w : World) : ((Extern.ReflectliteType.method fun t => do Extern.Rtype.noPackHeld "Comparable" t; (fun a => Value.bool a.comparable) <$> typeInfo t) #[.agg #[.pointer (some ⟨5, 48, none⟩)]]).run Tryz.prog w = .ok (.bool true) w := by kernel_rfl
theorem isMethodComparable (v : Value) (w : World) : (Go.method 319 143 v "Comparable").run Tryz.prog w = .ok (138, v) w := by kernel_rfl
theorem noIsR (v : Value) (xT : TypeId) (w : World) : (Instr.typeAssert (.iface 57 v) xT 145 true).run Tryz.prog w = .ok (.tuple #[.nilIface, .bool false]) w := run_typeAssert_lacksB Tryz.underlying145 (by kernel_rfl) (by kernel_rfl) v xT w
theorem noIsN (v : Value) (xT : TypeId) (w : World) : (Instr.typeAssert (.iface 48 v) xT 145 true).run Tryz.prog w = .ok (.tuple #[.nilIface, .bool false]) w := run_typeAssert_lacksB Tryz.underlying145 (by kernel_rfl) (by kernel_rfl) v xT w
theorem hasUnwrapR (v : Value) (xT : TypeId) (w : World) : (Instr.typeAssert (.iface 57 v) xT 148 true).run Tryz.prog w = .ok (.tuple #[.iface 57 v, .bool true]) w := run_typeAssert_hasB Tryz.underlying148 (by kernel_rfl) v xT w
theorem methodUnwrap (v : Value) (w : World) : (Go.method 319 57 v "Unwrap").run Tryz.prog w = .ok (29, v) w := by kernel_rfl
theorem eqN' (n m : Int) (w : World) : (binOp .eql 30 (.iface 48 (.int .i64 n)) (.iface 48 (.int .i64 m))).run Tryz.prog w = .ok (.bool (n == m)) w := by kernel_rfl
theorem eqN (n : Int) (w : World) : (binOp .eql 30 (.iface 48 (.int .i64 n)) (.iface 48 (.int .i64 n))).run Tryz.prog w = .ok (.bool true) w := by rw [eqN']; simp
theorem errorsIs (a : Nat) (n : Int) (w : World) (h1 : w.cell? ⟨a, 0 + 1, none⟩ = some (.int .i64 n)) :
    Calls Tryz.prog 30 #[.iface 57 (.pointer (some ⟨a, 0, none⟩)), .iface 48 (.int .i64 n)] w fun e w' => e = .returned (.bool true) ∧ w' = w := by
  have h8 := @run_callFunc_extern Tryz.prog 64 _ Extern.ReflectliteType.typeOf Tryz.func64 (by kernel_rfl) (by kernel_rfl) (by kernel_rfl) (by kernel_rfl)
  have h32 := @run_callFunc_extern Tryz.prog 138 _ (Extern.ReflectliteType.method fun t => do Extern.Rtype.noPackHeld "Comparable" t; pure (.bool (← typeInfo t).comparable)) Tryz.func138 (by kernel_rfl) (by kernel_rfl) (by kernel_rfl) (by kernel_rfl)
  have tT := isTypeOf
  have cT := isComparable
  have mR := isMethodComparable
  have nE := noIsR
  have nW := noIsN
  have uW := hasUnwrapR
  have mU := methodUnwrap
  have heq := eqN n w
  have hty := run_eql_iface_types (P := Tryz.prog) 57 48 (.pointer (some ⟨a, 0, none⟩)) (.int .i64 n) Tryz.underlying30 (by decide) w
  go_enter Tryz.func30, Tryz.ntmps30
  go_wp2
  refine wp_loop_rounds 2 ?_
  rw [rounds_succ]
  go_wp2
  rw [rounds_succ]
  go_wp2
  go_ret
  exact ⟨rfl, rfl⟩
end Go.Proofs.YtnjohginlglonaaGreatDoor
