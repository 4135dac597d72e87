/- Trees of functions, each checked by the kernel against the code. No condition. -/
import Derived.Test.YtnjohginlglonaaDoorProg
import Derived.Test.YtnjohginlglonaaDoorChecked
import Derived.WalkKit
import Derived.LaidEql
import Derived.Stop.Asserts
import Derived.RowKitTokens
set_option linter.unusedVariables false
set_option linter.unusedSimpArgs false
set_option linter.deprecated false
set_option maxRecDepth 100000
namespace Go.Proofs.YtnjohginlglonaaDoor
open Go.RowKit Go.Extern.Stop Go.Stop Go.Extern
theorem isTypeOf (v : Value) (w : World) : (Extern.ReflectliteType.typeOf #[.iface 23 v]).run Tryd.prog w = .ok (.iface 115 (.agg #[.pointer (some ⟨5, 23, none⟩)])) w := by kernel_rfl
theorem isComparable (w : World) : ((Extern.ReflectliteType.method fun t => do Extern.Rtype.noPackHeld "Comparable" t; (fun a => Value.bool a.comparable) <$> typeInfo t) #[.agg #[.pointer (some ⟨5, 23, none⟩)]]).run Tryd.prog w = .ok (.bool true) w := by kernel_rfl
theorem isMethodComparable (v : Value) (w : World) : (Go.method 282 115 v "Comparable").run Tryd.prog w = .ok (100, v) w := by kernel_rfl
theorem isComp : (Tryd.prog.info? 23).map (·.comparable) = some true := by kernel_rfl
theorem noIsR (v : Value) (xT : TypeId) (w : World) : (Instr.typeAssert (.iface 60 v) xT 117 true).run Tryd.prog w = .ok (.tuple #[.nilIface, .bool false]) w := run_typeAssert_lacksB Tryd.underlying117 (by kernel_rfl) (by kernel_rfl) v xT w
theorem noIsN (v : Value) (xT : TypeId) (w : World) : (Instr.typeAssert (.iface 23 v) xT 117 true).run Tryd.prog w = .ok (.tuple #[.nilIface, .bool false]) w := run_typeAssert_lacksB Tryd.underlying117 (by kernel_rfl) (by kernel_rfl) v xT w
theorem hasUnwrapR (v : Value) (xT : TypeId) (w : World) : (Instr.typeAssert (.iface 60 v) xT 120 true).run Tryd.prog w = .ok (.tuple #[.iface 60 v, .bool true]) w := run_typeAssert_hasB Tryd.underlying120 (by kernel_rfl) v xT w
theorem methodUnwrap (v : Value) (w : World) : (Go.method 282 60 v "Unwrap").run Tryd.prog w = .ok (22, v) w := by kernel_rfl
theorem eqN' (n m : Int) (w : World) : (binOp .eql 32 (.iface 23 (.int .i64 n)) (.iface 23 (.int .i64 m))).run Tryd.prog w = .ok (.bool (n == m)) w := by kernel_rfl
theorem eqN (n : Int) (w : World) : (binOp .eql 32 (.iface 23 (.int .i64 n)) (.iface 23 (.int .i64 n))).run Tryd.prog w = .ok (.bool true) w := by rw [eqN']; simp
theorem is_refusal (a : Nat) (n : Int) (w : World) (h1 : w.cell? ⟨a, 0 + 1, none⟩ = some (.int .i64 n)) :
    Calls Tryd.prog 44 #[.iface 60 (.pointer (some ⟨a, 0, none⟩)), .iface 23 (.int .i64 n), .bool true] w fun e w' => e = .returned (.bool true) ∧ w' = w := by
  have nE := noIsR
  have nW := noIsN
  have uW := hasUnwrapR
  have mU := methodUnwrap
  have heq := eqN n w
  have hty := run_eql_iface_types (P := Tryd.prog) 60 23 (.pointer (some ⟨a, 0, none⟩)) (.int .i64 n) Tryd.underlying32 (by decide) w
  go_enter Tryd.func44, Tryd.ntmps44
  go_wp2
  refine wp_loop_rounds 2 ?_
  rw [rounds_succ]
  go_wp2
  rw [rounds_succ]
  go_wp2
  go_ret
  exact ⟨rfl, rfl⟩
theorem errorsIs (a : Nat) (n : Int) (w : World) (h1 : w.cell? ⟨a, 0 + 1, none⟩ = some (.int .i64 n)) :
    Calls Tryd.prog 23 #[.iface 60 (.pointer (some ⟨a, 0, none⟩)), .iface 23 (.int .i64 n)] w fun e w' => e = .returned (.bool true) ∧ w' = w := by
  have h8 := @run_callFunc_extern Tryd.prog 43 _ Extern.ReflectliteType.typeOf Tryd.func43 (by kernel_rfl) (by kernel_rfl) (by kernel_rfl) (by kernel_rfl)
  have h32 := @run_callFunc_extern Tryd.prog 100 _ (Extern.ReflectliteType.method fun t => do Extern.Rtype.noPackHeld "Comparable" t; pure (.bool (← typeInfo t).comparable)) Tryd.func100 (by kernel_rfl) (by kernel_rfl) (by kernel_rfl) (by kernel_rfl)
  have tT := isTypeOf
  have cT := isComparable
  have mR := isMethodComparable
  have nE := noIsR
  have nW := noIsN
  have uW := hasUnwrapR
  have mU := methodUnwrap
  have heq := eqN n w
  have hty := run_eql_iface_types (P := Tryd.prog) 60 23 (.pointer (some ⟨a, 0, none⟩)) (.int .i64 n) Tryd.underlying32 (by decide) w
  go_enter Tryd.func23, Tryd.ntmps23
  go_wp2
  refine wp_loop_rounds 2 ?_
  rw [rounds_succ]
  go_wp2
  rw [rounds_succ]
  go_wp2
  go_ret
  exact ⟨rfl, rfl⟩
end Go.Proofs.YtnjohginlglonaaDoor
