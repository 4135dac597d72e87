/- Trees of functions, each checked by the kernel against the code. No condition. -/
import Derived.Test.YtgnhjkofpmchpaaGreatDoorVSxF
import Derived.Test.YtgnhjkofpmchpaaGreatDoorProg
import Derived.KernelRfl
set_option linter.unusedVariables false
set_option linter.unusedSimpArgs false
set_option linter.deprecated false
set_option maxRecDepth 100000
namespace Go.Sx
open Go.Proofs
def t_isa_At (n0:Int):T :=
 T.new [.string ⟨#[]⟩,.int .u8 0,vI 0] 112 <| fun a1 =>
 cond (decide (n0<(1:Int)))
 (T.stores a1 [.string ⟨#[]⟩,.int .u8 0,vI 0] <|
 T.loads a1 [.string,.int .u8,.int .i64] <| fun s2 n3 n4 =>
 T.ret (.tuple #[.agg #[.string s2,.int .u8 n3,vI n4],.bool false]))
 (cond (decide (n0>(43:Int)))
 (T.stores a1 [.string ⟨#[]⟩,.int .u8 0,vI 0] <|
 T.loads a1 [.string,.int .u8,.int .i64] <| fun s2 n3 n4 =>
 T.ret (.tuple #[.agg #[.string s2,.int .u8 n3,vI n4],.bool false]))
 (T.need (((0:Int)≤(IntKind.wrap .i64 (n0-(1:Int))))∧((IntKind.wrap .i64 (n0-(1:Int)))<(43:Int))) <|
 T.loads ((⟨0,0,none⟩:Addr).add ((Int.toNat (IntKind.wrap .i64 (n0-(1:Int))))*3)) [.string,.int .u8,.int .i64] <| fun s2 n3 n4 =>
 T.stores a1 [.string s2,.int .u8 n3,vI n4] <|
 T.loads a1 [.string,.int .u8,.int .i64] <| fun s5 n6 n7 =>
 T.ret (.tuple #[.agg #[.string s5,.int .u8 n6,vI n7],.bool true])))
theorem t_isa_At_eq (n0:Int):xfun Tryz.prog [] Tryz.f56 [vI n0]=t_isa_At n0:=by kernel_rfl
def t_isa_below (n0:Int) (n1:Int):T :=
 cond (decide (n0≥(0:Int)))
 (T.ret (.bool (decide (n0<n1))))
 (T.ret (.bool false))
theorem t_isa_below_eq (n0:Int) (n1:Int):xfun Tryz.prog [] Tryz.f103 [vI n0,vI n1]=t_isa_below n0 n1:=by kernel_rfl
def t_isa_Reaches (n0:Int) (n1:Int):T :=
 cond (n1==(1:Int))
 (T.ret (.bool (n0==(IntKind.wrap .i32 (IntKind.wrap .i8 n0)))))
 (cond (n1==(2:Int))
 (T.ret (.bool (n0==(IntKind.wrap .i32 (IntKind.wrap .i16 n0)))))
 (T.ret (.bool (n1==(4:Int)))))
theorem t_isa_Reaches_eq (n0:Int) (n1:Int):xfun Tryz.prog [] Tryz.f104 [.int .i32 n0,vI n1]=t_isa_Reaches n0 n1:=by kernel_rfl
def t_item_power (n0:Int):T :=
 cond (decide (n0≥(1:Int)))
 (cond (decide (n0≤(256:Int)))
 (T.ret (.bool ((IntKind.wrap .i64 (((BitVec.toNat ((BitVec.ofInt 64 n0) &&& (BitVec.ofInt 64 (IntKind.wrap .i64 (n0-(1:Int)))))):Nat):Int))==(0:Int))))
 (T.ret (.bool false)))
 (T.ret (.bool false))
theorem t_item_power_eq (n0:Int):xfun Tryz.prog [] Tryz.f36 [vI n0]=t_item_power n0:=by kernel_rfl
end Go.Sx
