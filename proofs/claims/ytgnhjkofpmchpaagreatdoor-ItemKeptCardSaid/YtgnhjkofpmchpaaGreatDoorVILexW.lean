/- Trees of functions, each checked by the kernel against the code. No condition. -/
import Derived.Test.YtgnhjkofpmchpaaGreatDoorVSxF
import Derived.Test.YtgnhjkofpmchpaaGreatDoorProg
import Derived.KernelRfl
set_option linter.unusedVariables false
set_option linter.unusedSimpArgs false
set_option linter.deprecated false
set_option maxRecDepth 100000
namespace Go.Sx
open Go.Proofs
def t_spandrelbook_Same_lex_Token_ (pp00:Option Addr) (ll00 cc00:Nat) (pp10:Option Addr) (ll10 cc10:Nat):T :=
 cond ((ll00:Int) != (ll10:Int))
 (T.ret (.bool false))
 (T.loop [(false,[.bool]),(false,[.int .i64])] [.bool false,vI 0] <| fun b2 n3 =>
 cond (decide (n3<(ll00:Int)))
 (T.need (((0:Int)≤n3)∧(n3<(ll00:Int))) <|
 T.osome pp00 <| fun a4 =>
 T.loads (a4.add ((Int.toNat n3)*4)) [.int .i64,.string,.int .u32,.int .i64] <| fun n5 s6 n7 n8 =>
 T.need (((0:Int)≤n3)∧(n3<(ll10:Int))) <|
 T.osome pp10 <| fun a9 =>
 T.loads (a9.add ((Int.toNat n3)*4)) [.int .i64,.string,.int .u32,.int .i64] <| fun n10 s11 n12 n13 =>
 T.sem Tryz.prog (Sx.cmpS (BinOp.neq) 57 (Operand.tmp 20) (Operand.tmp 24) (.agg #[vI n5,.string s6,.int .u32 n7,vI n8]) (.agg #[vI n10,.string s11,.int .u32 n12,vI n13])) false [(false,[.bool])] <| fun b14 =>
 cond b14
 (T.ret (.bool false))
 (T.again 0 [.bool b2,vI (IntKind.wrap .i64 (n3+(1:Int)))]))
 (T.ret (.bool true)))
theorem t_spandrelbook_Same_lex_Token__eq (pp00:Option Addr) (ll00 cc00:Nat) (pp10:Option Addr) (ll10 cc10:Nat):xfun Tryz.prog [] Tryz.f15 [.slice pp00 ll00 cc00,.slice pp10 ll10 cc10]=t_spandrelbook_Same_lex_Token_ pp00 ll00 cc00 pp10 ll10 cc10:=by kernel_rfl
end Go.Sx
