/- Trees of functions, each checked by the kernel against the code. No condition. -/
import Derived.Test.YtgnhjkofpmchpaaGreatDoorSxF
import Derived.Test.YtgnhjkofpmchpaaGreatDoorProg
import Derived.KernelRfl
set_option linter.unusedVariables false
set_option linter.unusedSimpArgs false
set_option linter.deprecated false
set_option maxRecDepth 100000
namespace Go.Sx
open Go.Proofs
def t_item_Right_up (j:Nat) (k:Int) (s:ByteArray) (o:Int) (a:Int) (b:Int) (n:Int) (f:Int) (p:Option Addr) (l:Nat) (c:Nat) (m:Int) (q:Int):T :=
 T.new [vI k,.string s,vI o,vI a,vI b,.int .i32 n,vI f,.slice p l c,.int .u32 m,vI q] 54 <| fun a1 =>
 T.ret (vI 1)
theorem t_item_Right_up_eq (j:Nat) (k:Int) (s:ByteArray) (o:Int) (a:Int) (b:Int) (n:Int) (f:Int) (p:Option Addr) (l:Nat) (c:Nat) (m:Int) (q:Int):xfun Tryz.prog [] Tryz.f19 [.agg #[vI k,.string s,vI o,vI a,vI b,.int .i32 n,vI f,.slice p l c,.int .u32 m,vI q],vI (((j+2):Nat):Int)]=t_item_Right_up j k s o a b n f p l c m q:=by kernel_rfl
def t_item_Right_dn (j:Nat) (k:Int) (s:ByteArray) (o:Int) (a:Int) (b:Int) (n:Int) (f:Int) (p:Option Addr) (l:Nat) (c:Nat) (m:Int) (q:Int):T :=
 T.new [vI k,.string s,vI o,vI a,vI b,.int .i32 n,vI f,.slice p l c,.int .u32 m,vI q] 54 <| fun a1 =>
 T.ret (vI 1)
theorem t_item_Right_dn_eq (j:Nat) (k:Int) (s:ByteArray) (o:Int) (a:Int) (b:Int) (n:Int) (f:Int) (p:Option Addr) (l:Nat) (c:Nat) (m:Int) (q:Int):xfun Tryz.prog [] Tryz.f19 [.agg #[vI k,.string s,vI o,vI a,vI b,.int .i32 n,vI f,.slice p l c,.int .u32 m,vI q],vI (Int.negSucc j)]=t_item_Right_dn j k s o a b n f p l c m q:=by kernel_rfl
def t_spandrelref8_Right_up (j:Nat) (k:Int) (s:ByteArray) (o:Int) (a:Int) (b:Int) (n:Int) (f:Int) (p:Option Addr) (l:Nat) (c:Nat) (m:Int) (q:Int):T :=
 T.new [vI k,.string s,vI o,vI a,vI b,.int .i32 n,vI f,.slice p l c,.int .u32 m,vI q] 54 <| fun a1 =>
 T.ret (vI 1)
theorem t_spandrelref8_Right_up_eq (j:Nat) (k:Int) (s:ByteArray) (o:Int) (a:Int) (b:Int) (n:Int) (f:Int) (p:Option Addr) (l:Nat) (c:Nat) (m:Int) (q:Int):xfun Tryz.prog [] Tryz.f20 [.agg #[vI k,.string s,vI o,vI a,vI b,.int .i32 n,vI f,.slice p l c,.int .u32 m,vI q],vI (((j+2):Nat):Int)]=t_spandrelref8_Right_up j k s o a b n f p l c m q:=by kernel_rfl
def t_spandrelref8_Right_dn (j:Nat) (k:Int) (s:ByteArray) (o:Int) (a:Int) (b:Int) (n:Int) (f:Int) (p:Option Addr) (l:Nat) (c:Nat) (m:Int) (q:Int):T :=
 T.new [vI k,.string s,vI o,vI a,vI b,.int .i32 n,vI f,.slice p l c,.int .u32 m,vI q] 54 <| fun a1 =>
 T.ret (vI 1)
theorem t_spandrelref8_Right_dn_eq (j:Nat) (k:Int) (s:ByteArray) (o:Int) (a:Int) (b:Int) (n:Int) (f:Int) (p:Option Addr) (l:Nat) (c:Nat) (m:Int) (q:Int):xfun Tryz.prog [] Tryz.f20 [.agg #[vI k,.string s,vI o,vI a,vI b,.int .i32 n,vI f,.slice p l c,.int .u32 m,vI q],vI (Int.negSucc j)]=t_spandrelref8_Right_dn j k s o a b n f p l c m q:=by kernel_rfl
end Go.Sx
