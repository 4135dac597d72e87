/- Trees of functions, each checked by the kernel against the code. No condition. -/
import Derived.Test.YtfkjiiapldkoeaaGreatDoorSxF
import Derived.Test.YtfkjiiapldkoeaaGreatDoorProg
import Derived.KernelRfl
set_option linter.unusedVariables false
set_option linter.unusedSimpArgs false
set_option linter.deprecated false
set_option maxRecDepth 100000
namespace Go.Sx
open Go.Proofs
def jf (a:Int) (b:Int) (c:Int) (d:Int) (e:Int):T :=
 T.new [vI a,vI b,vI c,.int .i32 d,vI e] 90 fun f =>
 T.ae (f.add 1) [.int .i64] fun g =>
 cond (g==(0:Int))
 (T.ae (f.add 2) [.int .i64] fun h =>
 T.ret (.bool (h==(0:Int))))
 (T.ret (.bool false))
theorem mg (a:Int) (b:Int) (c:Int) (d:Int) (e:Int):aX Tryz.prog [] Tryz.f143 [.agg #[vI a,vI b,vI c,.int .i32 d,vI e],vI 1]=jf a b c d e:=by kernel_rfl
def jD (a:Int) (b:Int) (c:Int) (d:Int) (e:Int):T :=
 T.new [vI a,vI b,vI c,.int .i32 d,vI e] 90 fun f =>
 T.ae (f.add 1) [.int .i64] fun g =>
 T.call Tryz.prog 172 [vI g,vI 8] false [(false,[.bool])] fun h =>
 cond h
 (T.ae (f.add 2) [.int .i64] fun i =>
 T.ret (.bool (i==(0:Int))))
 (T.ret (.bool false))
theorem mf (a:Int) (b:Int) (c:Int) (d:Int) (e:Int):aX Tryz.prog [] Tryz.f143 [.agg #[vI a,vI b,vI c,.int .i32 d,vI e],vI 2]=jD a b c d e:=by kernel_rfl
def ji (a:Int) (b:Int) (c:Int) (d:Int) (e:Int):T :=
 T.new [vI a,vI b,vI c,.int .i32 d,vI e] 90 fun f =>
 T.ae (f.add 1) [.int .i64] fun g =>
 T.call Tryz.prog 172 [vI g,vI 4] false [(false,[.bool])] fun h =>
 cond h
 (T.ae (f.add 2) [.int .i64] fun i =>
 T.ret (.bool (i==(0:Int))))
 (T.ret (.bool false))
theorem mv (a:Int) (b:Int) (c:Int) (d:Int) (e:Int):aX Tryz.prog [] Tryz.f143 [.agg #[vI a,vI b,vI c,.int .i32 d,vI e],vI 3]=ji a b c d e:=by kernel_rfl
def jA (a:Int) (b:Int) (c:Int) (d:Int) (e:Int):T :=
 T.new [vI a,vI b,vI c,.int .i32 d,vI e] 90 fun f =>
 T.ae (f.add 1) [.int .i64] fun g =>
 T.call Tryz.prog 172 [vI g,vI 8] false [(false,[.bool])] fun h =>
 cond h
 (T.ae (f.add 2) [.int .i64] fun i =>
 T.call Tryz.prog 172 [vI i,vI 8] false [(false,[.bool])] fun j =>
 T.ret (.bool j))
 (T.ret (.bool false))
theorem mr (a:Int) (b:Int) (c:Int) (d:Int) (e:Int):aX Tryz.prog [] Tryz.f143 [.agg #[vI a,vI b,vI c,.int .i32 d,vI e],vI 4]=jA a b c d e:=by kernel_rfl
def ja (a:Int) (b:Int) (c:Int) (d:Int) (e:Int):T :=
 T.new [vI a,vI b,vI c,.int .i32 d,vI e] 90 fun f =>
 T.ae (f.add 1) [.int .i64] fun g =>
 T.call Tryz.prog 172 [vI g,vI 4] false [(false,[.bool])] fun h =>
 cond h
 (T.ae (f.add 2) [.int .i64] fun i =>
 T.call Tryz.prog 172 [vI i,vI 4] false [(false,[.bool])] fun j =>
 T.ret (.bool j))
 (T.ret (.bool false))
theorem mj (a:Int) (b:Int) (c:Int) (d:Int) (e:Int):aX Tryz.prog [] Tryz.f143 [.agg #[vI a,vI b,vI c,.int .i32 d,vI e],vI 5]=ja a b c d e:=by kernel_rfl
def jx (a:Int) (b:Int) (c:Int) (d:Int) (e:Int):T :=
 T.new [vI a,vI b,vI c,.int .i32 d,vI e] 90 fun f =>
 T.ae (f.add 1) [.int .i64] fun g =>
 T.call Tryz.prog 172 [vI g,vI 8] false [(false,[.bool])] fun h =>
 cond h
 (T.ae (f.add 2) [.int .i64] fun i =>
 T.call Tryz.prog 172 [vI i,vI 4] false [(false,[.bool])] fun j =>
 T.ret (.bool j))
 (T.ret (.bool false))
theorem mF (a:Int) (b:Int) (c:Int) (d:Int) (e:Int):aX Tryz.prog [] Tryz.f143 [.agg #[vI a,vI b,vI c,.int .i32 d,vI e],vI 6]=jx a b c d e:=by kernel_rfl
def jr (a:Int) (b:Int) (c:Int) (d:Int) (e:Int):T :=
 T.new [vI a,vI b,vI c,.int .i32 d,vI e] 90 fun f =>
 T.ae (f.add 1) [.int .i64] fun g =>
 T.call Tryz.prog 172 [vI g,vI 4] false [(false,[.bool])] fun h =>
 cond h
 (T.ae (f.add 2) [.int .i64] fun i =>
 T.call Tryz.prog 172 [vI i,vI 8] false [(false,[.bool])] fun j =>
 cond j
 (T.ae (f.add 3) [.int .i32] fun k =>
 cond (decide (k≥(0:Int)))
 (T.ae (f.add 3) [.int .i32] fun l =>
 T.ret (.bool (decide (l<(8:Int)))))
 (T.ret (.bool false)))
 (T.ret (.bool false)))
 (T.ret (.bool false))
theorem mz (a:Int) (b:Int) (c:Int) (d:Int) (e:Int):aX Tryz.prog [] Tryz.f143 [.agg #[vI a,vI b,vI c,.int .i32 d,vI e],vI 7]=jr a b c d e:=by kernel_rfl
def iT (a:Int) (b:Int) (c:Int) (d:Int) (e:Int):T :=
 T.new [vI a,vI b,vI c,.int .i32 d,vI e] 90 fun f =>
 T.ae (f.add 1) [.int .i64] fun g =>
 T.call Tryz.prog 172 [vI g,vI 8] false [(false,[.bool])] fun h =>
 cond h
 (T.ae (f.add 2) [.int .i64] fun i =>
 T.ret (.bool (i==(0:Int))))
 (T.ret (.bool false))
theorem mu (a:Int) (b:Int) (c:Int) (d:Int) (e:Int):aX Tryz.prog [] Tryz.f143 [.agg #[vI a,vI b,vI c,.int .i32 d,vI e],vI 8]=iT a b c d e:=by kernel_rfl
def jz (a:Int) (b:Int) (c:Int) (d:Int) (e:Int):T :=
 T.new [vI a,vI b,vI c,.int .i32 d,vI e] 90 fun f =>
 T.ae (f.add 1) [.int .i64] fun g =>
 cond (g==(0:Int))
 (T.ae (f.add 2) [.int .i64] fun h =>
 T.ret (.bool (h==(0:Int))))
 (T.ret (.bool false))
theorem my (a:Int) (b:Int) (c:Int) (d:Int) (e:Int):aX Tryz.prog [] Tryz.f143 [.agg #[vI a,vI b,vI c,.int .i32 d,vI e],vI 9]=jz a b c d e:=by kernel_rfl
def iA (a:Int) (b:Int) (c:Int) (d:Int) (e:Int):T :=
 T.new [vI a,vI b,vI c,.int .i32 d,vI e] 90 fun f =>
 T.ae (f.add 1) [.int .i64] fun g =>
 T.call Tryz.prog 172 [vI g,vI 8] false [(false,[.bool])] fun h =>
 cond h
 (T.ae (f.add 2) [.int .i64] fun i =>
 T.ret (.bool (i==(0:Int))))
 (T.ret (.bool false))
theorem lh (a:Int) (b:Int) (c:Int) (d:Int) (e:Int):aX Tryz.prog [] Tryz.f143 [.agg #[vI a,vI b,vI c,.int .i32 d,vI e],vI 10]=iA a b c d e:=by kernel_rfl
def iv (a:Int) (b:Int) (c:Int) (d:Int) (e:Int):T :=
 T.new [vI a,vI b,vI c,.int .i32 d,vI e] 90 fun f =>
 T.ae (f.add 1) [.int .i64] fun g =>
 T.call Tryz.prog 172 [vI g,vI 8] false [(false,[.bool])] fun h =>
 cond h
 (T.ae (f.add 2) [.int .i64] fun i =>
 T.ret (.bool (i==(0:Int))))
 (T.ret (.bool false))
theorem ly (a:Int) (b:Int) (c:Int) (d:Int) (e:Int):aX Tryz.prog [] Tryz.f143 [.agg #[vI a,vI b,vI c,.int .i32 d,vI e],vI 11]=iv a b c d e:=by kernel_rfl
def ix (a:Int) (b:Int) (c:Int) (d:Int) (e:Int):T :=
 T.new [vI a,vI b,vI c,.int .i32 d,vI e] 90 fun f =>
 T.ae (f.add 1) [.int .i64] fun g =>
 cond (g==(0:Int))
 (T.ae (f.add 2) [.int .i64] fun h =>
 T.ret (.bool (h==(0:Int))))
 (T.ret (.bool false))
theorem lp (a:Int) (b:Int) (c:Int) (d:Int) (e:Int):aX Tryz.prog [] Tryz.f143 [.agg #[vI a,vI b,vI c,.int .i32 d,vI e],vI 12]=ix a b c d e:=by kernel_rfl
def ik (a:Int) (b:Int) (c:Int) (d:Int) (e:Int):T :=
 T.new [vI a,vI b,vI c,.int .i32 d,vI e] 90 fun f =>
 T.ae (f.add 1) [.int .i64] fun g =>
 T.call Tryz.prog 172 [vI g,vI 8] false [(false,[.bool])] fun h =>
 cond h
 (T.ae (f.add 2) [.int .i64] fun i =>
 T.ret (.bool (i==(0:Int))))
 (T.ret (.bool false))
theorem lm (a:Int) (b:Int) (c:Int) (d:Int) (e:Int):aX Tryz.prog [] Tryz.f143 [.agg #[vI a,vI b,vI c,.int .i32 d,vI e],vI 13]=ik a b c d e:=by kernel_rfl
def lZ (a:Int) (b:Int) (c:Int) (d:Int) (e:Int):T :=
 T.new [vI a,vI b,vI c,.int .i32 d,vI e] 90 fun f =>
 T.ae (f.add 3) [.int .i32] fun g =>
 T.ret (.bool (g==(0:Int)))
theorem pz (a:Int) (b:Int) (c:Int) (d:Int) (e:Int):aX Tryz.prog [] Tryz.f144 [.agg #[vI a,vI b,vI c,.int .i32 d,vI e],vI 1]=lZ a b c d e:=by kernel_rfl
def me (a:Int) (b:Int) (c:Int) (d:Int) (e:Int):T :=
 T.new [vI a,vI b,vI c,.int .i32 d,vI e] 90 fun f =>
 T.ae (f.add 3) [.int .i32] fun g =>
 T.ret (.bool (g==(0:Int)))
theorem pN (a:Int) (b:Int) (c:Int) (d:Int) (e:Int):aX Tryz.prog [] Tryz.f144 [.agg #[vI a,vI b,vI c,.int .i32 d,vI e],vI 2]=me a b c d e:=by kernel_rfl
def lM (a:Int) (b:Int) (c:Int) (d:Int) (e:Int):T :=
 T.new [vI a,vI b,vI c,.int .i32 d,vI e] 90 fun f =>
 T.ae (f.add 3) [.int .i32] fun g =>
 T.ret (.bool (g==(0:Int)))
theorem pZ (a:Int) (b:Int) (c:Int) (d:Int) (e:Int):aX Tryz.prog [] Tryz.f144 [.agg #[vI a,vI b,vI c,.int .i32 d,vI e],vI 3]=lM a b c d e:=by kernel_rfl
def lY (a:Int) (b:Int) (c:Int) (d:Int) (e:Int):T :=
 T.new [vI a,vI b,vI c,.int .i32 d,vI e] 90 fun f =>
 T.ae (f.add 3) [.int .i32] fun g =>
 T.ret (.bool (g==(0:Int)))
theorem pM (a:Int) (b:Int) (c:Int) (d:Int) (e:Int):aX Tryz.prog [] Tryz.f144 [.agg #[vI a,vI b,vI c,.int .i32 d,vI e],vI 4]=lY a b c d e:=by kernel_rfl
def lV (a:Int) (b:Int) (c:Int) (d:Int) (e:Int):T :=
 T.new [vI a,vI b,vI c,.int .i32 d,vI e] 90 fun f =>
 T.ae (f.add 3) [.int .i32] fun g =>
 T.ret (.bool (g==(0:Int)))
theorem pF (a:Int) (b:Int) (c:Int) (d:Int) (e:Int):aX Tryz.prog [] Tryz.f144 [.agg #[vI a,vI b,vI c,.int .i32 d,vI e],vI 5]=lV a b c d e:=by kernel_rfl
def lR (a:Int) (b:Int) (c:Int) (d:Int) (e:Int):T :=
 T.new [vI a,vI b,vI c,.int .i32 d,vI e] 90 fun f =>
 T.ae (f.add 3) [.int .i32] fun g =>
 T.ret (.bool (g==(0:Int)))
theorem qp (a:Int) (b:Int) (c:Int) (d:Int) (e:Int):aX Tryz.prog [] Tryz.f144 [.agg #[vI a,vI b,vI c,.int .i32 d,vI e],vI 6]=lR a b c d e:=by kernel_rfl
def lO (a:Int) (b:Int) (c:Int) (d:Int) (e:Int):T :=
 T.new [vI a,vI b,vI c,.int .i32 d,vI e] 90 fun f =>
 T.ret (.bool true)
theorem pO (a:Int) (b:Int) (c:Int) (d:Int) (e:Int):aX Tryz.prog [] Tryz.f144 [.agg #[vI a,vI b,vI c,.int .i32 d,vI e],vI 7]=lO a b c d e:=by kernel_rfl
def lP (a:Int) (b:Int) (c:Int) (d:Int) (e:Int):T :=
 T.new [vI a,vI b,vI c,.int .i32 d,vI e] 90 fun f =>
 T.ae (f.add 3) [.int .i32] fun g =>
 T.call Tryz.prog 173 [.int .i32 g,vI 1] false [(false,[.bool])] fun h =>
 T.ret (.bool h)
theorem qe (a:Int) (b:Int) (c:Int) (d:Int) (e:Int):aX Tryz.prog [] Tryz.f144 [.agg #[vI a,vI b,vI c,.int .i32 d,vI e],vI 8]=lP a b c d e:=by kernel_rfl
def lW (a:Int) (b:Int) (c:Int) (d:Int) (e:Int):T :=
 T.new [vI a,vI b,vI c,.int .i32 d,vI e] 90 fun f =>
 T.ae (f.add 3) [.int .i32] fun g =>
 cond (decide (g≥(0:Int)))
 (T.ae (f.add 3) [.int .i32] fun h =>
 T.ret (.bool (decide (h≤(255:Int)))))
 (T.ret (.bool false))
theorem pC (a:Int) (b:Int) (c:Int) (d:Int) (e:Int):aX Tryz.prog [] Tryz.f144 [.agg #[vI a,vI b,vI c,.int .i32 d,vI e],vI 9]=lW a b c d e:=by kernel_rfl
def kF (a:Int) (b:Int) (c:Int) (d:Int) (e:Int):T :=
 T.new [vI a,vI b,vI c,.int .i32 d,vI e] 90 fun f =>
 T.ret (.bool true)
theorem oU (a:Int) (b:Int) (c:Int) (d:Int) (e:Int):aX Tryz.prog [] Tryz.f144 [.agg #[vI a,vI b,vI c,.int .i32 d,vI e],vI 10]=kF a b c d e:=by kernel_rfl
def km (a:Int) (b:Int) (c:Int) (d:Int) (e:Int):T :=
 T.new [vI a,vI b,vI c,.int .i32 d,vI e] 90 fun f =>
 T.ae (f.add 3) [.int .i32] fun g =>
 cond (decide (g≥(0:Int)))
 (T.ae (f.add 3) [.int .i32] fun h =>
 T.ret (.bool (decide (h≤(4095:Int)))))
 (T.ret (.bool false))
theorem oE (a:Int) (b:Int) (c:Int) (d:Int) (e:Int):aX Tryz.prog [] Tryz.f144 [.agg #[vI a,vI b,vI c,.int .i32 d,vI e],vI 11]=km a b c d e:=by kernel_rfl
def kT (a:Int) (b:Int) (c:Int) (d:Int) (e:Int):T :=
 T.new [vI a,vI b,vI c,.int .i32 d,vI e] 90 fun f =>
 T.ae (f.add 3) [.int .i32] fun g =>
 T.ae (f.add 4) [.int .i64] fun h =>
 T.call Tryz.prog 173 [.int .i32 g,vI h] false [(false,[.bool])] fun i =>
 T.ret (.bool i)
theorem oH (a:Int) (b:Int) (c:Int) (d:Int) (e:Int):aX Tryz.prog [] Tryz.f144 [.agg #[vI a,vI b,vI c,.int .i32 d,vI e],vI 12]=kT a b c d e:=by kernel_rfl
def kD (a:Int) (b:Int) (c:Int) (d:Int) (e:Int):T :=
 T.new [vI a,vI b,vI c,.int .i32 d,vI e] 90 fun f =>
 T.ae (f.add 3) [.int .i32] fun g =>
 T.ae (f.add 4) [.int .i64] fun h =>
 T.call Tryz.prog 173 [.int .i32 g,vI h] false [(false,[.bool])] fun i =>
 T.ret (.bool i)
theorem oQ (a:Int) (b:Int) (c:Int) (d:Int) (e:Int):aX Tryz.prog [] Tryz.f144 [.agg #[vI a,vI b,vI c,.int .i32 d,vI e],vI 13]=kD a b c d e:=by kernel_rfl
def lL (a:Int) (b:ByteArray) (c:Int) (d:Int) (e:Int) (f:Int) (g:Int) (h:Option Addr) (i:Nat) (j:Nat) (k:Int) (l:Int):T :=
 T.new [vI a,.string b,vI c,vI d,vI e,.int .i32 f,vI g,.slice h i j,.int .u32 k,vI l] 96 fun m =>
 T.ae m [.int .i64] fun n =>
 T.new [vI 0,.string ⟨#[]⟩,vI 0,vI 0,vI 0,.int .i32 0,vI 0,.slice none 0 0,.int .u32 0,vI 0] 96 fun o =>
 T.ap o [vI n,.string ⟨#[]⟩,vI 0,vI 0,vI 0,.int .i32 0,vI 0,.slice none 0 0,.int .u32 0,vI 0] <|
 T.ae m [.int .i64] fun p =>
 cond (p==(1:Int))
 (T.ae (m.add 1) [.string] fun q =>
 T.ap (o.add 1) [.string q] <|
 T.ae (m.add 1) [.string] fun r =>
 T.call Tryz.prog 45 [.string r] false [(false,[.bool])] fun s =>
 cond (!s)
 (T.ret (vI 31))
 (T.ae (m.add 1) [.string] fun t =>
 T.ae (o.add 1) [.string] fun u =>
 cond (!((ByteArray.toList t)==(ByteArray.toList u)))
 (T.ret (vI 31))
 (T.ae (m.add 2) [.int .i64,.int .i64,.int .i64,.int .i32,.int .i64] fun v w x y z =>
 T.ae (o.add 2) [.int .i64,.int .i64,.int .i64,.int .i32,.int .i64] fun A B C D E =>
 T.aY Tryz.prog (Sx.bM (BinOp.neq) 90 (Operand.tmp 109) (Operand.tmp 111) (.agg #[vI v,vI w,vI x,.int .i32 y,vI z]) (.agg #[vI A,vI B,vI C,.int .i32 D,vI E])) false [(false,[.bool])] fun F =>
 cond F
 (T.ret (vI 31))
 (T.ae (m.add 9) [.int .i64] fun G =>
 T.ae (o.add 9) [.int .i64] fun H =>
 cond (G != H)
 (T.ret (vI 31))
 (T.ae (m.add 7) [.slice 109,.int .u32] fun I J K L =>
 T.ae (o.add 7) [.slice 109,.int .u32] fun M N O P =>
 T.call Tryz.prog 80 [.agg #[.slice I J K,.int .u32 L],.agg #[.slice M N O,.int .u32 P]] false [(false,[.bool])] fun Q =>
 cond (!Q)
 (T.ret (vI 31))
 (T.ret (vI 0)))))))
 (cond (p==(2:Int))
 (T.ae (m.add 2) [.int .i64,.int .i64,.int .i64,.int .i32,.int .i64] fun q r s t u =>
 T.ae (m.add 7) [.slice 109,.int .u32] fun v w x y =>
 T.ap (o.add 2) [vI q,vI r,vI s,.int .i32 t,vI u] <|
 T.aR [((m.add 7),[.slice v w x,.int .u32 y])] <|
 T.ap (o.add 7) [.slice v w x,.int .u32 y] <|
 T.ae m yI fun z A B C D E F G H I J K =>
 T.call Tryz.prog 78 [.agg #[vI z,.string A,vI B,vI C,vI D,.int .i32 E,vI F,.slice G H I,.int .u32 J,vI K]] false [(false,[.bool])] fun L =>
 cond (!L)
 (T.ret (vI 31))
 (T.ae (m.add 1) [.string] fun M =>
 T.ae (o.add 1) [.string] fun N =>
 cond (!((ByteArray.toList M)==(ByteArray.toList N)))
 (T.ret (vI 31))
 (T.ae (m.add 2) [.int .i64,.int .i64,.int .i64,.int .i32,.int .i64] fun O P Q R S =>
 T.ae (o.add 2) [.int .i64,.int .i64,.int .i64,.int .i32,.int .i64] fun U V W X Y =>
 T.aY Tryz.prog (Sx.bM (BinOp.neq) 90 (Operand.tmp 109) (Operand.tmp 111) (.agg #[vI O,vI P,vI Q,.int .i32 R,vI S]) (.agg #[vI U,vI V,vI W,.int .i32 X,vI Y])) false [(false,[.bool])] fun Z =>
 cond Z
 (T.ret (vI 31))
 (T.ae (m.add 9) [.int .i64] fun a0 =>
 T.ae (o.add 9) [.int .i64] fun a1 =>
 cond (a0 != a1)
 (T.ret (vI 31))
 (T.ae (m.add 7) [.slice 109,.int .u32] fun a2 a3 a4 a5 =>
 T.ae (o.add 7) [.slice 109,.int .u32] fun a6 a7 a8 a9 =>
 T.call Tryz.prog 80 [.agg #[.slice a2 a3 a4,.int .u32 a5],.agg #[.slice a6 a7 a8,.int .u32 a9]] false [(false,[.bool])] fun b0 =>
 cond (!b0)
 (T.ret (vI 31))
 (T.ret (vI 0)))))))
 (cond (p==(3:Int))
 (T.ae (m.add 9) [.int .i64] fun q =>
 T.ap (o.add 9) [vI q] <|
 T.ae (m.add 9) [.int .i64] fun r =>
 T.call Tryz.prog 79 [vI r] false [(false,[.bool])] fun s =>
 cond (!s)
 (T.ret (vI 31))
 (T.ae (m.add 1) [.string] fun t =>
 T.ae (o.add 1) [.string] fun u =>
 cond (!((ByteArray.toList t)==(ByteArray.toList u)))
 (T.ret (vI 31))
 (T.ae (m.add 2) [.int .i64,.int .i64,.int .i64,.int .i32,.int .i64] fun v w x y z =>
 T.ae (o.add 2) [.int .i64,.int .i64,.int .i64,.int .i32,.int .i64] fun A B C D E =>
 T.aY Tryz.prog (Sx.bM (BinOp.neq) 90 (Operand.tmp 109) (Operand.tmp 111) (.agg #[vI v,vI w,vI x,.int .i32 y,vI z]) (.agg #[vI A,vI B,vI C,.int .i32 D,vI E])) false [(false,[.bool])] fun F =>
 cond F
 (T.ret (vI 31))
 (T.ae (m.add 9) [.int .i64] fun G =>
 T.ae (o.add 9) [.int .i64] fun H =>
 cond (G != H)
 (T.ret (vI 31))
 (T.ae (m.add 7) [.slice 109,.int .u32] fun I J K L =>
 T.ae (o.add 7) [.slice 109,.int .u32] fun M N O P =>
 T.call Tryz.prog 80 [.agg #[.slice I J K,.int .u32 L],.agg #[.slice M N O,.int .u32 P]] false [(false,[.bool])] fun Q =>
 cond (!Q)
 (T.ret (vI 31))
 (T.ret (vI 0)))))))
 (cond (p==(4:Int))
 (T.ae (m.add 1) [.string] fun q =>
 T.ae (o.add 1) [.string] fun r =>
 cond (!((ByteArray.toList q)==(ByteArray.toList r)))
 (T.ret (vI 31))
 (T.ae (m.add 2) [.int .i64,.int .i64,.int .i64,.int .i32,.int .i64] fun s t u v w =>
 T.ae (o.add 2) [.int .i64,.int .i64,.int .i64,.int .i32,.int .i64] fun x y z A B =>
 T.aY Tryz.prog (Sx.bM (BinOp.neq) 90 (Operand.tmp 109) (Operand.tmp 111) (.agg #[vI s,vI t,vI u,.int .i32 v,vI w]) (.agg #[vI x,vI y,vI z,.int .i32 A,vI B])) false [(false,[.bool])] fun C =>
 cond C
 (T.ret (vI 31))
 (T.ae (m.add 9) [.int .i64] fun D =>
 T.ae (o.add 9) [.int .i64] fun E =>
 cond (D != E)
 (T.ret (vI 31))
 (T.ae (m.add 7) [.slice 109,.int .u32] fun F G H I =>
 T.ae (o.add 7) [.slice 109,.int .u32] fun J K L M =>
 T.call Tryz.prog 80 [.agg #[.slice F G H,.int .u32 I],.agg #[.slice J K L,.int .u32 M]] false [(false,[.bool])] fun N =>
 cond (!N)
 (T.ret (vI 31))
 (T.ret (vI 0))))))
 (cond (p==(5:Int))
 (T.ae (m.add 9) [.int .i64] fun q =>
 T.ap (o.add 9) [vI q] <|
 T.ret (vI 31))
 (cond (p==(6:Int))
 (T.ae (m.add 7) [.slice 109,.int .u32] fun q r s t =>
 T.ap (o.add 7) [.slice q r s,.int .u32 t] <|
 T.ret (vI 31))
 (cond (p==(7:Int))
 (T.ae (m.add 9) [.int .i64] fun q =>
 T.ap (o.add 9) [vI q] <|
 T.ret (vI 31))
 (T.ret (vI 31))))))))
theorem qg (a:Int) (b:ByteArray) (c:Int) (d:Int) (e:Int) (f:Int) (g:Int) (h:Option Addr) (i:Nat) (j:Nat) (k:Int) (l:Int):aX Tryz.prog [] Tryz.f44 [.agg #[vI a,.string b,vI c,vI d,vI e,.int .i32 f,vI g,.slice h i j,.int .u32 k,vI l],vI 0]=lL a b c d e f g h i j k l:=by kernel_rfl
def lU (a:Int) (b:ByteArray) (c:Int) (d:Int) (e:Int) (f:Int) (g:Int) (h:Option Addr) (i:Nat) (j:Nat) (k:Int) (l:Int):T :=
 T.new [vI a,.string b,vI c,vI d,vI e,.int .i32 f,vI g,.slice h i j,.int .u32 k,vI l] 96 fun m =>
 T.ae m [.int .i64] fun n =>
 T.new [vI 0,.string ⟨#[]⟩,vI 0,vI 0,vI 0,.int .i32 0,vI 0,.slice none 0 0,.int .u32 0,vI 0] 96 fun o =>
 T.ap o [vI n,.string ⟨#[]⟩,vI 0,vI 0,vI 0,.int .i32 0,vI 0,.slice none 0 0,.int .u32 0,vI 0] <|
 T.ae m [.int .i64] fun p =>
 cond (p==(1:Int))
 (T.ae (m.add 1) [.string] fun q =>
 T.ap (o.add 1) [.string q] <|
 T.ae (m.add 1) [.string] fun r =>
 T.call Tryz.prog 45 [.string r] false [(false,[.bool])] fun s =>
 cond (!s)
 (T.ret (vI 31))
 (T.ae (m.add 1) [.string] fun t =>
 T.ae (o.add 1) [.string] fun u =>
 cond (!((ByteArray.toList t)==(ByteArray.toList u)))
 (T.ret (vI 31))
 (T.ae (m.add 2) [.int .i64,.int .i64,.int .i64,.int .i32,.int .i64] fun v w x y z =>
 T.ae (o.add 2) [.int .i64,.int .i64,.int .i64,.int .i32,.int .i64] fun A B C D E =>
 T.aY Tryz.prog (Sx.bM (BinOp.neq) 90 (Operand.tmp 109) (Operand.tmp 111) (.agg #[vI v,vI w,vI x,.int .i32 y,vI z]) (.agg #[vI A,vI B,vI C,.int .i32 D,vI E])) false [(false,[.bool])] fun F =>
 cond F
 (T.ret (vI 31))
 (T.ae (m.add 9) [.int .i64] fun G =>
 T.ae (o.add 9) [.int .i64] fun H =>
 cond (G != H)
 (T.ret (vI 31))
 (T.ae (m.add 7) [.slice 109,.int .u32] fun I J K L =>
 T.ae (o.add 7) [.slice 109,.int .u32] fun M N O P =>
 T.call Tryz.prog 80 [.agg #[.slice I J K,.int .u32 L],.agg #[.slice M N O,.int .u32 P]] false [(false,[.bool])] fun Q =>
 cond (!Q)
 (T.ret (vI 31))
 (T.ret (vI 0)))))))
 (cond (p==(2:Int))
 (T.ae (m.add 2) [.int .i64,.int .i64,.int .i64,.int .i32,.int .i64] fun q r s t u =>
 T.ae (m.add 7) [.slice 109,.int .u32] fun v w x y =>
 T.ap (o.add 2) [vI q,vI r,vI s,.int .i32 t,vI u] <|
 T.aR [((m.add 7),[.slice v w x,.int .u32 y])] <|
 T.ap (o.add 7) [.slice v w x,.int .u32 y] <|
 T.ret (vI 31))
 (cond (p==(3:Int))
 (T.ae (m.add 9) [.int .i64] fun q =>
 T.ap (o.add 9) [vI q] <|
 T.ae (m.add 9) [.int .i64] fun r =>
 T.call Tryz.prog 79 [vI r] false [(false,[.bool])] fun s =>
 cond (!s)
 (T.ret (vI 31))
 (T.ae (m.add 1) [.string] fun t =>
 T.ae (o.add 1) [.string] fun u =>
 cond (!((ByteArray.toList t)==(ByteArray.toList u)))
 (T.ret (vI 31))
 (T.ae (m.add 2) [.int .i64,.int .i64,.int .i64,.int .i32,.int .i64] fun v w x y z =>
 T.ae (o.add 2) [.int .i64,.int .i64,.int .i64,.int .i32,.int .i64] fun A B C D E =>
 T.aY Tryz.prog (Sx.bM (BinOp.neq) 90 (Operand.tmp 109) (Operand.tmp 111) (.agg #[vI v,vI w,vI x,.int .i32 y,vI z]) (.agg #[vI A,vI B,vI C,.int .i32 D,vI E])) false [(false,[.bool])] fun F =>
 cond F
 (T.ret (vI 31))
 (T.ae (m.add 9) [.int .i64] fun G =>
 T.ae (o.add 9) [.int .i64] fun H =>
 cond (G != H)
 (T.ret (vI 31))
 (T.ae (m.add 7) [.slice 109,.int .u32] fun I J K L =>
 T.ae (o.add 7) [.slice 109,.int .u32] fun M N O P =>
 T.call Tryz.prog 80 [.agg #[.slice I J K,.int .u32 L],.agg #[.slice M N O,.int .u32 P]] false [(false,[.bool])] fun Q =>
 cond (!Q)
 (T.ret (vI 31))
 (T.ret (vI 0)))))))
 (cond (p==(4:Int))
 (T.ret (vI 31))
 (cond (p==(5:Int))
 (T.ae (m.add 9) [.int .i64] fun q =>
 T.ap (o.add 9) [vI q] <|
 T.ae (m.add 9) [.int .i64] fun r =>
 cond (decide (r≥(-128:Int)))
 (T.ae (m.add 9) [.int .i64] fun s =>
 cond (!(decide (s≤(255:Int))))
 (T.ret (vI 31))
 (T.ae (m.add 1) [.string] fun t =>
 T.ae (o.add 1) [.string] fun u =>
 cond (!((ByteArray.toList t)==(ByteArray.toList u)))
 (T.ret (vI 31))
 (T.ae (m.add 2) [.int .i64,.int .i64,.int .i64,.int .i32,.int .i64] fun v w x y z =>
 T.ae (o.add 2) [.int .i64,.int .i64,.int .i64,.int .i32,.int .i64] fun A B C D E =>
 T.aY Tryz.prog (Sx.bM (BinOp.neq) 90 (Operand.tmp 109) (Operand.tmp 111) (.agg #[vI v,vI w,vI x,.int .i32 y,vI z]) (.agg #[vI A,vI B,vI C,.int .i32 D,vI E])) false [(false,[.bool])] fun F =>
 cond F
 (T.ret (vI 31))
 (T.ae (m.add 9) [.int .i64] fun G =>
 T.ae (o.add 9) [.int .i64] fun H =>
 cond (G != H)
 (T.ret (vI 31))
 (T.ae (m.add 7) [.slice 109,.int .u32] fun I J K L =>
 T.ae (o.add 7) [.slice 109,.int .u32] fun M N O P =>
 T.call Tryz.prog 80 [.agg #[.slice I J K,.int .u32 L],.agg #[.slice M N O,.int .u32 P]] false [(false,[.bool])] fun Q =>
 cond (!Q)
 (T.ret (vI 31))
 (T.ret (vI 0)))))))
 (T.ret (vI 31)))
 (cond (p==(6:Int))
 (T.ae (m.add 7) [.slice 109,.int .u32] fun q r s t =>
 T.ap (o.add 7) [.slice q r s,.int .u32 t] <|
 T.ae (m.add 7) [.slice 109,.int .u32] fun u v w x =>
 T.call Tryz.prog 46 [.agg #[.slice u v w,.int .u32 x]] false [(false,[.bool])] fun y =>
 cond (!y)
 (T.ret (vI 31))
 (T.ae (m.add 1) [.string] fun z =>
 T.ae (o.add 1) [.string] fun A =>
 cond (!((ByteArray.toList z)==(ByteArray.toList A)))
 (T.ret (vI 31))
 (T.ae (m.add 2) [.int .i64,.int .i64,.int .i64,.int .i32,.int .i64] fun B C D E F =>
 T.ae (o.add 2) [.int .i64,.int .i64,.int .i64,.int .i32,.int .i64] fun G H I J K =>
 T.aY Tryz.prog (Sx.bM (BinOp.neq) 90 (Operand.tmp 109) (Operand.tmp 111) (.agg #[vI B,vI C,vI D,.int .i32 E,vI F]) (.agg #[vI G,vI H,vI I,.int .i32 J,vI K])) false [(false,[.bool])] fun L =>
 cond L
 (T.ret (vI 31))
 (T.ae (m.add 9) [.int .i64] fun M =>
 T.ae (o.add 9) [.int .i64] fun N =>
 cond (M != N)
 (T.ret (vI 31))
 (T.ae (m.add 7) [.slice 109,.int .u32] fun O P Q R =>
 T.ae (o.add 7) [.slice 109,.int .u32] fun S U V W =>
 T.call Tryz.prog 80 [.agg #[.slice O P Q,.int .u32 R],.agg #[.slice S U V,.int .u32 W]] false [(false,[.bool])] fun X =>
 cond (!X)
 (T.ret (vI 31))
 (T.ret (vI 0)))))))
 (cond (p==(7:Int))
 (T.ae (m.add 9) [.int .i64] fun q =>
 T.ap (o.add 9) [vI q] <|
 T.ae (m.add 9) [.int .i64] fun r =>
 cond (decide (r≥(0:Int)))
 (T.ae (m.add 9) [.int .i64] fun s =>
 cond (!(decide (s≤(1048576:Int))))
 (T.ret (vI 31))
 (T.ae (m.add 1) [.string] fun t =>
 T.ae (o.add 1) [.string] fun u =>
 cond (!((ByteArray.toList t)==(ByteArray.toList u)))
 (T.ret (vI 31))
 (T.ae (m.add 2) [.int .i64,.int .i64,.int .i64,.int .i32,.int .i64] fun v w x y z =>
 T.ae (o.add 2) [.int .i64,.int .i64,.int .i64,.int .i32,.int .i64] fun A B C D E =>
 T.aY Tryz.prog (Sx.bM (BinOp.neq) 90 (Operand.tmp 109) (Operand.tmp 111) (.agg #[vI v,vI w,vI x,.int .i32 y,vI z]) (.agg #[vI A,vI B,vI C,.int .i32 D,vI E])) false [(false,[.bool])] fun F =>
 cond F
 (T.ret (vI 31))
 (T.ae (m.add 9) [.int .i64] fun G =>
 T.ae (o.add 9) [.int .i64] fun H =>
 cond (G != H)
 (T.ret (vI 31))
 (T.ae (m.add 7) [.slice 109,.int .u32] fun I J K L =>
 T.ae (o.add 7) [.slice 109,.int .u32] fun M N O P =>
 T.call Tryz.prog 80 [.agg #[.slice I J K,.int .u32 L],.agg #[.slice M N O,.int .u32 P]] false [(false,[.bool])] fun Q =>
 cond (!Q)
 (T.ret (vI 31))
 (T.ret (vI 0)))))))
 (T.ret (vI 31)))
 (T.ret (vI 31))))))))
theorem pY (a:Int) (b:ByteArray) (c:Int) (d:Int) (e:Int) (f:Int) (g:Int) (h:Option Addr) (i:Nat) (j:Nat) (k:Int) (l:Int):aX Tryz.prog [] Tryz.f44 [.agg #[vI a,.string b,vI c,vI d,vI e,.int .i32 f,vI g,.slice h i j,.int .u32 k,vI l],vI 1]=lU a b c d e f g h i j k l:=by kernel_rfl
end Go.Sx
