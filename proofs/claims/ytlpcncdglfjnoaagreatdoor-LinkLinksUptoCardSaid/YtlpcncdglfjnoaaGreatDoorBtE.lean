/- Trees of functions, each checked by the kernel against the code. No condition. -/
import Derived.Test.YtlpcncdglfjnoaaGreatDoorSxF
import Derived.Test.YtlpcncdglfjnoaaGreatDoorProg
import Derived.KernelRfl
set_option linter.all false
set_option maxRecDepth 100000
set_option maxHeartbeats 4000000
namespace Go.Sx
open Go.Proofs
def kF (a:Int) (b:Int) (c:Int) (d:Int) (e:Int):T :=
 T.new [vI a,vI b,vI c,.int .i32 d,vI e] 62 fun f =>
 T.ah (f.add 1) [.int .i64] fun g =>
 cond (g==(0:Int))
 (T.ah (f.add 2) [.int .i64] fun h =>
 T.ret (.bool (h==(0:Int))))
 bo
theorem pR (a:Int) (b:Int) (c:Int) (d:Int) (e:Int):bI Tryz.prog [] Tryz.f127 [.agg #[vI a,vI b,vI c,.int .i32 d,vI e],vI 1]=kF a b c d e:=az
def kT (a:Int) (b:Int) (c:Int) (d:Int) (e:Int):T :=
 T.new [vI a,vI b,vI c,.int .i32 d,vI e] 62 fun f =>
 T.ah (f.add 1) [.int .i64] fun g =>
 aU 142 [vI g,vI 8] fun h =>
 cond h
 (T.ah (f.add 2) [.int .i64] fun i =>
 T.ret (.bool (i==(0:Int))))
 bo
theorem pZ (a:Int) (b:Int) (c:Int) (d:Int) (e:Int):bI Tryz.prog [] Tryz.f127 [.agg #[vI a,vI b,vI c,.int .i32 d,vI e],vI 2]=kT a b c d e:=az
def lj (a:Int) (b:Int) (c:Int) (d:Int) (e:Int):T :=
 T.new [vI a,vI b,vI c,.int .i32 d,vI e] 62 fun f =>
 T.ah (f.add 1) [.int .i64] fun g =>
 aU 142 [vI g,vI 4] fun h =>
 cond h
 (T.ah (f.add 2) [.int .i64] fun i =>
 T.ret (.bool (i==(0:Int))))
 bo
theorem pY (a:Int) (b:Int) (c:Int) (d:Int) (e:Int):bI Tryz.prog [] Tryz.f127 [.agg #[vI a,vI b,vI c,.int .i32 d,vI e],vI 3]=lj a b c d e:=az
def kL (a:Int) (b:Int) (c:Int) (d:Int) (e:Int):T :=
 T.new [vI a,vI b,vI c,.int .i32 d,vI e] 62 fun f =>
 T.ah (f.add 1) [.int .i64] fun g =>
 aU 142 [vI g,vI 8] fun h =>
 cond h
 (T.ah (f.add 2) [.int .i64] fun i =>
 aU 142 [vI i,vI 8] fun j =>
 T.ret (.bool j))
 bo
theorem qh (a:Int) (b:Int) (c:Int) (d:Int) (e:Int):bI Tryz.prog [] Tryz.f127 [.agg #[vI a,vI b,vI c,.int .i32 d,vI e],vI 4]=kL a b c d e:=az
def ly (a:Int) (b:Int) (c:Int) (d:Int) (e:Int):T :=
 T.new [vI a,vI b,vI c,.int .i32 d,vI e] 62 fun f =>
 T.ah (f.add 1) [.int .i64] fun g =>
 aU 142 [vI g,vI 4] fun h =>
 cond h
 (T.ah (f.add 2) [.int .i64] fun i =>
 aU 142 [vI i,vI 4] fun j =>
 T.ret (.bool j))
 bo
theorem qe (a:Int) (b:Int) (c:Int) (d:Int) (e:Int):bI Tryz.prog [] Tryz.f127 [.agg #[vI a,vI b,vI c,.int .i32 d,vI e],vI 5]=ly a b c d e:=az
def lp (a:Int) (b:Int) (c:Int) (d:Int) (e:Int):T :=
 T.new [vI a,vI b,vI c,.int .i32 d,vI e] 62 fun f =>
 T.ah (f.add 1) [.int .i64] fun g =>
 aU 142 [vI g,vI 8] fun h =>
 cond h
 (T.ah (f.add 2) [.int .i64] fun i =>
 aU 142 [vI i,vI 4] fun j =>
 T.ret (.bool j))
 bo
theorem qg (a:Int) (b:Int) (c:Int) (d:Int) (e:Int):bI Tryz.prog [] Tryz.f127 [.agg #[vI a,vI b,vI c,.int .i32 d,vI e],vI 6]=lp a b c d e:=az
def lB (a:Int) (b:Int) (c:Int) (d:Int) (e:Int):T :=
 T.new [vI a,vI b,vI c,.int .i32 d,vI e] 62 fun f =>
 T.ah (f.add 1) [.int .i64] fun g =>
 aU 142 [vI g,vI 4] fun h =>
 cond h
 (T.ah (f.add 2) [.int .i64] fun i =>
 aU 142 [vI i,vI 8] fun j =>
 cond j
 (T.ah (f.add 3) [.int .i32] fun k =>
 cond (decide (k>=(0:Int)))
 (T.ah (f.add 3) [.int .i32] fun l =>
 T.ret (.bool (decide (l<(8:Int)))))
 bo)
 bo)
 bo
theorem qd (a:Int) (b:Int) (c:Int) (d:Int) (e:Int):bI Tryz.prog [] Tryz.f127 [.agg #[vI a,vI b,vI c,.int .i32 d,vI e],vI 7]=lB a b c d e:=az
def kC (a:Int) (b:Int) (c:Int) (d:Int) (e:Int):T :=
 T.new [vI a,vI b,vI c,.int .i32 d,vI e] 62 fun f =>
 T.ah (f.add 1) [.int .i64] fun g =>
 aU 142 [vI g,vI 8] fun h =>
 cond h
 (T.ah (f.add 2) [.int .i64] fun i =>
 T.ret (.bool (i==(0:Int))))
 bo
theorem pW (a:Int) (b:Int) (c:Int) (d:Int) (e:Int):bI Tryz.prog [] Tryz.f127 [.agg #[vI a,vI b,vI c,.int .i32 d,vI e],vI 8]=kC a b c d e:=az
def kK (a:Int) (b:Int) (c:Int) (d:Int) (e:Int):T :=
 T.new [vI a,vI b,vI c,.int .i32 d,vI e] 62 fun f =>
 T.ah (f.add 1) [.int .i64] fun g =>
 cond (g==(0:Int))
 (T.ah (f.add 2) [.int .i64] fun h =>
 T.ret (.bool (h==(0:Int))))
 bo
theorem pU (a:Int) (b:Int) (c:Int) (d:Int) (e:Int):bI Tryz.prog [] Tryz.f127 [.agg #[vI a,vI b,vI c,.int .i32 d,vI e],vI 9]=kK a b c d e:=az
def j3 (a:Int) (b:Int) (c:Int) (d:Int) (e:Int):T :=
 T.new [vI a,vI b,vI c,.int .i32 d,vI e] 62 fun f =>
 T.ah (f.add 1) [.int .i64] fun g =>
 aU 142 [vI g,vI 8] fun h =>
 cond h
 (T.ah (f.add 2) [.int .i64] fun i =>
 T.ret (.bool (i==(0:Int))))
 bo
theorem py (a:Int) (b:Int) (c:Int) (d:Int) (e:Int):bI Tryz.prog [] Tryz.f127 [.agg #[vI a,vI b,vI c,.int .i32 d,vI e],vI 10]=j3 a b c d e:=az
def jY (a:Int) (b:Int) (c:Int) (d:Int) (e:Int):T :=
 T.new [vI a,vI b,vI c,.int .i32 d,vI e] 62 fun f =>
 T.ah (f.add 1) [.int .i64] fun g =>
 aU 142 [vI g,vI 8] fun h =>
 cond h
 (T.ah (f.add 2) [.int .i64] fun i =>
 T.ret (.bool (i==(0:Int))))
 bo
theorem oy (a:Int) (b:Int) (c:Int) (d:Int) (e:Int):bI Tryz.prog [] Tryz.f127 [.agg #[vI a,vI b,vI c,.int .i32 d,vI e],vI 11]=jY a b c d e:=az
def kh (a:Int) (b:Int) (c:Int) (d:Int) (e:Int):T :=
 T.new [vI a,vI b,vI c,.int .i32 d,vI e] 62 fun f =>
 T.ah (f.add 1) [.int .i64] fun g =>
 cond (g==(0:Int))
 (T.ah (f.add 2) [.int .i64] fun h =>
 T.ret (.bool (h==(0:Int))))
 bo
theorem o7 (a:Int) (b:Int) (c:Int) (d:Int) (e:Int):bI Tryz.prog [] Tryz.f127 [.agg #[vI a,vI b,vI c,.int .i32 d,vI e],vI 12]=kh a b c d e:=az
def kf (a:Int) (b:Int) (c:Int) (d:Int) (e:Int):T :=
 T.new [vI a,vI b,vI c,.int .i32 d,vI e] 62 fun f =>
 T.ah (f.add 1) [.int .i64] fun g =>
 aU 142 [vI g,vI 8] fun h =>
 cond h
 (T.ah (f.add 2) [.int .i64] fun i =>
 T.ret (.bool (i==(0:Int))))
 bo
theorem pd (a:Int) (b:Int) (c:Int) (d:Int) (e:Int):bI Tryz.prog [] Tryz.f127 [.agg #[vI a,vI b,vI c,.int .i32 d,vI e],vI 13]=kf a b c d e:=az
def pK (a:Int) (b:Int) (c:Int) (d:Int) (e:Int):T :=
 T.new [vI a,vI b,vI c,.int .i32 d,vI e] 62 fun f =>
 T.ah (f.add 3) [.int .i32] fun g =>
 T.ret (.bool (g==(0:Int)))
theorem tK (a:Int) (b:Int) (c:Int) (d:Int) (e:Int):bI Tryz.prog [] Tryz.f128 [.agg #[vI a,vI b,vI c,.int .i32 d,vI e],vI 1]=pK a b c d e:=az
def pH (a:Int) (b:Int) (c:Int) (d:Int) (e:Int):T :=
 T.new [vI a,vI b,vI c,.int .i32 d,vI e] 62 fun f =>
 T.ah (f.add 3) [.int .i32] fun g =>
 T.ret (.bool (g==(0:Int)))
theorem tD (a:Int) (b:Int) (c:Int) (d:Int) (e:Int):bI Tryz.prog [] Tryz.f128 [.agg #[vI a,vI b,vI c,.int .i32 d,vI e],vI 2]=pH a b c d e:=az
def pC (a:Int) (b:Int) (c:Int) (d:Int) (e:Int):T :=
 T.new [vI a,vI b,vI c,.int .i32 d,vI e] 62 fun f =>
 T.ah (f.add 3) [.int .i32] fun g =>
 T.ret (.bool (g==(0:Int)))
theorem sS (a:Int) (b:Int) (c:Int) (d:Int) (e:Int):bI Tryz.prog [] Tryz.f128 [.agg #[vI a,vI b,vI c,.int .i32 d,vI e],vI 3]=pC a b c d e:=az
def pO (a:Int) (b:Int) (c:Int) (d:Int) (e:Int):T :=
 T.new [vI a,vI b,vI c,.int .i32 d,vI e] 62 fun f =>
 T.ah (f.add 3) [.int .i32] fun g =>
 T.ret (.bool (g==(0:Int)))
theorem tE (a:Int) (b:Int) (c:Int) (d:Int) (e:Int):bI Tryz.prog [] Tryz.f128 [.agg #[vI a,vI b,vI c,.int .i32 d,vI e],vI 4]=pO a b c d e:=az
def pM (a:Int) (b:Int) (c:Int) (d:Int) (e:Int):T :=
 T.new [vI a,vI b,vI c,.int .i32 d,vI e] 62 fun f =>
 T.ah (f.add 3) [.int .i32] fun g =>
 T.ret (.bool (g==(0:Int)))
theorem tf (a:Int) (b:Int) (c:Int) (d:Int) (e:Int):bI Tryz.prog [] Tryz.f128 [.agg #[vI a,vI b,vI c,.int .i32 d,vI e],vI 5]=pM a b c d e:=az
def pB (a:Int) (b:Int) (c:Int) (d:Int) (e:Int):T :=
 T.new [vI a,vI b,vI c,.int .i32 d,vI e] 62 fun f =>
 T.ah (f.add 3) [.int .i32] fun g =>
 T.ret (.bool (g==(0:Int)))
theorem tM (a:Int) (b:Int) (c:Int) (d:Int) (e:Int):bI Tryz.prog [] Tryz.f128 [.agg #[vI a,vI b,vI c,.int .i32 d,vI e],vI 6]=pB a b c d e:=az
def pG (a:Int) (b:Int) (c:Int) (d:Int) (e:Int):T :=
 T.new [vI a,vI b,vI c,.int .i32 d,vI e] 62 fun f =>
 T.ret (.bool true)
theorem tv (a:Int) (b:Int) (c:Int) (d:Int) (e:Int):bI Tryz.prog [] Tryz.f128 [.agg #[vI a,vI b,vI c,.int .i32 d,vI e],vI 7]=pG a b c d e:=az
def pN (a:Int) (b:Int) (c:Int) (d:Int) (e:Int):T :=
 T.new [vI a,vI b,vI c,.int .i32 d,vI e] 62 fun f =>
 T.ah (f.add 3) [.int .i32] fun g =>
 aU 143 [.int .i32 g,vI 1] fun h =>
 T.ret (.bool h)
theorem tk (a:Int) (b:Int) (c:Int) (d:Int) (e:Int):bI Tryz.prog [] Tryz.f128 [.agg #[vI a,vI b,vI c,.int .i32 d,vI e],vI 8]=pN a b c d e:=az
def pL (a:Int) (b:Int) (c:Int) (d:Int) (e:Int):T :=
 T.new [vI a,vI b,vI c,.int .i32 d,vI e] 62 fun f =>
 T.ah (f.add 3) [.int .i32] fun g =>
 cond (decide (g>=(0:Int)))
 (T.ah (f.add 3) [.int .i32] fun h =>
 T.ret (.bool (decide (h<=(255:Int)))))
 bo
theorem sU (a:Int) (b:Int) (c:Int) (d:Int) (e:Int):bI Tryz.prog [] Tryz.f128 [.agg #[vI a,vI b,vI c,.int .i32 d,vI e],vI 9]=pL a b c d e:=az
def nV (a:Int) (b:Int) (c:Int) (d:Int) (e:Int):T :=
 T.new [vI a,vI b,vI c,.int .i32 d,vI e] 62 fun f =>
 T.ret (.bool true)
theorem r7 (a:Int) (b:Int) (c:Int) (d:Int) (e:Int):bI Tryz.prog [] Tryz.f128 [.agg #[vI a,vI b,vI c,.int .i32 d,vI e],vI 10]=nV a b c d e:=az
def nS (a:Int) (b:Int) (c:Int) (d:Int) (e:Int):T :=
 T.new [vI a,vI b,vI c,.int .i32 d,vI e] 62 fun f =>
 T.ah (f.add 3) [.int .i32] fun g =>
 cond (decide (g>=(0:Int)))
 (T.ah (f.add 3) [.int .i32] fun h =>
 T.ret (.bool (decide (h<=(4095:Int)))))
 bo
theorem sf (a:Int) (b:Int) (c:Int) (d:Int) (e:Int):bI Tryz.prog [] Tryz.f128 [.agg #[vI a,vI b,vI c,.int .i32 d,vI e],vI 11]=nS a b c d e:=az
def nP (a:Int) (b:Int) (c:Int) (d:Int) (e:Int):T :=
 T.new [vI a,vI b,vI c,.int .i32 d,vI e] 62 fun f =>
 T.ah (f.add 3) [.int .i32] fun g =>
 T.ah (f.add 4) [.int .i64] fun h =>
 aU 143 [.int .i32 g,vI h] fun i =>
 T.ret (.bool i)
theorem r9 (a:Int) (b:Int) (c:Int) (d:Int) (e:Int):bI Tryz.prog [] Tryz.f128 [.agg #[vI a,vI b,vI c,.int .i32 d,vI e],vI 12]=nP a b c d e:=az
def nJ (a:Int) (b:Int) (c:Int) (d:Int) (e:Int):T :=
 T.new [vI a,vI b,vI c,.int .i32 d,vI e] 62 fun f =>
 T.ah (f.add 3) [.int .i32] fun g =>
 T.ah (f.add 4) [.int .i64] fun h =>
 aU 143 [.int .i32 g,vI h] fun i =>
 T.ret (.bool i)
theorem r8 (a:Int) (b:Int) (c:Int) (d:Int) (e:Int):bI Tryz.prog [] Tryz.f128 [.agg #[vI a,vI b,vI c,.int .i32 d,vI e],vI 13]=nJ a b c d e:=az
def pI (a:Int) (b:YA) (c:Int) (d:Int) (e:Int) (f:Int) (g:Int) (h:Option YC) (i:Nat) (j:Nat) (k:Int) (l:Int):T :=
 T.new [vI a,.string b,vI c,vI d,vI e,.int .i32 f,vI g,.slice h i j,.int .u32 k,vI l] 64 fun m =>
 T.ah m [.int .i64] fun n =>
 T.new [vI 0,bU,vI 0,vI 0,vI 0,.int .i32 0,vI 0,bi,.int .u32 0,vI 0] 64 fun o =>
 T.aD o [vI n,bU,vI 0,vI 0,vI 0,.int .i32 0,vI 0,bi,.int .u32 0,vI 0] <|
 T.ah m [.int .i64] fun p =>
 cond (p==(1:Int))
 (T.ah (m.add 1) [.string] fun q =>
 T.aD (o.add 1) [.string q] <|
 T.ah (m.add 1) [.string] fun r =>
 aU 79 [.string r] fun s =>
 cond (!s)
 (T.ret (vI 31))
 (T.ah (m.add 1) [.string] fun t =>
 T.ah (o.add 1) [.string] fun u =>
 cond (!((ByteArray.toList t)==(ByteArray.toList u)))
 (T.ret (vI 31))
 (T.ah (m.add 2) [.int .i64,.int .i64,.int .i64,.int .i32,.int .i64] fun v w x y z =>
 T.ah (o.add 2) [.int .i64,.int .i64,.int .i64,.int .i32,.int .i64] fun A B C D E =>
 dT (Sx.iK (BinOp.neq) 62 (Operand.tmp 109) (Operand.tmp 111) (.agg #[vI v,vI w,vI x,.int .i32 y,vI z]) (.agg #[vI A,vI B,vI C,.int .i32 D,vI E])) fun F =>
 cond F
 (T.ret (vI 31))
 (T.ah (m.add 9) [.int .i64] fun G =>
 T.ah (o.add 9) [.int .i64] fun H =>
 cond (G != H)
 (T.ret (vI 31))
 (T.ah (m.add 7) [.slice 66,.int .u32] fun I J K L =>
 T.ah (o.add 7) [.slice 66,.int .u32] fun M N O P =>
 aU 101 [.agg #[.slice I J K,.int .u32 L],.agg #[.slice M N O,.int .u32 P]] fun Q =>
 cond (!Q)
 (T.ret (vI 31))
 (T.ret (vI 0)))))))
 (cond (p==(2:Int))
 (T.ah (m.add 2) [.int .i64,.int .i64,.int .i64,.int .i32,.int .i64] fun q r s t u =>
 T.ah (m.add 7) [.slice 66,.int .u32] fun v w x y =>
 T.aD (o.add 2) [vI q,vI r,vI s,.int .i32 t,vI u] <|
 T.aY [((m.add 7),[.slice v w x,.int .u32 y])] <|
 T.aD (o.add 7) [.slice v w x,.int .u32 y] <|
 T.ah m [.int .i64,.string,.int .i64,.int .i64,.int .i64,.int .i32,.int .i64,.slice 66,.int .u32,.int .i64] fun z A B C D E F G H I J K =>
 aU 99 [.agg #[vI z,.string A,vI B,vI C,vI D,.int .i32 E,vI F,.slice G H I,.int .u32 J,vI K]] fun L =>
 cond (!L)
 (T.ret (vI 31))
 (T.ah (m.add 1) [.string] fun M =>
 T.ah (o.add 1) [.string] fun N =>
 cond (!((ByteArray.toList M)==(ByteArray.toList N)))
 (T.ret (vI 31))
 (T.ah (m.add 2) [.int .i64,.int .i64,.int .i64,.int .i32,.int .i64] fun O P Q R S =>
 T.ah (o.add 2) [.int .i64,.int .i64,.int .i64,.int .i32,.int .i64] fun U V W X Y =>
 dT (Sx.iK (BinOp.neq) 62 (Operand.tmp 109) (Operand.tmp 111) (.agg #[vI O,vI P,vI Q,.int .i32 R,vI S]) (.agg #[vI U,vI V,vI W,.int .i32 X,vI Y])) fun Z =>
 cond Z
 (T.ret (vI 31))
 (T.ah (m.add 9) [.int .i64] fun a0 =>
 T.ah (o.add 9) [.int .i64] fun a1 =>
 cond (a0 != a1)
 (T.ret (vI 31))
 (T.ah (m.add 7) [.slice 66,.int .u32] fun a2 a3 a4 a5 =>
 T.ah (o.add 7) [.slice 66,.int .u32] fun a6 a7 a8 a9 =>
 aU 101 [.agg #[.slice a2 a3 a4,.int .u32 a5],.agg #[.slice a6 a7 a8,.int .u32 a9]] fun b0 =>
 cond (!b0)
 (T.ret (vI 31))
 (T.ret (vI 0)))))))
 (cond (p==(3:Int))
 (T.ah (m.add 9) [.int .i64] fun q =>
 T.aD (o.add 9) [vI q] <|
 T.ah (m.add 9) [.int .i64] fun r =>
 aU 100 [vI r] fun s =>
 cond (!s)
 (T.ret (vI 31))
 (T.ah (m.add 1) [.string] fun t =>
 T.ah (o.add 1) [.string] fun u =>
 cond (!((ByteArray.toList t)==(ByteArray.toList u)))
 (T.ret (vI 31))
 (T.ah (m.add 2) [.int .i64,.int .i64,.int .i64,.int .i32,.int .i64] fun v w x y z =>
 T.ah (o.add 2) [.int .i64,.int .i64,.int .i64,.int .i32,.int .i64] fun A B C D E =>
 dT (Sx.iK (BinOp.neq) 62 (Operand.tmp 109) (Operand.tmp 111) (.agg #[vI v,vI w,vI x,.int .i32 y,vI z]) (.agg #[vI A,vI B,vI C,.int .i32 D,vI E])) fun F =>
 cond F
 (T.ret (vI 31))
 (T.ah (m.add 9) [.int .i64] fun G =>
 T.ah (o.add 9) [.int .i64] fun H =>
 cond (G != H)
 (T.ret (vI 31))
 (T.ah (m.add 7) [.slice 66,.int .u32] fun I J K L =>
 T.ah (o.add 7) [.slice 66,.int .u32] fun M N O P =>
 aU 101 [.agg #[.slice I J K,.int .u32 L],.agg #[.slice M N O,.int .u32 P]] fun Q =>
 cond (!Q)
 (T.ret (vI 31))
 (T.ret (vI 0)))))))
 (cond (p==(4:Int))
 (T.ah (m.add 1) [.string] fun q =>
 T.ah (o.add 1) [.string] fun r =>
 cond (!((ByteArray.toList q)==(ByteArray.toList r)))
 (T.ret (vI 31))
 (T.ah (m.add 2) [.int .i64,.int .i64,.int .i64,.int .i32,.int .i64] fun s t u v w =>
 T.ah (o.add 2) [.int .i64,.int .i64,.int .i64,.int .i32,.int .i64] fun x y z A B =>
 dT (Sx.iK (BinOp.neq) 62 (Operand.tmp 109) (Operand.tmp 111) (.agg #[vI s,vI t,vI u,.int .i32 v,vI w]) (.agg #[vI x,vI y,vI z,.int .i32 A,vI B])) fun C =>
 cond C
 (T.ret (vI 31))
 (T.ah (m.add 9) [.int .i64] fun D =>
 T.ah (o.add 9) [.int .i64] fun E =>
 cond (D != E)
 (T.ret (vI 31))
 (T.ah (m.add 7) [.slice 66,.int .u32] fun F G H I =>
 T.ah (o.add 7) [.slice 66,.int .u32] fun J K L M =>
 aU 101 [.agg #[.slice F G H,.int .u32 I],.agg #[.slice J K L,.int .u32 M]] fun N =>
 cond (!N)
 (T.ret (vI 31))
 (T.ret (vI 0))))))
 (cond (p==(5:Int))
 (T.ah (m.add 9) [.int .i64] fun q =>
 T.aD (o.add 9) [vI q] <|
 T.ret (vI 31))
 (cond (p==(6:Int))
 (T.ah (m.add 7) [.slice 66,.int .u32] fun q r s t =>
 T.aD (o.add 7) [.slice q r s,.int .u32 t] <|
 T.ret (vI 31))
 (cond (p==(7:Int))
 (T.ah (m.add 9) [.int .i64] fun q =>
 T.aD (o.add 9) [vI q] <|
 T.ret (vI 31))
 (T.ret (vI 31))))))))
theorem te (a:Int) (b:YA) (c:Int) (d:Int) (e:Int) (f:Int) (g:Int) (h:Option YC) (i:Nat) (j:Nat) (k:Int) (l:Int):bI Tryz.prog [] Tryz.f78 [.agg #[vI a,.string b,vI c,vI d,vI e,.int .i32 f,vI g,.slice h i j,.int .u32 k,vI l],vI 0]=pI a b c d e f g h i j k l:=az
def pD (a:Int) (b:YA) (c:Int) (d:Int) (e:Int) (f:Int) (g:Int) (h:Option YC) (i:Nat) (j:Nat) (k:Int) (l:Int):T :=
 T.new [vI a,.string b,vI c,vI d,vI e,.int .i32 f,vI g,.slice h i j,.int .u32 k,vI l] 64 fun m =>
 T.ah m [.int .i64] fun n =>
 T.new [vI 0,bU,vI 0,vI 0,vI 0,.int .i32 0,vI 0,bi,.int .u32 0,vI 0] 64 fun o =>
 T.aD o [vI n,bU,vI 0,vI 0,vI 0,.int .i32 0,vI 0,bi,.int .u32 0,vI 0] <|
 T.ah m [.int .i64] fun p =>
 cond (p==(1:Int))
 (T.ah (m.add 1) [.string] fun q =>
 T.aD (o.add 1) [.string q] <|
 T.ah (m.add 1) [.string] fun r =>
 aU 79 [.string r] fun s =>
 cond (!s)
 (T.ret (vI 31))
 (T.ah (m.add 1) [.string] fun t =>
 T.ah (o.add 1) [.string] fun u =>
 cond (!((ByteArray.toList t)==(ByteArray.toList u)))
 (T.ret (vI 31))
 (T.ah (m.add 2) [.int .i64,.int .i64,.int .i64,.int .i32,.int .i64] fun v w x y z =>
 T.ah (o.add 2) [.int .i64,.int .i64,.int .i64,.int .i32,.int .i64] fun A B C D E =>
 dT (Sx.iK (BinOp.neq) 62 (Operand.tmp 109) (Operand.tmp 111) (.agg #[vI v,vI w,vI x,.int .i32 y,vI z]) (.agg #[vI A,vI B,vI C,.int .i32 D,vI E])) fun F =>
 cond F
 (T.ret (vI 31))
 (T.ah (m.add 9) [.int .i64] fun G =>
 T.ah (o.add 9) [.int .i64] fun H =>
 cond (G != H)
 (T.ret (vI 31))
 (T.ah (m.add 7) [.slice 66,.int .u32] fun I J K L =>
 T.ah (o.add 7) [.slice 66,.int .u32] fun M N O P =>
 aU 101 [.agg #[.slice I J K,.int .u32 L],.agg #[.slice M N O,.int .u32 P]] fun Q =>
 cond (!Q)
 (T.ret (vI 31))
 (T.ret (vI 0)))))))
 (cond (p==(2:Int))
 (T.ah (m.add 2) [.int .i64,.int .i64,.int .i64,.int .i32,.int .i64] fun q r s t u =>
 T.ah (m.add 7) [.slice 66,.int .u32] fun v w x y =>
 T.aD (o.add 2) [vI q,vI r,vI s,.int .i32 t,vI u] <|
 T.aY [((m.add 7),[.slice v w x,.int .u32 y])] <|
 T.aD (o.add 7) [.slice v w x,.int .u32 y] <|
 T.ret (vI 31))
 (cond (p==(3:Int))
 (T.ah (m.add 9) [.int .i64] fun q =>
 T.aD (o.add 9) [vI q] <|
 T.ah (m.add 9) [.int .i64] fun r =>
 aU 100 [vI r] fun s =>
 cond (!s)
 (T.ret (vI 31))
 (T.ah (m.add 1) [.string] fun t =>
 T.ah (o.add 1) [.string] fun u =>
 cond (!((ByteArray.toList t)==(ByteArray.toList u)))
 (T.ret (vI 31))
 (T.ah (m.add 2) [.int .i64,.int .i64,.int .i64,.int .i32,.int .i64] fun v w x y z =>
 T.ah (o.add 2) [.int .i64,.int .i64,.int .i64,.int .i32,.int .i64] fun A B C D E =>
 dT (Sx.iK (BinOp.neq) 62 (Operand.tmp 109) (Operand.tmp 111) (.agg #[vI v,vI w,vI x,.int .i32 y,vI z]) (.agg #[vI A,vI B,vI C,.int .i32 D,vI E])) fun F =>
 cond F
 (T.ret (vI 31))
 (T.ah (m.add 9) [.int .i64] fun G =>
 T.ah (o.add 9) [.int .i64] fun H =>
 cond (G != H)
 (T.ret (vI 31))
 (T.ah (m.add 7) [.slice 66,.int .u32] fun I J K L =>
 T.ah (o.add 7) [.slice 66,.int .u32] fun M N O P =>
 aU 101 [.agg #[.slice I J K,.int .u32 L],.agg #[.slice M N O,.int .u32 P]] fun Q =>
 cond (!Q)
 (T.ret (vI 31))
 (T.ret (vI 0)))))))
 (cond (p==(4:Int))
 (T.ret (vI 31))
 (cond (p==(5:Int))
 (T.ah (m.add 9) [.int .i64] fun q =>
 T.aD (o.add 9) [vI q] <|
 T.ah (m.add 9) [.int .i64] fun r =>
 cond (decide (r>=(-128:Int)))
 (T.ah (m.add 9) [.int .i64] fun s =>
 cond (!(decide (s<=(255:Int))))
 (T.ret (vI 31))
 (T.ah (m.add 1) [.string] fun t =>
 T.ah (o.add 1) [.string] fun u =>
 cond (!((ByteArray.toList t)==(ByteArray.toList u)))
 (T.ret (vI 31))
 (T.ah (m.add 2) [.int .i64,.int .i64,.int .i64,.int .i32,.int .i64] fun v w x y z =>
 T.ah (o.add 2) [.int .i64,.int .i64,.int .i64,.int .i32,.int .i64] fun A B C D E =>
 dT (Sx.iK (BinOp.neq) 62 (Operand.tmp 109) (Operand.tmp 111) (.agg #[vI v,vI w,vI x,.int .i32 y,vI z]) (.agg #[vI A,vI B,vI C,.int .i32 D,vI E])) fun F =>
 cond F
 (T.ret (vI 31))
 (T.ah (m.add 9) [.int .i64] fun G =>
 T.ah (o.add 9) [.int .i64] fun H =>
 cond (G != H)
 (T.ret (vI 31))
 (T.ah (m.add 7) [.slice 66,.int .u32] fun I J K L =>
 T.ah (o.add 7) [.slice 66,.int .u32] fun M N O P =>
 aU 101 [.agg #[.slice I J K,.int .u32 L],.agg #[.slice M N O,.int .u32 P]] fun Q =>
 cond (!Q)
 (T.ret (vI 31))
 (T.ret (vI 0)))))))
 (T.ret (vI 31)))
 (cond (p==(6:Int))
 (T.ah (m.add 7) [.slice 66,.int .u32] fun q r s t =>
 T.aD (o.add 7) [.slice q r s,.int .u32 t] <|
 T.ah (m.add 7) [.slice 66,.int .u32] fun u v w x =>
 aU 80 [.agg #[.slice u v w,.int .u32 x]] fun y =>
 cond (!y)
 (T.ret (vI 31))
 (T.ah (m.add 1) [.string] fun z =>
 T.ah (o.add 1) [.string] fun A =>
 cond (!((ByteArray.toList z)==(ByteArray.toList A)))
 (T.ret (vI 31))
 (T.ah (m.add 2) [.int .i64,.int .i64,.int .i64,.int .i32,.int .i64] fun B C D E F =>
 T.ah (o.add 2) [.int .i64,.int .i64,.int .i64,.int .i32,.int .i64] fun G H I J K =>
 dT (Sx.iK (BinOp.neq) 62 (Operand.tmp 109) (Operand.tmp 111) (.agg #[vI B,vI C,vI D,.int .i32 E,vI F]) (.agg #[vI G,vI H,vI I,.int .i32 J,vI K])) fun L =>
 cond L
 (T.ret (vI 31))
 (T.ah (m.add 9) [.int .i64] fun M =>
 T.ah (o.add 9) [.int .i64] fun N =>
 cond (M != N)
 (T.ret (vI 31))
 (T.ah (m.add 7) [.slice 66,.int .u32] fun O P Q R =>
 T.ah (o.add 7) [.slice 66,.int .u32] fun S U V W =>
 aU 101 [.agg #[.slice O P Q,.int .u32 R],.agg #[.slice S U V,.int .u32 W]] fun X =>
 cond (!X)
 (T.ret (vI 31))
 (T.ret (vI 0)))))))
 (cond (p==(7:Int))
 (T.ah (m.add 9) [.int .i64] fun q =>
 T.aD (o.add 9) [vI q] <|
 T.ah (m.add 9) [.int .i64] fun r =>
 cond (decide (r>=(0:Int)))
 (T.ah (m.add 9) [.int .i64] fun s =>
 cond (!(decide (s<=(1048576:Int))))
 (T.ret (vI 31))
 (T.ah (m.add 1) [.string] fun t =>
 T.ah (o.add 1) [.string] fun u =>
 cond (!((ByteArray.toList t)==(ByteArray.toList u)))
 (T.ret (vI 31))
 (T.ah (m.add 2) [.int .i64,.int .i64,.int .i64,.int .i32,.int .i64] fun v w x y z =>
 T.ah (o.add 2) [.int .i64,.int .i64,.int .i64,.int .i32,.int .i64] fun A B C D E =>
 dT (Sx.iK (BinOp.neq) 62 (Operand.tmp 109) (Operand.tmp 111) (.agg #[vI v,vI w,vI x,.int .i32 y,vI z]) (.agg #[vI A,vI B,vI C,.int .i32 D,vI E])) fun F =>
 cond F
 (T.ret (vI 31))
 (T.ah (m.add 9) [.int .i64] fun G =>
 T.ah (o.add 9) [.int .i64] fun H =>
 cond (G != H)
 (T.ret (vI 31))
 (T.ah (m.add 7) [.slice 66,.int .u32] fun I J K L =>
 T.ah (o.add 7) [.slice 66,.int .u32] fun M N O P =>
 aU 101 [.agg #[.slice I J K,.int .u32 L],.agg #[.slice M N O,.int .u32 P]] fun Q =>
 cond (!Q)
 (T.ret (vI 31))
 (T.ret (vI 0)))))))
 (T.ret (vI 31)))
 (T.ret (vI 31))))))))
theorem th (a:Int) (b:YA) (c:Int) (d:Int) (e:Int) (f:Int) (g:Int) (h:Option YC) (i:Nat) (j:Nat) (k:Int) (l:Int):bI Tryz.prog [] Tryz.f78 [.agg #[vI a,.string b,vI c,vI d,vI e,.int .i32 f,vI g,.slice h i j,.int .u32 k,vI l],vI 1]=pD a b c d e f g h i j k l:=az
end Go.Sx
