/- Trees of functions, each checked by the kernel against the code. No condition. -/
import Derived.Test.YtlpcncdglfjnoaaGreatDoorSxF
import Derived.Test.YtlpcncdglfjnoaaGreatDoorProg
import Derived.KernelRfl
set_option linter.all false
set_option maxRecDepth 100000
set_option maxHeartbeats 4000000
namespace Go.Sx
open Go.Proofs
def lB (a:Int) (b:Int) (c:Int) (d:Int) (e:Int):T :=
 T.new [vI a,vI b,vI c,.int .i32 d,vI e] 62 fun f =>
 T.ah (f.add 1) [.int .i64] fun g =>
 cond (g==(0:Int))
 (T.ah (f.add 2) [.int .i64] fun h =>
 T.ret (.bool (h==(0:Int))))
 bt
theorem qb (a:Int) (b:Int) (c:Int) (d:Int) (e:Int):bI Tryz.prog [] Tryz.f127 [.agg #[vI a,vI b,vI c,.int .i32 d,vI e],vI 1]=lB a b c d e:=ax
def kL (a:Int) (b:Int) (c:Int) (d:Int) (e:Int):T :=
 T.new [vI a,vI b,vI c,.int .i32 d,vI e] 62 fun f =>
 T.ah (f.add 1) [.int .i64] fun g =>
 aU 142 [vI g,vI 8] fun h =>
 cond h
 (T.ah (f.add 2) [.int .i64] fun i =>
 T.ret (.bool (i==(0:Int))))
 bt
theorem qf (a:Int) (b:Int) (c:Int) (d:Int) (e:Int):bI Tryz.prog [] Tryz.f127 [.agg #[vI a,vI b,vI c,.int .i32 d,vI e],vI 2]=kL a b c d e:=ax
def kJ (a:Int) (b:Int) (c:Int) (d:Int) (e:Int):T :=
 T.new [vI a,vI b,vI c,.int .i32 d,vI e] 62 fun f =>
 T.ah (f.add 1) [.int .i64] fun g =>
 aU 142 [vI g,vI 4] fun h =>
 cond h
 (T.ah (f.add 2) [.int .i64] fun i =>
 T.ret (.bool (i==(0:Int))))
 bt
theorem pW (a:Int) (b:Int) (c:Int) (d:Int) (e:Int):bI Tryz.prog [] Tryz.f127 [.agg #[vI a,vI b,vI c,.int .i32 d,vI e],vI 3]=kJ a b c d e:=ax
def kK (a:Int) (b:Int) (c:Int) (d:Int) (e:Int):T :=
 T.new [vI a,vI b,vI c,.int .i32 d,vI e] 62 fun f =>
 T.ah (f.add 1) [.int .i64] fun g =>
 aU 142 [vI g,vI 8] fun h =>
 cond h
 (T.ah (f.add 2) [.int .i64] fun i =>
 aU 142 [vI i,vI 8] fun j =>
 T.ret (.bool j))
 bt
theorem qa (a:Int) (b:Int) (c:Int) (d:Int) (e:Int):bI Tryz.prog [] Tryz.f127 [.agg #[vI a,vI b,vI c,.int .i32 d,vI e],vI 4]=kK a b c d e:=ax
def ly (a:Int) (b:Int) (c:Int) (d:Int) (e:Int):T :=
 T.new [vI a,vI b,vI c,.int .i32 d,vI e] 62 fun f =>
 T.ah (f.add 1) [.int .i64] fun g =>
 aU 142 [vI g,vI 4] fun h =>
 cond h
 (T.ah (f.add 2) [.int .i64] fun i =>
 aU 142 [vI i,vI 4] fun j =>
 T.ret (.bool j))
 bt
theorem pY (a:Int) (b:Int) (c:Int) (d:Int) (e:Int):bI Tryz.prog [] Tryz.f127 [.agg #[vI a,vI b,vI c,.int .i32 d,vI e],vI 5]=ly a b c d e:=ax
def kA (a:Int) (b:Int) (c:Int) (d:Int) (e:Int):T :=
 T.new [vI a,vI b,vI c,.int .i32 d,vI e] 62 fun f =>
 T.ah (f.add 1) [.int .i64] fun g =>
 aU 142 [vI g,vI 8] fun h =>
 cond h
 (T.ah (f.add 2) [.int .i64] fun i =>
 aU 142 [vI i,vI 4] fun j =>
 T.ret (.bool j))
 bt
theorem pU (a:Int) (b:Int) (c:Int) (d:Int) (e:Int):bI Tryz.prog [] Tryz.f127 [.agg #[vI a,vI b,vI c,.int .i32 d,vI e],vI 6]=kA a b c d e:=ax
def lr (a:Int) (b:Int) (c:Int) (d:Int) (e:Int):T :=
 T.new [vI a,vI b,vI c,.int .i32 d,vI e] 62 fun f =>
 T.ah (f.add 1) [.int .i64] fun g =>
 aU 142 [vI g,vI 4] fun h =>
 cond h
 (T.ah (f.add 2) [.int .i64] fun i =>
 aU 142 [vI i,vI 8] fun j =>
 cond j
 (T.ah (f.add 3) [.int .i32] fun k =>
 cond (decide (k>=(0:Int)))
 (T.ah (f.add 3) [.int .i32] fun l =>
 T.ret (.bool (decide (l<(8:Int)))))
 bt)
 bt)
 bt
theorem pZ (a:Int) (b:Int) (c:Int) (d:Int) (e:Int):bI Tryz.prog [] Tryz.f127 [.agg #[vI a,vI b,vI c,.int .i32 d,vI e],vI 7]=lr a b c d e:=ax
def lp (a:Int) (b:Int) (c:Int) (d:Int) (e:Int):T :=
 T.new [vI a,vI b,vI c,.int .i32 d,vI e] 62 fun f =>
 T.ah (f.add 1) [.int .i64] fun g =>
 aU 142 [vI g,vI 8] fun h =>
 cond h
 (T.ah (f.add 2) [.int .i64] fun i =>
 T.ret (.bool (i==(0:Int))))
 bt
theorem pV (a:Int) (b:Int) (c:Int) (d:Int) (e:Int):bI Tryz.prog [] Tryz.f127 [.agg #[vI a,vI b,vI c,.int .i32 d,vI e],vI 8]=lp a b c d e:=ax
def kH (a:Int) (b:Int) (c:Int) (d:Int) (e:Int):T :=
 T.new [vI a,vI b,vI c,.int .i32 d,vI e] 62 fun f =>
 T.ah (f.add 1) [.int .i64] fun g =>
 cond (g==(0:Int))
 (T.ah (f.add 2) [.int .i64] fun h =>
 T.ret (.bool (h==(0:Int))))
 bt
theorem pT (a:Int) (b:Int) (c:Int) (d:Int) (e:Int):bI Tryz.prog [] Tryz.f127 [.agg #[vI a,vI b,vI c,.int .i32 d,vI e],vI 9]=kH a b c d e:=ax
def j1 (a:Int) (b:Int) (c:Int) (d:Int) (e:Int):T :=
 T.new [vI a,vI b,vI c,.int .i32 d,vI e] 62 fun f =>
 T.ah (f.add 1) [.int .i64] fun g =>
 aU 142 [vI g,vI 8] fun h =>
 cond h
 (T.ah (f.add 2) [.int .i64] fun i =>
 T.ret (.bool (i==(0:Int))))
 bt
theorem oz (a:Int) (b:Int) (c:Int) (d:Int) (e:Int):bI Tryz.prog [] Tryz.f127 [.agg #[vI a,vI b,vI c,.int .i32 d,vI e],vI 10]=j1 a b c d e:=ax
def j8 (a:Int) (b:Int) (c:Int) (d:Int) (e:Int):T :=
 T.new [vI a,vI b,vI c,.int .i32 d,vI e] 62 fun f =>
 T.ah (f.add 1) [.int .i64] fun g =>
 aU 142 [vI g,vI 8] fun h =>
 cond h
 (T.ah (f.add 2) [.int .i64] fun i =>
 T.ret (.bool (i==(0:Int))))
 bt
theorem py (a:Int) (b:Int) (c:Int) (d:Int) (e:Int):bI Tryz.prog [] Tryz.f127 [.agg #[vI a,vI b,vI c,.int .i32 d,vI e],vI 11]=j8 a b c d e:=ax
def jW (a:Int) (b:Int) (c:Int) (d:Int) (e:Int):T :=
 T.new [vI a,vI b,vI c,.int .i32 d,vI e] 62 fun f =>
 T.ah (f.add 1) [.int .i64] fun g =>
 cond (g==(0:Int))
 (T.ah (f.add 2) [.int .i64] fun h =>
 T.ret (.bool (h==(0:Int))))
 bt
theorem pd (a:Int) (b:Int) (c:Int) (d:Int) (e:Int):bI Tryz.prog [] Tryz.f127 [.agg #[vI a,vI b,vI c,.int .i32 d,vI e],vI 12]=jW a b c d e:=ax
def j3 (a:Int) (b:Int) (c:Int) (d:Int) (e:Int):T :=
 T.new [vI a,vI b,vI c,.int .i32 d,vI e] 62 fun f =>
 T.ah (f.add 1) [.int .i64] fun g =>
 aU 142 [vI g,vI 8] fun h =>
 cond h
 (T.ah (f.add 2) [.int .i64] fun i =>
 T.ret (.bool (i==(0:Int))))
 bt
theorem ot (a:Int) (b:Int) (c:Int) (d:Int) (e:Int):bI Tryz.prog [] Tryz.f127 [.agg #[vI a,vI b,vI c,.int .i32 d,vI e],vI 13]=j3 a b c d e:=ax
def pK (a:Int) (b:Int) (c:Int) (d:Int) (e:Int):T :=
 T.new [vI a,vI b,vI c,.int .i32 d,vI e] 62 fun f =>
 T.ah (f.add 3) [.int .i32] fun g =>
 T.ret (.bool (g==(0:Int)))
theorem sT (a:Int) (b:Int) (c:Int) (d:Int) (e:Int):bI Tryz.prog [] Tryz.f128 [.agg #[vI a,vI b,vI c,.int .i32 d,vI e],vI 1]=pK a b c d e:=ax
def pN (a:Int) (b:Int) (c:Int) (d:Int) (e:Int):T :=
 T.new [vI a,vI b,vI c,.int .i32 d,vI e] 62 fun f =>
 T.ah (f.add 3) [.int .i32] fun g =>
 T.ret (.bool (g==(0:Int)))
theorem tu (a:Int) (b:Int) (c:Int) (d:Int) (e:Int):bI Tryz.prog [] Tryz.f128 [.agg #[vI a,vI b,vI c,.int .i32 d,vI e],vI 2]=pN a b c d e:=ax
def pI (a:Int) (b:Int) (c:Int) (d:Int) (e:Int):T :=
 T.new [vI a,vI b,vI c,.int .i32 d,vI e] 62 fun f =>
 T.ah (f.add 3) [.int .i32] fun g =>
 T.ret (.bool (g==(0:Int)))
theorem tz (a:Int) (b:Int) (c:Int) (d:Int) (e:Int):bI Tryz.prog [] Tryz.f128 [.agg #[vI a,vI b,vI c,.int .i32 d,vI e],vI 3]=pI a b c d e:=ax
def pL (a:Int) (b:Int) (c:Int) (d:Int) (e:Int):T :=
 T.new [vI a,vI b,vI c,.int .i32 d,vI e] 62 fun f =>
 T.ah (f.add 3) [.int .i32] fun g =>
 T.ret (.bool (g==(0:Int)))
theorem tp (a:Int) (b:Int) (c:Int) (d:Int) (e:Int):bI Tryz.prog [] Tryz.f128 [.agg #[vI a,vI b,vI c,.int .i32 d,vI e],vI 4]=pL a b c d e:=ax
def pG (a:Int) (b:Int) (c:Int) (d:Int) (e:Int):T :=
 T.new [vI a,vI b,vI c,.int .i32 d,vI e] 62 fun f =>
 T.ah (f.add 3) [.int .i32] fun g =>
 T.ret (.bool (g==(0:Int)))
theorem sW (a:Int) (b:Int) (c:Int) (d:Int) (e:Int):bI Tryz.prog [] Tryz.f128 [.agg #[vI a,vI b,vI c,.int .i32 d,vI e],vI 5]=pG a b c d e:=ax
def pM (a:Int) (b:Int) (c:Int) (d:Int) (e:Int):T :=
 T.new [vI a,vI b,vI c,.int .i32 d,vI e] 62 fun f =>
 T.ah (f.add 3) [.int .i32] fun g =>
 T.ret (.bool (g==(0:Int)))
theorem tq (a:Int) (b:Int) (c:Int) (d:Int) (e:Int):bI Tryz.prog [] Tryz.f128 [.agg #[vI a,vI b,vI c,.int .i32 d,vI e],vI 6]=pM a b c d e:=ax
def pO (a:Int) (b:Int) (c:Int) (d:Int) (e:Int):T :=
 T.new [vI a,vI b,vI c,.int .i32 d,vI e] 62 fun f =>
 T.ret (.bool true)
theorem tJ (a:Int) (b:Int) (c:Int) (d:Int) (e:Int):bI Tryz.prog [] Tryz.f128 [.agg #[vI a,vI b,vI c,.int .i32 d,vI e],vI 7]=pO a b c d e:=ax
def pJ (a:Int) (b:Int) (c:Int) (d:Int) (e:Int):T :=
 T.new [vI a,vI b,vI c,.int .i32 d,vI e] 62 fun f =>
 T.ah (f.add 3) [.int .i32] fun g =>
 aU 143 [.int .i32 g,vI 1] fun h =>
 T.ret (.bool h)
theorem tE (a:Int) (b:Int) (c:Int) (d:Int) (e:Int):bI Tryz.prog [] Tryz.f128 [.agg #[vI a,vI b,vI c,.int .i32 d,vI e],vI 8]=pJ a b c d e:=ax
def pP (a:Int) (b:Int) (c:Int) (d:Int) (e:Int):T :=
 T.new [vI a,vI b,vI c,.int .i32 d,vI e] 62 fun f =>
 T.ah (f.add 3) [.int .i32] fun g =>
 cond (decide (g>=(0:Int)))
 (T.ah (f.add 3) [.int .i32] fun h =>
 T.ret (.bool (decide (h<=(255:Int)))))
 bt
theorem tB (a:Int) (b:Int) (c:Int) (d:Int) (e:Int):bI Tryz.prog [] Tryz.f128 [.agg #[vI a,vI b,vI c,.int .i32 d,vI e],vI 9]=pP a b c d e:=ax
def nI (a:Int) (b:Int) (c:Int) (d:Int) (e:Int):T :=
 T.new [vI a,vI b,vI c,.int .i32 d,vI e] 62 fun f =>
 T.ret (.bool true)
theorem sg (a:Int) (b:Int) (c:Int) (d:Int) (e:Int):bI Tryz.prog [] Tryz.f128 [.agg #[vI a,vI b,vI c,.int .i32 d,vI e],vI 10]=nI a b c d e:=ax
def nW (a:Int) (b:Int) (c:Int) (d:Int) (e:Int):T :=
 T.new [vI a,vI b,vI c,.int .i32 d,vI e] 62 fun f =>
 T.ah (f.add 3) [.int .i32] fun g =>
 cond (decide (g>=(0:Int)))
 (T.ah (f.add 3) [.int .i32] fun h =>
 T.ret (.bool (decide (h<=(4095:Int)))))
 bt
theorem r8 (a:Int) (b:Int) (c:Int) (d:Int) (e:Int):bI Tryz.prog [] Tryz.f128 [.agg #[vI a,vI b,vI c,.int .i32 d,vI e],vI 11]=nW a b c d e:=ax
def n' (a:Int) (b:Int) (c:Int) (d:Int) (e:Int):T :=
 T.new [vI a,vI b,vI c,.int .i32 d,vI e] 62 fun f =>
 T.ah (f.add 3) [.int .i32] fun g =>
 T.ah (f.add 4) [.int .i64] fun h =>
 aU 143 [.int .i32 g,vI h] fun i =>
 T.ret (.bool i)
theorem rY (a:Int) (b:Int) (c:Int) (d:Int) (e:Int):bI Tryz.prog [] Tryz.f128 [.agg #[vI a,vI b,vI c,.int .i32 d,vI e],vI 12]=n' a b c d e:=ax
def nL (a:Int) (b:Int) (c:Int) (d:Int) (e:Int):T :=
 T.new [vI a,vI b,vI c,.int .i32 d,vI e] 62 fun f =>
 T.ah (f.add 3) [.int .i32] fun g =>
 T.ah (f.add 4) [.int .i64] fun h =>
 aU 143 [.int .i32 g,vI h] fun i =>
 T.ret (.bool i)
theorem sq (a:Int) (b:Int) (c:Int) (d:Int) (e:Int):bI Tryz.prog [] Tryz.f128 [.agg #[vI a,vI b,vI c,.int .i32 d,vI e],vI 13]=nL a b c d e:=ax
def pD (a:Int) (b:ZA) (c:Int) (d:Int) (e:Int) (f:Int) (g:Int) (h:Option ZC) (i:Nat) (j:Nat) (k:Int) (l:Int):T :=
 T.new [vI a,.string b,vI c,vI d,vI e,.int .i32 f,vI g,.slice h i j,.int .u32 k,vI l] 64 fun m =>
 T.ah m [.int .i64] fun n =>
 T.new [vI 0,bS,vI 0,vI 0,vI 0,.int .i32 0,vI 0,bd,.int .u32 0,vI 0] 64 fun o =>
 T.aC o [vI n,bS,vI 0,vI 0,vI 0,.int .i32 0,vI 0,bd,.int .u32 0,vI 0] <|
 T.ah m [.int .i64] fun p =>
 cond (p==(1:Int))
 (T.ah (m.add 1) [.string] fun q =>
 T.aC (o.add 1) [.string q] <|
 T.ah (m.add 1) [.string] fun r =>
 aU 79 [.string r] fun s =>
 cond (!s)
 (T.ret (vI 31))
 (T.ah (m.add 1) [.string] fun t =>
 T.ah (o.add 1) [.string] fun u =>
 cond (!((ByteArray.toList t)==(ByteArray.toList u)))
 (T.ret (vI 31))
 (T.ah (m.add 2) [.int .i64,.int .i64,.int .i64,.int .i32,.int .i64] fun v w x y z =>
 T.ah (o.add 2) [.int .i64,.int .i64,.int .i64,.int .i32,.int .i64] fun A B C D E =>
 dQ (Sx.iF (BinOp.neq) 62 (Operand.tmp 109) (Operand.tmp 111) (.agg #[vI v,vI w,vI x,.int .i32 y,vI z]) (.agg #[vI A,vI B,vI C,.int .i32 D,vI E])) fun F =>
 cond F
 (T.ret (vI 31))
 (T.ah (m.add 9) [.int .i64] fun G =>
 T.ah (o.add 9) [.int .i64] fun H =>
 cond (G != H)
 (T.ret (vI 31))
 (T.ah (m.add 7) [.slice 66,.int .u32] fun I J K L =>
 T.ah (o.add 7) [.slice 66,.int .u32] fun M N O P =>
 aU 101 [.agg #[.slice I J K,.int .u32 L],.agg #[.slice M N O,.int .u32 P]] fun Q =>
 cond (!Q)
 (T.ret (vI 31))
 (T.ret (vI 0)))))))
 (cond (p==(2:Int))
 (T.ah (m.add 2) [.int .i64,.int .i64,.int .i64,.int .i32,.int .i64] fun q r s t u =>
 T.ah (m.add 7) [.slice 66,.int .u32] fun v w x y =>
 T.aC (o.add 2) [vI q,vI r,vI s,.int .i32 t,vI u] <|
 T.bf [((m.add 7),[.slice v w x,.int .u32 y])] <|
 T.aC (o.add 7) [.slice v w x,.int .u32 y] <|
 T.ah m [.int .i64,.string,.int .i64,.int .i64,.int .i64,.int .i32,.int .i64,.slice 66,.int .u32,.int .i64] fun z A B C D E F G H I J K =>
 aU 99 [.agg #[vI z,.string A,vI B,vI C,vI D,.int .i32 E,vI F,.slice G H I,.int .u32 J,vI K]] fun L =>
 cond (!L)
 (T.ret (vI 31))
 (T.ah (m.add 1) [.string] fun M =>
 T.ah (o.add 1) [.string] fun N =>
 cond (!((ByteArray.toList M)==(ByteArray.toList N)))
 (T.ret (vI 31))
 (T.ah (m.add 2) [.int .i64,.int .i64,.int .i64,.int .i32,.int .i64] fun O P Q R S =>
 T.ah (o.add 2) [.int .i64,.int .i64,.int .i64,.int .i32,.int .i64] fun U V W X Y =>
 dQ (Sx.iF (BinOp.neq) 62 (Operand.tmp 109) (Operand.tmp 111) (.agg #[vI O,vI P,vI Q,.int .i32 R,vI S]) (.agg #[vI U,vI V,vI W,.int .i32 X,vI Y])) fun Z =>
 cond Z
 (T.ret (vI 31))
 (T.ah (m.add 9) [.int .i64] fun a0 =>
 T.ah (o.add 9) [.int .i64] fun a1 =>
 cond (a0 != a1)
 (T.ret (vI 31))
 (T.ah (m.add 7) [.slice 66,.int .u32] fun a2 a3 a4 a5 =>
 T.ah (o.add 7) [.slice 66,.int .u32] fun a6 a7 a8 a9 =>
 aU 101 [.agg #[.slice a2 a3 a4,.int .u32 a5],.agg #[.slice a6 a7 a8,.int .u32 a9]] fun b0 =>
 cond (!b0)
 (T.ret (vI 31))
 (T.ret (vI 0)))))))
 (cond (p==(3:Int))
 (T.ah (m.add 9) [.int .i64] fun q =>
 T.aC (o.add 9) [vI q] <|
 T.ah (m.add 9) [.int .i64] fun r =>
 aU 100 [vI r] fun s =>
 cond (!s)
 (T.ret (vI 31))
 (T.ah (m.add 1) [.string] fun t =>
 T.ah (o.add 1) [.string] fun u =>
 cond (!((ByteArray.toList t)==(ByteArray.toList u)))
 (T.ret (vI 31))
 (T.ah (m.add 2) [.int .i64,.int .i64,.int .i64,.int .i32,.int .i64] fun v w x y z =>
 T.ah (o.add 2) [.int .i64,.int .i64,.int .i64,.int .i32,.int .i64] fun A B C D E =>
 dQ (Sx.iF (BinOp.neq) 62 (Operand.tmp 109) (Operand.tmp 111) (.agg #[vI v,vI w,vI x,.int .i32 y,vI z]) (.agg #[vI A,vI B,vI C,.int .i32 D,vI E])) fun F =>
 cond F
 (T.ret (vI 31))
 (T.ah (m.add 9) [.int .i64] fun G =>
 T.ah (o.add 9) [.int .i64] fun H =>
 cond (G != H)
 (T.ret (vI 31))
 (T.ah (m.add 7) [.slice 66,.int .u32] fun I J K L =>
 T.ah (o.add 7) [.slice 66,.int .u32] fun M N O P =>
 aU 101 [.agg #[.slice I J K,.int .u32 L],.agg #[.slice M N O,.int .u32 P]] fun Q =>
 cond (!Q)
 (T.ret (vI 31))
 (T.ret (vI 0)))))))
 (cond (p==(4:Int))
 (T.ah (m.add 1) [.string] fun q =>
 T.ah (o.add 1) [.string] fun r =>
 cond (!((ByteArray.toList q)==(ByteArray.toList r)))
 (T.ret (vI 31))
 (T.ah (m.add 2) [.int .i64,.int .i64,.int .i64,.int .i32,.int .i64] fun s t u v w =>
 T.ah (o.add 2) [.int .i64,.int .i64,.int .i64,.int .i32,.int .i64] fun x y z A B =>
 dQ (Sx.iF (BinOp.neq) 62 (Operand.tmp 109) (Operand.tmp 111) (.agg #[vI s,vI t,vI u,.int .i32 v,vI w]) (.agg #[vI x,vI y,vI z,.int .i32 A,vI B])) fun C =>
 cond C
 (T.ret (vI 31))
 (T.ah (m.add 9) [.int .i64] fun D =>
 T.ah (o.add 9) [.int .i64] fun E =>
 cond (D != E)
 (T.ret (vI 31))
 (T.ah (m.add 7) [.slice 66,.int .u32] fun F G H I =>
 T.ah (o.add 7) [.slice 66,.int .u32] fun J K L M =>
 aU 101 [.agg #[.slice F G H,.int .u32 I],.agg #[.slice J K L,.int .u32 M]] fun N =>
 cond (!N)
 (T.ret (vI 31))
 (T.ret (vI 0))))))
 (cond (p==(5:Int))
 (T.ah (m.add 9) [.int .i64] fun q =>
 T.aC (o.add 9) [vI q] <|
 T.ret (vI 31))
 (cond (p==(6:Int))
 (T.ah (m.add 7) [.slice 66,.int .u32] fun q r s t =>
 T.aC (o.add 7) [.slice q r s,.int .u32 t] <|
 T.ret (vI 31))
 (cond (p==(7:Int))
 (T.ah (m.add 9) [.int .i64] fun q =>
 T.aC (o.add 9) [vI q] <|
 T.ret (vI 31))
 (T.ret (vI 31))))))))
theorem tN (a:Int) (b:ZA) (c:Int) (d:Int) (e:Int) (f:Int) (g:Int) (h:Option ZC) (i:Nat) (j:Nat) (k:Int) (l:Int):bI Tryz.prog [] Tryz.f78 [.agg #[vI a,.string b,vI c,vI d,vI e,.int .i32 f,vI g,.slice h i j,.int .u32 k,vI l],vI 0]=pD a b c d e f g h i j k l:=ax
def pQ (a:Int) (b:ZA) (c:Int) (d:Int) (e:Int) (f:Int) (g:Int) (h:Option ZC) (i:Nat) (j:Nat) (k:Int) (l:Int):T :=
 T.new [vI a,.string b,vI c,vI d,vI e,.int .i32 f,vI g,.slice h i j,.int .u32 k,vI l] 64 fun m =>
 T.ah m [.int .i64] fun n =>
 T.new [vI 0,bS,vI 0,vI 0,vI 0,.int .i32 0,vI 0,bd,.int .u32 0,vI 0] 64 fun o =>
 T.aC o [vI n,bS,vI 0,vI 0,vI 0,.int .i32 0,vI 0,bd,.int .u32 0,vI 0] <|
 T.ah m [.int .i64] fun p =>
 cond (p==(1:Int))
 (T.ah (m.add 1) [.string] fun q =>
 T.aC (o.add 1) [.string q] <|
 T.ah (m.add 1) [.string] fun r =>
 aU 79 [.string r] fun s =>
 cond (!s)
 (T.ret (vI 31))
 (T.ah (m.add 1) [.string] fun t =>
 T.ah (o.add 1) [.string] fun u =>
 cond (!((ByteArray.toList t)==(ByteArray.toList u)))
 (T.ret (vI 31))
 (T.ah (m.add 2) [.int .i64,.int .i64,.int .i64,.int .i32,.int .i64] fun v w x y z =>
 T.ah (o.add 2) [.int .i64,.int .i64,.int .i64,.int .i32,.int .i64] fun A B C D E =>
 dQ (Sx.iF (BinOp.neq) 62 (Operand.tmp 109) (Operand.tmp 111) (.agg #[vI v,vI w,vI x,.int .i32 y,vI z]) (.agg #[vI A,vI B,vI C,.int .i32 D,vI E])) fun F =>
 cond F
 (T.ret (vI 31))
 (T.ah (m.add 9) [.int .i64] fun G =>
 T.ah (o.add 9) [.int .i64] fun H =>
 cond (G != H)
 (T.ret (vI 31))
 (T.ah (m.add 7) [.slice 66,.int .u32] fun I J K L =>
 T.ah (o.add 7) [.slice 66,.int .u32] fun M N O P =>
 aU 101 [.agg #[.slice I J K,.int .u32 L],.agg #[.slice M N O,.int .u32 P]] fun Q =>
 cond (!Q)
 (T.ret (vI 31))
 (T.ret (vI 0)))))))
 (cond (p==(2:Int))
 (T.ah (m.add 2) [.int .i64,.int .i64,.int .i64,.int .i32,.int .i64] fun q r s t u =>
 T.ah (m.add 7) [.slice 66,.int .u32] fun v w x y =>
 T.aC (o.add 2) [vI q,vI r,vI s,.int .i32 t,vI u] <|
 T.bf [((m.add 7),[.slice v w x,.int .u32 y])] <|
 T.aC (o.add 7) [.slice v w x,.int .u32 y] <|
 T.ret (vI 31))
 (cond (p==(3:Int))
 (T.ah (m.add 9) [.int .i64] fun q =>
 T.aC (o.add 9) [vI q] <|
 T.ah (m.add 9) [.int .i64] fun r =>
 aU 100 [vI r] fun s =>
 cond (!s)
 (T.ret (vI 31))
 (T.ah (m.add 1) [.string] fun t =>
 T.ah (o.add 1) [.string] fun u =>
 cond (!((ByteArray.toList t)==(ByteArray.toList u)))
 (T.ret (vI 31))
 (T.ah (m.add 2) [.int .i64,.int .i64,.int .i64,.int .i32,.int .i64] fun v w x y z =>
 T.ah (o.add 2) [.int .i64,.int .i64,.int .i64,.int .i32,.int .i64] fun A B C D E =>
 dQ (Sx.iF (BinOp.neq) 62 (Operand.tmp 109) (Operand.tmp 111) (.agg #[vI v,vI w,vI x,.int .i32 y,vI z]) (.agg #[vI A,vI B,vI C,.int .i32 D,vI E])) fun F =>
 cond F
 (T.ret (vI 31))
 (T.ah (m.add 9) [.int .i64] fun G =>
 T.ah (o.add 9) [.int .i64] fun H =>
 cond (G != H)
 (T.ret (vI 31))
 (T.ah (m.add 7) [.slice 66,.int .u32] fun I J K L =>
 T.ah (o.add 7) [.slice 66,.int .u32] fun M N O P =>
 aU 101 [.agg #[.slice I J K,.int .u32 L],.agg #[.slice M N O,.int .u32 P]] fun Q =>
 cond (!Q)
 (T.ret (vI 31))
 (T.ret (vI 0)))))))
 (cond (p==(4:Int))
 (T.ret (vI 31))
 (cond (p==(5:Int))
 (T.ah (m.add 9) [.int .i64] fun q =>
 T.aC (o.add 9) [vI q] <|
 T.ah (m.add 9) [.int .i64] fun r =>
 cond (decide (r>=(-128:Int)))
 (T.ah (m.add 9) [.int .i64] fun s =>
 cond (!(decide (s<=(255:Int))))
 (T.ret (vI 31))
 (T.ah (m.add 1) [.string] fun t =>
 T.ah (o.add 1) [.string] fun u =>
 cond (!((ByteArray.toList t)==(ByteArray.toList u)))
 (T.ret (vI 31))
 (T.ah (m.add 2) [.int .i64,.int .i64,.int .i64,.int .i32,.int .i64] fun v w x y z =>
 T.ah (o.add 2) [.int .i64,.int .i64,.int .i64,.int .i32,.int .i64] fun A B C D E =>
 dQ (Sx.iF (BinOp.neq) 62 (Operand.tmp 109) (Operand.tmp 111) (.agg #[vI v,vI w,vI x,.int .i32 y,vI z]) (.agg #[vI A,vI B,vI C,.int .i32 D,vI E])) fun F =>
 cond F
 (T.ret (vI 31))
 (T.ah (m.add 9) [.int .i64] fun G =>
 T.ah (o.add 9) [.int .i64] fun H =>
 cond (G != H)
 (T.ret (vI 31))
 (T.ah (m.add 7) [.slice 66,.int .u32] fun I J K L =>
 T.ah (o.add 7) [.slice 66,.int .u32] fun M N O P =>
 aU 101 [.agg #[.slice I J K,.int .u32 L],.agg #[.slice M N O,.int .u32 P]] fun Q =>
 cond (!Q)
 (T.ret (vI 31))
 (T.ret (vI 0)))))))
 (T.ret (vI 31)))
 (cond (p==(6:Int))
 (T.ah (m.add 7) [.slice 66,.int .u32] fun q r s t =>
 T.aC (o.add 7) [.slice q r s,.int .u32 t] <|
 T.ah (m.add 7) [.slice 66,.int .u32] fun u v w x =>
 aU 80 [.agg #[.slice u v w,.int .u32 x]] fun y =>
 cond (!y)
 (T.ret (vI 31))
 (T.ah (m.add 1) [.string] fun z =>
 T.ah (o.add 1) [.string] fun A =>
 cond (!((ByteArray.toList z)==(ByteArray.toList A)))
 (T.ret (vI 31))
 (T.ah (m.add 2) [.int .i64,.int .i64,.int .i64,.int .i32,.int .i64] fun B C D E F =>
 T.ah (o.add 2) [.int .i64,.int .i64,.int .i64,.int .i32,.int .i64] fun G H I J K =>
 dQ (Sx.iF (BinOp.neq) 62 (Operand.tmp 109) (Operand.tmp 111) (.agg #[vI B,vI C,vI D,.int .i32 E,vI F]) (.agg #[vI G,vI H,vI I,.int .i32 J,vI K])) fun L =>
 cond L
 (T.ret (vI 31))
 (T.ah (m.add 9) [.int .i64] fun M =>
 T.ah (o.add 9) [.int .i64] fun N =>
 cond (M != N)
 (T.ret (vI 31))
 (T.ah (m.add 7) [.slice 66,.int .u32] fun O P Q R =>
 T.ah (o.add 7) [.slice 66,.int .u32] fun S U V W =>
 aU 101 [.agg #[.slice O P Q,.int .u32 R],.agg #[.slice S U V,.int .u32 W]] fun X =>
 cond (!X)
 (T.ret (vI 31))
 (T.ret (vI 0)))))))
 (cond (p==(7:Int))
 (T.ah (m.add 9) [.int .i64] fun q =>
 T.aC (o.add 9) [vI q] <|
 T.ah (m.add 9) [.int .i64] fun r =>
 cond (decide (r>=(0:Int)))
 (T.ah (m.add 9) [.int .i64] fun s =>
 cond (!(decide (s<=(1048576:Int))))
 (T.ret (vI 31))
 (T.ah (m.add 1) [.string] fun t =>
 T.ah (o.add 1) [.string] fun u =>
 cond (!((ByteArray.toList t)==(ByteArray.toList u)))
 (T.ret (vI 31))
 (T.ah (m.add 2) [.int .i64,.int .i64,.int .i64,.int .i32,.int .i64] fun v w x y z =>
 T.ah (o.add 2) [.int .i64,.int .i64,.int .i64,.int .i32,.int .i64] fun A B C D E =>
 dQ (Sx.iF (BinOp.neq) 62 (Operand.tmp 109) (Operand.tmp 111) (.agg #[vI v,vI w,vI x,.int .i32 y,vI z]) (.agg #[vI A,vI B,vI C,.int .i32 D,vI E])) fun F =>
 cond F
 (T.ret (vI 31))
 (T.ah (m.add 9) [.int .i64] fun G =>
 T.ah (o.add 9) [.int .i64] fun H =>
 cond (G != H)
 (T.ret (vI 31))
 (T.ah (m.add 7) [.slice 66,.int .u32] fun I J K L =>
 T.ah (o.add 7) [.slice 66,.int .u32] fun M N O P =>
 aU 101 [.agg #[.slice I J K,.int .u32 L],.agg #[.slice M N O,.int .u32 P]] fun Q =>
 cond (!Q)
 (T.ret (vI 31))
 (T.ret (vI 0)))))))
 (T.ret (vI 31)))
 (T.ret (vI 31))))))))
theorem sS (a:Int) (b:ZA) (c:Int) (d:Int) (e:Int) (f:Int) (g:Int) (h:Option ZC) (i:Nat) (j:Nat) (k:Int) (l:Int):bI Tryz.prog [] Tryz.f78 [.agg #[vI a,.string b,vI c,vI d,vI e,.int .i32 f,vI g,.slice h i j,.int .u32 k,vI l],vI 1]=pQ a b c d e f g h i j k l:=ax
end Go.Sx
