/- Trees of functions. No condition. -/
import Derived.Test.YthbffkdafjboiaaGreatDoorSxF
import Derived.Test.YthbffkdafjboiaaGreatDoorProg
import Derived.KernelRfl
set_option linter.all false
set_option maxRecDepth 100000
set_option maxHeartbeats 4000000
namespace Go.Sx
open Go.Proofs
def lx (a:Int) (b:Int) (c:Int) (d:Int) (e:Int):T :=
 T.new [vI a,vI b,vI c,.int .i32 d,vI e] 65 fun f =>
 T.ah (f.add 1) [.int .i64] fun g =>
 cond (g==(0:Int))
 (T.ah (f.add 2) [.int .i64] fun h =>
 T.ret (.bool (h==(0:Int))))
 bC
def pZ (a:Int) (b:Int) (c:Int) (d:Int) (e:Int):bQ Tryz.prog [] Tryz.f135 [.agg #[vI a,vI b,vI c,.int .i32 d,vI e],vI 1]=lx a b c d e:=az
def lL (a:Int) (b:Int) (c:Int) (d:Int) (e:Int):T :=
 T.new [vI a,vI b,vI c,.int .i32 d,vI e] 65 fun f =>
 T.ah (f.add 1) [.int .i64] fun g =>
 aT 151 [vI g,vI 8] fun h =>
 cond h
 (T.ah (f.add 2) [.int .i64] fun i =>
 T.ret (.bool (i==(0:Int))))
 bC
def pT (a:Int) (b:Int) (c:Int) (d:Int) (e:Int):bQ Tryz.prog [] Tryz.f135 [.agg #[vI a,vI b,vI c,.int .i32 d,vI e],vI 2]=lL a b c d e:=az
def kZ (a:Int) (b:Int) (c:Int) (d:Int) (e:Int):T :=
 T.new [vI a,vI b,vI c,.int .i32 d,vI e] 65 fun f =>
 T.ah (f.add 1) [.int .i64] fun g =>
 aT 151 [vI g,vI 4] fun h =>
 cond h
 (T.ah (f.add 2) [.int .i64] fun i =>
 T.ret (.bool (i==(0:Int))))
 bC
def qe (a:Int) (b:Int) (c:Int) (d:Int) (e:Int):bQ Tryz.prog [] Tryz.f135 [.agg #[vI a,vI b,vI c,.int .i32 d,vI e],vI 3]=kZ a b c d e:=az
def kT (a:Int) (b:Int) (c:Int) (d:Int) (e:Int):T :=
 T.new [vI a,vI b,vI c,.int .i32 d,vI e] 65 fun f =>
 T.ah (f.add 1) [.int .i64] fun g =>
 aT 151 [vI g,vI 8] fun h =>
 cond h
 (T.ah (f.add 2) [.int .i64] fun i =>
 aT 151 [vI i,vI 8] fun j =>
 T.ret (.bool j))
 bC
def pO (a:Int) (b:Int) (c:Int) (d:Int) (e:Int):bQ Tryz.prog [] Tryz.f135 [.agg #[vI a,vI b,vI c,.int .i32 d,vI e],vI 4]=kT a b c d e:=az
def lC (a:Int) (b:Int) (c:Int) (d:Int) (e:Int):T :=
 T.new [vI a,vI b,vI c,.int .i32 d,vI e] 65 fun f =>
 T.ah (f.add 1) [.int .i64] fun g =>
 aT 151 [vI g,vI 4] fun h =>
 cond h
 (T.ah (f.add 2) [.int .i64] fun i =>
 aT 151 [vI i,vI 4] fun j =>
 T.ret (.bool j))
 bC
def qc (a:Int) (b:Int) (c:Int) (d:Int) (e:Int):bQ Tryz.prog [] Tryz.f135 [.agg #[vI a,vI b,vI c,.int .i32 d,vI e],vI 5]=lC a b c d e:=az
def kX (a:Int) (b:Int) (c:Int) (d:Int) (e:Int):T :=
 T.new [vI a,vI b,vI c,.int .i32 d,vI e] 65 fun f =>
 T.ah (f.add 1) [.int .i64] fun g =>
 aT 151 [vI g,vI 8] fun h =>
 cond h
 (T.ah (f.add 2) [.int .i64] fun i =>
 aT 151 [vI i,vI 4] fun j =>
 T.ret (.bool j))
 bC
def pR (a:Int) (b:Int) (c:Int) (d:Int) (e:Int):bQ Tryz.prog [] Tryz.f135 [.agg #[vI a,vI b,vI c,.int .i32 d,vI e],vI 6]=kX a b c d e:=az
def kR (a:Int) (b:Int) (c:Int) (d:Int) (e:Int):T :=
 T.new [vI a,vI b,vI c,.int .i32 d,vI e] 65 fun f =>
 T.ah (f.add 1) [.int .i64] fun g =>
 aT 151 [vI g,vI 4] fun h =>
 cond h
 (T.ah (f.add 2) [.int .i64] fun i =>
 aT 151 [vI i,vI 8] fun j =>
 cond j
 (T.ah (f.add 3) [.int .i32] fun k =>
 cond (decide (k>=(0:Int)))
 (T.ah (f.add 3) [.int .i32] fun l =>
 T.ret (.bool (decide (l<(8:Int)))))
 bC)
 bC)
 bC
def qa (a:Int) (b:Int) (c:Int) (d:Int) (e:Int):bQ Tryz.prog [] Tryz.f135 [.agg #[vI a,vI b,vI c,.int .i32 d,vI e],vI 7]=kR a b c d e:=az
def kV (a:Int) (b:Int) (c:Int) (d:Int) (e:Int):T :=
 T.new [vI a,vI b,vI c,.int .i32 d,vI e] 65 fun f =>
 T.ah (f.add 1) [.int .i64] fun g =>
 aT 151 [vI g,vI 8] fun h =>
 cond h
 (T.ah (f.add 2) [.int .i64] fun i =>
 T.ret (.bool (i==(0:Int))))
 bC
def qf (a:Int) (b:Int) (c:Int) (d:Int) (e:Int):bQ Tryz.prog [] Tryz.f135 [.agg #[vI a,vI b,vI c,.int .i32 d,vI e],vI 8]=kV a b c d e:=az
def lh (a:Int) (b:Int) (c:Int) (d:Int) (e:Int):T :=
 T.new [vI a,vI b,vI c,.int .i32 d,vI e] 65 fun f =>
 T.ah (f.add 1) [.int .i64] fun g =>
 cond (g==(0:Int))
 (T.ah (f.add 2) [.int .i64] fun h =>
 T.ret (.bool (h==(0:Int))))
 bC
def pQ (a:Int) (b:Int) (c:Int) (d:Int) (e:Int):bQ Tryz.prog [] Tryz.f135 [.agg #[vI a,vI b,vI c,.int .i32 d,vI e],vI 9]=lh a b c d e:=az
def kg (a:Int) (b:Int) (c:Int) (d:Int) (e:Int):T :=
 T.new [vI a,vI b,vI c,.int .i32 d,vI e] 65 fun f =>
 T.ah (f.add 1) [.int .i64] fun g =>
 aT 151 [vI g,vI 8] fun h =>
 cond h
 (T.ah (f.add 2) [.int .i64] fun i =>
 T.ret (.bool (i==(0:Int))))
 bC
def pa (a:Int) (b:Int) (c:Int) (d:Int) (e:Int):bQ Tryz.prog [] Tryz.f135 [.agg #[vI a,vI b,vI c,.int .i32 d,vI e],vI 10]=kg a b c d e:=az
def km (a:Int) (b:Int) (c:Int) (d:Int) (e:Int):T :=
 T.new [vI a,vI b,vI c,.int .i32 d,vI e] 65 fun f =>
 T.ah (f.add 1) [.int .i64] fun g =>
 aT 151 [vI g,vI 8] fun h =>
 cond h
 (T.ah (f.add 2) [.int .i64] fun i =>
 T.ret (.bool (i==(0:Int))))
 bC
def oG (a:Int) (b:Int) (c:Int) (d:Int) (e:Int):bQ Tryz.prog [] Tryz.f135 [.agg #[vI a,vI b,vI c,.int .i32 d,vI e],vI 11]=km a b c d e:=az
def kj (a:Int) (b:Int) (c:Int) (d:Int) (e:Int):T :=
 T.new [vI a,vI b,vI c,.int .i32 d,vI e] 65 fun f =>
 T.ah (f.add 1) [.int .i64] fun g =>
 cond (g==(0:Int))
 (T.ah (f.add 2) [.int .i64] fun h =>
 T.ret (.bool (h==(0:Int))))
 bC
def ow (a:Int) (b:Int) (c:Int) (d:Int) (e:Int):bQ Tryz.prog [] Tryz.f135 [.agg #[vI a,vI b,vI c,.int .i32 d,vI e],vI 12]=kj a b c d e:=az
def kD (a:Int) (b:Int) (c:Int) (d:Int) (e:Int):T :=
 T.new [vI a,vI b,vI c,.int .i32 d,vI e] 65 fun f =>
 T.ah (f.add 1) [.int .i64] fun g =>
 aT 151 [vI g,vI 8] fun h =>
 cond h
 (T.ah (f.add 2) [.int .i64] fun i =>
 T.ret (.bool (i==(0:Int))))
 bC
def oM (a:Int) (b:Int) (c:Int) (d:Int) (e:Int):bQ Tryz.prog [] Tryz.f135 [.agg #[vI a,vI b,vI c,.int .i32 d,vI e],vI 13]=kD a b c d e:=az
def pI (a:Int) (b:Int) (c:Int) (d:Int) (e:Int):T :=
 T.new [vI a,vI b,vI c,.int .i32 d,vI e] 65 fun f =>
 T.ah (f.add 3) [.int .i32] fun g =>
 T.ret (.bool (g==(0:Int)))
def tq (a:Int) (b:Int) (c:Int) (d:Int) (e:Int):bQ Tryz.prog [] Tryz.f136 [.agg #[vI a,vI b,vI c,.int .i32 d,vI e],vI 1]=pI a b c d e:=az
def pF (a:Int) (b:Int) (c:Int) (d:Int) (e:Int):T :=
 T.new [vI a,vI b,vI c,.int .i32 d,vI e] 65 fun f =>
 T.ah (f.add 3) [.int .i32] fun g =>
 T.ret (.bool (g==(0:Int)))
def te (a:Int) (b:Int) (c:Int) (d:Int) (e:Int):bQ Tryz.prog [] Tryz.f136 [.agg #[vI a,vI b,vI c,.int .i32 d,vI e],vI 2]=pF a b c d e:=az
def pJ (a:Int) (b:Int) (c:Int) (d:Int) (e:Int):T :=
 T.new [vI a,vI b,vI c,.int .i32 d,vI e] 65 fun f =>
 T.ah (f.add 3) [.int .i32] fun g =>
 T.ret (.bool (g==(0:Int)))
def sX (a:Int) (b:Int) (c:Int) (d:Int) (e:Int):bQ Tryz.prog [] Tryz.f136 [.agg #[vI a,vI b,vI c,.int .i32 d,vI e],vI 3]=pJ a b c d e:=az
def pH (a:Int) (b:Int) (c:Int) (d:Int) (e:Int):T :=
 T.new [vI a,vI b,vI c,.int .i32 d,vI e] 65 fun f =>
 T.ah (f.add 3) [.int .i32] fun g =>
 T.ret (.bool (g==(0:Int)))
def th (a:Int) (b:Int) (c:Int) (d:Int) (e:Int):bQ Tryz.prog [] Tryz.f136 [.agg #[vI a,vI b,vI c,.int .i32 d,vI e],vI 4]=pH a b c d e:=az
def pD (a:Int) (b:Int) (c:Int) (d:Int) (e:Int):T :=
 T.new [vI a,vI b,vI c,.int .i32 d,vI e] 65 fun f =>
 T.ah (f.add 3) [.int .i32] fun g =>
 T.ret (.bool (g==(0:Int)))
def sS (a:Int) (b:Int) (c:Int) (d:Int) (e:Int):bQ Tryz.prog [] Tryz.f136 [.agg #[vI a,vI b,vI c,.int .i32 d,vI e],vI 5]=pD a b c d e:=az
def pK (a:Int) (b:Int) (c:Int) (d:Int) (e:Int):T :=
 T.new [vI a,vI b,vI c,.int .i32 d,vI e] 65 fun f =>
 T.ah (f.add 3) [.int .i32] fun g =>
 T.ret (.bool (g==(0:Int)))
def tJ (a:Int) (b:Int) (c:Int) (d:Int) (e:Int):bQ Tryz.prog [] Tryz.f136 [.agg #[vI a,vI b,vI c,.int .i32 d,vI e],vI 6]=pK a b c d e:=az
def pN (a:Int) (b:Int) (c:Int) (d:Int) (e:Int):T :=
 T.new [vI a,vI b,vI c,.int .i32 d,vI e] 65 fun f =>
 T.ret (.bool true)
def tM (a:Int) (b:Int) (c:Int) (d:Int) (e:Int):bQ Tryz.prog [] Tryz.f136 [.agg #[vI a,vI b,vI c,.int .i32 d,vI e],vI 7]=pN a b c d e:=az
def pL (a:Int) (b:Int) (c:Int) (d:Int) (e:Int):T :=
 T.new [vI a,vI b,vI c,.int .i32 d,vI e] 65 fun f =>
 T.ah (f.add 3) [.int .i32] fun g =>
 aT 152 [.int .i32 g,vI 1] fun h =>
 T.ret (.bool h)
def tB (a:Int) (b:Int) (c:Int) (d:Int) (e:Int):bQ Tryz.prog [] Tryz.f136 [.agg #[vI a,vI b,vI c,.int .i32 d,vI e],vI 8]=pL a b c d e:=az
def pC (a:Int) (b:Int) (c:Int) (d:Int) (e:Int):T :=
 T.new [vI a,vI b,vI c,.int .i32 d,vI e] 65 fun f =>
 T.ah (f.add 3) [.int .i32] fun g =>
 cond (decide (g>=(0:Int)))
 (T.ah (f.add 3) [.int .i32] fun h =>
 T.ret (.bool (decide (h<=(255:Int)))))
 bC
def sY (a:Int) (b:Int) (c:Int) (d:Int) (e:Int):bQ Tryz.prog [] Tryz.f136 [.agg #[vI a,vI b,vI c,.int .i32 d,vI e],vI 9]=pC a b c d e:=az
def nQ (a:Int) (b:Int) (c:Int) (d:Int) (e:Int):T :=
 T.new [vI a,vI b,vI c,.int .i32 d,vI e] 65 fun f =>
 T.ret (.bool true)
def r9 (a:Int) (b:Int) (c:Int) (d:Int) (e:Int):bQ Tryz.prog [] Tryz.f136 [.agg #[vI a,vI b,vI c,.int .i32 d,vI e],vI 10]=nQ a b c d e:=az
def nW (a:Int) (b:Int) (c:Int) (d:Int) (e:Int):T :=
 T.new [vI a,vI b,vI c,.int .i32 d,vI e] 65 fun f =>
 T.ah (f.add 3) [.int .i32] fun g =>
 cond (decide (g>=(0:Int)))
 (T.ah (f.add 3) [.int .i32] fun h =>
 T.ret (.bool (decide (h<=(4095:Int)))))
 bC
def r6 (a:Int) (b:Int) (c:Int) (d:Int) (e:Int):bQ Tryz.prog [] Tryz.f136 [.agg #[vI a,vI b,vI c,.int .i32 d,vI e],vI 11]=nW a b c d e:=az
def nG (a:Int) (b:Int) (c:Int) (d:Int) (e:Int):T :=
 T.new [vI a,vI b,vI c,.int .i32 d,vI e] 65 fun f =>
 T.ah (f.add 3) [.int .i32] fun g =>
 T.ah (f.add 4) [.int .i64] fun h =>
 aT 152 [.int .i32 g,vI h] fun i =>
 T.ret (.bool i)
def rY (a:Int) (b:Int) (c:Int) (d:Int) (e:Int):bQ Tryz.prog [] Tryz.f136 [.agg #[vI a,vI b,vI c,.int .i32 d,vI e],vI 12]=nG a b c d e:=az
def np (a:Int) (b:Int) (c:Int) (d:Int) (e:Int):T :=
 T.new [vI a,vI b,vI c,.int .i32 d,vI e] 65 fun f =>
 T.ah (f.add 3) [.int .i32] fun g =>
 T.ah (f.add 4) [.int .i64] fun h =>
 aT 152 [.int .i32 g,vI h] fun i =>
 T.ret (.bool i)
def rZ (a:Int) (b:Int) (c:Int) (d:Int) (e:Int):bQ Tryz.prog [] Tryz.f136 [.agg #[vI a,vI b,vI c,.int .i32 d,vI e],vI 13]=np a b c d e:=az
def pG (a:Int) (b:ZA) (c:Int) (d:Int) (e:Int) (f:Int) (g:Int) (h:ZC) (i:Nat) (j:Nat) (k:Int) (l:Int):T :=
 T.new [vI a,.string b,vI c,vI d,vI e,.int .i32 f,vI g,.slice h i j,aH k,vI l] 71 fun m =>
 T.ah m [.int .i64] fun n =>
 T.new [vI 0,bT,vI 0,vI 0,vI 0,.int .i32 0,vI 0,bi,aH 0,vI 0] 71 fun o =>
 T.aE o [vI n,bT,vI 0,vI 0,vI 0,.int .i32 0,vI 0,bi,aH 0,vI 0] <|
 T.ah m [.int .i64] fun p =>
 cond (p==(1:Int))
 (T.ah (m.add 1) [.string] fun q =>
 T.aE (o.add 1) [.string q] <|
 T.ah (m.add 1) [.string] fun r =>
 aT 60 [.string r] fun s =>
 cond (!s)
 (T.ret (vI 31))
 (T.ah (m.add 1) [.string] fun t =>
 T.ah (o.add 1) [.string] fun u =>
 cond (!((ByteArray.toList t)==(ByteArray.toList u)))
 (T.ret (vI 31))
 (T.ah (m.add 2) [.int .i64,.int .i64,.int .i64,.int .i32,.int .i64] fun v w x y z =>
 T.ah (o.add 2) [.int .i64,.int .i64,.int .i64,.int .i32,.int .i64] fun A B C D E =>
 dr (Sx.ir (BinOp.neq) 65 (Operand.tmp 109) (Operand.tmp 111) (.agg #[vI v,vI w,vI x,.int .i32 y,vI z]) (.agg #[vI A,vI B,vI C,.int .i32 D,vI E])) fun F =>
 cond F
 (T.ret (vI 31))
 (T.ah (m.add 9) [.int .i64] fun G =>
 T.ah (o.add 9) [.int .i64] fun H =>
 cond (G != H)
 (T.ret (vI 31))
 (T.ah (m.add 7) (yL 117) fun I J K L =>
 T.ah (o.add 7) (yL 117) fun M N O P =>
 aT 86 [.agg #[.slice I J K,aH L],.agg #[.slice M N O,aH P]] fun Q =>
 cond (!Q)
 (T.ret (vI 31))
 (T.ret (vI 0)))))))
 (cond (p==(2:Int))
 (T.ah (m.add 2) [.int .i64,.int .i64,.int .i64,.int .i32,.int .i64] fun q r s t u =>
 T.ah (m.add 7) (yL 117) fun v w x y =>
 T.aE (o.add 2) [vI q,vI r,vI s,.int .i32 t,vI u] <|
 T.bj [((m.add 7),[.slice v w x,aH y])] <|
 T.aE (o.add 7) [.slice v w x,aH y] <|
 T.ah m (yI 117) fun z A B C D E F G H I J K =>
 aT 84 [.agg #[vI z,.string A,vI B,vI C,vI D,.int .i32 E,vI F,.slice G H I,aH J,vI K]] fun L =>
 cond (!L)
 (T.ret (vI 31))
 (T.ah (m.add 1) [.string] fun M =>
 T.ah (o.add 1) [.string] fun N =>
 cond (!((ByteArray.toList M)==(ByteArray.toList N)))
 (T.ret (vI 31))
 (T.ah (m.add 2) [.int .i64,.int .i64,.int .i64,.int .i32,.int .i64] fun O P Q R S =>
 T.ah (o.add 2) [.int .i64,.int .i64,.int .i64,.int .i32,.int .i64] fun U V W X Y =>
 dr (Sx.ir (BinOp.neq) 65 (Operand.tmp 109) (Operand.tmp 111) (.agg #[vI O,vI P,vI Q,.int .i32 R,vI S]) (.agg #[vI U,vI V,vI W,.int .i32 X,vI Y])) fun Z =>
 cond Z
 (T.ret (vI 31))
 (T.ah (m.add 9) [.int .i64] fun a0 =>
 T.ah (o.add 9) [.int .i64] fun a1 =>
 cond (a0 != a1)
 (T.ret (vI 31))
 (T.ah (m.add 7) (yL 117) fun a2 a3 a4 a5 =>
 T.ah (o.add 7) (yL 117) fun a6 a7 a8 a9 =>
 aT 86 [.agg #[.slice a2 a3 a4,aH a5],.agg #[.slice a6 a7 a8,aH a9]] fun b0 =>
 cond (!b0)
 (T.ret (vI 31))
 (T.ret (vI 0)))))))
 (cond (p==(3:Int))
 (T.ah (m.add 9) [.int .i64] fun q =>
 T.aE (o.add 9) [vI q] <|
 T.ah (m.add 9) [.int .i64] fun r =>
 aT 85 [vI r] fun s =>
 cond (!s)
 (T.ret (vI 31))
 (T.ah (m.add 1) [.string] fun t =>
 T.ah (o.add 1) [.string] fun u =>
 cond (!((ByteArray.toList t)==(ByteArray.toList u)))
 (T.ret (vI 31))
 (T.ah (m.add 2) [.int .i64,.int .i64,.int .i64,.int .i32,.int .i64] fun v w x y z =>
 T.ah (o.add 2) [.int .i64,.int .i64,.int .i64,.int .i32,.int .i64] fun A B C D E =>
 dr (Sx.ir (BinOp.neq) 65 (Operand.tmp 109) (Operand.tmp 111) (.agg #[vI v,vI w,vI x,.int .i32 y,vI z]) (.agg #[vI A,vI B,vI C,.int .i32 D,vI E])) fun F =>
 cond F
 (T.ret (vI 31))
 (T.ah (m.add 9) [.int .i64] fun G =>
 T.ah (o.add 9) [.int .i64] fun H =>
 cond (G != H)
 (T.ret (vI 31))
 (T.ah (m.add 7) (yL 117) fun I J K L =>
 T.ah (o.add 7) (yL 117) fun M N O P =>
 aT 86 [.agg #[.slice I J K,aH L],.agg #[.slice M N O,aH P]] fun Q =>
 cond (!Q)
 (T.ret (vI 31))
 (T.ret (vI 0)))))))
 (cond (p==(4:Int))
 (T.ah (m.add 1) [.string] fun q =>
 T.ah (o.add 1) [.string] fun r =>
 cond (!((ByteArray.toList q)==(ByteArray.toList r)))
 (T.ret (vI 31))
 (T.ah (m.add 2) [.int .i64,.int .i64,.int .i64,.int .i32,.int .i64] fun s t u v w =>
 T.ah (o.add 2) [.int .i64,.int .i64,.int .i64,.int .i32,.int .i64] fun x y z A B =>
 dr (Sx.ir (BinOp.neq) 65 (Operand.tmp 109) (Operand.tmp 111) (.agg #[vI s,vI t,vI u,.int .i32 v,vI w]) (.agg #[vI x,vI y,vI z,.int .i32 A,vI B])) fun C =>
 cond C
 (T.ret (vI 31))
 (T.ah (m.add 9) [.int .i64] fun D =>
 T.ah (o.add 9) [.int .i64] fun E =>
 cond (D != E)
 (T.ret (vI 31))
 (T.ah (m.add 7) (yL 117) fun F G H I =>
 T.ah (o.add 7) (yL 117) fun J K L M =>
 aT 86 [.agg #[.slice F G H,aH I],.agg #[.slice J K L,aH M]] fun N =>
 cond (!N)
 (T.ret (vI 31))
 (T.ret (vI 0))))))
 (cond (p==(5:Int))
 (T.ah (m.add 9) [.int .i64] fun q =>
 T.aE (o.add 9) [vI q] <|
 T.ret (vI 31))
 (cond (p==(6:Int))
 (T.ah (m.add 7) (yL 117) fun q r s t =>
 T.aE (o.add 7) [.slice q r s,aH t] <|
 T.ret (vI 31))
 (cond (p==(7:Int))
 (T.ah (m.add 9) [.int .i64] fun q =>
 T.aE (o.add 9) [vI q] <|
 T.ret (vI 31))
 (T.ret (vI 31))))))))
def tp (a:Int) (b:ZA) (c:Int) (d:Int) (e:Int) (f:Int) (g:Int) (h:ZC) (i:Nat) (j:Nat) (k:Int) (l:Int):bQ Tryz.prog [] Tryz.f59 [.agg #[vI a,.string b,vI c,vI d,vI e,.int .i32 f,vI g,.slice h i j,.int .u32 k,vI l],vI 0]=pG a b c d e f g h i j k l:=az
def pA (a:Int) (b:ZA) (c:Int) (d:Int) (e:Int) (f:Int) (g:Int) (h:ZC) (i:Nat) (j:Nat) (k:Int) (l:Int):T :=
 T.new [vI a,.string b,vI c,vI d,vI e,.int .i32 f,vI g,.slice h i j,aH k,vI l] 71 fun m =>
 T.ah m [.int .i64] fun n =>
 T.new [vI 0,bT,vI 0,vI 0,vI 0,.int .i32 0,vI 0,bi,aH 0,vI 0] 71 fun o =>
 T.aE o [vI n,bT,vI 0,vI 0,vI 0,.int .i32 0,vI 0,bi,aH 0,vI 0] <|
 T.ah m [.int .i64] fun p =>
 cond (p==(1:Int))
 (T.ah (m.add 1) [.string] fun q =>
 T.aE (o.add 1) [.string q] <|
 T.ah (m.add 1) [.string] fun r =>
 aT 60 [.string r] fun s =>
 cond (!s)
 (T.ret (vI 31))
 (T.ah (m.add 1) [.string] fun t =>
 T.ah (o.add 1) [.string] fun u =>
 cond (!((ByteArray.toList t)==(ByteArray.toList u)))
 (T.ret (vI 31))
 (T.ah (m.add 2) [.int .i64,.int .i64,.int .i64,.int .i32,.int .i64] fun v w x y z =>
 T.ah (o.add 2) [.int .i64,.int .i64,.int .i64,.int .i32,.int .i64] fun A B C D E =>
 dr (Sx.ir (BinOp.neq) 65 (Operand.tmp 109) (Operand.tmp 111) (.agg #[vI v,vI w,vI x,.int .i32 y,vI z]) (.agg #[vI A,vI B,vI C,.int .i32 D,vI E])) fun F =>
 cond F
 (T.ret (vI 31))
 (T.ah (m.add 9) [.int .i64] fun G =>
 T.ah (o.add 9) [.int .i64] fun H =>
 cond (G != H)
 (T.ret (vI 31))
 (T.ah (m.add 7) (yL 117) fun I J K L =>
 T.ah (o.add 7) (yL 117) fun M N O P =>
 aT 86 [.agg #[.slice I J K,aH L],.agg #[.slice M N O,aH P]] fun Q =>
 cond (!Q)
 (T.ret (vI 31))
 (T.ret (vI 0)))))))
 (cond (p==(2:Int))
 (T.ah (m.add 2) [.int .i64,.int .i64,.int .i64,.int .i32,.int .i64] fun q r s t u =>
 T.ah (m.add 7) (yL 117) fun v w x y =>
 T.aE (o.add 2) [vI q,vI r,vI s,.int .i32 t,vI u] <|
 T.bj [((m.add 7),[.slice v w x,aH y])] <|
 T.aE (o.add 7) [.slice v w x,aH y] <|
 T.ret (vI 31))
 (cond (p==(3:Int))
 (T.ah (m.add 9) [.int .i64] fun q =>
 T.aE (o.add 9) [vI q] <|
 T.ah (m.add 9) [.int .i64] fun r =>
 aT 85 [vI r] fun s =>
 cond (!s)
 (T.ret (vI 31))
 (T.ah (m.add 1) [.string] fun t =>
 T.ah (o.add 1) [.string] fun u =>
 cond (!((ByteArray.toList t)==(ByteArray.toList u)))
 (T.ret (vI 31))
 (T.ah (m.add 2) [.int .i64,.int .i64,.int .i64,.int .i32,.int .i64] fun v w x y z =>
 T.ah (o.add 2) [.int .i64,.int .i64,.int .i64,.int .i32,.int .i64] fun A B C D E =>
 dr (Sx.ir (BinOp.neq) 65 (Operand.tmp 109) (Operand.tmp 111) (.agg #[vI v,vI w,vI x,.int .i32 y,vI z]) (.agg #[vI A,vI B,vI C,.int .i32 D,vI E])) fun F =>
 cond F
 (T.ret (vI 31))
 (T.ah (m.add 9) [.int .i64] fun G =>
 T.ah (o.add 9) [.int .i64] fun H =>
 cond (G != H)
 (T.ret (vI 31))
 (T.ah (m.add 7) (yL 117) fun I J K L =>
 T.ah (o.add 7) (yL 117) fun M N O P =>
 aT 86 [.agg #[.slice I J K,aH L],.agg #[.slice M N O,aH P]] fun Q =>
 cond (!Q)
 (T.ret (vI 31))
 (T.ret (vI 0)))))))
 (cond (p==(4:Int))
 (T.ret (vI 31))
 (cond (p==(5:Int))
 (T.ah (m.add 9) [.int .i64] fun q =>
 T.aE (o.add 9) [vI q] <|
 T.ah (m.add 9) [.int .i64] fun r =>
 cond (decide (r>=(-128:Int)))
 (T.ah (m.add 9) [.int .i64] fun s =>
 cond (!(decide (s<=(255:Int))))
 (T.ret (vI 31))
 (T.ah (m.add 1) [.string] fun t =>
 T.ah (o.add 1) [.string] fun u =>
 cond (!((ByteArray.toList t)==(ByteArray.toList u)))
 (T.ret (vI 31))
 (T.ah (m.add 2) [.int .i64,.int .i64,.int .i64,.int .i32,.int .i64] fun v w x y z =>
 T.ah (o.add 2) [.int .i64,.int .i64,.int .i64,.int .i32,.int .i64] fun A B C D E =>
 dr (Sx.ir (BinOp.neq) 65 (Operand.tmp 109) (Operand.tmp 111) (.agg #[vI v,vI w,vI x,.int .i32 y,vI z]) (.agg #[vI A,vI B,vI C,.int .i32 D,vI E])) fun F =>
 cond F
 (T.ret (vI 31))
 (T.ah (m.add 9) [.int .i64] fun G =>
 T.ah (o.add 9) [.int .i64] fun H =>
 cond (G != H)
 (T.ret (vI 31))
 (T.ah (m.add 7) (yL 117) fun I J K L =>
 T.ah (o.add 7) (yL 117) fun M N O P =>
 aT 86 [.agg #[.slice I J K,aH L],.agg #[.slice M N O,aH P]] fun Q =>
 cond (!Q)
 (T.ret (vI 31))
 (T.ret (vI 0)))))))
 (T.ret (vI 31)))
 (cond (p==(6:Int))
 (T.ah (m.add 7) (yL 117) fun q r s t =>
 T.aE (o.add 7) [.slice q r s,aH t] <|
 T.ah (m.add 7) (yL 117) fun u v w x =>
 aT 61 [.agg #[.slice u v w,aH x]] fun y =>
 cond (!y)
 (T.ret (vI 31))
 (T.ah (m.add 1) [.string] fun z =>
 T.ah (o.add 1) [.string] fun A =>
 cond (!((ByteArray.toList z)==(ByteArray.toList A)))
 (T.ret (vI 31))
 (T.ah (m.add 2) [.int .i64,.int .i64,.int .i64,.int .i32,.int .i64] fun B C D E F =>
 T.ah (o.add 2) [.int .i64,.int .i64,.int .i64,.int .i32,.int .i64] fun G H I J K =>
 dr (Sx.ir (BinOp.neq) 65 (Operand.tmp 109) (Operand.tmp 111) (.agg #[vI B,vI C,vI D,.int .i32 E,vI F]) (.agg #[vI G,vI H,vI I,.int .i32 J,vI K])) fun L =>
 cond L
 (T.ret (vI 31))
 (T.ah (m.add 9) [.int .i64] fun M =>
 T.ah (o.add 9) [.int .i64] fun N =>
 cond (M != N)
 (T.ret (vI 31))
 (T.ah (m.add 7) (yL 117) fun O P Q R =>
 T.ah (o.add 7) (yL 117) fun S U V W =>
 aT 86 [.agg #[.slice O P Q,aH R],.agg #[.slice S U V,aH W]] fun X =>
 cond (!X)
 (T.ret (vI 31))
 (T.ret (vI 0)))))))
 (cond (p==(7:Int))
 (T.ah (m.add 9) [.int .i64] fun q =>
 T.aE (o.add 9) [vI q] <|
 T.ah (m.add 9) [.int .i64] fun r =>
 cond (decide (r>=(0:Int)))
 (T.ah (m.add 9) [.int .i64] fun s =>
 cond (!(decide (s<=(1048576:Int))))
 (T.ret (vI 31))
 (T.ah (m.add 1) [.string] fun t =>
 T.ah (o.add 1) [.string] fun u =>
 cond (!((ByteArray.toList t)==(ByteArray.toList u)))
 (T.ret (vI 31))
 (T.ah (m.add 2) [.int .i64,.int .i64,.int .i64,.int .i32,.int .i64] fun v w x y z =>
 T.ah (o.add 2) [.int .i64,.int .i64,.int .i64,.int .i32,.int .i64] fun A B C D E =>
 dr (Sx.ir (BinOp.neq) 65 (Operand.tmp 109) (Operand.tmp 111) (.agg #[vI v,vI w,vI x,.int .i32 y,vI z]) (.agg #[vI A,vI B,vI C,.int .i32 D,vI E])) fun F =>
 cond F
 (T.ret (vI 31))
 (T.ah (m.add 9) [.int .i64] fun G =>
 T.ah (o.add 9) [.int .i64] fun H =>
 cond (G != H)
 (T.ret (vI 31))
 (T.ah (m.add 7) (yL 117) fun I J K L =>
 T.ah (o.add 7) (yL 117) fun M N O P =>
 aT 86 [.agg #[.slice I J K,aH L],.agg #[.slice M N O,aH P]] fun Q =>
 cond (!Q)
 (T.ret (vI 31))
 (T.ret (vI 0)))))))
 (T.ret (vI 31)))
 (T.ret (vI 31))))))))
def tv (a:Int) (b:ZA) (c:Int) (d:Int) (e:Int) (f:Int) (g:Int) (h:ZC) (i:Nat) (j:Nat) (k:Int) (l:Int):bQ Tryz.prog [] Tryz.f59 [.agg #[vI a,.string b,vI c,vI d,vI e,.int .i32 f,vI g,.slice h i j,.int .u32 k,vI l],vI 1]=pA a b c d e f g h i j k l:=az
def jN (a:ZC) (b c:Nat):T :=
 T.loop [cg,aR,aR] [.bool false,vI 0,vI 0] fun d e f =>
 bG f b
 (cond (decide (f<(65:Int)))
 (bf f b a fun g =>
 T.ah (g.add (aQ f 4)) [.slice 71] fun h i j =>
 cond (decide ((i:Int)>(600:Int)))
 dL
 (bf f b a fun k =>
 T.ah ((k.add (aQ f 4)).add 1) [.slice 71] fun l m n =>
 cond (decide ((m:Int)>(300:Int)))
 dL
 (bf f b a fun o =>
 T.ah ((o.add (aQ f 4)).add 2) [.slice 100] fun p q r =>
 cond (decide ((q:Int)>(100:Int)))
 dL
 (bf f b a fun s =>
 T.ah (s.add (aQ f 4)) [.slice 71] fun t u v =>
 bf f b a fun w =>
 T.ah ((w.add (aQ f 4)).add 1) [.slice 71] fun x y z =>
 bf f b a fun A =>
 T.ah ((A.add (aQ f 4)).add 2) [.slice 100] fun B C D =>
 T.again 0 [.bool d,vI (bt ((bt ((bt (e+(u:Int)))+(y:Int)))+(C:Int))),bh f]))))
 (T.ret (.bool (decide (e>(900:Int))))))
 (T.ret (.bool (decide (e>(900:Int)))))
def oh (a:ZC) (b c:Nat):bQ Tryz.prog [] Tryz.f25 [.slice a b c]=jN a b c:=az
end Go.Sx
