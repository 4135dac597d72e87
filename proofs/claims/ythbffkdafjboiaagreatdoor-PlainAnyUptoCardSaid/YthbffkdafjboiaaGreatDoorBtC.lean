/- Trees of functions. No condition. -/
import Derived.Test.YthbffkdafjboiaaGreatDoorSxF
import Derived.Test.YthbffkdafjboiaaGreatDoorProg
import Derived.KernelRfl
set_option linter.all false
set_option maxRecDepth 100000
set_option maxHeartbeats 4000000
namespace Go.Sx
open Go.Proofs
def lW (a:Int) (b:Int) (c:Int) (d:Int) (e:Int):T :=
 T.new [vI a,vI b,vI c,.int .i32 d,vI e] 65 fun f =>
 T.ah (f.add 1) [.int .i64] fun g =>
 cond (g==(0:Int))
 (T.ah (f.add 2) [.int .i64] fun h =>
 T.ret (.bool (h==(0:Int))))
 bC
def qI (a:Int) (b:Int) (c:Int) (d:Int) (e:Int):bM Tryz.prog [] Tryz.f135 [.agg #[vI a,vI b,vI c,.int .i32 d,vI e],vI 1]=lW a b c d e:=az
def mu (a:Int) (b:Int) (c:Int) (d:Int) (e:Int):T :=
 T.new [vI a,vI b,vI c,.int .i32 d,vI e] 65 fun f =>
 T.ah (f.add 1) [.int .i64] fun g =>
 aX 151 [vI g,vI 8] fun h =>
 cond h
 (T.ah (f.add 2) [.int .i64] fun i =>
 T.ret (.bool (i==(0:Int))))
 bC
def qC (a:Int) (b:Int) (c:Int) (d:Int) (e:Int):bM Tryz.prog [] Tryz.f135 [.agg #[vI a,vI b,vI c,.int .i32 d,vI e],vI 2]=mu a b c d e:=az
def lO (a:Int) (b:Int) (c:Int) (d:Int) (e:Int):T :=
 T.new [vI a,vI b,vI c,.int .i32 d,vI e] 65 fun f =>
 T.ah (f.add 1) [.int .i64] fun g =>
 aX 151 [vI g,vI 4] fun h =>
 cond h
 (T.ah (f.add 2) [.int .i64] fun i =>
 T.ret (.bool (i==(0:Int))))
 bC
def qN (a:Int) (b:Int) (c:Int) (d:Int) (e:Int):bM Tryz.prog [] Tryz.f135 [.agg #[vI a,vI b,vI c,.int .i32 d,vI e],vI 3]=lO a b c d e:=az
def lH (a:Int) (b:Int) (c:Int) (d:Int) (e:Int):T :=
 T.new [vI a,vI b,vI c,.int .i32 d,vI e] 65 fun f =>
 T.ah (f.add 1) [.int .i64] fun g =>
 aX 151 [vI g,vI 8] fun h =>
 cond h
 (T.ah (f.add 2) [.int .i64] fun i =>
 aX 151 [vI i,vI 8] fun j =>
 T.ret (.bool j))
 bC
def qx (a:Int) (b:Int) (c:Int) (d:Int) (e:Int):bM Tryz.prog [] Tryz.f135 [.agg #[vI a,vI b,vI c,.int .i32 d,vI e],vI 4]=lH a b c d e:=az
def ma (a:Int) (b:Int) (c:Int) (d:Int) (e:Int):T :=
 T.new [vI a,vI b,vI c,.int .i32 d,vI e] 65 fun f =>
 T.ah (f.add 1) [.int .i64] fun g =>
 aX 151 [vI g,vI 4] fun h =>
 cond h
 (T.ah (f.add 2) [.int .i64] fun i =>
 aX 151 [vI i,vI 4] fun j =>
 T.ret (.bool j))
 bC
def qL (a:Int) (b:Int) (c:Int) (d:Int) (e:Int):bM Tryz.prog [] Tryz.f135 [.agg #[vI a,vI b,vI c,.int .i32 d,vI e],vI 5]=ma a b c d e:=az
def lM (a:Int) (b:Int) (c:Int) (d:Int) (e:Int):T :=
 T.new [vI a,vI b,vI c,.int .i32 d,vI e] 65 fun f =>
 T.ah (f.add 1) [.int .i64] fun g =>
 aX 151 [vI g,vI 8] fun h =>
 cond h
 (T.ah (f.add 2) [.int .i64] fun i =>
 aX 151 [vI i,vI 4] fun j =>
 T.ret (.bool j))
 bC
def qA (a:Int) (b:Int) (c:Int) (d:Int) (e:Int):bM Tryz.prog [] Tryz.f135 [.agg #[vI a,vI b,vI c,.int .i32 d,vI e],vI 6]=lM a b c d e:=az
def lF (a:Int) (b:Int) (c:Int) (d:Int) (e:Int):T :=
 T.new [vI a,vI b,vI c,.int .i32 d,vI e] 65 fun f =>
 T.ah (f.add 1) [.int .i64] fun g =>
 aX 151 [vI g,vI 4] fun h =>
 cond h
 (T.ah (f.add 2) [.int .i64] fun i =>
 aX 151 [vI i,vI 8] fun j =>
 cond j
 (T.ah (f.add 3) [.int .i32] fun k =>
 cond (decide (k>=(0:Int)))
 (T.ah (f.add 3) [.int .i32] fun l =>
 T.ret (.bool (decide (l<(8:Int)))))
 bC)
 bC)
 bC
def qJ (a:Int) (b:Int) (c:Int) (d:Int) (e:Int):bM Tryz.prog [] Tryz.f135 [.agg #[vI a,vI b,vI c,.int .i32 d,vI e],vI 7]=lF a b c d e:=az
def lJ (a:Int) (b:Int) (c:Int) (d:Int) (e:Int):T :=
 T.new [vI a,vI b,vI c,.int .i32 d,vI e] 65 fun f =>
 T.ah (f.add 1) [.int .i64] fun g =>
 aX 151 [vI g,vI 8] fun h =>
 cond h
 (T.ah (f.add 2) [.int .i64] fun i =>
 T.ret (.bool (i==(0:Int))))
 bC
def qO (a:Int) (b:Int) (c:Int) (d:Int) (e:Int):bM Tryz.prog [] Tryz.f135 [.agg #[vI a,vI b,vI c,.int .i32 d,vI e],vI 8]=lJ a b c d e:=az
def lQ (a:Int) (b:Int) (c:Int) (d:Int) (e:Int):T :=
 T.new [vI a,vI b,vI c,.int .i32 d,vI e] 65 fun f =>
 T.ah (f.add 1) [.int .i64] fun g =>
 cond (g==(0:Int))
 (T.ah (f.add 2) [.int .i64] fun h =>
 T.ret (.bool (h==(0:Int))))
 bC
def qz (a:Int) (b:Int) (c:Int) (d:Int) (e:Int):bM Tryz.prog [] Tryz.f135 [.agg #[vI a,vI b,vI c,.int .i32 d,vI e],vI 9]=lQ a b c d e:=az
def kJ (a:Int) (b:Int) (c:Int) (d:Int) (e:Int):T :=
 T.new [vI a,vI b,vI c,.int .i32 d,vI e] 65 fun f =>
 T.ah (f.add 1) [.int .i64] fun g =>
 aX 151 [vI g,vI 8] fun h =>
 cond h
 (T.ah (f.add 2) [.int .i64] fun i =>
 T.ret (.bool (i==(0:Int))))
 bC
def pW (a:Int) (b:Int) (c:Int) (d:Int) (e:Int):bM Tryz.prog [] Tryz.f135 [.agg #[vI a,vI b,vI c,.int .i32 d,vI e],vI 10]=kJ a b c d e:=az
def kM (a:Int) (b:Int) (c:Int) (d:Int) (e:Int):T :=
 T.new [vI a,vI b,vI c,.int .i32 d,vI e] 65 fun f =>
 T.ah (f.add 1) [.int .i64] fun g =>
 aX 151 [vI g,vI 8] fun h =>
 cond h
 (T.ah (f.add 2) [.int .i64] fun i =>
 T.ret (.bool (i==(0:Int))))
 bC
def pA (a:Int) (b:Int) (c:Int) (d:Int) (e:Int):bM Tryz.prog [] Tryz.f135 [.agg #[vI a,vI b,vI c,.int .i32 d,vI e],vI 11]=kM a b c d e:=az
def kL (a:Int) (b:Int) (c:Int) (d:Int) (e:Int):T :=
 T.new [vI a,vI b,vI c,.int .i32 d,vI e] 65 fun f =>
 T.ah (f.add 1) [.int .i64] fun g =>
 cond (g==(0:Int))
 (T.ah (f.add 2) [.int .i64] fun h =>
 T.ret (.bool (h==(0:Int))))
 bC
def pf (a:Int) (b:Int) (c:Int) (d:Int) (e:Int):bM Tryz.prog [] Tryz.f135 [.agg #[vI a,vI b,vI c,.int .i32 d,vI e],vI 12]=kL a b c d e:=az
def kX (a:Int) (b:Int) (c:Int) (d:Int) (e:Int):T :=
 T.new [vI a,vI b,vI c,.int .i32 d,vI e] 65 fun f =>
 T.ah (f.add 1) [.int .i64] fun g =>
 aX 151 [vI g,vI 8] fun h =>
 cond h
 (T.ah (f.add 2) [.int .i64] fun i =>
 T.ret (.bool (i==(0:Int))))
 bC
def pH (a:Int) (b:Int) (c:Int) (d:Int) (e:Int):bM Tryz.prog [] Tryz.f135 [.agg #[vI a,vI b,vI c,.int .i32 d,vI e],vI 13]=kX a b c d e:=az
def qn (a:Int) (b:Int) (c:Int) (d:Int) (e:Int):T :=
 T.new [vI a,vI b,vI c,.int .i32 d,vI e] 65 fun f =>
 T.ah (f.add 3) [.int .i32] fun g =>
 T.ret (.bool (g==(0:Int)))
def uh (a:Int) (b:Int) (c:Int) (d:Int) (e:Int):bM Tryz.prog [] Tryz.f136 [.agg #[vI a,vI b,vI c,.int .i32 d,vI e],vI 1]=qn a b c d e:=az
def qk (a:Int) (b:Int) (c:Int) (d:Int) (e:Int):T :=
 T.new [vI a,vI b,vI c,.int .i32 d,vI e] 65 fun f =>
 T.ah (f.add 3) [.int .i32] fun g =>
 T.ret (.bool (g==(0:Int)))
def tZ (a:Int) (b:Int) (c:Int) (d:Int) (e:Int):bM Tryz.prog [] Tryz.f136 [.agg #[vI a,vI b,vI c,.int .i32 d,vI e],vI 2]=qk a b c d e:=az
def qo (a:Int) (b:Int) (c:Int) (d:Int) (e:Int):T :=
 T.new [vI a,vI b,vI c,.int .i32 d,vI e] 65 fun f =>
 T.ah (f.add 3) [.int .i32] fun g =>
 T.ret (.bool (g==(0:Int)))
def tW (a:Int) (b:Int) (c:Int) (d:Int) (e:Int):bM Tryz.prog [] Tryz.f136 [.agg #[vI a,vI b,vI c,.int .i32 d,vI e],vI 3]=qo a b c d e:=az
def qm (a:Int) (b:Int) (c:Int) (d:Int) (e:Int):T :=
 T.new [vI a,vI b,vI c,.int .i32 d,vI e] 65 fun f =>
 T.ah (f.add 3) [.int .i32] fun g =>
 T.ret (.bool (g==(0:Int)))
def uc (a:Int) (b:Int) (c:Int) (d:Int) (e:Int):bM Tryz.prog [] Tryz.f136 [.agg #[vI a,vI b,vI c,.int .i32 d,vI e],vI 4]=qm a b c d e:=az
def qj (a:Int) (b:Int) (c:Int) (d:Int) (e:Int):T :=
 T.new [vI a,vI b,vI c,.int .i32 d,vI e] 65 fun f =>
 T.ah (f.add 3) [.int .i32] fun g =>
 T.ret (.bool (g==(0:Int)))
def tS (a:Int) (b:Int) (c:Int) (d:Int) (e:Int):bM Tryz.prog [] Tryz.f136 [.agg #[vI a,vI b,vI c,.int .i32 d,vI e],vI 5]=qj a b c d e:=az
def qp (a:Int) (b:Int) (c:Int) (d:Int) (e:Int):T :=
 T.new [vI a,vI b,vI c,.int .i32 d,vI e] 65 fun f =>
 T.ah (f.add 3) [.int .i32] fun g =>
 T.ret (.bool (g==(0:Int)))
def uz (a:Int) (b:Int) (c:Int) (d:Int) (e:Int):bM Tryz.prog [] Tryz.f136 [.agg #[vI a,vI b,vI c,.int .i32 d,vI e],vI 6]=qp a b c d e:=az
def qv (a:Int) (b:Int) (c:Int) (d:Int) (e:Int):T :=
 T.new [vI a,vI b,vI c,.int .i32 d,vI e] 65 fun f =>
 T.ret (.bool true)
def uB (a:Int) (b:Int) (c:Int) (d:Int) (e:Int):bM Tryz.prog [] Tryz.f136 [.agg #[vI a,vI b,vI c,.int .i32 d,vI e],vI 7]=qv a b c d e:=az
def qt (a:Int) (b:Int) (c:Int) (d:Int) (e:Int):T :=
 T.new [vI a,vI b,vI c,.int .i32 d,vI e] 65 fun f =>
 T.ah (f.add 3) [.int .i32] fun g =>
 aX 152 [.int .i32 g,vI 1] fun h =>
 T.ret (.bool h)
def um (a:Int) (b:Int) (c:Int) (d:Int) (e:Int):bM Tryz.prog [] Tryz.f136 [.agg #[vI a,vI b,vI c,.int .i32 d,vI e],vI 8]=qt a b c d e:=az
def qi (a:Int) (b:Int) (c:Int) (d:Int) (e:Int):T :=
 T.new [vI a,vI b,vI c,.int .i32 d,vI e] 65 fun f =>
 T.ah (f.add 3) [.int .i32] fun g =>
 cond (decide (g>=(0:Int)))
 (T.ah (f.add 3) [.int .i32] fun h =>
 T.ret (.bool (decide (h<=(255:Int)))))
 bC
def tX (a:Int) (b:Int) (c:Int) (d:Int) (e:Int):bM Tryz.prog [] Tryz.f136 [.agg #[vI a,vI b,vI c,.int .i32 d,vI e],vI 9]=qi a b c d e:=az
def oH (a:Int) (b:Int) (c:Int) (d:Int) (e:Int):T :=
 T.new [vI a,vI b,vI c,.int .i32 d,vI e] 65 fun f =>
 T.ret (.bool true)
def tf (a:Int) (b:Int) (c:Int) (d:Int) (e:Int):bM Tryz.prog [] Tryz.f136 [.agg #[vI a,vI b,vI c,.int .i32 d,vI e],vI 10]=oH a b c d e:=az
def oO (a:Int) (b:Int) (c:Int) (d:Int) (e:Int):T :=
 T.new [vI a,vI b,vI c,.int .i32 d,vI e] 65 fun f =>
 T.ah (f.add 3) [.int .i32] fun g =>
 cond (decide (g>=(0:Int)))
 (T.ah (f.add 3) [.int .i32] fun h =>
 T.ret (.bool (decide (h<=(4095:Int)))))
 bC
def sY (a:Int) (b:Int) (c:Int) (d:Int) (e:Int):bM Tryz.prog [] Tryz.f136 [.agg #[vI a,vI b,vI c,.int .i32 d,vI e],vI 11]=oO a b c d e:=az
def ox (a:Int) (b:Int) (c:Int) (d:Int) (e:Int):T :=
 T.new [vI a,vI b,vI c,.int .i32 d,vI e] 65 fun f =>
 T.ah (f.add 3) [.int .i32] fun g =>
 T.ah (f.add 4) [.int .i64] fun h =>
 aX 152 [.int .i32 g,vI h] fun i =>
 T.ret (.bool i)
def sV (a:Int) (b:Int) (c:Int) (d:Int) (e:Int):bM Tryz.prog [] Tryz.f136 [.agg #[vI a,vI b,vI c,.int .i32 d,vI e],vI 12]=ox a b c d e:=az
def n' (a:Int) (b:Int) (c:Int) (d:Int) (e:Int):T :=
 T.new [vI a,vI b,vI c,.int .i32 d,vI e] 65 fun f =>
 T.ah (f.add 3) [.int .i32] fun g =>
 T.ah (f.add 4) [.int .i64] fun h =>
 aX 152 [.int .i32 g,vI h] fun i =>
 T.ret (.bool i)
def sW (a:Int) (b:Int) (c:Int) (d:Int) (e:Int):bM Tryz.prog [] Tryz.f136 [.agg #[vI a,vI b,vI c,.int .i32 d,vI e],vI 13]=n' a b c d e:=az
def ql (a:Int) (b:Xaa) (c:Int) (d:Int) (e:Int) (f:Int) (g:Int) (h:Xac) (i:Nat) (j:Nat) (k:Int) (l:Int):T :=
 T.new [vI a,.string b,vI c,vI d,vI e,.int .i32 f,vI g,.slice h i j,aH k,vI l] 71 fun m =>
 T.ah m [.int .i64] fun n =>
 T.new [vI 0,bX,vI 0,vI 0,vI 0,.int .i32 0,vI 0,bq,aH 0,vI 0] 71 fun o =>
 T.aC o [vI n,bX,vI 0,vI 0,vI 0,.int .i32 0,vI 0,bq,aH 0,vI 0] <|
 T.ah m [.int .i64] fun p =>
 cond (p==(1:Int))
 (T.ah (m.add 1) [.string] fun q =>
 T.aC (o.add 1) [.string q] <|
 T.ah (m.add 1) [.string] fun r =>
 aX 60 [.string r] fun s =>
 cond (!s)
 (T.ret (vI 31))
 (T.ah (m.add 1) [.string] fun t =>
 T.ah (o.add 1) [.string] fun u =>
 cond (!((ByteArray.toList t)==(ByteArray.toList u)))
 (T.ret (vI 31))
 (T.ah (m.add 2) [.int .i64,.int .i64,.int .i64,.int .i32,.int .i64] fun v w x y z =>
 T.ah (o.add 2) [.int .i64,.int .i64,.int .i64,.int .i32,.int .i64] fun A B C D E =>
 eA (Sx.kw (BinOp.neq) 65 (Operand.tmp 109) (Operand.tmp 111) (.agg #[vI v,vI w,vI x,.int .i32 y,vI z]) (.agg #[vI A,vI B,vI C,.int .i32 D,vI E])) fun F =>
 cond F
 (T.ret (vI 31))
 (T.ah (m.add 9) [.int .i64] fun G =>
 T.ah (o.add 9) [.int .i64] fun H =>
 cond (G != H)
 (T.ret (vI 31))
 (T.ah (m.add 7) (yL 117) fun I J K L =>
 T.ah (o.add 7) (yL 117) fun M N O P =>
 aX 86 [.agg #[.slice I J K,aH L],.agg #[.slice M N O,aH P]] fun Q =>
 cond (!Q)
 (T.ret (vI 31))
 (T.ret (vI 0)))))))
 (cond (p==(2:Int))
 (T.ah (m.add 2) [.int .i64,.int .i64,.int .i64,.int .i32,.int .i64] fun q r s t u =>
 T.ah (m.add 7) (yL 117) fun v w x y =>
 T.aC (o.add 2) [vI q,vI r,vI s,.int .i32 t,vI u] <|
 T.bj [((m.add 7),[.slice v w x,aH y])] <|
 T.aC (o.add 7) [.slice v w x,aH y] <|
 T.ah m (yI 117) fun z A B C D E F G H I J K =>
 aX 84 [.agg #[vI z,.string A,vI B,vI C,vI D,.int .i32 E,vI F,.slice G H I,aH J,vI K]] fun L =>
 cond (!L)
 (T.ret (vI 31))
 (T.ah (m.add 1) [.string] fun M =>
 T.ah (o.add 1) [.string] fun N =>
 cond (!((ByteArray.toList M)==(ByteArray.toList N)))
 (T.ret (vI 31))
 (T.ah (m.add 2) [.int .i64,.int .i64,.int .i64,.int .i32,.int .i64] fun O P Q R S =>
 T.ah (o.add 2) [.int .i64,.int .i64,.int .i64,.int .i32,.int .i64] fun U V W X Y =>
 eA (Sx.kw (BinOp.neq) 65 (Operand.tmp 109) (Operand.tmp 111) (.agg #[vI O,vI P,vI Q,.int .i32 R,vI S]) (.agg #[vI U,vI V,vI W,.int .i32 X,vI Y])) fun Z =>
 cond Z
 (T.ret (vI 31))
 (T.ah (m.add 9) [.int .i64] fun a0 =>
 T.ah (o.add 9) [.int .i64] fun a1 =>
 cond (a0 != a1)
 (T.ret (vI 31))
 (T.ah (m.add 7) (yL 117) fun a2 a3 a4 a5 =>
 T.ah (o.add 7) (yL 117) fun a6 a7 a8 a9 =>
 aX 86 [.agg #[.slice a2 a3 a4,aH a5],.agg #[.slice a6 a7 a8,aH a9]] fun b0 =>
 cond (!b0)
 (T.ret (vI 31))
 (T.ret (vI 0)))))))
 (cond (p==(3:Int))
 (T.ah (m.add 9) [.int .i64] fun q =>
 T.aC (o.add 9) [vI q] <|
 T.ah (m.add 9) [.int .i64] fun r =>
 aX 85 [vI r] fun s =>
 cond (!s)
 (T.ret (vI 31))
 (T.ah (m.add 1) [.string] fun t =>
 T.ah (o.add 1) [.string] fun u =>
 cond (!((ByteArray.toList t)==(ByteArray.toList u)))
 (T.ret (vI 31))
 (T.ah (m.add 2) [.int .i64,.int .i64,.int .i64,.int .i32,.int .i64] fun v w x y z =>
 T.ah (o.add 2) [.int .i64,.int .i64,.int .i64,.int .i32,.int .i64] fun A B C D E =>
 eA (Sx.kw (BinOp.neq) 65 (Operand.tmp 109) (Operand.tmp 111) (.agg #[vI v,vI w,vI x,.int .i32 y,vI z]) (.agg #[vI A,vI B,vI C,.int .i32 D,vI E])) fun F =>
 cond F
 (T.ret (vI 31))
 (T.ah (m.add 9) [.int .i64] fun G =>
 T.ah (o.add 9) [.int .i64] fun H =>
 cond (G != H)
 (T.ret (vI 31))
 (T.ah (m.add 7) (yL 117) fun I J K L =>
 T.ah (o.add 7) (yL 117) fun M N O P =>
 aX 86 [.agg #[.slice I J K,aH L],.agg #[.slice M N O,aH P]] fun Q =>
 cond (!Q)
 (T.ret (vI 31))
 (T.ret (vI 0)))))))
 (cond (p==(4:Int))
 (T.ah (m.add 1) [.string] fun q =>
 T.ah (o.add 1) [.string] fun r =>
 cond (!((ByteArray.toList q)==(ByteArray.toList r)))
 (T.ret (vI 31))
 (T.ah (m.add 2) [.int .i64,.int .i64,.int .i64,.int .i32,.int .i64] fun s t u v w =>
 T.ah (o.add 2) [.int .i64,.int .i64,.int .i64,.int .i32,.int .i64] fun x y z A B =>
 eA (Sx.kw (BinOp.neq) 65 (Operand.tmp 109) (Operand.tmp 111) (.agg #[vI s,vI t,vI u,.int .i32 v,vI w]) (.agg #[vI x,vI y,vI z,.int .i32 A,vI B])) fun C =>
 cond C
 (T.ret (vI 31))
 (T.ah (m.add 9) [.int .i64] fun D =>
 T.ah (o.add 9) [.int .i64] fun E =>
 cond (D != E)
 (T.ret (vI 31))
 (T.ah (m.add 7) (yL 117) fun F G H I =>
 T.ah (o.add 7) (yL 117) fun J K L M =>
 aX 86 [.agg #[.slice F G H,aH I],.agg #[.slice J K L,aH M]] fun N =>
 cond (!N)
 (T.ret (vI 31))
 (T.ret (vI 0))))))
 (cond (p==(5:Int))
 (T.ah (m.add 9) [.int .i64] fun q =>
 T.aC (o.add 9) [vI q] <|
 T.ret (vI 31))
 (cond (p==(6:Int))
 (T.ah (m.add 7) (yL 117) fun q r s t =>
 T.aC (o.add 7) [.slice q r s,aH t] <|
 T.ret (vI 31))
 (cond (p==(7:Int))
 (T.ah (m.add 9) [.int .i64] fun q =>
 T.aC (o.add 9) [vI q] <|
 T.ret (vI 31))
 (T.ret (vI 31))))))))
def ug (a:Int) (b:Xaa) (c:Int) (d:Int) (e:Int) (f:Int) (g:Int) (h:Xac) (i:Nat) (j:Nat) (k:Int) (l:Int):bM Tryz.prog [] Tryz.f59 [.agg #[vI a,.string b,vI c,vI d,vI e,.int .i32 f,vI g,.slice h i j,.int .u32 k,vI l],vI 0]=ql a b c d e f g h i j k l:=az
def qg (a:Int) (b:Xaa) (c:Int) (d:Int) (e:Int) (f:Int) (g:Int) (h:Xac) (i:Nat) (j:Nat) (k:Int) (l:Int):T :=
 T.new [vI a,.string b,vI c,vI d,vI e,.int .i32 f,vI g,.slice h i j,aH k,vI l] 71 fun m =>
 T.ah m [.int .i64] fun n =>
 T.new [vI 0,bX,vI 0,vI 0,vI 0,.int .i32 0,vI 0,bq,aH 0,vI 0] 71 fun o =>
 T.aC o [vI n,bX,vI 0,vI 0,vI 0,.int .i32 0,vI 0,bq,aH 0,vI 0] <|
 T.ah m [.int .i64] fun p =>
 cond (p==(1:Int))
 (T.ah (m.add 1) [.string] fun q =>
 T.aC (o.add 1) [.string q] <|
 T.ah (m.add 1) [.string] fun r =>
 aX 60 [.string r] fun s =>
 cond (!s)
 (T.ret (vI 31))
 (T.ah (m.add 1) [.string] fun t =>
 T.ah (o.add 1) [.string] fun u =>
 cond (!((ByteArray.toList t)==(ByteArray.toList u)))
 (T.ret (vI 31))
 (T.ah (m.add 2) [.int .i64,.int .i64,.int .i64,.int .i32,.int .i64] fun v w x y z =>
 T.ah (o.add 2) [.int .i64,.int .i64,.int .i64,.int .i32,.int .i64] fun A B C D E =>
 eA (Sx.kw (BinOp.neq) 65 (Operand.tmp 109) (Operand.tmp 111) (.agg #[vI v,vI w,vI x,.int .i32 y,vI z]) (.agg #[vI A,vI B,vI C,.int .i32 D,vI E])) fun F =>
 cond F
 (T.ret (vI 31))
 (T.ah (m.add 9) [.int .i64] fun G =>
 T.ah (o.add 9) [.int .i64] fun H =>
 cond (G != H)
 (T.ret (vI 31))
 (T.ah (m.add 7) (yL 117) fun I J K L =>
 T.ah (o.add 7) (yL 117) fun M N O P =>
 aX 86 [.agg #[.slice I J K,aH L],.agg #[.slice M N O,aH P]] fun Q =>
 cond (!Q)
 (T.ret (vI 31))
 (T.ret (vI 0)))))))
 (cond (p==(2:Int))
 (T.ah (m.add 2) [.int .i64,.int .i64,.int .i64,.int .i32,.int .i64] fun q r s t u =>
 T.ah (m.add 7) (yL 117) fun v w x y =>
 T.aC (o.add 2) [vI q,vI r,vI s,.int .i32 t,vI u] <|
 T.bj [((m.add 7),[.slice v w x,aH y])] <|
 T.aC (o.add 7) [.slice v w x,aH y] <|
 T.ret (vI 31))
 (cond (p==(3:Int))
 (T.ah (m.add 9) [.int .i64] fun q =>
 T.aC (o.add 9) [vI q] <|
 T.ah (m.add 9) [.int .i64] fun r =>
 aX 85 [vI r] fun s =>
 cond (!s)
 (T.ret (vI 31))
 (T.ah (m.add 1) [.string] fun t =>
 T.ah (o.add 1) [.string] fun u =>
 cond (!((ByteArray.toList t)==(ByteArray.toList u)))
 (T.ret (vI 31))
 (T.ah (m.add 2) [.int .i64,.int .i64,.int .i64,.int .i32,.int .i64] fun v w x y z =>
 T.ah (o.add 2) [.int .i64,.int .i64,.int .i64,.int .i32,.int .i64] fun A B C D E =>
 eA (Sx.kw (BinOp.neq) 65 (Operand.tmp 109) (Operand.tmp 111) (.agg #[vI v,vI w,vI x,.int .i32 y,vI z]) (.agg #[vI A,vI B,vI C,.int .i32 D,vI E])) fun F =>
 cond F
 (T.ret (vI 31))
 (T.ah (m.add 9) [.int .i64] fun G =>
 T.ah (o.add 9) [.int .i64] fun H =>
 cond (G != H)
 (T.ret (vI 31))
 (T.ah (m.add 7) (yL 117) fun I J K L =>
 T.ah (o.add 7) (yL 117) fun M N O P =>
 aX 86 [.agg #[.slice I J K,aH L],.agg #[.slice M N O,aH P]] fun Q =>
 cond (!Q)
 (T.ret (vI 31))
 (T.ret (vI 0)))))))
 (cond (p==(4:Int))
 (T.ret (vI 31))
 (cond (p==(5:Int))
 (T.ah (m.add 9) [.int .i64] fun q =>
 T.aC (o.add 9) [vI q] <|
 T.ah (m.add 9) [.int .i64] fun r =>
 cond (decide (r>=(-128:Int)))
 (T.ah (m.add 9) [.int .i64] fun s =>
 cond (!(decide (s<=(255:Int))))
 (T.ret (vI 31))
 (T.ah (m.add 1) [.string] fun t =>
 T.ah (o.add 1) [.string] fun u =>
 cond (!((ByteArray.toList t)==(ByteArray.toList u)))
 (T.ret (vI 31))
 (T.ah (m.add 2) [.int .i64,.int .i64,.int .i64,.int .i32,.int .i64] fun v w x y z =>
 T.ah (o.add 2) [.int .i64,.int .i64,.int .i64,.int .i32,.int .i64] fun A B C D E =>
 eA (Sx.kw (BinOp.neq) 65 (Operand.tmp 109) (Operand.tmp 111) (.agg #[vI v,vI w,vI x,.int .i32 y,vI z]) (.agg #[vI A,vI B,vI C,.int .i32 D,vI E])) fun F =>
 cond F
 (T.ret (vI 31))
 (T.ah (m.add 9) [.int .i64] fun G =>
 T.ah (o.add 9) [.int .i64] fun H =>
 cond (G != H)
 (T.ret (vI 31))
 (T.ah (m.add 7) (yL 117) fun I J K L =>
 T.ah (o.add 7) (yL 117) fun M N O P =>
 aX 86 [.agg #[.slice I J K,aH L],.agg #[.slice M N O,aH P]] fun Q =>
 cond (!Q)
 (T.ret (vI 31))
 (T.ret (vI 0)))))))
 (T.ret (vI 31)))
 (cond (p==(6:Int))
 (T.ah (m.add 7) (yL 117) fun q r s t =>
 T.aC (o.add 7) [.slice q r s,aH t] <|
 T.ah (m.add 7) (yL 117) fun u v w x =>
 aX 61 [.agg #[.slice u v w,aH x]] fun y =>
 cond (!y)
 (T.ret (vI 31))
 (T.ah (m.add 1) [.string] fun z =>
 T.ah (o.add 1) [.string] fun A =>
 cond (!((ByteArray.toList z)==(ByteArray.toList A)))
 (T.ret (vI 31))
 (T.ah (m.add 2) [.int .i64,.int .i64,.int .i64,.int .i32,.int .i64] fun B C D E F =>
 T.ah (o.add 2) [.int .i64,.int .i64,.int .i64,.int .i32,.int .i64] fun G H I J K =>
 eA (Sx.kw (BinOp.neq) 65 (Operand.tmp 109) (Operand.tmp 111) (.agg #[vI B,vI C,vI D,.int .i32 E,vI F]) (.agg #[vI G,vI H,vI I,.int .i32 J,vI K])) fun L =>
 cond L
 (T.ret (vI 31))
 (T.ah (m.add 9) [.int .i64] fun M =>
 T.ah (o.add 9) [.int .i64] fun N =>
 cond (M != N)
 (T.ret (vI 31))
 (T.ah (m.add 7) (yL 117) fun O P Q R =>
 T.ah (o.add 7) (yL 117) fun S U V W =>
 aX 86 [.agg #[.slice O P Q,aH R],.agg #[.slice S U V,aH W]] fun X =>
 cond (!X)
 (T.ret (vI 31))
 (T.ret (vI 0)))))))
 (cond (p==(7:Int))
 (T.ah (m.add 9) [.int .i64] fun q =>
 T.aC (o.add 9) [vI q] <|
 T.ah (m.add 9) [.int .i64] fun r =>
 cond (decide (r>=(0:Int)))
 (T.ah (m.add 9) [.int .i64] fun s =>
 cond (!(decide (s<=(1048576:Int))))
 (T.ret (vI 31))
 (T.ah (m.add 1) [.string] fun t =>
 T.ah (o.add 1) [.string] fun u =>
 cond (!((ByteArray.toList t)==(ByteArray.toList u)))
 (T.ret (vI 31))
 (T.ah (m.add 2) [.int .i64,.int .i64,.int .i64,.int .i32,.int .i64] fun v w x y z =>
 T.ah (o.add 2) [.int .i64,.int .i64,.int .i64,.int .i32,.int .i64] fun A B C D E =>
 eA (Sx.kw (BinOp.neq) 65 (Operand.tmp 109) (Operand.tmp 111) (.agg #[vI v,vI w,vI x,.int .i32 y,vI z]) (.agg #[vI A,vI B,vI C,.int .i32 D,vI E])) fun F =>
 cond F
 (T.ret (vI 31))
 (T.ah (m.add 9) [.int .i64] fun G =>
 T.ah (o.add 9) [.int .i64] fun H =>
 cond (G != H)
 (T.ret (vI 31))
 (T.ah (m.add 7) (yL 117) fun I J K L =>
 T.ah (o.add 7) (yL 117) fun M N O P =>
 aX 86 [.agg #[.slice I J K,aH L],.agg #[.slice M N O,aH P]] fun Q =>
 cond (!Q)
 (T.ret (vI 31))
 (T.ret (vI 0)))))))
 (T.ret (vI 31)))
 (T.ret (vI 31))))))))
def uj (a:Int) (b:Xaa) (c:Int) (d:Int) (e:Int) (f:Int) (g:Int) (h:Xac) (i:Nat) (j:Nat) (k:Int) (l:Int):bM Tryz.prog [] Tryz.f59 [.agg #[vI a,.string b,vI c,vI d,vI e,.int .i32 f,vI g,.slice h i j,.int .u32 k,vI l],vI 1]=qg a b c d e f g h i j k l:=az
def j1 (a:Xac) (b c:Nat):T :=
 T.loop [bR,aP,aP] [.bool false,vI 0,vI 0] fun d e f =>
 bz f b
 (cond (decide (f<(65:Int)))
 (bf f b a fun g =>
 T.ah (g.add (aK f 4)) [.slice 71] fun h i j =>
 cond (decide ((i:Int)>(600:Int)))
 dy
 (bf f b a fun k =>
 T.ah ((k.add (aK f 4)).add 1) [.slice 71] fun l m n =>
 cond (decide ((m:Int)>(300:Int)))
 dy
 (bf f b a fun o =>
 T.ah ((o.add (aK f 4)).add 2) [.slice 100] fun p q r =>
 cond (decide ((q:Int)>(100:Int)))
 dy
 (bf f b a fun s =>
 T.ah (s.add (aK f 4)) [.slice 71] fun t u v =>
 bf f b a fun w =>
 T.ah ((w.add (aK f 4)).add 1) [.slice 71] fun x y z =>
 bf f b a fun A =>
 T.ah ((A.add (aK f 4)).add 2) [.slice 100] fun B C D =>
 T.again 0 [.bool d,vI (bm ((bm ((bm (e+(u:Int)))+(y:Int)))+(C:Int))),bg f]))))
 (T.ret (.bool (decide (e>(900:Int))))))
 (T.ret (.bool (decide (e>(900:Int)))))
def oX (a:Xac) (b c:Nat):bM Tryz.prog [] Tryz.f25 [.slice a b c]=j1 a b c:=az
end Go.Sx
