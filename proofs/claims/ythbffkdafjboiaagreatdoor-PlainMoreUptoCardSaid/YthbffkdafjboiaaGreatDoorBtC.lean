/- Trees of functions. No condition. -/
import Derived.Test.YthbffkdafjboiaaGreatDoorSxF
import Derived.Test.YthbffkdafjboiaaGreatDoorProg
import Derived.KernelRfl
set_option linter.all false
set_option maxRecDepth 100000
set_option maxHeartbeats 4000000
namespace Go.Sx
open Go.Proofs
def lJ (a:Int) (b:Int) (c:Int) (d:Int) (e:Int):T :=
 T.new [vI a,vI b,vI c,.int .i32 d,vI e] 65 fun f =>
 T.ah (f.add 1) [.int .i64] fun g =>
 cond (g==(0:Int))
 (T.ah (f.add 2) [.int .i64] fun h =>
 T.ret (.bool (h==(0:Int))))
 bI
def qo (a:Int) (b:Int) (c:Int) (d:Int) (e:Int):bT Tryz.prog [] Tryz.f135 [.agg #[vI a,vI b,vI c,.int .i32 d,vI e],vI 1]=lJ a b c d e:=ax
def lT (a:Int) (b:Int) (c:Int) (d:Int) (e:Int):T :=
 T.new [vI a,vI b,vI c,.int .i32 d,vI e] 65 fun f =>
 T.ah (f.add 1) [.int .i64] fun g =>
 aY 151 [vI g,vI 8] fun h =>
 cond h
 (T.ah (f.add 2) [.int .i64] fun i =>
 T.ret (.bool (i==(0:Int))))
 bI
def qk (a:Int) (b:Int) (c:Int) (d:Int) (e:Int):bT Tryz.prog [] Tryz.f135 [.agg #[vI a,vI b,vI c,.int .i32 d,vI e],vI 2]=lT a b c d e:=ax
def ly (a:Int) (b:Int) (c:Int) (d:Int) (e:Int):T :=
 T.new [vI a,vI b,vI c,.int .i32 d,vI e] 65 fun f =>
 T.ah (f.add 1) [.int .i64] fun g =>
 aY 151 [vI g,vI 4] fun h =>
 cond h
 (T.ah (f.add 2) [.int .i64] fun i =>
 T.ret (.bool (i==(0:Int))))
 bI
def qw (a:Int) (b:Int) (c:Int) (d:Int) (e:Int):bT Tryz.prog [] Tryz.f135 [.agg #[vI a,vI b,vI c,.int .i32 d,vI e],vI 3]=ly a b c d e:=ax
def lj (a:Int) (b:Int) (c:Int) (d:Int) (e:Int):T :=
 T.new [vI a,vI b,vI c,.int .i32 d,vI e] 65 fun f =>
 T.ah (f.add 1) [.int .i64] fun g =>
 aY 151 [vI g,vI 8] fun h =>
 cond h
 (T.ah (f.add 2) [.int .i64] fun i =>
 aY 151 [vI i,vI 8] fun j =>
 T.ret (.bool j))
 bI
def qf (a:Int) (b:Int) (c:Int) (d:Int) (e:Int):bT Tryz.prog [] Tryz.f135 [.agg #[vI a,vI b,vI c,.int .i32 d,vI e],vI 4]=lj a b c d e:=ax
def lN (a:Int) (b:Int) (c:Int) (d:Int) (e:Int):T :=
 T.new [vI a,vI b,vI c,.int .i32 d,vI e] 65 fun f =>
 T.ah (f.add 1) [.int .i64] fun g =>
 aY 151 [vI g,vI 4] fun h =>
 cond h
 (T.ah (f.add 2) [.int .i64] fun i =>
 aY 151 [vI i,vI 4] fun j =>
 T.ret (.bool j))
 bI
def qu (a:Int) (b:Int) (c:Int) (d:Int) (e:Int):bT Tryz.prog [] Tryz.f135 [.agg #[vI a,vI b,vI c,.int .i32 d,vI e],vI 5]=lN a b c d e:=ax
def lu (a:Int) (b:Int) (c:Int) (d:Int) (e:Int):T :=
 T.new [vI a,vI b,vI c,.int .i32 d,vI e] 65 fun f =>
 T.ah (f.add 1) [.int .i64] fun g =>
 aY 151 [vI g,vI 8] fun h =>
 cond h
 (T.ah (f.add 2) [.int .i64] fun i =>
 aY 151 [vI i,vI 4] fun j =>
 T.ret (.bool j))
 bI
def qi (a:Int) (b:Int) (c:Int) (d:Int) (e:Int):bT Tryz.prog [] Tryz.f135 [.agg #[vI a,vI b,vI c,.int .i32 d,vI e],vI 6]=lu a b c d e:=ax
def lh (a:Int) (b:Int) (c:Int) (d:Int) (e:Int):T :=
 T.new [vI a,vI b,vI c,.int .i32 d,vI e] 65 fun f =>
 T.ah (f.add 1) [.int .i64] fun g =>
 aY 151 [vI g,vI 4] fun h =>
 cond h
 (T.ah (f.add 2) [.int .i64] fun i =>
 aY 151 [vI i,vI 8] fun j =>
 cond j
 (T.ah (f.add 3) [.int .i32] fun k =>
 cond (decide (k>=(0:Int)))
 (T.ah (f.add 3) [.int .i32] fun l =>
 T.ret (.bool (decide (l<(8:Int)))))
 bI)
 bI)
 bI
def qp (a:Int) (b:Int) (c:Int) (d:Int) (e:Int):bT Tryz.prog [] Tryz.f135 [.agg #[vI a,vI b,vI c,.int .i32 d,vI e],vI 7]=lh a b c d e:=ax
def lp (a:Int) (b:Int) (c:Int) (d:Int) (e:Int):T :=
 T.new [vI a,vI b,vI c,.int .i32 d,vI e] 65 fun f =>
 T.ah (f.add 1) [.int .i64] fun g =>
 aY 151 [vI g,vI 8] fun h =>
 cond h
 (T.ah (f.add 2) [.int .i64] fun i =>
 T.ret (.bool (i==(0:Int))))
 bI
def qx (a:Int) (b:Int) (c:Int) (d:Int) (e:Int):bT Tryz.prog [] Tryz.f135 [.agg #[vI a,vI b,vI c,.int .i32 d,vI e],vI 8]=lp a b c d e:=ax
def lC (a:Int) (b:Int) (c:Int) (d:Int) (e:Int):T :=
 T.new [vI a,vI b,vI c,.int .i32 d,vI e] 65 fun f =>
 T.ah (f.add 1) [.int .i64] fun g =>
 cond (g==(0:Int))
 (T.ah (f.add 2) [.int .i64] fun h =>
 T.ret (.bool (h==(0:Int))))
 bI
def qh (a:Int) (b:Int) (c:Int) (d:Int) (e:Int):bT Tryz.prog [] Tryz.f135 [.agg #[vI a,vI b,vI c,.int .i32 d,vI e],vI 9]=lC a b c d e:=ax
def kB (a:Int) (b:Int) (c:Int) (d:Int) (e:Int):T :=
 T.new [vI a,vI b,vI c,.int .i32 d,vI e] 65 fun f =>
 T.ah (f.add 1) [.int .i64] fun g =>
 aY 151 [vI g,vI 8] fun h =>
 cond h
 (T.ah (f.add 2) [.int .i64] fun i =>
 T.ret (.bool (i==(0:Int))))
 bI
def pG (a:Int) (b:Int) (c:Int) (d:Int) (e:Int):bT Tryz.prog [] Tryz.f135 [.agg #[vI a,vI b,vI c,.int .i32 d,vI e],vI 10]=kB a b c d e:=ax
def kE (a:Int) (b:Int) (c:Int) (d:Int) (e:Int):T :=
 T.new [vI a,vI b,vI c,.int .i32 d,vI e] 65 fun f =>
 T.ah (f.add 1) [.int .i64] fun g =>
 aY 151 [vI g,vI 8] fun h =>
 cond h
 (T.ah (f.add 2) [.int .i64] fun i =>
 T.ret (.bool (i==(0:Int))))
 bI
def oY (a:Int) (b:Int) (c:Int) (d:Int) (e:Int):bT Tryz.prog [] Tryz.f135 [.agg #[vI a,vI b,vI c,.int .i32 d,vI e],vI 11]=kE a b c d e:=ax
def kD (a:Int) (b:Int) (c:Int) (d:Int) (e:Int):T :=
 T.new [vI a,vI b,vI c,.int .i32 d,vI e] 65 fun f =>
 T.ah (f.add 1) [.int .i64] fun g =>
 cond (g==(0:Int))
 (T.ah (f.add 2) [.int .i64] fun h =>
 T.ret (.bool (h==(0:Int))))
 bI
def oN (a:Int) (b:Int) (c:Int) (d:Int) (e:Int):bT Tryz.prog [] Tryz.f135 [.agg #[vI a,vI b,vI c,.int .i32 d,vI e],vI 12]=kD a b c d e:=ax
def kO (a:Int) (b:Int) (c:Int) (d:Int) (e:Int):T :=
 T.new [vI a,vI b,vI c,.int .i32 d,vI e] 65 fun f =>
 T.ah (f.add 1) [.int .i64] fun g =>
 aY 151 [vI g,vI 8] fun h =>
 cond h
 (T.ah (f.add 2) [.int .i64] fun i =>
 T.ret (.bool (i==(0:Int))))
 bI
def pf (a:Int) (b:Int) (c:Int) (d:Int) (e:Int):bT Tryz.prog [] Tryz.f135 [.agg #[vI a,vI b,vI c,.int .i32 d,vI e],vI 13]=kO a b c d e:=ax
def pZ (a:Int) (b:Int) (c:Int) (d:Int) (e:Int):T :=
 T.new [vI a,vI b,vI c,.int .i32 d,vI e] 65 fun f =>
 T.ah (f.add 3) [.int .i32] fun g =>
 T.ret (.bool (g==(0:Int)))
def tS (a:Int) (b:Int) (c:Int) (d:Int) (e:Int):bT Tryz.prog [] Tryz.f136 [.agg #[vI a,vI b,vI c,.int .i32 d,vI e],vI 1]=pZ a b c d e:=ax
def pW (a:Int) (b:Int) (c:Int) (d:Int) (e:Int):T :=
 T.new [vI a,vI b,vI c,.int .i32 d,vI e] 65 fun f =>
 T.ah (f.add 3) [.int .i32] fun g =>
 T.ret (.bool (g==(0:Int)))
def tK (a:Int) (b:Int) (c:Int) (d:Int) (e:Int):bT Tryz.prog [] Tryz.f136 [.agg #[vI a,vI b,vI c,.int .i32 d,vI e],vI 2]=pW a b c d e:=ax
def qa (a:Int) (b:Int) (c:Int) (d:Int) (e:Int):T :=
 T.new [vI a,vI b,vI c,.int .i32 d,vI e] 65 fun f =>
 T.ah (f.add 3) [.int .i32] fun g =>
 T.ret (.bool (g==(0:Int)))
def tH (a:Int) (b:Int) (c:Int) (d:Int) (e:Int):bT Tryz.prog [] Tryz.f136 [.agg #[vI a,vI b,vI c,.int .i32 d,vI e],vI 3]=qa a b c d e:=ax
def pY (a:Int) (b:Int) (c:Int) (d:Int) (e:Int):T :=
 T.new [vI a,vI b,vI c,.int .i32 d,vI e] 65 fun f =>
 T.ah (f.add 3) [.int .i32] fun g =>
 T.ret (.bool (g==(0:Int)))
def tN (a:Int) (b:Int) (c:Int) (d:Int) (e:Int):bT Tryz.prog [] Tryz.f136 [.agg #[vI a,vI b,vI c,.int .i32 d,vI e],vI 4]=pY a b c d e:=ax
def pV (a:Int) (b:Int) (c:Int) (d:Int) (e:Int):T :=
 T.new [vI a,vI b,vI c,.int .i32 d,vI e] 65 fun f =>
 T.ah (f.add 3) [.int .i32] fun g =>
 T.ret (.bool (g==(0:Int)))
def tD (a:Int) (b:Int) (c:Int) (d:Int) (e:Int):bT Tryz.prog [] Tryz.f136 [.agg #[vI a,vI b,vI c,.int .i32 d,vI e],vI 5]=pV a b c d e:=ax
def qb (a:Int) (b:Int) (c:Int) (d:Int) (e:Int):T :=
 T.new [vI a,vI b,vI c,.int .i32 d,vI e] 65 fun f =>
 T.ah (f.add 3) [.int .i32] fun g =>
 T.ret (.bool (g==(0:Int)))
def ug (a:Int) (b:Int) (c:Int) (d:Int) (e:Int):bT Tryz.prog [] Tryz.f136 [.agg #[vI a,vI b,vI c,.int .i32 d,vI e],vI 6]=qb a b c d e:=ax
def qe (a:Int) (b:Int) (c:Int) (d:Int) (e:Int):T :=
 T.new [vI a,vI b,vI c,.int .i32 d,vI e] 65 fun f =>
 T.ret (.bool true)
def uj (a:Int) (b:Int) (c:Int) (d:Int) (e:Int):bT Tryz.prog [] Tryz.f136 [.agg #[vI a,vI b,vI c,.int .i32 d,vI e],vI 7]=qe a b c d e:=ax
def qc (a:Int) (b:Int) (c:Int) (d:Int) (e:Int):T :=
 T.new [vI a,vI b,vI c,.int .i32 d,vI e] 65 fun f =>
 T.ah (f.add 3) [.int .i32] fun g =>
 aY 152 [.int .i32 g,vI 1] fun h =>
 T.ret (.bool h)
def tX (a:Int) (b:Int) (c:Int) (d:Int) (e:Int):bT Tryz.prog [] Tryz.f136 [.agg #[vI a,vI b,vI c,.int .i32 d,vI e],vI 8]=qc a b c d e:=ax
def pU (a:Int) (b:Int) (c:Int) (d:Int) (e:Int):T :=
 T.new [vI a,vI b,vI c,.int .i32 d,vI e] 65 fun f =>
 T.ah (f.add 3) [.int .i32] fun g =>
 cond (decide (g>=(0:Int)))
 (T.ah (f.add 3) [.int .i32] fun h =>
 T.ret (.bool (decide (h<=(255:Int)))))
 bI
def tI (a:Int) (b:Int) (c:Int) (d:Int) (e:Int):bT Tryz.prog [] Tryz.f136 [.agg #[vI a,vI b,vI c,.int .i32 d,vI e],vI 9]=pU a b c d e:=ax
def oi (a:Int) (b:Int) (c:Int) (d:Int) (e:Int):T :=
 T.new [vI a,vI b,vI c,.int .i32 d,vI e] 65 fun f =>
 T.ret (.bool true)
def sN (a:Int) (b:Int) (c:Int) (d:Int) (e:Int):bT Tryz.prog [] Tryz.f136 [.agg #[vI a,vI b,vI c,.int .i32 d,vI e],vI 10]=oi a b c d e:=ax
def ou (a:Int) (b:Int) (c:Int) (d:Int) (e:Int):T :=
 T.new [vI a,vI b,vI c,.int .i32 d,vI e] 65 fun f =>
 T.ah (f.add 3) [.int .i32] fun g =>
 cond (decide (g>=(0:Int)))
 (T.ah (f.add 3) [.int .i32] fun h =>
 T.ret (.bool (decide (h<=(4095:Int)))))
 bI
def sK (a:Int) (b:Int) (c:Int) (d:Int) (e:Int):bT Tryz.prog [] Tryz.f136 [.agg #[vI a,vI b,vI c,.int .i32 d,vI e],vI 11]=ou a b c d e:=ax
def nU (a:Int) (b:Int) (c:Int) (d:Int) (e:Int):T :=
 T.new [vI a,vI b,vI c,.int .i32 d,vI e] 65 fun f =>
 T.ah (f.add 3) [.int .i32] fun g =>
 T.ah (f.add 4) [.int .i64] fun h =>
 aY 152 [.int .i32 g,vI h] fun i =>
 T.ret (.bool i)
def sG (a:Int) (b:Int) (c:Int) (d:Int) (e:Int):bT Tryz.prog [] Tryz.f136 [.agg #[vI a,vI b,vI c,.int .i32 d,vI e],vI 12]=nU a b c d e:=ax
def nE (a:Int) (b:Int) (c:Int) (d:Int) (e:Int):T :=
 T.new [vI a,vI b,vI c,.int .i32 d,vI e] 65 fun f =>
 T.ah (f.add 3) [.int .i32] fun g =>
 T.ah (f.add 4) [.int .i64] fun h =>
 aY 152 [.int .i32 g,vI h] fun i =>
 T.ret (.bool i)
def sH (a:Int) (b:Int) (c:Int) (d:Int) (e:Int):bT Tryz.prog [] Tryz.f136 [.agg #[vI a,vI b,vI c,.int .i32 d,vI e],vI 13]=nE a b c d e:=ax
def pX (a:Int) (b:Xaa) (c:Int) (d:Int) (e:Int) (f:Int) (g:Int) (h:Xac) (i:Nat) (j:Nat) (k:Int) (l:Int):T :=
 T.new [vI a,.string b,vI c,vI d,vI e,.int .i32 f,vI g,.slice h i j,aG k,vI l] 71 fun m =>
 T.ah m [.int .i64] fun n =>
 T.new [vI 0,bY,vI 0,vI 0,vI 0,.int .i32 0,vI 0,bj,aG 0,vI 0] 71 fun o =>
 T.aC o [vI n,bY,vI 0,vI 0,vI 0,.int .i32 0,vI 0,bj,aG 0,vI 0] <|
 T.ah m [.int .i64] fun p =>
 cond (p==(1:Int))
 (T.ah (m.add 1) [.string] fun q =>
 T.aC (o.add 1) [.string q] <|
 T.ah (m.add 1) [.string] fun r =>
 aY 60 [.string r] fun s =>
 cond (!s)
 (T.ret (vI 31))
 (T.ah (m.add 1) [.string] fun t =>
 T.ah (o.add 1) [.string] fun u =>
 cond (!((ByteArray.toList t)==(ByteArray.toList u)))
 (T.ret (vI 31))
 (T.ah (m.add 2) [.int .i64,.int .i64,.int .i64,.int .i32,.int .i64] fun v w x y z =>
 T.ah (o.add 2) [.int .i64,.int .i64,.int .i64,.int .i32,.int .i64] fun A B C D E =>
 dN (Sx.jv (BinOp.neq) 65 (Operand.tmp 109) (Operand.tmp 111) (.agg #[vI v,vI w,vI x,.int .i32 y,vI z]) (.agg #[vI A,vI B,vI C,.int .i32 D,vI E])) fun F =>
 cond F
 (T.ret (vI 31))
 (T.ah (m.add 9) [.int .i64] fun G =>
 T.ah (o.add 9) [.int .i64] fun H =>
 cond (G != H)
 (T.ret (vI 31))
 (T.ah (m.add 7) (yL 117) fun I J K L =>
 T.ah (o.add 7) (yL 117) fun M N O P =>
 aY 86 [.agg #[.slice I J K,aG L],.agg #[.slice M N O,aG P]] fun Q =>
 cond (!Q)
 (T.ret (vI 31))
 (T.ret (vI 0)))))))
 (cond (p==(2:Int))
 (T.ah (m.add 2) [.int .i64,.int .i64,.int .i64,.int .i32,.int .i64] fun q r s t u =>
 T.ah (m.add 7) (yL 117) fun v w x y =>
 T.aC (o.add 2) [vI q,vI r,vI s,.int .i32 t,vI u] <|
 T.bi [((m.add 7),[.slice v w x,aG y])] <|
 T.aC (o.add 7) [.slice v w x,aG y] <|
 T.ah m (yI 117) fun z A B C D E F G H I J K =>
 aY 84 [.agg #[vI z,.string A,vI B,vI C,vI D,.int .i32 E,vI F,.slice G H I,aG J,vI K]] fun L =>
 cond (!L)
 (T.ret (vI 31))
 (T.ah (m.add 1) [.string] fun M =>
 T.ah (o.add 1) [.string] fun N =>
 cond (!((ByteArray.toList M)==(ByteArray.toList N)))
 (T.ret (vI 31))
 (T.ah (m.add 2) [.int .i64,.int .i64,.int .i64,.int .i32,.int .i64] fun O P Q R S =>
 T.ah (o.add 2) [.int .i64,.int .i64,.int .i64,.int .i32,.int .i64] fun U V W X Y =>
 dN (Sx.jv (BinOp.neq) 65 (Operand.tmp 109) (Operand.tmp 111) (.agg #[vI O,vI P,vI Q,.int .i32 R,vI S]) (.agg #[vI U,vI V,vI W,.int .i32 X,vI Y])) fun Z =>
 cond Z
 (T.ret (vI 31))
 (T.ah (m.add 9) [.int .i64] fun a0 =>
 T.ah (o.add 9) [.int .i64] fun a1 =>
 cond (a0 != a1)
 (T.ret (vI 31))
 (T.ah (m.add 7) (yL 117) fun a2 a3 a4 a5 =>
 T.ah (o.add 7) (yL 117) fun a6 a7 a8 a9 =>
 aY 86 [.agg #[.slice a2 a3 a4,aG a5],.agg #[.slice a6 a7 a8,aG a9]] fun b0 =>
 cond (!b0)
 (T.ret (vI 31))
 (T.ret (vI 0)))))))
 (cond (p==(3:Int))
 (T.ah (m.add 9) [.int .i64] fun q =>
 T.aC (o.add 9) [vI q] <|
 T.ah (m.add 9) [.int .i64] fun r =>
 aY 85 [vI r] fun s =>
 cond (!s)
 (T.ret (vI 31))
 (T.ah (m.add 1) [.string] fun t =>
 T.ah (o.add 1) [.string] fun u =>
 cond (!((ByteArray.toList t)==(ByteArray.toList u)))
 (T.ret (vI 31))
 (T.ah (m.add 2) [.int .i64,.int .i64,.int .i64,.int .i32,.int .i64] fun v w x y z =>
 T.ah (o.add 2) [.int .i64,.int .i64,.int .i64,.int .i32,.int .i64] fun A B C D E =>
 dN (Sx.jv (BinOp.neq) 65 (Operand.tmp 109) (Operand.tmp 111) (.agg #[vI v,vI w,vI x,.int .i32 y,vI z]) (.agg #[vI A,vI B,vI C,.int .i32 D,vI E])) fun F =>
 cond F
 (T.ret (vI 31))
 (T.ah (m.add 9) [.int .i64] fun G =>
 T.ah (o.add 9) [.int .i64] fun H =>
 cond (G != H)
 (T.ret (vI 31))
 (T.ah (m.add 7) (yL 117) fun I J K L =>
 T.ah (o.add 7) (yL 117) fun M N O P =>
 aY 86 [.agg #[.slice I J K,aG L],.agg #[.slice M N O,aG P]] fun Q =>
 cond (!Q)
 (T.ret (vI 31))
 (T.ret (vI 0)))))))
 (cond (p==(4:Int))
 (T.ah (m.add 1) [.string] fun q =>
 T.ah (o.add 1) [.string] fun r =>
 cond (!((ByteArray.toList q)==(ByteArray.toList r)))
 (T.ret (vI 31))
 (T.ah (m.add 2) [.int .i64,.int .i64,.int .i64,.int .i32,.int .i64] fun s t u v w =>
 T.ah (o.add 2) [.int .i64,.int .i64,.int .i64,.int .i32,.int .i64] fun x y z A B =>
 dN (Sx.jv (BinOp.neq) 65 (Operand.tmp 109) (Operand.tmp 111) (.agg #[vI s,vI t,vI u,.int .i32 v,vI w]) (.agg #[vI x,vI y,vI z,.int .i32 A,vI B])) fun C =>
 cond C
 (T.ret (vI 31))
 (T.ah (m.add 9) [.int .i64] fun D =>
 T.ah (o.add 9) [.int .i64] fun E =>
 cond (D != E)
 (T.ret (vI 31))
 (T.ah (m.add 7) (yL 117) fun F G H I =>
 T.ah (o.add 7) (yL 117) fun J K L M =>
 aY 86 [.agg #[.slice F G H,aG I],.agg #[.slice J K L,aG M]] fun N =>
 cond (!N)
 (T.ret (vI 31))
 (T.ret (vI 0))))))
 (cond (p==(5:Int))
 (T.ah (m.add 9) [.int .i64] fun q =>
 T.aC (o.add 9) [vI q] <|
 T.ret (vI 31))
 (cond (p==(6:Int))
 (T.ah (m.add 7) (yL 117) fun q r s t =>
 T.aC (o.add 7) [.slice q r s,aG t] <|
 T.ret (vI 31))
 (cond (p==(7:Int))
 (T.ah (m.add 9) [.int .i64] fun q =>
 T.aC (o.add 9) [vI q] <|
 T.ret (vI 31))
 (T.ret (vI 31))))))))
def tR (a:Int) (b:Xaa) (c:Int) (d:Int) (e:Int) (f:Int) (g:Int) (h:Xac) (i:Nat) (j:Nat) (k:Int) (l:Int):bT Tryz.prog [] Tryz.f59 [.agg #[vI a,.string b,vI c,vI d,vI e,.int .i32 f,vI g,.slice h i j,.int .u32 k,vI l],vI 0]=pX a b c d e f g h i j k l:=ax
def pS (a:Int) (b:Xaa) (c:Int) (d:Int) (e:Int) (f:Int) (g:Int) (h:Xac) (i:Nat) (j:Nat) (k:Int) (l:Int):T :=
 T.new [vI a,.string b,vI c,vI d,vI e,.int .i32 f,vI g,.slice h i j,aG k,vI l] 71 fun m =>
 T.ah m [.int .i64] fun n =>
 T.new [vI 0,bY,vI 0,vI 0,vI 0,.int .i32 0,vI 0,bj,aG 0,vI 0] 71 fun o =>
 T.aC o [vI n,bY,vI 0,vI 0,vI 0,.int .i32 0,vI 0,bj,aG 0,vI 0] <|
 T.ah m [.int .i64] fun p =>
 cond (p==(1:Int))
 (T.ah (m.add 1) [.string] fun q =>
 T.aC (o.add 1) [.string q] <|
 T.ah (m.add 1) [.string] fun r =>
 aY 60 [.string r] fun s =>
 cond (!s)
 (T.ret (vI 31))
 (T.ah (m.add 1) [.string] fun t =>
 T.ah (o.add 1) [.string] fun u =>
 cond (!((ByteArray.toList t)==(ByteArray.toList u)))
 (T.ret (vI 31))
 (T.ah (m.add 2) [.int .i64,.int .i64,.int .i64,.int .i32,.int .i64] fun v w x y z =>
 T.ah (o.add 2) [.int .i64,.int .i64,.int .i64,.int .i32,.int .i64] fun A B C D E =>
 dN (Sx.jv (BinOp.neq) 65 (Operand.tmp 109) (Operand.tmp 111) (.agg #[vI v,vI w,vI x,.int .i32 y,vI z]) (.agg #[vI A,vI B,vI C,.int .i32 D,vI E])) fun F =>
 cond F
 (T.ret (vI 31))
 (T.ah (m.add 9) [.int .i64] fun G =>
 T.ah (o.add 9) [.int .i64] fun H =>
 cond (G != H)
 (T.ret (vI 31))
 (T.ah (m.add 7) (yL 117) fun I J K L =>
 T.ah (o.add 7) (yL 117) fun M N O P =>
 aY 86 [.agg #[.slice I J K,aG L],.agg #[.slice M N O,aG P]] fun Q =>
 cond (!Q)
 (T.ret (vI 31))
 (T.ret (vI 0)))))))
 (cond (p==(2:Int))
 (T.ah (m.add 2) [.int .i64,.int .i64,.int .i64,.int .i32,.int .i64] fun q r s t u =>
 T.ah (m.add 7) (yL 117) fun v w x y =>
 T.aC (o.add 2) [vI q,vI r,vI s,.int .i32 t,vI u] <|
 T.bi [((m.add 7),[.slice v w x,aG y])] <|
 T.aC (o.add 7) [.slice v w x,aG y] <|
 T.ret (vI 31))
 (cond (p==(3:Int))
 (T.ah (m.add 9) [.int .i64] fun q =>
 T.aC (o.add 9) [vI q] <|
 T.ah (m.add 9) [.int .i64] fun r =>
 aY 85 [vI r] fun s =>
 cond (!s)
 (T.ret (vI 31))
 (T.ah (m.add 1) [.string] fun t =>
 T.ah (o.add 1) [.string] fun u =>
 cond (!((ByteArray.toList t)==(ByteArray.toList u)))
 (T.ret (vI 31))
 (T.ah (m.add 2) [.int .i64,.int .i64,.int .i64,.int .i32,.int .i64] fun v w x y z =>
 T.ah (o.add 2) [.int .i64,.int .i64,.int .i64,.int .i32,.int .i64] fun A B C D E =>
 dN (Sx.jv (BinOp.neq) 65 (Operand.tmp 109) (Operand.tmp 111) (.agg #[vI v,vI w,vI x,.int .i32 y,vI z]) (.agg #[vI A,vI B,vI C,.int .i32 D,vI E])) fun F =>
 cond F
 (T.ret (vI 31))
 (T.ah (m.add 9) [.int .i64] fun G =>
 T.ah (o.add 9) [.int .i64] fun H =>
 cond (G != H)
 (T.ret (vI 31))
 (T.ah (m.add 7) (yL 117) fun I J K L =>
 T.ah (o.add 7) (yL 117) fun M N O P =>
 aY 86 [.agg #[.slice I J K,aG L],.agg #[.slice M N O,aG P]] fun Q =>
 cond (!Q)
 (T.ret (vI 31))
 (T.ret (vI 0)))))))
 (cond (p==(4:Int))
 (T.ret (vI 31))
 (cond (p==(5:Int))
 (T.ah (m.add 9) [.int .i64] fun q =>
 T.aC (o.add 9) [vI q] <|
 T.ah (m.add 9) [.int .i64] fun r =>
 cond (decide (r>=(-128:Int)))
 (T.ah (m.add 9) [.int .i64] fun s =>
 cond (!(decide (s<=(255:Int))))
 (T.ret (vI 31))
 (T.ah (m.add 1) [.string] fun t =>
 T.ah (o.add 1) [.string] fun u =>
 cond (!((ByteArray.toList t)==(ByteArray.toList u)))
 (T.ret (vI 31))
 (T.ah (m.add 2) [.int .i64,.int .i64,.int .i64,.int .i32,.int .i64] fun v w x y z =>
 T.ah (o.add 2) [.int .i64,.int .i64,.int .i64,.int .i32,.int .i64] fun A B C D E =>
 dN (Sx.jv (BinOp.neq) 65 (Operand.tmp 109) (Operand.tmp 111) (.agg #[vI v,vI w,vI x,.int .i32 y,vI z]) (.agg #[vI A,vI B,vI C,.int .i32 D,vI E])) fun F =>
 cond F
 (T.ret (vI 31))
 (T.ah (m.add 9) [.int .i64] fun G =>
 T.ah (o.add 9) [.int .i64] fun H =>
 cond (G != H)
 (T.ret (vI 31))
 (T.ah (m.add 7) (yL 117) fun I J K L =>
 T.ah (o.add 7) (yL 117) fun M N O P =>
 aY 86 [.agg #[.slice I J K,aG L],.agg #[.slice M N O,aG P]] fun Q =>
 cond (!Q)
 (T.ret (vI 31))
 (T.ret (vI 0)))))))
 (T.ret (vI 31)))
 (cond (p==(6:Int))
 (T.ah (m.add 7) (yL 117) fun q r s t =>
 T.aC (o.add 7) [.slice q r s,aG t] <|
 T.ah (m.add 7) (yL 117) fun u v w x =>
 aY 61 [.agg #[.slice u v w,aG x]] fun y =>
 cond (!y)
 (T.ret (vI 31))
 (T.ah (m.add 1) [.string] fun z =>
 T.ah (o.add 1) [.string] fun A =>
 cond (!((ByteArray.toList z)==(ByteArray.toList A)))
 (T.ret (vI 31))
 (T.ah (m.add 2) [.int .i64,.int .i64,.int .i64,.int .i32,.int .i64] fun B C D E F =>
 T.ah (o.add 2) [.int .i64,.int .i64,.int .i64,.int .i32,.int .i64] fun G H I J K =>
 dN (Sx.jv (BinOp.neq) 65 (Operand.tmp 109) (Operand.tmp 111) (.agg #[vI B,vI C,vI D,.int .i32 E,vI F]) (.agg #[vI G,vI H,vI I,.int .i32 J,vI K])) fun L =>
 cond L
 (T.ret (vI 31))
 (T.ah (m.add 9) [.int .i64] fun M =>
 T.ah (o.add 9) [.int .i64] fun N =>
 cond (M != N)
 (T.ret (vI 31))
 (T.ah (m.add 7) (yL 117) fun O P Q R =>
 T.ah (o.add 7) (yL 117) fun S U V W =>
 aY 86 [.agg #[.slice O P Q,aG R],.agg #[.slice S U V,aG W]] fun X =>
 cond (!X)
 (T.ret (vI 31))
 (T.ret (vI 0)))))))
 (cond (p==(7:Int))
 (T.ah (m.add 9) [.int .i64] fun q =>
 T.aC (o.add 9) [vI q] <|
 T.ah (m.add 9) [.int .i64] fun r =>
 cond (decide (r>=(0:Int)))
 (T.ah (m.add 9) [.int .i64] fun s =>
 cond (!(decide (s<=(1048576:Int))))
 (T.ret (vI 31))
 (T.ah (m.add 1) [.string] fun t =>
 T.ah (o.add 1) [.string] fun u =>
 cond (!((ByteArray.toList t)==(ByteArray.toList u)))
 (T.ret (vI 31))
 (T.ah (m.add 2) [.int .i64,.int .i64,.int .i64,.int .i32,.int .i64] fun v w x y z =>
 T.ah (o.add 2) [.int .i64,.int .i64,.int .i64,.int .i32,.int .i64] fun A B C D E =>
 dN (Sx.jv (BinOp.neq) 65 (Operand.tmp 109) (Operand.tmp 111) (.agg #[vI v,vI w,vI x,.int .i32 y,vI z]) (.agg #[vI A,vI B,vI C,.int .i32 D,vI E])) fun F =>
 cond F
 (T.ret (vI 31))
 (T.ah (m.add 9) [.int .i64] fun G =>
 T.ah (o.add 9) [.int .i64] fun H =>
 cond (G != H)
 (T.ret (vI 31))
 (T.ah (m.add 7) (yL 117) fun I J K L =>
 T.ah (o.add 7) (yL 117) fun M N O P =>
 aY 86 [.agg #[.slice I J K,aG L],.agg #[.slice M N O,aG P]] fun Q =>
 cond (!Q)
 (T.ret (vI 31))
 (T.ret (vI 0)))))))
 (T.ret (vI 31)))
 (T.ret (vI 31))))))))
def tU (a:Int) (b:Xaa) (c:Int) (d:Int) (e:Int) (f:Int) (g:Int) (h:Xac) (i:Nat) (j:Nat) (k:Int) (l:Int):bT Tryz.prog [] Tryz.f59 [.agg #[vI a,.string b,vI c,vI d,vI e,.int .i32 f,vI g,.slice h i j,.int .u32 k,vI l],vI 1]=pS a b c d e f g h i j k l:=ax
def jX (a:Xac) (b c:Nat):T :=
 T.loop [cn,aR,aR] [.bool false,vI 0,vI 0] fun d e f =>
 bH f b
 (cond (decide (f<(65:Int)))
 (bf f b a fun g =>
 T.ah (g.add (aP f 4)) [.slice 71] fun h i j =>
 cond (decide ((i:Int)>(600:Int)))
 dP
 (bf f b a fun k =>
 T.ah ((k.add (aP f 4)).add 1) [.slice 71] fun l m n =>
 cond (decide ((m:Int)>(300:Int)))
 dP
 (bf f b a fun o =>
 T.ah ((o.add (aP f 4)).add 2) [.slice 100] fun p q r =>
 cond (decide ((q:Int)>(100:Int)))
 dP
 (bf f b a fun s =>
 T.ah (s.add (aP f 4)) [.slice 71] fun t u v =>
 bf f b a fun w =>
 T.ah ((w.add (aP f 4)).add 1) [.slice 71] fun x y z =>
 bf f b a fun A =>
 T.ah ((A.add (aP f 4)).add 2) [.slice 100] fun B C D =>
 T.again 0 [.bool d,vI (bt ((bt ((bt (e+(u:Int)))+(y:Int)))+(C:Int))),bk f]))))
 (T.ret (.bool (decide (e>(900:Int))))))
 (T.ret (.bool (decide (e>(900:Int)))))
def oD (a:Xac) (b c:Nat):bT Tryz.prog [] Tryz.f25 [.slice a b c]=jX a b c:=ax
end Go.Sx
