/- Trees of functions. No condition. -/
import Derived.Test.YtfkjiiapldkoeaaGreatDoorSxF
import Derived.Test.YtfkjiiapldkoeaaGreatDoorProg
import Derived.KernelRfl
set_option linter.all false
set_option maxRecDepth 100000
set_option maxHeartbeats 4000000
namespace Go.Sx
open Go.Proofs
def kP (a:Int) (b:Int) (c:Int) (d:Int) (e:Int):T :=
 T.new [vI a,vI b,vI c,.int .i32 d,vI e] 90 fun f =>
 T.ah (f.add 1) [.int .i64] fun g =>
 cond (g==(0:Int))
 (T.ah (f.add 2) [.int .i64] fun h =>
 T.ret (.bool (h==(0:Int))))
 bE
def pF (a:Int) (b:Int) (c:Int) (d:Int) (e:Int):bD Tryz.prog [] Tryz.f143 [.agg #[vI a,vI b,vI c,.int .i32 d,vI e],vI 1]=kP a b c d e:=aB
def lh (a:Int) (b:Int) (c:Int) (d:Int) (e:Int):T :=
 T.new [vI a,vI b,vI c,.int .i32 d,vI e] 90 fun f =>
 T.ah (f.add 1) [.int .i64] fun g =>
 aN 172 [vI g,vI 8] fun h =>
 cond h
 (T.ah (f.add 2) [.int .i64] fun i =>
 T.ret (.bool (i==(0:Int))))
 bE
def px (a:Int) (b:Int) (c:Int) (d:Int) (e:Int):bD Tryz.prog [] Tryz.f143 [.agg #[vI a,vI b,vI c,.int .i32 d,vI e],vI 2]=lh a b c d e:=aB
def kw (a:Int) (b:Int) (c:Int) (d:Int) (e:Int):T :=
 T.new [vI a,vI b,vI c,.int .i32 d,vI e] 90 fun f =>
 T.ah (f.add 1) [.int .i64] fun g =>
 aN 172 [vI g,vI 4] fun h =>
 cond h
 (T.ah (f.add 2) [.int .i64] fun i =>
 T.ret (.bool (i==(0:Int))))
 bE
def pK (a:Int) (b:Int) (c:Int) (d:Int) (e:Int):bD Tryz.prog [] Tryz.f143 [.agg #[vI a,vI b,vI c,.int .i32 d,vI e],vI 3]=kw a b c d e:=aB
def kn (a:Int) (b:Int) (c:Int) (d:Int) (e:Int):T :=
 T.new [vI a,vI b,vI c,.int .i32 d,vI e] 90 fun f =>
 T.ah (f.add 1) [.int .i64] fun g =>
 aN 172 [vI g,vI 8] fun h =>
 cond h
 (T.ah (f.add 2) [.int .i64] fun i =>
 aN 172 [vI i,vI 8] fun j =>
 T.ret (.bool j))
 bE
def ph (a:Int) (b:Int) (c:Int) (d:Int) (e:Int):bD Tryz.prog [] Tryz.f143 [.agg #[vI a,vI b,vI c,.int .i32 d,vI e],vI 4]=kn a b c d e:=aB
def kS (a:Int) (b:Int) (c:Int) (d:Int) (e:Int):T :=
 T.new [vI a,vI b,vI c,.int .i32 d,vI e] 90 fun f =>
 T.ah (f.add 1) [.int .i64] fun g =>
 aN 172 [vI g,vI 4] fun h =>
 cond h
 (T.ah (f.add 2) [.int .i64] fun i =>
 aN 172 [vI i,vI 4] fun j =>
 T.ret (.bool j))
 bE
def pI (a:Int) (b:Int) (c:Int) (d:Int) (e:Int):bD Tryz.prog [] Tryz.f143 [.agg #[vI a,vI b,vI c,.int .i32 d,vI e],vI 5]=kS a b c d e:=aB
def kr (a:Int) (b:Int) (c:Int) (d:Int) (e:Int):T :=
 T.new [vI a,vI b,vI c,.int .i32 d,vI e] 90 fun f =>
 T.ah (f.add 1) [.int .i64] fun g =>
 aN 172 [vI g,vI 8] fun h =>
 cond h
 (T.ah (f.add 2) [.int .i64] fun i =>
 aN 172 [vI i,vI 4] fun j =>
 T.ret (.bool j))
 bE
def pu (a:Int) (b:Int) (c:Int) (d:Int) (e:Int):bD Tryz.prog [] Tryz.f143 [.agg #[vI a,vI b,vI c,.int .i32 d,vI e],vI 6]=kr a b c d e:=aB
def km (a:Int) (b:Int) (c:Int) (d:Int) (e:Int):T :=
 T.new [vI a,vI b,vI c,.int .i32 d,vI e] 90 fun f =>
 T.ah (f.add 1) [.int .i64] fun g =>
 aN 172 [vI g,vI 4] fun h =>
 cond h
 (T.ah (f.add 2) [.int .i64] fun i =>
 aN 172 [vI i,vI 8] fun j =>
 cond j
 (T.ah (f.add 3) [.int .i32] fun k =>
 cond (decide (k>=(0:Int)))
 (T.ah (f.add 3) [.int .i32] fun l =>
 T.ret (.bool (decide (l<(8:Int)))))
 bE)
 bE)
 bE
def pH (a:Int) (b:Int) (c:Int) (d:Int) (e:Int):bD Tryz.prog [] Tryz.f143 [.agg #[vI a,vI b,vI c,.int .i32 d,vI e],vI 7]=km a b c d e:=aB
def kp (a:Int) (b:Int) (c:Int) (d:Int) (e:Int):T :=
 T.new [vI a,vI b,vI c,.int .i32 d,vI e] 90 fun f =>
 T.ah (f.add 1) [.int .i64] fun g =>
 aN 172 [vI g,vI 8] fun h =>
 cond h
 (T.ah (f.add 2) [.int .i64] fun i =>
 T.ret (.bool (i==(0:Int))))
 bE
def pM (a:Int) (b:Int) (c:Int) (d:Int) (e:Int):bD Tryz.prog [] Tryz.f143 [.agg #[vI a,vI b,vI c,.int .i32 d,vI e],vI 8]=kp a b c d e:=aB
def kN (a:Int) (b:Int) (c:Int) (d:Int) (e:Int):T :=
 T.new [vI a,vI b,vI c,.int .i32 d,vI e] 90 fun f =>
 T.ah (f.add 1) [.int .i64] fun g =>
 cond (g==(0:Int))
 (T.ah (f.add 2) [.int .i64] fun h =>
 T.ret (.bool (h==(0:Int))))
 bE
def pn (a:Int) (b:Int) (c:Int) (d:Int) (e:Int):bD Tryz.prog [] Tryz.f143 [.agg #[vI a,vI b,vI c,.int .i32 d,vI e],vI 9]=kN a b c d e:=aB
def jQ (a:Int) (b:Int) (c:Int) (d:Int) (e:Int):T :=
 T.new [vI a,vI b,vI c,.int .i32 d,vI e] 90 fun f =>
 T.ah (f.add 1) [.int .i64] fun g =>
 aN 172 [vI g,vI 8] fun h =>
 cond h
 (T.ah (f.add 2) [.int .i64] fun i =>
 T.ret (.bool (i==(0:Int))))
 bE
def oK (a:Int) (b:Int) (c:Int) (d:Int) (e:Int):bD Tryz.prog [] Tryz.f143 [.agg #[vI a,vI b,vI c,.int .i32 d,vI e],vI 10]=jQ a b c d e:=aB
def jY (a:Int) (b:Int) (c:Int) (d:Int) (e:Int):T :=
 T.new [vI a,vI b,vI c,.int .i32 d,vI e] 90 fun f =>
 T.ah (f.add 1) [.int .i64] fun g =>
 aN 172 [vI g,vI 8] fun h =>
 cond h
 (T.ah (f.add 2) [.int .i64] fun i =>
 T.ret (.bool (i==(0:Int))))
 bE
def nU (a:Int) (b:Int) (c:Int) (d:Int) (e:Int):bD Tryz.prog [] Tryz.f143 [.agg #[vI a,vI b,vI c,.int .i32 d,vI e],vI 11]=jY a b c d e:=aB
def jX (a:Int) (b:Int) (c:Int) (d:Int) (e:Int):T :=
 T.new [vI a,vI b,vI c,.int .i32 d,vI e] 90 fun f =>
 T.ah (f.add 1) [.int .i64] fun g =>
 cond (g==(0:Int))
 (T.ah (f.add 2) [.int .i64] fun h =>
 T.ret (.bool (h==(0:Int))))
 bE
def nK (a:Int) (b:Int) (c:Int) (d:Int) (e:Int):bD Tryz.prog [] Tryz.f143 [.agg #[vI a,vI b,vI c,.int .i32 d,vI e],vI 12]=jX a b c d e:=aB
def j3 (a:Int) (b:Int) (c:Int) (d:Int) (e:Int):T :=
 T.new [vI a,vI b,vI c,.int .i32 d,vI e] 90 fun f =>
 T.ah (f.add 1) [.int .i64] fun g =>
 aN 172 [vI g,vI 8] fun h =>
 cond h
 (T.ah (f.add 2) [.int .i64] fun i =>
 T.ret (.bool (i==(0:Int))))
 bE
def oi (a:Int) (b:Int) (c:Int) (d:Int) (e:Int):bD Tryz.prog [] Tryz.f143 [.agg #[vI a,vI b,vI c,.int .i32 d,vI e],vI 13]=j3 a b c d e:=aB
def oY (a:Int) (b:Int) (c:Int) (d:Int) (e:Int):T :=
 T.new [vI a,vI b,vI c,.int .i32 d,vI e] 90 fun f =>
 T.ah (f.add 3) [.int .i32] fun g =>
 T.ret (.bool (g==(0:Int)))
def sK (a:Int) (b:Int) (c:Int) (d:Int) (e:Int):bD Tryz.prog [] Tryz.f144 [.agg #[vI a,vI b,vI c,.int .i32 d,vI e],vI 1]=oY a b c d e:=aB
def oV (a:Int) (b:Int) (c:Int) (d:Int) (e:Int):T :=
 T.new [vI a,vI b,vI c,.int .i32 d,vI e] 90 fun f =>
 T.ah (f.add 3) [.int .i32] fun g =>
 T.ret (.bool (g==(0:Int)))
def sE (a:Int) (b:Int) (c:Int) (d:Int) (e:Int):bD Tryz.prog [] Tryz.f144 [.agg #[vI a,vI b,vI c,.int .i32 d,vI e],vI 2]=oV a b c d e:=aB
def oZ (a:Int) (b:Int) (c:Int) (d:Int) (e:Int):T :=
 T.new [vI a,vI b,vI c,.int .i32 d,vI e] 90 fun f =>
 T.ah (f.add 3) [.int .i32] fun g =>
 T.ret (.bool (g==(0:Int)))
def sA (a:Int) (b:Int) (c:Int) (d:Int) (e:Int):bD Tryz.prog [] Tryz.f144 [.agg #[vI a,vI b,vI c,.int .i32 d,vI e],vI 3]=oZ a b c d e:=aB
def oX (a:Int) (b:Int) (c:Int) (d:Int) (e:Int):T :=
 T.new [vI a,vI b,vI c,.int .i32 d,vI e] 90 fun f =>
 T.ah (f.add 3) [.int .i32] fun g =>
 T.ret (.bool (g==(0:Int)))
def sH (a:Int) (b:Int) (c:Int) (d:Int) (e:Int):bD Tryz.prog [] Tryz.f144 [.agg #[vI a,vI b,vI c,.int .i32 d,vI e],vI 4]=oX a b c d e:=aB
def oU (a:Int) (b:Int) (c:Int) (d:Int) (e:Int):T :=
 T.new [vI a,vI b,vI c,.int .i32 d,vI e] 90 fun f =>
 T.ah (f.add 3) [.int .i32] fun g =>
 T.ret (.bool (g==(0:Int)))
def su (a:Int) (b:Int) (c:Int) (d:Int) (e:Int):bD Tryz.prog [] Tryz.f144 [.agg #[vI a,vI b,vI c,.int .i32 d,vI e],vI 5]=oU a b c d e:=aB
def o0 (a:Int) (b:Int) (c:Int) (d:Int) (e:Int):T :=
 T.new [vI a,vI b,vI c,.int .i32 d,vI e] 90 fun f =>
 T.ah (f.add 3) [.int .i32] fun g =>
 T.ret (.bool (g==(0:Int)))
def sZ (a:Int) (b:Int) (c:Int) (d:Int) (e:Int):bD Tryz.prog [] Tryz.f144 [.agg #[vI a,vI b,vI c,.int .i32 d,vI e],vI 6]=o0 a b c d e:=aB
def pe (a:Int) (b:Int) (c:Int) (d:Int) (e:Int):T :=
 T.new [vI a,vI b,vI c,.int .i32 d,vI e] 90 fun f =>
 T.ret (.bool true)
def tf (a:Int) (b:Int) (c:Int) (d:Int) (e:Int):bD Tryz.prog [] Tryz.f144 [.agg #[vI a,vI b,vI c,.int .i32 d,vI e],vI 7]=pe a b c d e:=aB
def o1 (a:Int) (b:Int) (c:Int) (d:Int) (e:Int):T :=
 T.new [vI a,vI b,vI c,.int .i32 d,vI e] 90 fun f =>
 T.ah (f.add 3) [.int .i32] fun g =>
 aN 173 [.int .i32 g,vI 1] fun h =>
 T.ret (.bool h)
def sQ (a:Int) (b:Int) (c:Int) (d:Int) (e:Int):bD Tryz.prog [] Tryz.f144 [.agg #[vI a,vI b,vI c,.int .i32 d,vI e],vI 8]=o1 a b c d e:=aB
def oT (a:Int) (b:Int) (c:Int) (d:Int) (e:Int):T :=
 T.new [vI a,vI b,vI c,.int .i32 d,vI e] 90 fun f =>
 T.ah (f.add 3) [.int .i32] fun g =>
 cond (decide (g>=(0:Int)))
 (T.ah (f.add 3) [.int .i32] fun h =>
 T.ret (.bool (decide (h<=(255:Int)))))
 bE
def sB (a:Int) (b:Int) (c:Int) (d:Int) (e:Int):bD Tryz.prog [] Tryz.f144 [.agg #[vI a,vI b,vI c,.int .i32 d,vI e],vI 9]=oT a b c d e:=aB
def mY (a:Int) (b:Int) (c:Int) (d:Int) (e:Int):T :=
 T.new [vI a,vI b,vI c,.int .i32 d,vI e] 90 fun f =>
 T.ret (.bool true)
def rF (a:Int) (b:Int) (c:Int) (d:Int) (e:Int):bD Tryz.prog [] Tryz.f144 [.agg #[vI a,vI b,vI c,.int .i32 d,vI e],vI 10]=mY a b c d e:=aB
def ni (a:Int) (b:Int) (c:Int) (d:Int) (e:Int):T :=
 T.new [vI a,vI b,vI c,.int .i32 d,vI e] 90 fun f =>
 T.ah (f.add 3) [.int .i32] fun g =>
 cond (decide (g>=(0:Int)))
 (T.ah (f.add 3) [.int .i32] fun h =>
 T.ret (.bool (decide (h<=(4095:Int)))))
 bE
def rn (a:Int) (b:Int) (c:Int) (d:Int) (e:Int):bD Tryz.prog [] Tryz.f144 [.agg #[vI a,vI b,vI c,.int .i32 d,vI e],vI 11]=ni a b c d e:=aB
def mQ (a:Int) (b:Int) (c:Int) (d:Int) (e:Int):T :=
 T.new [vI a,vI b,vI c,.int .i32 d,vI e] 90 fun f =>
 T.ah (f.add 3) [.int .i32] fun g =>
 T.ah (f.add 4) [.int .i64] fun h =>
 aN 173 [.int .i32 g,vI h] fun i =>
 T.ret (.bool i)
def rh (a:Int) (b:Int) (c:Int) (d:Int) (e:Int):bD Tryz.prog [] Tryz.f144 [.agg #[vI a,vI b,vI c,.int .i32 d,vI e],vI 12]=mQ a b c d e:=aB
def mB (a:Int) (b:Int) (c:Int) (d:Int) (e:Int):T :=
 T.new [vI a,vI b,vI c,.int .i32 d,vI e] 90 fun f =>
 T.ah (f.add 3) [.int .i32] fun g =>
 T.ah (f.add 4) [.int .i64] fun h =>
 aN 173 [.int .i32 g,vI h] fun i =>
 T.ret (.bool i)
def ri (a:Int) (b:Int) (c:Int) (d:Int) (e:Int):bD Tryz.prog [] Tryz.f144 [.agg #[vI a,vI b,vI c,.int .i32 d,vI e],vI 13]=mB a b c d e:=aB
def oW (a:Int) (b:XA) (c:Int) (d:Int) (e:Int) (f:Int) (g:Int) (h:Option XC) (i:Nat) (j:Nat) (k:Int) (l:Int):T :=
 T.new [vI a,.string b,vI c,vI d,vI e,.int .i32 f,vI g,.slice h i j,av k,vI l] 96 fun m =>
 T.ah m [.int .i64] fun n =>
 T.new [vI 0,bh,vI 0,vI 0,vI 0,.int .i32 0,vI 0,aI,av 0,vI 0] 96 fun o =>
 T.ak o [vI n,bh,vI 0,vI 0,vI 0,.int .i32 0,vI 0,aI,av 0,vI 0] <|
 T.ah m [.int .i64] fun p =>
 cond (p==(1:Int))
 (T.ah (m.add 1) [.string] fun q =>
 T.ak (o.add 1) [.string q] <|
 T.ah (m.add 1) [.string] fun r =>
 aN 45 [.string r] fun s =>
 cond (!s)
 (T.ret (vI 31))
 (T.ah (m.add 1) [.string] fun t =>
 T.ah (o.add 1) [.string] fun u =>
 cond (!((ByteArray.toList t)==(ByteArray.toList u)))
 (T.ret (vI 31))
 (T.ah (m.add 2) [.int .i64,.int .i64,.int .i64,.int .i32,.int .i64] fun v w x y z =>
 T.ah (o.add 2) [.int .i64,.int .i64,.int .i64,.int .i32,.int .i64] fun A B C D E =>
 bR (Sx.df (BinOp.neq) 90 (Operand.tmp 109) (Operand.tmp 111) (.agg #[vI v,vI w,vI x,.int .i32 y,vI z]) (.agg #[vI A,vI B,vI C,.int .i32 D,vI E])) fun F =>
 cond F
 (T.ret (vI 31))
 (T.ah (m.add 9) [.int .i64] fun G =>
 T.ah (o.add 9) [.int .i64] fun H =>
 cond (G != H)
 (T.ret (vI 31))
 (T.ah (m.add 7) (yL 109) fun I J K L =>
 T.ah (o.add 7) (yL 109) fun M N O P =>
 aN 80 [.agg #[.slice I J K,av L],.agg #[.slice M N O,av P]] fun Q =>
 cond (!Q)
 (T.ret (vI 31))
 (T.ret (vI 0)))))))
 (cond (p==(2:Int))
 (T.ah (m.add 2) [.int .i64,.int .i64,.int .i64,.int .i32,.int .i64] fun q r s t u =>
 T.ah (m.add 7) (yL 109) fun v w x y =>
 T.ak (o.add 2) [vI q,vI r,vI s,.int .i32 t,vI u] <|
 T.aT [((m.add 7),[.slice v w x,av y])] <|
 T.ak (o.add 7) [.slice v w x,av y] <|
 T.ah m (yI 109) fun z A B C D E F G H I J K =>
 aN 78 [.agg #[vI z,.string A,vI B,vI C,vI D,.int .i32 E,vI F,.slice G H I,av J,vI K]] fun L =>
 cond (!L)
 (T.ret (vI 31))
 (T.ah (m.add 1) [.string] fun M =>
 T.ah (o.add 1) [.string] fun N =>
 cond (!((ByteArray.toList M)==(ByteArray.toList N)))
 (T.ret (vI 31))
 (T.ah (m.add 2) [.int .i64,.int .i64,.int .i64,.int .i32,.int .i64] fun O P Q R S =>
 T.ah (o.add 2) [.int .i64,.int .i64,.int .i64,.int .i32,.int .i64] fun U V W X Y =>
 bR (Sx.df (BinOp.neq) 90 (Operand.tmp 109) (Operand.tmp 111) (.agg #[vI O,vI P,vI Q,.int .i32 R,vI S]) (.agg #[vI U,vI V,vI W,.int .i32 X,vI Y])) fun Z =>
 cond Z
 (T.ret (vI 31))
 (T.ah (m.add 9) [.int .i64] fun a0 =>
 T.ah (o.add 9) [.int .i64] fun a1 =>
 cond (a0 != a1)
 (T.ret (vI 31))
 (T.ah (m.add 7) (yL 109) fun a2 a3 a4 a5 =>
 T.ah (o.add 7) (yL 109) fun a6 a7 a8 a9 =>
 aN 80 [.agg #[.slice a2 a3 a4,av a5],.agg #[.slice a6 a7 a8,av a9]] fun b0 =>
 cond (!b0)
 (T.ret (vI 31))
 (T.ret (vI 0)))))))
 (cond (p==(3:Int))
 (T.ah (m.add 9) [.int .i64] fun q =>
 T.ak (o.add 9) [vI q] <|
 T.ah (m.add 9) [.int .i64] fun r =>
 aN 79 [vI r] fun s =>
 cond (!s)
 (T.ret (vI 31))
 (T.ah (m.add 1) [.string] fun t =>
 T.ah (o.add 1) [.string] fun u =>
 cond (!((ByteArray.toList t)==(ByteArray.toList u)))
 (T.ret (vI 31))
 (T.ah (m.add 2) [.int .i64,.int .i64,.int .i64,.int .i32,.int .i64] fun v w x y z =>
 T.ah (o.add 2) [.int .i64,.int .i64,.int .i64,.int .i32,.int .i64] fun A B C D E =>
 bR (Sx.df (BinOp.neq) 90 (Operand.tmp 109) (Operand.tmp 111) (.agg #[vI v,vI w,vI x,.int .i32 y,vI z]) (.agg #[vI A,vI B,vI C,.int .i32 D,vI E])) fun F =>
 cond F
 (T.ret (vI 31))
 (T.ah (m.add 9) [.int .i64] fun G =>
 T.ah (o.add 9) [.int .i64] fun H =>
 cond (G != H)
 (T.ret (vI 31))
 (T.ah (m.add 7) (yL 109) fun I J K L =>
 T.ah (o.add 7) (yL 109) fun M N O P =>
 aN 80 [.agg #[.slice I J K,av L],.agg #[.slice M N O,av P]] fun Q =>
 cond (!Q)
 (T.ret (vI 31))
 (T.ret (vI 0)))))))
 (cond (p==(4:Int))
 (T.ah (m.add 1) [.string] fun q =>
 T.ah (o.add 1) [.string] fun r =>
 cond (!((ByteArray.toList q)==(ByteArray.toList r)))
 (T.ret (vI 31))
 (T.ah (m.add 2) [.int .i64,.int .i64,.int .i64,.int .i32,.int .i64] fun s t u v w =>
 T.ah (o.add 2) [.int .i64,.int .i64,.int .i64,.int .i32,.int .i64] fun x y z A B =>
 bR (Sx.df (BinOp.neq) 90 (Operand.tmp 109) (Operand.tmp 111) (.agg #[vI s,vI t,vI u,.int .i32 v,vI w]) (.agg #[vI x,vI y,vI z,.int .i32 A,vI B])) fun C =>
 cond C
 (T.ret (vI 31))
 (T.ah (m.add 9) [.int .i64] fun D =>
 T.ah (o.add 9) [.int .i64] fun E =>
 cond (D != E)
 (T.ret (vI 31))
 (T.ah (m.add 7) (yL 109) fun F G H I =>
 T.ah (o.add 7) (yL 109) fun J K L M =>
 aN 80 [.agg #[.slice F G H,av I],.agg #[.slice J K L,av M]] fun N =>
 cond (!N)
 (T.ret (vI 31))
 (T.ret (vI 0))))))
 (cond (p==(5:Int))
 (T.ah (m.add 9) [.int .i64] fun q =>
 T.ak (o.add 9) [vI q] <|
 T.ret (vI 31))
 (cond (p==(6:Int))
 (T.ah (m.add 7) (yL 109) fun q r s t =>
 T.ak (o.add 7) [.slice q r s,av t] <|
 T.ret (vI 31))
 (cond (p==(7:Int))
 (T.ah (m.add 9) [.int .i64] fun q =>
 T.ak (o.add 9) [vI q] <|
 T.ret (vI 31))
 (T.ret (vI 31))))))))
def sJ (a:Int) (b:XA) (c:Int) (d:Int) (e:Int) (f:Int) (g:Int) (h:Option XC) (i:Nat) (j:Nat) (k:Int) (l:Int):bD Tryz.prog [] Tryz.f44 [.agg #[vI a,.string b,vI c,vI d,vI e,.int .i32 f,vI g,.slice h i j,.int .u32 k,vI l],vI 0]=oW a b c d e f g h i j k l:=aB
def oS (a:Int) (b:XA) (c:Int) (d:Int) (e:Int) (f:Int) (g:Int) (h:Option XC) (i:Nat) (j:Nat) (k:Int) (l:Int):T :=
 T.new [vI a,.string b,vI c,vI d,vI e,.int .i32 f,vI g,.slice h i j,av k,vI l] 96 fun m =>
 T.ah m [.int .i64] fun n =>
 T.new [vI 0,bh,vI 0,vI 0,vI 0,.int .i32 0,vI 0,aI,av 0,vI 0] 96 fun o =>
 T.ak o [vI n,bh,vI 0,vI 0,vI 0,.int .i32 0,vI 0,aI,av 0,vI 0] <|
 T.ah m [.int .i64] fun p =>
 cond (p==(1:Int))
 (T.ah (m.add 1) [.string] fun q =>
 T.ak (o.add 1) [.string q] <|
 T.ah (m.add 1) [.string] fun r =>
 aN 45 [.string r] fun s =>
 cond (!s)
 (T.ret (vI 31))
 (T.ah (m.add 1) [.string] fun t =>
 T.ah (o.add 1) [.string] fun u =>
 cond (!((ByteArray.toList t)==(ByteArray.toList u)))
 (T.ret (vI 31))
 (T.ah (m.add 2) [.int .i64,.int .i64,.int .i64,.int .i32,.int .i64] fun v w x y z =>
 T.ah (o.add 2) [.int .i64,.int .i64,.int .i64,.int .i32,.int .i64] fun A B C D E =>
 bR (Sx.df (BinOp.neq) 90 (Operand.tmp 109) (Operand.tmp 111) (.agg #[vI v,vI w,vI x,.int .i32 y,vI z]) (.agg #[vI A,vI B,vI C,.int .i32 D,vI E])) fun F =>
 cond F
 (T.ret (vI 31))
 (T.ah (m.add 9) [.int .i64] fun G =>
 T.ah (o.add 9) [.int .i64] fun H =>
 cond (G != H)
 (T.ret (vI 31))
 (T.ah (m.add 7) (yL 109) fun I J K L =>
 T.ah (o.add 7) (yL 109) fun M N O P =>
 aN 80 [.agg #[.slice I J K,av L],.agg #[.slice M N O,av P]] fun Q =>
 cond (!Q)
 (T.ret (vI 31))
 (T.ret (vI 0)))))))
 (cond (p==(2:Int))
 (T.ah (m.add 2) [.int .i64,.int .i64,.int .i64,.int .i32,.int .i64] fun q r s t u =>
 T.ah (m.add 7) (yL 109) fun v w x y =>
 T.ak (o.add 2) [vI q,vI r,vI s,.int .i32 t,vI u] <|
 T.aT [((m.add 7),[.slice v w x,av y])] <|
 T.ak (o.add 7) [.slice v w x,av y] <|
 T.ret (vI 31))
 (cond (p==(3:Int))
 (T.ah (m.add 9) [.int .i64] fun q =>
 T.ak (o.add 9) [vI q] <|
 T.ah (m.add 9) [.int .i64] fun r =>
 aN 79 [vI r] fun s =>
 cond (!s)
 (T.ret (vI 31))
 (T.ah (m.add 1) [.string] fun t =>
 T.ah (o.add 1) [.string] fun u =>
 cond (!((ByteArray.toList t)==(ByteArray.toList u)))
 (T.ret (vI 31))
 (T.ah (m.add 2) [.int .i64,.int .i64,.int .i64,.int .i32,.int .i64] fun v w x y z =>
 T.ah (o.add 2) [.int .i64,.int .i64,.int .i64,.int .i32,.int .i64] fun A B C D E =>
 bR (Sx.df (BinOp.neq) 90 (Operand.tmp 109) (Operand.tmp 111) (.agg #[vI v,vI w,vI x,.int .i32 y,vI z]) (.agg #[vI A,vI B,vI C,.int .i32 D,vI E])) fun F =>
 cond F
 (T.ret (vI 31))
 (T.ah (m.add 9) [.int .i64] fun G =>
 T.ah (o.add 9) [.int .i64] fun H =>
 cond (G != H)
 (T.ret (vI 31))
 (T.ah (m.add 7) (yL 109) fun I J K L =>
 T.ah (o.add 7) (yL 109) fun M N O P =>
 aN 80 [.agg #[.slice I J K,av L],.agg #[.slice M N O,av P]] fun Q =>
 cond (!Q)
 (T.ret (vI 31))
 (T.ret (vI 0)))))))
 (cond (p==(4:Int))
 (T.ret (vI 31))
 (cond (p==(5:Int))
 (T.ah (m.add 9) [.int .i64] fun q =>
 T.ak (o.add 9) [vI q] <|
 T.ah (m.add 9) [.int .i64] fun r =>
 cond (decide (r>=(-128:Int)))
 (T.ah (m.add 9) [.int .i64] fun s =>
 cond (!(decide (s<=(255:Int))))
 (T.ret (vI 31))
 (T.ah (m.add 1) [.string] fun t =>
 T.ah (o.add 1) [.string] fun u =>
 cond (!((ByteArray.toList t)==(ByteArray.toList u)))
 (T.ret (vI 31))
 (T.ah (m.add 2) [.int .i64,.int .i64,.int .i64,.int .i32,.int .i64] fun v w x y z =>
 T.ah (o.add 2) [.int .i64,.int .i64,.int .i64,.int .i32,.int .i64] fun A B C D E =>
 bR (Sx.df (BinOp.neq) 90 (Operand.tmp 109) (Operand.tmp 111) (.agg #[vI v,vI w,vI x,.int .i32 y,vI z]) (.agg #[vI A,vI B,vI C,.int .i32 D,vI E])) fun F =>
 cond F
 (T.ret (vI 31))
 (T.ah (m.add 9) [.int .i64] fun G =>
 T.ah (o.add 9) [.int .i64] fun H =>
 cond (G != H)
 (T.ret (vI 31))
 (T.ah (m.add 7) (yL 109) fun I J K L =>
 T.ah (o.add 7) (yL 109) fun M N O P =>
 aN 80 [.agg #[.slice I J K,av L],.agg #[.slice M N O,av P]] fun Q =>
 cond (!Q)
 (T.ret (vI 31))
 (T.ret (vI 0)))))))
 (T.ret (vI 31)))
 (cond (p==(6:Int))
 (T.ah (m.add 7) (yL 109) fun q r s t =>
 T.ak (o.add 7) [.slice q r s,av t] <|
 T.ah (m.add 7) (yL 109) fun u v w x =>
 aN 46 [.agg #[.slice u v w,av x]] fun y =>
 cond (!y)
 (T.ret (vI 31))
 (T.ah (m.add 1) [.string] fun z =>
 T.ah (o.add 1) [.string] fun A =>
 cond (!((ByteArray.toList z)==(ByteArray.toList A)))
 (T.ret (vI 31))
 (T.ah (m.add 2) [.int .i64,.int .i64,.int .i64,.int .i32,.int .i64] fun B C D E F =>
 T.ah (o.add 2) [.int .i64,.int .i64,.int .i64,.int .i32,.int .i64] fun G H I J K =>
 bR (Sx.df (BinOp.neq) 90 (Operand.tmp 109) (Operand.tmp 111) (.agg #[vI B,vI C,vI D,.int .i32 E,vI F]) (.agg #[vI G,vI H,vI I,.int .i32 J,vI K])) fun L =>
 cond L
 (T.ret (vI 31))
 (T.ah (m.add 9) [.int .i64] fun M =>
 T.ah (o.add 9) [.int .i64] fun N =>
 cond (M != N)
 (T.ret (vI 31))
 (T.ah (m.add 7) (yL 109) fun O P Q R =>
 T.ah (o.add 7) (yL 109) fun S U V W =>
 aN 80 [.agg #[.slice O P Q,av R],.agg #[.slice S U V,av W]] fun X =>
 cond (!X)
 (T.ret (vI 31))
 (T.ret (vI 0)))))))
 (cond (p==(7:Int))
 (T.ah (m.add 9) [.int .i64] fun q =>
 T.ak (o.add 9) [vI q] <|
 T.ah (m.add 9) [.int .i64] fun r =>
 cond (decide (r>=(0:Int)))
 (T.ah (m.add 9) [.int .i64] fun s =>
 cond (!(decide (s<=(1048576:Int))))
 (T.ret (vI 31))
 (T.ah (m.add 1) [.string] fun t =>
 T.ah (o.add 1) [.string] fun u =>
 cond (!((ByteArray.toList t)==(ByteArray.toList u)))
 (T.ret (vI 31))
 (T.ah (m.add 2) [.int .i64,.int .i64,.int .i64,.int .i32,.int .i64] fun v w x y z =>
 T.ah (o.add 2) [.int .i64,.int .i64,.int .i64,.int .i32,.int .i64] fun A B C D E =>
 bR (Sx.df (BinOp.neq) 90 (Operand.tmp 109) (Operand.tmp 111) (.agg #[vI v,vI w,vI x,.int .i32 y,vI z]) (.agg #[vI A,vI B,vI C,.int .i32 D,vI E])) fun F =>
 cond F
 (T.ret (vI 31))
 (T.ah (m.add 9) [.int .i64] fun G =>
 T.ah (o.add 9) [.int .i64] fun H =>
 cond (G != H)
 (T.ret (vI 31))
 (T.ah (m.add 7) (yL 109) fun I J K L =>
 T.ah (o.add 7) (yL 109) fun M N O P =>
 aN 80 [.agg #[.slice I J K,av L],.agg #[.slice M N O,av P]] fun Q =>
 cond (!Q)
 (T.ret (vI 31))
 (T.ret (vI 0)))))))
 (T.ret (vI 31)))
 (T.ret (vI 31))))))))
def sM (a:Int) (b:XA) (c:Int) (d:Int) (e:Int) (f:Int) (g:Int) (h:Option XC) (i:Nat) (j:Nat) (k:Int) (l:Int):bD Tryz.prog [] Tryz.f44 [.agg #[vI a,.string b,vI c,vI d,vI e,.int .i32 f,vI g,.slice h i j,.int .u32 k,vI l],vI 1]=oS a b c d e f g h i j k l:=aB
end Go.Sx
