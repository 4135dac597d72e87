/- Trees of functions. No condition. -/
import Derived.Test.YtlpcncdglfjnoaaGreatDoorSxF
import Derived.Test.YtlpcncdglfjnoaaGreatDoorProg
import Derived.KernelRfl
set_option linter.all false
set_option maxRecDepth 100000
set_option maxHeartbeats 4000000
namespace Go.Sx
open Go.Proofs
def kS (a b c d e:Int):T :=
 T.new [vI a,vI b,vI c,.int .i32 d,vI e] 62 fun f =>
 T.ae (f.add 1) [.int .i64] fun g =>
 cond (g==0)
 (T.ae (f.add 2) [.int .i64] fun h =>
 T.ret (.bool (h==0)))
 bz
def pJ (a b c d e:Int):bQ YC [] Tryz.f127 [.agg #[vI a,vI b,vI c,.int .i32 d,vI e],vI 1]=kS a b c d e:=aw
def lf (a b c d e:Int):T :=
 T.new [vI a,vI b,vI c,.int .i32 d,vI e] 62 fun f =>
 T.ae (f.add 1) [.int .i64] fun g =>
 aP 142 [vI g,vI 8] fun h =>
 cond h
 (T.ae (f.add 2) [.int .i64] fun i =>
 T.ret (.bool (i==0)))
 bz
def pB (a b c d e:Int):bQ YC [] Tryz.f127 [.agg #[vI a,vI b,vI c,.int .i32 d,vI e],vI 2]=lf a b c d e:=aw
def kJ (a b c d e:Int):T :=
 T.new [vI a,vI b,vI c,.int .i32 d,vI e] 62 fun f =>
 T.ae (f.add 1) [.int .i64] fun g =>
 aP 142 [vI g,vI 4] fun h =>
 cond h
 (T.ae (f.add 2) [.int .i64] fun i =>
 T.ret (.bool (i==0)))
 bz
def pN (a b c d e:Int):bQ YC [] Tryz.f127 [.agg #[vI a,vI b,vI c,.int .i32 d,vI e],vI 3]=kJ a b c d e:=aw
def kz (a b c d e:Int):T :=
 T.new [vI a,vI b,vI c,.int .i32 d,vI e] 62 fun f =>
 T.ae (f.add 1) [.int .i64] fun g =>
 aP 142 [vI g,vI 8] fun h =>
 cond h
 (T.ae (f.add 2) [.int .i64] fun i =>
 aP 142 [vI i,vI 8] fun j =>
 T.ret (.bool j))
 bz
def pt (a b c d e:Int):bQ YC [] Tryz.f127 [.agg #[vI a,vI b,vI c,.int .i32 d,vI e],vI 4]=kz a b c d e:=aw
def kU (a b c d e:Int):T :=
 T.new [vI a,vI b,vI c,.int .i32 d,vI e] 62 fun f =>
 T.ae (f.add 1) [.int .i64] fun g =>
 aP 142 [vI g,vI 4] fun h =>
 cond h
 (T.ae (f.add 2) [.int .i64] fun i =>
 aP 142 [vI i,vI 4] fun j =>
 T.ret (.bool j))
 bz
def pM (a b c d e:Int):bQ YC [] Tryz.f127 [.agg #[vI a,vI b,vI c,.int .i32 d,vI e],vI 5]=kU a b c d e:=aw
def kH (a b c d e:Int):T :=
 T.new [vI a,vI b,vI c,.int .i32 d,vI e] 62 fun f =>
 T.ae (f.add 1) [.int .i64] fun g =>
 aP 142 [vI g,vI 8] fun h =>
 cond h
 (T.ae (f.add 2) [.int .i64] fun i =>
 aP 142 [vI i,vI 4] fun j =>
 T.ret (.bool j))
 bz
def py (a b c d e:Int):bQ YC [] Tryz.f127 [.agg #[vI a,vI b,vI c,.int .i32 d,vI e],vI 6]=kH a b c d e:=aw
def kx (a b c d e:Int):T :=
 T.new [vI a,vI b,vI c,.int .i32 d,vI e] 62 fun f =>
 T.ae (f.add 1) [.int .i64] fun g =>
 aP 142 [vI g,vI 4] fun h =>
 cond h
 (T.ae (f.add 2) [.int .i64] fun i =>
 aP 142 [vI i,vI 8] fun j =>
 cond j
 (T.ae (f.add 3) [.int .i32] fun k =>
 cond (decide (k>=0))
 (T.ae (f.add 3) [.int .i32] fun l =>
 T.ret (.bool (decide (l<8))))
 bz)
 bz)
 bz
def pL (a b c d e:Int):bQ YC [] Tryz.f127 [.agg #[vI a,vI b,vI c,.int .i32 d,vI e],vI 7]=kx a b c d e:=aw
def kC (a b c d e:Int):T :=
 T.new [vI a,vI b,vI c,.int .i32 d,vI e] 62 fun f =>
 T.ae (f.add 1) [.int .i64] fun g =>
 aP 142 [vI g,vI 8] fun h =>
 cond h
 (T.ae (f.add 2) [.int .i64] fun i =>
 T.ret (.bool (i==0)))
 bz
def pO (a b c d e:Int):bQ YC [] Tryz.f127 [.agg #[vI a,vI b,vI c,.int .i32 d,vI e],vI 8]=kC a b c d e:=aw
def kP (a b c d e:Int):T :=
 T.new [vI a,vI b,vI c,.int .i32 d,vI e] 62 fun f =>
 T.ae (f.add 1) [.int .i64] fun g =>
 cond (g==0)
 (T.ae (f.add 2) [.int .i64] fun h =>
 T.ret (.bool (h==0)))
 bz
def px (a b c d e:Int):bQ YC [] Tryz.f127 [.agg #[vI a,vI b,vI c,.int .i32 d,vI e],vI 9]=kP a b c d e:=aw
def jS (a b c d e:Int):T :=
 T.new [vI a,vI b,vI c,.int .i32 d,vI e] 62 fun f =>
 T.ae (f.add 1) [.int .i64] fun g =>
 aP 142 [vI g,vI 8] fun h =>
 cond h
 (T.ae (f.add 2) [.int .i64] fun i =>
 T.ret (.bool (i==0)))
 bz
def oQ (a b c d e:Int):bQ YC [] Tryz.f127 [.agg #[vI a,vI b,vI c,.int .i32 d,vI e],vI 10]=jS a b c d e:=aw
def jW (a b c d e:Int):T :=
 T.new [vI a,vI b,vI c,.int .i32 d,vI e] 62 fun f =>
 T.ae (f.add 1) [.int .i64] fun g =>
 aP 142 [vI g,vI 8] fun h =>
 cond h
 (T.ae (f.add 2) [.int .i64] fun i =>
 T.ret (.bool (i==0)))
 bz
def ox (a b c d e:Int):bQ YC [] Tryz.f127 [.agg #[vI a,vI b,vI c,.int .i32 d,vI e],vI 11]=jW a b c d e:=aw
def jV (a b c d e:Int):T :=
 T.new [vI a,vI b,vI c,.int .i32 d,vI e] 62 fun f =>
 T.ae (f.add 1) [.int .i64] fun g =>
 cond (g==0)
 (T.ae (f.add 2) [.int .i64] fun h =>
 T.ret (.bool (h==0)))
 bz
def oc (a b c d e:Int):bQ YC [] Tryz.f127 [.agg #[vI a,vI b,vI c,.int .i32 d,vI e],vI 12]=jV a b c d e:=aw
def j3 (a b c d e:Int):T :=
 T.new [vI a,vI b,vI c,.int .i32 d,vI e] 62 fun f =>
 T.ae (f.add 1) [.int .i64] fun g =>
 aP 142 [vI g,vI 8] fun h =>
 cond h
 (T.ae (f.add 2) [.int .i64] fun i =>
 T.ret (.bool (i==0)))
 bz
def oD (a b c d e:Int):bQ YC [] Tryz.f127 [.agg #[vI a,vI b,vI c,.int .i32 d,vI e],vI 13]=j3 a b c d e:=aw
def pf (a b c d e:Int):T :=
 T.new [vI a,vI b,vI c,.int .i32 d,vI e] 62 fun f =>
 T.ae (f.add 3) [.int .i32] fun g =>
 T.ret (.bool (g==0))
def th (a b c d e:Int):bQ YC [] Tryz.f128 [.agg #[vI a,vI b,vI c,.int .i32 d,vI e],vI 1]=pf a b c d e:=aw
def pa (a b c d e:Int):T :=
 T.new [vI a,vI b,vI c,.int .i32 d,vI e] 62 fun f =>
 T.ae (f.add 3) [.int .i32] fun g =>
 T.ret (.bool (g==0))
def sX (a b c d e:Int):bQ YC [] Tryz.f128 [.agg #[vI a,vI b,vI c,.int .i32 d,vI e],vI 2]=pa a b c d e:=aw
def ph (a b c d e:Int):T :=
 T.new [vI a,vI b,vI c,.int .i32 d,vI e] 62 fun f =>
 T.ae (f.add 3) [.int .i32] fun g =>
 T.ret (.bool (g==0))
def sS (a b c d e:Int):bQ YC [] Tryz.f128 [.agg #[vI a,vI b,vI c,.int .i32 d,vI e],vI 3]=ph a b c d e:=aw
def pe (a b c d e:Int):T :=
 T.new [vI a,vI b,vI c,.int .i32 d,vI e] 62 fun f =>
 T.ae (f.add 3) [.int .i32] fun g =>
 T.ret (.bool (g==0))
def te (a b c d e:Int):bQ YC [] Tryz.f128 [.agg #[vI a,vI b,vI c,.int .i32 d,vI e],vI 4]=pe a b c d e:=aw
def o7 (a b c d e:Int):T :=
 T.new [vI a,vI b,vI c,.int .i32 d,vI e] 62 fun f =>
 T.ae (f.add 3) [.int .i32] fun g =>
 T.ret (.bool (g==0))
def sN (a b c d e:Int):bQ YC [] Tryz.f128 [.agg #[vI a,vI b,vI c,.int .i32 d,vI e],vI 5]=o7 a b c d e:=aw
def pj (a b c d e:Int):T :=
 T.new [vI a,vI b,vI c,.int .i32 d,vI e] 62 fun f =>
 T.ae (f.add 3) [.int .i32] fun g =>
 T.ret (.bool (g==0))
def tF (a b c d e:Int):bQ YC [] Tryz.f128 [.agg #[vI a,vI b,vI c,.int .i32 d,vI e],vI 6]=pj a b c d e:=aw
def pr (a b c d e:Int):T :=
 T.new [vI a,vI b,vI c,.int .i32 d,vI e] 62 fun f =>
 T.ret (.bool true)
def tH (a b c d e:Int):bQ YC [] Tryz.f128 [.agg #[vI a,vI b,vI c,.int .i32 d,vI e],vI 7]=pr a b c d e:=aw
def pn (a b c d e:Int):T :=
 T.new [vI a,vI b,vI c,.int .i32 d,vI e] 62 fun f =>
 T.ae (f.add 3) [.int .i32] fun g =>
 aP 143 [.int .i32 g,vI 1] fun h =>
 T.ret (.bool h)
def tn (a b c d e:Int):bQ YC [] Tryz.f128 [.agg #[vI a,vI b,vI c,.int .i32 d,vI e],vI 8]=pn a b c d e:=aw
def o6 (a b c d e:Int):T :=
 T.new [vI a,vI b,vI c,.int .i32 d,vI e] 62 fun f =>
 T.ae (f.add 3) [.int .i32] fun g =>
 cond (decide (g>=0))
 (T.ae (f.add 3) [.int .i32] fun h =>
 T.ret (.bool (decide (h<=255))))
 bz
def sT (a b c d e:Int):bQ YC [] Tryz.f128 [.agg #[vI a,vI b,vI c,.int .i32 d,vI e],vI 9]=o6 a b c d e:=aw
def nE (a b c d e:Int):T :=
 T.new [vI a,vI b,vI c,.int .i32 d,vI e] 62 fun f =>
 T.ret (.bool true)
def rX (a b c d e:Int):bQ YC [] Tryz.f128 [.agg #[vI a,vI b,vI c,.int .i32 d,vI e],vI 10]=nE a b c d e:=aw
def nL (a b c d e:Int):T :=
 T.new [vI a,vI b,vI c,.int .i32 d,vI e] 62 fun f =>
 T.ae (f.add 3) [.int .i32] fun g =>
 cond (decide (g>=0))
 (T.ae (f.add 3) [.int .i32] fun h =>
 T.ret (.bool (decide (h<=4095))))
 bz
def rT (a b c d e:Int):bQ YC [] Tryz.f128 [.agg #[vI a,vI b,vI c,.int .i32 d,vI e],vI 11]=nL a b c d e:=aw
def nq (a b c d e:Int):T :=
 T.new [vI a,vI b,vI c,.int .i32 d,vI e] 62 fun f =>
 T.ae (f.add 3) [.int .i32] fun g =>
 T.ae (f.add 4) [.int .i64] fun h =>
 aP 143 [.int .i32 g,vI h] fun i =>
 T.ret (.bool i)
def rP (a b c d e:Int):bQ YC [] Tryz.f128 [.agg #[vI a,vI b,vI c,.int .i32 d,vI e],vI 12]=nq a b c d e:=aw
def mU (a b c d e:Int):T :=
 T.new [vI a,vI b,vI c,.int .i32 d,vI e] 62 fun f =>
 T.ae (f.add 3) [.int .i32] fun g =>
 T.ae (f.add 4) [.int .i64] fun h =>
 aP 143 [.int .i32 g,vI h] fun i =>
 T.ret (.bool i)
def rQ (a b c d e:Int):bQ YC [] Tryz.f128 [.agg #[vI a,vI b,vI c,.int .i32 d,vI e],vI 13]=mU a b c d e:=aw
def pd (a:Int) (b:XA) (c d e f g:Int) (h:XC) (i j:Nat) (k l:Int):T :=
 T.new [vI a,.string b,vI c,vI d,vI e,.int .i32 f,vI g,.slice h i j,ar k,vI l] 64 fun m =>
 T.ae m [.int .i64] fun n =>
 T.new [vI 0,ct,vI 0,vI 0,vI 0,.int .i32 0,vI 0,aM,ar 0,vI 0] 64 fun o =>
 T.ao o [vI n,ct,vI 0,vI 0,vI 0,.int .i32 0,vI 0,aM,ar 0,vI 0] <|
 T.ae m [.int .i64] fun p =>
 cond (p==1)
 (T.ae (m.add 1) [.string] fun q =>
 T.ao (o.add 1) [.string q] <|
 T.ae (m.add 1) [.string] fun r =>
 aP 79 [.string r] fun s =>
 cond (!s)
 (T.ret (vI 31))
 (T.ae (m.add 1) [.string] fun t =>
 T.ae (o.add 1) [.string] fun u =>
 cond (!((ByteArray.toList t)==(ByteArray.toList u)))
 (T.ret (vI 31))
 (T.ae (m.add 2) [.int .i64,.int .i64,.int .i64,.int .i32,.int .i64] fun v w x y z =>
 T.ae (o.add 2) [.int .i64,.int .i64,.int .i64,.int .i32,.int .i64] fun A B C D E =>
 eh (Sx.j6 (BinOp.neq) 62 (Operand.tmp 109) (Operand.tmp 111) (.agg #[vI v,vI w,vI x,.int .i32 y,vI z]) (.agg #[vI A,vI B,vI C,.int .i32 D,vI E])) fun F =>
 cond F
 (T.ret (vI 31))
 (T.ae (m.add 9) [.int .i64] fun G =>
 T.ae (o.add 9) [.int .i64] fun H =>
 cond (G != H)
 (T.ret (vI 31))
 (T.ae (m.add 7) (yL 66) fun I J K L =>
 T.ae (o.add 7) (yL 66) fun M N O P =>
 aP 101 [.agg #[.slice I J K,ar L],.agg #[.slice M N O,ar P]] fun Q =>
 cond (!Q)
 (T.ret (vI 31))
 (T.ret (vI 0)))))))
 (cond (p==2)
 (T.ae (m.add 2) [.int .i64,.int .i64,.int .i64,.int .i32,.int .i64] fun q r s t u =>
 T.ae (m.add 7) (yL 66) fun v w x y =>
 T.ao (o.add 2) [vI q,vI r,vI s,.int .i32 t,vI u] <|
 T.az [((m.add 7),[.slice v w x,ar y])] <|
 T.ao (o.add 7) [.slice v w x,ar y] <|
 T.ae m (yI 66) fun z A B C D E F G H I J K =>
 aP 99 [.agg #[vI z,.string A,vI B,vI C,vI D,.int .i32 E,vI F,.slice G H I,ar J,vI K]] fun L =>
 cond (!L)
 (T.ret (vI 31))
 (T.ae (m.add 1) [.string] fun M =>
 T.ae (o.add 1) [.string] fun N =>
 cond (!((ByteArray.toList M)==(ByteArray.toList N)))
 (T.ret (vI 31))
 (T.ae (m.add 2) [.int .i64,.int .i64,.int .i64,.int .i32,.int .i64] fun O P Q R S =>
 T.ae (o.add 2) [.int .i64,.int .i64,.int .i64,.int .i32,.int .i64] fun U V W X Y =>
 eh (Sx.j6 (BinOp.neq) 62 (Operand.tmp 109) (Operand.tmp 111) (.agg #[vI O,vI P,vI Q,.int .i32 R,vI S]) (.agg #[vI U,vI V,vI W,.int .i32 X,vI Y])) fun Z =>
 cond Z
 (T.ret (vI 31))
 (T.ae (m.add 9) [.int .i64] fun a0 =>
 T.ae (o.add 9) [.int .i64] fun a1 =>
 cond (a0 != a1)
 (T.ret (vI 31))
 (T.ae (m.add 7) (yL 66) fun a2 a3 a4 a5 =>
 T.ae (o.add 7) (yL 66) fun a6 a7 a8 a9 =>
 aP 101 [.agg #[.slice a2 a3 a4,ar a5],.agg #[.slice a6 a7 a8,ar a9]] fun b0 =>
 cond (!b0)
 (T.ret (vI 31))
 (T.ret (vI 0)))))))
 (cond (p==3)
 (T.ae (m.add 9) [.int .i64] fun q =>
 T.ao (o.add 9) [vI q] <|
 T.ae (m.add 9) [.int .i64] fun r =>
 aP 100 [vI r] fun s =>
 cond (!s)
 (T.ret (vI 31))
 (T.ae (m.add 1) [.string] fun t =>
 T.ae (o.add 1) [.string] fun u =>
 cond (!((ByteArray.toList t)==(ByteArray.toList u)))
 (T.ret (vI 31))
 (T.ae (m.add 2) [.int .i64,.int .i64,.int .i64,.int .i32,.int .i64] fun v w x y z =>
 T.ae (o.add 2) [.int .i64,.int .i64,.int .i64,.int .i32,.int .i64] fun A B C D E =>
 eh (Sx.j6 (BinOp.neq) 62 (Operand.tmp 109) (Operand.tmp 111) (.agg #[vI v,vI w,vI x,.int .i32 y,vI z]) (.agg #[vI A,vI B,vI C,.int .i32 D,vI E])) fun F =>
 cond F
 (T.ret (vI 31))
 (T.ae (m.add 9) [.int .i64] fun G =>
 T.ae (o.add 9) [.int .i64] fun H =>
 cond (G != H)
 (T.ret (vI 31))
 (T.ae (m.add 7) (yL 66) fun I J K L =>
 T.ae (o.add 7) (yL 66) fun M N O P =>
 aP 101 [.agg #[.slice I J K,ar L],.agg #[.slice M N O,ar P]] fun Q =>
 cond (!Q)
 (T.ret (vI 31))
 (T.ret (vI 0)))))))
 (cond (p==4)
 (T.ae (m.add 1) [.string] fun q =>
 T.ae (o.add 1) [.string] fun r =>
 cond (!((ByteArray.toList q)==(ByteArray.toList r)))
 (T.ret (vI 31))
 (T.ae (m.add 2) [.int .i64,.int .i64,.int .i64,.int .i32,.int .i64] fun s t u v w =>
 T.ae (o.add 2) [.int .i64,.int .i64,.int .i64,.int .i32,.int .i64] fun x y z A B =>
 eh (Sx.j6 (BinOp.neq) 62 (Operand.tmp 109) (Operand.tmp 111) (.agg #[vI s,vI t,vI u,.int .i32 v,vI w]) (.agg #[vI x,vI y,vI z,.int .i32 A,vI B])) fun C =>
 cond C
 (T.ret (vI 31))
 (T.ae (m.add 9) [.int .i64] fun D =>
 T.ae (o.add 9) [.int .i64] fun E =>
 cond (D != E)
 (T.ret (vI 31))
 (T.ae (m.add 7) (yL 66) fun F G H I =>
 T.ae (o.add 7) (yL 66) fun J K L M =>
 aP 101 [.agg #[.slice F G H,ar I],.agg #[.slice J K L,ar M]] fun N =>
 cond (!N)
 (T.ret (vI 31))
 (T.ret (vI 0))))))
 (cond (p==5)
 (T.ae (m.add 9) [.int .i64] fun q =>
 T.ao (o.add 9) [vI q] <|
 T.ret (vI 31))
 (cond (p==6)
 (T.ae (m.add 7) (yL 66) fun q r s t =>
 T.ao (o.add 7) [.slice q r s,ar t] <|
 T.ret (vI 31))
 (cond (p==7)
 (T.ae (m.add 9) [.int .i64] fun q =>
 T.ao (o.add 9) [vI q] <|
 T.ret (vI 31))
 (T.ret (vI 31))))))))
def tg (a:Int) (b:XA) (c d e f g:Int) (h:XC) (i j:Nat) (k l:Int):bQ YC [] Tryz.f78 [.agg #[vI a,.string b,vI c,vI d,vI e,.int .i32 f,vI g,.slice h i j,.int .u32 k,vI l],vI 0]=pd a b c d e f g h i j k l:=aw
def o0 (a:Int) (b:XA) (c d e f g:Int) (h:XC) (i j:Nat) (k l:Int):T :=
 T.new [vI a,.string b,vI c,vI d,vI e,.int .i32 f,vI g,.slice h i j,ar k,vI l] 64 fun m =>
 T.ae m [.int .i64] fun n =>
 T.new [vI 0,ct,vI 0,vI 0,vI 0,.int .i32 0,vI 0,aM,ar 0,vI 0] 64 fun o =>
 T.ao o [vI n,ct,vI 0,vI 0,vI 0,.int .i32 0,vI 0,aM,ar 0,vI 0] <|
 T.ae m [.int .i64] fun p =>
 cond (p==1)
 (T.ae (m.add 1) [.string] fun q =>
 T.ao (o.add 1) [.string q] <|
 T.ae (m.add 1) [.string] fun r =>
 aP 79 [.string r] fun s =>
 cond (!s)
 (T.ret (vI 31))
 (T.ae (m.add 1) [.string] fun t =>
 T.ae (o.add 1) [.string] fun u =>
 cond (!((ByteArray.toList t)==(ByteArray.toList u)))
 (T.ret (vI 31))
 (T.ae (m.add 2) [.int .i64,.int .i64,.int .i64,.int .i32,.int .i64] fun v w x y z =>
 T.ae (o.add 2) [.int .i64,.int .i64,.int .i64,.int .i32,.int .i64] fun A B C D E =>
 eh (Sx.j6 (BinOp.neq) 62 (Operand.tmp 109) (Operand.tmp 111) (.agg #[vI v,vI w,vI x,.int .i32 y,vI z]) (.agg #[vI A,vI B,vI C,.int .i32 D,vI E])) fun F =>
 cond F
 (T.ret (vI 31))
 (T.ae (m.add 9) [.int .i64] fun G =>
 T.ae (o.add 9) [.int .i64] fun H =>
 cond (G != H)
 (T.ret (vI 31))
 (T.ae (m.add 7) (yL 66) fun I J K L =>
 T.ae (o.add 7) (yL 66) fun M N O P =>
 aP 101 [.agg #[.slice I J K,ar L],.agg #[.slice M N O,ar P]] fun Q =>
 cond (!Q)
 (T.ret (vI 31))
 (T.ret (vI 0)))))))
 (cond (p==2)
 (T.ae (m.add 2) [.int .i64,.int .i64,.int .i64,.int .i32,.int .i64] fun q r s t u =>
 T.ae (m.add 7) (yL 66) fun v w x y =>
 T.ao (o.add 2) [vI q,vI r,vI s,.int .i32 t,vI u] <|
 T.az [((m.add 7),[.slice v w x,ar y])] <|
 T.ao (o.add 7) [.slice v w x,ar y] <|
 T.ret (vI 31))
 (cond (p==3)
 (T.ae (m.add 9) [.int .i64] fun q =>
 T.ao (o.add 9) [vI q] <|
 T.ae (m.add 9) [.int .i64] fun r =>
 aP 100 [vI r] fun s =>
 cond (!s)
 (T.ret (vI 31))
 (T.ae (m.add 1) [.string] fun t =>
 T.ae (o.add 1) [.string] fun u =>
 cond (!((ByteArray.toList t)==(ByteArray.toList u)))
 (T.ret (vI 31))
 (T.ae (m.add 2) [.int .i64,.int .i64,.int .i64,.int .i32,.int .i64] fun v w x y z =>
 T.ae (o.add 2) [.int .i64,.int .i64,.int .i64,.int .i32,.int .i64] fun A B C D E =>
 eh (Sx.j6 (BinOp.neq) 62 (Operand.tmp 109) (Operand.tmp 111) (.agg #[vI v,vI w,vI x,.int .i32 y,vI z]) (.agg #[vI A,vI B,vI C,.int .i32 D,vI E])) fun F =>
 cond F
 (T.ret (vI 31))
 (T.ae (m.add 9) [.int .i64] fun G =>
 T.ae (o.add 9) [.int .i64] fun H =>
 cond (G != H)
 (T.ret (vI 31))
 (T.ae (m.add 7) (yL 66) fun I J K L =>
 T.ae (o.add 7) (yL 66) fun M N O P =>
 aP 101 [.agg #[.slice I J K,ar L],.agg #[.slice M N O,ar P]] fun Q =>
 cond (!Q)
 (T.ret (vI 31))
 (T.ret (vI 0)))))))
 (cond (p==4)
 (T.ret (vI 31))
 (cond (p==5)
 (T.ae (m.add 9) [.int .i64] fun q =>
 T.ao (o.add 9) [vI q] <|
 T.ae (m.add 9) [.int .i64] fun r =>
 cond (decide (r>=(-128)))
 (T.ae (m.add 9) [.int .i64] fun s =>
 cond (!(decide (s<=255)))
 (T.ret (vI 31))
 (T.ae (m.add 1) [.string] fun t =>
 T.ae (o.add 1) [.string] fun u =>
 cond (!((ByteArray.toList t)==(ByteArray.toList u)))
 (T.ret (vI 31))
 (T.ae (m.add 2) [.int .i64,.int .i64,.int .i64,.int .i32,.int .i64] fun v w x y z =>
 T.ae (o.add 2) [.int .i64,.int .i64,.int .i64,.int .i32,.int .i64] fun A B C D E =>
 eh (Sx.j6 (BinOp.neq) 62 (Operand.tmp 109) (Operand.tmp 111) (.agg #[vI v,vI w,vI x,.int .i32 y,vI z]) (.agg #[vI A,vI B,vI C,.int .i32 D,vI E])) fun F =>
 cond F
 (T.ret (vI 31))
 (T.ae (m.add 9) [.int .i64] fun G =>
 T.ae (o.add 9) [.int .i64] fun H =>
 cond (G != H)
 (T.ret (vI 31))
 (T.ae (m.add 7) (yL 66) fun I J K L =>
 T.ae (o.add 7) (yL 66) fun M N O P =>
 aP 101 [.agg #[.slice I J K,ar L],.agg #[.slice M N O,ar P]] fun Q =>
 cond (!Q)
 (T.ret (vI 31))
 (T.ret (vI 0)))))))
 (T.ret (vI 31)))
 (cond (p==6)
 (T.ae (m.add 7) (yL 66) fun q r s t =>
 T.ao (o.add 7) [.slice q r s,ar t] <|
 T.ae (m.add 7) (yL 66) fun u v w x =>
 aP 80 [.agg #[.slice u v w,ar x]] fun y =>
 cond (!y)
 (T.ret (vI 31))
 (T.ae (m.add 1) [.string] fun z =>
 T.ae (o.add 1) [.string] fun A =>
 cond (!((ByteArray.toList z)==(ByteArray.toList A)))
 (T.ret (vI 31))
 (T.ae (m.add 2) [.int .i64,.int .i64,.int .i64,.int .i32,.int .i64] fun B C D E F =>
 T.ae (o.add 2) [.int .i64,.int .i64,.int .i64,.int .i32,.int .i64] fun G H I J K =>
 eh (Sx.j6 (BinOp.neq) 62 (Operand.tmp 109) (Operand.tmp 111) (.agg #[vI B,vI C,vI D,.int .i32 E,vI F]) (.agg #[vI G,vI H,vI I,.int .i32 J,vI K])) fun L =>
 cond L
 (T.ret (vI 31))
 (T.ae (m.add 9) [.int .i64] fun M =>
 T.ae (o.add 9) [.int .i64] fun N =>
 cond (M != N)
 (T.ret (vI 31))
 (T.ae (m.add 7) (yL 66) fun O P Q R =>
 T.ae (o.add 7) (yL 66) fun S U V W =>
 aP 101 [.agg #[.slice O P Q,ar R],.agg #[.slice S U V,ar W]] fun X =>
 cond (!X)
 (T.ret (vI 31))
 (T.ret (vI 0)))))))
 (cond (p==7)
 (T.ae (m.add 9) [.int .i64] fun q =>
 T.ao (o.add 9) [vI q] <|
 T.ae (m.add 9) [.int .i64] fun r =>
 cond (decide (r>=0))
 (T.ae (m.add 9) [.int .i64] fun s =>
 cond (!(decide (s<=1048576)))
 (T.ret (vI 31))
 (T.ae (m.add 1) [.string] fun t =>
 T.ae (o.add 1) [.string] fun u =>
 cond (!((ByteArray.toList t)==(ByteArray.toList u)))
 (T.ret (vI 31))
 (T.ae (m.add 2) [.int .i64,.int .i64,.int .i64,.int .i32,.int .i64] fun v w x y z =>
 T.ae (o.add 2) [.int .i64,.int .i64,.int .i64,.int .i32,.int .i64] fun A B C D E =>
 eh (Sx.j6 (BinOp.neq) 62 (Operand.tmp 109) (Operand.tmp 111) (.agg #[vI v,vI w,vI x,.int .i32 y,vI z]) (.agg #[vI A,vI B,vI C,.int .i32 D,vI E])) fun F =>
 cond F
 (T.ret (vI 31))
 (T.ae (m.add 9) [.int .i64] fun G =>
 T.ae (o.add 9) [.int .i64] fun H =>
 cond (G != H)
 (T.ret (vI 31))
 (T.ae (m.add 7) (yL 66) fun I J K L =>
 T.ae (o.add 7) (yL 66) fun M N O P =>
 aP 101 [.agg #[.slice I J K,ar L],.agg #[.slice M N O,ar P]] fun Q =>
 cond (!Q)
 (T.ret (vI 31))
 (T.ret (vI 0)))))))
 (T.ret (vI 31)))
 (T.ret (vI 31))))))))
def tj (a:Int) (b:XA) (c d e f g:Int) (h:XC) (i j:Nat) (k l:Int):bQ YC [] Tryz.f78 [.agg #[vI a,.string b,vI c,vI d,vI e,.int .i32 f,vI g,.slice h i j,.int .u32 k,vI l],vI 1]=o0 a b c d e f g h i j k l:=aw
def fX (a:XC) (b c:Nat):T :=
 aR (Instr.makeSlice 26 (vI (b:Int)) (vI (b:Int))) fun d e f =>
 T.loop [aK] [vI 0] fun g =>
 bC g b
 (aT g b a fun h =>
 T.ae (h.add (ay g 10)) (yI 66) fun i j k l m n o p q r s t =>
 aT g e d fun u =>
 T.ao (u.add (ay g 10)) [vI i,.string j,vI k,vI l,vI m,.int .i32 n,vI o,.slice p q r,ar s,vI t] <|
 aT g b a fun v =>
 T.ae ((v.add (ay g 10)).add 7) (yL 66) fun w x y z =>
 bq 57 [.agg #[.slice w x y,ar z]] false [(true,(yL 66))] fun A B C D =>
 aT g e d fun E =>
 T.ao ((E.add (ay g 10)).add 7) [.slice A B C,ar D] <|
 T.again 0 [bo g])
 (T.ret (.slice d e f))
def kj (a:XC) (b c:Nat):bQ YC [] Tryz.f52 [.slice a b c]=fX a b c:=aw
def ik (a:XC) (b c:Nat) (d:Int):T :=
 T.new [.slice a b c,ar d] 60 fun e =>
 T.new [aM,ar 0] 60 fun f =>
 T.ae e [.slice 66] fun g h i =>
 T.ae (e.add 1) [.int .u32] fun j =>
 aR (Instr.buildSlice 57 0 #[]) fun k l m =>
 T.az [((e.add 1),[ar j]),(e,[.slice g h i])] <|
 aR (Builtin.append_ #[57,57] 57 #[.slice k l m,.slice g h i]) fun n o p =>
 T.az [((e.add 1),[ar j])] <|
 T.ao f [.slice n o p,ar j] <|
 T.ae f (yL 66) fun q r s t =>
 T.ret (.agg #[.slice q r s,ar t])
def lF (a:XC) (b c:Nat) (d:Int):bQ YC [] Tryz.f57 [.agg #[.slice a b c,.int .u32 d]]=ik a b c d:=aw
end Go.Sx
