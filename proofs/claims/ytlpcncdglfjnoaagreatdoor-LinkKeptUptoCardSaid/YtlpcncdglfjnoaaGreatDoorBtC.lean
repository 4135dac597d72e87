/- Trees of functions. No condition. -/
import Derived.Test.YtlpcncdglfjnoaaGreatDoorSxF
import Derived.Test.YtlpcncdglfjnoaaGreatDoorProg
import Derived.KernelRfl
set_option linter.all false
set_option maxRecDepth 100000
set_option maxHeartbeats 4000000
namespace Go.Sx
open Go.Proofs
def mS (a b c d e:Int):T :=
 T.new [vI a,vI b,vI c,.int .i32 d,vI e] 62 fun f =>
 T.af (f.add 1) [.int .i64] fun g =>
 cond (g==0)
 (T.af (f.add 2) [.int .i64] fun h =>
 T.ret (.bool (h==0)))
 bH
def rP (a b c d e:Int):bS Xaz [] Tryz.f127 [.agg #[vI a,vI b,vI c,.int .i32 d,vI e],vI 1]=mS a b c d e:=aw
def nr (a b c d e:Int):T :=
 T.new [vI a,vI b,vI c,.int .i32 d,vI e] 62 fun f =>
 T.af (f.add 1) [.int .i64] fun g =>
 bd 142 [vI g,vI 8] fun h =>
 cond h
 (T.af (f.add 2) [.int .i64] fun i =>
 T.ret (.bool (i==0)))
 bH
def rK (a b c d e:Int):bS Xaz [] Tryz.f127 [.agg #[vI a,vI b,vI c,.int .i32 d,vI e],vI 2]=nr a b c d e:=aw
def mD (a b c d e:Int):T :=
 T.new [vI a,vI b,vI c,.int .i32 d,vI e] 62 fun f =>
 T.af (f.add 1) [.int .i64] fun g =>
 bd 142 [vI g,vI 4] fun h =>
 cond h
 (T.af (f.add 2) [.int .i64] fun i =>
 T.ret (.bool (i==0)))
 bH
def rT (a b c d e:Int):bS Xaz [] Tryz.f127 [.agg #[vI a,vI b,vI c,.int .i32 d,vI e],vI 3]=mD a b c d e:=aw
def ml (a b c d e:Int):T :=
 T.new [vI a,vI b,vI c,.int .i32 d,vI e] 62 fun f =>
 T.af (f.add 1) [.int .i64] fun g =>
 bd 142 [vI g,vI 8] fun h =>
 cond h
 (T.af (f.add 2) [.int .i64] fun i =>
 bd 142 [vI i,vI 8] fun j =>
 T.ret (.bool j))
 bH
def rF (a b c d e:Int):bS Xaz [] Tryz.f127 [.agg #[vI a,vI b,vI c,.int .i32 d,vI e],vI 4]=ml a b c d e:=aw
def mX (a b c d e:Int):T :=
 T.new [vI a,vI b,vI c,.int .i32 d,vI e] 62 fun f =>
 T.af (f.add 1) [.int .i64] fun g =>
 bd 142 [vI g,vI 4] fun h =>
 cond h
 (T.af (f.add 2) [.int .i64] fun i =>
 bd 142 [vI i,vI 4] fun j =>
 T.ret (.bool j))
 bH
def rS (a b c d e:Int):bS Xaz [] Tryz.f127 [.agg #[vI a,vI b,vI c,.int .i32 d,vI e],vI 5]=mX a b c d e:=aw
def mz (a b c d e:Int):T :=
 T.new [vI a,vI b,vI c,.int .i32 d,vI e] 62 fun f =>
 T.af (f.add 1) [.int .i64] fun g =>
 bd 142 [vI g,vI 8] fun h =>
 cond h
 (T.af (f.add 2) [.int .i64] fun i =>
 bd 142 [vI i,vI 4] fun j =>
 T.ret (.bool j))
 bH
def rI (a b c d e:Int):bS Xaz [] Tryz.f127 [.agg #[vI a,vI b,vI c,.int .i32 d,vI e],vI 6]=mz a b c d e:=aw
def mi (a b c d e:Int):T :=
 T.new [vI a,vI b,vI c,.int .i32 d,vI e] 62 fun f =>
 T.af (f.add 1) [.int .i64] fun g =>
 bd 142 [vI g,vI 4] fun h =>
 cond h
 (T.af (f.add 2) [.int .i64] fun i =>
 bd 142 [vI i,vI 8] fun j =>
 cond j
 (T.af (f.add 3) [.int .i32] fun k =>
 cond (decide (k>=0))
 (T.af (f.add 3) [.int .i32] fun l =>
 T.ret (.bool (decide (l<8))))
 bH)
 bH)
 bH
def rR (a b c d e:Int):bS Xaz [] Tryz.f127 [.agg #[vI a,vI b,vI c,.int .i32 d,vI e],vI 7]=mi a b c d e:=aw
def mv (a b c d e:Int):T :=
 T.new [vI a,vI b,vI c,.int .i32 d,vI e] 62 fun f =>
 T.af (f.add 1) [.int .i64] fun g =>
 bd 142 [vI g,vI 8] fun h =>
 cond h
 (T.af (f.add 2) [.int .i64] fun i =>
 T.ret (.bool (i==0)))
 bH
def rU (a b c d e:Int):bS Xaz [] Tryz.f127 [.agg #[vI a,vI b,vI c,.int .i32 d,vI e],vI 8]=mv a b c d e:=aw
def mJ (a b c d e:Int):T :=
 T.new [vI a,vI b,vI c,.int .i32 d,vI e] 62 fun f =>
 T.af (f.add 1) [.int .i64] fun g =>
 cond (g==0)
 (T.af (f.add 2) [.int .i64] fun h =>
 T.ret (.bool (h==0)))
 bH
def rH (a b c d e:Int):bS Xaz [] Tryz.f127 [.agg #[vI a,vI b,vI c,.int .i32 d,vI e],vI 9]=mJ a b c d e:=aw
def ld (a b c d e:Int):T :=
 T.new [vI a,vI b,vI c,.int .i32 d,vI e] 62 fun f =>
 T.af (f.add 1) [.int .i64] fun g =>
 bd 142 [vI g,vI 8] fun h =>
 cond h
 (T.af (f.add 2) [.int .i64] fun i =>
 T.ret (.bool (i==0)))
 bH
def qW (a b c d e:Int):bS Xaz [] Tryz.f127 [.agg #[vI a,vI b,vI c,.int .i32 d,vI e],vI 10]=ld a b c d e:=aw
def ln (a b c d e:Int):T :=
 T.new [vI a,vI b,vI c,.int .i32 d,vI e] 62 fun f =>
 T.af (f.add 1) [.int .i64] fun g =>
 bd 142 [vI g,vI 8] fun h =>
 cond h
 (T.af (f.add 2) [.int .i64] fun i =>
 T.ret (.bool (i==0)))
 bH
def qA (a b c d e:Int):bS Xaz [] Tryz.f127 [.agg #[vI a,vI b,vI c,.int .i32 d,vI e],vI 11]=ln a b c d e:=aw
def lj (a b c d e:Int):T :=
 T.new [vI a,vI b,vI c,.int .i32 d,vI e] 62 fun f =>
 T.af (f.add 1) [.int .i64] fun g =>
 cond (g==0)
 (T.af (f.add 2) [.int .i64] fun h =>
 T.ret (.bool (h==0)))
 bH
def ql (a b c d e:Int):bS Xaz [] Tryz.f127 [.agg #[vI a,vI b,vI c,.int .i32 d,vI e],vI 12]=lj a b c d e:=aw
def lG (a b c d e:Int):T :=
 T.new [vI a,vI b,vI c,.int .i32 d,vI e] 62 fun f =>
 T.af (f.add 1) [.int .i64] fun g =>
 bd 142 [vI g,vI 8] fun h =>
 cond h
 (T.af (f.add 2) [.int .i64] fun i =>
 T.ret (.bool (i==0)))
 bH
def qH (a b c d e:Int):bS Xaz [] Tryz.f127 [.agg #[vI a,vI b,vI c,.int .i32 d,vI e],vI 13]=lG a b c d e:=aw
def rz (a b c d e:Int):T :=
 T.new [vI a,vI b,vI c,.int .i32 d,vI e] 62 fun f =>
 T.af (f.add 3) [.int .i32] fun g =>
 T.ret (.bool (g==0))
def vJ (a b c d e:Int):bS Xaz [] Tryz.f128 [.agg #[vI a,vI b,vI c,.int .i32 d,vI e],vI 1]=rz a b c d e:=aw
def rm (a b c d e:Int):T :=
 T.new [vI a,vI b,vI c,.int .i32 d,vI e] 62 fun f =>
 T.af (f.add 3) [.int .i32] fun g =>
 T.ret (.bool (g==0))
def vv (a b c d e:Int):bS Xaz [] Tryz.f128 [.agg #[vI a,vI b,vI c,.int .i32 d,vI e],vI 2]=rm a b c d e:=aw
def rA (a b c d e:Int):T :=
 T.new [vI a,vI b,vI c,.int .i32 d,vI e] 62 fun f =>
 T.af (f.add 3) [.int .i32] fun g =>
 T.ret (.bool (g==0))
def vj (a b c d e:Int):bS Xaz [] Tryz.f128 [.agg #[vI a,vI b,vI c,.int .i32 d,vI e],vI 3]=rA a b c d e:=aw
def ru (a b c d e:Int):T :=
 T.new [vI a,vI b,vI c,.int .i32 d,vI e] 62 fun f =>
 T.af (f.add 3) [.int .i32] fun g =>
 T.ret (.bool (g==0))
def vC (a b c d e:Int):bS Xaz [] Tryz.f128 [.agg #[vI a,vI b,vI c,.int .i32 d,vI e],vI 4]=ru a b c d e:=aw
def rl (a b c d e:Int):T :=
 T.new [vI a,vI b,vI c,.int .i32 d,vI e] 62 fun f =>
 T.af (f.add 3) [.int .i32] fun g =>
 T.ret (.bool (g==0))
def u7 (a b c d e:Int):bS Xaz [] Tryz.f128 [.agg #[vI a,vI b,vI c,.int .i32 d,vI e],vI 5]=rl a b c d e:=aw
def rB (a b c d e:Int):T :=
 T.new [vI a,vI b,vI c,.int .i32 d,vI e] 62 fun f =>
 T.af (f.add 3) [.int .i32] fun g =>
 T.ret (.bool (g==0))
def vW (a b c d e:Int):bS Xaz [] Tryz.f128 [.agg #[vI a,vI b,vI c,.int .i32 d,vI e],vI 6]=rB a b c d e:=aw
def rE (a b c d e:Int):T :=
 T.new [vI a,vI b,vI c,.int .i32 d,vI e] 62 fun f =>
 T.ret (.bool true)
def vY (a b c d e:Int):bS Xaz [] Tryz.f128 [.agg #[vI a,vI b,vI c,.int .i32 d,vI e],vI 7]=rE a b c d e:=aw
def rC (a b c d e:Int):T :=
 T.new [vI a,vI b,vI c,.int .i32 d,vI e] 62 fun f =>
 T.af (f.add 3) [.int .i32] fun g =>
 bd 143 [.int .i32 g,vI 1] fun h =>
 T.ret (.bool h)
def vO (a b c d e:Int):bS Xaz [] Tryz.f128 [.agg #[vI a,vI b,vI c,.int .i32 d,vI e],vI 8]=rC a b c d e:=aw
def rk (a b c d e:Int):T :=
 T.new [vI a,vI b,vI c,.int .i32 d,vI e] 62 fun f =>
 T.af (f.add 3) [.int .i32] fun g =>
 cond (decide (g>=0))
 (T.af (f.add 3) [.int .i32] fun h =>
 T.ret (.bool (decide (h<=255))))
 bH
def vk (a b c d e:Int):bS Xaz [] Tryz.f128 [.agg #[vI a,vI b,vI c,.int .i32 d,vI e],vI 9]=rk a b c d e:=aw
def pQ (a b c d e:Int):T :=
 T.new [vI a,vI b,vI c,.int .i32 d,vI e] 62 fun f =>
 T.ret (.bool true)
def uA (a b c d e:Int):bS Xaz [] Tryz.f128 [.agg #[vI a,vI b,vI c,.int .i32 d,vI e],vI 10]=pQ a b c d e:=aw
def pY (a b c d e:Int):T :=
 T.new [vI a,vI b,vI c,.int .i32 d,vI e] 62 fun f =>
 T.af (f.add 3) [.int .i32] fun g =>
 cond (decide (g>=0))
 (T.af (f.add 3) [.int .i32] fun h =>
 T.ret (.bool (decide (h<=4095))))
 bH
def ux (a b c d e:Int):bS Xaz [] Tryz.f128 [.agg #[vI a,vI b,vI c,.int .i32 d,vI e],vI 11]=pY a b c d e:=aw
def py (a b c d e:Int):T :=
 T.new [vI a,vI b,vI c,.int .i32 d,vI e] 62 fun f =>
 T.af (f.add 3) [.int .i32] fun g =>
 T.af (f.add 4) [.int .i64] fun h =>
 bd 143 [.int .i32 g,vI h] fun i =>
 T.ret (.bool i)
def uq (a b c d e:Int):bS Xaz [] Tryz.f128 [.agg #[vI a,vI b,vI c,.int .i32 d,vI e],vI 12]=py a b c d e:=aw
def oX (a b c d e:Int):T :=
 T.new [vI a,vI b,vI c,.int .i32 d,vI e] 62 fun f =>
 T.af (f.add 3) [.int .i32] fun g =>
 T.af (f.add 4) [.int .i64] fun h =>
 bd 143 [.int .i32 g,vI h] fun i =>
 T.ret (.bool i)
def ur (a b c d e:Int):bS Xaz [] Tryz.f128 [.agg #[vI a,vI b,vI c,.int .i32 d,vI e],vI 13]=oX a b c d e:=aw
def rq (a:Int) (b:Xaa) (c d e f g:Int) (h:Xac) (i j:Nat) (k l:Int):T :=
 T.new [vI a,.string b,vI c,vI d,vI e,.int .i32 f,vI g,.slice h i j,ax k,vI l] 64 fun m =>
 T.af m [.int .i64] fun n =>
 T.new [vI 0,cm,vI 0,vI 0,vI 0,.int .i32 0,vI 0,aS,ax 0,vI 0] 64 fun o =>
 T.ar o [vI n,cm,vI 0,vI 0,vI 0,.int .i32 0,vI 0,aS,ax 0,vI 0] <|
 T.af m [.int .i64] fun p =>
 cond (p==1)
 (T.af (m.add 1) [.string] fun q =>
 T.ar (o.add 1) [.string q] <|
 T.af (m.add 1) [.string] fun r =>
 bd 79 [.string r] fun s =>
 cond (!s)
 (T.ret (vI 31))
 (T.af (m.add 1) [.string] fun t =>
 T.af (o.add 1) [.string] fun u =>
 cond (!((ByteArray.toList t)==(ByteArray.toList u)))
 (T.ret (vI 31))
 (T.af (m.add 2) [.int .i64,.int .i64,.int .i64,.int .i32,.int .i64] fun v w x y z =>
 T.af (o.add 2) [.int .i64,.int .i64,.int .i64,.int .i32,.int .i64] fun A B C D E =>
 ei (Sx.jk (BinOp.neq) 62 (Operand.tmp 109) (Operand.tmp 111) (.agg #[vI v,vI w,vI x,.int .i32 y,vI z]) (.agg #[vI A,vI B,vI C,.int .i32 D,vI E])) fun F =>
 cond F
 (T.ret (vI 31))
 (T.af (m.add 9) [.int .i64] fun G =>
 T.af (o.add 9) [.int .i64] fun H =>
 cond (G != H)
 (T.ret (vI 31))
 (T.af (m.add 7) (yL 66) fun I J K L =>
 T.af (o.add 7) (yL 66) fun M N O P =>
 bd 101 [.agg #[.slice I J K,ax L],.agg #[.slice M N O,ax P]] fun Q =>
 cond (!Q)
 (T.ret (vI 31))
 (T.ret (vI 0)))))))
 (cond (p==2)
 (T.af (m.add 2) [.int .i64,.int .i64,.int .i64,.int .i32,.int .i64] fun q r s t u =>
 T.af (m.add 7) (yL 66) fun v w x y =>
 T.ar (o.add 2) [vI q,vI r,vI s,.int .i32 t,vI u] <|
 T.aD [((m.add 7),[.slice v w x,ax y])] <|
 T.ar (o.add 7) [.slice v w x,ax y] <|
 T.af m (yI 66) fun z A B C D E F G H I J K =>
 bd 99 [.agg #[vI z,.string A,vI B,vI C,vI D,.int .i32 E,vI F,.slice G H I,ax J,vI K]] fun L =>
 cond (!L)
 (T.ret (vI 31))
 (T.af (m.add 1) [.string] fun M =>
 T.af (o.add 1) [.string] fun N =>
 cond (!((ByteArray.toList M)==(ByteArray.toList N)))
 (T.ret (vI 31))
 (T.af (m.add 2) [.int .i64,.int .i64,.int .i64,.int .i32,.int .i64] fun O P Q R S =>
 T.af (o.add 2) [.int .i64,.int .i64,.int .i64,.int .i32,.int .i64] fun U V W X Y =>
 ei (Sx.jk (BinOp.neq) 62 (Operand.tmp 109) (Operand.tmp 111) (.agg #[vI O,vI P,vI Q,.int .i32 R,vI S]) (.agg #[vI U,vI V,vI W,.int .i32 X,vI Y])) fun Z =>
 cond Z
 (T.ret (vI 31))
 (T.af (m.add 9) [.int .i64] fun a0 =>
 T.af (o.add 9) [.int .i64] fun a1 =>
 cond (a0 != a1)
 (T.ret (vI 31))
 (T.af (m.add 7) (yL 66) fun a2 a3 a4 a5 =>
 T.af (o.add 7) (yL 66) fun a6 a7 a8 a9 =>
 bd 101 [.agg #[.slice a2 a3 a4,ax a5],.agg #[.slice a6 a7 a8,ax a9]] fun b0 =>
 cond (!b0)
 (T.ret (vI 31))
 (T.ret (vI 0)))))))
 (cond (p==3)
 (T.af (m.add 9) [.int .i64] fun q =>
 T.ar (o.add 9) [vI q] <|
 T.af (m.add 9) [.int .i64] fun r =>
 bd 100 [vI r] fun s =>
 cond (!s)
 (T.ret (vI 31))
 (T.af (m.add 1) [.string] fun t =>
 T.af (o.add 1) [.string] fun u =>
 cond (!((ByteArray.toList t)==(ByteArray.toList u)))
 (T.ret (vI 31))
 (T.af (m.add 2) [.int .i64,.int .i64,.int .i64,.int .i32,.int .i64] fun v w x y z =>
 T.af (o.add 2) [.int .i64,.int .i64,.int .i64,.int .i32,.int .i64] fun A B C D E =>
 ei (Sx.jk (BinOp.neq) 62 (Operand.tmp 109) (Operand.tmp 111) (.agg #[vI v,vI w,vI x,.int .i32 y,vI z]) (.agg #[vI A,vI B,vI C,.int .i32 D,vI E])) fun F =>
 cond F
 (T.ret (vI 31))
 (T.af (m.add 9) [.int .i64] fun G =>
 T.af (o.add 9) [.int .i64] fun H =>
 cond (G != H)
 (T.ret (vI 31))
 (T.af (m.add 7) (yL 66) fun I J K L =>
 T.af (o.add 7) (yL 66) fun M N O P =>
 bd 101 [.agg #[.slice I J K,ax L],.agg #[.slice M N O,ax P]] fun Q =>
 cond (!Q)
 (T.ret (vI 31))
 (T.ret (vI 0)))))))
 (cond (p==4)
 (T.af (m.add 1) [.string] fun q =>
 T.af (o.add 1) [.string] fun r =>
 cond (!((ByteArray.toList q)==(ByteArray.toList r)))
 (T.ret (vI 31))
 (T.af (m.add 2) [.int .i64,.int .i64,.int .i64,.int .i32,.int .i64] fun s t u v w =>
 T.af (o.add 2) [.int .i64,.int .i64,.int .i64,.int .i32,.int .i64] fun x y z A B =>
 ei (Sx.jk (BinOp.neq) 62 (Operand.tmp 109) (Operand.tmp 111) (.agg #[vI s,vI t,vI u,.int .i32 v,vI w]) (.agg #[vI x,vI y,vI z,.int .i32 A,vI B])) fun C =>
 cond C
 (T.ret (vI 31))
 (T.af (m.add 9) [.int .i64] fun D =>
 T.af (o.add 9) [.int .i64] fun E =>
 cond (D != E)
 (T.ret (vI 31))
 (T.af (m.add 7) (yL 66) fun F G H I =>
 T.af (o.add 7) (yL 66) fun J K L M =>
 bd 101 [.agg #[.slice F G H,ax I],.agg #[.slice J K L,ax M]] fun N =>
 cond (!N)
 (T.ret (vI 31))
 (T.ret (vI 0))))))
 (cond (p==5)
 (T.af (m.add 9) [.int .i64] fun q =>
 T.ar (o.add 9) [vI q] <|
 T.ret (vI 31))
 (cond (p==6)
 (T.af (m.add 7) (yL 66) fun q r s t =>
 T.ar (o.add 7) [.slice q r s,ax t] <|
 T.ret (vI 31))
 (cond (p==7)
 (T.af (m.add 9) [.int .i64] fun q =>
 T.ar (o.add 9) [vI q] <|
 T.ret (vI 31))
 (T.ret (vI 31))))))))
def vH (a:Int) (b:Xaa) (c d e f g:Int) (h:Xac) (i j:Nat) (k l:Int):bS Xaz [] Tryz.f78 [.agg #[vI a,.string b,vI c,vI d,vI e,.int .i32 f,vI g,.slice h i j,.int .u32 k,vI l],vI 0]=rq a b c d e f g h i j k l:=aw
def ri (a:Int) (b:Xaa) (c d e f g:Int) (h:Xac) (i j:Nat) (k l:Int):T :=
 T.new [vI a,.string b,vI c,vI d,vI e,.int .i32 f,vI g,.slice h i j,ax k,vI l] 64 fun m =>
 T.af m [.int .i64] fun n =>
 T.new [vI 0,cm,vI 0,vI 0,vI 0,.int .i32 0,vI 0,aS,ax 0,vI 0] 64 fun o =>
 T.ar o [vI n,cm,vI 0,vI 0,vI 0,.int .i32 0,vI 0,aS,ax 0,vI 0] <|
 T.af m [.int .i64] fun p =>
 cond (p==1)
 (T.af (m.add 1) [.string] fun q =>
 T.ar (o.add 1) [.string q] <|
 T.af (m.add 1) [.string] fun r =>
 bd 79 [.string r] fun s =>
 cond (!s)
 (T.ret (vI 31))
 (T.af (m.add 1) [.string] fun t =>
 T.af (o.add 1) [.string] fun u =>
 cond (!((ByteArray.toList t)==(ByteArray.toList u)))
 (T.ret (vI 31))
 (T.af (m.add 2) [.int .i64,.int .i64,.int .i64,.int .i32,.int .i64] fun v w x y z =>
 T.af (o.add 2) [.int .i64,.int .i64,.int .i64,.int .i32,.int .i64] fun A B C D E =>
 ei (Sx.jk (BinOp.neq) 62 (Operand.tmp 109) (Operand.tmp 111) (.agg #[vI v,vI w,vI x,.int .i32 y,vI z]) (.agg #[vI A,vI B,vI C,.int .i32 D,vI E])) fun F =>
 cond F
 (T.ret (vI 31))
 (T.af (m.add 9) [.int .i64] fun G =>
 T.af (o.add 9) [.int .i64] fun H =>
 cond (G != H)
 (T.ret (vI 31))
 (T.af (m.add 7) (yL 66) fun I J K L =>
 T.af (o.add 7) (yL 66) fun M N O P =>
 bd 101 [.agg #[.slice I J K,ax L],.agg #[.slice M N O,ax P]] fun Q =>
 cond (!Q)
 (T.ret (vI 31))
 (T.ret (vI 0)))))))
 (cond (p==2)
 (T.af (m.add 2) [.int .i64,.int .i64,.int .i64,.int .i32,.int .i64] fun q r s t u =>
 T.af (m.add 7) (yL 66) fun v w x y =>
 T.ar (o.add 2) [vI q,vI r,vI s,.int .i32 t,vI u] <|
 T.aD [((m.add 7),[.slice v w x,ax y])] <|
 T.ar (o.add 7) [.slice v w x,ax y] <|
 T.ret (vI 31))
 (cond (p==3)
 (T.af (m.add 9) [.int .i64] fun q =>
 T.ar (o.add 9) [vI q] <|
 T.af (m.add 9) [.int .i64] fun r =>
 bd 100 [vI r] fun s =>
 cond (!s)
 (T.ret (vI 31))
 (T.af (m.add 1) [.string] fun t =>
 T.af (o.add 1) [.string] fun u =>
 cond (!((ByteArray.toList t)==(ByteArray.toList u)))
 (T.ret (vI 31))
 (T.af (m.add 2) [.int .i64,.int .i64,.int .i64,.int .i32,.int .i64] fun v w x y z =>
 T.af (o.add 2) [.int .i64,.int .i64,.int .i64,.int .i32,.int .i64] fun A B C D E =>
 ei (Sx.jk (BinOp.neq) 62 (Operand.tmp 109) (Operand.tmp 111) (.agg #[vI v,vI w,vI x,.int .i32 y,vI z]) (.agg #[vI A,vI B,vI C,.int .i32 D,vI E])) fun F =>
 cond F
 (T.ret (vI 31))
 (T.af (m.add 9) [.int .i64] fun G =>
 T.af (o.add 9) [.int .i64] fun H =>
 cond (G != H)
 (T.ret (vI 31))
 (T.af (m.add 7) (yL 66) fun I J K L =>
 T.af (o.add 7) (yL 66) fun M N O P =>
 bd 101 [.agg #[.slice I J K,ax L],.agg #[.slice M N O,ax P]] fun Q =>
 cond (!Q)
 (T.ret (vI 31))
 (T.ret (vI 0)))))))
 (cond (p==4)
 (T.ret (vI 31))
 (cond (p==5)
 (T.af (m.add 9) [.int .i64] fun q =>
 T.ar (o.add 9) [vI q] <|
 T.af (m.add 9) [.int .i64] fun r =>
 cond (decide (r>=(-128)))
 (T.af (m.add 9) [.int .i64] fun s =>
 cond (!(decide (s<=255)))
 (T.ret (vI 31))
 (T.af (m.add 1) [.string] fun t =>
 T.af (o.add 1) [.string] fun u =>
 cond (!((ByteArray.toList t)==(ByteArray.toList u)))
 (T.ret (vI 31))
 (T.af (m.add 2) [.int .i64,.int .i64,.int .i64,.int .i32,.int .i64] fun v w x y z =>
 T.af (o.add 2) [.int .i64,.int .i64,.int .i64,.int .i32,.int .i64] fun A B C D E =>
 ei (Sx.jk (BinOp.neq) 62 (Operand.tmp 109) (Operand.tmp 111) (.agg #[vI v,vI w,vI x,.int .i32 y,vI z]) (.agg #[vI A,vI B,vI C,.int .i32 D,vI E])) fun F =>
 cond F
 (T.ret (vI 31))
 (T.af (m.add 9) [.int .i64] fun G =>
 T.af (o.add 9) [.int .i64] fun H =>
 cond (G != H)
 (T.ret (vI 31))
 (T.af (m.add 7) (yL 66) fun I J K L =>
 T.af (o.add 7) (yL 66) fun M N O P =>
 bd 101 [.agg #[.slice I J K,ax L],.agg #[.slice M N O,ax P]] fun Q =>
 cond (!Q)
 (T.ret (vI 31))
 (T.ret (vI 0)))))))
 (T.ret (vI 31)))
 (cond (p==6)
 (T.af (m.add 7) (yL 66) fun q r s t =>
 T.ar (o.add 7) [.slice q r s,ax t] <|
 T.af (m.add 7) (yL 66) fun u v w x =>
 bd 80 [.agg #[.slice u v w,ax x]] fun y =>
 cond (!y)
 (T.ret (vI 31))
 (T.af (m.add 1) [.string] fun z =>
 T.af (o.add 1) [.string] fun A =>
 cond (!((ByteArray.toList z)==(ByteArray.toList A)))
 (T.ret (vI 31))
 (T.af (m.add 2) [.int .i64,.int .i64,.int .i64,.int .i32,.int .i64] fun B C D E F =>
 T.af (o.add 2) [.int .i64,.int .i64,.int .i64,.int .i32,.int .i64] fun G H I J K =>
 ei (Sx.jk (BinOp.neq) 62 (Operand.tmp 109) (Operand.tmp 111) (.agg #[vI B,vI C,vI D,.int .i32 E,vI F]) (.agg #[vI G,vI H,vI I,.int .i32 J,vI K])) fun L =>
 cond L
 (T.ret (vI 31))
 (T.af (m.add 9) [.int .i64] fun M =>
 T.af (o.add 9) [.int .i64] fun N =>
 cond (M != N)
 (T.ret (vI 31))
 (T.af (m.add 7) (yL 66) fun O P Q R =>
 T.af (o.add 7) (yL 66) fun S U V W =>
 bd 101 [.agg #[.slice O P Q,ax R],.agg #[.slice S U V,ax W]] fun X =>
 cond (!X)
 (T.ret (vI 31))
 (T.ret (vI 0)))))))
 (cond (p==7)
 (T.af (m.add 9) [.int .i64] fun q =>
 T.ar (o.add 9) [vI q] <|
 T.af (m.add 9) [.int .i64] fun r =>
 cond (decide (r>=0))
 (T.af (m.add 9) [.int .i64] fun s =>
 cond (!(decide (s<=1048576)))
 (T.ret (vI 31))
 (T.af (m.add 1) [.string] fun t =>
 T.af (o.add 1) [.string] fun u =>
 cond (!((ByteArray.toList t)==(ByteArray.toList u)))
 (T.ret (vI 31))
 (T.af (m.add 2) [.int .i64,.int .i64,.int .i64,.int .i32,.int .i64] fun v w x y z =>
 T.af (o.add 2) [.int .i64,.int .i64,.int .i64,.int .i32,.int .i64] fun A B C D E =>
 ei (Sx.jk (BinOp.neq) 62 (Operand.tmp 109) (Operand.tmp 111) (.agg #[vI v,vI w,vI x,.int .i32 y,vI z]) (.agg #[vI A,vI B,vI C,.int .i32 D,vI E])) fun F =>
 cond F
 (T.ret (vI 31))
 (T.af (m.add 9) [.int .i64] fun G =>
 T.af (o.add 9) [.int .i64] fun H =>
 cond (G != H)
 (T.ret (vI 31))
 (T.af (m.add 7) (yL 66) fun I J K L =>
 T.af (o.add 7) (yL 66) fun M N O P =>
 bd 101 [.agg #[.slice I J K,ax L],.agg #[.slice M N O,ax P]] fun Q =>
 cond (!Q)
 (T.ret (vI 31))
 (T.ret (vI 0)))))))
 (T.ret (vI 31)))
 (T.ret (vI 31))))))))
def vL (a:Int) (b:Xaa) (c d e f g:Int) (h:Xac) (i j:Nat) (k l:Int):bS Xaz [] Tryz.f78 [.agg #[vI a,.string b,vI c,vI d,vI e,.int .i32 f,vI g,.slice h i j,.int .u32 k,vI l],vI 1]=ri a b c d e f g h i j k l:=aw
def iw (a:Xac) (b c:Nat):T :=
 aT (Instr.makeSlice 26 (vI (b:Int)) (vI (b:Int))) fun d e f =>
 T.loop [aK] [vI 0] fun g =>
 bn g b
 (aY g b a fun h =>
 T.af (h.add (ay g 10)) (yI 66) fun i j k l m n o p q r s t =>
 aY g e d fun u =>
 T.ar (u.add (ay g 10)) [vI i,.string j,vI k,vI l,vI m,.int .i32 n,vI o,.slice p q r,ax s,vI t] <|
 aY g b a fun v =>
 T.af ((v.add (ay g 10)).add 7) (yL 66) fun w x y z =>
 bz 57 [.agg #[.slice w x y,ax z]] false [(true,(yL 66))] fun A B C D =>
 aY g e d fun E =>
 T.ar ((E.add (ay g 10)).add 7) [.slice A B C,ax D] <|
 T.again 0 [bj g])
 (T.ret (.slice d e f))
def lW (a:Xac) (b c:Nat):bS Xaz [] Tryz.f52 [.slice a b c]=iw a b c:=aw
def jw (a:Xac) (b c:Nat) (d:Int):T :=
 T.new [.slice a b c,ax d] 60 fun e =>
 T.new [aS,ax 0] 60 fun f =>
 T.af e [.slice 66] fun g h i =>
 T.af (e.add 1) [.int .u32] fun j =>
 aT (Instr.buildSlice 57 0 #[]) fun k l m =>
 T.aD [((e.add 1),[ax j]),(e,[.slice g h i])] <|
 aT (Builtin.append_ #[57,57] 57 #[.slice k l m,.slice g h i]) fun n o p =>
 T.aD [((e.add 1),[ax j])] <|
 T.ar f [.slice n o p,ax j] <|
 T.af f (yL 66) fun q r s t =>
 T.ret (.agg #[.slice q r s,ax t])
def nN (a:Xac) (b c:Nat) (d:Int):bS Xaz [] Tryz.f57 [.agg #[.slice a b c,.int .u32 d]]=jw a b c d:=aw
def kL (a:Xac) (b c:Nat) (d:Xac) (e f:Nat) (g:Xac) (h i:Nat) (j:Xac) (k l:Nat):T :=
 T.new [.slice a b c,.slice d e f,.slice g h i,.slice j k l] 30 fun m =>
 T.af m [.slice 64] fun n o p =>
 T.af (m.add 1) [.slice 64] fun q r s =>
 aT (Instr.buildSlice 68 2 #[(0,.slice n o p),(1,.slice q r s)]) fun t u v =>
 T.loop [aK] [vI 0] fun w =>
 bn w u
 (aY w u t fun x =>
 T.af (x.add (ay w 1)) [.slice 64] fun y z A =>
 T.loop [aK] [vI 0] fun B =>
 bn B z
 (T.loop [aK] [vI 0] fun C =>
 aY B z y fun D =>
 T.af ((D.add (ay B 10)).add 7) [.slice 66] fun E F G =>
 bn C F
 (aY B z y fun H =>
 T.af ((H.add (ay B 10)).add 7) [.slice 66] fun I J K =>
 aY C J I fun L =>
 T.ar (L.add (ay C 2)) [.string ⟨#[115,112,111,105,108,116]⟩,ax 0] <|
 T.again 2 [bj C])
 (aY B z y fun H =>
 T.ar (H.add (ay B 10)) [vI (-9),cm,vI 0,vI 0,vI 0,.int .i32 0,vI 0,aS,ax 0,vI 0] <|
 T.again 1 [bj B]))
 (T.again 0 [bj w]))
 (T.loop [aK] [vI 0] fun x =>
 T.af (m.add 2) [.slice 88] fun y z A =>
 bn x z
 (T.loop [aK] [vI 0] fun B =>
 T.af (m.add 2) [.slice 88] fun C D E =>
 aY x D C fun F =>
 T.af ((F.add (ay x 3)).add 1) [.slice 66] fun G H I =>
 bn B H
 (T.af (m.add 2) [.slice 88] fun J K L =>
 aY x K J fun M =>
 T.af ((M.add (ay x 3)).add 1) [.slice 66] fun N O P =>
 aY B O N fun Q =>
 T.ar (Q.add (ay B 2)) [.string ⟨#[115,112,111,105,108,116]⟩,ax 0] <|
 T.again 2 [bj B])
 (T.af (m.add 2) [.slice 88] fun J K L =>
 aY x K J fun M =>
 T.ar (M.add (ay x 3)) [.string ⟨#[115,112,111,105,108,116]⟩,aS,ax 0] <|
 T.again 1 [bj x]))
 (T.loop [aK] [vI 0] fun B =>
 T.af (m.add 3) [.slice 9] fun C D E =>
 bn B D
 (T.af (m.add 3) [.slice 9] fun F G H =>
 aY B G F fun I =>
 T.ar (I.add (ay B 1)) [.string ⟨#[115,112,111,105,108,116]⟩] <|
 T.again 2 [bj B])
 (bK #[])))
def oZ (a:Xac) (b c:Nat) (d:Xac) (e f:Nat) (g:Xac) (h i:Nat) (j:Xac) (k l:Nat):bS Xaz [] Tryz.f25 [.agg #[.slice a b c,.slice d e f,.slice g h i,.slice j k l]]=kL a b c d e f g h i j k l:=aw
end Go.Sx
