/- Trees of functions. No condition. -/
import Derived.Test.YtmdncdaladplkaaGreatDoorSxF
import Derived.Test.YtmdncdaladplkaaGreatDoorProg
import Derived.KernelRfl
set_option linter.all false
set_option maxRecDepth 100000
set_option maxHeartbeats 4000000
namespace Go.Sx
open Go.Proofs
def mI (a b c d e:Int):T :=
 T.new [vI a,vI b,vI c,.int .i32 d,vI e] 49 fun f =>
 T.af (f.add 1) [.int .i64] fun g =>
 cond (g==0)
 (T.af (f.add 2) [.int .i64] fun h =>
 T.ret (.bool (h==0)))
 bz
def rG (a b c d e:Int):bZ Xaz [] Tryz.f137 [.agg #[vI a,vI b,vI c,.int .i32 d,vI e],vI 1]=mI a b c d e:=ax
def mX (a b c d e:Int):T :=
 T.new [vI a,vI b,vI c,.int .i32 d,vI e] 49 fun f =>
 T.af (f.add 1) [.int .i64] fun g =>
 aZ 155 [vI g,vI 8] fun h =>
 cond h
 (T.af (f.add 2) [.int .i64] fun i =>
 T.ret (.bool (i==0)))
 bz
def rz (a b c d e:Int):bZ Xaz [] Tryz.f137 [.agg #[vI a,vI b,vI c,.int .i32 d,vI e],vI 2]=mX a b c d e:=ax
def mu (a b c d e:Int):T :=
 T.new [vI a,vI b,vI c,.int .i32 d,vI e] 49 fun f =>
 T.af (f.add 1) [.int .i64] fun g =>
 aZ 155 [vI g,vI 4] fun h =>
 cond h
 (T.af (f.add 2) [.int .i64] fun i =>
 T.ret (.bool (i==0)))
 bz
def rK (a b c d e:Int):bZ Xaz [] Tryz.f137 [.agg #[vI a,vI b,vI c,.int .i32 d,vI e],vI 3]=mu a b c d e:=ax
def lX (a b c d e:Int):T :=
 T.new [vI a,vI b,vI c,.int .i32 d,vI e] 49 fun f =>
 T.af (f.add 1) [.int .i64] fun g =>
 aZ 155 [vI g,vI 8] fun h =>
 cond h
 (T.af (f.add 2) [.int .i64] fun i =>
 aZ 155 [vI i,vI 8] fun j =>
 T.ret (.bool j))
 bz
def rm (a b c d e:Int):bZ Xaz [] Tryz.f137 [.agg #[vI a,vI b,vI c,.int .i32 d,vI e],vI 4]=lX a b c d e:=ax
def mM (a b c d e:Int):T :=
 T.new [vI a,vI b,vI c,.int .i32 d,vI e] 49 fun f =>
 T.af (f.add 1) [.int .i64] fun g =>
 aZ 155 [vI g,vI 4] fun h =>
 cond h
 (T.af (f.add 2) [.int .i64] fun i =>
 aZ 155 [vI i,vI 4] fun j =>
 T.ret (.bool j))
 bz
def rI (a b c d e:Int):bZ Xaz [] Tryz.f137 [.agg #[vI a,vI b,vI c,.int .i32 d,vI e],vI 5]=mM a b c d e:=ax
def mj (a b c d e:Int):T :=
 T.new [vI a,vI b,vI c,.int .i32 d,vI e] 49 fun f =>
 T.af (f.add 1) [.int .i64] fun g =>
 aZ 155 [vI g,vI 8] fun h =>
 cond h
 (T.af (f.add 2) [.int .i64] fun i =>
 aZ 155 [vI i,vI 4] fun j =>
 T.ret (.bool j))
 bz
def rq (a b c d e:Int):bZ Xaz [] Tryz.f137 [.agg #[vI a,vI b,vI c,.int .i32 d,vI e],vI 6]=mj a b c d e:=ax
def lV (a b c d e:Int):T :=
 T.new [vI a,vI b,vI c,.int .i32 d,vI e] 49 fun f =>
 T.af (f.add 1) [.int .i64] fun g =>
 aZ 155 [vI g,vI 4] fun h =>
 cond h
 (T.af (f.add 2) [.int .i64] fun i =>
 aZ 155 [vI i,vI 8] fun j =>
 cond j
 (T.af (f.add 3) [.int .i32] fun k =>
 cond (decide (k>=0))
 (T.af (f.add 3) [.int .i32] fun l =>
 T.ret (.bool (decide (l<8))))
 bz)
 bz)
 bz
def rH (a b c d e:Int):bZ Xaz [] Tryz.f137 [.agg #[vI a,vI b,vI c,.int .i32 d,vI e],vI 7]=lV a b c d e:=ax
def me (a b c d e:Int):T :=
 T.new [vI a,vI b,vI c,.int .i32 d,vI e] 49 fun f =>
 T.af (f.add 1) [.int .i64] fun g =>
 aZ 155 [vI g,vI 8] fun h =>
 cond h
 (T.af (f.add 2) [.int .i64] fun i =>
 T.ret (.bool (i==0)))
 bz
def rL (a b c d e:Int):bZ Xaz [] Tryz.f137 [.agg #[vI a,vI b,vI c,.int .i32 d,vI e],vI 8]=me a b c d e:=ax
def mz (a b c d e:Int):T :=
 T.new [vI a,vI b,vI c,.int .i32 d,vI e] 49 fun f =>
 T.af (f.add 1) [.int .i64] fun g =>
 cond (g==0)
 (T.af (f.add 2) [.int .i64] fun h =>
 T.ret (.bool (h==0)))
 bz
def rp (a b c d e:Int):bZ Xaz [] Tryz.f137 [.agg #[vI a,vI b,vI c,.int .i32 d,vI e],vI 9]=mz a b c d e:=ax
def kX (a b c d e:Int):T :=
 T.new [vI a,vI b,vI c,.int .i32 d,vI e] 49 fun f =>
 T.af (f.add 1) [.int .i64] fun g =>
 aZ 155 [vI g,vI 8] fun h =>
 cond h
 (T.af (f.add 2) [.int .i64] fun i =>
 T.ret (.bool (i==0)))
 bz
def qD (a b c d e:Int):bZ Xaz [] Tryz.f137 [.agg #[vI a,vI b,vI c,.int .i32 d,vI e],vI 10]=kX a b c d e:=ax
def ld (a b c d e:Int):T :=
 T.new [vI a,vI b,vI c,.int .i32 d,vI e] 49 fun f =>
 T.af (f.add 1) [.int .i64] fun g =>
 aZ 155 [vI g,vI 8] fun h =>
 cond h
 (T.af (f.add 2) [.int .i64] fun i =>
 T.ret (.bool (i==0)))
 bz
def qd (a b c d e:Int):bZ Xaz [] Tryz.f137 [.agg #[vI a,vI b,vI c,.int .i32 d,vI e],vI 11]=ld a b c d e:=ax
def la (a b c d e:Int):T :=
 T.new [vI a,vI b,vI c,.int .i32 d,vI e] 49 fun f =>
 T.af (f.add 1) [.int .i64] fun g =>
 cond (g==0)
 (T.af (f.add 2) [.int .i64] fun h =>
 T.ret (.bool (h==0)))
 bz
def pQ (a b c d e:Int):bZ Xaz [] Tryz.f137 [.agg #[vI a,vI b,vI c,.int .i32 d,vI e],vI 12]=la a b c d e:=ax
def lC (a b c d e:Int):T :=
 T.new [vI a,vI b,vI c,.int .i32 d,vI e] 49 fun f =>
 T.af (f.add 1) [.int .i64] fun g =>
 aZ 155 [vI g,vI 8] fun h =>
 cond h
 (T.af (f.add 2) [.int .i64] fun i =>
 T.ret (.bool (i==0)))
 bz
def qk (a b c d e:Int):bZ Xaz [] Tryz.f137 [.agg #[vI a,vI b,vI c,.int .i32 d,vI e],vI 13]=lC a b c d e:=ax
def q8 (a b c d e:Int):T :=
 T.new [vI a,vI b,vI c,.int .i32 d,vI e] 49 fun f =>
 T.af (f.add 3) [.int .i32] fun g =>
 T.ret (.bool (g==0))
def uX (a b c d e:Int):bZ Xaz [] Tryz.f138 [.agg #[vI a,vI b,vI c,.int .i32 d,vI e],vI 1]=q8 a b c d e:=ax
def qX (a b c d e:Int):T :=
 T.new [vI a,vI b,vI c,.int .i32 d,vI e] 49 fun f =>
 T.af (f.add 3) [.int .i32] fun g =>
 T.ret (.bool (g==0))
def uP (a b c d e:Int):bZ Xaz [] Tryz.f138 [.agg #[vI a,vI b,vI c,.int .i32 d,vI e],vI 2]=qX a b c d e:=ax
def rb (a b c d e:Int):T :=
 T.new [vI a,vI b,vI c,.int .i32 d,vI e] 49 fun f =>
 T.af (f.add 3) [.int .i32] fun g =>
 T.ret (.bool (g==0))
def uL (a b c d e:Int):bZ Xaz [] Tryz.f138 [.agg #[vI a,vI b,vI c,.int .i32 d,vI e],vI 3]=rb a b c d e:=ax
def qZ (a b c d e:Int):T :=
 T.new [vI a,vI b,vI c,.int .i32 d,vI e] 49 fun f =>
 T.af (f.add 3) [.int .i32] fun g =>
 T.ret (.bool (g==0))
def uS (a b c d e:Int):bZ Xaz [] Tryz.f138 [.agg #[vI a,vI b,vI c,.int .i32 d,vI e],vI 4]=qZ a b c d e:=ax
def qV (a b c d e:Int):T :=
 T.new [vI a,vI b,vI c,.int .i32 d,vI e] 49 fun f =>
 T.af (f.add 3) [.int .i32] fun g =>
 T.ret (.bool (g==0))
def uH (a b c d e:Int):bZ Xaz [] Tryz.f138 [.agg #[vI a,vI b,vI c,.int .i32 d,vI e],vI 5]=qV a b c d e:=ax
def rc (a b c d e:Int):T :=
 T.new [vI a,vI b,vI c,.int .i32 d,vI e] 49 fun f =>
 T.af (f.add 3) [.int .i32] fun g =>
 T.ret (.bool (g==0))
def vz (a b c d e:Int):bZ Xaz [] Tryz.f138 [.agg #[vI a,vI b,vI c,.int .i32 d,vI e],vI 6]=rc a b c d e:=ax
def rk (a b c d e:Int):T :=
 T.new [vI a,vI b,vI c,.int .i32 d,vI e] 49 fun f =>
 T.ret (.bool true)
def vB (a b c d e:Int):bZ Xaz [] Tryz.f138 [.agg #[vI a,vI b,vI c,.int .i32 d,vI e],vI 7]=rk a b c d e:=ax
def rf (a b c d e:Int):T :=
 T.new [vI a,vI b,vI c,.int .i32 d,vI e] 49 fun f =>
 T.af (f.add 3) [.int .i32] fun g =>
 aZ 156 [.int .i32 g,vI 1] fun h =>
 T.ret (.bool h)
def vf (a b c d e:Int):bZ Xaz [] Tryz.f138 [.agg #[vI a,vI b,vI c,.int .i32 d,vI e],vI 8]=rf a b c d e:=ax
def qU (a b c d e:Int):T :=
 T.new [vI a,vI b,vI c,.int .i32 d,vI e] 49 fun f =>
 T.af (f.add 3) [.int .i32] fun g =>
 cond (decide (g>=0))
 (T.af (f.add 3) [.int .i32] fun h =>
 T.ret (.bool (decide (h<=255))))
 bz
def uM (a b c d e:Int):bZ Xaz [] Tryz.f138 [.agg #[vI a,vI b,vI c,.int .i32 d,vI e],vI 9]=qU a b c d e:=ax
def ph (a b c d e:Int):T :=
 T.new [vI a,vI b,vI c,.int .i32 d,vI e] 49 fun f =>
 T.ret (.bool true)
def ua (a b c d e:Int):bZ Xaz [] Tryz.f138 [.agg #[vI a,vI b,vI c,.int .i32 d,vI e],vI 10]=ph a b c d e:=ax
def py (a b c d e:Int):T :=
 T.new [vI a,vI b,vI c,.int .i32 d,vI e] 49 fun f =>
 T.af (f.add 3) [.int .i32] fun g =>
 cond (decide (g>=0))
 (T.af (f.add 3) [.int .i32] fun h =>
 T.ret (.bool (decide (h<=4095))))
 bz
def tW (a b c d e:Int):bZ Xaz [] Tryz.f138 [.agg #[vI a,vI b,vI c,.int .i32 d,vI e],vI 11]=py a b c d e:=ax
def oU (a b c d e:Int):T :=
 T.new [vI a,vI b,vI c,.int .i32 d,vI e] 49 fun f =>
 T.af (f.add 3) [.int .i32] fun g =>
 T.af (f.add 4) [.int .i64] fun h =>
 aZ 156 [.int .i32 g,vI h] fun i =>
 T.ret (.bool i)
def tT (a b c d e:Int):bZ Xaz [] Tryz.f138 [.agg #[vI a,vI b,vI c,.int .i32 d,vI e],vI 12]=oU a b c d e:=ax
def oC (a b c d e:Int):T :=
 T.new [vI a,vI b,vI c,.int .i32 d,vI e] 49 fun f =>
 T.af (f.add 3) [.int .i32] fun g =>
 T.af (f.add 4) [.int .i64] fun h =>
 aZ 156 [.int .i32 g,vI h] fun i =>
 T.ret (.bool i)
def tU (a b c d e:Int):bZ Xaz [] Tryz.f138 [.agg #[vI a,vI b,vI c,.int .i32 d,vI e],vI 13]=oC a b c d e:=ax
def qY (a:Int) (b:Xaa) (c d e f g:Int) (h:Xac) (i j:Nat) (k l:Int):T :=
 T.new [vI a,.string b,vI c,vI d,vI e,.int .i32 f,vI g,.slice h i j,aF k,vI l] 55 fun m =>
 T.af m [.int .i64] fun n =>
 T.new [vI 0,cm,vI 0,vI 0,vI 0,.int .i32 0,vI 0,bg,aF 0,vI 0] 55 fun o =>
 T.aD o [vI n,cm,vI 0,vI 0,vI 0,.int .i32 0,vI 0,bg,aF 0,vI 0] <|
 T.af m [.int .i64] fun p =>
 cond (p==1)
 (T.af (m.add 1) [.string] fun q =>
 T.aD (o.add 1) [.string q] <|
 T.af (m.add 1) [.string] fun r =>
 aZ 55 [.string r] fun s =>
 cond (!s)
 (T.ret (vI 31))
 (T.af (m.add 1) [.string] fun t =>
 T.af (o.add 1) [.string] fun u =>
 cond (!((ByteArray.toList t)==(ByteArray.toList u)))
 (T.ret (vI 31))
 (T.af (m.add 2) [.int .i64,.int .i64,.int .i64,.int .i32,.int .i64] fun v w x y z =>
 T.af (o.add 2) [.int .i64,.int .i64,.int .i64,.int .i32,.int .i64] fun A B C D E =>
 fh (Sx.lW (BinOp.neq) 49 (Operand.tmp 109) (Operand.tmp 111) (.agg #[vI v,vI w,vI x,.int .i32 y,vI z]) (.agg #[vI A,vI B,vI C,.int .i32 D,vI E])) fun F =>
 cond F
 (T.ret (vI 31))
 (T.af (m.add 9) [.int .i64] fun G =>
 T.af (o.add 9) [.int .i64] fun H =>
 cond (G != H)
 (T.ret (vI 31))
 (T.af (m.add 7) (yL 64) fun I J K L =>
 T.af (o.add 7) (yL 64) fun M N O P =>
 aZ 82 [.agg #[.slice I J K,aF L],.agg #[.slice M N O,aF P]] fun Q =>
 cond (!Q)
 (T.ret (vI 31))
 (T.ret (vI 0)))))))
 (cond (p==2)
 (T.af (m.add 2) [.int .i64,.int .i64,.int .i64,.int .i32,.int .i64] fun q r s t u =>
 T.af (m.add 7) (yL 64) fun v w x y =>
 T.aD (o.add 2) [vI q,vI r,vI s,.int .i32 t,vI u] <|
 T.bi [((m.add 7),[.slice v w x,aF y])] <|
 T.aD (o.add 7) [.slice v w x,aF y] <|
 T.af m (yI 64) fun z A B C D E F G H I J K =>
 aZ 80 [.agg #[vI z,.string A,vI B,vI C,vI D,.int .i32 E,vI F,.slice G H I,aF J,vI K]] fun L =>
 cond (!L)
 (T.ret (vI 31))
 (T.af (m.add 1) [.string] fun M =>
 T.af (o.add 1) [.string] fun N =>
 cond (!((ByteArray.toList M)==(ByteArray.toList N)))
 (T.ret (vI 31))
 (T.af (m.add 2) [.int .i64,.int .i64,.int .i64,.int .i32,.int .i64] fun O P Q R S =>
 T.af (o.add 2) [.int .i64,.int .i64,.int .i64,.int .i32,.int .i64] fun U V W X Y =>
 fh (Sx.lW (BinOp.neq) 49 (Operand.tmp 109) (Operand.tmp 111) (.agg #[vI O,vI P,vI Q,.int .i32 R,vI S]) (.agg #[vI U,vI V,vI W,.int .i32 X,vI Y])) fun Z =>
 cond Z
 (T.ret (vI 31))
 (T.af (m.add 9) [.int .i64] fun a0 =>
 T.af (o.add 9) [.int .i64] fun a1 =>
 cond (a0 != a1)
 (T.ret (vI 31))
 (T.af (m.add 7) (yL 64) fun a2 a3 a4 a5 =>
 T.af (o.add 7) (yL 64) fun a6 a7 a8 a9 =>
 aZ 82 [.agg #[.slice a2 a3 a4,aF a5],.agg #[.slice a6 a7 a8,aF a9]] fun b0 =>
 cond (!b0)
 (T.ret (vI 31))
 (T.ret (vI 0)))))))
 (cond (p==3)
 (T.af (m.add 9) [.int .i64] fun q =>
 T.aD (o.add 9) [vI q] <|
 T.af (m.add 9) [.int .i64] fun r =>
 aZ 81 [vI r] fun s =>
 cond (!s)
 (T.ret (vI 31))
 (T.af (m.add 1) [.string] fun t =>
 T.af (o.add 1) [.string] fun u =>
 cond (!((ByteArray.toList t)==(ByteArray.toList u)))
 (T.ret (vI 31))
 (T.af (m.add 2) [.int .i64,.int .i64,.int .i64,.int .i32,.int .i64] fun v w x y z =>
 T.af (o.add 2) [.int .i64,.int .i64,.int .i64,.int .i32,.int .i64] fun A B C D E =>
 fh (Sx.lW (BinOp.neq) 49 (Operand.tmp 109) (Operand.tmp 111) (.agg #[vI v,vI w,vI x,.int .i32 y,vI z]) (.agg #[vI A,vI B,vI C,.int .i32 D,vI E])) fun F =>
 cond F
 (T.ret (vI 31))
 (T.af (m.add 9) [.int .i64] fun G =>
 T.af (o.add 9) [.int .i64] fun H =>
 cond (G != H)
 (T.ret (vI 31))
 (T.af (m.add 7) (yL 64) fun I J K L =>
 T.af (o.add 7) (yL 64) fun M N O P =>
 aZ 82 [.agg #[.slice I J K,aF L],.agg #[.slice M N O,aF P]] fun Q =>
 cond (!Q)
 (T.ret (vI 31))
 (T.ret (vI 0)))))))
 (cond (p==4)
 (T.af (m.add 1) [.string] fun q =>
 T.af (o.add 1) [.string] fun r =>
 cond (!((ByteArray.toList q)==(ByteArray.toList r)))
 (T.ret (vI 31))
 (T.af (m.add 2) [.int .i64,.int .i64,.int .i64,.int .i32,.int .i64] fun s t u v w =>
 T.af (o.add 2) [.int .i64,.int .i64,.int .i64,.int .i32,.int .i64] fun x y z A B =>
 fh (Sx.lW (BinOp.neq) 49 (Operand.tmp 109) (Operand.tmp 111) (.agg #[vI s,vI t,vI u,.int .i32 v,vI w]) (.agg #[vI x,vI y,vI z,.int .i32 A,vI B])) fun C =>
 cond C
 (T.ret (vI 31))
 (T.af (m.add 9) [.int .i64] fun D =>
 T.af (o.add 9) [.int .i64] fun E =>
 cond (D != E)
 (T.ret (vI 31))
 (T.af (m.add 7) (yL 64) fun F G H I =>
 T.af (o.add 7) (yL 64) fun J K L M =>
 aZ 82 [.agg #[.slice F G H,aF I],.agg #[.slice J K L,aF M]] fun N =>
 cond (!N)
 (T.ret (vI 31))
 (T.ret (vI 0))))))
 (cond (p==5)
 (T.af (m.add 9) [.int .i64] fun q =>
 T.aD (o.add 9) [vI q] <|
 T.ret (vI 31))
 (cond (p==6)
 (T.af (m.add 7) (yL 64) fun q r s t =>
 T.aD (o.add 7) [.slice q r s,aF t] <|
 T.ret (vI 31))
 (cond (p==7)
 (T.af (m.add 9) [.int .i64] fun q =>
 T.aD (o.add 9) [vI q] <|
 T.ret (vI 31))
 (T.ret (vI 31))))))))
def uW (a:Int) (b:Xaa) (c d e f g:Int) (h:Xac) (i j:Nat) (k l:Int):bZ Xaz [] Tryz.f54 [.agg #[vI a,.string b,vI c,vI d,vI e,.int .i32 f,vI g,.slice h i j,.int .u32 k,vI l],vI 0]=qY a b c d e f g h i j k l:=ax
def qS (a:Int) (b:Xaa) (c d e f g:Int) (h:Xac) (i j:Nat) (k l:Int):T :=
 T.new [vI a,.string b,vI c,vI d,vI e,.int .i32 f,vI g,.slice h i j,aF k,vI l] 55 fun m =>
 T.af m [.int .i64] fun n =>
 T.new [vI 0,cm,vI 0,vI 0,vI 0,.int .i32 0,vI 0,bg,aF 0,vI 0] 55 fun o =>
 T.aD o [vI n,cm,vI 0,vI 0,vI 0,.int .i32 0,vI 0,bg,aF 0,vI 0] <|
 T.af m [.int .i64] fun p =>
 cond (p==1)
 (T.af (m.add 1) [.string] fun q =>
 T.aD (o.add 1) [.string q] <|
 T.af (m.add 1) [.string] fun r =>
 aZ 55 [.string r] fun s =>
 cond (!s)
 (T.ret (vI 31))
 (T.af (m.add 1) [.string] fun t =>
 T.af (o.add 1) [.string] fun u =>
 cond (!((ByteArray.toList t)==(ByteArray.toList u)))
 (T.ret (vI 31))
 (T.af (m.add 2) [.int .i64,.int .i64,.int .i64,.int .i32,.int .i64] fun v w x y z =>
 T.af (o.add 2) [.int .i64,.int .i64,.int .i64,.int .i32,.int .i64] fun A B C D E =>
 fh (Sx.lW (BinOp.neq) 49 (Operand.tmp 109) (Operand.tmp 111) (.agg #[vI v,vI w,vI x,.int .i32 y,vI z]) (.agg #[vI A,vI B,vI C,.int .i32 D,vI E])) fun F =>
 cond F
 (T.ret (vI 31))
 (T.af (m.add 9) [.int .i64] fun G =>
 T.af (o.add 9) [.int .i64] fun H =>
 cond (G != H)
 (T.ret (vI 31))
 (T.af (m.add 7) (yL 64) fun I J K L =>
 T.af (o.add 7) (yL 64) fun M N O P =>
 aZ 82 [.agg #[.slice I J K,aF L],.agg #[.slice M N O,aF P]] fun Q =>
 cond (!Q)
 (T.ret (vI 31))
 (T.ret (vI 0)))))))
 (cond (p==2)
 (T.af (m.add 2) [.int .i64,.int .i64,.int .i64,.int .i32,.int .i64] fun q r s t u =>
 T.af (m.add 7) (yL 64) fun v w x y =>
 T.aD (o.add 2) [vI q,vI r,vI s,.int .i32 t,vI u] <|
 T.bi [((m.add 7),[.slice v w x,aF y])] <|
 T.aD (o.add 7) [.slice v w x,aF y] <|
 T.ret (vI 31))
 (cond (p==3)
 (T.af (m.add 9) [.int .i64] fun q =>
 T.aD (o.add 9) [vI q] <|
 T.af (m.add 9) [.int .i64] fun r =>
 aZ 81 [vI r] fun s =>
 cond (!s)
 (T.ret (vI 31))
 (T.af (m.add 1) [.string] fun t =>
 T.af (o.add 1) [.string] fun u =>
 cond (!((ByteArray.toList t)==(ByteArray.toList u)))
 (T.ret (vI 31))
 (T.af (m.add 2) [.int .i64,.int .i64,.int .i64,.int .i32,.int .i64] fun v w x y z =>
 T.af (o.add 2) [.int .i64,.int .i64,.int .i64,.int .i32,.int .i64] fun A B C D E =>
 fh (Sx.lW (BinOp.neq) 49 (Operand.tmp 109) (Operand.tmp 111) (.agg #[vI v,vI w,vI x,.int .i32 y,vI z]) (.agg #[vI A,vI B,vI C,.int .i32 D,vI E])) fun F =>
 cond F
 (T.ret (vI 31))
 (T.af (m.add 9) [.int .i64] fun G =>
 T.af (o.add 9) [.int .i64] fun H =>
 cond (G != H)
 (T.ret (vI 31))
 (T.af (m.add 7) (yL 64) fun I J K L =>
 T.af (o.add 7) (yL 64) fun M N O P =>
 aZ 82 [.agg #[.slice I J K,aF L],.agg #[.slice M N O,aF P]] fun Q =>
 cond (!Q)
 (T.ret (vI 31))
 (T.ret (vI 0)))))))
 (cond (p==4)
 (T.ret (vI 31))
 (cond (p==5)
 (T.af (m.add 9) [.int .i64] fun q =>
 T.aD (o.add 9) [vI q] <|
 T.af (m.add 9) [.int .i64] fun r =>
 cond (decide (r>=(-128)))
 (T.af (m.add 9) [.int .i64] fun s =>
 cond (!(decide (s<=255)))
 (T.ret (vI 31))
 (T.af (m.add 1) [.string] fun t =>
 T.af (o.add 1) [.string] fun u =>
 cond (!((ByteArray.toList t)==(ByteArray.toList u)))
 (T.ret (vI 31))
 (T.af (m.add 2) [.int .i64,.int .i64,.int .i64,.int .i32,.int .i64] fun v w x y z =>
 T.af (o.add 2) [.int .i64,.int .i64,.int .i64,.int .i32,.int .i64] fun A B C D E =>
 fh (Sx.lW (BinOp.neq) 49 (Operand.tmp 109) (Operand.tmp 111) (.agg #[vI v,vI w,vI x,.int .i32 y,vI z]) (.agg #[vI A,vI B,vI C,.int .i32 D,vI E])) fun F =>
 cond F
 (T.ret (vI 31))
 (T.af (m.add 9) [.int .i64] fun G =>
 T.af (o.add 9) [.int .i64] fun H =>
 cond (G != H)
 (T.ret (vI 31))
 (T.af (m.add 7) (yL 64) fun I J K L =>
 T.af (o.add 7) (yL 64) fun M N O P =>
 aZ 82 [.agg #[.slice I J K,aF L],.agg #[.slice M N O,aF P]] fun Q =>
 cond (!Q)
 (T.ret (vI 31))
 (T.ret (vI 0)))))))
 (T.ret (vI 31)))
 (cond (p==6)
 (T.af (m.add 7) (yL 64) fun q r s t =>
 T.aD (o.add 7) [.slice q r s,aF t] <|
 T.af (m.add 7) (yL 64) fun u v w x =>
 aZ 56 [.agg #[.slice u v w,aF x]] fun y =>
 cond (!y)
 (T.ret (vI 31))
 (T.af (m.add 1) [.string] fun z =>
 T.af (o.add 1) [.string] fun A =>
 cond (!((ByteArray.toList z)==(ByteArray.toList A)))
 (T.ret (vI 31))
 (T.af (m.add 2) [.int .i64,.int .i64,.int .i64,.int .i32,.int .i64] fun B C D E F =>
 T.af (o.add 2) [.int .i64,.int .i64,.int .i64,.int .i32,.int .i64] fun G H I J K =>
 fh (Sx.lW (BinOp.neq) 49 (Operand.tmp 109) (Operand.tmp 111) (.agg #[vI B,vI C,vI D,.int .i32 E,vI F]) (.agg #[vI G,vI H,vI I,.int .i32 J,vI K])) fun L =>
 cond L
 (T.ret (vI 31))
 (T.af (m.add 9) [.int .i64] fun M =>
 T.af (o.add 9) [.int .i64] fun N =>
 cond (M != N)
 (T.ret (vI 31))
 (T.af (m.add 7) (yL 64) fun O P Q R =>
 T.af (o.add 7) (yL 64) fun S U V W =>
 aZ 82 [.agg #[.slice O P Q,aF R],.agg #[.slice S U V,aF W]] fun X =>
 cond (!X)
 (T.ret (vI 31))
 (T.ret (vI 0)))))))
 (cond (p==7)
 (T.af (m.add 9) [.int .i64] fun q =>
 T.aD (o.add 9) [vI q] <|
 T.af (m.add 9) [.int .i64] fun r =>
 cond (decide (r>=0))
 (T.af (m.add 9) [.int .i64] fun s =>
 cond (!(decide (s<=1048576)))
 (T.ret (vI 31))
 (T.af (m.add 1) [.string] fun t =>
 T.af (o.add 1) [.string] fun u =>
 cond (!((ByteArray.toList t)==(ByteArray.toList u)))
 (T.ret (vI 31))
 (T.af (m.add 2) [.int .i64,.int .i64,.int .i64,.int .i32,.int .i64] fun v w x y z =>
 T.af (o.add 2) [.int .i64,.int .i64,.int .i64,.int .i32,.int .i64] fun A B C D E =>
 fh (Sx.lW (BinOp.neq) 49 (Operand.tmp 109) (Operand.tmp 111) (.agg #[vI v,vI w,vI x,.int .i32 y,vI z]) (.agg #[vI A,vI B,vI C,.int .i32 D,vI E])) fun F =>
 cond F
 (T.ret (vI 31))
 (T.af (m.add 9) [.int .i64] fun G =>
 T.af (o.add 9) [.int .i64] fun H =>
 cond (G != H)
 (T.ret (vI 31))
 (T.af (m.add 7) (yL 64) fun I J K L =>
 T.af (o.add 7) (yL 64) fun M N O P =>
 aZ 82 [.agg #[.slice I J K,aF L],.agg #[.slice M N O,aF P]] fun Q =>
 cond (!Q)
 (T.ret (vI 31))
 (T.ret (vI 0)))))))
 (T.ret (vI 31)))
 (T.ret (vI 31))))))))
def uZ (a:Int) (b:Xaa) (c d e f g:Int) (h:Xac) (i j:Nat) (k l:Int):bZ Xaz [] Tryz.f54 [.agg #[vI a,.string b,vI c,vI d,vI e,.int .i32 f,vI g,.slice h i j,.int .u32 k,vI l],vI 1]=qS a b c d e f g h i j k l:=ax
def kr (a:Xac) (b c:Nat):T :=
 T.loop [cn,aQ,aQ] [.bool false,vI 0,vI 0] fun d e f =>
 bt f b
 (cond (decide (f<65))
 (aY f b a fun g =>
 T.af (g.add (aI f 4)) [.slice 55] fun h i j =>
 cond (decide ((i:Int)>600))
 ez
 (aY f b a fun k =>
 T.af ((k.add (aI f 4)).add 1) [.slice 55] fun l m n =>
 cond (decide ((m:Int)>300))
 ez
 (aY f b a fun o =>
 T.af ((o.add (aI f 4)).add 2) [.slice 116] fun p q r =>
 cond (decide ((q:Int)>100))
 ez
 (aY f b a fun s =>
 T.af (s.add (aI f 4)) [.slice 55] fun t u v =>
 aY f b a fun w =>
 T.af ((w.add (aI f 4)).add 1) [.slice 55] fun x y z =>
 aY f b a fun A =>
 T.af ((A.add (aI f 4)).add 2) [.slice 116] fun B C D =>
 T.again 0 [.bool d,vI (bq ((bq ((bq (e+(u:Int)))+(y:Int)))+(C:Int))),bh f]))))
 (T.ret (.bool (decide (e>900)))))
 (T.ret (.bool (decide (e>900))))
def pJ (a:Xac) (b c:Nat):bZ Xaz [] Tryz.f23 [.slice a b c]=kr a b c:=ax
end Go.Sx
