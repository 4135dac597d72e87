/- Trees of functions. No condition. -/
import Derived.Test.YtmdncdaladplkaaGreatDoorSxF
import Derived.Test.YtmdncdaladplkaaGreatDoorProg
import Derived.KernelRfl
set_option linter.all false
set_option maxRecDepth 100000
set_option maxHeartbeats 4000000
namespace Go.Sx
open Go.Proofs
def mI (a b c d e:Int):T :=
 T.new [vI a,vI b,vI c,.int .i32 d,vI e] 49 fun f =>
 T.af (f.add 1) [.int .i64] fun g =>
 cond (g==0)
 (T.af (f.add 2) [.int .i64] fun h =>
 T.ret (.bool (h==0)))
 bH
def rD (a b c d e:Int):bS Xaz [] Tryz.f137 [.agg #[vI a,vI b,vI c,.int .i32 d,vI e],vI 1]=mI a b c d e:=av
def mX (a b c d e:Int):T :=
 T.new [vI a,vI b,vI c,.int .i32 d,vI e] 49 fun f =>
 T.af (f.add 1) [.int .i64] fun g =>
 aT 155 [vI g,vI 8] fun h =>
 cond h
 (T.af (f.add 2) [.int .i64] fun i =>
 T.ret (.bool (i==0)))
 bH
def rq (a b c d e:Int):bS Xaz [] Tryz.f137 [.agg #[vI a,vI b,vI c,.int .i32 d,vI e],vI 2]=mX a b c d e:=av
def mu (a b c d e:Int):T :=
 T.new [vI a,vI b,vI c,.int .i32 d,vI e] 49 fun f =>
 T.af (f.add 1) [.int .i64] fun g =>
 aT 155 [vI g,vI 4] fun h =>
 cond h
 (T.af (f.add 2) [.int .i64] fun i =>
 T.ret (.bool (i==0)))
 bH
def rH (a b c d e:Int):bS Xaz [] Tryz.f137 [.agg #[vI a,vI b,vI c,.int .i32 d,vI e],vI 3]=mu a b c d e:=av
def lY (a b c d e:Int):T :=
 T.new [vI a,vI b,vI c,.int .i32 d,vI e] 49 fun f =>
 T.af (f.add 1) [.int .i64] fun g =>
 aT 155 [vI g,vI 8] fun h =>
 cond h
 (T.af (f.add 2) [.int .i64] fun i =>
 aT 155 [vI i,vI 8] fun j =>
 T.ret (.bool j))
 bH
def rj (a b c d e:Int):bS Xaz [] Tryz.f137 [.agg #[vI a,vI b,vI c,.int .i32 d,vI e],vI 4]=lY a b c d e:=av
def mM (a b c d e:Int):T :=
 T.new [vI a,vI b,vI c,.int .i32 d,vI e] 49 fun f =>
 T.af (f.add 1) [.int .i64] fun g =>
 aT 155 [vI g,vI 4] fun h =>
 cond h
 (T.af (f.add 2) [.int .i64] fun i =>
 aT 155 [vI i,vI 4] fun j =>
 T.ret (.bool j))
 bH
def rF (a b c d e:Int):bS Xaz [] Tryz.f137 [.agg #[vI a,vI b,vI c,.int .i32 d,vI e],vI 5]=mM a b c d e:=av
def ml (a b c d e:Int):T :=
 T.new [vI a,vI b,vI c,.int .i32 d,vI e] 49 fun f =>
 T.af (f.add 1) [.int .i64] fun g =>
 aT 155 [vI g,vI 8] fun h =>
 cond h
 (T.af (f.add 2) [.int .i64] fun i =>
 aT 155 [vI i,vI 4] fun j =>
 T.ret (.bool j))
 bH
def rm (a b c d e:Int):bS Xaz [] Tryz.f137 [.agg #[vI a,vI b,vI c,.int .i32 d,vI e],vI 6]=ml a b c d e:=av
def lW (a b c d e:Int):T :=
 T.new [vI a,vI b,vI c,.int .i32 d,vI e] 49 fun f =>
 T.af (f.add 1) [.int .i64] fun g =>
 aT 155 [vI g,vI 4] fun h =>
 cond h
 (T.af (f.add 2) [.int .i64] fun i =>
 aT 155 [vI i,vI 8] fun j =>
 cond j
 (T.af (f.add 3) [.int .i32] fun k =>
 cond (decide (k>=0))
 (T.af (f.add 3) [.int .i32] fun l =>
 T.ret (.bool (decide (l<8))))
 bH)
 bH)
 bH
def rE (a b c d e:Int):bS Xaz [] Tryz.f137 [.agg #[vI a,vI b,vI c,.int .i32 d,vI e],vI 7]=lW a b c d e:=av
def mh (a b c d e:Int):T :=
 T.new [vI a,vI b,vI c,.int .i32 d,vI e] 49 fun f =>
 T.af (f.add 1) [.int .i64] fun g =>
 aT 155 [vI g,vI 8] fun h =>
 cond h
 (T.af (f.add 2) [.int .i64] fun i =>
 T.ret (.bool (i==0)))
 bH
def rI (a b c d e:Int):bS Xaz [] Tryz.f137 [.agg #[vI a,vI b,vI c,.int .i32 d,vI e],vI 8]=mh a b c d e:=av
def mz (a b c d e:Int):T :=
 T.new [vI a,vI b,vI c,.int .i32 d,vI e] 49 fun f =>
 T.af (f.add 1) [.int .i64] fun g =>
 cond (g==0)
 (T.af (f.add 2) [.int .i64] fun h =>
 T.ret (.bool (h==0)))
 bH
def rl (a b c d e:Int):bS Xaz [] Tryz.f137 [.agg #[vI a,vI b,vI c,.int .i32 d,vI e],vI 9]=mz a b c d e:=av
def ld (a b c d e:Int):T :=
 T.new [vI a,vI b,vI c,.int .i32 d,vI e] 49 fun f =>
 T.af (f.add 1) [.int .i64] fun g =>
 aT 155 [vI g,vI 8] fun h =>
 cond h
 (T.af (f.add 2) [.int .i64] fun i =>
 T.ret (.bool (i==0)))
 bH
def qF (a b c d e:Int):bS Xaz [] Tryz.f137 [.agg #[vI a,vI b,vI c,.int .i32 d,vI e],vI 10]=ld a b c d e:=av
def ln (a b c d e:Int):T :=
 T.new [vI a,vI b,vI c,.int .i32 d,vI e] 49 fun f =>
 T.af (f.add 1) [.int .i64] fun g =>
 aT 155 [vI g,vI 8] fun h =>
 cond h
 (T.af (f.add 2) [.int .i64] fun i =>
 T.ret (.bool (i==0)))
 bH
def qf (a b c d e:Int):bS Xaz [] Tryz.f137 [.agg #[vI a,vI b,vI c,.int .i32 d,vI e],vI 11]=ln a b c d e:=av
def lj (a b c d e:Int):T :=
 T.new [vI a,vI b,vI c,.int .i32 d,vI e] 49 fun f =>
 T.af (f.add 1) [.int .i64] fun g =>
 cond (g==0)
 (T.af (f.add 2) [.int .i64] fun h =>
 T.ret (.bool (h==0)))
 bH
def pT (a b c d e:Int):bS Xaz [] Tryz.f137 [.agg #[vI a,vI b,vI c,.int .i32 d,vI e],vI 12]=lj a b c d e:=av
def lG (a b c d e:Int):T :=
 T.new [vI a,vI b,vI c,.int .i32 d,vI e] 49 fun f =>
 T.af (f.add 1) [.int .i64] fun g =>
 aT 155 [vI g,vI 8] fun h =>
 cond h
 (T.af (f.add 2) [.int .i64] fun i =>
 T.ret (.bool (i==0)))
 bH
def qm (a b c d e:Int):bS Xaz [] Tryz.f137 [.agg #[vI a,vI b,vI c,.int .i32 d,vI e],vI 13]=lG a b c d e:=av
def q8 (a b c d e:Int):T :=
 T.new [vI a,vI b,vI c,.int .i32 d,vI e] 49 fun f =>
 T.af (f.add 3) [.int .i32] fun g =>
 T.ret (.bool (g==0))
def uV (a b c d e:Int):bS Xaz [] Tryz.f138 [.agg #[vI a,vI b,vI c,.int .i32 d,vI e],vI 1]=q8 a b c d e:=av
def qX (a b c d e:Int):T :=
 T.new [vI a,vI b,vI c,.int .i32 d,vI e] 49 fun f =>
 T.af (f.add 3) [.int .i32] fun g =>
 T.ret (.bool (g==0))
def uM (a b c d e:Int):bS Xaz [] Tryz.f138 [.agg #[vI a,vI b,vI c,.int .i32 d,vI e],vI 2]=qX a b c d e:=av
def rb (a b c d e:Int):T :=
 T.new [vI a,vI b,vI c,.int .i32 d,vI e] 49 fun f =>
 T.af (f.add 3) [.int .i32] fun g =>
 T.ret (.bool (g==0))
def uI (a b c d e:Int):bS Xaz [] Tryz.f138 [.agg #[vI a,vI b,vI c,.int .i32 d,vI e],vI 3]=rb a b c d e:=av
def qZ (a b c d e:Int):T :=
 T.new [vI a,vI b,vI c,.int .i32 d,vI e] 49 fun f =>
 T.af (f.add 3) [.int .i32] fun g =>
 T.ret (.bool (g==0))
def uP (a b c d e:Int):bS Xaz [] Tryz.f138 [.agg #[vI a,vI b,vI c,.int .i32 d,vI e],vI 4]=qZ a b c d e:=av
def qV (a b c d e:Int):T :=
 T.new [vI a,vI b,vI c,.int .i32 d,vI e] 49 fun f =>
 T.af (f.add 3) [.int .i32] fun g =>
 T.ret (.bool (g==0))
def uE (a b c d e:Int):bS Xaz [] Tryz.f138 [.agg #[vI a,vI b,vI c,.int .i32 d,vI e],vI 5]=qV a b c d e:=av
def rc (a b c d e:Int):T :=
 T.new [vI a,vI b,vI c,.int .i32 d,vI e] 49 fun f =>
 T.af (f.add 3) [.int .i32] fun g =>
 T.ret (.bool (g==0))
def vq (a b c d e:Int):bS Xaz [] Tryz.f138 [.agg #[vI a,vI b,vI c,.int .i32 d,vI e],vI 6]=rc a b c d e:=av
def ri (a b c d e:Int):T :=
 T.new [vI a,vI b,vI c,.int .i32 d,vI e] 49 fun f =>
 T.ret (.bool true)
def vu (a b c d e:Int):bS Xaz [] Tryz.f138 [.agg #[vI a,vI b,vI c,.int .i32 d,vI e],vI 7]=ri a b c d e:=av
def rf (a b c d e:Int):T :=
 T.new [vI a,vI b,vI c,.int .i32 d,vI e] 49 fun f =>
 T.af (f.add 3) [.int .i32] fun g =>
 aT 156 [.int .i32 g,vI 1] fun h =>
 T.ret (.bool h)
def u7 (a b c d e:Int):bS Xaz [] Tryz.f138 [.agg #[vI a,vI b,vI c,.int .i32 d,vI e],vI 8]=rf a b c d e:=av
def qU (a b c d e:Int):T :=
 T.new [vI a,vI b,vI c,.int .i32 d,vI e] 49 fun f =>
 T.af (f.add 3) [.int .i32] fun g =>
 cond (decide (g>=0))
 (T.af (f.add 3) [.int .i32] fun h =>
 T.ret (.bool (decide (h<=255))))
 bH
def uJ (a b c d e:Int):bS Xaz [] Tryz.f138 [.agg #[vI a,vI b,vI c,.int .i32 d,vI e],vI 9]=qU a b c d e:=av
def pj (a b c d e:Int):T :=
 T.new [vI a,vI b,vI c,.int .i32 d,vI e] 49 fun f =>
 T.ret (.bool true)
def tX (a b c d e:Int):bS Xaz [] Tryz.f138 [.agg #[vI a,vI b,vI c,.int .i32 d,vI e],vI 10]=pj a b c d e:=av
def py (a b c d e:Int):T :=
 T.new [vI a,vI b,vI c,.int .i32 d,vI e] 49 fun f =>
 T.af (f.add 3) [.int .i32] fun g =>
 cond (decide (g>=0))
 (T.af (f.add 3) [.int .i32] fun h =>
 T.ret (.bool (decide (h<=4095))))
 bH
def tT (a b c d e:Int):bS Xaz [] Tryz.f138 [.agg #[vI a,vI b,vI c,.int .i32 d,vI e],vI 11]=py a b c d e:=av
def oV (a b c d e:Int):T :=
 T.new [vI a,vI b,vI c,.int .i32 d,vI e] 49 fun f =>
 T.af (f.add 3) [.int .i32] fun g =>
 T.af (f.add 4) [.int .i64] fun h =>
 aT 156 [.int .i32 g,vI h] fun i =>
 T.ret (.bool i)
def tP (a b c d e:Int):bS Xaz [] Tryz.f138 [.agg #[vI a,vI b,vI c,.int .i32 d,vI e],vI 12]=oV a b c d e:=av
def oD (a b c d e:Int):T :=
 T.new [vI a,vI b,vI c,.int .i32 d,vI e] 49 fun f =>
 T.af (f.add 3) [.int .i32] fun g =>
 T.af (f.add 4) [.int .i64] fun h =>
 aT 156 [.int .i32 g,vI h] fun i =>
 T.ret (.bool i)
def tQ (a b c d e:Int):bS Xaz [] Tryz.f138 [.agg #[vI a,vI b,vI c,.int .i32 d,vI e],vI 13]=oD a b c d e:=av
def qY (a:Int) (b:Xaa) (c d e f g:Int) (h:Xac) (i j:Nat) (k l:Int):T :=
 T.new [vI a,.string b,vI c,vI d,vI e,.int .i32 f,vI g,.slice h i j,aC k,vI l] 55 fun m =>
 T.af m [.int .i64] fun n =>
 T.new [vI 0,bZ,vI 0,vI 0,vI 0,.int .i32 0,vI 0,aZ,aC 0,vI 0] 55 fun o =>
 T.ax o [vI n,bZ,vI 0,vI 0,vI 0,.int .i32 0,vI 0,aZ,aC 0,vI 0] <|
 T.af m [.int .i64] fun p =>
 cond (p==1)
 (T.af (m.add 1) [.string] fun q =>
 T.ax (o.add 1) [.string q] <|
 T.af (m.add 1) [.string] fun r =>
 aT 55 [.string r] fun s =>
 cond (!s)
 (T.ret (vI 31))
 (T.af (m.add 1) [.string] fun t =>
 T.af (o.add 1) [.string] fun u =>
 cond (!((ByteArray.toList t)==(ByteArray.toList u)))
 (T.ret (vI 31))
 (T.af (m.add 2) [.int .i64,.int .i64,.int .i64,.int .i32,.int .i64] fun v w x y z =>
 T.af (o.add 2) [.int .i64,.int .i64,.int .i64,.int .i32,.int .i64] fun A B C D E =>
 eZ (Sx.lX (BinOp.neq) 49 (Operand.tmp 109) (Operand.tmp 111) (.agg #[vI v,vI w,vI x,.int .i32 y,vI z]) (.agg #[vI A,vI B,vI C,.int .i32 D,vI E])) fun F =>
 cond F
 (T.ret (vI 31))
 (T.af (m.add 9) [.int .i64] fun G =>
 T.af (o.add 9) [.int .i64] fun H =>
 cond (G != H)
 (T.ret (vI 31))
 (T.af (m.add 7) (yL 64) fun I J K L =>
 T.af (o.add 7) (yL 64) fun M N O P =>
 aT 82 [.agg #[.slice I J K,aC L],.agg #[.slice M N O,aC P]] fun Q =>
 cond (!Q)
 (T.ret (vI 31))
 (T.ret (vI 0)))))))
 (cond (p==2)
 (T.af (m.add 2) [.int .i64,.int .i64,.int .i64,.int .i32,.int .i64] fun q r s t u =>
 T.af (m.add 7) (yL 64) fun v w x y =>
 T.ax (o.add 2) [vI q,vI r,vI s,.int .i32 t,vI u] <|
 T.bh [((m.add 7),[.slice v w x,aC y])] <|
 T.ax (o.add 7) [.slice v w x,aC y] <|
 T.af m (yI 64) fun z A B C D E F G H I J K =>
 aT 80 [.agg #[vI z,.string A,vI B,vI C,vI D,.int .i32 E,vI F,.slice G H I,aC J,vI K]] fun L =>
 cond (!L)
 (T.ret (vI 31))
 (T.af (m.add 1) [.string] fun M =>
 T.af (o.add 1) [.string] fun N =>
 cond (!((ByteArray.toList M)==(ByteArray.toList N)))
 (T.ret (vI 31))
 (T.af (m.add 2) [.int .i64,.int .i64,.int .i64,.int .i32,.int .i64] fun O P Q R S =>
 T.af (o.add 2) [.int .i64,.int .i64,.int .i64,.int .i32,.int .i64] fun U V W X Y =>
 eZ (Sx.lX (BinOp.neq) 49 (Operand.tmp 109) (Operand.tmp 111) (.agg #[vI O,vI P,vI Q,.int .i32 R,vI S]) (.agg #[vI U,vI V,vI W,.int .i32 X,vI Y])) fun Z =>
 cond Z
 (T.ret (vI 31))
 (T.af (m.add 9) [.int .i64] fun a0 =>
 T.af (o.add 9) [.int .i64] fun a1 =>
 cond (a0 != a1)
 (T.ret (vI 31))
 (T.af (m.add 7) (yL 64) fun a2 a3 a4 a5 =>
 T.af (o.add 7) (yL 64) fun a6 a7 a8 a9 =>
 aT 82 [.agg #[.slice a2 a3 a4,aC a5],.agg #[.slice a6 a7 a8,aC a9]] fun b0 =>
 cond (!b0)
 (T.ret (vI 31))
 (T.ret (vI 0)))))))
 (cond (p==3)
 (T.af (m.add 9) [.int .i64] fun q =>
 T.ax (o.add 9) [vI q] <|
 T.af (m.add 9) [.int .i64] fun r =>
 aT 81 [vI r] fun s =>
 cond (!s)
 (T.ret (vI 31))
 (T.af (m.add 1) [.string] fun t =>
 T.af (o.add 1) [.string] fun u =>
 cond (!((ByteArray.toList t)==(ByteArray.toList u)))
 (T.ret (vI 31))
 (T.af (m.add 2) [.int .i64,.int .i64,.int .i64,.int .i32,.int .i64] fun v w x y z =>
 T.af (o.add 2) [.int .i64,.int .i64,.int .i64,.int .i32,.int .i64] fun A B C D E =>
 eZ (Sx.lX (BinOp.neq) 49 (Operand.tmp 109) (Operand.tmp 111) (.agg #[vI v,vI w,vI x,.int .i32 y,vI z]) (.agg #[vI A,vI B,vI C,.int .i32 D,vI E])) fun F =>
 cond F
 (T.ret (vI 31))
 (T.af (m.add 9) [.int .i64] fun G =>
 T.af (o.add 9) [.int .i64] fun H =>
 cond (G != H)
 (T.ret (vI 31))
 (T.af (m.add 7) (yL 64) fun I J K L =>
 T.af (o.add 7) (yL 64) fun M N O P =>
 aT 82 [.agg #[.slice I J K,aC L],.agg #[.slice M N O,aC P]] fun Q =>
 cond (!Q)
 (T.ret (vI 31))
 (T.ret (vI 0)))))))
 (cond (p==4)
 (T.af (m.add 1) [.string] fun q =>
 T.af (o.add 1) [.string] fun r =>
 cond (!((ByteArray.toList q)==(ByteArray.toList r)))
 (T.ret (vI 31))
 (T.af (m.add 2) [.int .i64,.int .i64,.int .i64,.int .i32,.int .i64] fun s t u v w =>
 T.af (o.add 2) [.int .i64,.int .i64,.int .i64,.int .i32,.int .i64] fun x y z A B =>
 eZ (Sx.lX (BinOp.neq) 49 (Operand.tmp 109) (Operand.tmp 111) (.agg #[vI s,vI t,vI u,.int .i32 v,vI w]) (.agg #[vI x,vI y,vI z,.int .i32 A,vI B])) fun C =>
 cond C
 (T.ret (vI 31))
 (T.af (m.add 9) [.int .i64] fun D =>
 T.af (o.add 9) [.int .i64] fun E =>
 cond (D != E)
 (T.ret (vI 31))
 (T.af (m.add 7) (yL 64) fun F G H I =>
 T.af (o.add 7) (yL 64) fun J K L M =>
 aT 82 [.agg #[.slice F G H,aC I],.agg #[.slice J K L,aC M]] fun N =>
 cond (!N)
 (T.ret (vI 31))
 (T.ret (vI 0))))))
 (cond (p==5)
 (T.af (m.add 9) [.int .i64] fun q =>
 T.ax (o.add 9) [vI q] <|
 T.ret (vI 31))
 (cond (p==6)
 (T.af (m.add 7) (yL 64) fun q r s t =>
 T.ax (o.add 7) [.slice q r s,aC t] <|
 T.ret (vI 31))
 (cond (p==7)
 (T.af (m.add 9) [.int .i64] fun q =>
 T.ax (o.add 9) [vI q] <|
 T.ret (vI 31))
 (T.ret (vI 31))))))))
def uT (a:Int) (b:Xaa) (c d e f g:Int) (h:Xac) (i j:Nat) (k l:Int):bS Xaz [] Tryz.f54 [.agg #[vI a,.string b,vI c,vI d,vI e,.int .i32 f,vI g,.slice h i j,.int .u32 k,vI l],vI 0]=qY a b c d e f g h i j k l:=av
def qS (a:Int) (b:Xaa) (c d e f g:Int) (h:Xac) (i j:Nat) (k l:Int):T :=
 T.new [vI a,.string b,vI c,vI d,vI e,.int .i32 f,vI g,.slice h i j,aC k,vI l] 55 fun m =>
 T.af m [.int .i64] fun n =>
 T.new [vI 0,bZ,vI 0,vI 0,vI 0,.int .i32 0,vI 0,aZ,aC 0,vI 0] 55 fun o =>
 T.ax o [vI n,bZ,vI 0,vI 0,vI 0,.int .i32 0,vI 0,aZ,aC 0,vI 0] <|
 T.af m [.int .i64] fun p =>
 cond (p==1)
 (T.af (m.add 1) [.string] fun q =>
 T.ax (o.add 1) [.string q] <|
 T.af (m.add 1) [.string] fun r =>
 aT 55 [.string r] fun s =>
 cond (!s)
 (T.ret (vI 31))
 (T.af (m.add 1) [.string] fun t =>
 T.af (o.add 1) [.string] fun u =>
 cond (!((ByteArray.toList t)==(ByteArray.toList u)))
 (T.ret (vI 31))
 (T.af (m.add 2) [.int .i64,.int .i64,.int .i64,.int .i32,.int .i64] fun v w x y z =>
 T.af (o.add 2) [.int .i64,.int .i64,.int .i64,.int .i32,.int .i64] fun A B C D E =>
 eZ (Sx.lX (BinOp.neq) 49 (Operand.tmp 109) (Operand.tmp 111) (.agg #[vI v,vI w,vI x,.int .i32 y,vI z]) (.agg #[vI A,vI B,vI C,.int .i32 D,vI E])) fun F =>
 cond F
 (T.ret (vI 31))
 (T.af (m.add 9) [.int .i64] fun G =>
 T.af (o.add 9) [.int .i64] fun H =>
 cond (G != H)
 (T.ret (vI 31))
 (T.af (m.add 7) (yL 64) fun I J K L =>
 T.af (o.add 7) (yL 64) fun M N O P =>
 aT 82 [.agg #[.slice I J K,aC L],.agg #[.slice M N O,aC P]] fun Q =>
 cond (!Q)
 (T.ret (vI 31))
 (T.ret (vI 0)))))))
 (cond (p==2)
 (T.af (m.add 2) [.int .i64,.int .i64,.int .i64,.int .i32,.int .i64] fun q r s t u =>
 T.af (m.add 7) (yL 64) fun v w x y =>
 T.ax (o.add 2) [vI q,vI r,vI s,.int .i32 t,vI u] <|
 T.bh [((m.add 7),[.slice v w x,aC y])] <|
 T.ax (o.add 7) [.slice v w x,aC y] <|
 T.ret (vI 31))
 (cond (p==3)
 (T.af (m.add 9) [.int .i64] fun q =>
 T.ax (o.add 9) [vI q] <|
 T.af (m.add 9) [.int .i64] fun r =>
 aT 81 [vI r] fun s =>
 cond (!s)
 (T.ret (vI 31))
 (T.af (m.add 1) [.string] fun t =>
 T.af (o.add 1) [.string] fun u =>
 cond (!((ByteArray.toList t)==(ByteArray.toList u)))
 (T.ret (vI 31))
 (T.af (m.add 2) [.int .i64,.int .i64,.int .i64,.int .i32,.int .i64] fun v w x y z =>
 T.af (o.add 2) [.int .i64,.int .i64,.int .i64,.int .i32,.int .i64] fun A B C D E =>
 eZ (Sx.lX (BinOp.neq) 49 (Operand.tmp 109) (Operand.tmp 111) (.agg #[vI v,vI w,vI x,.int .i32 y,vI z]) (.agg #[vI A,vI B,vI C,.int .i32 D,vI E])) fun F =>
 cond F
 (T.ret (vI 31))
 (T.af (m.add 9) [.int .i64] fun G =>
 T.af (o.add 9) [.int .i64] fun H =>
 cond (G != H)
 (T.ret (vI 31))
 (T.af (m.add 7) (yL 64) fun I J K L =>
 T.af (o.add 7) (yL 64) fun M N O P =>
 aT 82 [.agg #[.slice I J K,aC L],.agg #[.slice M N O,aC P]] fun Q =>
 cond (!Q)
 (T.ret (vI 31))
 (T.ret (vI 0)))))))
 (cond (p==4)
 (T.ret (vI 31))
 (cond (p==5)
 (T.af (m.add 9) [.int .i64] fun q =>
 T.ax (o.add 9) [vI q] <|
 T.af (m.add 9) [.int .i64] fun r =>
 cond (decide (r>=(-128)))
 (T.af (m.add 9) [.int .i64] fun s =>
 cond (!(decide (s<=255)))
 (T.ret (vI 31))
 (T.af (m.add 1) [.string] fun t =>
 T.af (o.add 1) [.string] fun u =>
 cond (!((ByteArray.toList t)==(ByteArray.toList u)))
 (T.ret (vI 31))
 (T.af (m.add 2) [.int .i64,.int .i64,.int .i64,.int .i32,.int .i64] fun v w x y z =>
 T.af (o.add 2) [.int .i64,.int .i64,.int .i64,.int .i32,.int .i64] fun A B C D E =>
 eZ (Sx.lX (BinOp.neq) 49 (Operand.tmp 109) (Operand.tmp 111) (.agg #[vI v,vI w,vI x,.int .i32 y,vI z]) (.agg #[vI A,vI B,vI C,.int .i32 D,vI E])) fun F =>
 cond F
 (T.ret (vI 31))
 (T.af (m.add 9) [.int .i64] fun G =>
 T.af (o.add 9) [.int .i64] fun H =>
 cond (G != H)
 (T.ret (vI 31))
 (T.af (m.add 7) (yL 64) fun I J K L =>
 T.af (o.add 7) (yL 64) fun M N O P =>
 aT 82 [.agg #[.slice I J K,aC L],.agg #[.slice M N O,aC P]] fun Q =>
 cond (!Q)
 (T.ret (vI 31))
 (T.ret (vI 0)))))))
 (T.ret (vI 31)))
 (cond (p==6)
 (T.af (m.add 7) (yL 64) fun q r s t =>
 T.ax (o.add 7) [.slice q r s,aC t] <|
 T.af (m.add 7) (yL 64) fun u v w x =>
 aT 56 [.agg #[.slice u v w,aC x]] fun y =>
 cond (!y)
 (T.ret (vI 31))
 (T.af (m.add 1) [.string] fun z =>
 T.af (o.add 1) [.string] fun A =>
 cond (!((ByteArray.toList z)==(ByteArray.toList A)))
 (T.ret (vI 31))
 (T.af (m.add 2) [.int .i64,.int .i64,.int .i64,.int .i32,.int .i64] fun B C D E F =>
 T.af (o.add 2) [.int .i64,.int .i64,.int .i64,.int .i32,.int .i64] fun G H I J K =>
 eZ (Sx.lX (BinOp.neq) 49 (Operand.tmp 109) (Operand.tmp 111) (.agg #[vI B,vI C,vI D,.int .i32 E,vI F]) (.agg #[vI G,vI H,vI I,.int .i32 J,vI K])) fun L =>
 cond L
 (T.ret (vI 31))
 (T.af (m.add 9) [.int .i64] fun M =>
 T.af (o.add 9) [.int .i64] fun N =>
 cond (M != N)
 (T.ret (vI 31))
 (T.af (m.add 7) (yL 64) fun O P Q R =>
 T.af (o.add 7) (yL 64) fun S U V W =>
 aT 82 [.agg #[.slice O P Q,aC R],.agg #[.slice S U V,aC W]] fun X =>
 cond (!X)
 (T.ret (vI 31))
 (T.ret (vI 0)))))))
 (cond (p==7)
 (T.af (m.add 9) [.int .i64] fun q =>
 T.ax (o.add 9) [vI q] <|
 T.af (m.add 9) [.int .i64] fun r =>
 cond (decide (r>=0))
 (T.af (m.add 9) [.int .i64] fun s =>
 cond (!(decide (s<=1048576)))
 (T.ret (vI 31))
 (T.af (m.add 1) [.string] fun t =>
 T.af (o.add 1) [.string] fun u =>
 cond (!((ByteArray.toList t)==(ByteArray.toList u)))
 (T.ret (vI 31))
 (T.af (m.add 2) [.int .i64,.int .i64,.int .i64,.int .i32,.int .i64] fun v w x y z =>
 T.af (o.add 2) [.int .i64,.int .i64,.int .i64,.int .i32,.int .i64] fun A B C D E =>
 eZ (Sx.lX (BinOp.neq) 49 (Operand.tmp 109) (Operand.tmp 111) (.agg #[vI v,vI w,vI x,.int .i32 y,vI z]) (.agg #[vI A,vI B,vI C,.int .i32 D,vI E])) fun F =>
 cond F
 (T.ret (vI 31))
 (T.af (m.add 9) [.int .i64] fun G =>
 T.af (o.add 9) [.int .i64] fun H =>
 cond (G != H)
 (T.ret (vI 31))
 (T.af (m.add 7) (yL 64) fun I J K L =>
 T.af (o.add 7) (yL 64) fun M N O P =>
 aT 82 [.agg #[.slice I J K,aC L],.agg #[.slice M N O,aC P]] fun Q =>
 cond (!Q)
 (T.ret (vI 31))
 (T.ret (vI 0)))))))
 (T.ret (vI 31)))
 (T.ret (vI 31))))))))
def uX (a:Int) (b:Xaa) (c d e f g:Int) (h:Xac) (i j:Nat) (k l:Int):bS Xaz [] Tryz.f54 [.agg #[vI a,.string b,vI c,vI d,vI e,.int .i32 f,vI g,.slice h i j,.int .u32 k,vI l],vI 1]=qS a b c d e f g h i j k l:=av
def kr (a:Xac) (b c:Nat):T :=
 T.loop [ct,aM,aM] [.bool false,vI 0,vI 0] fun d e f =>
 bq f b
 (cond (decide (f<65))
 (aR f b a fun g =>
 T.af (g.add (aH f 4)) [.slice 55] fun h i j =>
 cond (decide ((i:Int)>600))
 dX
 (aR f b a fun k =>
 T.af ((k.add (aH f 4)).add 1) [.slice 55] fun l m n =>
 cond (decide ((m:Int)>300))
 dX
 (aR f b a fun o =>
 T.af ((o.add (aH f 4)).add 2) [.slice 116] fun p q r =>
 cond (decide ((q:Int)>100))
 dX
 (aR f b a fun s =>
 T.af (s.add (aH f 4)) [.slice 55] fun t u v =>
 aR f b a fun w =>
 T.af ((w.add (aH f 4)).add 1) [.slice 55] fun x y z =>
 aR f b a fun A =>
 T.af ((A.add (aH f 4)).add 2) [.slice 116] fun B C D =>
 T.again 0 [.bool d,vI (bn ((bn ((bn (e+(u:Int)))+(y:Int)))+(C:Int))),aY f]))))
 (T.ret (.bool (decide (e>900)))))
 (T.ret (.bool (decide (e>900))))
def pL (a:Xac) (b c:Nat):bS Xaz [] Tryz.f23 [.slice a b c]=kr a b c:=av
end Go.Sx
