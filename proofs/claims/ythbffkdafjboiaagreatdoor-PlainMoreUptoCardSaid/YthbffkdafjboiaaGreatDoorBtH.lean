/- Trees of functions. No condition. -/
import Derived.Test.YthbffkdafjboiaaGreatDoorSxF
import Derived.Test.YthbffkdafjboiaaGreatDoorProg
import Derived.KernelRfl
set_option linter.all false
set_option maxRecDepth 100000
set_option maxHeartbeats 4000000
namespace Go.Sx
open Go.Proofs
def gJ (a:Xac) (b:Option Nat) (c:Int) (d:Xaa) (e:Int) (f:Int) (g:Int) (h:Int) (i:Int) (j:Xac) (k l:Nat) (m:Int) (n:Int) (o:Int) (p:Int):T :=
 T.new [.pointer a,.map b] 60 fun q =>
 T.new [vI c,.string d,vI e,vI f,vI g,.int .i32 h,vI i,.slice j k l,aG m,vI n] 71 fun r =>
 T.ah (r.add 2) [.int .i64] fun s =>
 bK 44 [vI s] true [(true,[.string,.int .u8,.int .i64]),cn] fun t u v w =>
 T.new [bY,.int .u8 0,vI 0] 120 fun x =>
 T.aC x [.string t,.int .u8 u,vI v] <|
 T.ah r [.int .i64] fun y =>
 cond (p==(1:Int))
 (cond (y==(2:Int))
 (T.ah x [.string] fun z =>
 T.ret (.bool ((ByteArray.toList z)==[(UA 106#8),(UA 114#8)])))
 bI)
 (cond (p==(2:Int))
 (T.ah (r.add 7) [.slice 117] fun z A B =>
 cond ((A:Int)==(1:Int))
 (T.ah (r.add 7) [.slice 117] fun C D E =>
 T.need (iP 0 D) <|
 T.bG C fun F =>
 T.ah (F.add 1) [.int .u32] fun G =>
 cond (G==(1:Int))
 (T.ah ((r.add 7).add 1) [.int .u32] fun H =>
 cond (H==(0:Int))
 (T.ah (q.add 1) [.map 9 4] fun I =>
 T.ah (r.add 7) [.slice 117] fun J K L =>
 T.need (iP 0 K) <|
 T.bG J fun M =>
 T.ah M [.string] fun N =>
 dN (Instr.lookup 58 (.map I) (.string N) false) fun O =>
 T.bi [((r.add 7),[.slice J K L]),(((r.add 7).add 1),[aG H]),((F.add 1),[aG G]),((r.add 7),[.slice C D E]),((r.add 7),[.slice z A B])] <|
 cond (y==(2:Int))
 (T.ah (r.add 2) [.int .i64] fun P =>
 aY 45 [vI P] fun Q =>
 cond Q
 (T.ret (.bool (!O)))
 bI)
 bI)
 (cond (y==(2:Int))
 (T.ah (r.add 2) [.int .i64] fun I =>
 aY 45 [vI I] fun J =>
 cond J
 dP
 bI)
 bI))
 (cond (y==(2:Int))
 (T.ah (r.add 2) [.int .i64] fun H =>
 aY 45 [vI H] fun I =>
 cond I
 dP
 bI)
 bI))
 (cond (y==(2:Int))
 (T.ah (r.add 2) [.int .i64] fun C =>
 aY 45 [vI C] fun D =>
 cond D
 dP
 bI)
 bI))
 (cond (p==(3:Int))
 (T.ah r [.int .i64] fun z =>
 cond (z != (6:Int))
 (cond (y==(2:Int))
 (T.ah (x.add 2) [.int .i64] fun A =>
 cond (A==(10:Int))
 (T.ah (r.add 7) [.slice 117] fun B C D =>
 aY 46 [.slice B C D,.func (Fn.func 47) #[] #[.pointer (some q)]] fun E =>
 T.ret (.bool E))
 (T.ah (x.add 2) [.int .i64] fun B =>
 cond (!(B==(11:Int)))
 bI
 (T.ah (r.add 7) [.slice 117] fun C D E =>
 aY 46 [.slice C D E,.func (Fn.func 47) #[] #[.pointer (some q)]] fun F =>
 T.ret (.bool F))))
 bI)
 (T.ah (r.add 7) [.slice 117] fun A B C =>
 aY 46 [.slice A B C,.func (Fn.func 47) #[] #[.pointer (some q)]] fun D =>
 T.ret (.bool D)))
 (cond (p==(4:Int))
 (T.ah r [.int .i64] fun z =>
 cond (z==(3:Int))
 (T.ret (.bool (o==(0:Int))))
 bI)
 bI)))
def kY (a:Xac) (b:Option Nat) (c:Int) (d:Xaa) (e:Int) (f:Int) (g:Int) (h:Int) (i:Int) (j:Xac) (k l:Nat) (m:Int) (n:Int) (o:Int) (p:Int):bT Tryz.prog [] Tryz.f24 [.agg #[.pointer a,.map b],.agg #[vI c,.string d,vI e,vI f,vI g,.int .i32 h,vI i,.slice j k l,.int .u32 m,vI n],vI o,vI p]=gJ a b c d e f g h i j k l m n o p:=ax
def da (a:Xac) (b:Nat) (c:Nat) (d:Xax):T :=
 cH 70 [.slice a b c,.func (Fn.func 47) #[] #[.pointer (some d)]] fun e =>
 T.ret (.bool (decide (e>=(0:Int))))
def ep (a:Xac) (b:Nat) (c:Nat) (d:Xax):bT Tryz.prog [] Tryz.f46 [.slice a b c,.func (Fn.func 47) #[] #[.pointer (some d)]]=da a b c d:=ax
def dl (a:Xac) (b:Nat) (c:Nat) (d:Xax):T :=
 T.loop [aR,aR] [vI 0,vI 0] fun e f =>
 bH f b
 (bf f b a fun g =>
 T.ah (g.add (aP f 2)) [.string,.int .u32] fun h i =>
 T.tj Tryz.prog (.func (Fn.func 47) #[] #[.pointer (some d)]) [.agg #[.string h,aG i]] false [cn] fun j =>
 cond j
 (T.ret (vI f))
 (T.again 0 [vI e,bk f]))
 (T.ret (vI (-1:Int)))
def eO (a:Xac) (b:Nat) (c:Nat) (d:Xax):bT Tryz.prog [] Tryz.f70 [.slice a b c,.func (Fn.func 47) #[] #[.pointer (some d)]]=dl a b c d:=ax
def fC (a:Xaa) (b:Int) (c:Xax):T :=
 T.new [.string a,aG b] 117 fun d =>
 T.ah (c.add 1) [.map 9 4] fun e =>
 T.ah d [.string] fun f =>
 dN (Instr.lookup 58 (.map e) (.string f) false) fun g =>
 T.ret (.bool g)
def iZ (a:Xaa) (b:Int) (c:Xax):bT Tryz.prog [] Tryz.f47 [.agg #[.string a,.int .u32 b],.pointer (some c)]=fC a b c:=ax
def Xi (o:Xac) (w:Nat) (p:Xac) (a:Xax):T :=
 cond (/-?Option.isSome.match_1-/ match p with
| some val=>false
| none=>true)
 bI
 (T.ah a [.int .i64,.int .i64,.string] fun X Y Z =>
 dN (Sx.jv (BinOp.neq) 54 (Operand.tmp 53) (Operand.tmp 54) (.agg #[vI X,vI Y,.string Z]) (.agg #[vI 0,vI 0,bY])) fun b53 =>
 cond b53
 bI
 (bK 8 [.pointer o] true [(true,[.int .i64,.int .i64,.int .i64,.int .i64]),cn] fun n54 n55 n56 n57 b58 =>
 T.new [vI 0,vI 0,vI 0,vI 0] 25 fun U =>
 T.aC U [vI n54,vI n55,vI n56,vI n57] <|
 bK 8 [.pointer p] true [(true,[.int .i64,.int .i64,.int .i64,.int .i64]),cn] fun n60 n61 n62 n63 V =>
 T.new [vI 0,vI 0,vI 0,vI 0] 25 fun j =>
 T.aC j [vI n60,vI n61,vI n62,vI n63] <|
 cond b58
 (cond (!V)
 (T.ah j [.int .i64,.int .i64,.int .i64,.int .i64] fun u G J O =>
 dN (Sx.jv (BinOp.eql) 25 (Operand.tmp 71) (Operand.tmp 74) (.agg #[vI u,vI G,vI J,vI O]) (.agg #[vI (w:Int),vI 0,vI 0,vI 1])) fun b70 =>
 cond b70
 (aY 11 [] fun b71 =>
 T.ret (.bool b71))
 bI)
 bI)
 (cond (!V)
 (T.ah U [.int .i64,.int .i64,.int .i64,.int .i64] fun u G J O =>
 T.ah j [.int .i64,.int .i64,.int .i64,.int .i64] fun n70 n71 n72 n73 =>
 dN (Sx.jv (BinOp.eql) 25 (Operand.tmp 83) (Operand.tmp 84) (.agg #[vI u,vI G,vI J,vI O]) (.agg #[vI n70,vI n71,vI n72,vI n73])) fun b74 =>
 cond b74
 (aY 11 [] fun b75 =>
 T.ret (.bool b75))
 bI)
 bI)))
section
variable (o:Xac) (x:Xac) (w v:Nat) (b:Xax) (y:List Xab)
def W7 (k:Xac->Nat->Nat->T):T:=T.eh Tryz.prog (Instr.buildSlice 30 0 #[]) false [(false,[.slice 0])] fun p l c=>T.bi [(b,y)] (k p l c)
def U' (p:Xac) (l c:Nat) (k:Xac->Nat->Nat->T):T:=T.eh Tryz.prog (Builtin.append_ #[30,30] 30 #[.slice p l c,.slice x w v]) false [(false,[.slice 0])] fun p l c=>T.bi [(b,y)] (k p l c)
def RR (k:Xac->Nat->Nat->T):T:=bU (Instr.buildSlice 30 1 #[(0,.agg y.toArray)]) false [dh] k
def XH (p:Xac) (l c:Nat) (q:Xac) (m d:Nat) (k:Xac->Nat->Nat->T):T:=T.eh Tryz.prog (Builtin.append_ #[30,30] 30 #[.slice p l c,.slice q m d]) false [(false,[.slice 0])] fun p l c=>T.bi [(b,y)] (k p l c)
def XP (p:Xac) (l c:Nat) (k:Xac->Int->Int->Xaa->T):T:=T.call Tryz.prog 18 [.slice p l c] true [(false,[.pointer 92]),(true,[.int .i64,.int .i64,.string])] fun p i j s=>T.bi [(b,y)] (k p i j s)
def Rl (k:Xax->T):T:=T.new [vI 0,vI 0,.string ⟨#[]⟩] 54 fun a=>T.bi [(b,y)] (k a)
def TM (a:Xax) (p:Xac) (i j:Int) (s:Xaa):T:=T.aC a [vI i,vI j,.string s] (Xi o w p a)
def Xo (p:Xac) (i j:Int) (s:Xaa):T:=Rl b y fun a=>TM o w a p i j s
def T4 (a:Xax) (p:Xac) (l c:Nat):T:=XP b y p l c (TM o w a)
def Vn (p:Xac) (l c:Nat):T:=T.all [XP b y p l c (Xo o w b y),Rl b y fun a=>T4 o w b y a p l c]
def Rq (a:Xax) (p:Xac) (l c:Nat) (q:Xac) (m d:Nat):T:=XH b y p l c q m d (T4 o w b y a)
def UM (p:Xac) (l c:Nat) (q:Xac) (m d:Nat):T:=T.all [XH b y p l c q m d (Vn o w b y),Rl b y fun a=>Rq o w b y a p l c q m d]
def UC (a:Xax) (p:Xac) (l c:Nat):T:=RR y (Rq o w b y a p l c)
def WY (p:Xac) (l c:Nat):T:=T.all [RR y (UM o w b y p l c),Rl b y fun a=>UC o w b y a p l c]
def PL (a:Xax) (p:Xac) (l c:Nat) (q:Xac) (m d:Nat):T:=U' x w v b y p l c fun p l c=>Rq o w b y a p l c q m d
def TL (p:Xac) (l c:Nat) (q:Xac) (m d:Nat):T:=T.all [U' x w v b y p l c fun p l c=>UM o w b y p l c q m d,Rl b y fun a=>PL o x w v b y a p l c q m d]
def Tq (a:Xax) (p:Xac) (l c:Nat):T:=T.all [U' x w v b y p l c (UC o w b y a),RR y (PL o x w v b y a p l c)]
def VT (p:Xac) (l c:Nat):T:=T.all [U' x w v b y p l c (WY o w b y),RR y (TL o x w v b y p l c),Rl b y fun a=>Tq o x w v b y a p l c]
def S8 (a:Xax) (q:Xac) (m d:Nat):T:=W7 b y fun p l c=>PL o x w v b y a p l c q m d
def Wd (q:Xac) (m d:Nat):T:=T.all [W7 b y fun p l c=>TL o x w v b y p l c q m d,Rl b y fun a=>S8 o x w v b y a q m d]
def Wm (a:Xax):T:=T.all [W7 b y (Tq o x w v b y a),RR y (S8 o x w v b y a)]
def VV:T:=T.all [W7 b y (VT o x w v b y),RR y (Wd o x w v b y),Rl b y (Wm o x w v b y)]
end
def gj (a:Xac) (b c:Nat):T :=
 bK 12 [.slice a b c] true [(false,[.pointer 92]),(false,[.pointer 81]),cn,cn] fun d e f g =>
 cond (!f)
 (cond f
 (aY 11 [] fun h =>
 T.ret (.bool h))
 (cond g
 (aY 11 [] fun h =>
 T.ret (.bool h))
 bI))
 (cond (decide ((b:Int)>=(64:Int)))
 (cond f
 (aY 11 [] fun h =>
 T.ret (.bool h))
 (cond g
 (aY 11 [] fun h =>
 T.ret (.bool h))
 bI))
 (bK 17 [.string ⟨#[106,114,32,114,48]⟩] true [(true,(yU 71 100)),(true,[.int .i64,.int .i64])] fun h i j k l m n o p q r s t u =>
 T.new [bj,bj,bj,bj] 47 fun v =>
 T.new [vI 0,vI 0] 49 fun w =>
 T.aC v [.slice h i j,.slice k l m,.slice n o p,.slice q r s] <|
 T.aC w [vI t,vI u] <|
 T.ah v (yU 71 100) fun x y z A B C D E F G H I =>
 VV d a b c v [.slice x y z,.slice A B C,.slice D E F,.slice G H I]))
def kp (a:Xac) (b c:Nat):bT Tryz.prog [] Tryz.f6 [.slice a b c]=gj a b c:=ax
def sU (a:Xac):T :=
 T.new [vI 0,vI 0,vI 0,vI 0] 25 fun b =>
 br (Instr.buildSlice 31 3 #[(0,vI 1),(1,vI 2),(2,vI 3)]) fun c d e =>
 bK 19 [.pointer a,.slice c d e] true [(true,[.int .i64,.int .i64,.int .i64,.int .i64]),cn] fun f g h i j =>
 T.aC b [vI f,vI g,vI h,vI i] <|
 T.ah b [.int .i64,.int .i64,.int .i64,.int .i64] fun k l m n =>
 bn #[.agg #[vI k,vI l,vI m,vI n],.bool j]
def wV (a:Xac):bT Tryz.prog [] Tryz.f8 [.pointer a]=sU a:=ax
def uD (a:Xac) (b:Xac) (c d:Nat):T :=
 T.new [vI 0,vI 0,vI 0,vI 0] 25 fun e =>
 bK 10 [.pointer a,.slice b c d] true [(true,[.int .i64,.int .i64,.int .i64,.int .i64]),cn] fun f g h i j =>
 T.new [vI 0,vI 0,vI 0,vI 0] 25 fun k =>
 T.aC k [vI f,vI g,vI h,vI i] <|
 T.ah k [.int .i64,.int .i64,.int .i64,.int .i64] fun l m n o =>
 cond (!j)
 (T.aC e [vI l,vI m,vI n,vI o] <|
 T.ah e [.int .i64,.int .i64,.int .i64,.int .i64] fun p q r s =>
 bn #[.agg #[vI p,vI q,vI r,vI s],.bool (!(/-?Option.isSome.match_1-/ match a with
 | some val=>false
 | none=>true))])
 (T.aC e [vI l,vI m,vI n,vI o] <|
 T.ah e [.int .i64,.int .i64,.int .i64,.int .i64] fun p q r s =>
 bn #[.agg #[vI p,vI q,vI r,vI s],.bool false])
def yp (a:Xac) (b:Xac) (c d:Nat):bT Tryz.prog [] Tryz.f19 [.pointer a,.slice b c d]=uD a b c d:=ax
end Go.Sx
