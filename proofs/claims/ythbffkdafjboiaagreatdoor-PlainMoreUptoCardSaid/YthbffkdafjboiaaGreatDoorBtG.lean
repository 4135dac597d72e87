/- Trees of functions. No condition. -/
import Derived.Test.YthbffkdafjboiaaGreatDoorSxF
import Derived.Test.YthbffkdafjboiaaGreatDoorProg
import Derived.KernelRfl
set_option linter.all false
set_option maxRecDepth 100000
set_option maxHeartbeats 4000000
namespace Go.Sx
open Go.Proofs
def j4 (a:Xac) (b c:Nat):T :=
 T.new [vI 0,vI 0,bY] 75 fun d =>
 bK 48 [.slice a b c] false [(true,[.int .i64,.int .i64,.string])] fun e f g =>
 T.new [vI 0,vI 0,bY] 75 fun h =>
 T.aC h [vI e,vI f,.string g] <|
 T.ah h [.int .i64] fun i =>
 cond (i != (0:Int))
 (T.ah h [.int .i64,.int .i64,.string] fun j k l =>
 T.bi [(h,[vI j,vI k,.string l])] <|
 T.aC d [vI j,vI k,.string l] <|
 T.ah d [.int .i64,.int .i64,.string] fun m n o =>
 bn #[.pointer none,.agg #[vI m,vI n,.string o]])
 (T.new [.slice a b c,bj,bj,bj] 81 fun j =>
 T.loop [aR] [vI 0] fun k =>
 bH k b
 (bf k b a fun l =>
 T.ah (l.add (aP k 4)) [.slice 71] fun m n o =>
 bK 49 [.pointer (some j),vI k,vI 0,.slice m n o] true [] <| bf k b a fun p =>
 T.ah ((p.add (aP k 4)).add 1) [.slice 71] fun q r s =>
 bK 49 [.pointer (some j),vI k,vI 1,.slice q r s] true [] <| T.again 0 [bk k])
 (T.loop [dh,dh,aR] [bj,bj,vI 0] fun l m n o p q r =>
 bH r b
 (T.loop [dh,dh,aR] [.slice l m n,.slice o p q,vI 0] fun s t u v w x y =>
 bf r b a fun z =>
 T.ah ((z.add (aP r 4)).add 2) [.slice 100] fun A B C =>
 bH y B
 (bf r b a fun D =>
 T.ah ((D.add (aP r 4)).add 2) [.slice 100] fun E F G =>
 bf y F E fun H =>
 T.ah (H.add (aP y 3)) [.string,.slice 117,.int .u32] fun I J K L M =>
 T.new [bY,bj,aG 0] 100 fun N =>
 T.aC N [.string I,.slice J K L,aG M] <|
 T.ah N [.string] fun O =>
 T.ah (N.add 1) (yL 117) fun P Q R S =>
 gS 50 [.pointer (some j),vI r,.string O] fun U =>
 T.bi [((N.add 1),[.slice P Q R,aG S])] <|
 bK 51 [.pointer (some j),vI r,.agg #[.slice P Q R,aG S]] false [(true,(yL 117))] fun V W X Y =>
 T.bi [(N,[.string O])] <|
 br (Instr.buildSlice 44 1 #[(0,.agg #[.string U,.slice V W X,aG Y])]) fun Z a0 a1 =>
 T.bi [((N.add 1),[.slice P Q R,aG S]),(N,[.string O])] <|
 br (Builtin.append_ #[44,44] 44 #[.slice s t u,.slice Z a0 a1]) fun a2 a3 a4 =>
 T.bi [((N.add 1),[.slice P Q R,aG S]),(N,[.string O])] <|
 br (Instr.buildSlice 31 1 #[(0,vI y)]) fun a5 a6 a7 =>
 br (Builtin.append_ #[31,31] 31 #[.slice v w x,.slice a5 a6 a7]) fun a8 a9 b0 =>
 T.again 2 [.slice a2 a3 a4,.slice a8 a9 b0,bk y])
 (T.again 1 [.slice s t u,.slice v w x,bk r]))
 (bK 52 [.slice l m n] true [(false,[.slice 100]),aR,aR] fun s t u v w =>
 cond (w != (0:Int))
 (T.loop [aR,aR] [vI 0,vI v] fun x y =>
 bf x b a fun z =>
 T.ah ((z.add (aP x 4)).add 2) [.slice 100] fun A B C =>
 cond (decide (y>=(B:Int)))
 (bf x b a fun D =>
 T.ah ((D.add (aP x 4)).add 2) [.slice 100] fun E F G =>
 T.again 2 [bk x,vI (bt (y-(F:Int)))])
 (bf x b a fun D =>
 T.ah ((D.add (aP x 4)).add 2) [.slice 100] fun E F G =>
 bf v p o fun H =>
 T.ah (H.add (aP v 1)) [.int .i64] fun I =>
 bf I F E fun J =>
 T.ah (J.add (aP I 3)) [.string] fun K =>
 T.bi [((J.add (aP I 3)),[.string K]),((H.add (aP v 1)),[vI I]),(((D.add (aP x 4)).add 2),[.slice E F G])] <|
 T.aC d [vI 24,vI x,.string K] <|
 T.ah d [.int .i64,.int .i64,.string] fun L M N =>
 bn #[.pointer none,.agg #[vI L,vI M,.string N]]))
 (T.loop [aR] [vI 0] fun x =>
 bH x b
 (T.ah (j.add 2) [.slice 43] fun y z A =>
 bf x b a fun B =>
 T.ah (B.add (aP x 4)) [.slice 71] fun C D E =>
 bK 53 [.pointer (some j),vI x,.slice C D E,.slice s t u] false [(false,[.slice 71])] fun F G H =>
 T.bi [((j.add 2),[.slice y z A])] <|
 br (Instr.buildSlice 79 1 #[(0,.slice F G H)]) fun I J K =>
 T.bi [((B.add (aP x 4)),[.slice C D E]),((j.add 2),[.slice y z A])] <|
 br (Builtin.append_ #[79,79] 79 #[.slice y z A,.slice I J K]) fun L M N =>
 T.bi [((B.add (aP x 4)),[.slice C D E])] <|
 T.aC (j.add 2) [.slice L M N] <|
 T.ah (j.add 3) [.slice 43] fun O P Q =>
 bf x b a fun R =>
 T.ah ((R.add (aP x 4)).add 1) [.slice 71] fun S U V =>
 bK 53 [.pointer (some j),vI x,.slice S U V,.slice s t u] false [(false,[.slice 71])] fun W X Y =>
 T.bi [((j.add 3),[.slice O P Q])] <|
 br (Instr.buildSlice 79 1 #[(0,.slice W X Y)]) fun Z a0 a1 =>
 T.bi [(((R.add (aP x 4)).add 1),[.slice S U V]),((j.add 3),[.slice O P Q])] <|
 br (Builtin.append_ #[79,79] 79 #[.slice O P Q,.slice Z a0 a1]) fun a2 a3 a4 =>
 T.bi [(((R.add (aP x 4)).add 1),[.slice S U V])] <|
 T.aC (j.add 3) [.slice a2 a3 a4] <|
 T.again 2 [bk x])
 (T.aC d [vI 0,vI 0,bY] <|
 T.ah d [.int .i64,.int .i64,.string] fun y z A =>
 bn #[.pointer (some j),.agg #[vI y,vI z,.string A]])))))
def nB (a:Xac) (b c:Nat):bT Tryz.prog [] Tryz.f26 [.slice a b c]=j4 a b c:=ax
def iw (a:Xac) (b c:Nat):T :=
 T.new [vI 0,vI 0,bY] 75 fun d =>
 cond ((b:Int)==(0:Int))
 (T.aC d [vI 25,vI 0,bY] <|
 T.ah d [.int .i64,.int .i64,.string] fun e f g =>
 T.ret (.agg #[vI e,vI f,.string g]))
 (cond (decide ((b:Int)>(64:Int)))
 (T.aC d [vI 4,vI 0,bY] <|
 T.ah d [.int .i64,.int .i64,.string] fun e f g =>
 T.ret (.agg #[vI e,vI f,.string g]))
 (T.loop [aR] [vI 0] fun e =>
 bH e b
 (bf e b a fun f =>
 T.ah (f.add (aP e 4)) (yU 71 100) fun g h i j k l m n o p q r =>
 cH 71 [.agg #[.slice g h i,.slice j k l,.slice m n o,.slice p q r]] fun s =>
 cond (s != (0:Int))
 (T.aC d [vI 31,vI e,bY] <|
 T.ah d [.int .i64,.int .i64,.string] fun t u v =>
 T.ret (.agg #[vI t,vI u,.string v]))
 (T.again 0 [bk e]))
 (T.loop [aR] [vI 0] fun f =>
 bH f b
 (T.loop [aR] [vI 0] fun g =>
 bf f b a fun h =>
 T.ah ((h.add (aP f 4)).add 3) [.slice 9] fun i j k =>
 bH g j
 (T.loop [aR] [vI 0] fun l =>
 cond (decide (l<f))
 (bf l b a fun m =>
 T.ah ((m.add (aP l 4)).add 3) [.slice 9] fun n o p =>
 bf f b a fun q =>
 T.ah ((q.add (aP f 4)).add 3) [.slice 9] fun r s t =>
 bf g s r fun u =>
 T.ah (u.add (aP g 1)) [.string] fun v =>
 aY 57 [.slice n o p,.string v] fun w =>
 T.bi [(((q.add (aP f 4)).add 3),[.slice r s t])] <|
 cond w
 (bf f b a fun x =>
 T.ah ((x.add (aP f 4)).add 3) [.slice 9] fun y z A =>
 bf g z y fun B =>
 T.ah (B.add (aP g 1)) [.string] fun C =>
 T.aC d [vI 22,vI f,.string C] <|
 T.ah d [.int .i64,.int .i64,.string] fun D E F =>
 T.ret (.agg #[vI D,vI E,.string F]))
 (T.again 3 [bk l]))
 (T.again 2 [bk g]))
 (T.again 1 [bk f]))
 (T.loop [aR] [vI 0] fun g =>
 bH g b
 (gS 72 [.slice a b c,vI g] fun h =>
 cond (!((ByteArray.toList h)==[]))
 (T.aC d [vI 23,vI g,.string h] <|
 T.ah d [.int .i64,.int .i64,.string] fun i j k =>
 T.ret (.agg #[vI i,vI j,.string k]))
 (T.again 2 [bk g]))
 (T.aC d [vI 0,vI 0,bY] <|
 T.ah d [.int .i64,.int .i64,.string] fun h i j =>
 T.ret (.agg #[vI h,vI i,.string j]))))))
def lH (a:Xac) (b c:Nat):bT Tryz.prog [] Tryz.f48 [.slice a b c]=iw a b c:=ax
def fg (a:Xac) (b:Int) (c:Int) (d:Xac) (e f:Nat):T :=
 T.loop [aR] [vI 0] fun g =>
 bH g e
 (bf g e d fun h =>
 T.ah (h.add (aP g 10)) [.int .i64] fun i =>
 cond (i==(1:Int))
 (T.bG a fun j =>
 T.ah (j.add 1) [.slice 158] fun k l m =>
 bf g e d fun n =>
 T.ah ((n.add (aP g 10)).add 1) [.string] fun o =>
 br (Instr.buildSlice 78 1 #[(0,.agg #[vI b,vI c,vI g,.string o])]) fun p q r =>
 T.bi [(((n.add (aP g 10)).add 1),[.string o]),((j.add 1),[.slice k l m])] <|
 br (Builtin.append_ #[78,78] 78 #[.slice k l m,.slice p q r]) fun s t u =>
 T.bi [(((n.add (aP g 10)).add 1),[.string o])] <|
 T.bG a fun v =>
 T.aC (v.add 1) [.slice s t u] <|
 T.again 0 [bk g])
 (T.again 0 [bk g]))
 (bn #[])
def iE (a:Xac) (b:Int) (c:Int) (d:Xac) (e f:Nat):bT Tryz.prog [] Tryz.f49 [.pointer a,vI b,vI c,.slice d e f]=fg a b c d e f:=ax
def fl (a:Xac) (b:Int) (c:Xaa):T :=
 T.bG a fun d =>
 T.ah d [.slice 47] fun e f g =>
 cH 73 [.slice e f g,vI b,.string c] fun h =>
 T.loop [(false,[.string]),aR] [bY,vI 0] fun i j =>
 T.bG a fun k =>
 T.ah (k.add 1) [.slice 158] fun l m n =>
 bH j m
 (T.bG a fun o =>
 T.ah (o.add 1) [.slice 158] fun p q r =>
 bf j q p fun s =>
 T.ah (s.add (aP j 4)) [.int .i64] fun t =>
 cond (t==h)
 (T.bG a fun u =>
 T.ah (u.add 1) [.slice 158] fun v w x =>
 bf j w v fun y =>
 T.ah ((y.add (aP j 4)).add 3) [.string] fun z =>
 cond ((ByteArray.toList z)==(ByteArray.toList c))
 (gS 74 [vI j] fun A =>
 T.need ((((1+A.size):Nat):Int)<=(9223372036854775807:Int)) <|
 T.ret (.string (⟨#[76]⟩++A)))
 (T.again 0 [.string i,bk j]))
 (T.again 0 [.string i,bk j]))
 (gS 74 [vI h] fun o =>
 T.need ((((1+o.size):Nat):Int)<=(9223372036854775807:Int)) <|
 T.need (((((ByteArray.size (⟨#[69]⟩++o))+1):Nat):Int)<=(9223372036854775807:Int)) <|
 T.need (((((ByteArray.size ((⟨#[69]⟩++o)++⟨#[95]⟩))+c.size):Nat):Int)<=(9223372036854775807:Int)) <|
 T.ret (.string (((⟨#[69]⟩++o)++⟨#[95]⟩)++c)))
def iU (a:Xac) (b:Int) (c:Xaa):bT Tryz.prog [] Tryz.f50 [.pointer a,vI b,.string c]=fl a b c:=ax
def fc (a:Xac) (b:Int) (c:Xac) (d e:Nat) (f:Int):T :=
 T.new [.slice c d e,aG f] 69 fun g =>
 T.new [bj,aG 0] 69 fun h =>
 T.ah (g.add 1) [.int .u32] fun i =>
 T.new [bj,aG 0] 69 fun j =>
 T.aC j [bj,aG i] <|
 T.loop [aR] [vI 0] fun k =>
 T.ah g [.slice 117] fun l m n =>
 bH k m
 (T.ah j (yL 117) fun o p q r =>
 T.ah g [.slice 117] fun s t u =>
 bf k t s fun v =>
 T.ah (v.add (aP k 2)) [.string] fun w =>
 T.ah g [.slice 117] fun x y z =>
 bf k y x fun A =>
 T.ah ((A.add (aP k 2)).add 1) [.int .u32] fun B =>
 gS 50 [.pointer a,vI b,.string w] fun C =>
 T.bi [(((A.add (aP k 2)).add 1),[aG B]),(g,[.slice x y z]),(g,[.slice s t u]),(j,[.slice o p q,aG r])] <|
 br (Instr.buildSlice 66 1 #[(0,.agg #[.string C,aG B])]) fun D E F =>
 T.bi [(((A.add (aP k 2)).add 1),[aG B]),(g,[.slice x y z]),((v.add (aP k 2)),[.string w]),(g,[.slice s t u]),(j,[.slice o p q,aG r])] <|
 bK 75 [.agg #[.slice o p q,aG r],.agg #[.slice D E F,aG 0]] false [(true,(yL 117))] fun G H I J =>
 T.bi [(((A.add (aP k 2)).add 1),[aG B]),(g,[.slice x y z]),((v.add (aP k 2)),[.string w]),(g,[.slice s t u])] <|
 T.aC j [.slice G H I,aG J] <|
 T.again 0 [bk k])
 (T.ah j (yL 117) fun o p q r =>
 T.aC h [.slice o p q,aG r] <|
 T.ah h (yL 117) fun s t u v =>
 T.ret (.agg #[.slice s t u,aG v]))
def iD (a:Xac) (b:Int) (c:Xac) (d e:Nat) (f:Int):bT Tryz.prog [] Tryz.f51 [.pointer a,vI b,.agg #[.slice c d e,.int .u32 f]]=fc a b c d e f:=ax
def eQ (a:Xac) (b:Int) (c:Xac) (d e:Nat) (f:Xac) (g h:Nat):T :=
 br (Instr.buildSlice 43 0 #[]) fun i j k =>
 br (Builtin.append_ #[43,43] 43 #[.slice i j k,.slice c d e]) fun l m n =>
 T.loop [aR] [vI 0] fun o =>
 bH o m
 (bf o m l fun p =>
 T.ah ((p.add (aP o 10)).add 7) (yL 117) fun q r s t =>
 bK 51 [.pointer a,vI b,.agg #[.slice q r s,aG t]] false [(true,(yL 117))] fun u v w x =>
 bK 77 [.agg #[.slice u v w,aG x],.slice f g h] false [(true,(yL 117))] fun y z A B =>
 bf o m l fun C =>
 T.aC ((C.add (aP o 10)).add 7) [.slice y z A,aG B] <|
 T.again 0 [bk o])
 (T.ret (.slice l m n))
def hY (a:Xac) (b:Int) (c:Xac) (d e:Nat) (f:Xac) (g h:Nat):bT Tryz.prog [] Tryz.f53 [.pointer a,vI b,.slice c d e,.slice f g h]=eQ a b c d e f g h:=ax
def jq (a:Xac) (b c:Nat) (d:Int) (e:Xaa):T :=
 bf d b a fun f =>
 T.ah (f.add (aP d 4)) (yU 71 100) fun g h i j k l m n o p q r =>
 bK 98 [.agg #[.slice g h i,.slice j k l,.slice m n o,.slice p q r]] false [(false,[.slice 9])] fun s t u =>
 aY 57 [.slice s t u,.string e] fun v =>
 cond v
 (T.ret (vI d))
 (T.loop [aR,aR] [vI 0,vI 0] fun w x =>
 bH x b
 (bf x b a fun y =>
 T.ah ((y.add (aP x 4)).add 3) [.slice 9] fun z A B =>
 aY 57 [.slice z A B,.string e] fun C =>
 cond C
 (T.ret (vI x))
 (T.again 0 [vI w,bk x]))
 (T.ret (vI (-1:Int))))
def mY (a:Xac) (b c:Nat) (d:Int) (e:Xaa):bT Tryz.prog [] Tryz.f73 [.slice a b c,vI d,.string e]=jq a b c d e:=ax
def gk (a:Xac) (b c:Nat) (d:Int):T :=
 bf d b a fun e =>
 T.ah (e.add (aP d 4)) (yU 71 100) fun f g h i j k l m n o p q =>
 T.new [bj,bj,bj,bj] 47 fun r =>
 T.aC r [.slice f g h,.slice i j k,.slice l m n,.slice o p q] <|
 T.ah r [.slice 71] fun s t u =>
 T.ah (r.add 1) [.slice 71] fun v w x =>
 br (Instr.buildSlice 43 0 #[]) fun y z A =>
 T.bi [((r.add 1),[.slice v w x]),(r,[.slice s t u])] <|
 br (Builtin.append_ #[43,43] 43 #[.slice y z A,.slice s t u]) fun B C D =>
 T.bi [((r.add 1),[.slice v w x])] <|
 br (Builtin.append_ #[43,43] 43 #[.slice B C D,.slice v w x]) fun E F G =>
 T.bi [(r,[.slice s t u])] <|
 T.loop [(false,[.string]),aR] [bY,vI 0] fun H I =>
 bH I F
 (bf I F E fun J =>
 T.ah ((J.add (aP I 10)).add 7) (yL 117) fun K L M N =>
 gS 99 [.slice a b c,vI d,.agg #[.slice K L M,aG N]] fun O =>
 cond (!((ByteArray.toList O)==[]))
 (T.ret (.string O))
 (T.again 0 [.string H,bk I]))
 (T.loop [(false,[.string]),aR] [.string H,vI 0] fun J K =>
 T.ah (r.add 2) [.slice 100] fun L M N =>
 bH K M
 (T.ah (r.add 2) [.slice 100] fun O P Q =>
 bf K P O fun R =>
 T.ah ((R.add (aP K 3)).add 1) (yL 117) fun S U V W =>
 gS 99 [.slice a b c,vI d,.agg #[.slice S U V,aG W]] fun X =>
 cond (!((ByteArray.toList X)==[]))
 (T.ret (.string X))
 (T.again 1 [.string J,bk K]))
 (T.ret (bY)))
def kh (a:Xac) (b c:Nat) (d:Int):bT Tryz.prog [] Tryz.f72 [.slice a b c,vI d]=gk a b c d:=ax
def iK (a:Int):T :=
 T.loop [aR,(false,[.string])] [vI a,bY] fun b c =>
 cond (decide (b>(0:Int)))
 (T.need ((10:Int)≠(0:Int)) <|
 br (Instr.buildSlice 194 1 #[(0,.int .u8 (IntKind.wrap .u8 (bt ((48:Int)+(Int.tmod b (10:Int))))))]) fun d e f =>
 bU (convert 194 9 (.slice d e f)) false [(false,[.string])] fun g =>
 T.need ((((g.size+c.size):Nat):Int)<=(9223372036854775807:Int)) <|
 T.need ((10:Int)≠(0:Int)) <|
 T.again 0 [vI (bt (Int.tdiv b (10:Int))),.string (g++c)])
 (cond ((ByteArray.toList c)==[])
 (T.need ((10:Int)≠(0:Int)) <|
 br (Instr.buildSlice 194 1 #[(0,.int .u8 (IntKind.wrap .u8 (bt ((48:Int)+(Int.tmod b (10:Int))))))]) fun d e f =>
 bU (convert 194 9 (.slice d e f)) false [(false,[.string])] fun g =>
 T.need ((((g.size+c.size):Nat):Int)<=(9223372036854775807:Int)) <|
 T.need ((10:Int)≠(0:Int)) <|
 T.again 0 [vI (bt (Int.tdiv b (10:Int))),.string (g++c)])
 (T.ret (.string c)))
def mf (a:Int):bT Tryz.prog [] Tryz.f74 [vI a]=iK a:=ax
def jj (a:Xac) (b c:Nat) (d:Int) (e:Xac) (f g:Nat) (h:Int):T :=
 T.new [.slice e f g,aG h] 69 fun i =>
 T.loop [(false,[.string]),aR] [bY,vI 0] fun j k =>
 T.ah i [.slice 117] fun l m n =>
 bH k m
 (T.ah i [.slice 117] fun o p q =>
 bf k p o fun r =>
 T.ah (r.add (aP k 2)) [.string] fun s =>
 cH 73 [.slice a b c,vI d,.string s] fun t =>
 cond (decide (t<(0:Int)))
 (T.ah i [.slice 117] fun u v w =>
 bf k v u fun x =>
 T.ah (x.add (aP k 2)) [.string] fun y =>
 T.ret (.string y))
 (T.again 0 [.string j,bk k]))
 (T.ret (bY))
def nh (a:Xac) (b c:Nat) (d:Int) (e:Xac) (f g:Nat) (h:Int):bT Tryz.prog [] Tryz.f99 [.slice a b c,vI d,.agg #[.slice e f g,.int .u32 h]]=jj a b c d e f g h:=ax
def yd (a:Xac) (b c:Nat):T :=
 T.new [vI 0,vI 0,bY] 54 fun d =>
 cond ((b:Int)==(0:Int))
 (T.aC d [vI 25,vI 0,bY] <|
 T.ah d [.int .i64,.int .i64,.string] fun e f g =>
 bn #[.pointer none,.agg #[vI e,vI f,.string g]])
 (cond (decide ((b:Int)>(64:Int)))
 (T.aC d [vI 4,vI 0,bY] <|
 T.ah d [.int .i64,.int .i64,.string] fun e f g =>
 bn #[.pointer none,.agg #[vI e,vI f,.string g]])
 (T.loop [(false,[.pointer 0]),aR] [.pointer none,vI 0] fun e f =>
 bH f b
 (bf f b a fun g =>
 T.ah (g.add (aP f 4)) (yU 71 100) fun h i j k l m n o p q r s =>
 T.new [bj,bj,bj,bj] 47 fun t =>
 T.aC t [.slice h i j,.slice k l m,.slice n o p,.slice q r s] <|
 T.ah t (yU 71 100) fun u v w x y z A B C D E F =>
 cH 30 [.agg #[.slice u v w,.slice x y z,.slice A B C,.slice D E F]] fun G =>
 cond (G != (0:Int))
 (T.aC d [vI 31,vI f,bY] <|
 T.ah d [.int .i64,.int .i64,.string] fun H I J =>
 bn #[.pointer none,.agg #[vI H,vI I,.string J]])
 (T.again 0 [.pointer e,bk f]))
 (bU (Instr.makeMap 88 none) false [(false,[.map 0 0])] fun g =>
 bU (Instr.makeMap 88 none) false [(false,[.map 0 0])] fun h =>
 bU (Instr.makeMap 89 none) false [(false,[.map 0 0])] fun i =>
 T.new [bj,bj,.map g,.map h,.map i,bj,vI 0] 92 fun j =>
 bK 31 [.pointer (some j),.slice a b c] true [] <| bK 32 [.pointer (some j),.slice a b c] true [(true,[.int .i64,.int .i64,.string]),cn] fun k l m n =>
 T.new [vI 0,vI 0,bY] 54 fun o =>
 T.aC o [vI k,vI l,.string m] <|
 cond n
 (T.ah o [.int .i64,.int .i64,.string] fun p q r =>
 T.bi [(o,[vI p,vI q,.string r])] <|
 T.aC d [vI p,vI q,.string r] <|
 T.ah d [.int .i64,.int .i64,.string] fun s t u =>
 bn #[.pointer none,.agg #[vI s,vI t,.string u]])
 (T.loop [(false,[.pointer 0]),dh,dh,aR] [.pointer e,bj,bj,vI 0] fun p q r s t u v w =>
 bH w b
 (bf w b a fun x =>
 T.ah (x.add (aP w 4)) (yU 71 100) fun y z A B C D E F G H I J =>
 T.new [bj,bj,bj,bj] 47 fun K =>
 T.aC K [.slice y z A,.slice B C D,.slice E F G,.slice H I J] <|
 T.new [bj,bj,bj,bj] 47 fun L =>
 T.ah K [.slice 71] fun M N O =>
 bK 33 [.pointer (some j),vI w,.slice M N O] true [(false,[.slice 71]),(false,[.string]),cn] fun P Q R S U =>
 T.aC L [.slice P Q R] <|
 cond (!U)
 (T.aC d [vI 23,vI w,.string S] <|
 T.ah d [.int .i64,.int .i64,.string] fun V W X =>
 bn #[.pointer none,.agg #[vI V,vI W,.string X]])
 (T.ah (K.add 1) [.slice 71] fun V W X =>
 bK 33 [.pointer (some j),vI w,.slice V W X] true [(false,[.slice 71]),(false,[.string]),cn] fun Y Z a0 a1 a2 =>
 T.aC (L.add 1) [.slice Y Z a0] <|
 cond (!a2)
 (T.aC d [vI 23,vI w,.string a1] <|
 T.ah d [.int .i64,.int .i64,.string] fun a3 a4 a5 =>
 bn #[.pointer none,.agg #[vI a3,vI a4,.string a5]])
 (T.ah (K.add 2) [.slice 100] fun a3 a4 a5 =>
 T.loop [(false,[.pointer 0]),dh,dh,aR] [.pointer p,.slice q r s,.slice t u v,vI 0] fun a6 a7 a8 a9 b0 b1 b2 b3 =>
 bH b3 a4
 (bf b3 a4 a3 fun b4 =>
 T.ah (b4.add (aP b3 3)) [.string,.slice 117,.int .u32] fun b5 b6 b7 b8 b9 =>
 T.new [bY,bj,aG 0] 100 fun c0 =>
 T.aC c0 [.string b5,.slice b6 b7 b8,aG b9] <|
 T.ah (c0.add 1) (yL 117) fun c1 c2 c3 c4 =>
 bK 34 [.pointer (some j),vI w,.agg #[.slice c1 c2 c3,aG c4]] true [(true,(yL 117)),(false,[.string]),cn] fun c5 c6 c7 c8 c9 d0 =>
 T.new [bj,aG 0] 69 fun d1 =>
 T.aC d1 [.slice c5 c6 c7,aG c8] <|
 cond (!d0)
 (T.aC d [vI 23,vI w,.string c9] <|
 T.ah d [.int .i64,.int .i64,.string] fun d2 d3 d4 =>
 bn #[.pointer none,.agg #[vI d2,vI d3,.string d4]])
 (T.ah c0 [.string] fun d2 =>
 T.ah d1 (yL 117) fun d3 d4 d5 d6 =>
 gS 35 [.pointer (some j),.agg #[vI w,.string d2]] fun d7 =>
 T.bi [(d1,[.slice d3 d4 d5,aG d6]),(c0,[.string d2])] <|
 br (Instr.buildSlice 44 1 #[(0,.agg #[.string d7,.slice d3 d4 d5,aG d6])]) fun d8 d9 e0 =>
 T.bi [(d1,[.slice d3 d4 d5,aG d6]),(c0,[.string d2])] <|
 br (Builtin.append_ #[44,44] 44 #[.slice a7 a8 a9,.slice d8 d9 e0]) fun e1 e2 e3 =>
 T.bi [(d1,[.slice d3 d4 d5,aG d6]),(c0,[.string d2])] <|
 T.ah c0 [.string] fun e4 =>
 br (Instr.buildSlice 96 1 #[(0,.agg #[vI w,.string e4])]) fun e5 e6 e7 =>
 br (Builtin.append_ #[96,96] 96 #[.slice b0 b1 b2,.slice e5 e6 e7]) fun e8 e9 f0 =>
 T.again 2 [.pointer a6,.slice e1 e2 e3,.slice e8 e9 f0,bk b3]))
 (T.ah j [.slice 47] fun b4 b5 b6 =>
 T.ah L (yU 71 100) fun b7 b8 b9 c0 c1 c2 c3 c4 c5 c6 c7 c8 =>
 br (Instr.buildSlice 30 1 #[(0,.agg #[.slice b7 b8 b9,.slice c0 c1 c2,.slice c3 c4 c5,.slice c6 c7 c8])]) fun c9 d0 d1 =>
 T.bi [(j,[.slice b4 b5 b6])] <|
 br (Builtin.append_ #[30,30] 30 #[.slice b4 b5 b6,.slice c9 d0 d1]) fun d2 d3 d4 =>
 T.bi [(L,[.slice b7 b8 b9,.slice c0 c1 c2,.slice c3 c4 c5,.slice c6 c7 c8])] <|
 T.aC j [.slice d2 d3 d4] <|
 T.ah (j.add 6) [.int .i64] fun d5 =>
 T.ah K (yU 71 100) fun d6 d7 d8 d9 e0 e1 e2 e3 e4 e5 e6 e7 =>
 cH 36 [.agg #[.slice d6 d7 d8,.slice d9 e0 e1,.slice e2 e3 e4,.slice e5 e6 e7]] fun e8 =>
 T.bi [((j.add 6),[vI d5])] <|
 T.aC (j.add 6) [vI (bt (d5+e8))] <|
 T.again 1 [.pointer a6,.slice a7 a8 a9,.slice b0 b1 b2,bk w]))))
 (bK 37 [.slice q r s] true [(false,[.slice 100]),aR,aR] fun x y z A B =>
 cond (B != (0:Int))
 (bf A u t fun C =>
 T.ah (C.add (aP A 2)) [.int .i64] fun D =>
 bf A u t fun E =>
 T.ah ((E.add (aP A 2)).add 1) [.string] fun F =>
 T.bi [(((E.add (aP A 2)).add 1),[.string F]),((C.add (aP A 2)),[vI D])] <|
 T.aC d [vI B,vI D,.string F] <|
 T.ah d [.int .i64,.int .i64,.string] fun G H I =>
 bn #[.pointer none,.agg #[vI G,vI H,.string I]])
 (T.ah j [.slice 47] fun C D E =>
 T.loop [aR] [vI 0] fun F =>
 bH F D
 (bf F D C fun G =>
 T.ah (G.add (aP F 4)) (yU 71 100) fun H I J K L M N O P Q R S =>
 T.new [bj,bj,bj,bj] 47 fun U =>
 T.aC U [.slice H I J,.slice K L M,.slice N O P,.slice Q R S] <|
 T.ah U [.slice 71] fun V W X =>
 T.ah (U.add 1) [.slice 71] fun Y Z a0 =>
 br (Instr.buildSlice 79 2 #[(0,.slice V W X),(1,.slice Y Z a0)]) fun a1 a2 a3 =>
 T.loop [aR] [vI 0] fun a4 =>
 bH a4 a2
 (bf a4 a2 a1 fun a5 =>
 T.ah (a5.add (aP a4 1)) [.slice 71] fun a6 a7 a8 =>
 T.loop [aR] [vI 0] fun a9 =>
 bH a9 a7
 (bf a9 a7 a6 fun b0 =>
 T.ah ((b0.add (aP a9 10)).add 7) (yL 117) fun b1 b2 b3 b4 =>
 bK 38 [.agg #[.slice b1 b2 b3,aG b4],.slice x y z] false [(true,(yL 117))] fun b5 b6 b7 b8 =>
 bf a9 a7 a6 fun b9 =>
 T.aC ((b9.add (aP a9 10)).add 7) [.slice b5 b6 b7,aG b8] <|
 T.again 4 [bk a9])
 (T.again 3 [bk a4]))
 (T.again 2 [bk F]))
 (T.aC d [vI 0,vI 0,bY] <|
 T.ah d [.int .i64,.int .i64,.string] fun G H I =>
 bn #[.pointer (some j),.agg #[vI G,vI H,.string I]])))))))
def zz (a:Xac) (b c:Nat):bT Tryz.prog [] Tryz.f18 [.slice a b c]=yd a b c:=ax
def mC (a:Xac) (b c:Nat):T :=
 aY 25 [.slice a b c] fun d =>
 cond d
 (bn #[.pointer none,.pointer none,.bool false,.bool true])
 (bK 18 [.slice a b c] true [(false,[.pointer 92]),(true,[.int .i64,.int .i64,.string])] fun e f g h =>
 T.new [vI 0,vI 0,bY] 54 fun i =>
 T.aC i [vI f,vI g,.string h] <|
 bK 26 [.slice a b c] true [(false,[.pointer 81]),(true,[.int .i64,.int .i64,.string])] fun j k l m =>
 T.new [vI 0,vI 0,bY] 75 fun n =>
 T.aC n [vI k,vI l,.string m] <|
 T.ah i [.int .i64] fun o =>
 T.ah n [.int .i64] fun p =>
 cond (o==p)
 (T.ah (i.add 1) [.int .i64] fun q =>
 T.ah (n.add 1) [.int .i64] fun r =>
 cond (q==r)
 (T.ah (i.add 2) [.string] fun s =>
 T.ah (n.add 2) [.string] fun t =>
 cond ((ByteArray.toList s)==(ByteArray.toList t))
 (T.ah n [.int .i64] fun u =>
 cond ((!(/-?Option.isSome.match_1-/ match e with
 | some val=>false
 | none=>true))==(u==(0:Int)))
 (bn #[.pointer e,.pointer j,.bool (!(/-?Option.isSome.match_1-/ match e with
 | some val=>false
 | none=>true)),.bool ((!(/-?Option.isSome.match_1-/ match e with
 | some val=>false
 | none=>true))==(u==(0:Int)))])
 (bn #[.pointer e,.pointer j,.bool false,.bool ((!(/-?Option.isSome.match_1-/ match e with
 | some val=>false
 | none=>true))==(u==(0:Int)))]))
 (bn #[.pointer e,.pointer j,.bool false,.bool false]))
 (bn #[.pointer e,.pointer j,.bool false,.bool false]))
 (bn #[.pointer e,.pointer j,.bool false,.bool false]))
def rF (a:Xac) (b c:Nat):bT Tryz.prog [] Tryz.f12 [.slice a b c]=mC a b c:=ax
def xN (a:Xac) (b:Xac) (c d:Nat):T :=
 T.new [vI 0,vI 0,vI 0,vI 0] 25 fun e =>
 cond (/-?Option.isSome.match_1-/ match a with
 | some val=>false
 | none=>true)
 (T.aC e [vI 0,vI 0,vI 0,vI 0] <|
 T.ah e [.int .i64,.int .i64,.int .i64,.int .i64] fun f g h i =>
 bn #[.agg #[vI f,vI g,vI h,vI i],.bool false])
 (bK 20 [.pointer a] false [(true,[.pointer 92,.map 9 4])] fun f g =>
 T.new [.pointer none,.map none] 60 fun h =>
 T.aC h [.pointer f,.map g] <|
 cH 21 [.pointer a] fun i =>
 T.loop [cn,aR] [.bool false,vI 0] fun j k =>
 cond (decide (k<i))
 (T.loop [cn,aR] [.bool j,vI 0] fun l m =>
 cond (decide (m<(2:Int)))
 (bK 22 [.pointer a,vI k,vI m] false [(false,[.slice 71])] fun n o p =>
 T.loop [cn,aR] [.bool l,vI 0] fun q r =>
 bH r o
 (bf r o n fun s =>
 T.ah (s.add (aP r 10)) (yI 117) fun t u v w x y z A B C D E =>
 T.new [vI 0,bY,vI 0,vI 0,vI 0,.int .i32 0,vI 0,bj,aG 0,vI 0] 71 fun F =>
 T.aC F [vI t,.string u,vI v,vI w,vI x,.int .i32 y,vI z,.slice A B C,aG D,vI E] <|
 T.loop [cn,aR] [.bool q,vI 1] fun G H =>
 cond (decide (H<=(4:Int)))
 (aY 23 [.slice b c d,vI H] fun I =>
 cond I
 (T.ah h [.pointer 92,.map 9 4] fun J K =>
 T.ah F (yI 117) fun L M N O P Q R S U V W X =>
 aY 24 [.agg #[.pointer J,.map K],.agg #[vI L,.string M,vI N,vI O,vI P,.int .i32 Q,vI R,.slice S U V,aG W,vI X],vI m,vI H] fun Y =>
 cond Y
 (T.aC e [vI k,vI m,vI r,vI H] <|
 T.ah e [.int .i64,.int .i64,.int .i64,.int .i64] fun Z a0 a1 a2 =>
 bn #[.agg #[vI Z,vI a0,vI a1,vI a2],.bool true])
 (T.again 3 [.bool G,bk H]))
 (T.again 3 [.bool G,bk H]))
 (T.again 2 [.bool G,bk r]))
 (T.again 1 [.bool q,bk m]))
 (T.again 0 [.bool l,bk k]))
 (T.aC e [vI 0,vI 0,vI 0,vI 0] <|
 T.ah e [.int .i64,.int .i64,.int .i64,.int .i64] fun l m n o =>
 bn #[.agg #[vI l,vI m,vI n,vI o],.bool false]))
def AS (a:Xac) (b:Xac) (c d:Nat):bT Tryz.prog [] Tryz.f10 [.pointer a,.slice b c d]=xN a b c d:=ax
def Am (a:Xac):T :=
 T.new [.pointer none,.map none] 60 fun b =>
 bU (Instr.makeMap 58 none) false [(false,[.map 0 0])] fun c =>
 bK 39 [.pointer a] false [(false,[.slice 112])] fun d e f =>
 T.loop [aR] [vI 0] fun g =>
 bH g e
 (bf g e d fun h =>
 T.ah (h.add (aP g 4)) [.int .i64,.int .i64,.int .i64,.string] fun i j k l =>
 T.new [vI 0,vI 0,vI 0,bY] 112 fun m =>
 T.aC m [vI i,vI j,vI k,.string l] <|
 T.ah (m.add 1) [.int .i64] fun n =>
 gS 40 [vI g] fun o =>
 T.bi [((m.add 1),[vI n])] <|
 T.need ((((1+o.size):Nat):Int)<=(9223372036854775807:Int)) <|
 T.et Tryz.prog (Instr.mapUpdate 58 (.map c) (.string (⟨#[76]⟩++o)) (.bool (n==(0:Int)))) <|
 T.again 0 [bk g])
 (T.aC b [.pointer a,.map c] <|
 T.ah b [.pointer 92,.map 9 4] fun h i =>
 T.ret (.agg #[.pointer h,.map i]))
def AY (a:Xac):bT Tryz.prog [] Tryz.f20 [.pointer a]=Am a:=ax
def fD (a:Xac) (b c:Nat) (d:Int):T :=
 cH 43 [.slice a b c,vI d] fun e =>
 T.ret (.bool (decide (e>=(0:Int))))
def jb (a:Xac) (b c:Nat) (d:Int):bT Tryz.prog [] Tryz.f23 [.slice a b c,vI d]=fD a b c d:=ax
def gp (a:Xac) (b c:Nat) (d:Int):T :=
 T.loop [aR,aR] [vI 0,vI 0] fun e f =>
 bH f b
 (bf f b a fun g =>
 T.ah (g.add (aP f 1)) [.int .i64] fun h =>
 cond (d==h)
 (T.ret (vI f))
 (T.again 0 [vI e,bk f]))
 (T.ret (vI (-1:Int)))
def kx (a:Xac) (b c:Nat) (d:Int):bT Tryz.prog [] Tryz.f43 [.slice a b c,vI d]=gp a b c d:=ax
end Go.Sx
