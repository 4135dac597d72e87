/- Trees of functions. No condition. -/
import Derived.Test.YthbffkdafjboiaaGreatDoorSxF
import Derived.Test.YthbffkdafjboiaaGreatDoorProg
import Derived.KernelRfl
set_option linter.all false
set_option maxRecDepth 100000
set_option maxHeartbeats 4000000
namespace Go.Sx
open Go.Proofs
def jU (a:ZC) (b c:Nat):T :=
 T.new [vI 0,vI 0,bT] 75 fun d =>
 bK 48 [.slice a b c] false [(true,[.int .i64,.int .i64,.string])] fun e f g =>
 T.new [vI 0,vI 0,bT] 75 fun h =>
 T.aE h [vI e,vI f,.string g] <|
 T.ah h [.int .i64] fun i =>
 cond (i != (0:Int))
 (T.ah h [.int .i64,.int .i64,.string] fun j k l =>
 T.bj [(h,[vI j,vI k,.string l])] <|
 T.aE d [vI j,vI k,.string l] <|
 T.ah d [.int .i64,.int .i64,.string] fun m n o =>
 br #[.pointer none,.agg #[vI m,vI n,.string o]])
 (T.new [.slice a b c,bi,bi,bi] 81 fun j =>
 T.loop [aR] [vI 0] fun k =>
 bG k b
 (bf k b a fun l =>
 T.ah (l.add (aQ k 4)) [.slice 71] fun m n o =>
 bK 49 [.pointer (some j),vI k,vI 0,.slice m n o] true [] <| bf k b a fun p =>
 T.ah ((p.add (aQ k 4)).add 1) [.slice 71] fun q r s =>
 bK 49 [.pointer (some j),vI k,vI 1,.slice q r s] true [] <| T.again 0 [bh k])
 (T.loop [dh,dh,aR] [bi,bi,vI 0] fun l m n o p q r =>
 bG r b
 (T.loop [dh,dh,aR] [.slice l m n,.slice o p q,vI 0] fun s t u v w x y =>
 bf r b a fun z =>
 T.ah ((z.add (aQ r 4)).add 2) [.slice 100] fun A B C =>
 bG y B
 (bf r b a fun D =>
 T.ah ((D.add (aQ r 4)).add 2) [.slice 100] fun E F G =>
 bf y F E fun H =>
 T.ah (H.add (aQ y 3)) [.string,.slice 117,.int .u32] fun I J K L M =>
 T.new [bT,bi,aH 0] 100 fun N =>
 T.aE N [.string I,.slice J K L,aH M] <|
 T.ah N [.string] fun O =>
 T.ah (N.add 1) (yL 117) fun P Q R S =>
 gF 50 [.pointer (some j),vI r,.string O] fun U =>
 T.bj [((N.add 1),[.slice P Q R,aH S])] <|
 bK 51 [.pointer (some j),vI r,.agg #[.slice P Q R,aH S]] false [(true,(yL 117))] fun V W X Y =>
 T.bj [(N,[.string O])] <|
 bm (Instr.buildSlice 44 1 #[(0,.agg #[.string U,.slice V W X,aH Y])]) fun Z a0 a1 =>
 T.bj [((N.add 1),[.slice P Q R,aH S]),(N,[.string O])] <|
 bm (Builtin.append_ #[44,44] 44 #[.slice s t u,.slice Z a0 a1]) fun a2 a3 a4 =>
 T.bj [((N.add 1),[.slice P Q R,aH S]),(N,[.string O])] <|
 bm (Instr.buildSlice 31 1 #[(0,vI y)]) fun a5 a6 a7 =>
 bm (Builtin.append_ #[31,31] 31 #[.slice v w x,.slice a5 a6 a7]) fun a8 a9 b0 =>
 T.again 2 [.slice a2 a3 a4,.slice a8 a9 b0,bh y])
 (T.again 1 [.slice s t u,.slice v w x,bh r]))
 (bK 52 [.slice l m n] true [(false,[.slice 100]),aR,aR] fun s t u v w =>
 cond (w != (0:Int))
 (T.loop [aR,aR] [vI 0,vI v] fun x y =>
 bf x b a fun z =>
 T.ah ((z.add (aQ x 4)).add 2) [.slice 100] fun A B C =>
 cond (decide (y>=(B:Int)))
 (bf x b a fun D =>
 T.ah ((D.add (aQ x 4)).add 2) [.slice 100] fun E F G =>
 T.again 2 [bh x,vI (bt (y-(F:Int)))])
 (bf x b a fun D =>
 T.ah ((D.add (aQ x 4)).add 2) [.slice 100] fun E F G =>
 bf v p o fun H =>
 T.ah (H.add (aQ v 1)) [.int .i64] fun I =>
 bf I F E fun J =>
 T.ah (J.add (aQ I 3)) [.string] fun K =>
 T.bj [((J.add (aQ I 3)),[.string K]),((H.add (aQ v 1)),[vI I]),(((D.add (aQ x 4)).add 2),[.slice E F G])] <|
 T.aE d [vI 24,vI x,.string K] <|
 T.ah d [.int .i64,.int .i64,.string] fun L M N =>
 br #[.pointer none,.agg #[vI L,vI M,.string N]]))
 (T.loop [aR] [vI 0] fun x =>
 bG x b
 (T.ah (j.add 2) [.slice 43] fun y z A =>
 bf x b a fun B =>
 T.ah (B.add (aQ x 4)) [.slice 71] fun C D E =>
 bK 53 [.pointer (some j),vI x,.slice C D E,.slice s t u] false [(false,[.slice 71])] fun F G H =>
 T.bj [((j.add 2),[.slice y z A])] <|
 bm (Instr.buildSlice 79 1 #[(0,.slice F G H)]) fun I J K =>
 T.bj [((B.add (aQ x 4)),[.slice C D E]),((j.add 2),[.slice y z A])] <|
 bm (Builtin.append_ #[79,79] 79 #[.slice y z A,.slice I J K]) fun L M N =>
 T.bj [((B.add (aQ x 4)),[.slice C D E])] <|
 T.aE (j.add 2) [.slice L M N] <|
 T.ah (j.add 3) [.slice 43] fun O P Q =>
 bf x b a fun R =>
 T.ah ((R.add (aQ x 4)).add 1) [.slice 71] fun S U V =>
 bK 53 [.pointer (some j),vI x,.slice S U V,.slice s t u] false [(false,[.slice 71])] fun W X Y =>
 T.bj [((j.add 3),[.slice O P Q])] <|
 bm (Instr.buildSlice 79 1 #[(0,.slice W X Y)]) fun Z a0 a1 =>
 T.bj [(((R.add (aQ x 4)).add 1),[.slice S U V]),((j.add 3),[.slice O P Q])] <|
 bm (Builtin.append_ #[79,79] 79 #[.slice O P Q,.slice Z a0 a1]) fun a2 a3 a4 =>
 T.bj [(((R.add (aQ x 4)).add 1),[.slice S U V])] <|
 T.aE (j.add 3) [.slice a2 a3 a4] <|
 T.again 2 [bh x])
 (T.aE d [vI 0,vI 0,bT] <|
 T.ah d [.int .i64,.int .i64,.string] fun y z A =>
 br #[.pointer (some j),.agg #[vI y,vI z,.string A]])))))
def nj (a:ZC) (b c:Nat):bQ Tryz.prog [] Tryz.f26 [.slice a b c]=jU a b c:=az
def gZ (a:ZC) (b c:Nat):T :=
 T.new [vI 0,vI 0,bT] 75 fun d =>
 cond ((b:Int)==(0:Int))
 (T.aE d [vI 25,vI 0,bT] <|
 T.ah d [.int .i64,.int .i64,.string] fun e f g =>
 T.ret (.agg #[vI e,vI f,.string g]))
 (cond (decide ((b:Int)>(64:Int)))
 (T.aE d [vI 4,vI 0,bT] <|
 T.ah d [.int .i64,.int .i64,.string] fun e f g =>
 T.ret (.agg #[vI e,vI f,.string g]))
 (T.loop [aR] [vI 0] fun e =>
 bG e b
 (bf e b a fun f =>
 T.ah (f.add (aQ e 4)) (yU 71 100) fun g h i j k l m n o p q r =>
 cD 71 [.agg #[.slice g h i,.slice j k l,.slice m n o,.slice p q r]] fun s =>
 cond (s != (0:Int))
 (T.aE d [vI 31,vI e,bT] <|
 T.ah d [.int .i64,.int .i64,.string] fun t u v =>
 T.ret (.agg #[vI t,vI u,.string v]))
 (T.again 0 [bh e]))
 (T.loop [aR] [vI 0] fun f =>
 bG f b
 (T.loop [aR] [vI 0] fun g =>
 bf f b a fun h =>
 T.ah ((h.add (aQ f 4)).add 3) [.slice 9] fun i j k =>
 bG g j
 (T.loop [aR] [vI 0] fun l =>
 cond (decide (l<f))
 (bf l b a fun m =>
 T.ah ((m.add (aQ l 4)).add 3) [.slice 9] fun n o p =>
 bf f b a fun q =>
 T.ah ((q.add (aQ f 4)).add 3) [.slice 9] fun r s t =>
 bf g s r fun u =>
 T.ah (u.add (aQ g 1)) [.string] fun v =>
 aT 57 [.slice n o p,.string v] fun w =>
 T.bj [(((q.add (aQ f 4)).add 3),[.slice r s t])] <|
 cond w
 (bf f b a fun x =>
 T.ah ((x.add (aQ f 4)).add 3) [.slice 9] fun y z A =>
 bf g z y fun B =>
 T.ah (B.add (aQ g 1)) [.string] fun C =>
 T.aE d [vI 22,vI f,.string C] <|
 T.ah d [.int .i64,.int .i64,.string] fun D E F =>
 T.ret (.agg #[vI D,vI E,.string F]))
 (T.again 3 [bh l]))
 (T.again 2 [bh g]))
 (T.again 1 [bh f]))
 (T.loop [aR] [vI 0] fun g =>
 bG g b
 (gF 72 [.slice a b c,vI g] fun h =>
 cond (!((ByteArray.toList h)==[]))
 (T.aE d [vI 23,vI g,.string h] <|
 T.ah d [.int .i64,.int .i64,.string] fun i j k =>
 T.ret (.agg #[vI i,vI j,.string k]))
 (T.again 2 [bh g]))
 (T.aE d [vI 0,vI 0,bT] <|
 T.ah d [.int .i64,.int .i64,.string] fun h i j =>
 T.ret (.agg #[vI h,vI i,.string j]))))))
def lr (a:ZC) (b c:Nat):bQ Tryz.prog [] Tryz.f48 [.slice a b c]=gZ a b c:=az
def eV (a:ZC) (b:Int) (c:Int) (d:ZC) (e f:Nat):T :=
 T.loop [aR] [vI 0] fun g =>
 bG g e
 (bf g e d fun h =>
 T.ah (h.add (aQ g 10)) [.int .i64] fun i =>
 cond (i==(1:Int))
 (T.bF a fun j =>
 T.ah (j.add 1) [.slice 158] fun k l m =>
 bf g e d fun n =>
 T.ah ((n.add (aQ g 10)).add 1) [.string] fun o =>
 bm (Instr.buildSlice 78 1 #[(0,.agg #[vI b,vI c,vI g,.string o])]) fun p q r =>
 T.bj [(((n.add (aQ g 10)).add 1),[.string o]),((j.add 1),[.slice k l m])] <|
 bm (Builtin.append_ #[78,78] 78 #[.slice k l m,.slice p q r]) fun s t u =>
 T.bj [(((n.add (aQ g 10)).add 1),[.string o])] <|
 T.bF a fun v =>
 T.aE (v.add 1) [.slice s t u] <|
 T.again 0 [bh g])
 (T.again 0 [bh g]))
 (br #[])
def ij (a:ZC) (b:Int) (c:Int) (d:ZC) (e f:Nat):bQ Tryz.prog [] Tryz.f49 [.pointer a,vI b,vI c,.slice d e f]=eV a b c d e f:=az
def eZ (a:ZC) (b:Int) (c:ZA):T :=
 T.bF a fun d =>
 T.ah d [.slice 47] fun e f g =>
 cD 73 [.slice e f g,vI b,.string c] fun h =>
 T.loop [(false,[.string]),aR] [bT,vI 0] fun i j =>
 T.bF a fun k =>
 T.ah (k.add 1) [.slice 158] fun l m n =>
 bG j m
 (T.bF a fun o =>
 T.ah (o.add 1) [.slice 158] fun p q r =>
 bf j q p fun s =>
 T.ah (s.add (aQ j 4)) [.int .i64] fun t =>
 cond (t==h)
 (T.bF a fun u =>
 T.ah (u.add 1) [.slice 158] fun v w x =>
 bf j w v fun y =>
 T.ah ((y.add (aQ j 4)).add 3) [.string] fun z =>
 cond ((ByteArray.toList z)==(ByteArray.toList c))
 (gF 74 [vI j] fun A =>
 T.need ((((1+A.size):Nat):Int)<=(9223372036854775807:Int)) <|
 T.ret (.string (⟨#[76]⟩++A)))
 (T.again 0 [.string i,bh j]))
 (T.again 0 [.string i,bh j]))
 (gF 74 [vI h] fun o =>
 T.need ((((1+o.size):Nat):Int)<=(9223372036854775807:Int)) <|
 T.need (((((ByteArray.size (⟨#[69]⟩++o))+1):Nat):Int)<=(9223372036854775807:Int)) <|
 T.need (((((ByteArray.size ((⟨#[69]⟩++o)++⟨#[95]⟩))+c.size):Nat):Int)<=(9223372036854775807:Int)) <|
 T.ret (.string (((⟨#[69]⟩++o)++⟨#[95]⟩)++c)))
def iL (a:ZC) (b:Int) (c:ZA):bQ Tryz.prog [] Tryz.f50 [.pointer a,vI b,.string c]=eZ a b c:=az
def eQ (a:ZC) (b:Int) (c:ZC) (d e:Nat) (f:Int):T :=
 T.new [.slice c d e,aH f] 69 fun g =>
 T.new [bi,aH 0] 69 fun h =>
 T.ah (g.add 1) [.int .u32] fun i =>
 T.new [bi,aH 0] 69 fun j =>
 T.aE j [bi,aH i] <|
 T.loop [aR] [vI 0] fun k =>
 T.ah g [.slice 117] fun l m n =>
 bG k m
 (T.ah j (yL 117) fun o p q r =>
 T.ah g [.slice 117] fun s t u =>
 bf k t s fun v =>
 T.ah (v.add (aQ k 2)) [.string] fun w =>
 T.ah g [.slice 117] fun x y z =>
 bf k y x fun A =>
 T.ah ((A.add (aQ k 2)).add 1) [.int .u32] fun B =>
 gF 50 [.pointer a,vI b,.string w] fun C =>
 T.bj [(((A.add (aQ k 2)).add 1),[aH B]),(g,[.slice x y z]),(g,[.slice s t u]),(j,[.slice o p q,aH r])] <|
 bm (Instr.buildSlice 66 1 #[(0,.agg #[.string C,aH B])]) fun D E F =>
 T.bj [(((A.add (aQ k 2)).add 1),[aH B]),(g,[.slice x y z]),((v.add (aQ k 2)),[.string w]),(g,[.slice s t u]),(j,[.slice o p q,aH r])] <|
 bK 75 [.agg #[.slice o p q,aH r],.agg #[.slice D E F,aH 0]] false [(true,(yL 117))] fun G H I J =>
 T.bj [(((A.add (aQ k 2)).add 1),[aH B]),(g,[.slice x y z]),((v.add (aQ k 2)),[.string w]),(g,[.slice s t u])] <|
 T.aE j [.slice G H I,aH J] <|
 T.again 0 [bh k])
 (T.ah j (yL 117) fun o p q r =>
 T.aE h [.slice o p q,aH r] <|
 T.ah h (yL 117) fun s t u v =>
 T.ret (.agg #[.slice s t u,aH v]))
def ig (a:ZC) (b:Int) (c:ZC) (d e:Nat) (f:Int):bQ Tryz.prog [] Tryz.f51 [.pointer a,vI b,.agg #[.slice c d e,.int .u32 f]]=eQ a b c d e f:=az
def eH (a:ZC) (b:Int) (c:ZC) (d e:Nat) (f:ZC) (g h:Nat):T :=
 bm (Instr.buildSlice 43 0 #[]) fun i j k =>
 bm (Builtin.append_ #[43,43] 43 #[.slice i j k,.slice c d e]) fun l m n =>
 T.loop [aR] [vI 0] fun o =>
 bG o m
 (bf o m l fun p =>
 T.ah ((p.add (aQ o 10)).add 7) (yL 117) fun q r s t =>
 bK 51 [.pointer a,vI b,.agg #[.slice q r s,aH t]] false [(true,(yL 117))] fun u v w x =>
 bK 77 [.agg #[.slice u v w,aH x],.slice f g h] false [(true,(yL 117))] fun y z A B =>
 bf o m l fun C =>
 T.aE ((C.add (aQ o 10)).add 7) [.slice y z A,aH B] <|
 T.again 0 [bh o])
 (T.ret (.slice l m n))
def gR (a:ZC) (b:Int) (c:ZC) (d e:Nat) (f:ZC) (g h:Nat):bQ Tryz.prog [] Tryz.f53 [.pointer a,vI b,.slice c d e,.slice f g h]=eH a b c d e f g h:=az
def jf (a:ZC) (b c:Nat) (d:Int) (e:ZA):T :=
 bf d b a fun f =>
 T.ah (f.add (aQ d 4)) (yU 71 100) fun g h i j k l m n o p q r =>
 bK 98 [.agg #[.slice g h i,.slice j k l,.slice m n o,.slice p q r]] false [(false,[.slice 9])] fun s t u =>
 aT 57 [.slice s t u,.string e] fun v =>
 cond v
 (T.ret (vI d))
 (T.loop [aR,aR] [vI 0,vI 0] fun w x =>
 bG x b
 (bf x b a fun y =>
 T.ah ((y.add (aQ x 4)).add 3) [.slice 9] fun z A B =>
 aT 57 [.slice z A B,.string e] fun C =>
 cond C
 (T.ret (vI x))
 (T.again 0 [vI w,bh x]))
 (T.ret (vI (-1:Int))))
def mM (a:ZC) (b c:Nat) (d:Int) (e:ZA):bQ Tryz.prog [] Tryz.f73 [.slice a b c,vI d,.string e]=jf a b c d e:=az
def gd (a:ZC) (b c:Nat) (d:Int):T :=
 bf d b a fun e =>
 T.ah (e.add (aQ d 4)) (yU 71 100) fun f g h i j k l m n o p q =>
 T.new [bi,bi,bi,bi] 47 fun r =>
 T.aE r [.slice f g h,.slice i j k,.slice l m n,.slice o p q] <|
 T.ah r [.slice 71] fun s t u =>
 T.ah (r.add 1) [.slice 71] fun v w x =>
 bm (Instr.buildSlice 43 0 #[]) fun y z A =>
 T.bj [((r.add 1),[.slice v w x]),(r,[.slice s t u])] <|
 bm (Builtin.append_ #[43,43] 43 #[.slice y z A,.slice s t u]) fun B C D =>
 T.bj [((r.add 1),[.slice v w x])] <|
 bm (Builtin.append_ #[43,43] 43 #[.slice B C D,.slice v w x]) fun E F G =>
 T.bj [(r,[.slice s t u])] <|
 T.loop [(false,[.string]),aR] [bT,vI 0] fun H I =>
 bG I F
 (bf I F E fun J =>
 T.ah ((J.add (aQ I 10)).add 7) (yL 117) fun K L M N =>
 gF 99 [.slice a b c,vI d,.agg #[.slice K L M,aH N]] fun O =>
 cond (!((ByteArray.toList O)==[]))
 (T.ret (.string O))
 (T.again 0 [.string H,bh I]))
 (T.loop [(false,[.string]),aR] [.string H,vI 0] fun J K =>
 T.ah (r.add 2) [.slice 100] fun L M N =>
 bG K M
 (T.ah (r.add 2) [.slice 100] fun O P Q =>
 bf K P O fun R =>
 T.ah ((R.add (aQ K 3)).add 1) (yL 117) fun S U V W =>
 gF 99 [.slice a b c,vI d,.agg #[.slice S U V,aH W]] fun X =>
 cond (!((ByteArray.toList X)==[]))
 (T.ret (.string X))
 (T.again 1 [.string J,bh K]))
 (T.ret (bT)))
def j2 (a:ZC) (b c:Nat) (d:Int):bQ Tryz.prog [] Tryz.f72 [.slice a b c,vI d]=gd a b c d:=az
def iC (a:Int):T :=
 T.loop [aR,(false,[.string])] [vI a,bT] fun b c =>
 cond (decide (b>(0:Int)))
 (T.need ((10:Int)≠(0:Int)) <|
 bm (Instr.buildSlice 194 1 #[(0,.int .u8 (IntKind.wrap .u8 (bt ((48:Int)+(Int.tmod b (10:Int))))))]) fun d e f =>
 bR (convert 194 9 (.slice d e f)) false [(false,[.string])] fun g =>
 T.need ((((g.size+c.size):Nat):Int)<=(9223372036854775807:Int)) <|
 T.need ((10:Int)≠(0:Int)) <|
 T.again 0 [vI (bt (Int.tdiv b (10:Int))),.string (g++c)])
 (cond ((ByteArray.toList c)==[])
 (T.need ((10:Int)≠(0:Int)) <|
 bm (Instr.buildSlice 194 1 #[(0,.int .u8 (IntKind.wrap .u8 (bt ((48:Int)+(Int.tmod b (10:Int))))))]) fun d e f =>
 bR (convert 194 9 (.slice d e f)) false [(false,[.string])] fun g =>
 T.need ((((g.size+c.size):Nat):Int)<=(9223372036854775807:Int)) <|
 T.need ((10:Int)≠(0:Int)) <|
 T.again 0 [vI (bt (Int.tdiv b (10:Int))),.string (g++c)])
 (T.ret (.string c)))
def lV (a:Int):bQ Tryz.prog [] Tryz.f74 [vI a]=iC a:=az
def ja (a:ZC) (b c:Nat) (d:Int) (e:ZC) (f g:Nat) (h:Int):T :=
 T.new [.slice e f g,aH h] 69 fun i =>
 T.loop [(false,[.string]),aR] [bT,vI 0] fun j k =>
 T.ah i [.slice 117] fun l m n =>
 bG k m
 (T.ah i [.slice 117] fun o p q =>
 bf k p o fun r =>
 T.ah (r.add (aQ k 2)) [.string] fun s =>
 cD 73 [.slice a b c,vI d,.string s] fun t =>
 cond (decide (t<(0:Int)))
 (T.ah i [.slice 117] fun u v w =>
 bf k v u fun x =>
 T.ah (x.add (aQ k 2)) [.string] fun y =>
 T.ret (.string y))
 (T.again 0 [.string j,bh k]))
 (T.ret (bT))
def mQ (a:ZC) (b c:Nat) (d:Int) (e:ZC) (f g:Nat) (h:Int):bQ Tryz.prog [] Tryz.f99 [.slice a b c,vI d,.agg #[.slice e f g,.int .u32 h]]=ja a b c d e f g h:=az
def xN (a:ZC) (b c:Nat):T :=
 T.new [vI 0,vI 0,bT] 54 fun d =>
 cond ((b:Int)==(0:Int))
 (T.aE d [vI 25,vI 0,bT] <|
 T.ah d [.int .i64,.int .i64,.string] fun e f g =>
 br #[.pointer none,.agg #[vI e,vI f,.string g]])
 (cond (decide ((b:Int)>(64:Int)))
 (T.aE d [vI 4,vI 0,bT] <|
 T.ah d [.int .i64,.int .i64,.string] fun e f g =>
 br #[.pointer none,.agg #[vI e,vI f,.string g]])
 (T.loop [(false,[.pointer 0]),aR] [.pointer none,vI 0] fun e f =>
 bG f b
 (bf f b a fun g =>
 T.ah (g.add (aQ f 4)) (yU 71 100) fun h i j k l m n o p q r s =>
 T.new [bi,bi,bi,bi] 47 fun t =>
 T.aE t [.slice h i j,.slice k l m,.slice n o p,.slice q r s] <|
 T.ah t (yU 71 100) fun u v w x y z A B C D E F =>
 cD 30 [.agg #[.slice u v w,.slice x y z,.slice A B C,.slice D E F]] fun G =>
 cond (G != (0:Int))
 (T.aE d [vI 31,vI f,bT] <|
 T.ah d [.int .i64,.int .i64,.string] fun H I J =>
 br #[.pointer none,.agg #[vI H,vI I,.string J]])
 (T.again 0 [.pointer e,bh f]))
 (bR (Instr.makeMap 88 none) false [(false,[.map 0 0])] fun g =>
 bR (Instr.makeMap 88 none) false [(false,[.map 0 0])] fun h =>
 bR (Instr.makeMap 89 none) false [(false,[.map 0 0])] fun i =>
 T.new [bi,bi,.map g,.map h,.map i,bi,vI 0] 92 fun j =>
 bK 31 [.pointer (some j),.slice a b c] true [] <| bK 32 [.pointer (some j),.slice a b c] true [(true,[.int .i64,.int .i64,.string]),cg] fun k l m n =>
 T.new [vI 0,vI 0,bT] 54 fun o =>
 T.aE o [vI k,vI l,.string m] <|
 cond n
 (T.ah o [.int .i64,.int .i64,.string] fun p q r =>
 T.bj [(o,[vI p,vI q,.string r])] <|
 T.aE d [vI p,vI q,.string r] <|
 T.ah d [.int .i64,.int .i64,.string] fun s t u =>
 br #[.pointer none,.agg #[vI s,vI t,.string u]])
 (T.loop [(false,[.pointer 0]),dh,dh,aR] [.pointer e,bi,bi,vI 0] fun p q r s t u v w =>
 bG w b
 (bf w b a fun x =>
 T.ah (x.add (aQ w 4)) (yU 71 100) fun y z A B C D E F G H I J =>
 T.new [bi,bi,bi,bi] 47 fun K =>
 T.aE K [.slice y z A,.slice B C D,.slice E F G,.slice H I J] <|
 T.new [bi,bi,bi,bi] 47 fun L =>
 T.ah K [.slice 71] fun M N O =>
 bK 33 [.pointer (some j),vI w,.slice M N O] true [(false,[.slice 71]),(false,[.string]),cg] fun P Q R S U =>
 T.aE L [.slice P Q R] <|
 cond (!U)
 (T.aE d [vI 23,vI w,.string S] <|
 T.ah d [.int .i64,.int .i64,.string] fun V W X =>
 br #[.pointer none,.agg #[vI V,vI W,.string X]])
 (T.ah (K.add 1) [.slice 71] fun V W X =>
 bK 33 [.pointer (some j),vI w,.slice V W X] true [(false,[.slice 71]),(false,[.string]),cg] fun Y Z a0 a1 a2 =>
 T.aE (L.add 1) [.slice Y Z a0] <|
 cond (!a2)
 (T.aE d [vI 23,vI w,.string a1] <|
 T.ah d [.int .i64,.int .i64,.string] fun a3 a4 a5 =>
 br #[.pointer none,.agg #[vI a3,vI a4,.string a5]])
 (T.ah (K.add 2) [.slice 100] fun a3 a4 a5 =>
 T.loop [(false,[.pointer 0]),dh,dh,aR] [.pointer p,.slice q r s,.slice t u v,vI 0] fun a6 a7 a8 a9 b0 b1 b2 b3 =>
 bG b3 a4
 (bf b3 a4 a3 fun b4 =>
 T.ah (b4.add (aQ b3 3)) [.string,.slice 117,.int .u32] fun b5 b6 b7 b8 b9 =>
 T.new [bT,bi,aH 0] 100 fun c0 =>
 T.aE c0 [.string b5,.slice b6 b7 b8,aH b9] <|
 T.ah (c0.add 1) (yL 117) fun c1 c2 c3 c4 =>
 bK 34 [.pointer (some j),vI w,.agg #[.slice c1 c2 c3,aH c4]] true [(true,(yL 117)),(false,[.string]),cg] fun c5 c6 c7 c8 c9 d0 =>
 T.new [bi,aH 0] 69 fun d1 =>
 T.aE d1 [.slice c5 c6 c7,aH c8] <|
 cond (!d0)
 (T.aE d [vI 23,vI w,.string c9] <|
 T.ah d [.int .i64,.int .i64,.string] fun d2 d3 d4 =>
 br #[.pointer none,.agg #[vI d2,vI d3,.string d4]])
 (T.ah c0 [.string] fun d2 =>
 T.ah d1 (yL 117) fun d3 d4 d5 d6 =>
 gF 35 [.pointer (some j),.agg #[vI w,.string d2]] fun d7 =>
 T.bj [(d1,[.slice d3 d4 d5,aH d6]),(c0,[.string d2])] <|
 bm (Instr.buildSlice 44 1 #[(0,.agg #[.string d7,.slice d3 d4 d5,aH d6])]) fun d8 d9 e0 =>
 T.bj [(d1,[.slice d3 d4 d5,aH d6]),(c0,[.string d2])] <|
 bm (Builtin.append_ #[44,44] 44 #[.slice a7 a8 a9,.slice d8 d9 e0]) fun e1 e2 e3 =>
 T.bj [(d1,[.slice d3 d4 d5,aH d6]),(c0,[.string d2])] <|
 T.ah c0 [.string] fun e4 =>
 bm (Instr.buildSlice 96 1 #[(0,.agg #[vI w,.string e4])]) fun e5 e6 e7 =>
 bm (Builtin.append_ #[96,96] 96 #[.slice b0 b1 b2,.slice e5 e6 e7]) fun e8 e9 f0 =>
 T.again 2 [.pointer a6,.slice e1 e2 e3,.slice e8 e9 f0,bh b3]))
 (T.ah j [.slice 47] fun b4 b5 b6 =>
 T.ah L (yU 71 100) fun b7 b8 b9 c0 c1 c2 c3 c4 c5 c6 c7 c8 =>
 bm (Instr.buildSlice 30 1 #[(0,.agg #[.slice b7 b8 b9,.slice c0 c1 c2,.slice c3 c4 c5,.slice c6 c7 c8])]) fun c9 d0 d1 =>
 T.bj [(j,[.slice b4 b5 b6])] <|
 bm (Builtin.append_ #[30,30] 30 #[.slice b4 b5 b6,.slice c9 d0 d1]) fun d2 d3 d4 =>
 T.bj [(L,[.slice b7 b8 b9,.slice c0 c1 c2,.slice c3 c4 c5,.slice c6 c7 c8])] <|
 T.aE j [.slice d2 d3 d4] <|
 T.ah (j.add 6) [.int .i64] fun d5 =>
 T.ah K (yU 71 100) fun d6 d7 d8 d9 e0 e1 e2 e3 e4 e5 e6 e7 =>
 cD 36 [.agg #[.slice d6 d7 d8,.slice d9 e0 e1,.slice e2 e3 e4,.slice e5 e6 e7]] fun e8 =>
 T.bj [((j.add 6),[vI d5])] <|
 T.aE (j.add 6) [vI (bt (d5+e8))] <|
 T.again 1 [.pointer a6,.slice a7 a8 a9,.slice b0 b1 b2,bh w]))))
 (bK 37 [.slice q r s] true [(false,[.slice 100]),aR,aR] fun x y z A B =>
 cond (B != (0:Int))
 (bf A u t fun C =>
 T.ah (C.add (aQ A 2)) [.int .i64] fun D =>
 bf A u t fun E =>
 T.ah ((E.add (aQ A 2)).add 1) [.string] fun F =>
 T.bj [(((E.add (aQ A 2)).add 1),[.string F]),((C.add (aQ A 2)),[vI D])] <|
 T.aE d [vI B,vI D,.string F] <|
 T.ah d [.int .i64,.int .i64,.string] fun G H I =>
 br #[.pointer none,.agg #[vI G,vI H,.string I]])
 (T.ah j [.slice 47] fun C D E =>
 T.loop [aR] [vI 0] fun F =>
 bG F D
 (bf F D C fun G =>
 T.ah (G.add (aQ F 4)) (yU 71 100) fun H I J K L M N O P Q R S =>
 T.new [bi,bi,bi,bi] 47 fun U =>
 T.aE U [.slice H I J,.slice K L M,.slice N O P,.slice Q R S] <|
 T.ah U [.slice 71] fun V W X =>
 T.ah (U.add 1) [.slice 71] fun Y Z a0 =>
 bm (Instr.buildSlice 79 2 #[(0,.slice V W X),(1,.slice Y Z a0)]) fun a1 a2 a3 =>
 T.loop [aR] [vI 0] fun a4 =>
 bG a4 a2
 (bf a4 a2 a1 fun a5 =>
 T.ah (a5.add (aQ a4 1)) [.slice 71] fun a6 a7 a8 =>
 T.loop [aR] [vI 0] fun a9 =>
 bG a9 a7
 (bf a9 a7 a6 fun b0 =>
 T.ah ((b0.add (aQ a9 10)).add 7) (yL 117) fun b1 b2 b3 b4 =>
 bK 38 [.agg #[.slice b1 b2 b3,aH b4],.slice x y z] false [(true,(yL 117))] fun b5 b6 b7 b8 =>
 bf a9 a7 a6 fun b9 =>
 T.aE ((b9.add (aQ a9 10)).add 7) [.slice b5 b6 b7,aH b8] <|
 T.again 4 [bh a9])
 (T.again 3 [bh a4]))
 (T.again 2 [bh F]))
 (T.aE d [vI 0,vI 0,bT] <|
 T.ah d [.int .i64,.int .i64,.string] fun G H I =>
 br #[.pointer (some j),.agg #[vI G,vI H,.string I]])))))))
def yW (a:ZC) (b c:Nat):bQ Tryz.prog [] Tryz.f18 [.slice a b c]=xN a b c:=az
def mj (a:ZC) (b c:Nat):T :=
 aT 25 [.slice a b c] fun d =>
 cond d
 (br #[.pointer none,.pointer none,.bool false,.bool true])
 (bK 18 [.slice a b c] true [(false,[.pointer 92]),(true,[.int .i64,.int .i64,.string])] fun e f g h =>
 T.new [vI 0,vI 0,bT] 54 fun i =>
 T.aE i [vI f,vI g,.string h] <|
 bK 26 [.slice a b c] true [(false,[.pointer 81]),(true,[.int .i64,.int .i64,.string])] fun j k l m =>
 T.new [vI 0,vI 0,bT] 75 fun n =>
 T.aE n [vI k,vI l,.string m] <|
 T.ah i [.int .i64] fun o =>
 T.ah n [.int .i64] fun p =>
 cond (o==p)
 (T.ah (i.add 1) [.int .i64] fun q =>
 T.ah (n.add 1) [.int .i64] fun r =>
 cond (q==r)
 (T.ah (i.add 2) [.string] fun s =>
 T.ah (n.add 2) [.string] fun t =>
 cond ((ByteArray.toList s)==(ByteArray.toList t))
 (T.ah n [.int .i64] fun u =>
 cond ((!(/-?Option.isSome.match_1-/ match e with
 | some val=>false
 | none=>true))==(u==(0:Int)))
 (br #[.pointer e,.pointer j,.bool (!(/-?Option.isSome.match_1-/ match e with
 | some val=>false
 | none=>true)),.bool ((!(/-?Option.isSome.match_1-/ match e with
 | some val=>false
 | none=>true))==(u==(0:Int)))])
 (br #[.pointer e,.pointer j,.bool false,.bool ((!(/-?Option.isSome.match_1-/ match e with
 | some val=>false
 | none=>true))==(u==(0:Int)))]))
 (br #[.pointer e,.pointer j,.bool false,.bool false]))
 (br #[.pointer e,.pointer j,.bool false,.bool false]))
 (br #[.pointer e,.pointer j,.bool false,.bool false]))
def rh (a:ZC) (b c:Nat):bQ Tryz.prog [] Tryz.f12 [.slice a b c]=mj a b c:=az
end Go.Sx
