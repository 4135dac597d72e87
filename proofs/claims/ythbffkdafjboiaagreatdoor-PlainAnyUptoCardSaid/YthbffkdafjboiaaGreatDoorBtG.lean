/- Trees of functions. No condition. -/
import Derived.Test.YthbffkdafjboiaaGreatDoorSxF
import Derived.Test.YthbffkdafjboiaaGreatDoorProg
import Derived.KernelRfl
set_option linter.all false
set_option maxRecDepth 100000
set_option maxHeartbeats 4000000
namespace Go.Sx
open Go.Proofs
def ka (a:Xac) (b c:Nat):T :=
 T.new [vI 0,vI 0,bX] 75 fun d =>
 bJ 48 [.slice a b c] false [(true,[.int .i64,.int .i64,.string])] fun e f g =>
 T.new [vI 0,vI 0,bX] 75 fun h =>
 T.aC h [vI e,vI f,.string g] <|
 T.ah h [.int .i64] fun i =>
 cond (i != (0:Int))
 (T.ah h [.int .i64,.int .i64,.string] fun j k l =>
 T.bj [(h,[vI j,vI k,.string l])] <|
 T.aC d [vI j,vI k,.string l] <|
 T.ah d [.int .i64,.int .i64,.string] fun m n o =>
 bn #[.pointer none,.agg #[vI m,vI n,.string o]])
 (T.new [.slice a b c,bq,bq,bq] 81 fun j =>
 T.loop [aP] [vI 0] fun k =>
 bz k b
 (bf k b a fun l =>
 T.ah (l.add (aK k 4)) [.slice 71] fun m n o =>
 bJ 49 [.pointer (some j),vI k,vI 0,.slice m n o] true [] <| bf k b a fun p =>
 T.ah ((p.add (aK k 4)).add 1) [.slice 71] fun q r s =>
 bJ 49 [.pointer (some j),vI k,vI 1,.slice q r s] true [] <| T.again 0 [bg k])
 (T.loop [dl,dl,aP] [bq,bq,vI 0] fun l m n o p q r =>
 bz r b
 (T.loop [dl,dl,aP] [.slice l m n,.slice o p q,vI 0] fun s t u v w x y =>
 bf r b a fun z =>
 T.ah ((z.add (aK r 4)).add 2) [.slice 100] fun A B C =>
 bz y B
 (bf r b a fun D =>
 T.ah ((D.add (aK r 4)).add 2) [.slice 100] fun E F G =>
 bf y F E fun H =>
 T.ah (H.add (aK y 3)) [.string,.slice 117,.int .u32] fun I J K L M =>
 T.new [bX,bq,aH 0] 100 fun N =>
 T.aC N [.string I,.slice J K L,aH M] <|
 T.ah N [.string] fun O =>
 T.ah (N.add 1) (yL 117) fun P Q R S =>
 gS 50 [.pointer (some j),vI r,.string O] fun U =>
 T.bj [((N.add 1),[.slice P Q R,aH S])] <|
 bJ 51 [.pointer (some j),vI r,.agg #[.slice P Q R,aH S]] false [(true,(yL 117))] fun V W X Y =>
 T.bj [(N,[.string O])] <|
 bt (Instr.buildSlice 44 1 #[(0,.agg #[.string U,.slice V W X,aH Y])]) fun Z a0 a1 =>
 T.bj [((N.add 1),[.slice P Q R,aH S]),(N,[.string O])] <|
 bt (Builtin.append_ #[44,44] 44 #[.slice s t u,.slice Z a0 a1]) fun a2 a3 a4 =>
 T.bj [((N.add 1),[.slice P Q R,aH S]),(N,[.string O])] <|
 bt (Instr.buildSlice 31 1 #[(0,vI y)]) fun a5 a6 a7 =>
 bt (Builtin.append_ #[31,31] 31 #[.slice v w x,.slice a5 a6 a7]) fun a8 a9 b0 =>
 T.again 2 [.slice a2 a3 a4,.slice a8 a9 b0,bg y])
 (T.again 1 [.slice s t u,.slice v w x,bg r]))
 (bJ 52 [.slice l m n] true [(false,[.slice 100]),aP,aP] fun s t u v w =>
 cond (w != (0:Int))
 (T.loop [aP,aP] [vI 0,vI v] fun x y =>
 bf x b a fun z =>
 T.ah ((z.add (aK x 4)).add 2) [.slice 100] fun A B C =>
 cond (decide (y>=(B:Int)))
 (bf x b a fun D =>
 T.ah ((D.add (aK x 4)).add 2) [.slice 100] fun E F G =>
 T.again 2 [bg x,vI (bm (y-(F:Int)))])
 (bf x b a fun D =>
 T.ah ((D.add (aK x 4)).add 2) [.slice 100] fun E F G =>
 bf v p o fun H =>
 T.ah (H.add (aK v 1)) [.int .i64] fun I =>
 bf I F E fun J =>
 T.ah (J.add (aK I 3)) [.string] fun K =>
 T.bj [((J.add (aK I 3)),[.string K]),((H.add (aK v 1)),[vI I]),(((D.add (aK x 4)).add 2),[.slice E F G])] <|
 T.aC d [vI 24,vI x,.string K] <|
 T.ah d [.int .i64,.int .i64,.string] fun L M N =>
 bn #[.pointer none,.agg #[vI L,vI M,.string N]]))
 (T.loop [aP] [vI 0] fun x =>
 bz x b
 (T.ah (j.add 2) [.slice 43] fun y z A =>
 bf x b a fun B =>
 T.ah (B.add (aK x 4)) [.slice 71] fun C D E =>
 bJ 53 [.pointer (some j),vI x,.slice C D E,.slice s t u] false [(false,[.slice 71])] fun F G H =>
 T.bj [((j.add 2),[.slice y z A])] <|
 bt (Instr.buildSlice 79 1 #[(0,.slice F G H)]) fun I J K =>
 T.bj [((B.add (aK x 4)),[.slice C D E]),((j.add 2),[.slice y z A])] <|
 bt (Builtin.append_ #[79,79] 79 #[.slice y z A,.slice I J K]) fun L M N =>
 T.bj [((B.add (aK x 4)),[.slice C D E])] <|
 T.aC (j.add 2) [.slice L M N] <|
 T.ah (j.add 3) [.slice 43] fun O P Q =>
 bf x b a fun R =>
 T.ah ((R.add (aK x 4)).add 1) [.slice 71] fun S U V =>
 bJ 53 [.pointer (some j),vI x,.slice S U V,.slice s t u] false [(false,[.slice 71])] fun W X Y =>
 T.bj [((j.add 3),[.slice O P Q])] <|
 bt (Instr.buildSlice 79 1 #[(0,.slice W X Y)]) fun Z a0 a1 =>
 T.bj [(((R.add (aK x 4)).add 1),[.slice S U V]),((j.add 3),[.slice O P Q])] <|
 bt (Builtin.append_ #[79,79] 79 #[.slice O P Q,.slice Z a0 a1]) fun a2 a3 a4 =>
 T.bj [(((R.add (aK x 4)).add 1),[.slice S U V])] <|
 T.aC (j.add 3) [.slice a2 a3 a4] <|
 T.again 2 [bg x])
 (T.aC d [vI 0,vI 0,bX] <|
 T.ah d [.int .i64,.int .i64,.string] fun y z A =>
 bn #[.pointer (some j),.agg #[vI y,vI z,.string A]])))))
def nX (a:Xac) (b c:Nat):bM Tryz.prog [] Tryz.f26 [.slice a b c]=ka a b c:=az
def ir (a:Xac) (b c:Nat):T :=
 T.new [vI 0,vI 0,bX] 75 fun d =>
 cond ((b:Int)==(0:Int))
 (T.aC d [vI 25,vI 0,bX] <|
 T.ah d [.int .i64,.int .i64,.string] fun e f g =>
 T.ret (.agg #[vI e,vI f,.string g]))
 (cond (decide ((b:Int)>(64:Int)))
 (T.aC d [vI 4,vI 0,bX] <|
 T.ah d [.int .i64,.int .i64,.string] fun e f g =>
 T.ret (.agg #[vI e,vI f,.string g]))
 (T.loop [aP] [vI 0] fun e =>
 bz e b
 (bf e b a fun f =>
 T.ah (f.add (aK e 4)) (yU 71 100) fun g h i j k l m n o p q r =>
 ct 71 [.agg #[.slice g h i,.slice j k l,.slice m n o,.slice p q r]] fun s =>
 cond (s != (0:Int))
 (T.aC d [vI 31,vI e,bX] <|
 T.ah d [.int .i64,.int .i64,.string] fun t u v =>
 T.ret (.agg #[vI t,vI u,.string v]))
 (T.again 0 [bg e]))
 (T.loop [aP] [vI 0] fun f =>
 bz f b
 (T.loop [aP] [vI 0] fun g =>
 bf f b a fun h =>
 T.ah ((h.add (aK f 4)).add 3) [.slice 9] fun i j k =>
 bz g j
 (T.loop [aP] [vI 0] fun l =>
 cond (decide (l<f))
 (bf l b a fun m =>
 T.ah ((m.add (aK l 4)).add 3) [.slice 9] fun n o p =>
 bf f b a fun q =>
 T.ah ((q.add (aK f 4)).add 3) [.slice 9] fun r s t =>
 bf g s r fun u =>
 T.ah (u.add (aK g 1)) [.string] fun v =>
 aX 57 [.slice n o p,.string v] fun w =>
 T.bj [(((q.add (aK f 4)).add 3),[.slice r s t])] <|
 cond w
 (bf f b a fun x =>
 T.ah ((x.add (aK f 4)).add 3) [.slice 9] fun y z A =>
 bf g z y fun B =>
 T.ah (B.add (aK g 1)) [.string] fun C =>
 T.aC d [vI 22,vI f,.string C] <|
 T.ah d [.int .i64,.int .i64,.string] fun D E F =>
 T.ret (.agg #[vI D,vI E,.string F]))
 (T.again 3 [bg l]))
 (T.again 2 [bg g]))
 (T.again 1 [bg f]))
 (T.loop [aP] [vI 0] fun g =>
 bz g b
 (gS 72 [.slice a b c,vI g] fun h =>
 cond (!((ByteArray.toList h)==[]))
 (T.aC d [vI 23,vI g,.string h] <|
 T.ah d [.int .i64,.int .i64,.string] fun i j k =>
 T.ret (.agg #[vI i,vI j,.string k]))
 (T.again 2 [bg g]))
 (T.aC d [vI 0,vI 0,bX] <|
 T.ah d [.int .i64,.int .i64,.string] fun h i j =>
 T.ret (.agg #[vI h,vI i,.string j]))))))
def lU (a:Xac) (b c:Nat):bM Tryz.prog [] Tryz.f48 [.slice a b c]=ir a b c:=az
def eY (a:Xac) (b:Int) (c:Int) (d:Xac) (e f:Nat):T :=
 T.loop [aP] [vI 0] fun g =>
 bz g e
 (bf g e d fun h =>
 T.ah (h.add (aK g 10)) [.int .i64] fun i =>
 cond (i==(1:Int))
 (T.bi a fun j =>
 T.ah (j.add 1) [.slice 158] fun k l m =>
 bf g e d fun n =>
 T.ah ((n.add (aK g 10)).add 1) [.string] fun o =>
 bt (Instr.buildSlice 78 1 #[(0,.agg #[vI b,vI c,vI g,.string o])]) fun p q r =>
 T.bj [(((n.add (aK g 10)).add 1),[.string o]),((j.add 1),[.slice k l m])] <|
 bt (Builtin.append_ #[78,78] 78 #[.slice k l m,.slice p q r]) fun s t u =>
 T.bj [(((n.add (aK g 10)).add 1),[.string o])] <|
 T.bi a fun v =>
 T.aC (v.add 1) [.slice s t u] <|
 T.again 0 [bg g])
 (T.again 0 [bg g]))
 (bn #[])
def iB (a:Xac) (b:Int) (c:Int) (d:Xac) (e f:Nat):bM Tryz.prog [] Tryz.f49 [.pointer a,vI b,vI c,.slice d e f]=eY a b c d e f:=az
def fg (a:Xac) (b:Int) (c:Xaa):T :=
 T.bi a fun d =>
 T.ah d [.slice 47] fun e f g =>
 ct 73 [.slice e f g,vI b,.string c] fun h =>
 T.loop [(false,[.string]),aP] [bX,vI 0] fun i j =>
 T.bi a fun k =>
 T.ah (k.add 1) [.slice 158] fun l m n =>
 bz j m
 (T.bi a fun o =>
 T.ah (o.add 1) [.slice 158] fun p q r =>
 bf j q p fun s =>
 T.ah (s.add (aK j 4)) [.int .i64] fun t =>
 cond (t==h)
 (T.bi a fun u =>
 T.ah (u.add 1) [.slice 158] fun v w x =>
 bf j w v fun y =>
 T.ah ((y.add (aK j 4)).add 3) [.string] fun z =>
 cond ((ByteArray.toList z)==(ByteArray.toList c))
 (gS 74 [vI j] fun A =>
 T.need ((((1+A.size):Nat):Int)<=(9223372036854775807:Int)) <|
 T.ret (.string (⟨#[76]⟩++A)))
 (T.again 0 [.string i,bg j]))
 (T.again 0 [.string i,bg j]))
 (gS 74 [vI h] fun o =>
 T.need ((((1+o.size):Nat):Int)<=(9223372036854775807:Int)) <|
 T.need (((((ByteArray.size (⟨#[69]⟩++o))+1):Nat):Int)<=(9223372036854775807:Int)) <|
 T.need (((((ByteArray.size ((⟨#[69]⟩++o)++⟨#[95]⟩))+c.size):Nat):Int)<=(9223372036854775807:Int)) <|
 T.ret (.string (((⟨#[69]⟩++o)++⟨#[95]⟩)++c)))
def iU (a:Xac) (b:Int) (c:Xaa):bM Tryz.prog [] Tryz.f50 [.pointer a,vI b,.string c]=fg a b c:=az
def eW (a:Xac) (b:Int) (c:Xac) (d e:Nat) (f:Int):T :=
 T.new [.slice c d e,aH f] 69 fun g =>
 T.new [bq,aH 0] 69 fun h =>
 T.ah (g.add 1) [.int .u32] fun i =>
 T.new [bq,aH 0] 69 fun j =>
 T.aC j [bq,aH i] <|
 T.loop [aP] [vI 0] fun k =>
 T.ah g [.slice 117] fun l m n =>
 bz k m
 (T.ah j (yL 117) fun o p q r =>
 T.ah g [.slice 117] fun s t u =>
 bf k t s fun v =>
 T.ah (v.add (aK k 2)) [.string] fun w =>
 T.ah g [.slice 117] fun x y z =>
 bf k y x fun A =>
 T.ah ((A.add (aK k 2)).add 1) [.int .u32] fun B =>
 gS 50 [.pointer a,vI b,.string w] fun C =>
 T.bj [(((A.add (aK k 2)).add 1),[aH B]),(g,[.slice x y z]),(g,[.slice s t u]),(j,[.slice o p q,aH r])] <|
 bt (Instr.buildSlice 66 1 #[(0,.agg #[.string C,aH B])]) fun D E F =>
 T.bj [(((A.add (aK k 2)).add 1),[aH B]),(g,[.slice x y z]),((v.add (aK k 2)),[.string w]),(g,[.slice s t u]),(j,[.slice o p q,aH r])] <|
 bJ 75 [.agg #[.slice o p q,aH r],.agg #[.slice D E F,aH 0]] false [(true,(yL 117))] fun G H I J =>
 T.bj [(((A.add (aK k 2)).add 1),[aH B]),(g,[.slice x y z]),((v.add (aK k 2)),[.string w]),(g,[.slice s t u])] <|
 T.aC j [.slice G H I,aH J] <|
 T.again 0 [bg k])
 (T.ah j (yL 117) fun o p q r =>
 T.aC h [.slice o p q,aH r] <|
 T.ah h (yL 117) fun s t u v =>
 T.ret (.agg #[.slice s t u,aH v]))
def iA (a:Xac) (b:Int) (c:Xac) (d e:Nat) (f:Int):bM Tryz.prog [] Tryz.f51 [.pointer a,vI b,.agg #[.slice c d e,.int .u32 f]]=eW a b c d e f:=az
def eN (a:Xac) (b:Int) (c:Xac) (d e:Nat) (f:Xac) (g h:Nat):T :=
 bt (Instr.buildSlice 43 0 #[]) fun i j k =>
 bt (Builtin.append_ #[43,43] 43 #[.slice i j k,.slice c d e]) fun l m n =>
 T.loop [aP] [vI 0] fun o =>
 bz o m
 (bf o m l fun p =>
 T.ah ((p.add (aK o 10)).add 7) (yL 117) fun q r s t =>
 bJ 51 [.pointer a,vI b,.agg #[.slice q r s,aH t]] false [(true,(yL 117))] fun u v w x =>
 bJ 77 [.agg #[.slice u v w,aH x],.slice f g h] false [(true,(yL 117))] fun y z A B =>
 bf o m l fun C =>
 T.aC ((C.add (aK o 10)).add 7) [.slice y z A,aH B] <|
 T.again 0 [bg o])
 (T.ret (.slice l m n))
def hQ (a:Xac) (b:Int) (c:Xac) (d e:Nat) (f:Xac) (g h:Nat):bM Tryz.prog [] Tryz.f53 [.pointer a,vI b,.slice c d e,.slice f g h]=eN a b c d e f g h:=az
def jo (a:Xac) (b c:Nat) (d:Int) (e:Xaa):T :=
 bf d b a fun f =>
 T.ah (f.add (aK d 4)) (yU 71 100) fun g h i j k l m n o p q r =>
 bJ 98 [.agg #[.slice g h i,.slice j k l,.slice m n o,.slice p q r]] false [(false,[.slice 9])] fun s t u =>
 aX 57 [.slice s t u,.string e] fun v =>
 cond v
 (T.ret (vI d))
 (T.loop [aP,aP] [vI 0,vI 0] fun w x =>
 bz x b
 (bf x b a fun y =>
 T.ah ((y.add (aK x 4)).add 3) [.slice 9] fun z A B =>
 aX 57 [.slice z A B,.string e] fun C =>
 cond C
 (T.ret (vI x))
 (T.again 0 [vI w,bg x]))
 (T.ret (vI (-1:Int))))
def nE (a:Xac) (b c:Nat) (d:Int) (e:Xaa):bM Tryz.prog [] Tryz.f73 [.slice a b c,vI d,.string e]=jo a b c d e:=az
def gj (a:Xac) (b c:Nat) (d:Int):T :=
 bf d b a fun e =>
 T.ah (e.add (aK d 4)) (yU 71 100) fun f g h i j k l m n o p q =>
 T.new [bq,bq,bq,bq] 47 fun r =>
 T.aC r [.slice f g h,.slice i j k,.slice l m n,.slice o p q] <|
 T.ah r [.slice 71] fun s t u =>
 T.ah (r.add 1) [.slice 71] fun v w x =>
 bt (Instr.buildSlice 43 0 #[]) fun y z A =>
 T.bj [((r.add 1),[.slice v w x]),(r,[.slice s t u])] <|
 bt (Builtin.append_ #[43,43] 43 #[.slice y z A,.slice s t u]) fun B C D =>
 T.bj [((r.add 1),[.slice v w x])] <|
 bt (Builtin.append_ #[43,43] 43 #[.slice B C D,.slice v w x]) fun E F G =>
 T.bj [(r,[.slice s t u])] <|
 T.loop [(false,[.string]),aP] [bX,vI 0] fun H I =>
 bz I F
 (bf I F E fun J =>
 T.ah ((J.add (aK I 10)).add 7) (yL 117) fun K L M N =>
 gS 99 [.slice a b c,vI d,.agg #[.slice K L M,aH N]] fun O =>
 cond (!((ByteArray.toList O)==[]))
 (T.ret (.string O))
 (T.again 0 [.string H,bg I]))
 (T.loop [(false,[.string]),aP] [.string H,vI 0] fun J K =>
 T.ah (r.add 2) [.slice 100] fun L M N =>
 bz K M
 (T.ah (r.add 2) [.slice 100] fun O P Q =>
 bf K P O fun R =>
 T.ah ((R.add (aK K 3)).add 1) (yL 117) fun S U V W =>
 gS 99 [.slice a b c,vI d,.agg #[.slice S U V,aH W]] fun X =>
 cond (!((ByteArray.toList X)==[]))
 (T.ret (.string X))
 (T.again 1 [.string J,bg K]))
 (T.ret (bX)))
def kr (a:Xac) (b c:Nat) (d:Int):bM Tryz.prog [] Tryz.f72 [.slice a b c,vI d]=gj a b c d:=az
def iK (a:Int):T :=
 T.loop [aP,(false,[.string])] [vI a,bX] fun b c =>
 cond (decide (b>(0:Int)))
 (T.need ((10:Int)≠(0:Int)) <|
 bt (Instr.buildSlice 194 1 #[(0,.int .u8 (IntKind.wrap .u8 (bm ((48:Int)+(Int.tmod b (10:Int))))))]) fun d e f =>
 bU (convert 194 9 (.slice d e f)) false [(false,[.string])] fun g =>
 T.need ((((g.size+c.size):Nat):Int)<=(9223372036854775807:Int)) <|
 T.need ((10:Int)≠(0:Int)) <|
 T.again 0 [vI (bm (Int.tdiv b (10:Int))),.string (g++c)])
 (cond ((ByteArray.toList c)==[])
 (T.need ((10:Int)≠(0:Int)) <|
 bt (Instr.buildSlice 194 1 #[(0,.int .u8 (IntKind.wrap .u8 (bm ((48:Int)+(Int.tmod b (10:Int))))))]) fun d e f =>
 bU (convert 194 9 (.slice d e f)) false [(false,[.string])] fun g =>
 T.need ((((g.size+c.size):Nat):Int)<=(9223372036854775807:Int)) <|
 T.need ((10:Int)≠(0:Int)) <|
 T.again 0 [vI (bm (Int.tdiv b (10:Int))),.string (g++c)])
 (T.ret (.string c)))
def mJ (a:Int):bM Tryz.prog [] Tryz.f74 [vI a]=iK a:=az
def jj (a:Xac) (b c:Nat) (d:Int) (e:Xac) (f g:Nat) (h:Int):T :=
 T.new [.slice e f g,aH h] 69 fun i =>
 T.loop [(false,[.string]),aP] [bX,vI 0] fun j k =>
 T.ah i [.slice 117] fun l m n =>
 bz k m
 (T.ah i [.slice 117] fun o p q =>
 bf k p o fun r =>
 T.ah (r.add (aK k 2)) [.string] fun s =>
 ct 73 [.slice a b c,vI d,.string s] fun t =>
 cond (decide (t<(0:Int)))
 (T.ah i [.slice 117] fun u v w =>
 bf k v u fun x =>
 T.ah (x.add (aK k 2)) [.string] fun y =>
 T.ret (.string y))
 (T.again 0 [.string j,bg k]))
 (T.ret (bX))
def nH (a:Xac) (b c:Nat) (d:Int) (e:Xac) (f g:Nat) (h:Int):bM Tryz.prog [] Tryz.f99 [.slice a b c,vI d,.agg #[.slice e f g,.int .u32 h]]=jj a b c d e f g h:=az
def yu (a:Xac) (b c:Nat):T :=
 T.new [vI 0,vI 0,bX] 54 fun d =>
 cond ((b:Int)==(0:Int))
 (T.aC d [vI 25,vI 0,bX] <|
 T.ah d [.int .i64,.int .i64,.string] fun e f g =>
 bn #[.pointer none,.agg #[vI e,vI f,.string g]])
 (cond (decide ((b:Int)>(64:Int)))
 (T.aC d [vI 4,vI 0,bX] <|
 T.ah d [.int .i64,.int .i64,.string] fun e f g =>
 bn #[.pointer none,.agg #[vI e,vI f,.string g]])
 (T.loop [(false,[.pointer 0]),aP] [.pointer none,vI 0] fun e f =>
 bz f b
 (bf f b a fun g =>
 T.ah (g.add (aK f 4)) (yU 71 100) fun h i j k l m n o p q r s =>
 T.new [bq,bq,bq,bq] 47 fun t =>
 T.aC t [.slice h i j,.slice k l m,.slice n o p,.slice q r s] <|
 T.ah t (yU 71 100) fun u v w x y z A B C D E F =>
 ct 30 [.agg #[.slice u v w,.slice x y z,.slice A B C,.slice D E F]] fun G =>
 cond (G != (0:Int))
 (T.aC d [vI 31,vI f,bX] <|
 T.ah d [.int .i64,.int .i64,.string] fun H I J =>
 bn #[.pointer none,.agg #[vI H,vI I,.string J]])
 (T.again 0 [.pointer e,bg f]))
 (bU (Instr.makeMap 88 none) false [(false,[.map 0 0])] fun g =>
 bU (Instr.makeMap 88 none) false [(false,[.map 0 0])] fun h =>
 bU (Instr.makeMap 89 none) false [(false,[.map 0 0])] fun i =>
 T.new [bq,bq,.map g,.map h,.map i,bq,vI 0] 92 fun j =>
 bJ 31 [.pointer (some j),.slice a b c] true [] <| bJ 32 [.pointer (some j),.slice a b c] true [(true,[.int .i64,.int .i64,.string]),bR] fun k l m n =>
 T.new [vI 0,vI 0,bX] 54 fun o =>
 T.aC o [vI k,vI l,.string m] <|
 cond n
 (T.ah o [.int .i64,.int .i64,.string] fun p q r =>
 T.bj [(o,[vI p,vI q,.string r])] <|
 T.aC d [vI p,vI q,.string r] <|
 T.ah d [.int .i64,.int .i64,.string] fun s t u =>
 bn #[.pointer none,.agg #[vI s,vI t,.string u]])
 (T.loop [(false,[.pointer 0]),dl,dl,aP] [.pointer e,bq,bq,vI 0] fun p q r s t u v w =>
 bz w b
 (bf w b a fun x =>
 T.ah (x.add (aK w 4)) (yU 71 100) fun y z A B C D E F G H I J =>
 T.new [bq,bq,bq,bq] 47 fun K =>
 T.aC K [.slice y z A,.slice B C D,.slice E F G,.slice H I J] <|
 T.new [bq,bq,bq,bq] 47 fun L =>
 T.ah K [.slice 71] fun M N O =>
 bJ 33 [.pointer (some j),vI w,.slice M N O] true [(false,[.slice 71]),(false,[.string]),bR] fun P Q R S U =>
 T.aC L [.slice P Q R] <|
 cond (!U)
 (T.aC d [vI 23,vI w,.string S] <|
 T.ah d [.int .i64,.int .i64,.string] fun V W X =>
 bn #[.pointer none,.agg #[vI V,vI W,.string X]])
 (T.ah (K.add 1) [.slice 71] fun V W X =>
 bJ 33 [.pointer (some j),vI w,.slice V W X] true [(false,[.slice 71]),(false,[.string]),bR] fun Y Z a0 a1 a2 =>
 T.aC (L.add 1) [.slice Y Z a0] <|
 cond (!a2)
 (T.aC d [vI 23,vI w,.string a1] <|
 T.ah d [.int .i64,.int .i64,.string] fun a3 a4 a5 =>
 bn #[.pointer none,.agg #[vI a3,vI a4,.string a5]])
 (T.ah (K.add 2) [.slice 100] fun a3 a4 a5 =>
 T.loop [(false,[.pointer 0]),dl,dl,aP] [.pointer p,.slice q r s,.slice t u v,vI 0] fun a6 a7 a8 a9 b0 b1 b2 b3 =>
 bz b3 a4
 (bf b3 a4 a3 fun b4 =>
 T.ah (b4.add (aK b3 3)) [.string,.slice 117,.int .u32] fun b5 b6 b7 b8 b9 =>
 T.new [bX,bq,aH 0] 100 fun c0 =>
 T.aC c0 [.string b5,.slice b6 b7 b8,aH b9] <|
 T.ah (c0.add 1) (yL 117) fun c1 c2 c3 c4 =>
 bJ 34 [.pointer (some j),vI w,.agg #[.slice c1 c2 c3,aH c4]] true [(true,(yL 117)),(false,[.string]),bR] fun c5 c6 c7 c8 c9 d0 =>
 T.new [bq,aH 0] 69 fun d1 =>
 T.aC d1 [.slice c5 c6 c7,aH c8] <|
 cond (!d0)
 (T.aC d [vI 23,vI w,.string c9] <|
 T.ah d [.int .i64,.int .i64,.string] fun d2 d3 d4 =>
 bn #[.pointer none,.agg #[vI d2,vI d3,.string d4]])
 (T.ah c0 [.string] fun d2 =>
 T.ah d1 (yL 117) fun d3 d4 d5 d6 =>
 gS 35 [.pointer (some j),.agg #[vI w,.string d2]] fun d7 =>
 T.bj [(d1,[.slice d3 d4 d5,aH d6]),(c0,[.string d2])] <|
 bt (Instr.buildSlice 44 1 #[(0,.agg #[.string d7,.slice d3 d4 d5,aH d6])]) fun d8 d9 e0 =>
 T.bj [(d1,[.slice d3 d4 d5,aH d6]),(c0,[.string d2])] <|
 bt (Builtin.append_ #[44,44] 44 #[.slice a7 a8 a9,.slice d8 d9 e0]) fun e1 e2 e3 =>
 T.bj [(d1,[.slice d3 d4 d5,aH d6]),(c0,[.string d2])] <|
 T.ah c0 [.string] fun e4 =>
 bt (Instr.buildSlice 96 1 #[(0,.agg #[vI w,.string e4])]) fun e5 e6 e7 =>
 bt (Builtin.append_ #[96,96] 96 #[.slice b0 b1 b2,.slice e5 e6 e7]) fun e8 e9 f0 =>
 T.again 2 [.pointer a6,.slice e1 e2 e3,.slice e8 e9 f0,bg b3]))
 (T.ah j [.slice 47] fun b4 b5 b6 =>
 T.ah L (yU 71 100) fun b7 b8 b9 c0 c1 c2 c3 c4 c5 c6 c7 c8 =>
 bt (Instr.buildSlice 30 1 #[(0,.agg #[.slice b7 b8 b9,.slice c0 c1 c2,.slice c3 c4 c5,.slice c6 c7 c8])]) fun c9 d0 d1 =>
 T.bj [(j,[.slice b4 b5 b6])] <|
 bt (Builtin.append_ #[30,30] 30 #[.slice b4 b5 b6,.slice c9 d0 d1]) fun d2 d3 d4 =>
 T.bj [(L,[.slice b7 b8 b9,.slice c0 c1 c2,.slice c3 c4 c5,.slice c6 c7 c8])] <|
 T.aC j [.slice d2 d3 d4] <|
 T.ah (j.add 6) [.int .i64] fun d5 =>
 T.ah K (yU 71 100) fun d6 d7 d8 d9 e0 e1 e2 e3 e4 e5 e6 e7 =>
 ct 36 [.agg #[.slice d6 d7 d8,.slice d9 e0 e1,.slice e2 e3 e4,.slice e5 e6 e7]] fun e8 =>
 T.bj [((j.add 6),[vI d5])] <|
 T.aC (j.add 6) [vI (bm (d5+e8))] <|
 T.again 1 [.pointer a6,.slice a7 a8 a9,.slice b0 b1 b2,bg w]))))
 (bJ 37 [.slice q r s] true [(false,[.slice 100]),aP,aP] fun x y z A B =>
 cond (B != (0:Int))
 (bf A u t fun C =>
 T.ah (C.add (aK A 2)) [.int .i64] fun D =>
 bf A u t fun E =>
 T.ah ((E.add (aK A 2)).add 1) [.string] fun F =>
 T.bj [(((E.add (aK A 2)).add 1),[.string F]),((C.add (aK A 2)),[vI D])] <|
 T.aC d [vI B,vI D,.string F] <|
 T.ah d [.int .i64,.int .i64,.string] fun G H I =>
 bn #[.pointer none,.agg #[vI G,vI H,.string I]])
 (T.ah j [.slice 47] fun C D E =>
 T.loop [aP] [vI 0] fun F =>
 bz F D
 (bf F D C fun G =>
 T.ah (G.add (aK F 4)) (yU 71 100) fun H I J K L M N O P Q R S =>
 T.new [bq,bq,bq,bq] 47 fun U =>
 T.aC U [.slice H I J,.slice K L M,.slice N O P,.slice Q R S] <|
 T.ah U [.slice 71] fun V W X =>
 T.ah (U.add 1) [.slice 71] fun Y Z a0 =>
 bt (Instr.buildSlice 79 2 #[(0,.slice V W X),(1,.slice Y Z a0)]) fun a1 a2 a3 =>
 T.loop [aP] [vI 0] fun a4 =>
 bz a4 a2
 (bf a4 a2 a1 fun a5 =>
 T.ah (a5.add (aK a4 1)) [.slice 71] fun a6 a7 a8 =>
 T.loop [aP] [vI 0] fun a9 =>
 bz a9 a7
 (bf a9 a7 a6 fun b0 =>
 T.ah ((b0.add (aK a9 10)).add 7) (yL 117) fun b1 b2 b3 b4 =>
 bJ 38 [.agg #[.slice b1 b2 b3,aH b4],.slice x y z] false [(true,(yL 117))] fun b5 b6 b7 b8 =>
 bf a9 a7 a6 fun b9 =>
 T.aC ((b9.add (aK a9 10)).add 7) [.slice b5 b6 b7,aH b8] <|
 T.again 4 [bg a9])
 (T.again 3 [bg a4]))
 (T.again 2 [bg F]))
 (T.aC d [vI 0,vI 0,bX] <|
 T.ah d [.int .i64,.int .i64,.string] fun G H I =>
 bn #[.pointer (some j),.agg #[vI G,vI H,.string I]])))))))
def zE (a:Xac) (b c:Nat):bM Tryz.prog [] Tryz.f18 [.slice a b c]=yu a b c:=az
def mW (a:Xac) (b c:Nat):T :=
 aX 25 [.slice a b c] fun d =>
 cond d
 (bn #[.pointer none,.pointer none,.bool false,.bool true])
 (bJ 18 [.slice a b c] true [(false,[.pointer 92]),(true,[.int .i64,.int .i64,.string])] fun e f g h =>
 T.new [vI 0,vI 0,bX] 54 fun i =>
 T.aC i [vI f,vI g,.string h] <|
 bJ 26 [.slice a b c] true [(false,[.pointer 81]),(true,[.int .i64,.int .i64,.string])] fun j k l m =>
 T.new [vI 0,vI 0,bX] 75 fun n =>
 T.aC n [vI k,vI l,.string m] <|
 T.ah i [.int .i64] fun o =>
 T.ah n [.int .i64] fun p =>
 cond (o==p)
 (T.ah (i.add 1) [.int .i64] fun q =>
 T.ah (n.add 1) [.int .i64] fun r =>
 cond (q==r)
 (T.ah (i.add 2) [.string] fun s =>
 T.ah (n.add 2) [.string] fun t =>
 cond ((ByteArray.toList s)==(ByteArray.toList t))
 (T.ah n [.int .i64] fun u =>
 cond ((!(/-?Option.isSome.match_1-/ match e with
 | some val=>false
 | none=>true))==(u==(0:Int)))
 (bn #[.pointer e,.pointer j,.bool (!(/-?Option.isSome.match_1-/ match e with
 | some val=>false
 | none=>true)),.bool ((!(/-?Option.isSome.match_1-/ match e with
 | some val=>false
 | none=>true))==(u==(0:Int)))])
 (bn #[.pointer e,.pointer j,.bool false,.bool ((!(/-?Option.isSome.match_1-/ match e with
 | some val=>false
 | none=>true))==(u==(0:Int)))]))
 (bn #[.pointer e,.pointer j,.bool false,.bool false]))
 (bn #[.pointer e,.pointer j,.bool false,.bool false]))
 (bn #[.pointer e,.pointer j,.bool false,.bool false]))
def rU (a:Xac) (b c:Nat):bM Tryz.prog [] Tryz.f12 [.slice a b c]=mW a b c:=az
def x7 (a:Xac) (b:Xac) (c d:Nat):T :=
 T.new [vI 0,vI 0,vI 0,vI 0] 25 fun e =>
 cond (/-?Option.isSome.match_1-/ match a with
 | some val=>false
 | none=>true)
 (T.aC e [vI 0,vI 0,vI 0,vI 0] <|
 T.ah e [.int .i64,.int .i64,.int .i64,.int .i64] fun f g h i =>
 bn #[.agg #[vI f,vI g,vI h,vI i],.bool false])
 (bJ 20 [.pointer a] false [(true,[.pointer 92,.map 9 4])] fun f g =>
 T.new [.pointer none,.map none] 60 fun h =>
 T.aC h [.pointer f,.map g] <|
 ct 21 [.pointer a] fun i =>
 T.loop [bR,aP] [.bool false,vI 0] fun j k =>
 cond (decide (k<i))
 (T.loop [bR,aP] [.bool j,vI 0] fun l m =>
 cond (decide (m<(2:Int)))
 (bJ 22 [.pointer a,vI k,vI m] false [(false,[.slice 71])] fun n o p =>
 T.loop [bR,aP] [.bool l,vI 0] fun q r =>
 bz r o
 (bf r o n fun s =>
 T.ah (s.add (aK r 10)) (yI 117) fun t u v w x y z A B C D E =>
 T.new [vI 0,bX,vI 0,vI 0,vI 0,.int .i32 0,vI 0,bq,aH 0,vI 0] 71 fun F =>
 T.aC F [vI t,.string u,vI v,vI w,vI x,.int .i32 y,vI z,.slice A B C,aH D,vI E] <|
 T.loop [bR,aP] [.bool q,vI 1] fun G H =>
 cond (decide (H<=(4:Int)))
 (aX 23 [.slice b c d,vI H] fun I =>
 cond I
 (T.ah h [.pointer 92,.map 9 4] fun J K =>
 T.ah F (yI 117) fun L M N O P Q R S U V W X =>
 aX 24 [.agg #[.pointer J,.map K],.agg #[vI L,.string M,vI N,vI O,vI P,.int .i32 Q,vI R,.slice S U V,aH W,vI X],vI m,vI H] fun Y =>
 cond Y
 (T.aC e [vI k,vI m,vI r,vI H] <|
 T.ah e [.int .i64,.int .i64,.int .i64,.int .i64] fun Z a0 a1 a2 =>
 bn #[.agg #[vI Z,vI a0,vI a1,vI a2],.bool true])
 (T.again 3 [.bool G,bg H]))
 (T.again 3 [.bool G,bg H]))
 (T.again 2 [.bool G,bg r]))
 (T.again 1 [.bool q,bg m]))
 (T.again 0 [.bool l,bg k]))
 (T.aC e [vI 0,vI 0,vI 0,vI 0] <|
 T.ah e [.int .i64,.int .i64,.int .i64,.int .i64] fun l m n o =>
 bn #[.agg #[vI l,vI m,vI n,vI o],.bool false]))
def Ba (a:Xac) (b:Xac) (c d:Nat):bM Tryz.prog [] Tryz.f10 [.pointer a,.slice b c d]=x7 a b c d:=az
def AE (a:Xac):T :=
 T.new [.pointer none,.map none] 60 fun b =>
 bU (Instr.makeMap 58 none) false [(false,[.map 0 0])] fun c =>
 bJ 39 [.pointer a] false [(false,[.slice 112])] fun d e f =>
 T.loop [aP] [vI 0] fun g =>
 bz g e
 (bf g e d fun h =>
 T.ah (h.add (aK g 4)) [.int .i64,.int .i64,.int .i64,.string] fun i j k l =>
 T.new [vI 0,vI 0,vI 0,bX] 112 fun m =>
 T.aC m [vI i,vI j,vI k,.string l] <|
 T.ah (m.add 1) [.int .i64] fun n =>
 gS 40 [vI g] fun o =>
 T.bj [((m.add 1),[vI n])] <|
 T.need ((((1+o.size):Nat):Int)<=(9223372036854775807:Int)) <|
 T.ey Tryz.prog (Instr.mapUpdate 58 (.map c) (.string (⟨#[76]⟩++o)) (.bool (n==(0:Int)))) <|
 T.again 0 [bg g])
 (T.aC b [.pointer a,.map c] <|
 T.ah b [.pointer 92,.map 9 4] fun h i =>
 T.ret (.agg #[.pointer h,.map i]))
def Bj (a:Xac):bM Tryz.prog [] Tryz.f20 [.pointer a]=AE a:=az
def fC (a:Xac) (b c:Nat) (d:Int):T :=
 ct 43 [.slice a b c,vI d] fun e =>
 T.ret (.bool (decide (e>=(0:Int))))
def jb (a:Xac) (b c:Nat) (d:Int):bM Tryz.prog [] Tryz.f23 [.slice a b c,vI d]=fC a b c d:=az
def gk (a:Xac) (b c:Nat) (d:Int):T :=
 T.loop [aP,aP] [vI 0,vI 0] fun e f =>
 bz f b
 (bf f b a fun g =>
 T.ah (g.add (aK f 1)) [.int .i64] fun h =>
 cond (d==h)
 (T.ret (vI f))
 (T.again 0 [vI e,bg f]))
 (T.ret (vI (-1:Int)))
def kG (a:Xac) (b c:Nat) (d:Int):bM Tryz.prog [] Tryz.f43 [.slice a b c,vI d]=gk a b c d:=az
end Go.Sx
