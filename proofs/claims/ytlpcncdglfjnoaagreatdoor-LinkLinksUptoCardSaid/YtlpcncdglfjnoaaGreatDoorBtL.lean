/- Trees of functions, each checked by the kernel against the code. No condition. -/
import Derived.Test.YtlpcncdglfjnoaaGreatDoorSxF
import Derived.Test.YtlpcncdglfjnoaaGreatDoorProg
import Derived.KernelRfl
set_option linter.all false
set_option maxRecDepth 100000
set_option maxHeartbeats 4000000
namespace Go.Sx
open Go.Proofs
def jL (a:Option YC) (b c:Nat):T :=
 T.new [vI 0,vI 0,bU] 54 fun d =>
 bF 60 [.slice a b c] false [(true,[.int .i64,.int .i64,.string])] fun e f g =>
 T.new [vI 0,vI 0,bU] 54 fun h =>
 T.aD h [vI e,vI f,.string g] <|
 T.ah h [.int .i64] fun i =>
 cond (i != (0:Int))
 (T.ah h [.int .i64,.int .i64,.string] fun j k l =>
 T.aY [(h,[vI j,vI k,.string l])] <|
 T.aD d [vI j,vI k,.string l] <|
 T.ah d [.int .i64,.int .i64,.string] fun m n o =>
 T.ret (.tuple #[.pointer none,.agg #[vI m,vI n,.string o]]))
 (T.new [.slice a b c,bi,bi,bi] 70 fun j =>
 T.loop [aM] [vI 0] fun k =>
 bm k b
 (aX k b a fun l =>
 T.ah (l.add (aH k 4)) [.slice 64] fun m n o =>
 bF 61 [.pointer (some j),vI k,vI 0,.slice m n o] true [] <| aX k b a fun p =>
 T.ah ((p.add (aH k 4)).add 1) [.slice 64] fun q r s =>
 bF 61 [.pointer (some j),vI k,vI 1,.slice q r s] true [] <| T.again 0 [bh k])
 (T.loop [da,da,aM] [bi,bi,vI 0] fun l m n o p q r =>
 bm r b
 (T.loop [da,da,aM] [.slice l m n,.slice o p q,vI 0] fun s t u v w x y =>
 aX r b a fun z =>
 T.ah ((z.add (aH r 4)).add 2) [.slice 88] fun A B C =>
 bm y B
 (aX r b a fun D =>
 T.ah ((D.add (aH r 4)).add 2) [.slice 88] fun E F G =>
 aX y F E fun H =>
 T.ah (H.add (aH y 3)) [.string,.slice 66,.int .u32] fun I J K L M =>
 T.new [bU,bi,.int .u32 0] 88 fun N =>
 T.aD N [.string I,.slice J K L,.int .u32 M] <|
 T.ah N [.string] fun O =>
 T.ah (N.add 1) [.slice 66,.int .u32] fun P Q R S =>
 iA 62 [.pointer (some j),vI r,.string O] fun U =>
 T.aY [((N.add 1),[.slice P Q R,.int .u32 S])] <|
 bF 63 [.pointer (some j),vI r,.agg #[.slice P Q R,.int .u32 S]] false [(true,[.slice 66,.int .u32])] fun V W X Y =>
 T.aY [(N,[.string O])] <|
 bk (Instr.buildSlice 27 1 #[(0,.agg #[.string U,.slice V W X,.int .u32 Y])]) fun Z a0 a1 =>
 T.aY [((N.add 1),[.slice P Q R,.int .u32 S]),(N,[.string O])] <|
 bk (Builtin.append_ #[27,27] 27 #[.slice s t u,.slice Z a0 a1]) fun a2 a3 a4 =>
 T.aY [((N.add 1),[.slice P Q R,.int .u32 S]),(N,[.string O])] <|
 bk (Instr.buildSlice 126 1 #[(0,vI y)]) fun a5 a6 a7 =>
 bk (Builtin.append_ #[126,126] 126 #[.slice v w x,.slice a5 a6 a7]) fun a8 a9 b0 =>
 T.again 2 [.slice a2 a3 a4,.slice a8 a9 b0,bh y])
 (T.again 1 [.slice s t u,.slice v w x,bh r]))
 (bF 64 [.slice l m n] true [(false,[.slice 88]),aM,aM] fun s t u v w =>
 cond (w != (0:Int))
 (T.loop [aM,aM] [vI 0,vI v] fun x y =>
 aX x b a fun z =>
 T.ah ((z.add (aH x 4)).add 2) [.slice 88] fun A B C =>
 cond (decide (y>=(B:Int)))
 (aX x b a fun D =>
 T.ah ((D.add (aH x 4)).add 2) [.slice 88] fun E F G =>
 T.again 2 [bh x,vI (bj (y-(F:Int)))])
 (aX x b a fun D =>
 T.ah ((D.add (aH x 4)).add 2) [.slice 88] fun E F G =>
 aX v p o fun H =>
 T.ah (H.add (aH v 1)) [.int .i64] fun I =>
 aX I F E fun J =>
 T.ah (J.add (aH I 3)) [.string] fun K =>
 T.aY [((J.add (aH I 3)),[.string K]),((H.add (aH v 1)),[vI I]),(((D.add (aH x 4)).add 2),[.slice E F G])] <|
 T.aD d [vI 24,vI x,.string K] <|
 T.ah d [.int .i64,.int .i64,.string] fun L M N =>
 T.ret (.tuple #[.pointer none,.agg #[vI L,vI M,.string N]])))
 (T.loop [aM] [vI 0] fun x =>
 bm x b
 (T.ah (j.add 2) [.slice 26] fun y z A =>
 aX x b a fun B =>
 T.ah (B.add (aH x 4)) [.slice 64] fun C D E =>
 bF 65 [.pointer (some j),vI x,.slice C D E,.slice s t u] false [(false,[.slice 64])] fun F G H =>
 T.aY [((j.add 2),[.slice y z A])] <|
 bk (Instr.buildSlice 68 1 #[(0,.slice F G H)]) fun I J K =>
 T.aY [((B.add (aH x 4)),[.slice C D E]),((j.add 2),[.slice y z A])] <|
 bk (Builtin.append_ #[68,68] 68 #[.slice y z A,.slice I J K]) fun L M N =>
 T.aY [((B.add (aH x 4)),[.slice C D E])] <|
 T.aD (j.add 2) [.slice L M N] <|
 T.ah (j.add 3) [.slice 26] fun O P Q =>
 aX x b a fun R =>
 T.ah ((R.add (aH x 4)).add 1) [.slice 64] fun S U V =>
 bF 65 [.pointer (some j),vI x,.slice S U V,.slice s t u] false [(false,[.slice 64])] fun W X Y =>
 T.aY [((j.add 3),[.slice O P Q])] <|
 bk (Instr.buildSlice 68 1 #[(0,.slice W X Y)]) fun Z a0 a1 =>
 T.aY [(((R.add (aH x 4)).add 1),[.slice S U V]),((j.add 3),[.slice O P Q])] <|
 bk (Builtin.append_ #[68,68] 68 #[.slice O P Q,.slice Z a0 a1]) fun a2 a3 a4 =>
 T.aY [(((R.add (aH x 4)).add 1),[.slice S U V])] <|
 T.aD (j.add 3) [.slice a2 a3 a4] <|
 T.again 2 [bh x])
 (T.aD d [vI 0,vI 0,bU] <|
 T.ah d [.int .i64,.int .i64,.string] fun y z A =>
 T.ret (.tuple #[.pointer (some j),.agg #[vI y,vI z,.string A]]))))))
theorem np (a:Option YC) (b c:Nat):bI Tryz.prog [] Tryz.f26 [.slice a b c]=jL a b c:=az
def eH (a:Option YC):T :=
 T.loop [aM,aM] [vI 0,vI 0] fun b c =>
 T.bd a fun d =>
 T.ah d [.slice 30] fun e f g =>
 bm c f
 (T.bd a fun h =>
 T.ah h [.slice 30] fun i j k =>
 aX c j i fun l =>
 T.ah (l.add (aH c 4)) [.slice 64,.slice 64,.slice 88,.slice 9] fun m n o p q r s t u v w x =>
 cn 68 [.agg #[.slice m n o,.slice p q r,.slice s t u,.slice v w x]] fun y =>
 T.again 0 [vI (bj (b+y)),bh c])
 (T.ret (vI b))
theorem gZ (a:Option YC):bI Tryz.prog [] Tryz.f32 [.pointer a]=eH a:=az
def eU (a:Option YC) (b:Int) (c:YA):T :=
 cond (decide (b<(0:Int)))
 (T.ret (vI (-1:Int)))
 (T.bd a fun d =>
 T.ah d [.slice 30] fun e f g =>
 cond (decide (b>=(f:Int)))
 (T.ret (vI (-1:Int)))
 (T.bd a fun h =>
 T.ah h [.slice 30] fun i j k =>
 cn 69 [.slice i j k,vI b,.string c] fun l =>
 T.loop [aM,aM] [vI 0,vI 0] fun m n =>
 T.bd a fun o =>
 T.ah (o.add 1) [.slice 82] fun p q r =>
 bm n q
 (T.bd a fun s =>
 T.ah (s.add 1) [.slice 82] fun t u v =>
 aX n u t fun w =>
 T.ah (w.add (aH n 4)) [.int .i64] fun x =>
 cond (x==l)
 (T.bd a fun y =>
 T.ah (y.add 1) [.slice 82] fun z A B =>
 aX n A z fun C =>
 T.ah ((C.add (aH n 4)).add 3) [.string] fun D =>
 cond ((ByteArray.toList D)==(ByteArray.toList c))
 (T.ret (vI n))
 (T.again 0 [vI m,bh n]))
 (T.again 0 [vI m,bh n]))
 (T.ret (vI (-1:Int)))))
theorem iC (a:Option YC) (b:Int) (c:YA):bI Tryz.prog [] Tryz.f33 [.pointer a,vI b,.string c]=eU a b c:=az
def gP (a:Option YC) (b c:Nat):T :=
 T.new [vI 0,vI 0,bU] 54 fun d =>
 cond ((b:Int)==(0:Int))
 (T.aD d [vI 25,vI 0,bU] <|
 T.ah d [.int .i64,.int .i64,.string] fun e f g =>
 T.ret (.agg #[vI e,vI f,.string g]))
 (cond (decide ((b:Int)>(64:Int)))
 (T.aD d [vI 4,vI 0,bU] <|
 T.ah d [.int .i64,.int .i64,.string] fun e f g =>
 T.ret (.agg #[vI e,vI f,.string g]))
 (T.loop [aM] [vI 0] fun e =>
 bm e b
 (aX e b a fun f =>
 T.ah (f.add (aH e 4)) [.slice 64,.slice 64,.slice 88,.slice 9] fun g h i j k l m n o p q r =>
 cn 10 [.agg #[.slice g h i,.slice j k l,.slice m n o,.slice p q r]] fun s =>
 cond (s != (0:Int))
 (T.aD d [vI 31,vI e,bU] <|
 T.ah d [.int .i64,.int .i64,.string] fun t u v =>
 T.ret (.agg #[vI t,vI u,.string v]))
 (T.again 0 [bh e]))
 (T.loop [aM] [vI 0] fun f =>
 bm f b
 (T.loop [aM] [vI 0] fun g =>
 aX f b a fun h =>
 T.ah ((h.add (aH f 4)).add 3) [.slice 9] fun i j k =>
 bm g j
 (T.loop [aM] [vI 0] fun l =>
 cond (decide (l<f))
 (aX l b a fun m =>
 T.ah ((m.add (aH l 4)).add 3) [.slice 9] fun n o p =>
 aX f b a fun q =>
 T.ah ((q.add (aH f 4)).add 3) [.slice 9] fun r s t =>
 aX g s r fun u =>
 T.ah (u.add (aH g 1)) [.string] fun v =>
 aU 38 [.slice n o p,.string v] fun w =>
 T.aY [(((q.add (aH f 4)).add 3),[.slice r s t])] <|
 cond w
 (aX f b a fun x =>
 T.ah ((x.add (aH f 4)).add 3) [.slice 9] fun y z A =>
 aX g z y fun B =>
 T.ah (B.add (aH g 1)) [.string] fun C =>
 T.aD d [vI 22,vI f,.string C] <|
 T.ah d [.int .i64,.int .i64,.string] fun D E F =>
 T.ret (.agg #[vI D,vI E,.string F]))
 (T.again 3 [bh l]))
 (T.again 2 [bh g]))
 (T.again 1 [bh f]))
 (T.loop [aM] [vI 0] fun g =>
 bm g b
 (iA 90 [.slice a b c,vI g] fun h =>
 cond (!((ByteArray.toList h)==[]))
 (T.aD d [vI 23,vI g,.string h] <|
 T.ah d [.int .i64,.int .i64,.string] fun i j k =>
 T.ret (.agg #[vI i,vI j,.string k]))
 (T.again 2 [bh g]))
 (T.aD d [vI 0,vI 0,bU] <|
 T.ah d [.int .i64,.int .i64,.string] fun h i j =>
 T.ret (.agg #[vI h,vI i,.string j]))))))
theorem kU (a:Option YC) (b c:Nat):bI Tryz.prog [] Tryz.f60 [.slice a b c]=gP a b c:=az
def eJ (a:Option YC) (b:Int) (c:Int) (d:Option YC) (e f:Nat):T :=
 T.loop [aM] [vI 0] fun g =>
 bm g e
 (aX g e d fun h =>
 T.ah (h.add (aH g 10)) [.int .i64] fun i =>
 cond (i==(1:Int))
 (T.bd a fun j =>
 T.ah (j.add 1) [.slice 82] fun k l m =>
 aX g e d fun n =>
 T.ah ((n.add (aH g 10)).add 1) [.string] fun o =>
 bk (Instr.buildSlice 67 1 #[(0,.agg #[vI b,vI c,vI g,.string o])]) fun p q r =>
 T.aY [(((n.add (aH g 10)).add 1),[.string o]),((j.add 1),[.slice k l m])] <|
 bk (Builtin.append_ #[67,67] 67 #[.slice k l m,.slice p q r]) fun s t u =>
 T.aY [(((n.add (aH g 10)).add 1),[.string o])] <|
 T.bd a fun v =>
 T.aD (v.add 1) [.slice s t u] <|
 T.again 0 [bh g])
 (T.again 0 [bh g]))
 (T.ret (.tuple #[]))
theorem gW (a:Option YC) (b:Int) (c:Int) (d:Option YC) (e f:Nat):bI Tryz.prog [] Tryz.f61 [.pointer a,vI b,vI c,.slice d e f]=eJ a b c d e f:=az
def eS (a:Option YC) (b:Int) (c:YA):T :=
 T.bd a fun d =>
 T.ah d [.slice 30] fun e f g =>
 cn 69 [.slice e f g,vI b,.string c] fun h =>
 T.loop [(false,[.string]),aM] [bU,vI 0] fun i j =>
 T.bd a fun k =>
 T.ah (k.add 1) [.slice 82] fun l m n =>
 bm j m
 (T.bd a fun o =>
 T.ah (o.add 1) [.slice 82] fun p q r =>
 aX j q p fun s =>
 T.ah (s.add (aH j 4)) [.int .i64] fun t =>
 cond (t==h)
 (T.bd a fun u =>
 T.ah (u.add 1) [.slice 82] fun v w x =>
 aX j w v fun y =>
 T.ah ((y.add (aH j 4)).add 3) [.string] fun z =>
 cond ((ByteArray.toList z)==(ByteArray.toList c))
 (iA 91 [vI j] fun A =>
 T.need ((((1+A.size):Nat):Int)<=(9223372036854775807:Int)) <|
 T.ret (.string (⟨#[76]⟩++A)))
 (T.again 0 [.string i,bh j]))
 (T.again 0 [.string i,bh j]))
 (iA 91 [vI h] fun o =>
 T.need ((((1+o.size):Nat):Int)<=(9223372036854775807:Int)) <|
 T.need (((((ByteArray.size (⟨#[69]⟩++o))+1):Nat):Int)<=(9223372036854775807:Int)) <|
 T.need (((((ByteArray.size ((⟨#[69]⟩++o)++⟨#[95]⟩))+c.size):Nat):Int)<=(9223372036854775807:Int)) <|
 T.ret (.string (((⟨#[69]⟩++o)++⟨#[95]⟩)++c)))
theorem iE (a:Option YC) (b:Int) (c:YA):bI Tryz.prog [] Tryz.f62 [.pointer a,vI b,.string c]=eS a b c:=az
def eF (a:Option YC) (b:Int) (c:Option YC) (d e:Nat) (f:Int):T :=
 T.new [.slice c d e,.int .u32 f] 60 fun g =>
 T.new [bi,.int .u32 0] 60 fun h =>
 T.ah (g.add 1) [.int .u32] fun i =>
 T.new [bi,.int .u32 0] 60 fun j =>
 T.aD j [bi,.int .u32 i] <|
 T.loop [aM] [vI 0] fun k =>
 T.ah g [.slice 66] fun l m n =>
 bm k m
 (T.ah j [.slice 66,.int .u32] fun o p q r =>
 T.ah g [.slice 66] fun s t u =>
 aX k t s fun v =>
 T.ah (v.add (aH k 2)) [.string] fun w =>
 T.ah g [.slice 66] fun x y z =>
 aX k y x fun A =>
 T.ah ((A.add (aH k 2)).add 1) [.int .u32] fun B =>
 iA 62 [.pointer a,vI b,.string w] fun C =>
 T.aY [(((A.add (aH k 2)).add 1),[.int .u32 B]),(g,[.slice x y z]),(g,[.slice s t u]),(j,[.slice o p q,.int .u32 r])] <|
 bk (Instr.buildSlice 57 1 #[(0,.agg #[.string C,.int .u32 B])]) fun D E F =>
 T.aY [(((A.add (aH k 2)).add 1),[.int .u32 B]),(g,[.slice x y z]),((v.add (aH k 2)),[.string w]),(g,[.slice s t u]),(j,[.slice o p q,.int .u32 r])] <|
 bF 92 [.agg #[.slice o p q,.int .u32 r],.agg #[.slice D E F,.int .u32 0]] false [(true,[.slice 66,.int .u32])] fun G H I J =>
 T.aY [(((A.add (aH k 2)).add 1),[.int .u32 B]),(g,[.slice x y z]),((v.add (aH k 2)),[.string w]),(g,[.slice s t u])] <|
 T.aD j [.slice G H I,.int .u32 J] <|
 T.again 0 [bh k])
 (T.ah j [.slice 66,.int .u32] fun o p q r =>
 T.aD h [.slice o p q,.int .u32 r] <|
 T.ah h [.slice 66,.int .u32] fun s t u v =>
 T.ret (.agg #[.slice s t u,.int .u32 v]))
theorem gX (a:Option YC) (b:Int) (c:Option YC) (d e:Nat) (f:Int):bI Tryz.prog [] Tryz.f63 [.pointer a,vI b,.agg #[.slice c d e,.int .u32 f]]=eF a b c d e f:=az
def ey (a:Option YC) (b:Int) (c:Option YC) (d e:Nat) (f:Option YC) (g h:Nat):T :=
 bk (Instr.buildSlice 26 0 #[]) fun i j k =>
 bk (Builtin.append_ #[26,26] 26 #[.slice i j k,.slice c d e]) fun l m n =>
 T.loop [aM] [vI 0] fun o =>
 bm o m
 (aX o m l fun p =>
 T.ah ((p.add (aH o 10)).add 7) [.slice 66,.int .u32] fun q r s t =>
 bF 63 [.pointer a,vI b,.agg #[.slice q r s,.int .u32 t]] false [(true,[.slice 66,.int .u32])] fun u v w x =>
 bF 94 [.agg #[.slice u v w,.int .u32 x],.slice f g h] false [(true,[.slice 66,.int .u32])] fun y z A B =>
 aX o m l fun C =>
 T.aD ((C.add (aH o 10)).add 7) [.slice y z A,.int .u32 B] <|
 T.again 0 [bh o])
 (T.ret (.slice l m n))
theorem gy (a:Option YC) (b:Int) (c:Option YC) (d e:Nat) (f:Option YC) (g h:Nat):bI Tryz.prog [] Tryz.f65 [.pointer a,vI b,.slice c d e,.slice f g h]=ey a b c d e f g h:=az
def iW (a:Option YC) (b c:Nat) (d:Int) (e:YA):T :=
 aX d b a fun f =>
 T.ah (f.add (aH d 4)) [.slice 64,.slice 64,.slice 88,.slice 9] fun g h i j k l m n o p q r =>
 bF 11 [.agg #[.slice g h i,.slice j k l,.slice m n o,.slice p q r]] false [(false,[.slice 9])] fun s t u =>
 aU 38 [.slice s t u,.string e] fun v =>
 cond v
 (T.ret (vI d))
 (T.loop [aM,aM] [vI 0,vI 0] fun w x =>
 bm x b
 (aX x b a fun y =>
 T.ah ((y.add (aH x 4)).add 3) [.slice 9] fun z A B =>
 aU 38 [.slice z A B,.string e] fun C =>
 cond C
 (T.ret (vI x))
 (T.again 0 [vI w,bh x]))
 (T.ret (vI (-1:Int))))
theorem mz (a:Option YC) (b c:Nat) (d:Int) (e:YA):bI Tryz.prog [] Tryz.f69 [.slice a b c,vI d,.string e]=iW a b c d e:=az
def fT (a:Option YC) (b c:Nat) (d:Int):T :=
 aX d b a fun e =>
 T.ah (e.add (aH d 4)) [.slice 64,.slice 64,.slice 88,.slice 9] fun f g h i j k l m n o p q =>
 T.new [bi,bi,bi,bi] 30 fun r =>
 T.aD r [.slice f g h,.slice i j k,.slice l m n,.slice o p q] <|
 T.ah r [.slice 64] fun s t u =>
 T.ah (r.add 1) [.slice 64] fun v w x =>
 bk (Instr.buildSlice 26 0 #[]) fun y z A =>
 T.aY [((r.add 1),[.slice v w x]),(r,[.slice s t u])] <|
 bk (Builtin.append_ #[26,26] 26 #[.slice y z A,.slice s t u]) fun B C D =>
 T.aY [((r.add 1),[.slice v w x])] <|
 bk (Builtin.append_ #[26,26] 26 #[.slice B C D,.slice v w x]) fun E F G =>
 T.aY [(r,[.slice s t u])] <|
 T.loop [(false,[.string]),aM] [bU,vI 0] fun H I =>
 bm I F
 (aX I F E fun J =>
 T.ah ((J.add (aH I 10)).add 7) [.slice 66,.int .u32] fun K L M N =>
 iA 113 [.slice a b c,vI d,.agg #[.slice K L M,.int .u32 N]] fun O =>
 cond (!((ByteArray.toList O)==[]))
 (T.ret (.string O))
 (T.again 0 [.string H,bh I]))
 (T.loop [(false,[.string]),aM] [.string H,vI 0] fun J K =>
 T.ah (r.add 2) [.slice 88] fun L M N =>
 bm K M
 (T.ah (r.add 2) [.slice 88] fun O P Q =>
 aX K P O fun R =>
 T.ah ((R.add (aH K 3)).add 1) [.slice 66,.int .u32] fun S U V W =>
 iA 113 [.slice a b c,vI d,.agg #[.slice S U V,.int .u32 W]] fun X =>
 cond (!((ByteArray.toList X)==[]))
 (T.ret (.string X))
 (T.again 1 [.string J,bh K]))
 (T.ret (bU)))
theorem jQ (a:Option YC) (b c:Nat) (d:Int):bI Tryz.prog [] Tryz.f90 [.slice a b c,vI d]=fT a b c d:=az
def ir (a:Int):T :=
 T.loop [aM,(false,[.string])] [vI a,bU] fun b c =>
 cond (decide (b>(0:Int)))
 (T.need ((10:Int)≠(0:Int)) <|
 bk (Instr.buildSlice 182 1 #[(0,.int .u8 (IntKind.wrap .u8 (bj ((48:Int)+(Int.tmod b (10:Int))))))]) fun d e f =>
 bK (convert 182 9 (.slice d e f)) false [(false,[.string])] fun g =>
 T.need ((((g.size+c.size):Nat):Int)<=(9223372036854775807:Int)) <|
 T.need ((10:Int)≠(0:Int)) <|
 T.again 0 [vI (bj (Int.tdiv b (10:Int))),.string (g++c)])
 (cond ((ByteArray.toList c)==[])
 (T.need ((10:Int)≠(0:Int)) <|
 bk (Instr.buildSlice 182 1 #[(0,.int .u8 (IntKind.wrap .u8 (bj ((48:Int)+(Int.tmod b (10:Int))))))]) fun d e f =>
 bK (convert 182 9 (.slice d e f)) false [(false,[.string])] fun g =>
 T.need ((((g.size+c.size):Nat):Int)<=(9223372036854775807:Int)) <|
 T.need ((10:Int)≠(0:Int)) <|
 T.again 0 [vI (bj (Int.tdiv b (10:Int))),.string (g++c)])
 (T.ret (.string c)))
theorem lQ (a:Int):bI Tryz.prog [] Tryz.f91 [vI a]=ir a:=az
def iU (a:Option YC) (b c:Nat) (d:Int) (e:Option YC) (f g:Nat) (h:Int):T :=
 T.new [.slice e f g,.int .u32 h] 60 fun i =>
 T.loop [(false,[.string]),aM] [bU,vI 0] fun j k =>
 T.ah i [.slice 66] fun l m n =>
 bm k m
 (T.ah i [.slice 66] fun o p q =>
 aX k p o fun r =>
 T.ah (r.add (aH k 2)) [.string] fun s =>
 cn 69 [.slice a b c,vI d,.string s] fun t =>
 cond (decide (t<(0:Int)))
 (T.ah i [.slice 66] fun u v w =>
 aX k v u fun x =>
 T.ah (x.add (aH k 2)) [.string] fun y =>
 T.ret (.string y))
 (T.again 0 [.string j,bh k]))
 (T.ret (bU))
theorem mR (a:Option YC) (b c:Nat) (d:Int) (e:Option YC) (f g:Nat) (h:Int):bI Tryz.prog [] Tryz.f113 [.slice a b c,vI d,.agg #[.slice e f g,.int .u32 h]]=iU a b c d e f g h:=az
end Go.Sx
