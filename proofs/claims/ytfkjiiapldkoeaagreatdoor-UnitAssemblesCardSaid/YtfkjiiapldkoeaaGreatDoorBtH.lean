/- Trees of functions. No condition. -/
import Derived.Test.YtfkjiiapldkoeaaGreatDoorSxF
import Derived.Test.YtfkjiiapldkoeaaGreatDoorProg
import Derived.KernelRfl
set_option linter.all false
set_option maxRecDepth 100000
set_option maxHeartbeats 4000000
namespace Go.Sx
open Go.Proofs
def j0 (a:Int):T :=
 cond (a==(1:Int))
 (T.ret (vI 0))
 (cond (a==(2:Int))
 (cond (a==(2:Int))
 (T.ret (vI 1))
 (cond (a==(7:Int))
 (T.ret (vI 3))
 (T.ret (vI 2))))
 (cond (a==(3:Int))
 (cond (a==(3:Int))
 (T.ret (vI 1))
 (cond (a==(7:Int))
 (T.ret (vI 3))
 (T.ret (vI 2))))
 (cond (a==(9:Int))
 (cond (a==(9:Int))
 (T.ret (vI 1))
 (cond (a==(7:Int))
 (T.ret (vI 3))
 (T.ret (vI 2))))
 (cond (a==(12:Int))
 (T.ret (vI 1))
 (cond (a==(7:Int))
 (T.ret (vI 3))
 (T.ret (vI 2)))))))
def nY (a:Int):bD Tryz.prog [] Tryz.f161 [vI a]=j0 a:=aB
def kT (a:Option XC) (b c:Nat) (d:Bool):T :=
 cond ((b:Int) != (1:Int))
 (aw #[vI 0,vI 20])
 (T.need (aZ 0 b) <|
 T.aA a fun e =>
 T.ah e [.int .i64] fun f =>
 cond (f != (1:Int))
 (aw #[vI 0,vI 20])
 (T.need (aZ 0 b) <|
 T.aA a fun g =>
 T.ah (g.add 1) [.string] fun h =>
 aS 89 [.string h] true [aQ,bZ,bZ] fun i j k =>
 cond (!k)
 (aw #[vI 0,vI 20])
 (cond (!(j==d))
 (aw #[vI 0,vI 20])
 (aw #[vI i,vI 0]))))
def pz (a:Option XC) (b c:Nat) (d:Bool):bD Tryz.prog [] Tryz.f162 [.slice a b c,.bool d]=kT a b c d:=aB
def gN (a:Option XC) (b c:Nat) (d:Int) (e:Int):T :=
 aS 164 [.slice a b c] true [(true,(yL 109)),aQ] fun f g h i j =>
 T.new [aI,av 0] 94 fun k =>
 T.ak k [.slice f g h,av i] <|
 cond (j != (0:Int))
 (aw #[vI 0,vI j])
 (T.ah (k.add 1) [.int .u32] fun l =>
 T.ah k [.slice 109] fun m n o =>
 cond (decide ((n:Int)>(0:Int)))
 (aw #[vI 0,vI 21])
 (cond (decide ((aH (IntKind.wrap .i32 l))<d))
 (aw #[vI 0,vI 21])
 (cond (decide ((aH (IntKind.wrap .i32 l))>e))
 (aw #[vI 0,vI 21])
 (aw #[vI (aH (IntKind.wrap .i32 l)),vI 0]))))
def kB (a:Option XC) (b c:Nat) (d:Int) (e:Int):bD Tryz.prog [] Tryz.f163 [.slice a b c,vI d,vI e]=gN a b c d e:=aB
def jq (a:Option XC) (b c:Nat):T :=
 cond ((b:Int) != (1:Int))
 (aw #[bh,vI 20])
 (T.need (aZ 0 b) <|
 T.aA a fun d =>
 T.ah d [.int .i64] fun e =>
 cond (e != (1:Int))
 (aw #[bh,vI 20])
 (T.need (aZ 0 b) <|
 T.aA a fun f =>
 T.ah (f.add 1) [.string] fun g =>
 aN 48 [.string g] fun h =>
 cond (!h)
 (aw #[bh,vI 20])
 (T.need (aZ 0 b) <|
 T.aA a fun i =>
 T.ah (i.add 1) [.string] fun j =>
 aw #[.string j,vI 0])))
def mC (a:Option XC) (b c:Nat):bD Tryz.prog [] Tryz.f166 [.slice a b c]=jq a b c:=aB
def iv (a:XA) (b:Option XC) (c d:Nat):T :=
 T.new [vI 0,aI,bh,aI,av 0,vI 0] 194 fun e =>
 T.new [vI 0,aI,bh,aI,av 0,vI 0] 194 fun f =>
 T.ak f [vI 2,aI,bh,aI,av 0,vI 0] <|
 T.loop [aQ,aQ] [vI 0,vI 0] fun g h =>
 dH h c
 (T.new [vI 0,bh,vI 0,vI 0,vI 0,.int .i32 0,vI 0,aI,av 0,vI 0] 96 fun i =>
 T.ak i [vI 5,bh,vI 0,vI 0,vI 0,.int .i32 0,vI 0,aI,av 0,vI 0] <|
 cond ((ByteArray.toList a)==[(aJ 98#8),(aJ 121#8),(aJ 116#8),(aJ 101#8)])
 (cv h c b fun j =>
 T.ah (j.add (bW h 1)) [.slice 236] fun k l m =>
 aS 163 [.slice k l m,vI (-128:Int),vI 255] true [aQ,aQ] fun n o =>
 T.ak (i.add 9) [vI n] <|
 cond (o != (0:Int))
 (T.ak e [vI 0,aI,bh,aI,av 0,vI 0] <|
 T.ah e [.int .i64,.slice 96,.string,.slice 109,.int .u32,.int .i64] fun p q r s t u v w x y =>
 aw #[.agg #[vI p,.slice q r s,.string t,.slice u v w,av x,vI y],vI o])
 (T.ah (f.add 1) [.slice 96] fun p q r =>
 T.ah i (yI 109) fun s t u v w x y z A B C D =>
 aR (Instr.buildSlice 23 1 #[(0,.agg #[vI s,.string t,vI u,vI v,vI w,.int .i32 x,vI y,.slice z A B,av C,vI D])]) fun E F G =>
 aR (Builtin.append_ #[23,23] 23 #[.slice p q r,.slice E F G]) fun H I J =>
 T.ak (f.add 1) [.slice H I J] <|
 T.again 0 [vI g,bN h]))
 (T.ak i [vI 6] <|
 cv h c b fun j =>
 T.ah (j.add (bW h 1)) [.slice 236] fun k l m =>
 aS 164 [.slice k l m] true [(true,(yL 109)),aQ] fun n o p q r =>
 T.ak (i.add 7) [.slice n o p,av q] <|
 cond (r != (0:Int))
 (T.ak e [vI 0,aI,bh,aI,av 0,vI 0] <|
 T.ah e [.int .i64,.slice 96,.string,.slice 109,.int .u32,.int .i64] fun s t u v w x y z A B =>
 aw #[.agg #[vI s,.slice t u v,.string w,.slice x y z,av A,vI B],vI r])
 (T.ah (f.add 1) [.slice 96] fun s t u =>
 T.ah i (yI 109) fun v w x y z A B C D E F G =>
 aR (Instr.buildSlice 23 1 #[(0,.agg #[vI v,.string w,vI x,vI y,vI z,.int .i32 A,vI B,.slice C D E,av F,vI G])]) fun H I J =>
 aR (Builtin.append_ #[23,23] 23 #[.slice s t u,.slice H I J]) fun K L M =>
 T.ak (f.add 1) [.slice K L M] <|
 T.again 0 [vI g,bN h])))
 (T.ah f [.int .i64,.slice 96,.string,.slice 109,.int .u32,.int .i64] fun i j k l m n o p q r =>
 T.ak e [vI i,.slice j k l,.string m,.slice n o p,av q,vI r] <|
 T.ah e [.int .i64,.slice 96,.string,.slice 109,.int .u32,.int .i64] fun s t u v w x y z A B =>
 aw #[.agg #[vI s,.slice t u v,.string w,.slice x y z,av A,vI B],vI 0])
def lF (a:XA) (b:Option XC) (c d:Nat):bD Tryz.prog [] Tryz.f165 [.string a,.slice b c d]=iv a b c d:=aB
def j6 (a:XA):T :=
 aS 121 [] false [(false,[.slice 218])] fun b c d =>
 T.loop [aQ,aQ] [vI 0,vI 0] fun e f =>
 dH f c
 (cv f c b fun g =>
 T.ah (g.add (bW f 3)) [.string] fun h =>
 cond ((ByteArray.toList h)==(ByteArray.toList a))
 (T.ret (bN f))
 (T.again 0 [vI e,bN f]))
 (T.ret (vI 0))
def oh (a:XA):bD Tryz.prog [] Tryz.f133 [.string a]=j6 a:=aB
def vO (a:Int) (b:Option XC) (c d:Nat):T :=
 T.new [vI 0,bh,vI 0,vI 0,vI 0,.int .i32 0,vI 0,aI,av 0,vI 0] 96 fun e =>
 aS 90 [vI a] true [(true,[.string,.int .u8,.int .i64]),bZ] fun f g h i =>
 T.new [bh,.int .u8 0,vI 0] 158 fun j =>
 T.ak j [.string f,.int .u8 g,vI h] <|
 T.ah (j.add 2) [.int .i64] fun k =>
 aS 124 [vI k] false [(false,[.slice 20])] fun l m n =>
 cond ((m:Int) != (c:Int))
 (T.ak e [vI 0,bh,vI 0,vI 0,vI 0,.int .i32 0,vI 0,aI,av 0,vI 0] <|
 T.ah e (yI 109) fun o p q r s t u v w x y z =>
 aw #[.agg #[vI o,.string p,vI q,vI r,vI s,.int .i32 t,vI u,.slice v w x,av y,vI z],vI 20])
 (T.new [vI 0,bh,vI 0,vI 0,vI 0,.int .i32 0,vI 0,aI,av 0,vI 0] 96 fun o =>
 T.ak o [vI 2,bh,vI a,vI 0,vI 0,.int .i32 0,vI 0,aI,av 0,vI 0] <|
 T.loop [aQ,aQ] [vI 0,vI 0] fun p q =>
 dH q m
 (cv q m l fun r =>
 T.ah (r.add (bW q 1)) [.interface #[]] fun (s:XB) =>
 cv q c b fun t =>
 T.ah (t.add (bW q 1)) [.slice 178] fun u v w =>
 cU 125 [.pointer (some o),s,.slice u v w] fun x =>
 cond (x != (0:Int))
 (T.ak e [vI 0,bh,vI 0,vI 0,vI 0,.int .i32 0,vI 0,aI,av 0,vI 0] <|
 T.ah e (yI 109) fun y z A B C D E F G H I J =>
 aw #[.agg #[vI y,.string z,vI A,vI B,vI C,.int .i32 D,vI E,.slice F G H,av I,vI J],vI x])
 (T.again 0 [vI p,bN q]))
 (T.ah o (yI 109) fun r s t u v w x y z A B C =>
 T.ak e [vI r,.string s,vI t,vI u,vI v,.int .i32 w,vI x,.slice y z A,av B,vI C] <|
 T.ah e (yI 109) fun D E F G H I J K L M N O =>
 aw #[.agg #[vI D,.string E,vI F,vI G,vI H,.int .i32 I,vI J,.slice K L M,av N,vI O],vI 0]))
def yp (a:Int) (b:Option XC) (c d:Nat):bD Tryz.prog [] Tryz.f99 [vI a,.slice b c d]=vO a b c d:=aB
def nh (a:XA) (b:Option XC) (c d:Nat):T :=
 T.new [vI 0,aI,bh,aI,av 0,vI 0] 134 fun e =>
 aS 126 [.string a] true [aQ,bZ] fun f g =>
 T.join [aQ,aQ]
 (cond (!g)
 (T.ak e [vI 0,aI,bh,aI,av 0,vI 0] <|
 T.ah e [.int .i64,.slice 96,.string,.slice 109,.int .u32,.int .i64] fun h i j k l m n o p q =>
 aw #[.agg #[vI h,.slice i j k,.string l,.slice m n o,av p,vI q],vI 0,vI 20])
 (cond (decide (f>=(0:Int)))
 (cond ((c:Int) != f)
 (T.ak e [vI 0,aI,bh,aI,av 0,vI 0] <|
 T.ah e [.int .i64,.slice 96,.string,.slice 109,.int .u32,.int .i64] fun h i j k l m n o p q =>
 aw #[.agg #[vI h,.slice i j k,.string l,.slice m n o,av p,vI q],vI 0,vI 20])
 (T.again 0 [vI 0,vI 0]))
 (T.again 0 [vI 0,vI 0]))) fun h i =>
 cond ((ByteArray.toList a)==[(aJ 112#8),(aJ 111#8),(aJ 111#8),(aJ 108#8)])
 (aR (Instr.buildSlice 23 1 #[(0,.agg #[vI 4,bh,vI 0,vI 0,vI 0,.int .i32 0,vI 0,aI,av 0,vI 0])]) fun j k l =>
 T.ak e [vI 1,.slice j k l,bh,aI,av 0,vI 0] <|
 T.ah e [.int .i64,.slice 96,.string,.slice 109,.int .u32,.int .i64] fun m n o p q r s t u v =>
 aw #[.agg #[vI m,.slice n o p,.string q,.slice r s t,av u,vI v],vI 0,vI 0])
 (cond ((ByteArray.toList a)==[(aJ 97#8),(aJ 108#8),(aJ 105#8),(aJ 103#8),(aJ 110#8)])
 (T.need (aZ 0 c) <|
 T.aA b fun j =>
 T.ah j [.slice 178] fun k l m =>
 aS 127 [.slice k l m,vI 1,vI 256] true [aQ,aQ] fun n o =>
 cond (o==(0:Int))
 (aN 79 [vI n] fun p =>
 cond (!p)
 (aR (Instr.buildSlice 23 1 #[(0,.agg #[vI 3,bh,vI 0,vI 0,vI 0,.int .i32 0,vI 0,aI,av 0,vI n])]) fun q r s =>
 T.ak e [vI 1,.slice q r s,bh,aI,av 0,vI 0] <|
 T.ah e [.int .i64,.slice 96,.string,.slice 109,.int .u32,.int .i64] fun t u v w x y z A B C =>
 aw #[.agg #[vI t,.slice u v w,.string x,.slice y z A,av B,vI C],vI (-1:Int),vI 21])
 (aR (Instr.buildSlice 23 1 #[(0,.agg #[vI 3,bh,vI 0,vI 0,vI 0,.int .i32 0,vI 0,aI,av 0,vI n])]) fun q r s =>
 T.ak e [vI 1,.slice q r s,bh,aI,av 0,vI 0] <|
 T.ah e [.int .i64,.slice 96,.string,.slice 109,.int .u32,.int .i64] fun t u v w x y z A B C =>
 aw #[.agg #[vI t,.slice u v w,.string x,.slice y z A,av B,vI C],vI (-1:Int),vI o]))
 (aR (Instr.buildSlice 23 1 #[(0,.agg #[vI 3,bh,vI 0,vI 0,vI 0,.int .i32 0,vI 0,aI,av 0,vI n])]) fun p q r =>
 T.ak e [vI 1,.slice p q r,bh,aI,av 0,vI 0] <|
 T.ah e [.int .i64,.slice 96,.string,.slice 109,.int .u32,.int .i64] fun s t u v w x y z A B =>
 aw #[.agg #[vI s,.slice t u v,.string w,.slice x y z,av A,vI B],vI (-1:Int),vI o]))
 (cond ((ByteArray.toList a)==[(aJ 115#8),(aJ 112#8),(aJ 97#8),(aJ 99#8),(aJ 101#8)])
 (T.need (aZ 0 c) <|
 T.aA b fun j =>
 T.ah j [.slice 178] fun k l m =>
 aS 127 [.slice k l m,vI 0,vI 1048576] true [aQ,aQ] fun n o =>
 aR (Instr.buildSlice 23 1 #[(0,.agg #[vI 7,bh,vI 0,vI 0,vI 0,.int .i32 0,vI 0,aI,av 0,vI n])]) fun p q r =>
 T.ak e [vI 1,.slice p q r,bh,aI,av 0,vI 0] <|
 T.ah e [.int .i64,.slice 96,.string,.slice 109,.int .u32,.int .i64] fun s t u v w x y z A B =>
 aw #[.agg #[vI s,.slice t u v,.string w,.slice x y z,av A,vI B],vI 1,vI o])
 (cond ((ByteArray.toList a)==[(aJ 98#8),(aJ 121#8),(aJ 116#8),(aJ 101#8)])
 (aS 128 [vI 5,.slice b c d] true [(false,[.slice 96]),aQ] fun j k l m =>
 T.ak e [vI 2,.slice j k l,bh,aI,av 0,vI 0] <|
 T.ah e [.int .i64,.slice 96,.string,.slice 109,.int .u32,.int .i64] fun n o p q r s t u v w =>
 aw #[.agg #[vI n,.slice o p q,.string r,.slice s t u,av v,vI w],vI 1,vI m])
 (cond ((ByteArray.toList a)==[(aJ 119#8),(aJ 111#8),(aJ 114#8),(aJ 100#8)])
 (aS 128 [vI 6,.slice b c d] true [(false,[.slice 96]),aQ] fun j k l m =>
 T.ak e [vI 2,.slice j k l,bh,aI,av 0,vI 0] <|
 T.ah e [.int .i64,.slice 96,.string,.slice 109,.int .u32,.int .i64] fun n o p q r s t u v w =>
 aw #[.agg #[vI n,.slice o p q,.string r,.slice s t u,av v,vI w],vI 1,vI m])
 (cond ((ByteArray.toList a)==[(aJ 101#8),(aJ 113#8),(aJ 117#8)])
 (T.need (aZ 0 c) <|
 T.aA b fun j =>
 T.ah j [.slice 178] fun k l m =>
 aS 129 [.slice k l m] true [(false,[.string]),aQ] fun n o =>
 cond (o != (0:Int))
 (T.ak e [vI 0,aI,bh,aI,av 0,vI 0] <|
 T.ah e [.int .i64,.slice 96,.string,.slice 109,.int .u32,.int .i64] fun p q r s t u v w x y =>
 aw #[.agg #[vI p,.slice q r s,.string t,.slice u v w,av x,vI y],vI (-1:Int),vI o])
 (T.need (aZ 1 c) <|
 T.aA b fun p =>
 T.ah (p.add 1) [.slice 178] fun q r s =>
 aS 130 [.slice q r s] true [(true,(yL 109)),aQ] fun t u v w x =>
 T.new [aI,av 0] 94 fun y =>
 T.ak y [.slice t u v,av w] <|
 T.ah y (yL 109) fun z A B C =>
 T.ak e [vI 3,aI,.string n,.slice z A B,av C,vI 0] <|
 T.ah e [.int .i64,.slice 96,.string,.slice 109,.int .u32,.int .i64] fun D E F G H I J K L M =>
 aw #[.agg #[vI D,.slice E F G,.string H,.slice I J K,av L,vI M],vI (-1:Int),vI x]))
 (cond ((ByteArray.toList a)==[(aJ 103#8),(aJ 108#8),(aJ 111#8),(aJ 98#8),(aJ 97#8),(aJ 108#8)])
 (T.need (aZ 0 c) <|
 T.aA b fun j =>
 T.ah j [.slice 178] fun k l m =>
 aS 129 [.slice k l m] true [(false,[.string]),aQ] fun n o =>
 T.ak e [vI 4,aI,.string n,aI,av 0,vI 0] <|
 T.ah e [.int .i64,.slice 96,.string,.slice 109,.int .u32,.int .i64] fun p q r s t u v w x y =>
 aw #[.agg #[vI p,.slice q r s,.string t,.slice u v w,av x,vI y],vI (-1:Int),vI o])
 (T.need (aZ 0 c) <|
 T.aA b fun j =>
 T.ah j [.slice 178] fun k l m =>
 cond ((l:Int)==(1:Int))
 (T.need (aZ 0 c) <|
 T.aA b fun n =>
 T.ah n [.slice 178] fun o p q =>
 T.need (aZ 0 p) <|
 T.aA o fun r =>
 T.ah r [.int .i64] fun s =>
 cond (s==(1:Int))
 (T.need (aZ 0 c) <|
 T.aA b fun t =>
 T.ah t [.slice 178] fun u v w =>
 T.need (aZ 0 v) <|
 T.aA u fun x =>
 T.ah (x.add 1) [.string] fun y =>
 cond ((ByteArray.toList y)==[(aJ 116#8),(aJ 101#8),(aJ 120#8),(aJ 116#8)])
 (T.ak e [vI 5,aI,bh,aI,av 0,vI 0] <|
 T.ah e [.int .i64,.slice 96,.string,.slice 109,.int .u32,.int .i64] fun z A B C D E F G H I =>
 aw #[.agg #[vI z,.slice A B C,.string D,.slice E F G,av H,vI I],vI (-1:Int),vI 0])
 (cond ((ByteArray.toList y)==[(aJ 100#8),(aJ 97#8),(aJ 116#8),(aJ 97#8)])
 (T.ak e [vI 5,aI,bh,aI,av 0,vI 1] <|
 T.ah e [.int .i64,.slice 96,.string,.slice 109,.int .u32,.int .i64] fun z A B C D E F G H I =>
 aw #[.agg #[vI z,.slice A B C,.string D,.slice E F G,av H,vI I],vI (-1:Int),vI 0])
 (T.ak e [vI 0,aI,bh,aI,av 0,vI 0] <|
 T.ah e [.int .i64,.slice 96,.string,.slice 109,.int .u32,.int .i64] fun z A B C D E F G H I =>
 aw #[.agg #[vI z,.slice A B C,.string D,.slice E F G,av H,vI I],vI (-1:Int),vI 20])))
 (T.ak e [vI 0,aI,bh,aI,av 0,vI 0] <|
 T.ah e [.int .i64,.slice 96,.string,.slice 109,.int .u32,.int .i64] fun t u v w x y z A B C =>
 aw #[.agg #[vI t,.slice u v w,.string x,.slice y z A,av B,vI C],vI (-1:Int),vI 20]))
 (T.ak e [vI 0,aI,bh,aI,av 0,vI 0] <|
 T.ah e [.int .i64,.slice 96,.string,.slice 109,.int .u32,.int .i64] fun n o p q r s t u v w =>
 aw #[.agg #[vI n,.slice o p q,.string r,.slice s t u,av v,vI w],vI (-1:Int),vI 20]))))))))
def rk (a:XA) (b:Option XC) (c d:Nat):bD Tryz.prog [1004] Tryz.f100 [.string a,.slice b c d]=nh a b c d:=aB
end Go.Sx
