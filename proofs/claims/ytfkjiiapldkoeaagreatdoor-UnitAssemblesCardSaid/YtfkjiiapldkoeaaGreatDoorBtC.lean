/- Trees of functions. No condition. -/
import Derived.Test.YtfkjiiapldkoeaaGreatDoorSxF
import Derived.Test.YtfkjiiapldkoeaaGreatDoorProg
import Derived.KernelRfl
set_option linter.all false
set_option maxRecDepth 100000
set_option maxHeartbeats 4000000
namespace Go.Sx
open Go.Proofs
def tS (a:XA):T :=
 T.new [bh,bh,aI] 130 fun b =>
 aS 95 [.string a] true [(false,[.slice 178]),aQ,aQ] fun c d e f g =>
 cond (g != (0:Int))
 (T.ak b [bh,bh,aI] <|
 T.ah b [.string,.string,.slice 174] fun h i j k l =>
 aw #[.agg #[.string h,.string i,.slice j k l],vI f,vI g])
 (T.new [bh,bh,aI] 130 fun h =>
 T.join [gK]
 (cond (decide ((d:Int)>(1:Int)))
 (T.need (aZ 0 d) <|
 T.aA c fun i =>
 T.ah i [.int .i64] fun j =>
 cond (j==(1:Int))
 (T.need (aZ 1 d) <|
 T.aA c fun k =>
 T.ah (k.add 4) [.int .i64,.string,.int .u32,.int .i64] fun l m n o =>
 aN 96 [.agg #[vI l,.string m,av n,vI o],.string ⟨#[58]⟩] fun p =>
 cond p
 (T.need (aZ 0 d) <|
 T.aA c fun q =>
 T.ah (q.add 1) [.string] fun r =>
 T.ak h [.string r] <|
 T.need (((0:Int)<=(2:Int))/\(((2:Int)<=(d:Int))/\((d:Int)<=(e:Int)))) <|
 T.again 0 [.slice (if (e=2) then c else (Option.map (fun s=>Addr.add s 8) c)) ((Int.toNat (d:Int))-2) (e-2)])
 (T.again 0 [.slice c d e]))
 (T.again 0 [.slice c d e]))
 (T.again 0 [.slice c d e])) fun i j k =>
 cond ((j:Int)==(0:Int))
 (T.ah h [.string,.string,.slice 174] fun l m n o p =>
 T.ak b [.string l,.string m,.slice n o p] <|
 T.ah b [.string,.string,.slice 174] fun q r s t u =>
 aw #[.agg #[.string q,.string r,.slice s t u],vI 0,vI 0])
 (T.need (aZ 0 j) <|
 T.aA i fun l =>
 T.ah l [.int .i64] fun m =>
 cond (m != (1:Int))
 (T.need (aZ 0 j) <|
 T.aA i fun n =>
 T.ah (n.add 3) [.int .i64] fun o =>
 T.ak b [bh,bh,aI] <|
 T.aT [((n.add 3),[vI o])] <|
 T.ah b [.string,.string,.slice 174] fun p q r s t =>
 aw #[.agg #[.string p,.string q,.slice r s t],vI o,vI 20])
 (T.need (aZ 0 j) <|
 T.aA i fun n =>
 T.ah (n.add 1) [.string] fun o =>
 T.ak (h.add 1) [.string o] <|
 T.need (((0:Int)<=(1:Int))/\(((1:Int)<=(j:Int))/\((j:Int)<=(k:Int)))) <|
 aS 97 [.string a,.slice (if (k=1) then i else (Option.map (fun p=>Addr.add p 4) i)) ((Int.toNat (j:Int))-1) (k-1)] true [(false,[.slice 174]),aQ,aQ] fun p q r s t =>
 cond (t != (0:Int))
 (T.ak b [bh,bh,aI] <|
 T.ah b [.string,.string,.slice 174] fun u v w x y =>
 aw #[.agg #[.string u,.string v,.slice w x y],vI s,vI t])
 (T.ak (h.add 2) [.slice p q r] <|
 T.ah h [.string,.string,.slice 174] fun u v w x y =>
 T.ak b [.string u,.string v,.slice w x y] <|
 T.ah b [.string,.string,.slice 174] fun z A B C D =>
 aw #[.agg #[.string z,.string A,.slice B C D],vI 0,vI 0]))))
def wB (a:XA):bD Tryz.prog [1008] Tryz.f64 [.string a]=tS a:=aB
def jE (a:XA):T :=
 T.new [bh,bh,aI] 191 fun b =>
 aS 131 [.string a] true [(false,[.slice 236]),aQ,aQ] fun c d e f g =>
 cond (g != (0:Int))
 (T.ak b [bh,bh,aI] <|
 T.ah b [.string,.string,.slice 233] fun h i j k l =>
 aw #[.agg #[.string h,.string i,.slice j k l],vI f,vI g])
 (T.new [bh,bh,aI] 191 fun h =>
 T.join [aQ]
 (cond (decide ((d:Int)>=(2:Int)))
 (T.need (aZ 0 d) <|
 T.aA c fun i =>
 T.ah i [.int .i64] fun j =>
 cond (j==(1:Int))
 (T.need (aZ 1 d) <|
 T.aA c fun k =>
 T.ah (k.add 4) [.int .i64,.string,.int .u32,.int .i64] fun l m n o =>
 aN 132 [.agg #[vI l,.string m,av n,vI o],.string ⟨#[58]⟩] fun p =>
 cond p
 (T.need (aZ 0 d) <|
 T.aA c fun q =>
 T.ah (q.add 1) [.string] fun r =>
 T.ak h [.string r] <|
 T.again 0 [vI 2])
 (T.again 0 [vI 0]))
 (T.again 0 [vI 0]))
 (T.again 0 [vI 0])) fun i =>
 cond (i==(d:Int))
 (T.ah h [.string,.string,.slice 233] fun j k l m n =>
 T.ak b [.string j,.string k,.slice l m n] <|
 T.ah b [.string,.string,.slice 233] fun o p q r s =>
 aw #[.agg #[.string o,.string p,.slice q r s],vI 0,vI 0])
 (cv i d c fun j =>
 T.ah (j.add (bW i 4)) [.int .i64] fun k =>
 cond (k != (1:Int))
 (cv i d c fun l =>
 T.ah ((l.add (bW i 4)).add 3) [.int .i64] fun m =>
 T.ak b [bh,bh,aI] <|
 T.aT [(((l.add (bW i 4)).add 3),[vI m])] <|
 T.ah b [.string,.string,.slice 233] fun n o p q r =>
 aw #[.agg #[.string n,.string o,.slice p q r],vI m,vI 20])
 (cv i d c fun l =>
 T.ah ((l.add (bW i 4)).add 1) [.string] fun m =>
 T.ak (h.add 1) [.string m] <|
 cond ((aH (i+(1:Int)))==(d:Int))
 (T.ah h [.string,.string,.slice 233] fun n o p q r =>
 T.ak b [.string n,.string o,.slice p q r] <|
 T.ah b [.string,.string,.slice 233] fun s t u v w =>
 aw #[.agg #[.string s,.string t,.slice u v w],vI 0,vI 0])
 (T.loop [aQ,aQ,aQ,gK] [vI 0,vI 0,bN i,aI] fun n o p q r s =>
 dH p d
 (cv p d c fun t =>
 T.ah (t.add (bW p 4)) [.int .i64,.string,.int .u32,.int .i64] fun u v w x =>
 T.new [vI 0,bh,av 0,vI 0] 236 fun y =>
 T.ak y [vI u,.string v,av w,vI x] <|
 T.join [bZ]
 (T.ah y [.int .i64,.string,.int .u32,.int .i64] fun z A B C =>
 aN 132 [.agg #[vI z,.string A,av B,vI C],.string ⟨#[58]⟩] fun D =>
 cond D
 (T.again 1 [.bool true])
 (T.ah y [.int .i64,.string,.int .u32,.int .i64] fun E F G H =>
 aN 132 [.agg #[vI E,.string F,av G,vI H],.string ⟨#[44]⟩] fun I =>
 cond I
 (T.again 1 [.bool ((r:Int)==(0:Int))])
 (T.again 1 [.bool false]))) fun z =>
 cond z
 (T.ah (y.add 3) [.int .i64] fun A =>
 T.ak b [bh,bh,aI] <|
 T.aT [((y.add 3),[vI A])] <|
 T.ah b [.string,.string,.slice 233] fun B C D E F =>
 aw #[.agg #[.string B,.string C,.slice D E F],vI A,vI 20])
 (T.ah y [.int .i64,.string,.int .u32,.int .i64] fun A B C D =>
 aN 132 [.agg #[vI A,.string B,av C,vI D],.string ⟨#[44]⟩] fun E =>
 cond E
 (T.ah (h.add 2) [.slice 233] fun F G H =>
 aR (Instr.buildSlice 189 1 #[(0,.slice q r s)]) fun I J K =>
 aR (Builtin.append_ #[189,189] 189 #[.slice F G H,.slice I J K]) fun L M N =>
 T.ak (h.add 2) [.slice L M N] <|
 T.again 0 [vI n,vI o,bN p,aI])
 (T.ah y [.int .i64,.string,.int .u32,.int .i64] fun F G H I =>
 aR (Instr.buildSlice 233 1 #[(0,.agg #[vI F,.string G,av H,vI I])]) fun J K L =>
 aR (Builtin.append_ #[233,233] 233 #[.slice q r s,.slice J K L]) fun M N O =>
 T.again 0 [vI n,vI o,bN p,.slice M N O])))
 (cond ((r:Int)==(0:Int))
 (T.ak b [bh,bh,aI] <|
 T.ah b [.string,.string,.slice 233] fun t u v w x =>
 aw #[.agg #[.string t,.string u,.slice v w x],vI (a.size:Int),vI 20])
 (T.ah (h.add 2) [.slice 233] fun t u v =>
 aR (Instr.buildSlice 189 1 #[(0,.slice q r s)]) fun w x y =>
 aR (Builtin.append_ #[189,189] 189 #[.slice t u v,.slice w x y]) fun z A B =>
 T.ak (h.add 2) [.slice z A B] <|
 T.ah h [.string,.string,.slice 233] fun C D E F G =>
 T.ak b [.string C,.string D,.slice E F G] <|
 T.ah b [.string,.string,.slice 233] fun H I J K L =>
 aw #[.agg #[.string H,.string I,.slice J K L],vI 0,vI 0]))))))
def mI (a:XA):bD Tryz.prog [1009,20] Tryz.f102 [.string a]=jE a:=aB
def mP (a:XA) (b:Option XC) (c d:Nat):T :=
 cond ((c:Int)==(0:Int))
 (aw #[aI,vI 0,vI 0])
 (aR (Instr.buildSlice 128 1 #[(0,aI)]) fun e f g =>
 T.loop [gK,aQ,aQ,gK,aQ] [aI,vI 0,vI 0,.slice e f g,vI 0] fun h i j k l m n o p =>
 dH p c
 (cv p c b fun q =>
 T.ah (q.add (bW p 4)) [.int .i64,.string,.int .u32,.int .i64] fun r s t u =>
 T.new [vI 0,bh,av 0,vI 0] 178 fun v =>
 T.ak v [vI r,.string s,av t,vI u] <|
 T.join [bZ]
 (T.ah v [.int .i64,.string,.int .u32,.int .i64] fun w x y z =>
 aN 96 [.agg #[vI w,.string x,av y,vI z],.string ⟨#[58]⟩] fun A =>
 cond A
 (T.again 1 [.bool true])
 (T.ah v [.int .i64,.string,.int .u32,.int .i64] fun B C D E =>
 aN 96 [.agg #[vI B,.string C,av D,vI E],.string ⟨#[44]⟩] fun F =>
 cond F
 (T.need (((0:Int)<=(aH ((n:Int)-(1:Int))))/\((aH ((n:Int)-(1:Int)))<(n:Int))) <|
 T.aA m fun G =>
 T.ah (G.add ((Int.toNat (aH ((n:Int)-(1:Int))))*1)) [.slice 178] fun H I J =>
 T.again 1 [.bool ((I:Int)==(0:Int))])
 (T.again 1 [.bool false]))) fun w =>
 cond w
 (T.ah (v.add 3) [.int .i64] fun x =>
 T.aT [((v.add 3),[vI x])] <|
 aw #[aI,vI x,vI 20])
 (T.ah v [.int .i64,.string,.int .u32,.int .i64] fun x y z A =>
 aN 96 [.agg #[vI x,.string y,av z,vI A],.string ⟨#[44]⟩] fun B =>
 cond B
 (aR (Instr.buildSlice 128 1 #[(0,aI)]) fun C D E =>
 aR (Builtin.append_ #[128,128] 128 #[.slice m n o,.slice C D E]) fun F G H =>
 T.again 0 [.slice h i j,vI k,vI l,.slice F G H,bN p])
 (T.need (((0:Int)<=(aH ((n:Int)-(1:Int))))/\((aH ((n:Int)-(1:Int)))<(n:Int))) <|
 T.aA m fun C =>
 T.ah (C.add ((Int.toNat (aH ((n:Int)-(1:Int))))*1)) [.slice 178] fun D E F =>
 T.ah v [.int .i64,.string,.int .u32,.int .i64] fun G H I J =>
 aR (Instr.buildSlice 174 1 #[(0,.agg #[vI G,.string H,av I,vI J])]) fun K L M =>
 T.aT [((C.add ((Int.toNat (aH ((n:Int)-(1:Int))))*1)),[.slice D E F])] <|
 aR (Builtin.append_ #[174,174] 174 #[.slice D E F,.slice K L M]) fun N O P =>
 T.aT [(v,[vI G,.string H,av I,vI J])] <|
 T.need (((0:Int)<=(aH ((n:Int)-(1:Int))))/\((aH ((n:Int)-(1:Int)))<(n:Int))) <|
 T.aA m fun Q =>
 T.ak (Q.add ((Int.toNat (aH ((n:Int)-(1:Int))))*1)) [.slice N O P] <|
 T.again 0 [.slice h i j,vI k,vI l,.slice m n o,bN p])))
 (T.need (((0:Int)<=(aH ((n:Int)-(1:Int))))/\((aH ((n:Int)-(1:Int)))<(n:Int))) <|
 T.aA m fun q =>
 T.ah (q.add ((Int.toNat (aH ((n:Int)-(1:Int))))*1)) [.slice 178] fun r s t =>
 cond ((s:Int)==(0:Int))
 (aw #[aI,vI (a.size:Int),vI 20])
 (aw #[.slice m n o,vI 0,vI 0])))
def ry (a:XA) (b:Option XC) (c d:Nat):bD Tryz.prog [9] Tryz.f97 [.string a,.slice b c d]=mP a b c d:=aB
def Ao (a:Int) (b:XA) (c:Int) (d:Int) (e:XA):T :=
 T.new [vI a,.string b,av c,vI d] 178 fun f =>
 T.ah f [.int .i64] fun g =>
 cond (g==(3:Int))
 (T.ah (f.add 1) [.string] fun h =>
 T.ret (.bool ((ByteArray.toList h)==(ByteArray.toList e))))
 bE
def Bn (a:Int) (b:XA) (c:Int) (d:Int) (e:XA):bD Tryz.prog [] Tryz.f96 [.agg #[vI a,.string b,.int .u32 c,vI d],.string e]=Ao a b c d e:=aB
def j4 (a:Int) (b:XA) (c:Int) (d:Int) (e:XA):T :=
 T.new [vI a,.string b,av c,vI d] 236 fun f =>
 T.ah f [.int .i64] fun g =>
 cond (g==(3:Int))
 (T.ah (f.add 1) [.string] fun h =>
 T.ret (.bool ((ByteArray.toList h)==(ByteArray.toList e))))
 bE
def ob (a:Int) (b:XA) (c:Int) (d:Int) (e:XA):bD Tryz.prog [] Tryz.f132 [.agg #[vI a,.string b,.int .u32 c,vI d],.string e]=j4 a b c d e:=aB
def xr (a:XA):T :=
 T.new [.string a] 9 fun b =>
 T.ret (.func (Fn.func 62) #[] #[.pointer (some b)])
def zj (a:XA):bD Tryz.prog [] Tryz.f32 [.string a]=xr a:=aB
def jy (a:XA):T :=
 T.loop [gK,aQ,aQ] [aI,vI 0,vI 0] fun b c d e f =>
 cond (decide (f<(a.size:Int)))
 (T.need (cz f a.size) <|
 cond ((aU a f)==(10:Int))
 (T.need (((0:Int)<=e)/\((e<=f)/\(f<=(a.size:Int)))) <|
 aR (Instr.buildSlice 25 1 #[(0,.string (ByteArray.extract a (Int.toNat e) (Int.toNat f)))]) fun g h i =>
 aR (Builtin.append_ #[25,25] 25 #[.slice b c d,.slice g h i]) fun j k l =>
 T.again 0 [.slice j k l,bN f,bN f])
 (T.again 0 [.slice b c d,vI e,bN f]))
 (cond (decide (e<(a.size:Int)))
 (T.need (((0:Int)<=e)/\((e<=(a.size:Int))/\((a.size:Int)<=(a.size:Int)))) <|
 aR (Instr.buildSlice 25 1 #[(0,.string (ByteArray.extract a (Int.toNat e) (Int.toNat (a.size:Int))))]) fun g h i =>
 aR (Builtin.append_ #[25,25] 25 #[.slice b c d,.slice g h i]) fun j k l =>
 T.ret (.slice j k l))
 (T.ret (.slice b c d)))
def mA (a:XA):bD Tryz.prog [] Tryz.f69 [.string a]=jy a:=aB
def we (a:Option Nat) (b:Int):T :=
 T.new [aI,av 0] 94 fun c =>
 T.new [aI,av 0] 94 fun d =>
 T.ak d [aI,av b] <|
 aS 193 [.map a] false [(false,[.func #[39] #[] false])] fun (e:XB) =>
 aS 34 [e] false [(false,[.slice 9])] fun f g h =>
 T.loop [aQ] [vI 0] fun i =>
 dH i g
 (cv i g f fun j =>
 T.ah (j.add (bW i 1)) [.string] fun k =>
 dh (Instr.lookup 286 (.map a) (.string k) false) false [(false,[.int .u32])] fun l =>
 cond (l != (0:Int))
 (T.ah d [.slice 109] fun m n o =>
 dh (Instr.lookup 286 (.map a) (.string k) false) false [(false,[.int .u32])] fun p =>
 aR (Instr.buildSlice 91 1 #[(0,.agg #[.string k,av p])]) fun q r s =>
 aR (Builtin.append_ #[91,91] 91 #[.slice m n o,.slice q r s]) fun t u v =>
 T.ak d [.slice t u v] <|
 T.again 0 [bN i])
 (T.again 0 [bN i]))
 (T.ah d (yL 109) fun j k l m =>
 T.ak c [.slice j k l,av m] <|
 T.ah c (yL 109) fun n o p q =>
 T.ret (.agg #[.slice n o p,av q]))
def xA (a:Option Nat) (b:Int):bD Tryz.prog [] Tryz.f179 [.map a,.int .u32 b]=we a b:=aB
def ya (a:Option XC) (b c:Nat) (d:Int) (e:Option XC) (f g:Nat) (h:Int):T :=
 T.new [.slice a b c,av d] 94 fun i =>
 T.new [.slice e f g,av h] 94 fun j =>
 T.new [aI,av 0] 94 fun k =>
 dh (Instr.makeMap 286 none) false [(false,[.map 0 0])] fun l =>
 T.ah i [.slice 109] fun m n o =>
 T.ah j [.slice 109] fun p q r =>
 aR (Instr.buildSlice 288 2 #[(0,.slice m n o),(1,.slice p q r)]) fun s t u =>
 T.loop [aQ] [vI 0] fun v =>
 dH v t
 (cv v t s fun w =>
 T.ah (w.add (bW v 1)) [.slice 109] fun x y z =>
 T.loop [aQ] [vI 0] fun A =>
 dH A y
 (cv A y x fun B =>
 T.ah (B.add (bW A 2)) [.string,.int .u32] fun C D =>
 T.new [bh,av 0] 109 fun E =>
 T.ak E [.string C,av D] <|
 T.ah E [.string] fun F =>
 dh (Instr.lookup 286 (.map l) (.string F) false) false [(false,[.int .u32])] fun G =>
 T.ah (E.add 1) [.int .u32] fun H =>
 T.pB Tryz.prog (Instr.mapUpdate 286 (.map l) (.string F) (av (IntKind.wrap .u32 (G+H)))) <|
 T.again 1 [bN A])
 (T.again 0 [bN v]))
 (T.ah (i.add 1) [.int .u32] fun w =>
 T.ah (j.add 1) [.int .u32] fun x =>
 aS 179 [.map l,av (IntKind.wrap .u32 (w+x))] false [(true,(yL 109))] fun y z A B =>
 T.ak k [.slice y z A,av B] <|
 T.ah k (yL 109) fun C D E F =>
 T.ret (.agg #[.slice C D E,av F]))
def yZ (a:Option XC) (b c:Nat) (d:Int) (e:Option XC) (f g:Nat) (h:Int):bD Tryz.prog [] Tryz.f159 [.agg #[.slice a b c,.int .u32 d],.agg #[.slice e f g,.int .u32 h]]=ya a b c d e f g h:=aB
def tz (a:Option XC) (b c:Nat) (d:Int) (e:Int):T :=
 T.new [.slice a b c,av d] 94 fun f =>
 T.new [aI,av 0] 94 fun g =>
 dh (Instr.makeMap 286 none) false [(false,[.map 0 0])] fun h =>
 T.ah f [.slice 109] fun i j k =>
 T.loop [aQ] [vI 0] fun l =>
 dH l j
 (cv l j i fun m =>
 T.ah (m.add (bW l 2)) [.string,.int .u32] fun n o =>
 T.new [bh,av 0] 109 fun p =>
 T.ak p [.string n,av o] <|
 T.ah p [.string] fun q =>
 dh (Instr.lookup 286 (.map h) (.string q) false) false [(false,[.int .u32])] fun r =>
 T.ah (p.add 1) [.int .u32] fun s =>
 T.pB Tryz.prog (Instr.mapUpdate 286 (.map h) (.string q) (av (IntKind.wrap .u32 (r+(IntKind.wrap .u32 (s*e)))))) <|
 T.again 0 [bN l])
 (T.ah (f.add 1) [.int .u32] fun m =>
 aS 179 [.map h,av (IntKind.wrap .u32 (m*e))] false [(true,(yL 109))] fun n o p q =>
 T.ak g [.slice n o p,av q] <|
 T.ah g (yL 109) fun r s t u =>
 T.ret (.agg #[.slice r s t,av u]))
def wD (a:Option XC) (b c:Nat) (d:Int) (e:Int):bD Tryz.prog [] Tryz.f156 [.agg #[.slice a b c,.int .u32 d],.int .u32 e]=tz a b c d e:=aB
def tA (a:Option XC) (b c:Nat) (d:Int):T :=
 T.new [.slice a b c,av d] 94 fun e =>
 T.ah e [.slice 109] fun f g h =>
 T.loop [bZ,aQ] [.bool false,vI 0] fun i j =>
 dH j g
 (cv j g f fun k =>
 T.ah (k.add (bW j 2)) [.string,.int .u32] fun l m =>
 T.new [bh,av 0] 109 fun n =>
 T.ak n [.string l,av m] <|
 T.ah (n.add 1) [.int .u32] fun o =>
 cond (o==(0:Int))
 bE
 (T.ah n [.string] fun p =>
 aN 45 [.string p] fun q =>
 T.aT [((n.add 1),[av o])] <|
 cond (!q)
 bE
 (cond (decide (j>(0:Int)))
 (T.ah n [.string] fun r =>
 T.ah e [.slice 109] fun s t u =>
 T.need (((0:Int)<=(aH (j-(1:Int))))/\((aH (j-(1:Int)))<(t:Int))) <|
 T.aA s fun v =>
 T.ah (v.add ((Int.toNat (aH (j-(1:Int))))*2)) [.string] fun w =>
 cond ((Op.bytesLess (ByteArray.toList r) (ByteArray.toList w)) || ((ByteArray.toList r)==(ByteArray.toList w)))
 bE
 (T.again 0 [.bool i,bN j]))
 (T.again 0 [.bool i,bN j]))))
 pj
def wE (a:Option XC) (b c:Nat) (d:Int):bD Tryz.prog [] Tryz.f46 [.agg #[.slice a b c,.int .u32 d]]=tA a b c d:=aB
def vT (a:Option XC) (b c:Nat) (d:Int) (e:Option XC) (f g:Nat) (h:Int):T :=
 T.new [.slice a b c,av d] 94 fun i =>
 T.new [.slice e f g,av h] 94 fun j =>
 T.ah (i.add 1) [.int .u32] fun k =>
 T.ah (j.add 1) [.int .u32] fun l =>
 cond (k==l)
 (T.ah i [.slice 109] fun m n o =>
 T.ah j [.slice 109] fun p q r =>
 aN 117 [.slice m n o,.slice p q r] fun s =>
 T.ret (.bool s))
 bE
def x5 (a:Option XC) (b c:Nat) (d:Int) (e:Option XC) (f g:Nat) (h:Int):bD Tryz.prog [] Tryz.f80 [.agg #[.slice a b c,.int .u32 d],.agg #[.slice e f g,.int .u32 h]]=vT a b c d e f g h:=aB
def jW (a:Option XC) (b c:Nat) (d:Int) (e:Option XC) (f g:Nat) (h:Int):T :=
 T.new [.slice a b c,av d] 94 fun i =>
 T.new [.slice e f g,av h] 94 fun j =>
 T.ah (i.add 1) [.int .u32] fun k =>
 T.ah (j.add 1) [.int .u32] fun l =>
 cond (k != l)
 bE
 (T.ah i [.slice 109] fun m n o =>
 T.ah j [.slice 109] fun p q r =>
 cond ((n:Int) != (q:Int))
 bE
 (T.loop [bZ,aQ] [.bool false,vI 0] fun s t =>
 T.ah i [.slice 109] fun u v w =>
 dH t v
 (T.ah i [.slice 109] fun x y z =>
 cv t y x fun A =>
 T.ah (A.add (bW t 2)) [.string,.int .u32] fun B C =>
 T.ah j [.slice 109] fun D E F =>
 cv t E D fun G =>
 T.ah (G.add (bW t 2)) [.string,.int .u32] fun H I =>
 bR (Sx.df (BinOp.neq) 109 (Operand.tmp 31) (Operand.tmp 36) (.agg #[.string B,av C]) (.agg #[.string H,av I])) fun J =>
 T.aT [(j,[.slice D E F]),(i,[.slice x y z])] <|
 cond J
 bE
 (T.again 0 [.bool s,bN t]))
 pj))
def nP (a:Option XC) (b c:Nat) (d:Int) (e:Option XC) (f g:Nat) (h:Int):bD Tryz.prog [] Tryz.f75 [.agg #[.slice a b c,.int .u32 d],.agg #[.slice e f g,.int .u32 h]]=jW a b c d e f g h:=aB
def jz (a:Option XC) (b c:Nat) (d:Int) (e:Int):T :=
 T.new [.slice a b c,av d] 94 fun f =>
 T.new [aI,av 0] 94 fun g =>
 T.ah (f.add 1) [.int .u32] fun h =>
 T.new [aI,av 0] 94 fun i =>
 T.ak i [aI,av (IntKind.wrap .u32 (h*e))] <|
 T.loop [aQ] [vI 0] fun j =>
 T.ah f [.slice 109] fun k l m =>
 dH j l
 (T.ah f [.slice 109] fun n o p =>
 cv j o n fun q =>
 T.ah ((q.add (bW j 2)).add 1) [.int .u32] fun r =>
 cond ((IntKind.wrap .u32 (r*e)) != (0:Int))
 (T.ah i [.slice 109] fun s t u =>
 T.ah f [.slice 109] fun v w x =>
 cv j w v fun y =>
 T.ah (y.add (bW j 2)) [.string] fun z =>
 aR (Instr.buildSlice 91 1 #[(0,.agg #[.string z,av (IntKind.wrap .u32 (r*e))])]) fun A B C =>
 T.aT [((y.add (bW j 2)),[.string z]),(f,[.slice v w x]),(i,[.slice s t u])] <|
 aR (Builtin.append_ #[91,91] 91 #[.slice s t u,.slice A B C]) fun D E F =>
 T.aT [((y.add (bW j 2)),[.string z]),(f,[.slice v w x])] <|
 T.ak i [.slice D E F] <|
 T.again 0 [bN j])
 (T.again 0 [bN j]))
 (T.ah i (yL 109) fun n o p q =>
 T.ak g [.slice n o p,av q] <|
 T.ah g (yL 109) fun r s t u =>
 T.ret (.agg #[.slice r s t,av u]))
def mT (a:Option XC) (b c:Nat) (d:Int) (e:Int):bD Tryz.prog [] Tryz.f196 [.agg #[.slice a b c,.int .u32 d],.int .u32 e]=jz a b c d e:=aB
def ui (a:XA):T :=
 T.new [aI,av 0] 94 fun b =>
 aR (Instr.buildSlice 91 1 #[(0,.agg #[.string a,av 1])]) fun c d e =>
 T.ak b [.slice c d e,av 0] <|
 T.ah b (yL 109) fun f g h i =>
 T.ret (.agg #[.slice f g h,av i])
def wI (a:XA):bD Tryz.prog [] Tryz.f155 [.string a]=ui a:=aB
def dV (a:Option XC) (b c:Nat) (d:Option XC) (e f:Nat):T :=
 cond ((b:Int) != (e:Int))
 bE
 (T.loop [bZ,aQ] [.bool false,vI 0] fun g h =>
 dH h b
 (cv h b a fun i =>
 T.ah (i.add (bW h 2)) [.string,.int .u32] fun j k =>
 cv h e d fun l =>
 T.ah (l.add (bW h 2)) [.string,.int .u32] fun m n =>
 bR (Sx.df (BinOp.neq) 109 (Operand.tmp 19) (Operand.tmp 23) (.agg #[.string j,av k]) (.agg #[.string m,av n])) fun o =>
 cond o
 bE
 (T.again 0 [.bool g,bN h]))
 pj)
def fK (a:Option XC) (b c:Nat) (d:Option XC) (e f:Nat):bD Tryz.prog [] Tryz.f117 [.slice a b c,.slice d e f]=dV a b c d e f:=aB
def jV (a:Option XC) (b:XA):T :=
 T.aA a fun c =>
 T.ah (c.add 2) [.int .i64] fun d =>
 cond (d != (0:Int))
 bE
 (T.aA a fun e =>
 T.ah e [.slice 178] fun f g h =>
 cond ((g:Int)==(0:Int))
 bE
 (T.aA a fun i =>
 T.ah i [.slice 178] fun j k l =>
 T.need (aZ 0 k) <|
 T.aA j fun m =>
 T.ah m [.int .i64] fun n =>
 cond (n != (3:Int))
 bE
 (T.aA a fun o =>
 T.ah o [.slice 178] fun p q r =>
 T.need (aZ 0 q) <|
 T.aA p fun s =>
 T.ah (s.add 1) [.string] fun t =>
 cond (!((ByteArray.toList t)==(ByteArray.toList b)))
 bE
 (T.aA a fun u =>
 T.ah u [.slice 178] fun v w x =>
 T.need (((0:Int)<=(1:Int))/\(((1:Int)<=(w:Int))/\((w:Int)<=(x:Int)))) <|
 T.aA a fun y =>
 T.ak y [.slice (if (x=1) then v else (Option.map (fun z=>Addr.add z 4) v)) ((Int.toNat (w:Int))-1) (x-1)] <|
 T.ret (.bool true)))))
def oP (a:Option XC) (b:XA):bD Tryz.prog [] Tryz.f153 [.pointer a,.string b]=jV a b:=aB
def iB (a:Option XC) (b:Int):T :=
 T.aA a fun c =>
 T.ah (c.add 2) [.int .i64] fun d =>
 cond (d==(0:Int))
 (T.aA a fun e =>
 T.ak (e.add 2) [vI b] <|
 aw #[])
 (aw #[])
def mr (a:Option XC) (b:Int):bD Tryz.prog [] Tryz.f154 [.pointer a,vI b]=iB a b:=aB
def eT (a:Option XC) (b:Int):T :=
 T.aA a fun c =>
 T.ah (c.add 3) [.int .i64] fun d =>
 cond (d==(0:Int))
 (T.aA a fun e =>
 T.ak (e.add 3) [vI b] <|
 aw #[])
 (aw #[])
def hM (a:Option XC) (b:Int):bD Tryz.prog [] Tryz.f182 [.pointer a,vI b]=eT a b:=aB
def fY (a:Option XC) (b:XA):T :=
 T.aA a fun c =>
 T.ah (c.add 3) [.int .i64] fun d =>
 cond (d==(0:Int))
 (T.aA a fun e =>
 T.ah (e.add 1) [.int .i64] fun f =>
 T.aA a fun g =>
 T.ah g [.slice 236] fun h i j =>
 dH f i
 (T.aA a fun k =>
 T.ah k [.slice 236] fun l m n =>
 T.aA a fun o =>
 T.ah (o.add 1) [.int .i64] fun p =>
 cv p m l fun q =>
 T.ah (q.add (bW p 4)) [.int .i64] fun r =>
 cond (r==(3:Int))
 (T.aA a fun s =>
 T.ah s [.slice 236] fun t u v =>
 T.aA a fun w =>
 T.ah (w.add 1) [.int .i64] fun x =>
 cv x u t fun y =>
 T.ah ((y.add (bW x 4)).add 1) [.string] fun z =>
 T.ret (.bool ((ByteArray.toList z)==(ByteArray.toList b))))
 bE)
 bE)
 bE
def jN (a:Option XC) (b:XA):bD Tryz.prog [] Tryz.f195 [.pointer a,.string b]=fY a b:=aB
end Go.Sx
