/- Trees of functions. No condition. -/
import Derived.Test.YtlpcncdglfjnoaaGreatDoorSxF
import Derived.Test.YtlpcncdglfjnoaaGreatDoorProg
import Derived.KernelRfl
set_option linter.all false
set_option maxRecDepth 100000
set_option maxHeartbeats 4000000
namespace Go.Sx
open Go.Proofs
def uS (a:Xac) (b c:Nat):T :=
 T.new [.slice a b c] 27 fun d =>
 T.af d [.slice 88] fun e f g =>
 bz 84 [.slice e f g] false [(false,[.map 9 3])] fun h =>
 T.new [.map none] 97 fun i =>
 T.ar i [.map h] <|
 bX (Instr.makeMap 142 none) false [(false,[.map 0 0])] fun j =>
 T.new [.map none] 142 fun k =>
 T.ar k [.map j] <|
 bX (Instr.makeMap 97 none) false [(false,[.map 0 0])] fun l =>
 bX (Instr.makeMap 97 none) false [(false,[.map 0 0])] fun m =>
 T.new [.map none] 97 fun n =>
 T.new [.map none] 97 fun o =>
 T.ar n [.map l] <|
 T.ar o [.map m] <|
 T.new [aS] 28 fun p =>
 bX (Instr.makeMap 142 none) false [(false,[.map 0 0])] fun q =>
 T.new [.map none] 142 fun r =>
 T.ar r [.map q] <|
 T.new [.nilFunc] 168 fun s =>
 T.ar s [.func (Fn.func 106) #[] #[.pointer (some n),.pointer (some o),.pointer (some p),.pointer (some r),.pointer (some d),.pointer (some i),.pointer (some k),.pointer (some s)]] <|
 T.af d [.slice 88] fun t u v =>
 T.loop [aK] [vI 0] fun w =>
 bn w u
 (aY w u t fun x =>
 T.af (x.add (ay w 3)) [.string,.slice 66,.int .u32] fun y z A B C =>
 T.new [cm,aS,ax 0] 88 fun D =>
 T.ar D [.string y,.slice z A B,ax C] <|
 T.af n [.map 9 3] fun E =>
 T.af D [.string] fun F =>
 bX (Instr.lookup 97 (.map E) (.string F) false) false [aK] fun G =>
 cond (G==0)
 (T.af s [.func #[9] #[] false] fun (H:Xab) =>
 T.af D [.string] fun I =>
 T.sU Xaz H [.string I] true [] <| T.again 0 [bj w])
 (T.again 0 [bj w]))
 (T.af k [.map 9 4] fun x =>
 T.ret (.map x))
def yR (a:Xac) (b c:Nat):bS Xaz [] Tryz.f83 [.slice a b c]=uS a b c:=aw
def uY (a:Xac) (b c:Nat):T :=
 bX (Instr.makeMap 97 none) false [(false,[.map 0 0])] fun d =>
 T.loop [aK] [vI 0] fun e =>
 bn e b
 (aY e b a fun f =>
 T.af (f.add (ay e 3)) [.string,.slice 66,.int .u32] fun g h i j k =>
 T.new [cm,aS,ax 0] 88 fun l =>
 T.ar l [.string g,.slice h i j,ax k] <|
 T.af l [.string] fun m =>
 T.eV Xaz (Instr.mapUpdate 97 (.map d) (.string m) (vI e)) <|
 T.again 0 [bj e])
 (T.ret (.map d))
def yO (a:Xac) (b c:Nat):bS Xaz [] Tryz.f84 [.slice a b c]=uY a b c:=aw
def DF (a:Xac) (b c:Nat) (d:Int) (e:Option Nat):T :=
 T.new [.slice a b c,ax d] 60 fun f =>
 T.new [aS,ax 0] 60 fun g =>
 bX (Instr.makeMap 170 none) false [(false,[.map 0 0])] fun h =>
 T.af (f.add 1) [.int .u32] fun i =>
 T.af f [.slice 66] fun j k l =>
 T.loop [(false,[.int .u32]),aK] [ax i,vI 0] fun m n =>
 bn n k
 (aY n k j fun o =>
 T.af (o.add (ay n 2)) [.string,.int .u32] fun p q =>
 T.new [cm,ax 0] 66 fun r =>
 T.ar r [.string p,ax q] <|
 T.af r [.string] fun s =>
 bX (Instr.lookup 147 (.map e) (.string s) true) true [(true,(yL 66)),cr] fun t u v w x =>
 T.new [aS,ax 0] 60 fun y =>
 T.ar y [.slice t u v,ax w] <|
 cond (!x)
 (T.af r [.string] fun z =>
 bX (Instr.lookup 170 (.map h) (.string z) false) false [(false,[.int .u32])] fun A =>
 T.af (r.add 1) [.int .u32] fun B =>
 T.eV Xaz (Instr.mapUpdate 170 (.map h) (.string z) (ax (IntKind.wrap .u32 (A+B)))) <|
 T.again 0 [ax m,bj n])
 (T.af y [.slice 66] fun z A B =>
 T.loop [aK] [vI 0] fun C =>
 bn C A
 (aY C A z fun D =>
 T.af (D.add (ay C 2)) [.string,.int .u32] fun E F =>
 T.new [cm,ax 0] 66 fun G =>
 T.ar G [.string E,ax F] <|
 T.af G [.string] fun H =>
 bX (Instr.lookup 170 (.map h) (.string H) false) false [(false,[.int .u32])] fun I =>
 T.af (r.add 1) [.int .u32] fun J =>
 T.af (G.add 1) [.int .u32] fun K =>
 T.eV Xaz (Instr.mapUpdate 170 (.map h) (.string H) (ax (IntKind.wrap .u32 (I+(IntKind.wrap .u32 (J*K)))))) <|
 T.again 1 [bj C])
 (T.af (r.add 1) [.int .u32] fun D =>
 T.af (y.add 1) [.int .u32] fun E =>
 T.again 0 [ax (IntKind.wrap .u32 (m+(IntKind.wrap .u32 (D*E)))),bj n])))
 (T.new [aS,ax 0] 60 fun o =>
 T.ar o [aS,ax m] <|
 bz 109 [.map h] false [(false,[.func #[86] #[] false])] fun (p:Xab) =>
 bz 108 [p] false [(false,[.slice 9])] fun q r s =>
 T.loop [aK] [vI 0] fun t =>
 bn t r
 (aY t r q fun u =>
 T.af (u.add (ay t 1)) [.string] fun v =>
 bX (Instr.lookup 170 (.map h) (.string v) false) false [(false,[.int .u32])] fun w =>
 cond (w != 0)
 (T.af o [.slice 66] fun x y z =>
 bX (Instr.lookup 170 (.map h) (.string v) false) false [(false,[.int .u32])] fun A =>
 aT (Instr.buildSlice 57 1 #[(0,.agg #[.string v,ax A])]) fun B C D =>
 aT (Builtin.append_ #[57,57] 57 #[.slice x y z,.slice B C D]) fun E F G =>
 T.ar o [.slice E F G] <|
 T.again 1 [bj t])
 (T.again 1 [bj t]))
 (T.af o (yL 66) fun u v w x =>
 T.ar g [.slice u v w,ax x] <|
 T.af g (yL 66) fun y z A B =>
 T.ret (.agg #[.slice y z A,ax B])))
def EO (a:Xac) (b c:Nat) (d:Int) (e:Option Nat):bS Xaz [] Tryz.f86 [.agg #[.slice a b c,.int .u32 d],.map e]=DF a b c d e:=aw
def yW (a:Xac) (b c:Nat):T :=
 T.new [.slice a b c] 27 fun d =>
 T.af d [.slice 88] fun e f g =>
 bz 83 [.slice e f g] false [(false,[.map 9 4])] fun h =>
 T.af d [.slice 88] fun i j k =>
 T.loop [dp,aK,aK,aK] [aS,vI 0,vI 0,vI 0] fun l m n o p q =>
 bn q j
 (aY q j i fun r =>
 T.af (r.add (ay q 3)) [.string,.slice 66,.int .u32] fun s t u v w =>
 T.new [cm,aS,ax 0] 88 fun x =>
 T.ar x [.string s,.slice t u v,ax w] <|
 T.af x [.string] fun y =>
 ei (Instr.lookup 142 (.map h) (.string y) false) fun z =>
 cond z
 (bK #[aS,vI q,vI 24])
 (T.again 0 [.slice l m n,vI o,vI p,bj q]))
 (T.af d [.slice 88] fun r s t =>
 bz 84 [.slice r s t] false [(false,[.map 9 3])] fun u =>
 T.new [.map none] 97 fun v =>
 T.ar v [.map u] <|
 bX (Instr.makeMap 147 none) false [(false,[.map 0 0])] fun w =>
 T.new [.map none] 147 fun x =>
 T.ar x [.map w] <|
 T.new [.nilFunc] 148 fun y =>
 T.ar y [.func (Fn.func 85) #[] #[.pointer (some x),.pointer (some d),.pointer (some v),.pointer (some y)]] <|
 T.af d [.slice 88] fun z A B =>
 T.loop [dp,aK] [aS,vI 0] fun C D E F =>
 bn F A
 (aY F A z fun G =>
 T.af (G.add (ay F 3)) [.string,.slice 66,.int .u32] fun H I J K L =>
 T.new [cm,aS,ax 0] 88 fun M =>
 T.ar M [.string H,.slice I J K,ax L] <|
 T.af y [.func #[9] #[60] false] fun (N:Xab) =>
 T.af M [.string] fun O =>
 T.sU Xaz N [.string O] false [(true,(yL 66))] fun P Q R S =>
 T.new [aS,ax 0] 60 fun U =>
 T.ar U [.slice P Q R,ax S] <|
 T.af M [.string] fun V =>
 T.af U [.slice 66] fun W X Y =>
 T.af (U.add 1) [.int .u32] fun Z =>
 bz 54 [.slice W X Y] false [(false,[.slice 66])] fun a0 a1 a2 =>
 T.aD [((U.add 1),[ax Z]),(M,[.string V])] <|
 aT (Instr.buildSlice 27 1 #[(0,.agg #[.string V,.slice a0 a1 a2,ax Z])]) fun a3 a4 a5 =>
 T.aD [((U.add 1),[ax Z]),(U,[.slice W X Y]),(M,[.string V])] <|
 aT (Builtin.append_ #[27,27] 27 #[.slice C D E,.slice a3 a4 a5]) fun a6 a7 a8 =>
 T.aD [((U.add 1),[ax Z]),(U,[.slice W X Y]),(M,[.string V])] <|
 T.again 1 [.slice a6 a7 a8,bj F])
 (bK #[.slice C D E,vI 0,vI 0]))
def BZ (a:Xac) (b c:Nat):bS Xaz [] Tryz.f49 [.slice a b c]=yW a b c:=aw
def Dx (a:Xac) (b c:Nat) (d:Int) (e:Xac) (f g:Nat):T :=
 T.new [.slice a b c,ax d] 60 fun h =>
 T.new [aS,ax 0] 60 fun i =>
 bX (Instr.makeMap 147 none) false [(false,[.map 0 0])] fun j =>
 T.loop [aK] [vI 0] fun k =>
 bn k f
 (aY k f e fun l =>
 T.af (l.add (ay k 3)) [.string,.slice 66,.int .u32] fun m n o p q =>
 T.new [cm,aS,ax 0] 88 fun r =>
 T.ar r [.string m,.slice n o p,ax q] <|
 T.af r [.string] fun s =>
 T.af (r.add 1) (yL 66) fun t u v w =>
 T.eV Xaz (Instr.mapUpdate 147 (.map j) (.string s) (.agg #[.slice t u v,ax w])) <|
 T.again 0 [bj k])
 (T.af h (yL 66) fun l m n o =>
 bz 86 [.agg #[.slice l m n,ax o],.map j] false [(true,(yL 66))] fun p q r s =>
 bz 87 [.agg #[.slice p q r,ax s],.agg #[aS,ax 0]] false [(true,(yL 66))] fun t u v w =>
 T.ar i [.slice t u v,ax w] <|
 T.af i (yL 66) fun x y z A =>
 T.ret (.agg #[.slice x y z,ax A]))
def EG (a:Xac) (b c:Nat) (d:Int) (e:Xac) (f g:Nat):bS Xaz [] Tryz.f50 [.agg #[.slice a b c,.int .u32 d],.slice e f g]=Dx a b c d e f g:=aw
def fk (a:Xac) (b c:Nat) (d:Xaa):T :=
 T.loop [aK,aK] [vI 0,vI 0] fun e f =>
 bn f b
 (aY f b a fun g =>
 T.af (g.add (ay f 1)) [.string] fun h =>
 cond ((ByteArray.toList d)==(ByteArray.toList h))
 (T.ret (vI f))
 (T.again 0 [vI e,bj f]))
 (T.ret (vI (-1)))
def iR (a:Xac) (b c:Nat) (d:Xaa):bS Xaz [] Tryz.f107 [.slice a b c,.string d]=fk a b c d:=aw
def jS (a:Xaa) (b c d e f g h i:Xax):T :=
 T.af b [.map 9 3] fun j =>
 T.af b [.map 9 3] fun k =>
 bX (Builtin.len_ #[97] 3 #[.map k]) false [aK] fun l =>
 T.eV Xaz (Instr.mapUpdate 97 (.map j) (.string a) (bj l)) <|
 T.af c [.map 9 3] fun m =>
 T.af b [.map 9 3] fun n =>
 bX (Instr.lookup 97 (.map n) (.string a) false) false [aK] fun o =>
 T.eV Xaz (Instr.mapUpdate 97 (.map m) (.string a) (vI o)) <|
 T.af d [.slice 9] fun p q r =>
 aT (Instr.buildSlice 28 1 #[(0,.string a)]) fun s t u =>
 aT (Builtin.append_ #[28,28] 28 #[.slice p q r,.slice s t u]) fun v w x =>
 T.ar d [.slice v w x] <|
 T.af e [.map 9 4] fun y =>
 T.eV Xaz (Instr.mapUpdate 142 (.map y) (.string a) (.bool true)) <|
 T.af f [.slice 88] fun z A B =>
 T.af g [.map 9 3] fun C =>
 bX (Instr.lookup 97 (.map C) (.string a) false) false [aK] fun D =>
 aY D A z fun E =>
 T.af ((E.add (ay D 3)).add 1) [.slice 66] fun F G H =>
 T.loop [aK] [vI 0] fun I =>
 bn I G
 (aY I G F fun J =>
 T.af (J.add (ay I 2)) [.string,.int .u32] fun K L =>
 T.new [cm,ax 0] 66 fun M =>
 T.ar M [.string K,ax L] <|
 T.af g [.map 9 3] fun N =>
 T.af M [.string] fun O =>
 bX (Instr.lookup 97 (.map N) (.string O) true) true [aK,cr] fun P Q =>
 cond (!Q)
 (T.again 0 [bj I])
 (T.af M [.string] fun R =>
 cond ((ByteArray.toList R)==(ByteArray.toList a))
 (T.af h [.map 9 4] fun S =>
 T.eV Xaz (Instr.mapUpdate 142 (.map S) (.string a) (.bool true)) <|
 T.af b [.map 9 3] fun U =>
 T.af M [.string] fun V =>
 bX (Instr.lookup 97 (.map U) (.string V) false) false [aK] fun W =>
 cond (W==0)
 (T.af i [.func #[9] #[] false] fun (X:Xab) =>
 T.af M [.string] fun Y =>
 T.sU Xaz X [.string Y] true [] <| T.af c [.map 9 3] fun Z =>
 T.af c [.map 9 3] fun a0 =>
 bX (Instr.lookup 97 (.map a0) (.string a) false) false [aK] fun a1 =>
 T.af c [.map 9 3] fun a2 =>
 T.af M [.string] fun a3 =>
 bX (Instr.lookup 97 (.map a2) (.string a3) false) false [aK] fun a4 =>
 bX (Builtin.min_ #[3,3] 3 #[vI a1,vI a4]) false [aK] fun a5 =>
 T.eV Xaz (Instr.mapUpdate 97 (.map Z) (.string a) (vI a5)) <|
 T.again 0 [bj I])
 (T.af e [.map 9 4] fun X =>
 T.af M [.string] fun Y =>
 ei (Instr.lookup 142 (.map X) (.string Y) false) fun Z =>
 cond Z
 (T.af c [.map 9 3] fun a0 =>
 T.af c [.map 9 3] fun a1 =>
 bX (Instr.lookup 97 (.map a1) (.string a) false) false [aK] fun a2 =>
 T.af b [.map 9 3] fun a3 =>
 T.af M [.string] fun a4 =>
 bX (Instr.lookup 97 (.map a3) (.string a4) false) false [aK] fun a5 =>
 bX (Builtin.min_ #[3,3] 3 #[vI a2,vI a5]) false [aK] fun a6 =>
 T.eV Xaz (Instr.mapUpdate 97 (.map a0) (.string a) (vI a6)) <|
 T.again 0 [bj I])
 (T.again 0 [bj I])))
 (T.af b [.map 9 3] fun S =>
 T.af M [.string] fun U =>
 bX (Instr.lookup 97 (.map S) (.string U) false) false [aK] fun V =>
 cond (V==0)
 (T.af i [.func #[9] #[] false] fun (W:Xab) =>
 T.af M [.string] fun X =>
 T.sU Xaz W [.string X] true [] <| T.af c [.map 9 3] fun Y =>
 T.af c [.map 9 3] fun Z =>
 bX (Instr.lookup 97 (.map Z) (.string a) false) false [aK] fun a0 =>
 T.af c [.map 9 3] fun a1 =>
 T.af M [.string] fun a2 =>
 bX (Instr.lookup 97 (.map a1) (.string a2) false) false [aK] fun a3 =>
 bX (Builtin.min_ #[3,3] 3 #[vI a0,vI a3]) false [aK] fun a4 =>
 T.eV Xaz (Instr.mapUpdate 97 (.map Y) (.string a) (vI a4)) <|
 T.again 0 [bj I])
 (T.af e [.map 9 4] fun W =>
 T.af M [.string] fun X =>
 ei (Instr.lookup 142 (.map W) (.string X) false) fun Y =>
 cond Y
 (T.af c [.map 9 3] fun Z =>
 T.af c [.map 9 3] fun a0 =>
 bX (Instr.lookup 97 (.map a0) (.string a) false) false [aK] fun a1 =>
 T.af b [.map 9 3] fun a2 =>
 T.af M [.string] fun a3 =>
 bX (Instr.lookup 97 (.map a2) (.string a3) false) false [aK] fun a4 =>
 bX (Builtin.min_ #[3,3] 3 #[vI a1,vI a4]) false [aK] fun a5 =>
 T.eV Xaz (Instr.mapUpdate 97 (.map Z) (.string a) (vI a5)) <|
 T.again 0 [bj I])
 (T.again 0 [bj I])))))
 (T.af c [.map 9 3] fun J =>
 bX (Instr.lookup 97 (.map J) (.string a) false) false [aK] fun K =>
 T.af b [.map 9 3] fun L =>
 bX (Instr.lookup 97 (.map L) (.string a) false) false [aK] fun M =>
 cond (decide (K<M))
 (bK #[])
 (T.af d [.slice 9] fun N O P =>
 dl 107 [.slice N O P,.string a] fun Q =>
 T.af d [.slice 9] fun R S U =>
 T.need ((0<=Q)/\((Q<=(S:Int))/\((S:Int)<=(U:Int)))) <|
 T.loop [aK] [vI 0] fun V =>
 cond (decide (V<((((Int.toNat (S:Int))-(Int.toNat Q)):Nat):Int)))
 (T.need ((0<=V)/\(V<((((Int.toNat (S:Int))-(Int.toNat Q)):Nat):Int))) <|
 T.aR (if (U=(Int.toNat Q)) then R else (Option.map (fun W=>Addr.add W (ay Q 1)) R)) fun W =>
 T.af (W.add (ay V 1)) [.string] fun X =>
 T.af e [.map 9 4] fun Y =>
 T.eV Xaz (Instr.mapUpdate 142 (.map Y) (.string X) (.bool false)) <|
 T.af h [.map 9 4] fun Z =>
 T.af h [.map 9 4] fun a0 =>
 ei (Instr.lookup 142 (.map a0) (.string X) false) fun a1 =>
 cond a1
 (T.eV Xaz (Instr.mapUpdate 142 (.map Z) (.string X) (.bool true)) <|
 T.again 1 [bj V])
 (T.af d [.slice 9] fun a2 a3 a4 =>
 T.eV Xaz (Instr.mapUpdate 142 (.map Z) (.string X) (.bool (decide ((bC ((a3:Int)-Q))>1)))) <|
 T.again 1 [bj V]))
 (T.af d [.slice 9] fun W X Y =>
 T.need (((0:Int)<=0)/\((0<=Q)/\(Q<=(Y:Int)))) <|
 T.ar d [.slice (if (Y=0) then W else (Option.map (fun Z=>Addr.add Z 0) W)) ((Int.toNat Q)-0) (Y-0)] <|
 bK #[])))
def oQ (a:Xaa) (b c d e f g h i:Xax):bS Xaz [] Tryz.f106 [.string a,.pointer (some b),.pointer (some c),.pointer (some d),.pointer (some e),.pointer (some f),.pointer (some g),.pointer (some h),.pointer (some i)]=jS a b c d e f g h i:=aw
def lr (a:Xaa) (b c d e:Xax):T :=
 T.new [aS,ax 0] 60 fun f =>
 T.af b [.map 9 60] fun g =>
 bX (Instr.lookup 147 (.map g) (.string a) true) true [(true,(yL 66)),cr] fun h i j k l =>
 T.new [aS,ax 0] 60 fun m =>
 T.ar m [.slice h i j,ax k] <|
 cond l
 (T.af m (yL 66) fun n o p q =>
 T.ar f [.slice n o p,ax q] <|
 T.af f (yL 66) fun r s t u =>
 T.ret (.agg #[.slice r s t,ax u]))
 (T.af c [.slice 88] fun n o p =>
 T.af d [.map 9 3] fun q =>
 bX (Instr.lookup 97 (.map q) (.string a) false) false [aK] fun r =>
 aY r o n fun s =>
 T.af ((s.add (ay r 3)).add 1) (yL 66) fun t u v w =>
 T.new [aS,ax 0] 60 fun x =>
 T.ar x [.slice t u v,ax w] <|
 T.af x [.slice 66] fun y z A =>
 T.loop [aK] [vI 0] fun B =>
 bn B z
 (aY B z y fun C =>
 T.af (C.add (ay B 2)) [.string,.int .u32] fun D E =>
 T.new [cm,ax 0] 66 fun F =>
 T.ar F [.string D,ax E] <|
 T.af d [.map 9 3] fun G =>
 T.af F [.string] fun H =>
 bX (Instr.lookup 97 (.map G) (.string H) true) true [aK,cr] fun I J =>
 cond J
 (T.af e [.func #[9] #[60] false] fun (K:Xab) =>
 T.af F [.string] fun L =>
 T.sU Xaz K [.string L] false [(true,(yL 66))] fun M N O P =>
 T.again 0 [bj B])
 (T.again 0 [bj B]))
 (T.af x (yL 66) fun C D E F =>
 T.af b [.map 9 60] fun G =>
 bz 86 [.agg #[.slice C D E,ax F],.map G] false [(true,(yL 66))] fun H I J K =>
 T.ar x [.slice H I J,ax K] <|
 T.af b [.map 9 60] fun L =>
 T.af x (yL 66) fun M N O P =>
 T.eV Xaz (Instr.mapUpdate 147 (.map L) (.string a) (.agg #[.slice M N O,ax P])) <|
 T.af x (yL 66) fun Q R S U =>
 T.ar f [.slice Q R S,ax U] <|
 T.af f (yL 66) fun V W X Y =>
 T.ret (.agg #[.slice V W X,ax Y])))
def qM (a:Xaa) (b c d e:Xax):bS Xaz [] Tryz.f85 [.string a,.pointer (some b),.pointer (some c),.pointer (some d),.pointer (some e)]=lr a b c d e:=aw
def jK (a:Xac) (b c:Int):T :=
 cond (decide (b<0))
 (T.ret (aS))
 (T.aR a fun d =>
 T.af d [.slice 30] fun e f g =>
 cond (decide (b>=(f:Int)))
 (T.ret (aS))
 (cond (decide (c<0))
 (T.ret (aS))
 (cond (decide (c>1))
 (T.ret (aS))
 (T.aR a fun h =>
 T.af h [.slice 30] fun i j k =>
 aY b j i fun l =>
 T.af (l.add (ay b 4)) [.slice 64] fun m n o =>
 cond (c==1)
 (T.aR a fun p =>
 T.af p [.slice 30] fun q r s =>
 aY b r q fun t =>
 T.af ((t.add (ay b 4)).add 1) [.slice 64] fun u v w =>
 bz 53 [.slice u v w] false [(false,[.slice 64])] fun x y z =>
 T.loop [aK] [vI 0] fun A =>
 bn A y
 (aY A y x fun B =>
 T.af ((B.add (ay A 10)).add 7) [.slice 66] fun C D E =>
 bz 54 [.slice C D E] false [(false,[.slice 66])] fun F G H =>
 aY A y x fun I =>
 T.ar ((I.add (ay A 10)).add 7) [.slice F G H] <|
 T.again 0 [bj A])
 (T.ret (.slice x y z)))
 (bz 53 [.slice m n o] false [(false,[.slice 64])] fun p q r =>
 T.loop [aK] [vI 0] fun s =>
 bn s q
 (aY s q p fun t =>
 T.af ((t.add (ay s 10)).add 7) [.slice 66] fun u v w =>
 bz 54 [.slice u v w] false [(false,[.slice 66])] fun x y z =>
 aY s q p fun A =>
 T.ar ((A.add (ay s 10)).add 7) [.slice x y z] <|
 T.again 0 [bj s])
 (T.ret (.slice p q r)))))))
def ow (a:Xac) (b c:Int):bS Xaz [] Tryz.f17 [.pointer a,vI b,vI c]=jK a b c:=aw
def jl (a:Xac):T :=
 T.aR a fun b =>
 T.af (b.add 1) [.slice 76] fun c d e =>
 bz 55 [.slice c d e] false [(false,[.slice 76])] fun f g h =>
 T.ret (.slice f g h)
def nP (a:Xac):bS Xaz [] Tryz.f18 [.pointer a]=jl a:=aw
def eJ (a:Xac) (b c:Nat):T :=
 cond (/-?Option.isSome.match_1-/ match a with
 | some val=>false
 | none=>true)
 (T.ret (aS))
 (aT (Instr.buildSlice 26 0 #[]) fun d e f =>
 aT (Builtin.append_ #[26,26] 26 #[.slice d e f,.slice a b c]) fun g h i =>
 T.ret (.slice g h i))
def gM (a:Xac) (b c:Nat):bS Xaz [] Tryz.f53 [.slice a b c]=eJ a b c:=aw
def eM (a:Xac) (b c:Nat):T :=
 cond (/-?Option.isSome.match_1-/ match a with
 | some val=>false
 | none=>true)
 (T.ret (aS))
 (aT (Instr.buildSlice 57 0 #[]) fun d e f =>
 aT (Builtin.append_ #[57,57] 57 #[.slice d e f,.slice a b c]) fun g h i =>
 T.ret (.slice g h i))
def gJ (a:Xac) (b c:Nat):bS Xaz [] Tryz.f54 [.slice a b c]=eM a b c:=aw
def dS (a:Xac) (b c:Nat):T :=
 cond (/-?Option.isSome.match_1-/ match a with
 | some val=>false
 | none=>true)
 (T.ret (aS))
 (aT (Instr.buildSlice 43 0 #[]) fun d e f =>
 aT (Builtin.append_ #[43,43] 43 #[.slice d e f,.slice a b c]) fun g h i =>
 T.ret (.slice g h i))
def fR (a:Xac) (b c:Nat):bS Xaz [] Tryz.f55 [.slice a b c]=dS a b c:=aw
def la (a:Xac) (b:Int) (c:Xaa):T :=
 T.new [vI b,.string c] 110 fun d =>
 T.aR a fun e =>
 T.af (e.add 2) [.map 110 3] fun f =>
 T.af d [.int .i64,.string] fun g h =>
 bX (Instr.lookup 96 (.map f) (.agg #[vI g,.string h]) true) true [aK,cr] fun i j =>
 T.aR a fun k =>
 T.af (k.add 3) [.map 110 3] fun l =>
 T.af d [.int .i64,.string] fun m n =>
 bX (Instr.lookup 96 (.map l) (.agg #[vI m,.string n]) true) true [aK,cr] fun o p =>
 cond j
 dZ
 (T.ret (.bool p))
def re (a:Xac) (b:Int) (c:Xaa):bS Xaz [] Tryz.f95 [.pointer a,.agg #[vI b,.string c]]=la a b c:=aw
def lB (a:Xac) (b:Int) (c:Xaa):T :=
 T.new [vI 0,cm] 110 fun d =>
 T.new [vI 0,cm] 110 fun e =>
 T.ar e [vI b,.string c] <|
 T.af e [.int .i64,.string] fun f g =>
 bd 95 [.pointer a,.agg #[vI f,.string g]] fun h =>
 cond h
 (T.af e [.int .i64,.string] fun i j =>
 T.ar d [vI i,.string j] <|
 T.af d [.int .i64,.string] fun k l =>
 bK #[.agg #[vI k,.string l],.bool true])
 (T.aR a fun i =>
 T.af (i.add 4) [.map 9 3] fun j =>
 bX (Instr.lookup 97 (.map j) (.string c) true) true [aK,cr] fun k l =>
 T.ar d [vI k,.string c] <|
 T.af d [.int .i64,.string] fun m n =>
 bK #[.agg #[vI m,.string n],.bool l])
def rc (a:Xac) (b:Int) (c:Xaa):bS Xaz [] Tryz.f67 [.pointer a,vI b,.string c]=lB a b c:=aw
def kM (a:Xac) (b:Int) (c:Xaa):T :=
 T.new [vI b,.string c] 110 fun d =>
 T.aR a fun e =>
 T.af (e.add 2) [.map 110 3] fun f =>
 T.af d [.int .i64,.string] fun g h =>
 bX (Instr.lookup 96 (.map f) (.agg #[vI g,.string h]) true) true [aK,cr] fun i j =>
 cond j
 (jE 81 [vI i] fun k =>
 T.need ((((1+k.size):Nat):Int)<=9223372036854775807) <|
 T.ret (.string (⟨#[76]⟩++k)))
 (T.aR a fun k =>
 T.af (k.add 3) [.map 110 3] fun l =>
 T.af d [.int .i64,.string] fun m n =>
 bX (Instr.lookup 96 (.map l) (.agg #[vI m,.string n]) false) false [aK] fun o =>
 jE 81 [vI o] fun p =>
 T.aD [(d,[vI m,.string n]),((k.add 3),[.map l])] <|
 T.need ((((1+p.size):Nat):Int)<=9223372036854775807) <|
 T.ret (.string (⟨#[69]⟩++p)))
def pM (a:Xac) (b:Int) (c:Xaa):bS Xaz [] Tryz.f47 [.pointer a,.agg #[vI b,.string c]]=kM a b c:=aw
def jA (a:Xac) (b:Int) (c:Xac) (d e:Nat) (f:Int):T :=
 T.new [.slice c d e,ax f] 60 fun g =>
 T.new [aS,ax 0] 60 fun h =>
 T.af g [.slice 66] fun i j k =>
 aT (Instr.makeSlice 27 (vI 0) (vI (j:Int))) fun l m n =>
 T.af g [.slice 66] fun o p q =>
 T.loop [(false,[.string]),cr,dp,aK] [cm,.bool false,.slice l m n,vI 0] fun r s t u v w =>
 bn w p
 (aY w p o fun x =>
 T.af (x.add (ay w 2)) [.string,.int .u32] fun y z =>
 T.new [cm,ax 0] 66 fun A =>
 T.ar A [.string y,ax z] <|
 T.af A [.string] fun B =>
 bz 67 [.pointer a,vI b,.string B] true [(true,[.int .i64,.string]),cr] fun C D E =>
 T.new [vI 0,cm] 110 fun F =>
 T.ar F [vI C,.string D] <|
 cond (!E)
 (T.af A [.string] fun G =>
 T.ar h [aS,ax 0] <|
 T.aD [(A,[.string G])] <|
 T.af h (yL 66) fun H I J K =>
 bK #[.agg #[.slice H I J,ax K],.string G,.bool false])
 (T.af A [.string] fun G =>
 T.af F [.int .i64,.string] fun H I =>
 jE 47 [.pointer a,.agg #[vI H,.string I]] fun J =>
 T.aD [(A,[.string G])] <|
 aT (Instr.buildSlice 57 1 #[(0,.agg #[.string J,ax 1])]) fun K L M =>
 T.aD [(F,[vI H,.string I]),(A,[.string G])] <|
 aT (Instr.buildSlice 27 1 #[(0,.agg #[.string G,.slice K L M,ax 0])]) fun N O P =>
 T.aD [(F,[vI H,.string I]),(A,[.string G])] <|
 aT (Builtin.append_ #[27,27] 27 #[.slice t u v,.slice N O P]) fun Q R S =>
 T.aD [(F,[vI H,.string I]),(A,[.string G])] <|
 T.again 0 [.string r,.bool s,.slice Q R S,bj w]))
 (T.af g (yL 66) fun x y z A =>
 bz 50 [.agg #[.slice x y z,ax A],.slice t u v] false [(true,(yL 66))] fun B C D E =>
 T.ar h [.slice B C D,ax E] <|
 T.af h (yL 66) fun F G H I =>
 bK #[.agg #[.slice F G H,ax I],cm,.bool true])
def nU (a:Xac) (b:Int) (c:Xac) (d e:Nat) (f:Int):bS Xaz [] Tryz.f46 [.pointer a,vI b,.agg #[.slice c d e,.int .u32 f]]=jA a b c d e f:=aw
def kK (a b:Xac) (c d:Nat):T :=
 T.new [vI 0,vI 0,cm] 37 fun e =>
 T.loop [cr,aK] [.bool false,vI 0] fun f g =>
 bn g c
 (aY g c b fun h =>
 T.af (h.add (ay g 4)) (yU 64 88) fun i j k l m n o p q r s t =>
 T.new [aS,aS,aS,aS] 30 fun u =>
 T.ar u [.slice i j k,.slice l m n,.slice o p q,.slice r s t] <|
 T.af (u.add 3) [.slice 9] fun v w x =>
 T.loop [cr,aK] [.bool f,vI 0] fun y z =>
 bn z w
 (aY z w v fun A =>
 T.af (A.add (ay z 1)) [.string] fun B =>
 T.aR a fun C =>
 T.af (C.add 4) [.map 9 3] fun D =>
 bX (Instr.lookup 97 (.map D) (.string B) true) true [aK,cr] fun E F =>
 cond F
 (T.ar e [vI 22,vI g,.string B] <|
 T.af e [.int .i64,.int .i64,.string] fun G H I =>
 bK #[.agg #[vI G,vI H,.string I],.bool true])
 (T.again 1 [.bool y,bj z]))
 (T.af (u.add 3) [.slice 9] fun A B C =>
 T.loop [aK] [vI 0] fun D =>
 bn D B
 (aY D B A fun E =>
 T.af (E.add (ay D 1)) [.string] fun F =>
 T.aR a fun G =>
 T.af (G.add 4) [.map 9 3] fun H =>
 T.eV Xaz (Instr.mapUpdate 97 (.map H) (.string F) (vI g)) <|
 T.again 2 [bj D])
 (T.again 0 [.bool y,bj g])))
 (T.ar e [vI 0,vI 0,cm] <|
 T.af e [.int .i64,.int .i64,.string] fun h i j =>
 bK #[.agg #[vI h,vI i,.string j],.bool false])
def pe (a b:Xac) (c d:Nat):bS Xaz [] Tryz.f44 [.pointer a,.slice b c d]=kK a b c d:=aw
def jO (a b:Xac) (c d:Nat):T :=
 T.loop [aK] [vI 0] fun e =>
 bn e c
 (aY e c b fun f =>
 T.af (f.add (ay e 4)) (yU 64 88) fun g h i j k l m n o p q r =>
 T.new [aS,aS,aS,aS] 30 fun s =>
 T.ar s [.slice g h i,.slice j k l,.slice m n o,.slice p q r] <|
 T.af s [.slice 64] fun t u v =>
 T.af (s.add 1) [.slice 64] fun w x y =>
 aT (Instr.buildSlice 68 2 #[(0,.slice t u v),(1,.slice w x y)]) fun z A B =>
 T.loop [aK] [vI 0] fun C =>
 bn C A
 (aY C A z fun D =>
 T.af (D.add (ay C 1)) [.slice 64] fun E F G =>
 T.loop [aK] [vI 0] fun H =>
 bn H F
 (aY H F E fun I =>
 T.af (I.add (ay H 10)) (yI 66) fun J K L M N O P Q R S U V =>
 T.new [vI 0,cm,vI 0,vI 0,vI 0,.int .i32 0,vI 0,aS,ax 0,vI 0] 64 fun W =>
 T.ar W [vI J,.string K,vI L,vI M,vI N,.int .i32 O,vI P,.slice Q R S,ax U,vI V] <|
 T.af W [.int .i64] fun X =>
 cond (X==1)
 (T.aR a fun Y =>
 T.af (Y.add 2) [.map 110 3] fun Z =>
 T.af (W.add 1) [.string] fun a0 =>
 T.aR a fun a1 =>
 T.af (a1.add 1) [.slice 76] fun a2 a3 a4 =>
 T.eV Xaz (Instr.mapUpdate 96 (.map Z) (.agg #[vI e,.string a0]) (vI (a3:Int))) <|
 T.aR a fun a5 =>
 T.af (a5.add 1) [.slice 76] fun a6 a7 a8 =>
 T.af (W.add 1) [.string] fun a9 =>
 aT (Instr.buildSlice 43 1 #[(0,.agg #[vI e,vI C,vI H,.string a9])]) fun b0 b1 b2 =>
 T.aD [((W.add 1),[.string a9]),((a5.add 1),[.slice a6 a7 a8])] <|
 aT (Builtin.append_ #[43,43] 43 #[.slice a6 a7 a8,.slice b0 b1 b2]) fun b3 b4 b5 =>
 T.aD [((W.add 1),[.string a9])] <|
 T.aR a fun b6 =>
 T.ar (b6.add 1) [.slice b3 b4 b5] <|
 T.again 2 [bj H])
 (T.again 2 [bj H]))
 (T.again 1 [bj C]))
 (T.af (s.add 2) [.slice 88] fun D E F =>
 T.loop [aK] [vI 0] fun G =>
 bn G E
 (aY G E D fun H =>
 T.af (H.add (ay G 3)) [.string,.slice 66,.int .u32] fun I J K L M =>
 T.new [cm,aS,ax 0] 88 fun N =>
 T.ar N [.string I,.slice J K L,ax M] <|
 T.aR a fun O =>
 T.af (O.add 3) [.map 110 3] fun P =>
 T.af N [.string] fun Q =>
 T.aR a fun R =>
 T.af (R.add 3) [.map 110 3] fun S =>
 bX (Builtin.len_ #[96] 3 #[.map S]) false [aK] fun U =>
 T.aD [(N,[.string Q]),((O.add 3),[.map P])] <|
 T.eV Xaz (Instr.mapUpdate 96 (.map P) (.agg #[vI e,.string Q]) (vI U)) <|
 T.again 2 [bj G])
 (T.again 0 [bj e])))
 (bK #[])
def oH (a b:Xac) (c d:Nat):bS Xaz [] Tryz.f43 [.pointer a,.slice b c d]=jO a b c d:=aw
def jG (a:Xac) (b:Int) (c:Xac) (d e:Nat):T :=
 bz 53 [.slice c d e] false [(false,[.slice 64])] fun f g h =>
 T.loop [dp,(false,[.string]),cr,aK] [aS,cm,.bool false,vI 0] fun i j k l m n =>
 bn n d
 (aY n d c fun o =>
 T.af (o.add (ay n 10)) (yI 66) fun p q r s t u v w x y z A =>
 T.new [vI 0,cm,vI 0,vI 0,vI 0,.int .i32 0,vI 0,aS,ax 0,vI 0] 64 fun B =>
 T.ar B [vI p,.string q,vI r,vI s,vI t,.int .i32 u,vI v,.slice w x y,ax z,vI A] <|
 T.af (B.add 7) (yL 66) fun C D E F =>
 bz 46 [.pointer a,vI b,.agg #[.slice C D E,ax F]] true [(true,(yL 66)),(false,[.string]),cr] fun G H I J K L =>
 T.new [aS,ax 0] 60 fun M =>
 T.ar M [.slice G H I,ax J] <|
 cond (!L)
 (bK #[aS,.string K,.bool false])
 (T.af M (yL 66) fun N O P Q =>
 aY n g f fun R =>
 T.ar ((R.add (ay n 10)).add 7) [.slice N O P,ax Q] <|
 T.again 0 [.slice i j k,.string l,.bool m,bj n]))
 (bK #[.slice f g h,cm,.bool true])
def oz (a:Xac) (b:Int) (c:Xac) (d e:Nat):bS Xaz [] Tryz.f45 [.pointer a,vI b,.slice c d e]=jG a b c d e:=aw
end Go.Sx
