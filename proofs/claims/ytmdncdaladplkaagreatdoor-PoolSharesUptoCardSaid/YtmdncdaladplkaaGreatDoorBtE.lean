/- Trees of functions. No condition. -/
import Derived.Test.YtmdncdaladplkaaGreatDoorSxF
import Derived.Test.YtmdncdaladplkaaGreatDoorProg
import Derived.KernelRfl
set_option linter.all false
set_option maxRecDepth 100000
set_option maxHeartbeats 4000000
namespace Go.Sx
open Go.Proofs
def uy (a:Xac) (b c:Nat):T :=
 T.new [.slice a b c] 67 fun d =>
 T.af d [.slice 116] fun e f g =>
 bP 62 [.slice e f g] false [(false,[.map 9 3])] fun h =>
 T.new [.map none] 105 fun i =>
 T.aD i [.map h] <|
 bQ (Instr.makeMap 152 none) false [(false,[.map 0 0])] fun j =>
 T.new [.map none] 152 fun k =>
 T.aD k [.map j] <|
 bQ (Instr.makeMap 105 none) false [(false,[.map 0 0])] fun l =>
 bQ (Instr.makeMap 105 none) false [(false,[.map 0 0])] fun m =>
 T.new [.map none] 105 fun n =>
 T.new [.map none] 105 fun o =>
 T.aD n [.map l] <|
 T.aD o [.map m] <|
 T.new [bg] 68 fun p =>
 bQ (Instr.makeMap 152 none) false [(false,[.map 0 0])] fun q =>
 T.new [.map none] 152 fun r =>
 T.aD r [.map q] <|
 T.new [.nilFunc] 194 fun s =>
 T.aD s [.func (Fn.func 87) #[] #[.pointer (some n),.pointer (some o),.pointer (some p),.pointer (some r),.pointer (some d),.pointer (some i),.pointer (some k),.pointer (some s)]] <|
 T.af d [.slice 116] fun t u v =>
 T.loop [aQ] [vI 0] fun w =>
 bt w u
 (aY w u t fun x =>
 T.af (x.add (aI w 3)) [.string,.slice 64,.int .u32] fun y z A B C =>
 T.new [cm,bg,aF 0] 116 fun D =>
 T.aD D [.string y,.slice z A B,aF C] <|
 T.af n [.map 9 3] fun E =>
 T.af D [.string] fun F =>
 bQ (Instr.lookup 105 (.map E) (.string F) false) false [aQ] fun G =>
 cond (G==0)
 (T.af s [.func #[9] #[] false] fun (H:Xab) =>
 T.af D [.string] fun I =>
 T.wI Xaz H [.string I] true [] <| T.again 0 [bh w])
 (T.again 0 [bh w]))
 (T.af k [.map 9 4] fun x =>
 T.ret (.map x))
def yN (a:Xac) (b c:Nat):bZ Xaz [] Tryz.f61 [.slice a b c]=uy a b c:=ax
def uE (a:Xac) (b c:Nat):T :=
 bQ (Instr.makeMap 105 none) false [(false,[.map 0 0])] fun d =>
 T.loop [aQ] [vI 0] fun e =>
 bt e b
 (aY e b a fun f =>
 T.af (f.add (aI e 3)) [.string,.slice 64,.int .u32] fun g h i j k =>
 T.new [cm,bg,aF 0] 116 fun l =>
 T.aD l [.string g,.slice h i j,aF k] <|
 T.af l [.string] fun m =>
 T.dX Xaz (Instr.mapUpdate 105 (.map d) (.string m) (vI e)) <|
 T.again 0 [bh e])
 (T.ret (.map d))
def yK (a:Xac) (b c:Nat):bZ Xaz [] Tryz.f62 [.slice a b c]=uE a b c:=ax
def D5 (a:Xac) (b c:Nat) (d:Int) (e:Option Nat):T :=
 T.new [.slice a b c,aF d] 53 fun f =>
 T.new [bg,aF 0] 53 fun g =>
 bQ (Instr.makeMap 196 none) false [(false,[.map 0 0])] fun h =>
 T.af (f.add 1) [.int .u32] fun i =>
 T.af f [.slice 64] fun j k l =>
 T.loop [(false,[.int .u32]),aQ] [aF i,vI 0] fun m n =>
 bt n k
 (aY n k j fun o =>
 T.af (o.add (aI n 2)) [.string,.int .u32] fun p q =>
 T.new [cm,aF 0] 64 fun r =>
 T.aD r [.string p,aF q] <|
 T.af r [.string] fun s =>
 bQ (Instr.lookup 165 (.map e) (.string s) true) true [(true,(yL 64)),cn] fun t u v w x =>
 T.new [bg,aF 0] 53 fun y =>
 T.aD y [.slice t u v,aF w] <|
 cond (!x)
 (T.af r [.string] fun z =>
 bQ (Instr.lookup 196 (.map h) (.string z) false) false [(false,[.int .u32])] fun A =>
 T.af (r.add 1) [.int .u32] fun B =>
 T.dX Xaz (Instr.mapUpdate 196 (.map h) (.string z) (aF (IntKind.wrap .u32 (A+B)))) <|
 T.again 0 [aF m,bh n])
 (T.af y [.slice 64] fun z A B =>
 T.loop [aQ] [vI 0] fun C =>
 bt C A
 (aY C A z fun D =>
 T.af (D.add (aI C 2)) [.string,.int .u32] fun E F =>
 T.new [cm,aF 0] 64 fun G =>
 T.aD G [.string E,aF F] <|
 T.af G [.string] fun H =>
 bQ (Instr.lookup 196 (.map h) (.string H) false) false [(false,[.int .u32])] fun I =>
 T.af (r.add 1) [.int .u32] fun J =>
 T.af (G.add 1) [.int .u32] fun K =>
 T.dX Xaz (Instr.mapUpdate 196 (.map h) (.string H) (aF (IntKind.wrap .u32 (I+(IntKind.wrap .u32 (J*K)))))) <|
 T.again 1 [bh C])
 (T.af (r.add 1) [.int .u32] fun D =>
 T.af (y.add 1) [.int .u32] fun E =>
 T.again 0 [aF (IntKind.wrap .u32 (m+(IntKind.wrap .u32 (D*E)))),bh n])))
 (T.new [bg,aF 0] 53 fun o =>
 T.aD o [bg,aF m] <|
 bP 90 [.map h] false [(false,[.func #[154] #[] false])] fun (p:Xab) =>
 bP 89 [p] false [(false,[.slice 9])] fun q r s =>
 T.loop [aQ] [vI 0] fun t =>
 bt t r
 (aY t r q fun u =>
 T.af (u.add (aI t 1)) [.string] fun v =>
 bQ (Instr.lookup 196 (.map h) (.string v) false) false [(false,[.int .u32])] fun w =>
 cond (w != 0)
 (T.af o [.slice 64] fun x y z =>
 bQ (Instr.lookup 196 (.map h) (.string v) false) false [(false,[.int .u32])] fun A =>
 bn (Instr.buildSlice 50 1 #[(0,.agg #[.string v,aF A])]) fun B C D =>
 bn (Builtin.append_ #[50,50] 50 #[.slice x y z,.slice B C D]) fun E F G =>
 T.aD o [.slice E F G] <|
 T.again 1 [bh t])
 (T.again 1 [bh t]))
 (T.af o (yL 64) fun u v w x =>
 T.aD g [.slice u v w,aF x] <|
 T.af g (yL 64) fun y z A B =>
 T.ret (.agg #[.slice y z A,aF B])))
def Fk (a:Xac) (b c:Nat) (d:Int) (e:Option Nat):bZ Xaz [] Tryz.f64 [.agg #[.slice a b c,.int .u32 d],.map e]=D5 a b c d e:=ax
def yS (a:Xac) (b c:Nat):T :=
 T.new [.slice a b c] 67 fun d =>
 T.af d [.slice 116] fun e f g =>
 bP 61 [.slice e f g] false [(false,[.map 9 4])] fun h =>
 T.af d [.slice 116] fun i j k =>
 T.loop [cY,aQ,aQ,aQ] [bg,vI 0,vI 0,vI 0] fun l m n o p q =>
 bt q j
 (aY q j i fun r =>
 T.af (r.add (aI q 3)) [.string,.slice 64,.int .u32] fun s t u v w =>
 T.new [cm,bg,aF 0] 116 fun x =>
 T.aD x [.string s,.slice t u v,aF w] <|
 T.af x [.string] fun y =>
 fh (Instr.lookup 152 (.map h) (.string y) false) fun z =>
 cond z
 (bG #[bg,vI q,vI 24])
 (T.again 0 [.slice l m n,vI o,vI p,bh q]))
 (T.af d [.slice 116] fun r s t =>
 bP 62 [.slice r s t] false [(false,[.map 9 3])] fun u =>
 T.new [.map none] 105 fun v =>
 T.aD v [.map u] <|
 bQ (Instr.makeMap 165 none) false [(false,[.map 0 0])] fun w =>
 T.new [.map none] 165 fun x =>
 T.aD x [.map w] <|
 T.new [.nilFunc] 166 fun y =>
 T.aD y [.func (Fn.func 63) #[] #[.pointer (some x),.pointer (some d),.pointer (some v),.pointer (some y)]] <|
 T.af d [.slice 116] fun z A B =>
 T.loop [cY,aQ] [bg,vI 0] fun C D E F =>
 bt F A
 (aY F A z fun G =>
 T.af (G.add (aI F 3)) [.string,.slice 64,.int .u32] fun H I J K L =>
 T.new [cm,bg,aF 0] 116 fun M =>
 T.aD M [.string H,.slice I J K,aF L] <|
 T.af y [.func #[9] #[53] false] fun (N:Xab) =>
 T.af M [.string] fun O =>
 T.wI Xaz N [.string O] false [(true,(yL 64))] fun P Q R S =>
 T.new [bg,aF 0] 53 fun U =>
 T.aD U [.slice P Q R,aF S] <|
 T.af M [.string] fun V =>
 T.af U [.slice 64] fun W X Y =>
 T.af (U.add 1) [.int .u32] fun Z =>
 bP 65 [.slice W X Y] false [(false,[.slice 64])] fun a0 a1 a2 =>
 T.bi [((U.add 1),[aF Z]),(M,[.string V])] <|
 bn (Instr.buildSlice 67 1 #[(0,.agg #[.string V,.slice a0 a1 a2,aF Z])]) fun a3 a4 a5 =>
 T.bi [((U.add 1),[aF Z]),(U,[.slice W X Y]),(M,[.string V])] <|
 bn (Builtin.append_ #[67,67] 67 #[.slice C D E,.slice a3 a4 a5]) fun a6 a7 a8 =>
 T.bi [((U.add 1),[aF Z]),(U,[.slice W X Y]),(M,[.string V])] <|
 T.again 1 [.slice a6 a7 a8,bh F])
 (bG #[.slice C D E,vI 0,vI 0]))
def Cl (a:Xac) (b c:Nat):bZ Xaz [] Tryz.f37 [.slice a b c]=yS a b c:=ax
def DW (a:Xac) (b c:Nat) (d:Int) (e:Xac) (f g:Nat):T :=
 T.new [.slice a b c,aF d] 53 fun h =>
 T.new [bg,aF 0] 53 fun i =>
 bQ (Instr.makeMap 165 none) false [(false,[.map 0 0])] fun j =>
 T.loop [aQ] [vI 0] fun k =>
 bt k f
 (aY k f e fun l =>
 T.af (l.add (aI k 3)) [.string,.slice 64,.int .u32] fun m n o p q =>
 T.new [cm,bg,aF 0] 116 fun r =>
 T.aD r [.string m,.slice n o p,aF q] <|
 T.af r [.string] fun s =>
 T.af (r.add 1) (yL 64) fun t u v w =>
 T.dX Xaz (Instr.mapUpdate 165 (.map j) (.string s) (.agg #[.slice t u v,aF w])) <|
 T.again 0 [bh k])
 (T.af h (yL 64) fun l m n o =>
 bP 64 [.agg #[.slice l m n,aF o],.map j] false [(true,(yL 64))] fun p q r s =>
 bP 66 [.agg #[.slice p q r,aF s],.agg #[bg,aF 0]] false [(true,(yL 64))] fun t u v w =>
 T.aD i [.slice t u v,aF w] <|
 T.af i (yL 64) fun x y z A =>
 T.ret (.agg #[.slice x y z,aF A]))
def E4 (a:Xac) (b c:Nat) (d:Int) (e:Xac) (f g:Nat):bZ Xaz [] Tryz.f38 [.agg #[.slice a b c,.int .u32 d],.slice e f g]=DW a b c d e f g:=ax
def fj (a:Xac) (b c:Nat) (d:Xaa):T :=
 T.loop [aQ,aQ] [vI 0,vI 0] fun e f =>
 bt f b
 (aY f b a fun g =>
 T.af (g.add (aI f 1)) [.string] fun h =>
 cond ((ByteArray.toList d)==(ByteArray.toList h))
 (T.ret (vI f))
 (T.again 0 [vI e,bh f]))
 (T.ret (vI (-1)))
def iM (a:Xac) (b c:Nat) (d:Xaa):bZ Xaz [] Tryz.f88 [.slice a b c,.string d]=fj a b c d:=ax
def jN (a:Xaa) (b c d e f g h i:Xax):T :=
 T.af b [.map 9 3] fun j =>
 T.af b [.map 9 3] fun k =>
 bQ (Builtin.len_ #[105] 3 #[.map k]) false [aQ] fun l =>
 T.dX Xaz (Instr.mapUpdate 105 (.map j) (.string a) (bh l)) <|
 T.af c [.map 9 3] fun m =>
 T.af b [.map 9 3] fun n =>
 bQ (Instr.lookup 105 (.map n) (.string a) false) false [aQ] fun o =>
 T.dX Xaz (Instr.mapUpdate 105 (.map m) (.string a) (vI o)) <|
 T.af d [.slice 9] fun p q r =>
 bn (Instr.buildSlice 68 1 #[(0,.string a)]) fun s t u =>
 bn (Builtin.append_ #[68,68] 68 #[.slice p q r,.slice s t u]) fun v w x =>
 T.aD d [.slice v w x] <|
 T.af e [.map 9 4] fun y =>
 T.dX Xaz (Instr.mapUpdate 152 (.map y) (.string a) (.bool true)) <|
 T.af f [.slice 116] fun z A B =>
 T.af g [.map 9 3] fun C =>
 bQ (Instr.lookup 105 (.map C) (.string a) false) false [aQ] fun D =>
 aY D A z fun E =>
 T.af ((E.add (aI D 3)).add 1) [.slice 64] fun F G H =>
 T.loop [aQ] [vI 0] fun I =>
 bt I G
 (aY I G F fun J =>
 T.af (J.add (aI I 2)) [.string,.int .u32] fun K L =>
 T.new [cm,aF 0] 64 fun M =>
 T.aD M [.string K,aF L] <|
 T.af g [.map 9 3] fun N =>
 T.af M [.string] fun O =>
 bQ (Instr.lookup 105 (.map N) (.string O) true) true [aQ,cn] fun P Q =>
 cond (!Q)
 (T.again 0 [bh I])
 (T.af M [.string] fun R =>
 cond ((ByteArray.toList R)==(ByteArray.toList a))
 (T.af h [.map 9 4] fun S =>
 T.dX Xaz (Instr.mapUpdate 152 (.map S) (.string a) (.bool true)) <|
 T.af b [.map 9 3] fun U =>
 T.af M [.string] fun V =>
 bQ (Instr.lookup 105 (.map U) (.string V) false) false [aQ] fun W =>
 cond (W==0)
 (T.af i [.func #[9] #[] false] fun (X:Xab) =>
 T.af M [.string] fun Y =>
 T.wI Xaz X [.string Y] true [] <| T.af c [.map 9 3] fun Z =>
 T.af c [.map 9 3] fun a0 =>
 bQ (Instr.lookup 105 (.map a0) (.string a) false) false [aQ] fun a1 =>
 T.af c [.map 9 3] fun a2 =>
 T.af M [.string] fun a3 =>
 bQ (Instr.lookup 105 (.map a2) (.string a3) false) false [aQ] fun a4 =>
 bQ (Builtin.min_ #[3,3] 3 #[vI a1,vI a4]) false [aQ] fun a5 =>
 T.dX Xaz (Instr.mapUpdate 105 (.map Z) (.string a) (vI a5)) <|
 T.again 0 [bh I])
 (T.af e [.map 9 4] fun X =>
 T.af M [.string] fun Y =>
 fh (Instr.lookup 152 (.map X) (.string Y) false) fun Z =>
 cond Z
 (T.af c [.map 9 3] fun a0 =>
 T.af c [.map 9 3] fun a1 =>
 bQ (Instr.lookup 105 (.map a1) (.string a) false) false [aQ] fun a2 =>
 T.af b [.map 9 3] fun a3 =>
 T.af M [.string] fun a4 =>
 bQ (Instr.lookup 105 (.map a3) (.string a4) false) false [aQ] fun a5 =>
 bQ (Builtin.min_ #[3,3] 3 #[vI a2,vI a5]) false [aQ] fun a6 =>
 T.dX Xaz (Instr.mapUpdate 105 (.map a0) (.string a) (vI a6)) <|
 T.again 0 [bh I])
 (T.again 0 [bh I])))
 (T.af b [.map 9 3] fun S =>
 T.af M [.string] fun U =>
 bQ (Instr.lookup 105 (.map S) (.string U) false) false [aQ] fun V =>
 cond (V==0)
 (T.af i [.func #[9] #[] false] fun (W:Xab) =>
 T.af M [.string] fun X =>
 T.wI Xaz W [.string X] true [] <| T.af c [.map 9 3] fun Y =>
 T.af c [.map 9 3] fun Z =>
 bQ (Instr.lookup 105 (.map Z) (.string a) false) false [aQ] fun a0 =>
 T.af c [.map 9 3] fun a1 =>
 T.af M [.string] fun a2 =>
 bQ (Instr.lookup 105 (.map a1) (.string a2) false) false [aQ] fun a3 =>
 bQ (Builtin.min_ #[3,3] 3 #[vI a0,vI a3]) false [aQ] fun a4 =>
 T.dX Xaz (Instr.mapUpdate 105 (.map Y) (.string a) (vI a4)) <|
 T.again 0 [bh I])
 (T.af e [.map 9 4] fun W =>
 T.af M [.string] fun X =>
 fh (Instr.lookup 152 (.map W) (.string X) false) fun Y =>
 cond Y
 (T.af c [.map 9 3] fun Z =>
 T.af c [.map 9 3] fun a0 =>
 bQ (Instr.lookup 105 (.map a0) (.string a) false) false [aQ] fun a1 =>
 T.af b [.map 9 3] fun a2 =>
 T.af M [.string] fun a3 =>
 bQ (Instr.lookup 105 (.map a2) (.string a3) false) false [aQ] fun a4 =>
 bQ (Builtin.min_ #[3,3] 3 #[vI a1,vI a4]) false [aQ] fun a5 =>
 T.dX Xaz (Instr.mapUpdate 105 (.map Z) (.string a) (vI a5)) <|
 T.again 0 [bh I])
 (T.again 0 [bh I])))))
 (T.af c [.map 9 3] fun J =>
 bQ (Instr.lookup 105 (.map J) (.string a) false) false [aQ] fun K =>
 T.af b [.map 9 3] fun L =>
 bQ (Instr.lookup 105 (.map L) (.string a) false) false [aQ] fun M =>
 cond (decide (K<M))
 (bG #[])
 (T.af d [.slice 9] fun N O P =>
 cQ 88 [.slice N O P,.string a] fun Q =>
 T.af d [.slice 9] fun R S U =>
 T.need ((0<=Q)/\((Q<=(S:Int))/\((S:Int)<=(U:Int)))) <|
 T.loop [aQ] [vI 0] fun V =>
 cond (decide (V<((((Int.toNat (S:Int))-(Int.toNat Q)):Nat):Int)))
 (T.need ((0<=V)/\(V<((((Int.toNat (S:Int))-(Int.toNat Q)):Nat):Int))) <|
 T.bf (if (U=(Int.toNat Q)) then R else (Option.map (fun W=>Addr.add W (aI Q 1)) R)) fun W =>
 T.af (W.add (aI V 1)) [.string] fun X =>
 T.af e [.map 9 4] fun Y =>
 T.dX Xaz (Instr.mapUpdate 152 (.map Y) (.string X) (.bool false)) <|
 T.af h [.map 9 4] fun Z =>
 T.af h [.map 9 4] fun a0 =>
 fh (Instr.lookup 152 (.map a0) (.string X) false) fun a1 =>
 cond a1
 (T.dX Xaz (Instr.mapUpdate 152 (.map Z) (.string X) (.bool true)) <|
 T.again 1 [bh V])
 (T.af d [.slice 9] fun a2 a3 a4 =>
 T.dX Xaz (Instr.mapUpdate 152 (.map Z) (.string X) (.bool (decide ((bq ((a3:Int)-Q))>1)))) <|
 T.again 1 [bh V]))
 (T.af d [.slice 9] fun W X Y =>
 T.need (((0:Int)<=0)/\((0<=Q)/\(Q<=(Y:Int)))) <|
 T.aD d [.slice (if (Y=0) then W else (Option.map (fun Z=>Addr.add Z 0) W)) ((Int.toNat Q)-0) (Y-0)] <|
 bG #[])))
def ow (a:Xaa) (b c d e f g h i:Xax):bZ Xaz [] Tryz.f87 [.string a,.pointer (some b),.pointer (some c),.pointer (some d),.pointer (some e),.pointer (some f),.pointer (some g),.pointer (some h),.pointer (some i)]=jN a b c d e f g h i:=ax
def lf (a:Xaa) (b c d e:Xax):T :=
 T.new [bg,aF 0] 53 fun f =>
 T.af b [.map 9 53] fun g =>
 bQ (Instr.lookup 165 (.map g) (.string a) true) true [(true,(yL 64)),cn] fun h i j k l =>
 T.new [bg,aF 0] 53 fun m =>
 T.aD m [.slice h i j,aF k] <|
 cond l
 (T.af m (yL 64) fun n o p q =>
 T.aD f [.slice n o p,aF q] <|
 T.af f (yL 64) fun r s t u =>
 T.ret (.agg #[.slice r s t,aF u]))
 (T.af c [.slice 116] fun n o p =>
 T.af d [.map 9 3] fun q =>
 bQ (Instr.lookup 105 (.map q) (.string a) false) false [aQ] fun r =>
 aY r o n fun s =>
 T.af ((s.add (aI r 3)).add 1) (yL 64) fun t u v w =>
 T.new [bg,aF 0] 53 fun x =>
 T.aD x [.slice t u v,aF w] <|
 T.af x [.slice 64] fun y z A =>
 T.loop [aQ] [vI 0] fun B =>
 bt B z
 (aY B z y fun C =>
 T.af (C.add (aI B 2)) [.string,.int .u32] fun D E =>
 T.new [cm,aF 0] 64 fun F =>
 T.aD F [.string D,aF E] <|
 T.af d [.map 9 3] fun G =>
 T.af F [.string] fun H =>
 bQ (Instr.lookup 105 (.map G) (.string H) true) true [aQ,cn] fun I J =>
 cond J
 (T.af e [.func #[9] #[53] false] fun (K:Xab) =>
 T.af F [.string] fun L =>
 T.wI Xaz K [.string L] false [(true,(yL 64))] fun M N O P =>
 T.again 0 [bh B])
 (T.again 0 [bh B]))
 (T.af x (yL 64) fun C D E F =>
 T.af b [.map 9 53] fun G =>
 bP 64 [.agg #[.slice C D E,aF F],.map G] false [(true,(yL 64))] fun H I J K =>
 T.aD x [.slice H I J,aF K] <|
 T.af b [.map 9 53] fun L =>
 T.af x (yL 64) fun M N O P =>
 T.dX Xaz (Instr.mapUpdate 165 (.map L) (.string a) (.agg #[.slice M N O,aF P])) <|
 T.af x (yL 64) fun Q R S U =>
 T.aD f [.slice Q R S,aF U] <|
 T.af f (yL 64) fun V W X Y =>
 T.ret (.agg #[.slice V W X,aF Y])))
def qt (a:Xaa) (b c d e:Xax):bZ Xaz [] Tryz.f63 [.string a,.pointer (some b),.pointer (some c),.pointer (some d),.pointer (some e)]=lf a b c d e:=ax
def jF (a:Xac) (b c:Int):T :=
 cond (decide (b<0))
 (T.ret (bg))
 (T.bf a fun d =>
 T.af d [.slice 70] fun e f g =>
 cond (decide (b>=(f:Int)))
 (T.ret (bg))
 (cond (decide (c<0))
 (T.ret (bg))
 (cond (decide (c>1))
 (T.ret (bg))
 (T.bf a fun h =>
 T.af h [.slice 70] fun i j k =>
 aY b j i fun l =>
 T.af (l.add (aI b 4)) [.slice 55] fun m n o =>
 cond (c==1)
 (T.bf a fun p =>
 T.af p [.slice 70] fun q r s =>
 aY b r q fun t =>
 T.af ((t.add (aI b 4)).add 1) [.slice 55] fun u v w =>
 bP 57 [.slice u v w] false [(false,[.slice 55])] fun x y z =>
 T.loop [aQ] [vI 0] fun A =>
 bt A y
 (aY A y x fun B =>
 T.af ((B.add (aI A 10)).add 7) [.slice 64] fun C D E =>
 bP 65 [.slice C D E] false [(false,[.slice 64])] fun F G H =>
 aY A y x fun I =>
 T.aD ((I.add (aI A 10)).add 7) [.slice F G H] <|
 T.again 0 [bh A])
 (T.ret (.slice x y z)))
 (bP 57 [.slice m n o] false [(false,[.slice 55])] fun p q r =>
 T.loop [aQ] [vI 0] fun s =>
 bt s q
 (aY s q p fun t =>
 T.af ((t.add (aI s 10)).add 7) [.slice 64] fun u v w =>
 bP 65 [.slice u v w] false [(false,[.slice 64])] fun x y z =>
 aY s q p fun A =>
 T.aD ((A.add (aI s 10)).add 7) [.slice x y z] <|
 T.again 0 [bh s])
 (T.ret (.slice p q r)))))))
def nQ (a:Xac) (b c:Int):bZ Xaz [] Tryz.f40 [.pointer a,vI b,vI c]=jF a b c:=ax
def jD (a:Xac):T :=
 T.bf a fun b =>
 T.af b [.slice 70] fun c d e =>
 T.ret (vI (d:Int))
def oc (a:Xac):bZ Xaz [] Tryz.f39 [.pointer a]=jD a:=ax
def eD (a:Xac) (b c:Nat):T :=
 cond (/-?Option.isSome.match_1-/ match a with
 | some val=>false
 | none=>true)
 (T.ret (bg))
 (bn (Instr.buildSlice 46 0 #[]) fun d e f =>
 bn (Builtin.append_ #[46,46] 46 #[.slice d e f,.slice a b c]) fun g h i =>
 T.ret (.slice g h i))
def gz (a:Xac) (b c:Nat):bZ Xaz [] Tryz.f57 [.slice a b c]=eD a b c:=ax
def eF (a:Xac) (b c:Nat):T :=
 cond (/-?Option.isSome.match_1-/ match a with
 | some val=>false
 | none=>true)
 (T.ret (bg))
 (bn (Instr.buildSlice 50 0 #[]) fun d e f =>
 bn (Builtin.append_ #[50,50] 50 #[.slice d e f,.slice a b c]) fun g h i =>
 T.ret (.slice g h i))
def gy (a:Xac) (b c:Nat):bZ Xaz [] Tryz.f65 [.slice a b c]=eF a b c:=ax
def kW (a:Xac) (b:Int) (c:Xaa):T :=
 T.new [vI b,.string c] 121 fun d =>
 T.bf a fun e =>
 T.af (e.add 2) [.map 121 3] fun f =>
 T.af d [.int .i64,.string] fun g h =>
 bQ (Instr.lookup 104 (.map f) (.agg #[vI g,.string h]) true) true [aQ,cn] fun i j =>
 T.bf a fun k =>
 T.af (k.add 3) [.map 121 3] fun l =>
 T.af d [.int .i64,.string] fun m n =>
 bQ (Instr.lookup 104 (.map l) (.agg #[vI m,.string n]) true) true [aQ,cn] fun o p =>
 cond j
 ez
 (T.ret (.bool p))
def qP (a:Xac) (b:Int) (c:Xaa):bZ Xaz [] Tryz.f85 [.pointer a,.agg #[vI b,.string c]]=kW a b c:=ax
def lz (a:Xac) (b:Int) (c:Xaa):T :=
 T.new [vI 0,cm] 121 fun d =>
 T.new [vI 0,cm] 121 fun e =>
 T.aD e [vI b,.string c] <|
 T.af e [.int .i64,.string] fun f g =>
 aZ 85 [.pointer a,.agg #[vI f,.string g]] fun h =>
 cond h
 (T.af e [.int .i64,.string] fun i j =>
 T.aD d [vI i,.string j] <|
 T.af d [.int .i64,.string] fun k l =>
 bG #[.agg #[vI k,.string l],.bool true])
 (T.bf a fun i =>
 T.af (i.add 4) [.map 9 3] fun j =>
 bQ (Instr.lookup 105 (.map j) (.string c) true) true [aQ,cn] fun k l =>
 T.aD d [vI k,.string c] <|
 T.af d [.int .i64,.string] fun m n =>
 bG #[.agg #[vI m,.string n],.bool l])
def qM (a:Xac) (b:Int) (c:Xaa):bZ Xaz [] Tryz.f58 [.pointer a,vI b,.string c]=lz a b c:=ax
def kJ (a:Xac) (b:Int) (c:Xaa):T :=
 T.new [vI b,.string c] 121 fun d =>
 T.bf a fun e =>
 T.af (e.add 2) [.map 121 3] fun f =>
 T.af d [.int .i64,.string] fun g h =>
 bQ (Instr.lookup 104 (.map f) (.agg #[vI g,.string h]) true) true [aQ,cn] fun i j =>
 cond j
 (eG 59 [vI i] fun k =>
 T.need ((((1+k.size):Nat):Int)<=9223372036854775807) <|
 T.ret (.string (⟨#[76]⟩++k)))
 (T.bf a fun k =>
 T.af (k.add 3) [.map 121 3] fun l =>
 T.af d [.int .i64,.string] fun m n =>
 bQ (Instr.lookup 104 (.map l) (.agg #[vI m,.string n]) false) false [aQ] fun o =>
 eG 59 [vI o] fun p =>
 T.bi [(d,[vI m,.string n]),((k.add 3),[.map l])] <|
 T.need ((((1+p.size):Nat):Int)<=9223372036854775807) <|
 T.ret (.string (⟨#[69]⟩++p)))
def pd (a:Xac) (b:Int) (c:Xaa):bZ Xaz [] Tryz.f35 [.pointer a,.agg #[vI b,.string c]]=kJ a b c:=ax
def ju (a:Xac) (b:Int) (c:Xac) (d e:Nat) (f:Int):T :=
 T.new [.slice c d e,aF f] 53 fun g =>
 T.new [bg,aF 0] 53 fun h =>
 T.af g [.slice 64] fun i j k =>
 bn (Instr.makeSlice 67 (vI 0) (vI (j:Int))) fun l m n =>
 T.af g [.slice 64] fun o p q =>
 T.loop [(false,[.string]),cn,cY,aQ] [cm,.bool false,.slice l m n,vI 0] fun r s t u v w =>
 bt w p
 (aY w p o fun x =>
 T.af (x.add (aI w 2)) [.string,.int .u32] fun y z =>
 T.new [cm,aF 0] 64 fun A =>
 T.aD A [.string y,aF z] <|
 T.af A [.string] fun B =>
 bP 58 [.pointer a,vI b,.string B] true [(true,[.int .i64,.string]),cn] fun C D E =>
 T.new [vI 0,cm] 121 fun F =>
 T.aD F [vI C,.string D] <|
 cond (!E)
 (T.af A [.string] fun G =>
 T.aD h [bg,aF 0] <|
 T.bi [(A,[.string G])] <|
 T.af h (yL 64) fun H I J K =>
 bG #[.agg #[.slice H I J,aF K],.string G,.bool false])
 (T.af A [.string] fun G =>
 T.af F [.int .i64,.string] fun H I =>
 eG 35 [.pointer a,.agg #[vI H,.string I]] fun J =>
 T.bi [(A,[.string G])] <|
 bn (Instr.buildSlice 50 1 #[(0,.agg #[.string J,aF 1])]) fun K L M =>
 T.bi [(F,[vI H,.string I]),(A,[.string G])] <|
 bn (Instr.buildSlice 67 1 #[(0,.agg #[.string G,.slice K L M,aF 0])]) fun N O P =>
 T.bi [(F,[vI H,.string I]),(A,[.string G])] <|
 bn (Builtin.append_ #[67,67] 67 #[.slice t u v,.slice N O P]) fun Q R S =>
 T.bi [(F,[vI H,.string I]),(A,[.string G])] <|
 T.again 0 [.string r,.bool s,.slice Q R S,bh w]))
 (T.af g (yL 64) fun x y z A =>
 bP 38 [.agg #[.slice x y z,aF A],.slice t u v] false [(true,(yL 64))] fun B C D E =>
 T.aD h [.slice B C D,aF E] <|
 T.af h (yL 64) fun F G H I =>
 bG #[.agg #[.slice F G H,aF I],cm,.bool true])
def nw (a:Xac) (b:Int) (c:Xac) (d e:Nat) (f:Int):bZ Xaz [] Tryz.f34 [.pointer a,vI b,.agg #[.slice c d e,.int .u32 f]]=ju a b c d e f:=ax
def kI (a b:Xac) (c d:Nat):T :=
 T.new [vI 0,vI 0,cm] 77 fun e =>
 T.loop [cn,aQ] [.bool false,vI 0] fun f g =>
 bt g c
 (aY g c b fun h =>
 T.af (h.add (aI g 4)) (yU 55 116) fun i j k l m n o p q r s t =>
 T.new [bg,bg,bg,bg] 70 fun u =>
 T.aD u [.slice i j k,.slice l m n,.slice o p q,.slice r s t] <|
 T.af (u.add 3) [.slice 9] fun v w x =>
 T.loop [cn,aQ] [.bool f,vI 0] fun y z =>
 bt z w
 (aY z w v fun A =>
 T.af (A.add (aI z 1)) [.string] fun B =>
 T.bf a fun C =>
 T.af (C.add 4) [.map 9 3] fun D =>
 bQ (Instr.lookup 105 (.map D) (.string B) true) true [aQ,cn] fun E F =>
 cond F
 (T.aD e [vI 22,vI g,.string B] <|
 T.af e [.int .i64,.int .i64,.string] fun G H I =>
 bG #[.agg #[vI G,vI H,.string I],.bool true])
 (T.again 1 [.bool y,bh z]))
 (T.af (u.add 3) [.slice 9] fun A B C =>
 T.loop [aQ] [vI 0] fun D =>
 bt D B
 (aY D B A fun E =>
 T.af (E.add (aI D 1)) [.string] fun F =>
 T.bf a fun G =>
 T.af (G.add 4) [.map 9 3] fun H =>
 T.dX Xaz (Instr.mapUpdate 105 (.map H) (.string F) (vI g)) <|
 T.again 2 [bh D])
 (T.again 0 [.bool y,bh g])))
 (T.aD e [vI 0,vI 0,cm] <|
 T.af e [.int .i64,.int .i64,.string] fun h i j =>
 bG #[.agg #[vI h,vI i,.string j],.bool false])
def oI (a b:Xac) (c d:Nat):bZ Xaz [] Tryz.f32 [.pointer a,.slice b c d]=kI a b c d:=ax
def jJ (a b:Xac) (c d:Nat):T :=
 T.loop [aQ] [vI 0] fun e =>
 bt e c
 (aY e c b fun f =>
 T.af (f.add (aI e 4)) (yU 55 116) fun g h i j k l m n o p q r =>
 T.new [bg,bg,bg,bg] 70 fun s =>
 T.aD s [.slice g h i,.slice j k l,.slice m n o,.slice p q r] <|
 T.af s [.slice 55] fun t u v =>
 T.af (s.add 1) [.slice 55] fun w x y =>
 bn (Instr.buildSlice 43 2 #[(0,.slice t u v),(1,.slice w x y)]) fun z A B =>
 T.loop [aQ] [vI 0] fun C =>
 bt C A
 (aY C A z fun D =>
 T.af (D.add (aI C 1)) [.slice 55] fun E F G =>
 T.loop [aQ] [vI 0] fun H =>
 bt H F
 (aY H F E fun I =>
 T.af (I.add (aI H 10)) (yI 64) fun J K L M N O P Q R S U V =>
 T.new [vI 0,cm,vI 0,vI 0,vI 0,.int .i32 0,vI 0,bg,aF 0,vI 0] 55 fun W =>
 T.aD W [vI J,.string K,vI L,vI M,vI N,.int .i32 O,vI P,.slice Q R S,aF U,vI V] <|
 T.af W [.int .i64] fun X =>
 cond (X==1)
 (T.bf a fun Y =>
 T.af (Y.add 2) [.map 121 3] fun Z =>
 T.af (W.add 1) [.string] fun a0 =>
 T.bf a fun a1 =>
 T.af (a1.add 1) [.slice 157] fun a2 a3 a4 =>
 T.dX Xaz (Instr.mapUpdate 104 (.map Z) (.agg #[vI e,.string a0]) (vI (a3:Int))) <|
 T.bf a fun a5 =>
 T.af (a5.add 1) [.slice 157] fun a6 a7 a8 =>
 T.af (W.add 1) [.string] fun a9 =>
 bn (Instr.buildSlice 106 1 #[(0,.agg #[vI e,vI C,vI H,.string a9])]) fun b0 b1 b2 =>
 T.bi [((W.add 1),[.string a9]),((a5.add 1),[.slice a6 a7 a8])] <|
 bn (Builtin.append_ #[106,106] 106 #[.slice a6 a7 a8,.slice b0 b1 b2]) fun b3 b4 b5 =>
 T.bi [((W.add 1),[.string a9])] <|
 T.bf a fun b6 =>
 T.aD (b6.add 1) [.slice b3 b4 b5] <|
 T.again 2 [bh H])
 (T.again 2 [bh H]))
 (T.again 1 [bh C]))
 (T.af (s.add 2) [.slice 116] fun D E F =>
 T.loop [aQ] [vI 0] fun G =>
 bt G E
 (aY G E D fun H =>
 T.af (H.add (aI G 3)) [.string,.slice 64,.int .u32] fun I J K L M =>
 T.new [cm,bg,aF 0] 116 fun N =>
 T.aD N [.string I,.slice J K L,aF M] <|
 T.bf a fun O =>
 T.af (O.add 3) [.map 121 3] fun P =>
 T.af N [.string] fun Q =>
 T.bf a fun R =>
 T.af (R.add 3) [.map 121 3] fun S =>
 bQ (Builtin.len_ #[104] 3 #[.map S]) false [aQ] fun U =>
 T.bi [(N,[.string Q]),((O.add 3),[.map P])] <|
 T.dX Xaz (Instr.mapUpdate 104 (.map P) (.agg #[vI e,.string Q]) (vI U)) <|
 T.again 2 [bh G])
 (T.again 0 [bh e])))
 (bG #[])
def ob (a b:Xac) (c d:Nat):bZ Xaz [] Tryz.f31 [.pointer a,.slice b c d]=jJ a b c d:=ax
def jA (a:Xac) (b:Int) (c:Xac) (d e:Nat):T :=
 bP 57 [.slice c d e] false [(false,[.slice 55])] fun f g h =>
 T.loop [cY,(false,[.string]),cn,aQ] [bg,cm,.bool false,vI 0] fun i j k l m n =>
 bt n d
 (aY n d c fun o =>
 T.af (o.add (aI n 10)) (yI 64) fun p q r s t u v w x y z A =>
 T.new [vI 0,cm,vI 0,vI 0,vI 0,.int .i32 0,vI 0,bg,aF 0,vI 0] 55 fun B =>
 T.aD B [vI p,.string q,vI r,vI s,vI t,.int .i32 u,vI v,.slice w x y,aF z,vI A] <|
 T.af (B.add 7) (yL 64) fun C D E F =>
 bP 34 [.pointer a,vI b,.agg #[.slice C D E,aF F]] true [(true,(yL 64)),(false,[.string]),cn] fun G H I J K L =>
 T.new [bg,aF 0] 53 fun M =>
 T.aD M [.slice G H I,aF J] <|
 cond (!L)
 (bG #[bg,.string K,.bool false])
 (T.af M (yL 64) fun N O P Q =>
 aY n g f fun R =>
 T.aD ((R.add (aI n 10)).add 7) [.slice N O P,aF Q] <|
 T.again 0 [.slice i j k,.string l,.bool m,bh n]))
 (bG #[.slice f g h,cm,.bool true])
def nV (a:Xac) (b:Int) (c:Xac) (d e:Nat):bZ Xaz [] Tryz.f33 [.pointer a,vI b,.slice c d e]=jA a b c d e:=ax
end Go.Sx
