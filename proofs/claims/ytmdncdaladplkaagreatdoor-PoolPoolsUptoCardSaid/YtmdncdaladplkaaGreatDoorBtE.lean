/- Trees of functions. No condition. -/
import Derived.Test.YtmdncdaladplkaaGreatDoorSxF
import Derived.Test.YtmdncdaladplkaaGreatDoorProg
import Derived.KernelRfl
set_option linter.all false
set_option maxRecDepth 100000
set_option maxHeartbeats 4000000
namespace Go.Sx
open Go.Proofs
def uu (a:Xac) (b c:Nat):T :=
 T.new [.slice a b c] 67 fun d =>
 T.af d [.slice 116] fun e f g =>
 bM 62 [.slice e f g] false [(false,[.map 9 3])] fun h =>
 T.new [.map none] 105 fun i =>
 T.ax i [.map h] <|
 bR (Instr.makeMap 152 none) false [(false,[.map 0 0])] fun j =>
 T.new [.map none] 152 fun k =>
 T.ax k [.map j] <|
 bR (Instr.makeMap 105 none) false [(false,[.map 0 0])] fun l =>
 bR (Instr.makeMap 105 none) false [(false,[.map 0 0])] fun m =>
 T.new [.map none] 105 fun n =>
 T.new [.map none] 105 fun o =>
 T.ax n [.map l] <|
 T.ax o [.map m] <|
 T.new [aZ] 68 fun p =>
 bR (Instr.makeMap 152 none) false [(false,[.map 0 0])] fun q =>
 T.new [.map none] 152 fun r =>
 T.ax r [.map q] <|
 T.new [.nilFunc] 194 fun s =>
 T.ax s [.func (Fn.func 87) #[] #[.pointer (some n),.pointer (some o),.pointer (some p),.pointer (some r),.pointer (some d),.pointer (some i),.pointer (some k),.pointer (some s)]] <|
 T.af d [.slice 116] fun t u v =>
 T.loop [aM] [vI 0] fun w =>
 bq w u
 (aR w u t fun x =>
 T.af (x.add (aH w 3)) [.string,.slice 64,.int .u32] fun y z A B C =>
 T.new [bZ,aZ,aC 0] 116 fun D =>
 T.ax D [.string y,.slice z A B,aC C] <|
 T.af n [.map 9 3] fun E =>
 T.af D [.string] fun F =>
 bR (Instr.lookup 105 (.map E) (.string F) false) false [aM] fun G =>
 cond (G==0)
 (T.af s [.func #[9] #[] false] fun (H:Xab) =>
 T.af D [.string] fun I =>
 T.wB Xaz H [.string I] true [] <| T.again 0 [aY w])
 (T.again 0 [aY w]))
 (T.af k [.map 9 4] fun x =>
 T.ret (.map x))
def yw (a:Xac) (b c:Nat):bS Xaz [] Tryz.f61 [.slice a b c]=uu a b c:=av
def uB (a:Xac) (b c:Nat):T :=
 bR (Instr.makeMap 105 none) false [(false,[.map 0 0])] fun d =>
 T.loop [aM] [vI 0] fun e =>
 bq e b
 (aR e b a fun f =>
 T.af (f.add (aH e 3)) [.string,.slice 64,.int .u32] fun g h i j k =>
 T.new [bZ,aZ,aC 0] 116 fun l =>
 T.ax l [.string g,.slice h i j,aC k] <|
 T.af l [.string] fun m =>
 T.dZ Xaz (Instr.mapUpdate 105 (.map d) (.string m) (vI e)) <|
 T.again 0 [aY e])
 (T.ret (.map d))
def yu (a:Xac) (b c:Nat):bS Xaz [] Tryz.f62 [.slice a b c]=uB a b c:=av
def DU (a:Xac) (b c:Nat) (d:Int) (e:Option Nat):T :=
 T.new [.slice a b c,aC d] 53 fun f =>
 T.new [aZ,aC 0] 53 fun g =>
 bR (Instr.makeMap 196 none) false [(false,[.map 0 0])] fun h =>
 T.af (f.add 1) [.int .u32] fun i =>
 T.af f [.slice 64] fun j k l =>
 T.loop [(false,[.int .u32]),aM] [aC i,vI 0] fun m n =>
 bq n k
 (aR n k j fun o =>
 T.af (o.add (aH n 2)) [.string,.int .u32] fun p q =>
 T.new [bZ,aC 0] 64 fun r =>
 T.ax r [.string p,aC q] <|
 T.af r [.string] fun s =>
 bR (Instr.lookup 165 (.map e) (.string s) true) true [(true,(yL 64)),ct] fun t u v w x =>
 T.new [aZ,aC 0] 53 fun y =>
 T.ax y [.slice t u v,aC w] <|
 cond (!x)
 (T.af r [.string] fun z =>
 bR (Instr.lookup 196 (.map h) (.string z) false) false [(false,[.int .u32])] fun A =>
 T.af (r.add 1) [.int .u32] fun B =>
 T.dZ Xaz (Instr.mapUpdate 196 (.map h) (.string z) (aC (IntKind.wrap .u32 (A+B)))) <|
 T.again 0 [aC m,aY n])
 (T.af y [.slice 64] fun z A B =>
 T.loop [aM] [vI 0] fun C =>
 bq C A
 (aR C A z fun D =>
 T.af (D.add (aH C 2)) [.string,.int .u32] fun E F =>
 T.new [bZ,aC 0] 64 fun G =>
 T.ax G [.string E,aC F] <|
 T.af G [.string] fun H =>
 bR (Instr.lookup 196 (.map h) (.string H) false) false [(false,[.int .u32])] fun I =>
 T.af (r.add 1) [.int .u32] fun J =>
 T.af (G.add 1) [.int .u32] fun K =>
 T.dZ Xaz (Instr.mapUpdate 196 (.map h) (.string H) (aC (IntKind.wrap .u32 (I+(IntKind.wrap .u32 (J*K)))))) <|
 T.again 1 [aY C])
 (T.af (r.add 1) [.int .u32] fun D =>
 T.af (y.add 1) [.int .u32] fun E =>
 T.again 0 [aC (IntKind.wrap .u32 (m+(IntKind.wrap .u32 (D*E)))),aY n])))
 (T.new [aZ,aC 0] 53 fun o =>
 T.ax o [aZ,aC m] <|
 bM 90 [.map h] false [(false,[.func #[154] #[] false])] fun (p:Xab) =>
 bM 89 [p] false [(false,[.slice 9])] fun q r s =>
 T.loop [aM] [vI 0] fun t =>
 bq t r
 (aR t r q fun u =>
 T.af (u.add (aH t 1)) [.string] fun v =>
 bR (Instr.lookup 196 (.map h) (.string v) false) false [(false,[.int .u32])] fun w =>
 cond (w != 0)
 (T.af o [.slice 64] fun x y z =>
 bR (Instr.lookup 196 (.map h) (.string v) false) false [(false,[.int .u32])] fun A =>
 bd (Instr.buildSlice 50 1 #[(0,.agg #[.string v,aC A])]) fun B C D =>
 bd (Builtin.append_ #[50,50] 50 #[.slice x y z,.slice B C D]) fun E F G =>
 T.ax o [.slice E F G] <|
 T.again 1 [aY t])
 (T.again 1 [aY t]))
 (T.af o (yL 64) fun u v w x =>
 T.ax g [.slice u v w,aC x] <|
 T.af g (yL 64) fun y z A B =>
 T.ret (.agg #[.slice y z A,aC B])))
def E6 (a:Xac) (b c:Nat) (d:Int) (e:Option Nat):bS Xaz [] Tryz.f64 [.agg #[.slice a b c,.int .u32 d],.map e]=DU a b c d e:=av
def yA (a:Xac) (b c:Nat):T :=
 T.new [.slice a b c] 67 fun d =>
 T.af d [.slice 116] fun e f g =>
 bM 61 [.slice e f g] false [(false,[.map 9 4])] fun h =>
 T.af d [.slice 116] fun i j k =>
 T.loop [cR,aM,aM,aM] [aZ,vI 0,vI 0,vI 0] fun l m n o p q =>
 bq q j
 (aR q j i fun r =>
 T.af (r.add (aH q 3)) [.string,.slice 64,.int .u32] fun s t u v w =>
 T.new [bZ,aZ,aC 0] 116 fun x =>
 T.ax x [.string s,.slice t u v,aC w] <|
 T.af x [.string] fun y =>
 eZ (Instr.lookup 152 (.map h) (.string y) false) fun z =>
 cond z
 (bj #[aZ,vI q,vI 24])
 (T.again 0 [.slice l m n,vI o,vI p,aY q]))
 (T.af d [.slice 116] fun r s t =>
 bM 62 [.slice r s t] false [(false,[.map 9 3])] fun u =>
 T.new [.map none] 105 fun v =>
 T.ax v [.map u] <|
 bR (Instr.makeMap 165 none) false [(false,[.map 0 0])] fun w =>
 T.new [.map none] 165 fun x =>
 T.ax x [.map w] <|
 T.new [.nilFunc] 166 fun y =>
 T.ax y [.func (Fn.func 63) #[] #[.pointer (some x),.pointer (some d),.pointer (some v),.pointer (some y)]] <|
 T.af d [.slice 116] fun z A B =>
 T.loop [cR,aM] [aZ,vI 0] fun C D E F =>
 bq F A
 (aR F A z fun G =>
 T.af (G.add (aH F 3)) [.string,.slice 64,.int .u32] fun H I J K L =>
 T.new [bZ,aZ,aC 0] 116 fun M =>
 T.ax M [.string H,.slice I J K,aC L] <|
 T.af y [.func #[9] #[53] false] fun (N:Xab) =>
 T.af M [.string] fun O =>
 T.wB Xaz N [.string O] false [(true,(yL 64))] fun P Q R S =>
 T.new [aZ,aC 0] 53 fun U =>
 T.ax U [.slice P Q R,aC S] <|
 T.af M [.string] fun V =>
 T.af U [.slice 64] fun W X Y =>
 T.af (U.add 1) [.int .u32] fun Z =>
 bM 65 [.slice W X Y] false [(false,[.slice 64])] fun a0 a1 a2 =>
 T.bh [((U.add 1),[aC Z]),(M,[.string V])] <|
 bd (Instr.buildSlice 67 1 #[(0,.agg #[.string V,.slice a0 a1 a2,aC Z])]) fun a3 a4 a5 =>
 T.bh [((U.add 1),[aC Z]),(U,[.slice W X Y]),(M,[.string V])] <|
 bd (Builtin.append_ #[67,67] 67 #[.slice C D E,.slice a3 a4 a5]) fun a6 a7 a8 =>
 T.bh [((U.add 1),[aC Z]),(U,[.slice W X Y]),(M,[.string V])] <|
 T.again 1 [.slice a6 a7 a8,aY F])
 (bj #[.slice C D E,vI 0,vI 0]))
def Cb (a:Xac) (b c:Nat):bS Xaz [] Tryz.f37 [.slice a b c]=yA a b c:=av
def DK (a:Xac) (b c:Nat) (d:Int) (e:Xac) (f g:Nat):T :=
 T.new [.slice a b c,aC d] 53 fun h =>
 T.new [aZ,aC 0] 53 fun i =>
 bR (Instr.makeMap 165 none) false [(false,[.map 0 0])] fun j =>
 T.loop [aM] [vI 0] fun k =>
 bq k f
 (aR k f e fun l =>
 T.af (l.add (aH k 3)) [.string,.slice 64,.int .u32] fun m n o p q =>
 T.new [bZ,aZ,aC 0] 116 fun r =>
 T.ax r [.string m,.slice n o p,aC q] <|
 T.af r [.string] fun s =>
 T.af (r.add 1) (yL 64) fun t u v w =>
 T.dZ Xaz (Instr.mapUpdate 165 (.map j) (.string s) (.agg #[.slice t u v,aC w])) <|
 T.again 0 [aY k])
 (T.af h (yL 64) fun l m n o =>
 bM 64 [.agg #[.slice l m n,aC o],.map j] false [(true,(yL 64))] fun p q r s =>
 bM 66 [.agg #[.slice p q r,aC s],.agg #[aZ,aC 0]] false [(true,(yL 64))] fun t u v w =>
 T.ax i [.slice t u v,aC w] <|
 T.af i (yL 64) fun x y z A =>
 T.ret (.agg #[.slice x y z,aC A]))
def ET (a:Xac) (b c:Nat) (d:Int) (e:Xac) (f g:Nat):bS Xaz [] Tryz.f38 [.agg #[.slice a b c,.int .u32 d],.slice e f g]=DK a b c d e f g:=av
def fc (a:Xac) (b c:Nat) (d:Xaa):T :=
 T.loop [aM,aM] [vI 0,vI 0] fun e f =>
 bq f b
 (aR f b a fun g =>
 T.af (g.add (aH f 1)) [.string] fun h =>
 cond ((ByteArray.toList d)==(ByteArray.toList h))
 (T.ret (vI f))
 (T.again 0 [vI e,aY f]))
 (T.ret (vI (-1)))
def iD (a:Xac) (b c:Nat) (d:Xaa):bS Xaz [] Tryz.f88 [.slice a b c,.string d]=fc a b c d:=av
def jH (a:Xaa) (b c d e f g h i:Xax):T :=
 T.af b [.map 9 3] fun j =>
 T.af b [.map 9 3] fun k =>
 bR (Builtin.len_ #[105] 3 #[.map k]) false [aM] fun l =>
 T.dZ Xaz (Instr.mapUpdate 105 (.map j) (.string a) (aY l)) <|
 T.af c [.map 9 3] fun m =>
 T.af b [.map 9 3] fun n =>
 bR (Instr.lookup 105 (.map n) (.string a) false) false [aM] fun o =>
 T.dZ Xaz (Instr.mapUpdate 105 (.map m) (.string a) (vI o)) <|
 T.af d [.slice 9] fun p q r =>
 bd (Instr.buildSlice 68 1 #[(0,.string a)]) fun s t u =>
 bd (Builtin.append_ #[68,68] 68 #[.slice p q r,.slice s t u]) fun v w x =>
 T.ax d [.slice v w x] <|
 T.af e [.map 9 4] fun y =>
 T.dZ Xaz (Instr.mapUpdate 152 (.map y) (.string a) (.bool true)) <|
 T.af f [.slice 116] fun z A B =>
 T.af g [.map 9 3] fun C =>
 bR (Instr.lookup 105 (.map C) (.string a) false) false [aM] fun D =>
 aR D A z fun E =>
 T.af ((E.add (aH D 3)).add 1) [.slice 64] fun F G H =>
 T.loop [aM] [vI 0] fun I =>
 bq I G
 (aR I G F fun J =>
 T.af (J.add (aH I 2)) [.string,.int .u32] fun K L =>
 T.new [bZ,aC 0] 64 fun M =>
 T.ax M [.string K,aC L] <|
 T.af g [.map 9 3] fun N =>
 T.af M [.string] fun O =>
 bR (Instr.lookup 105 (.map N) (.string O) true) true [aM,ct] fun P Q =>
 cond (!Q)
 (T.again 0 [aY I])
 (T.af M [.string] fun R =>
 cond ((ByteArray.toList R)==(ByteArray.toList a))
 (T.af h [.map 9 4] fun S =>
 T.dZ Xaz (Instr.mapUpdate 152 (.map S) (.string a) (.bool true)) <|
 T.af b [.map 9 3] fun U =>
 T.af M [.string] fun V =>
 bR (Instr.lookup 105 (.map U) (.string V) false) false [aM] fun W =>
 cond (W==0)
 (T.af i [.func #[9] #[] false] fun (X:Xab) =>
 T.af M [.string] fun Y =>
 T.wB Xaz X [.string Y] true [] <| T.af c [.map 9 3] fun Z =>
 T.af c [.map 9 3] fun a0 =>
 bR (Instr.lookup 105 (.map a0) (.string a) false) false [aM] fun a1 =>
 T.af c [.map 9 3] fun a2 =>
 T.af M [.string] fun a3 =>
 bR (Instr.lookup 105 (.map a2) (.string a3) false) false [aM] fun a4 =>
 bR (Builtin.min_ #[3,3] 3 #[vI a1,vI a4]) false [aM] fun a5 =>
 T.dZ Xaz (Instr.mapUpdate 105 (.map Z) (.string a) (vI a5)) <|
 T.again 0 [aY I])
 (T.af e [.map 9 4] fun X =>
 T.af M [.string] fun Y =>
 eZ (Instr.lookup 152 (.map X) (.string Y) false) fun Z =>
 cond Z
 (T.af c [.map 9 3] fun a0 =>
 T.af c [.map 9 3] fun a1 =>
 bR (Instr.lookup 105 (.map a1) (.string a) false) false [aM] fun a2 =>
 T.af b [.map 9 3] fun a3 =>
 T.af M [.string] fun a4 =>
 bR (Instr.lookup 105 (.map a3) (.string a4) false) false [aM] fun a5 =>
 bR (Builtin.min_ #[3,3] 3 #[vI a2,vI a5]) false [aM] fun a6 =>
 T.dZ Xaz (Instr.mapUpdate 105 (.map a0) (.string a) (vI a6)) <|
 T.again 0 [aY I])
 (T.again 0 [aY I])))
 (T.af b [.map 9 3] fun S =>
 T.af M [.string] fun U =>
 bR (Instr.lookup 105 (.map S) (.string U) false) false [aM] fun V =>
 cond (V==0)
 (T.af i [.func #[9] #[] false] fun (W:Xab) =>
 T.af M [.string] fun X =>
 T.wB Xaz W [.string X] true [] <| T.af c [.map 9 3] fun Y =>
 T.af c [.map 9 3] fun Z =>
 bR (Instr.lookup 105 (.map Z) (.string a) false) false [aM] fun a0 =>
 T.af c [.map 9 3] fun a1 =>
 T.af M [.string] fun a2 =>
 bR (Instr.lookup 105 (.map a1) (.string a2) false) false [aM] fun a3 =>
 bR (Builtin.min_ #[3,3] 3 #[vI a0,vI a3]) false [aM] fun a4 =>
 T.dZ Xaz (Instr.mapUpdate 105 (.map Y) (.string a) (vI a4)) <|
 T.again 0 [aY I])
 (T.af e [.map 9 4] fun W =>
 T.af M [.string] fun X =>
 eZ (Instr.lookup 152 (.map W) (.string X) false) fun Y =>
 cond Y
 (T.af c [.map 9 3] fun Z =>
 T.af c [.map 9 3] fun a0 =>
 bR (Instr.lookup 105 (.map a0) (.string a) false) false [aM] fun a1 =>
 T.af b [.map 9 3] fun a2 =>
 T.af M [.string] fun a3 =>
 bR (Instr.lookup 105 (.map a2) (.string a3) false) false [aM] fun a4 =>
 bR (Builtin.min_ #[3,3] 3 #[vI a1,vI a4]) false [aM] fun a5 =>
 T.dZ Xaz (Instr.mapUpdate 105 (.map Z) (.string a) (vI a5)) <|
 T.again 0 [aY I])
 (T.again 0 [aY I])))))
 (T.af c [.map 9 3] fun J =>
 bR (Instr.lookup 105 (.map J) (.string a) false) false [aM] fun K =>
 T.af b [.map 9 3] fun L =>
 bR (Instr.lookup 105 (.map L) (.string a) false) false [aM] fun M =>
 cond (decide (K<M))
 (bj #[])
 (T.af d [.slice 9] fun N O P =>
 cE 88 [.slice N O P,.string a] fun Q =>
 T.af d [.slice 9] fun R S U =>
 T.need ((0<=Q)/\((Q<=(S:Int))/\((S:Int)<=(U:Int)))) <|
 T.loop [aM] [vI 0] fun V =>
 cond (decide (V<((((Int.toNat (S:Int))-(Int.toNat Q)):Nat):Int)))
 (T.need ((0<=V)/\(V<((((Int.toNat (S:Int))-(Int.toNat Q)):Nat):Int))) <|
 T.bi (if (U=(Int.toNat Q)) then R else (Option.map (fun W=>Addr.add W (aH Q 1)) R)) fun W =>
 T.af (W.add (aH V 1)) [.string] fun X =>
 T.af e [.map 9 4] fun Y =>
 T.dZ Xaz (Instr.mapUpdate 152 (.map Y) (.string X) (.bool false)) <|
 T.af h [.map 9 4] fun Z =>
 T.af h [.map 9 4] fun a0 =>
 eZ (Instr.lookup 152 (.map a0) (.string X) false) fun a1 =>
 cond a1
 (T.dZ Xaz (Instr.mapUpdate 152 (.map Z) (.string X) (.bool true)) <|
 T.again 1 [aY V])
 (T.af d [.slice 9] fun a2 a3 a4 =>
 T.dZ Xaz (Instr.mapUpdate 152 (.map Z) (.string X) (.bool (decide ((bn ((a3:Int)-Q))>1)))) <|
 T.again 1 [aY V]))
 (T.af d [.slice 9] fun W X Y =>
 T.need (((0:Int)<=0)/\((0<=Q)/\(Q<=(Y:Int)))) <|
 T.ax d [.slice (if (Y=0) then W else (Option.map (fun Z=>Addr.add Z 0) W)) ((Int.toNat Q)-0) (Y-0)] <|
 bj #[])))
def oy (a:Xaa) (b c d e f g h i:Xax):bS Xaz [] Tryz.f87 [.string a,.pointer (some b),.pointer (some c),.pointer (some d),.pointer (some e),.pointer (some f),.pointer (some g),.pointer (some h),.pointer (some i)]=jH a b c d e f g h i:=av
def lp (a:Xaa) (b c d e:Xax):T :=
 T.new [aZ,aC 0] 53 fun f =>
 T.af b [.map 9 53] fun g =>
 bR (Instr.lookup 165 (.map g) (.string a) true) true [(true,(yL 64)),ct] fun h i j k l =>
 T.new [aZ,aC 0] 53 fun m =>
 T.ax m [.slice h i j,aC k] <|
 cond l
 (T.af m (yL 64) fun n o p q =>
 T.ax f [.slice n o p,aC q] <|
 T.af f (yL 64) fun r s t u =>
 T.ret (.agg #[.slice r s t,aC u]))
 (T.af c [.slice 116] fun n o p =>
 T.af d [.map 9 3] fun q =>
 bR (Instr.lookup 105 (.map q) (.string a) false) false [aM] fun r =>
 aR r o n fun s =>
 T.af ((s.add (aH r 3)).add 1) (yL 64) fun t u v w =>
 T.new [aZ,aC 0] 53 fun x =>
 T.ax x [.slice t u v,aC w] <|
 T.af x [.slice 64] fun y z A =>
 T.loop [aM] [vI 0] fun B =>
 bq B z
 (aR B z y fun C =>
 T.af (C.add (aH B 2)) [.string,.int .u32] fun D E =>
 T.new [bZ,aC 0] 64 fun F =>
 T.ax F [.string D,aC E] <|
 T.af d [.map 9 3] fun G =>
 T.af F [.string] fun H =>
 bR (Instr.lookup 105 (.map G) (.string H) true) true [aM,ct] fun I J =>
 cond J
 (T.af e [.func #[9] #[53] false] fun (K:Xab) =>
 T.af F [.string] fun L =>
 T.wB Xaz K [.string L] false [(true,(yL 64))] fun M N O P =>
 T.again 0 [aY B])
 (T.again 0 [aY B]))
 (T.af x (yL 64) fun C D E F =>
 T.af b [.map 9 53] fun G =>
 bM 64 [.agg #[.slice C D E,aC F],.map G] false [(true,(yL 64))] fun H I J K =>
 T.ax x [.slice H I J,aC K] <|
 T.af b [.map 9 53] fun L =>
 T.af x (yL 64) fun M N O P =>
 T.dZ Xaz (Instr.mapUpdate 165 (.map L) (.string a) (.agg #[.slice M N O,aC P])) <|
 T.af x (yL 64) fun Q R S U =>
 T.ax f [.slice Q R S,aC U] <|
 T.af f (yL 64) fun V W X Y =>
 T.ret (.agg #[.slice V W X,aC Y])))
def qu (a:Xaa) (b c d e:Xax):bS Xaz [] Tryz.f63 [.string a,.pointer (some b),.pointer (some c),.pointer (some d),.pointer (some e)]=lp a b c d e:=av
def jz (a:Xac) (b c:Int):T :=
 cond (decide (b<0))
 (T.ret (aZ))
 (T.bi a fun d =>
 T.af d [.slice 70] fun e f g =>
 cond (decide (b>=(f:Int)))
 (T.ret (aZ))
 (cond (decide (c<0))
 (T.ret (aZ))
 (cond (decide (c>1))
 (T.ret (aZ))
 (T.bi a fun h =>
 T.af h [.slice 70] fun i j k =>
 aR b j i fun l =>
 T.af (l.add (aH b 4)) [.slice 55] fun m n o =>
 cond (c==1)
 (T.bi a fun p =>
 T.af p [.slice 70] fun q r s =>
 aR b r q fun t =>
 T.af ((t.add (aH b 4)).add 1) [.slice 55] fun u v w =>
 bM 57 [.slice u v w] false [(false,[.slice 55])] fun x y z =>
 T.loop [aM] [vI 0] fun A =>
 bq A y
 (aR A y x fun B =>
 T.af ((B.add (aH A 10)).add 7) [.slice 64] fun C D E =>
 bM 65 [.slice C D E] false [(false,[.slice 64])] fun F G H =>
 aR A y x fun I =>
 T.ax ((I.add (aH A 10)).add 7) [.slice F G H] <|
 T.again 0 [aY A])
 (T.ret (.slice x y z)))
 (bM 57 [.slice m n o] false [(false,[.slice 55])] fun p q r =>
 T.loop [aM] [vI 0] fun s =>
 bq s q
 (aR s q p fun t =>
 T.af ((t.add (aH s 10)).add 7) [.slice 64] fun u v w =>
 bM 65 [.slice u v w] false [(false,[.slice 64])] fun x y z =>
 aR s q p fun A =>
 T.ax ((A.add (aH s 10)).add 7) [.slice x y z] <|
 T.again 0 [aY s])
 (T.ret (.slice p q r)))))))
def nQ (a:Xac) (b c:Int):bS Xaz [] Tryz.f40 [.pointer a,vI b,vI c]=jz a b c:=av
def jw (a:Xac):T :=
 T.bi a fun b =>
 T.af b [.slice 70] fun c d e =>
 T.ret (vI (d:Int))
def oh (a:Xac):bS Xaz [] Tryz.f39 [.pointer a]=jw a:=av
def eA (a:Xac) (b c:Nat):T :=
 cond (/-?Option.isSome.match_1-/ match a with
 | some val=>false
 | none=>true)
 (T.ret (aZ))
 (bd (Instr.buildSlice 46 0 #[]) fun d e f =>
 bd (Builtin.append_ #[46,46] 46 #[.slice d e f,.slice a b c]) fun g h i =>
 T.ret (.slice g h i))
def gh (a:Xac) (b c:Nat):bS Xaz [] Tryz.f57 [.slice a b c]=eA a b c:=av
def eD (a:Xac) (b c:Nat):T :=
 cond (/-?Option.isSome.match_1-/ match a with
 | some val=>false
 | none=>true)
 (T.ret (aZ))
 (bd (Instr.buildSlice 50 0 #[]) fun d e f =>
 bd (Builtin.append_ #[50,50] 50 #[.slice d e f,.slice a b c]) fun g h i =>
 T.ret (.slice g h i))
def gg (a:Xac) (b c:Nat):bS Xaz [] Tryz.f65 [.slice a b c]=eD a b c:=av
def la (a:Xac) (b:Int) (c:Xaa):T :=
 T.new [vI b,.string c] 121 fun d =>
 T.bi a fun e =>
 T.af (e.add 2) [.map 121 3] fun f =>
 T.af d [.int .i64,.string] fun g h =>
 bR (Instr.lookup 104 (.map f) (.agg #[vI g,.string h]) true) true [aM,ct] fun i j =>
 T.bi a fun k =>
 T.af (k.add 3) [.map 121 3] fun l =>
 T.af d [.int .i64,.string] fun m n =>
 bR (Instr.lookup 104 (.map l) (.agg #[vI m,.string n]) true) true [aM,ct] fun o p =>
 cond j
 dX
 (T.ret (.bool p))
def qP (a:Xac) (b:Int) (c:Xaa):bS Xaz [] Tryz.f85 [.pointer a,.agg #[vI b,.string c]]=la a b c:=av
def lC (a:Xac) (b:Int) (c:Xaa):T :=
 T.new [vI 0,bZ] 121 fun d =>
 T.new [vI 0,bZ] 121 fun e =>
 T.ax e [vI b,.string c] <|
 T.af e [.int .i64,.string] fun f g =>
 aT 85 [.pointer a,.agg #[vI f,.string g]] fun h =>
 cond h
 (T.af e [.int .i64,.string] fun i j =>
 T.ax d [vI i,.string j] <|
 T.af d [.int .i64,.string] fun k l =>
 bj #[.agg #[vI k,.string l],.bool true])
 (T.bi a fun i =>
 T.af (i.add 4) [.map 9 3] fun j =>
 bR (Instr.lookup 105 (.map j) (.string c) true) true [aM,ct] fun k l =>
 T.ax d [vI k,.string c] <|
 T.af d [.int .i64,.string] fun m n =>
 bj #[.agg #[vI m,.string n],.bool l])
def qN (a:Xac) (b:Int) (c:Xaa):bS Xaz [] Tryz.f58 [.pointer a,vI b,.string c]=lC a b c:=av
def kK (a:Xac) (b:Int) (c:Xaa):T :=
 T.new [vI b,.string c] 121 fun d =>
 T.bi a fun e =>
 T.af (e.add 2) [.map 121 3] fun f =>
 T.af d [.int .i64,.string] fun g h =>
 bR (Instr.lookup 104 (.map f) (.agg #[vI g,.string h]) true) true [aM,ct] fun i j =>
 cond j
 (eE 59 [vI i] fun k =>
 T.need ((((1+k.size):Nat):Int)<=9223372036854775807) <|
 T.ret (.string (⟨#[76]⟩++k)))
 (T.bi a fun k =>
 T.af (k.add 3) [.map 121 3] fun l =>
 T.af d [.int .i64,.string] fun m n =>
 bR (Instr.lookup 104 (.map l) (.agg #[vI m,.string n]) false) false [aM] fun o =>
 eE 59 [vI o] fun p =>
 T.bh [(d,[vI m,.string n]),((k.add 3),[.map l])] <|
 T.need ((((1+p.size):Nat):Int)<=9223372036854775807) <|
 T.ret (.string (⟨#[69]⟩++p)))
def pe (a:Xac) (b:Int) (c:Xaa):bS Xaz [] Tryz.f35 [.pointer a,.agg #[vI b,.string c]]=kK a b c:=av
def jj (a:Xac) (b:Int) (c:Xac) (d e:Nat) (f:Int):T :=
 T.new [.slice c d e,aC f] 53 fun g =>
 T.new [aZ,aC 0] 53 fun h =>
 T.af g [.slice 64] fun i j k =>
 bd (Instr.makeSlice 67 (vI 0) (vI (j:Int))) fun l m n =>
 T.af g [.slice 64] fun o p q =>
 T.loop [(false,[.string]),ct,cR,aM] [bZ,.bool false,.slice l m n,vI 0] fun r s t u v w =>
 bq w p
 (aR w p o fun x =>
 T.af (x.add (aH w 2)) [.string,.int .u32] fun y z =>
 T.new [bZ,aC 0] 64 fun A =>
 T.ax A [.string y,aC z] <|
 T.af A [.string] fun B =>
 bM 58 [.pointer a,vI b,.string B] true [(true,[.int .i64,.string]),ct] fun C D E =>
 T.new [vI 0,bZ] 121 fun F =>
 T.ax F [vI C,.string D] <|
 cond (!E)
 (T.af A [.string] fun G =>
 T.ax h [aZ,aC 0] <|
 T.bh [(A,[.string G])] <|
 T.af h (yL 64) fun H I J K =>
 bj #[.agg #[.slice H I J,aC K],.string G,.bool false])
 (T.af A [.string] fun G =>
 T.af F [.int .i64,.string] fun H I =>
 eE 35 [.pointer a,.agg #[vI H,.string I]] fun J =>
 T.bh [(A,[.string G])] <|
 bd (Instr.buildSlice 50 1 #[(0,.agg #[.string J,aC 1])]) fun K L M =>
 T.bh [(F,[vI H,.string I]),(A,[.string G])] <|
 bd (Instr.buildSlice 67 1 #[(0,.agg #[.string G,.slice K L M,aC 0])]) fun N O P =>
 T.bh [(F,[vI H,.string I]),(A,[.string G])] <|
 bd (Builtin.append_ #[67,67] 67 #[.slice t u v,.slice N O P]) fun Q R S =>
 T.bh [(F,[vI H,.string I]),(A,[.string G])] <|
 T.again 0 [.string r,.bool s,.slice Q R S,aY w]))
 (T.af g (yL 64) fun x y z A =>
 bM 38 [.agg #[.slice x y z,aC A],.slice t u v] false [(true,(yL 64))] fun B C D E =>
 T.ax h [.slice B C D,aC E] <|
 T.af h (yL 64) fun F G H I =>
 bj #[.agg #[.slice F G H,aC I],bZ,.bool true])
def nz (a:Xac) (b:Int) (c:Xac) (d e:Nat) (f:Int):bS Xaz [] Tryz.f34 [.pointer a,vI b,.agg #[.slice c d e,.int .u32 f]]=jj a b c d e f:=av
def kJ (a b:Xac) (c d:Nat):T :=
 T.new [vI 0,vI 0,bZ] 77 fun e =>
 T.loop [ct,aM] [.bool false,vI 0] fun f g =>
 bq g c
 (aR g c b fun h =>
 T.af (h.add (aH g 4)) (yU 55 116) fun i j k l m n o p q r s t =>
 T.new [aZ,aZ,aZ,aZ] 70 fun u =>
 T.ax u [.slice i j k,.slice l m n,.slice o p q,.slice r s t] <|
 T.af (u.add 3) [.slice 9] fun v w x =>
 T.loop [ct,aM] [.bool f,vI 0] fun y z =>
 bq z w
 (aR z w v fun A =>
 T.af (A.add (aH z 1)) [.string] fun B =>
 T.bi a fun C =>
 T.af (C.add 4) [.map 9 3] fun D =>
 bR (Instr.lookup 105 (.map D) (.string B) true) true [aM,ct] fun E F =>
 cond F
 (T.ax e [vI 22,vI g,.string B] <|
 T.af e [.int .i64,.int .i64,.string] fun G H I =>
 bj #[.agg #[vI G,vI H,.string I],.bool true])
 (T.again 1 [.bool y,aY z]))
 (T.af (u.add 3) [.slice 9] fun A B C =>
 T.loop [aM] [vI 0] fun D =>
 bq D B
 (aR D B A fun E =>
 T.af (E.add (aH D 1)) [.string] fun F =>
 T.bi a fun G =>
 T.af (G.add 4) [.map 9 3] fun H =>
 T.dZ Xaz (Instr.mapUpdate 105 (.map H) (.string F) (vI g)) <|
 T.again 2 [aY D])
 (T.again 0 [.bool y,aY g])))
 (T.ax e [vI 0,vI 0,bZ] <|
 T.af e [.int .i64,.int .i64,.string] fun h i j =>
 bj #[.agg #[vI h,vI i,.string j],.bool false])
def oJ (a b:Xac) (c d:Nat):bS Xaz [] Tryz.f32 [.pointer a,.slice b c d]=kJ a b c d:=av
def jD (a b:Xac) (c d:Nat):T :=
 T.loop [aM] [vI 0] fun e =>
 bq e c
 (aR e c b fun f =>
 T.af (f.add (aH e 4)) (yU 55 116) fun g h i j k l m n o p q r =>
 T.new [aZ,aZ,aZ,aZ] 70 fun s =>
 T.ax s [.slice g h i,.slice j k l,.slice m n o,.slice p q r] <|
 T.af s [.slice 55] fun t u v =>
 T.af (s.add 1) [.slice 55] fun w x y =>
 bd (Instr.buildSlice 43 2 #[(0,.slice t u v),(1,.slice w x y)]) fun z A B =>
 T.loop [aM] [vI 0] fun C =>
 bq C A
 (aR C A z fun D =>
 T.af (D.add (aH C 1)) [.slice 55] fun E F G =>
 T.loop [aM] [vI 0] fun H =>
 bq H F
 (aR H F E fun I =>
 T.af (I.add (aH H 10)) (yI 64) fun J K L M N O P Q R S U V =>
 T.new [vI 0,bZ,vI 0,vI 0,vI 0,.int .i32 0,vI 0,aZ,aC 0,vI 0] 55 fun W =>
 T.ax W [vI J,.string K,vI L,vI M,vI N,.int .i32 O,vI P,.slice Q R S,aC U,vI V] <|
 T.af W [.int .i64] fun X =>
 cond (X==1)
 (T.bi a fun Y =>
 T.af (Y.add 2) [.map 121 3] fun Z =>
 T.af (W.add 1) [.string] fun a0 =>
 T.bi a fun a1 =>
 T.af (a1.add 1) [.slice 157] fun a2 a3 a4 =>
 T.dZ Xaz (Instr.mapUpdate 104 (.map Z) (.agg #[vI e,.string a0]) (vI (a3:Int))) <|
 T.bi a fun a5 =>
 T.af (a5.add 1) [.slice 157] fun a6 a7 a8 =>
 T.af (W.add 1) [.string] fun a9 =>
 bd (Instr.buildSlice 106 1 #[(0,.agg #[vI e,vI C,vI H,.string a9])]) fun b0 b1 b2 =>
 T.bh [((W.add 1),[.string a9]),((a5.add 1),[.slice a6 a7 a8])] <|
 bd (Builtin.append_ #[106,106] 106 #[.slice a6 a7 a8,.slice b0 b1 b2]) fun b3 b4 b5 =>
 T.bh [((W.add 1),[.string a9])] <|
 T.bi a fun b6 =>
 T.ax (b6.add 1) [.slice b3 b4 b5] <|
 T.again 2 [aY H])
 (T.again 2 [aY H]))
 (T.again 1 [aY C]))
 (T.af (s.add 2) [.slice 116] fun D E F =>
 T.loop [aM] [vI 0] fun G =>
 bq G E
 (aR G E D fun H =>
 T.af (H.add (aH G 3)) [.string,.slice 64,.int .u32] fun I J K L M =>
 T.new [bZ,aZ,aC 0] 116 fun N =>
 T.ax N [.string I,.slice J K L,aC M] <|
 T.bi a fun O =>
 T.af (O.add 3) [.map 121 3] fun P =>
 T.af N [.string] fun Q =>
 T.bi a fun R =>
 T.af (R.add 3) [.map 121 3] fun S =>
 bR (Builtin.len_ #[104] 3 #[.map S]) false [aM] fun U =>
 T.bh [(N,[.string Q]),((O.add 3),[.map P])] <|
 T.dZ Xaz (Instr.mapUpdate 104 (.map P) (.agg #[vI e,.string Q]) (vI U)) <|
 T.again 2 [aY G])
 (T.again 0 [aY e])))
 (bj #[])
def oc (a b:Xac) (c d:Nat):bS Xaz [] Tryz.f31 [.pointer a,.slice b c d]=jD a b c d:=av
def jt (a:Xac) (b:Int) (c:Xac) (d e:Nat):T :=
 bM 57 [.slice c d e] false [(false,[.slice 55])] fun f g h =>
 T.loop [cR,(false,[.string]),ct,aM] [aZ,bZ,.bool false,vI 0] fun i j k l m n =>
 bq n d
 (aR n d c fun o =>
 T.af (o.add (aH n 10)) (yI 64) fun p q r s t u v w x y z A =>
 T.new [vI 0,bZ,vI 0,vI 0,vI 0,.int .i32 0,vI 0,aZ,aC 0,vI 0] 55 fun B =>
 T.ax B [vI p,.string q,vI r,vI s,vI t,.int .i32 u,vI v,.slice w x y,aC z,vI A] <|
 T.af (B.add 7) (yL 64) fun C D E F =>
 bM 34 [.pointer a,vI b,.agg #[.slice C D E,aC F]] true [(true,(yL 64)),(false,[.string]),ct] fun G H I J K L =>
 T.new [aZ,aC 0] 53 fun M =>
 T.ax M [.slice G H I,aC J] <|
 cond (!L)
 (bj #[aZ,.string K,.bool false])
 (T.af M (yL 64) fun N O P Q =>
 aR n g f fun R =>
 T.ax ((R.add (aH n 10)).add 7) [.slice N O P,aC Q] <|
 T.again 0 [.slice i j k,.string l,.bool m,aY n]))
 (bj #[.slice f g h,bZ,.bool true])
def nV (a:Xac) (b:Int) (c:Xac) (d e:Nat):bS Xaz [] Tryz.f33 [.pointer a,vI b,.slice c d e]=jt a b c d e:=av
end Go.Sx
