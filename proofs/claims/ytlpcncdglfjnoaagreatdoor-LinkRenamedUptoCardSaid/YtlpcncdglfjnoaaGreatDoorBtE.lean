/- Trees of functions. No condition. -/
import Derived.Test.YtlpcncdglfjnoaaGreatDoorSxF
import Derived.Test.YtlpcncdglfjnoaaGreatDoorProg
import Derived.KernelRfl
set_option linter.all false
set_option maxRecDepth 100000
set_option maxHeartbeats 4000000
namespace Go.Sx
open Go.Proofs
def sG (a:XC) (b c:Nat):T :=
 T.new [.slice a b c] 27 fun d =>
 T.ae d [.slice 88] fun e f g =>
 bq 84 [.slice e f g] false [(false,[.map 9 3])] fun h =>
 T.new [.map none] 97 fun i =>
 T.ao i [.map h] <|
 bR (Instr.makeMap 142 none) false [(false,[.map 0 0])] fun j =>
 T.new [.map none] 142 fun k =>
 T.ao k [.map j] <|
 bR (Instr.makeMap 97 none) false [(false,[.map 0 0])] fun l =>
 bR (Instr.makeMap 97 none) false [(false,[.map 0 0])] fun m =>
 T.new [.map none] 97 fun n =>
 T.new [.map none] 97 fun o =>
 T.ao n [.map l] <|
 T.ao o [.map m] <|
 T.new [aM] 28 fun p =>
 bR (Instr.makeMap 142 none) false [(false,[.map 0 0])] fun q =>
 T.new [.map none] 142 fun r =>
 T.ao r [.map q] <|
 T.new [.nilFunc] 168 fun s =>
 T.ao s [.func (Fn.func 106) #[] #[.pointer (some n),.pointer (some o),.pointer (some p),.pointer (some r),.pointer (some d),.pointer (some i),.pointer (some k),.pointer (some s)]] <|
 T.ae d [.slice 88] fun t u v =>
 T.loop [aK] [vI 0] fun w =>
 bC w u
 (aT w u t fun x =>
 T.ae (x.add (ay w 3)) [.string,.slice 66,.int .u32] fun y z A B C =>
 T.new [ct,aM,ar 0] 88 fun D =>
 T.ao D [.string y,.slice z A B,ar C] <|
 T.ae n [.map 9 3] fun E =>
 T.ae D [.string] fun F =>
 bR (Instr.lookup 97 (.map E) (.string F) false) false [aK] fun G =>
 cond (G==0)
 (T.ae s [.func #[9] #[] false] fun (H:XB) =>
 T.ae D [.string] fun I =>
 T.uG YC H [.string I] true [] <| T.again 0 [bo w])
 (T.again 0 [bo w]))
 (T.ae k [.map 9 4] fun x =>
 T.ret (.map x))
def xh (a:XC) (b c:Nat):bQ YC [] Tryz.f83 [.slice a b c]=sG a b c:=aw
def sL (a:XC) (b c:Nat):T :=
 bR (Instr.makeMap 97 none) false [(false,[.map 0 0])] fun d =>
 T.loop [aK] [vI 0] fun e =>
 bC e b
 (aT e b a fun f =>
 T.ae (f.add (ay e 3)) [.string,.slice 66,.int .u32] fun g h i j k =>
 T.new [ct,aM,ar 0] 88 fun l =>
 T.ao l [.string g,.slice h i j,ar k] <|
 T.ae l [.string] fun m =>
 T.ek YC (Instr.mapUpdate 97 (.map d) (.string m) (vI e)) <|
 T.again 0 [bo e])
 (T.ret (.map d))
def xe (a:XC) (b c:Nat):bQ YC [] Tryz.f84 [.slice a b c]=sL a b c:=aw
def BJ (a:XC) (b c:Nat) (d:Int) (e:Option Nat):T :=
 T.new [.slice a b c,ar d] 60 fun f =>
 T.new [aM,ar 0] 60 fun g =>
 bR (Instr.makeMap 170 none) false [(false,[.map 0 0])] fun h =>
 T.ae (f.add 1) [.int .u32] fun i =>
 T.ae f [.slice 66] fun j k l =>
 T.loop [(false,[.int .u32]),aK] [ar i,vI 0] fun m n =>
 bC n k
 (aT n k j fun o =>
 T.ae (o.add (ay n 2)) [.string,.int .u32] fun p q =>
 T.new [ct,ar 0] 66 fun r =>
 T.ao r [.string p,ar q] <|
 T.ae r [.string] fun s =>
 bR (Instr.lookup 147 (.map e) (.string s) true) true [(true,(yL 66)),cj] fun t u v w x =>
 T.new [aM,ar 0] 60 fun y =>
 T.ao y [.slice t u v,ar w] <|
 cond (!x)
 (T.ae r [.string] fun z =>
 bR (Instr.lookup 170 (.map h) (.string z) false) false [(false,[.int .u32])] fun A =>
 T.ae (r.add 1) [.int .u32] fun B =>
 T.ek YC (Instr.mapUpdate 170 (.map h) (.string z) (ar (IntKind.wrap .u32 (A+B)))) <|
 T.again 0 [ar m,bo n])
 (T.ae y [.slice 66] fun z A B =>
 T.loop [aK] [vI 0] fun C =>
 bC C A
 (aT C A z fun D =>
 T.ae (D.add (ay C 2)) [.string,.int .u32] fun E F =>
 T.new [ct,ar 0] 66 fun G =>
 T.ao G [.string E,ar F] <|
 T.ae G [.string] fun H =>
 bR (Instr.lookup 170 (.map h) (.string H) false) false [(false,[.int .u32])] fun I =>
 T.ae (r.add 1) [.int .u32] fun J =>
 T.ae (G.add 1) [.int .u32] fun K =>
 T.ek YC (Instr.mapUpdate 170 (.map h) (.string H) (ar (IntKind.wrap .u32 (I+(IntKind.wrap .u32 (J*K)))))) <|
 T.again 1 [bo C])
 (T.ae (r.add 1) [.int .u32] fun D =>
 T.ae (y.add 1) [.int .u32] fun E =>
 T.again 0 [ar (IntKind.wrap .u32 (m+(IntKind.wrap .u32 (D*E)))),bo n])))
 (T.new [aM,ar 0] 60 fun o =>
 T.ao o [aM,ar m] <|
 bq 109 [.map h] false [(false,[.func #[86] #[] false])] fun (p:XB) =>
 bq 108 [p] false [(false,[.slice 9])] fun q r s =>
 T.loop [aK] [vI 0] fun t =>
 bC t r
 (aT t r q fun u =>
 T.ae (u.add (ay t 1)) [.string] fun v =>
 bR (Instr.lookup 170 (.map h) (.string v) false) false [(false,[.int .u32])] fun w =>
 cond (w != 0)
 (T.ae o [.slice 66] fun x y z =>
 bR (Instr.lookup 170 (.map h) (.string v) false) false [(false,[.int .u32])] fun A =>
 aR (Instr.buildSlice 57 1 #[(0,.agg #[.string v,ar A])]) fun B C D =>
 aR (Builtin.append_ #[57,57] 57 #[.slice x y z,.slice B C D]) fun E F G =>
 T.ao o [.slice E F G] <|
 T.again 1 [bo t])
 (T.again 1 [bo t]))
 (T.ae o (yL 66) fun u v w x =>
 T.ao g [.slice u v w,ar x] <|
 T.ae g (yL 66) fun y z A B =>
 T.ret (.agg #[.slice y z A,ar B])))
def CJ (a:XC) (b c:Nat) (d:Int) (e:Option Nat):bQ YC [] Tryz.f86 [.agg #[.slice a b c,.int .u32 d],.map e]=BJ a b c d e:=aw
def xm (a:XC) (b c:Nat):T :=
 T.new [.slice a b c] 27 fun d =>
 T.ae d [.slice 88] fun e f g =>
 bq 83 [.slice e f g] false [(false,[.map 9 4])] fun h =>
 T.ae d [.slice 88] fun i j k =>
 T.loop [eb,aK,aK,aK] [aM,vI 0,vI 0,vI 0] fun l m n o p q =>
 bC q j
 (aT q j i fun r =>
 T.ae (r.add (ay q 3)) [.string,.slice 66,.int .u32] fun s t u v w =>
 T.new [ct,aM,ar 0] 88 fun x =>
 T.ao x [.string s,.slice t u v,ar w] <|
 T.ae x [.string] fun y =>
 eh (Instr.lookup 142 (.map h) (.string y) false) fun z =>
 cond z
 (bI #[aM,vI q,vI 24])
 (T.again 0 [.slice l m n,vI o,vI p,bo q]))
 (T.ae d [.slice 88] fun r s t =>
 bq 84 [.slice r s t] false [(false,[.map 9 3])] fun u =>
 T.new [.map none] 97 fun v =>
 T.ao v [.map u] <|
 bR (Instr.makeMap 147 none) false [(false,[.map 0 0])] fun w =>
 T.new [.map none] 147 fun x =>
 T.ao x [.map w] <|
 T.new [.nilFunc] 148 fun y =>
 T.ao y [.func (Fn.func 85) #[] #[.pointer (some x),.pointer (some d),.pointer (some v),.pointer (some y)]] <|
 T.ae d [.slice 88] fun z A B =>
 T.loop [eb,aK] [aM,vI 0] fun C D E F =>
 bC F A
 (aT F A z fun G =>
 T.ae (G.add (ay F 3)) [.string,.slice 66,.int .u32] fun H I J K L =>
 T.new [ct,aM,ar 0] 88 fun M =>
 T.ao M [.string H,.slice I J K,ar L] <|
 T.ae y [.func #[9] #[60] false] fun (N:XB) =>
 T.ae M [.string] fun O =>
 T.uG YC N [.string O] false [(true,(yL 66))] fun P Q R S =>
 T.new [aM,ar 0] 60 fun U =>
 T.ao U [.slice P Q R,ar S] <|
 T.ae M [.string] fun V =>
 T.ae U [.slice 66] fun W X Y =>
 T.ae (U.add 1) [.int .u32] fun Z =>
 bq 54 [.slice W X Y] false [(false,[.slice 66])] fun a0 a1 a2 =>
 T.az [((U.add 1),[ar Z]),(M,[.string V])] <|
 aR (Instr.buildSlice 27 1 #[(0,.agg #[.string V,.slice a0 a1 a2,ar Z])]) fun a3 a4 a5 =>
 T.az [((U.add 1),[ar Z]),(U,[.slice W X Y]),(M,[.string V])] <|
 aR (Builtin.append_ #[27,27] 27 #[.slice C D E,.slice a3 a4 a5]) fun a6 a7 a8 =>
 T.az [((U.add 1),[ar Z]),(U,[.slice W X Y]),(M,[.string V])] <|
 T.again 1 [.slice a6 a7 a8,bo F])
 (bI #[.slice C D E,vI 0,vI 0]))
def Ac (a:XC) (b c:Nat):bQ YC [] Tryz.f49 [.slice a b c]=xm a b c:=aw
def By (a:XC) (b c:Nat) (d:Int) (e:XC) (f g:Nat):T :=
 T.new [.slice a b c,ar d] 60 fun h =>
 T.new [aM,ar 0] 60 fun i =>
 bR (Instr.makeMap 147 none) false [(false,[.map 0 0])] fun j =>
 T.loop [aK] [vI 0] fun k =>
 bC k f
 (aT k f e fun l =>
 T.ae (l.add (ay k 3)) [.string,.slice 66,.int .u32] fun m n o p q =>
 T.new [ct,aM,ar 0] 88 fun r =>
 T.ao r [.string m,.slice n o p,ar q] <|
 T.ae r [.string] fun s =>
 T.ae (r.add 1) (yL 66) fun t u v w =>
 T.ek YC (Instr.mapUpdate 147 (.map j) (.string s) (.agg #[.slice t u v,ar w])) <|
 T.again 0 [bo k])
 (T.ae h (yL 66) fun l m n o =>
 bq 86 [.agg #[.slice l m n,ar o],.map j] false [(true,(yL 66))] fun p q r s =>
 bq 87 [.agg #[.slice p q r,ar s],.agg #[aM,ar 0]] false [(true,(yL 66))] fun t u v w =>
 T.ao i [.slice t u v,ar w] <|
 T.ae i (yL 66) fun x y z A =>
 T.ret (.agg #[.slice x y z,ar A]))
def CA (a:XC) (b c:Nat) (d:Int) (e:XC) (f g:Nat):bQ YC [] Tryz.f50 [.agg #[.slice a b c,.int .u32 d],.slice e f g]=By a b c d e f g:=aw
def eG (a:XC) (b c:Nat) (d:XA):T :=
 T.loop [aK,aK] [vI 0,vI 0] fun e f =>
 bC f b
 (aT f b a fun g =>
 T.ae (g.add (ay f 1)) [.string] fun h =>
 cond ((ByteArray.toList d)==(ByteArray.toList h))
 (T.ret (vI f))
 (T.again 0 [vI e,bo f]))
 (T.ret (vI (-1)))
def gF (a:XC) (b c:Nat) (d:XA):bQ YC [] Tryz.f107 [.slice a b c,.string d]=eG a b c d:=aw
def iT (a:XA) (b c d e f g h i:YA):T :=
 T.ae b [.map 9 3] fun j =>
 T.ae b [.map 9 3] fun k =>
 bR (Builtin.len_ #[97] 3 #[.map k]) false [aK] fun l =>
 T.ek YC (Instr.mapUpdate 97 (.map j) (.string a) (bo l)) <|
 T.ae c [.map 9 3] fun m =>
 T.ae b [.map 9 3] fun n =>
 bR (Instr.lookup 97 (.map n) (.string a) false) false [aK] fun o =>
 T.ek YC (Instr.mapUpdate 97 (.map m) (.string a) (vI o)) <|
 T.ae d [.slice 9] fun p q r =>
 aR (Instr.buildSlice 28 1 #[(0,.string a)]) fun s t u =>
 aR (Builtin.append_ #[28,28] 28 #[.slice p q r,.slice s t u]) fun v w x =>
 T.ao d [.slice v w x] <|
 T.ae e [.map 9 4] fun y =>
 T.ek YC (Instr.mapUpdate 142 (.map y) (.string a) (.bool true)) <|
 T.ae f [.slice 88] fun z A B =>
 T.ae g [.map 9 3] fun C =>
 bR (Instr.lookup 97 (.map C) (.string a) false) false [aK] fun D =>
 aT D A z fun E =>
 T.ae ((E.add (ay D 3)).add 1) [.slice 66] fun F G H =>
 T.loop [aK] [vI 0] fun I =>
 bC I G
 (aT I G F fun J =>
 T.ae (J.add (ay I 2)) [.string,.int .u32] fun K L =>
 T.new [ct,ar 0] 66 fun M =>
 T.ao M [.string K,ar L] <|
 T.ae g [.map 9 3] fun N =>
 T.ae M [.string] fun O =>
 bR (Instr.lookup 97 (.map N) (.string O) true) true [aK,cj] fun P Q =>
 cond (!Q)
 (T.again 0 [bo I])
 (T.ae M [.string] fun R =>
 cond ((ByteArray.toList R)==(ByteArray.toList a))
 (T.ae h [.map 9 4] fun S =>
 T.ek YC (Instr.mapUpdate 142 (.map S) (.string a) (.bool true)) <|
 T.ae b [.map 9 3] fun U =>
 T.ae M [.string] fun V =>
 bR (Instr.lookup 97 (.map U) (.string V) false) false [aK] fun W =>
 cond (W==0)
 (T.ae i [.func #[9] #[] false] fun (X:XB) =>
 T.ae M [.string] fun Y =>
 T.uG YC X [.string Y] true [] <| T.ae c [.map 9 3] fun Z =>
 T.ae c [.map 9 3] fun a0 =>
 bR (Instr.lookup 97 (.map a0) (.string a) false) false [aK] fun a1 =>
 T.ae c [.map 9 3] fun a2 =>
 T.ae M [.string] fun a3 =>
 bR (Instr.lookup 97 (.map a2) (.string a3) false) false [aK] fun a4 =>
 bR (Builtin.min_ #[3,3] 3 #[vI a1,vI a4]) false [aK] fun a5 =>
 T.ek YC (Instr.mapUpdate 97 (.map Z) (.string a) (vI a5)) <|
 T.again 0 [bo I])
 (T.ae e [.map 9 4] fun X =>
 T.ae M [.string] fun Y =>
 eh (Instr.lookup 142 (.map X) (.string Y) false) fun Z =>
 cond Z
 (T.ae c [.map 9 3] fun a0 =>
 T.ae c [.map 9 3] fun a1 =>
 bR (Instr.lookup 97 (.map a1) (.string a) false) false [aK] fun a2 =>
 T.ae b [.map 9 3] fun a3 =>
 T.ae M [.string] fun a4 =>
 bR (Instr.lookup 97 (.map a3) (.string a4) false) false [aK] fun a5 =>
 bR (Builtin.min_ #[3,3] 3 #[vI a2,vI a5]) false [aK] fun a6 =>
 T.ek YC (Instr.mapUpdate 97 (.map a0) (.string a) (vI a6)) <|
 T.again 0 [bo I])
 (T.again 0 [bo I])))
 (T.ae b [.map 9 3] fun S =>
 T.ae M [.string] fun U =>
 bR (Instr.lookup 97 (.map S) (.string U) false) false [aK] fun V =>
 cond (V==0)
 (T.ae i [.func #[9] #[] false] fun (W:XB) =>
 T.ae M [.string] fun X =>
 T.uG YC W [.string X] true [] <| T.ae c [.map 9 3] fun Y =>
 T.ae c [.map 9 3] fun Z =>
 bR (Instr.lookup 97 (.map Z) (.string a) false) false [aK] fun a0 =>
 T.ae c [.map 9 3] fun a1 =>
 T.ae M [.string] fun a2 =>
 bR (Instr.lookup 97 (.map a1) (.string a2) false) false [aK] fun a3 =>
 bR (Builtin.min_ #[3,3] 3 #[vI a0,vI a3]) false [aK] fun a4 =>
 T.ek YC (Instr.mapUpdate 97 (.map Y) (.string a) (vI a4)) <|
 T.again 0 [bo I])
 (T.ae e [.map 9 4] fun W =>
 T.ae M [.string] fun X =>
 eh (Instr.lookup 142 (.map W) (.string X) false) fun Y =>
 cond Y
 (T.ae c [.map 9 3] fun Z =>
 T.ae c [.map 9 3] fun a0 =>
 bR (Instr.lookup 97 (.map a0) (.string a) false) false [aK] fun a1 =>
 T.ae b [.map 9 3] fun a2 =>
 T.ae M [.string] fun a3 =>
 bR (Instr.lookup 97 (.map a2) (.string a3) false) false [aK] fun a4 =>
 bR (Builtin.min_ #[3,3] 3 #[vI a1,vI a4]) false [aK] fun a5 =>
 T.ek YC (Instr.mapUpdate 97 (.map Z) (.string a) (vI a5)) <|
 T.again 0 [bo I])
 (T.again 0 [bo I])))))
 (T.ae c [.map 9 3] fun J =>
 bR (Instr.lookup 97 (.map J) (.string a) false) false [aK] fun K =>
 T.ae b [.map 9 3] fun L =>
 bR (Instr.lookup 97 (.map L) (.string a) false) false [aK] fun M =>
 cond (decide (K<M))
 (bI #[])
 (T.ae d [.slice 9] fun N O P =>
 dh 107 [.slice N O P,.string a] fun Q =>
 T.ae d [.slice 9] fun R S U =>
 T.need ((0<=Q)/\((Q<=(S:Int))/\((S:Int)<=(U:Int)))) <|
 T.loop [aK] [vI 0] fun V =>
 cond (decide (V<((((Int.toNat (S:Int))-(Int.toNat Q)):Nat):Int)))
 (T.need ((0<=V)/\(V<((((Int.toNat (S:Int))-(Int.toNat Q)):Nat):Int))) <|
 T.bd (if (U=(Int.toNat Q)) then R else (Option.map (fun W=>Addr.add W (ay Q 1)) R)) fun W =>
 T.ae (W.add (ay V 1)) [.string] fun X =>
 T.ae e [.map 9 4] fun Y =>
 T.ek YC (Instr.mapUpdate 142 (.map Y) (.string X) (.bool false)) <|
 T.ae h [.map 9 4] fun Z =>
 T.ae h [.map 9 4] fun a0 =>
 eh (Instr.lookup 142 (.map a0) (.string X) false) fun a1 =>
 cond a1
 (T.ek YC (Instr.mapUpdate 142 (.map Z) (.string X) (.bool true)) <|
 T.again 1 [bo V])
 (T.ae d [.slice 9] fun a2 a3 a4 =>
 T.ek YC (Instr.mapUpdate 142 (.map Z) (.string X) (.bool (decide ((bf ((a3:Int)-Q))>1)))) <|
 T.again 1 [bo V]))
 (T.ae d [.slice 9] fun W X Y =>
 T.need (((0:Int)<=0)/\((0<=Q)/\(Q<=(Y:Int)))) <|
 T.ao d [.slice (if (Y=0) then W else (Option.map (fun Z=>Addr.add Z 0) W)) ((Int.toNat Q)-0) (Y-0)] <|
 bI #[])))
def mP (a:XA) (b c d e f g h i:YA):bQ YC [] Tryz.f106 [.string a,.pointer (some b),.pointer (some c),.pointer (some d),.pointer (some e),.pointer (some f),.pointer (some g),.pointer (some h),.pointer (some i)]=iT a b c d e f g h i:=aw
def jX (a:XA) (b c d e:YA):T :=
 T.new [aM,ar 0] 60 fun f =>
 T.ae b [.map 9 60] fun g =>
 bR (Instr.lookup 147 (.map g) (.string a) true) true [(true,(yL 66)),cj] fun h i j k l =>
 T.new [aM,ar 0] 60 fun m =>
 T.ao m [.slice h i j,ar k] <|
 cond l
 (T.ae m (yL 66) fun n o p q =>
 T.ao f [.slice n o p,ar q] <|
 T.ae f (yL 66) fun r s t u =>
 T.ret (.agg #[.slice r s t,ar u]))
 (T.ae c [.slice 88] fun n o p =>
 T.ae d [.map 9 3] fun q =>
 bR (Instr.lookup 97 (.map q) (.string a) false) false [aK] fun r =>
 aT r o n fun s =>
 T.ae ((s.add (ay r 3)).add 1) (yL 66) fun t u v w =>
 T.new [aM,ar 0] 60 fun x =>
 T.ao x [.slice t u v,ar w] <|
 T.ae x [.slice 66] fun y z A =>
 T.loop [aK] [vI 0] fun B =>
 bC B z
 (aT B z y fun C =>
 T.ae (C.add (ay B 2)) [.string,.int .u32] fun D E =>
 T.new [ct,ar 0] 66 fun F =>
 T.ao F [.string D,ar E] <|
 T.ae d [.map 9 3] fun G =>
 T.ae F [.string] fun H =>
 bR (Instr.lookup 97 (.map G) (.string H) true) true [aK,cj] fun I J =>
 cond J
 (T.ae e [.func #[9] #[60] false] fun (K:XB) =>
 T.ae F [.string] fun L =>
 T.uG YC K [.string L] false [(true,(yL 66))] fun M N O P =>
 T.again 0 [bo B])
 (T.again 0 [bo B]))
 (T.ae x (yL 66) fun C D E F =>
 T.ae b [.map 9 60] fun G =>
 bq 86 [.agg #[.slice C D E,ar F],.map G] false [(true,(yL 66))] fun H I J K =>
 T.ao x [.slice H I J,ar K] <|
 T.ae b [.map 9 60] fun L =>
 T.ae x (yL 66) fun M N O P =>
 T.ek YC (Instr.mapUpdate 147 (.map L) (.string a) (.agg #[.slice M N O,ar P])) <|
 T.ae x (yL 66) fun Q R S U =>
 T.ao f [.slice Q R S,ar U] <|
 T.ae f (yL 66) fun V W X Y =>
 T.ret (.agg #[.slice V W X,ar Y])))
def oH (a:XA) (b c d e:YA):bQ YC [] Tryz.f85 [.string a,.pointer (some b),.pointer (some c),.pointer (some d),.pointer (some e)]=jX a b c d e:=aw
def iL (a:XC) (b c:Int):T :=
 cond (decide (b<0))
 (T.ret (aM))
 (T.bd a fun d =>
 T.ae d [.slice 30] fun e f g =>
 cond (decide (b>=(f:Int)))
 (T.ret (aM))
 (cond (decide (c<0))
 (T.ret (aM))
 (cond (decide (c>1))
 (T.ret (aM))
 (T.bd a fun h =>
 T.ae h [.slice 30] fun i j k =>
 aT b j i fun l =>
 T.ae (l.add (ay b 4)) [.slice 64] fun m n o =>
 cond (c==1)
 (T.bd a fun p =>
 T.ae p [.slice 30] fun q r s =>
 aT b r q fun t =>
 T.ae ((t.add (ay b 4)).add 1) [.slice 64] fun u v w =>
 bq 53 [.slice u v w] false [(false,[.slice 64])] fun x y z =>
 T.loop [aK] [vI 0] fun A =>
 bC A y
 (aT A y x fun B =>
 T.ae ((B.add (ay A 10)).add 7) [.slice 66] fun C D E =>
 bq 54 [.slice C D E] false [(false,[.slice 66])] fun F G H =>
 aT A y x fun I =>
 T.ao ((I.add (ay A 10)).add 7) [.slice F G H] <|
 T.again 0 [bo A])
 (T.ret (.slice x y z)))
 (bq 53 [.slice m n o] false [(false,[.slice 64])] fun p q r =>
 T.loop [aK] [vI 0] fun s =>
 bC s q
 (aT s q p fun t =>
 T.ae ((t.add (ay s 10)).add 7) [.slice 66] fun u v w =>
 bq 54 [.slice u v w] false [(false,[.slice 66])] fun x y z =>
 aT s q p fun A =>
 T.ao ((A.add (ay s 10)).add 7) [.slice x y z] <|
 T.again 0 [bo s])
 (T.ret (.slice p q r)))))))
def mn (a:XC) (b c:Int):bQ YC [] Tryz.f17 [.pointer a,vI b,vI c]=iL a b c:=aw
def gY (a:XC):T :=
 T.bd a fun b =>
 T.ae (b.add 1) [.slice 76] fun c d e =>
 bq 55 [.slice c d e] false [(false,[.slice 76])] fun f g h =>
 T.ret (.slice f g h)
def lI (a:XC):bQ YC [] Tryz.f18 [.pointer a]=gY a:=aw
def iU (a:XC):T :=
 T.bd a fun b =>
 T.ae (b.add 6) [.int .i64] fun c =>
 T.ret (vI c)
def mq (a:XC):bQ YC [] Tryz.f19 [.pointer a]=iU a:=aw
def dT (a:XC) (b c:Nat):T :=
 cond (/-?Option.isSome.match_1-/ match a with
 | some val=>false
 | none=>true)
 (T.ret (aM))
 (aR (Instr.buildSlice 26 0 #[]) fun d e f =>
 aR (Builtin.append_ #[26,26] 26 #[.slice d e f,.slice a b c]) fun g h i =>
 T.ret (.slice g h i))
def fE (a:XC) (b c:Nat):bQ YC [] Tryz.f53 [.slice a b c]=dT a b c:=aw
def dV (a:XC) (b c:Nat):T :=
 cond (/-?Option.isSome.match_1-/ match a with
 | some val=>false
 | none=>true)
 (T.ret (aM))
 (aR (Instr.buildSlice 57 0 #[]) fun d e f =>
 aR (Builtin.append_ #[57,57] 57 #[.slice d e f,.slice a b c]) fun g h i =>
 T.ret (.slice g h i))
def fB (a:XC) (b c:Nat):bQ YC [] Tryz.f54 [.slice a b c]=dV a b c:=aw
def dy (a:XC) (b c:Nat):T :=
 cond (/-?Option.isSome.match_1-/ match a with
 | some val=>false
 | none=>true)
 (T.ret (aM))
 (aR (Instr.buildSlice 43 0 #[]) fun d e f =>
 aR (Builtin.append_ #[43,43] 43 #[.slice d e f,.slice a b c]) fun g h i =>
 T.ret (.slice g h i))
def fc (a:XC) (b c:Nat):bQ YC [] Tryz.f55 [.slice a b c]=dy a b c:=aw
end Go.Sx
