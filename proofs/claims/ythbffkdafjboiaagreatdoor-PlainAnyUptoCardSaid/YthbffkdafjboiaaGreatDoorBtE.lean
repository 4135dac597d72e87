/- Trees of functions. No condition. -/
import Derived.Test.YthbffkdafjboiaaGreatDoorSxF
import Derived.Test.YthbffkdafjboiaaGreatDoorProg
import Derived.KernelRfl
set_option linter.all false
set_option maxRecDepth 100000
set_option maxHeartbeats 4000000
namespace Go.Sx
open Go.Proofs
def tG (a:Xac) (b c:Nat):T :=
 T.new [.slice a b c] 44 fun d =>
 T.ah d [.slice 100] fun e f g =>
 bJ 64 [.slice e f g] false [(false,[.map 9 3])] fun h =>
 T.new [.map none] 89 fun i =>
 T.aC i [.map h] <|
 bU (Instr.makeMap 58 none) false [(false,[.map 0 0])] fun j =>
 T.new [.map none] 58 fun k =>
 T.aC k [.map j] <|
 bU (Instr.makeMap 89 none) false [(false,[.map 0 0])] fun l =>
 bU (Instr.makeMap 89 none) false [(false,[.map 0 0])] fun m =>
 T.new [.map none] 89 fun n =>
 T.new [.map none] 89 fun o =>
 T.aC n [.map l] <|
 T.aC o [.map m] <|
 T.new [bq] 45 fun p =>
 bU (Instr.makeMap 58 none) false [(false,[.map 0 0])] fun q =>
 T.new [.map none] 58 fun r =>
 T.aC r [.map q] <|
 T.new [.nilFunc] 181 fun s =>
 T.aC s [.func (Fn.func 90) #[] #[.pointer (some n),.pointer (some o),.pointer (some p),.pointer (some r),.pointer (some d),.pointer (some i),.pointer (some k),.pointer (some s)]] <|
 T.ah d [.slice 100] fun t u v =>
 T.loop [aP] [vI 0] fun w =>
 bz w u
 (bf w u t fun x =>
 T.ah (x.add (aK w 3)) [.string,.slice 117,.int .u32] fun y z A B C =>
 T.new [bX,bq,aH 0] 100 fun D =>
 T.aC D [.string y,.slice z A B,aH C] <|
 T.ah n [.map 9 3] fun E =>
 T.ah D [.string] fun F =>
 bU (Instr.lookup 89 (.map E) (.string F) false) false [aP] fun G =>
 cond (G==(0:Int))
 (T.ah s [.func #[9] #[] false] fun (H:Xab) =>
 T.ah D [.string] fun I =>
 T.tH Tryz.prog H [.string I] true [] <| T.again 0 [bg w])
 (T.again 0 [bg w]))
 (T.ah k [.map 9 4] fun x =>
 T.ret (.map x))
def xK (a:Xac) (b c:Nat):bM Tryz.prog [] Tryz.f63 [.slice a b c]=tG a b c:=az
def tP (a:Xac) (b c:Nat):T :=
 bU (Instr.makeMap 89 none) false [(false,[.map 0 0])] fun d =>
 T.loop [aP] [vI 0] fun e =>
 bz e b
 (bf e b a fun f =>
 T.ah (f.add (aK e 3)) [.string,.slice 117,.int .u32] fun g h i j k =>
 T.new [bX,bq,aH 0] 100 fun l =>
 T.aC l [.string g,.slice h i j,aH k] <|
 T.ah l [.string] fun m =>
 T.ey Tryz.prog (Instr.mapUpdate 89 (.map d) (.string m) (vI e)) <|
 T.again 0 [bg e])
 (T.ret (.map d))
def xH (a:Xac) (b c:Nat):bM Tryz.prog [] Tryz.f64 [.slice a b c]=tP a b c:=az
def CP (a:Xac) (b c:Nat) (d:Int) (e:Option Nat):T :=
 T.new [.slice a b c,aH d] 69 fun f =>
 T.new [bq,aH 0] 69 fun g =>
 bU (Instr.makeMap 183 none) false [(false,[.map 0 0])] fun h =>
 T.ah (f.add 1) [.int .u32] fun i =>
 T.ah f [.slice 117] fun j k l =>
 T.loop [(false,[.int .u32]),aP] [aH i,vI 0] fun m n =>
 bz n k
 (bf n k j fun o =>
 T.ah (o.add (aK n 2)) [.string,.int .u32] fun p q =>
 T.new [bX,aH 0] 117 fun r =>
 T.aC r [.string p,aH q] <|
 T.ah r [.string] fun s =>
 bU (Instr.lookup 149 (.map e) (.string s) true) true [(true,(yL 117)),bR] fun t u v w x =>
 T.new [bq,aH 0] 69 fun y =>
 T.aC y [.slice t u v,aH w] <|
 cond (!x)
 (T.ah r [.string] fun z =>
 bU (Instr.lookup 183 (.map h) (.string z) false) false [(false,[.int .u32])] fun A =>
 T.ah (r.add 1) [.int .u32] fun B =>
 T.ey Tryz.prog (Instr.mapUpdate 183 (.map h) (.string z) (aH (IntKind.wrap .u32 (A+B)))) <|
 T.again 0 [aH m,bg n])
 (T.ah y [.slice 117] fun z A B =>
 T.loop [aP] [vI 0] fun C =>
 bz C A
 (bf C A z fun D =>
 T.ah (D.add (aK C 2)) [.string,.int .u32] fun E F =>
 T.new [bX,aH 0] 117 fun G =>
 T.aC G [.string E,aH F] <|
 T.ah G [.string] fun H =>
 bU (Instr.lookup 183 (.map h) (.string H) false) false [(false,[.int .u32])] fun I =>
 T.ah (r.add 1) [.int .u32] fun J =>
 T.ah (G.add 1) [.int .u32] fun K =>
 T.ey Tryz.prog (Instr.mapUpdate 183 (.map h) (.string H) (aH (IntKind.wrap .u32 (I+(IntKind.wrap .u32 (J*K)))))) <|
 T.again 1 [bg C])
 (T.ah (r.add 1) [.int .u32] fun D =>
 T.ah (y.add 1) [.int .u32] fun E =>
 T.again 0 [aH (IntKind.wrap .u32 (m+(IntKind.wrap .u32 (D*E)))),bg n])))
 (T.new [bq,aH 0] 69 fun o =>
 T.aC o [bq,aH m] <|
 bJ 93 [.map h] false [(false,[.func #[142] #[] false])] fun (p:Xab) =>
 bJ 92 [p] false [(false,[.slice 9])] fun q r s =>
 T.loop [aP] [vI 0] fun t =>
 bz t r
 (bf t r q fun u =>
 T.ah (u.add (aK t 1)) [.string] fun v =>
 bU (Instr.lookup 183 (.map h) (.string v) false) false [(false,[.int .u32])] fun w =>
 cond (w != (0:Int))
 (T.ah o [.slice 117] fun x y z =>
 bU (Instr.lookup 183 (.map h) (.string v) false) false [(false,[.int .u32])] fun A =>
 bt (Instr.buildSlice 66 1 #[(0,.agg #[.string v,aH A])]) fun B C D =>
 bt (Builtin.append_ #[66,66] 66 #[.slice x y z,.slice B C D]) fun E F G =>
 T.aC o [.slice E F G] <|
 T.again 1 [bg t])
 (T.again 1 [bg t]))
 (T.ah o (yL 117) fun u v w x =>
 T.aC g [.slice u v w,aH x] <|
 T.ah g (yL 117) fun y z A B =>
 T.ret (.agg #[.slice y z A,aH B])))
def DQ (a:Xac) (b c:Nat) (d:Int) (e:Option Nat):bM Tryz.prog [] Tryz.f66 [.agg #[.slice a b c,.int .u32 d],.map e]=CP a b c d e:=az
def xN (a:Xac) (b c:Nat):T :=
 T.new [.slice a b c] 44 fun d =>
 T.ah d [.slice 100] fun e f g =>
 bJ 63 [.slice e f g] false [(false,[.map 9 4])] fun h =>
 T.ah d [.slice 100] fun i j k =>
 T.loop [dl,aP,aP,aP] [bq,vI 0,vI 0,vI 0] fun l m n o p q =>
 bz q j
 (bf q j i fun r =>
 T.ah (r.add (aK q 3)) [.string,.slice 117,.int .u32] fun s t u v w =>
 T.new [bX,bq,aH 0] 100 fun x =>
 T.aC x [.string s,.slice t u v,aH w] <|
 T.ah x [.string] fun y =>
 eA (Instr.lookup 58 (.map h) (.string y) false) fun z =>
 cond z
 (bn #[bq,vI q,vI 24])
 (T.again 0 [.slice l m n,vI o,vI p,bg q]))
 (T.ah d [.slice 100] fun r s t =>
 bJ 64 [.slice r s t] false [(false,[.map 9 3])] fun u =>
 T.new [.map none] 89 fun v =>
 T.aC v [.map u] <|
 bU (Instr.makeMap 149 none) false [(false,[.map 0 0])] fun w =>
 T.new [.map none] 149 fun x =>
 T.aC x [.map w] <|
 T.new [.nilFunc] 150 fun y =>
 T.aC y [.func (Fn.func 65) #[] #[.pointer (some x),.pointer (some d),.pointer (some v),.pointer (some y)]] <|
 T.ah d [.slice 100] fun z A B =>
 T.loop [dl,aP] [bq,vI 0] fun C D E F =>
 bz F A
 (bf F A z fun G =>
 T.ah (G.add (aK F 3)) [.string,.slice 117,.int .u32] fun H I J K L =>
 T.new [bX,bq,aH 0] 100 fun M =>
 T.aC M [.string H,.slice I J K,aH L] <|
 T.ah y [.func #[9] #[69] false] fun (N:Xab) =>
 T.ah M [.string] fun O =>
 T.tH Tryz.prog N [.string O] false [(true,(yL 117))] fun P Q R S =>
 T.new [bq,aH 0] 69 fun U =>
 T.aC U [.slice P Q R,aH S] <|
 T.ah M [.string] fun V =>
 T.ah U [.slice 117] fun W X Y =>
 T.ah (U.add 1) [.int .u32] fun Z =>
 bJ 42 [.slice W X Y] false [(false,[.slice 117])] fun a0 a1 a2 =>
 T.bj [((U.add 1),[aH Z]),(M,[.string V])] <|
 bt (Instr.buildSlice 44 1 #[(0,.agg #[.string V,.slice a0 a1 a2,aH Z])]) fun a3 a4 a5 =>
 T.bj [((U.add 1),[aH Z]),(U,[.slice W X Y]),(M,[.string V])] <|
 bt (Builtin.append_ #[44,44] 44 #[.slice C D E,.slice a3 a4 a5]) fun a6 a7 a8 =>
 T.bj [((U.add 1),[aH Z]),(U,[.slice W X Y]),(M,[.string V])] <|
 T.again 1 [.slice a6 a7 a8,bg F])
 (bn #[.slice C D E,vI 0,vI 0]))
def A9 (a:Xac) (b c:Nat):bM Tryz.prog [] Tryz.f37 [.slice a b c]=xN a b c:=az
def CG (a:Xac) (b c:Nat) (d:Int) (e:Xac) (f g:Nat):T :=
 T.new [.slice a b c,aH d] 69 fun h =>
 T.new [bq,aH 0] 69 fun i =>
 bU (Instr.makeMap 149 none) false [(false,[.map 0 0])] fun j =>
 T.loop [aP] [vI 0] fun k =>
 bz k f
 (bf k f e fun l =>
 T.ah (l.add (aK k 3)) [.string,.slice 117,.int .u32] fun m n o p q =>
 T.new [bX,bq,aH 0] 100 fun r =>
 T.aC r [.string m,.slice n o p,aH q] <|
 T.ah r [.string] fun s =>
 T.ah (r.add 1) (yL 117) fun t u v w =>
 T.ey Tryz.prog (Instr.mapUpdate 149 (.map j) (.string s) (.agg #[.slice t u v,aH w])) <|
 T.again 0 [bg k])
 (T.ah h (yL 117) fun l m n o =>
 bJ 66 [.agg #[.slice l m n,aH o],.map j] false [(true,(yL 117))] fun p q r s =>
 bJ 67 [.agg #[.slice p q r,aH s],.agg #[bq,aH 0]] false [(true,(yL 117))] fun t u v w =>
 T.aC i [.slice t u v,aH w] <|
 T.ah i (yL 117) fun x y z A =>
 T.ret (.agg #[.slice x y z,aH A]))
def DI (a:Xac) (b c:Nat) (d:Int) (e:Xac) (f g:Nat):bM Tryz.prog [] Tryz.f38 [.agg #[.slice a b c,.int .u32 d],.slice e f g]=CG a b c d e f g:=az
def eM (a:Xac) (b c:Nat) (d:Xaa):T :=
 T.loop [aP,aP] [vI 0,vI 0] fun e f =>
 bz f b
 (bf f b a fun g =>
 T.ah (g.add (aK f 1)) [.string] fun h =>
 cond ((ByteArray.toList d)==(ByteArray.toList h))
 (T.ret (vI f))
 (T.again 0 [vI e,bg f]))
 (T.ret (vI (-1:Int)))
def hZ (a:Xac) (b c:Nat) (d:Xaa):bM Tryz.prog [] Tryz.f91 [.slice a b c,.string d]=eM a b c d:=az
def ju (a:Xaa) (b:Xax) (c:Xax) (d:Xax) (e:Xax) (f:Xax) (g:Xax) (h:Xax) (i:Xax):T :=
 T.ah b [.map 9 3] fun j =>
 T.ah b [.map 9 3] fun k =>
 bU (Builtin.len_ #[89] 3 #[.map k]) false [aP] fun l =>
 T.ey Tryz.prog (Instr.mapUpdate 89 (.map j) (.string a) (bg l)) <|
 T.ah c [.map 9 3] fun m =>
 T.ah b [.map 9 3] fun n =>
 bU (Instr.lookup 89 (.map n) (.string a) false) false [aP] fun o =>
 T.ey Tryz.prog (Instr.mapUpdate 89 (.map m) (.string a) (vI o)) <|
 T.ah d [.slice 9] fun p q r =>
 bt (Instr.buildSlice 45 1 #[(0,.string a)]) fun s t u =>
 bt (Builtin.append_ #[45,45] 45 #[.slice p q r,.slice s t u]) fun v w x =>
 T.aC d [.slice v w x] <|
 T.ah e [.map 9 4] fun y =>
 T.ey Tryz.prog (Instr.mapUpdate 58 (.map y) (.string a) (.bool true)) <|
 T.ah f [.slice 100] fun z A B =>
 T.ah g [.map 9 3] fun C =>
 bU (Instr.lookup 89 (.map C) (.string a) false) false [aP] fun D =>
 bf D A z fun E =>
 T.ah ((E.add (aK D 3)).add 1) [.slice 117] fun F G H =>
 T.loop [aP] [vI 0] fun I =>
 bz I G
 (bf I G F fun J =>
 T.ah (J.add (aK I 2)) [.string,.int .u32] fun K L =>
 T.new [bX,aH 0] 117 fun M =>
 T.aC M [.string K,aH L] <|
 T.ah g [.map 9 3] fun N =>
 T.ah M [.string] fun O =>
 bU (Instr.lookup 89 (.map N) (.string O) true) true [aP,bR] fun P Q =>
 cond (!Q)
 (T.again 0 [bg I])
 (T.ah M [.string] fun R =>
 cond ((ByteArray.toList R)==(ByteArray.toList a))
 (T.ah h [.map 9 4] fun S =>
 T.ey Tryz.prog (Instr.mapUpdate 58 (.map S) (.string a) (.bool true)) <|
 T.ah b [.map 9 3] fun U =>
 T.ah M [.string] fun V =>
 bU (Instr.lookup 89 (.map U) (.string V) false) false [aP] fun W =>
 cond (W==(0:Int))
 (T.ah i [.func #[9] #[] false] fun (X:Xab) =>
 T.ah M [.string] fun Y =>
 T.tH Tryz.prog X [.string Y] true [] <| T.ah c [.map 9 3] fun Z =>
 T.ah c [.map 9 3] fun a0 =>
 bU (Instr.lookup 89 (.map a0) (.string a) false) false [aP] fun a1 =>
 T.ah c [.map 9 3] fun a2 =>
 T.ah M [.string] fun a3 =>
 bU (Instr.lookup 89 (.map a2) (.string a3) false) false [aP] fun a4 =>
 bU (Builtin.min_ #[3,3] 3 #[vI a1,vI a4]) false [aP] fun a5 =>
 T.ey Tryz.prog (Instr.mapUpdate 89 (.map Z) (.string a) (vI a5)) <|
 T.again 0 [bg I])
 (T.ah e [.map 9 4] fun X =>
 T.ah M [.string] fun Y =>
 eA (Instr.lookup 58 (.map X) (.string Y) false) fun Z =>
 cond Z
 (T.ah c [.map 9 3] fun a0 =>
 T.ah c [.map 9 3] fun a1 =>
 bU (Instr.lookup 89 (.map a1) (.string a) false) false [aP] fun a2 =>
 T.ah b [.map 9 3] fun a3 =>
 T.ah M [.string] fun a4 =>
 bU (Instr.lookup 89 (.map a3) (.string a4) false) false [aP] fun a5 =>
 bU (Builtin.min_ #[3,3] 3 #[vI a2,vI a5]) false [aP] fun a6 =>
 T.ey Tryz.prog (Instr.mapUpdate 89 (.map a0) (.string a) (vI a6)) <|
 T.again 0 [bg I])
 (T.again 0 [bg I])))
 (T.ah b [.map 9 3] fun S =>
 T.ah M [.string] fun U =>
 bU (Instr.lookup 89 (.map S) (.string U) false) false [aP] fun V =>
 cond (V==(0:Int))
 (T.ah i [.func #[9] #[] false] fun (W:Xab) =>
 T.ah M [.string] fun X =>
 T.tH Tryz.prog W [.string X] true [] <| T.ah c [.map 9 3] fun Y =>
 T.ah c [.map 9 3] fun Z =>
 bU (Instr.lookup 89 (.map Z) (.string a) false) false [aP] fun a0 =>
 T.ah c [.map 9 3] fun a1 =>
 T.ah M [.string] fun a2 =>
 bU (Instr.lookup 89 (.map a1) (.string a2) false) false [aP] fun a3 =>
 bU (Builtin.min_ #[3,3] 3 #[vI a0,vI a3]) false [aP] fun a4 =>
 T.ey Tryz.prog (Instr.mapUpdate 89 (.map Y) (.string a) (vI a4)) <|
 T.again 0 [bg I])
 (T.ah e [.map 9 4] fun W =>
 T.ah M [.string] fun X =>
 eA (Instr.lookup 58 (.map W) (.string X) false) fun Y =>
 cond Y
 (T.ah c [.map 9 3] fun Z =>
 T.ah c [.map 9 3] fun a0 =>
 bU (Instr.lookup 89 (.map a0) (.string a) false) false [aP] fun a1 =>
 T.ah b [.map 9 3] fun a2 =>
 T.ah M [.string] fun a3 =>
 bU (Instr.lookup 89 (.map a2) (.string a3) false) false [aP] fun a4 =>
 bU (Builtin.min_ #[3,3] 3 #[vI a1,vI a4]) false [aP] fun a5 =>
 T.ey Tryz.prog (Instr.mapUpdate 89 (.map Z) (.string a) (vI a5)) <|
 T.again 0 [bg I])
 (T.again 0 [bg I])))))
 (T.ah c [.map 9 3] fun J =>
 bU (Instr.lookup 89 (.map J) (.string a) false) false [aP] fun K =>
 T.ah b [.map 9 3] fun L =>
 bU (Instr.lookup 89 (.map L) (.string a) false) false [aP] fun M =>
 cond (decide (K<M))
 (bn #[])
 (T.ah d [.slice 9] fun N O P =>
 ct 91 [.slice N O P,.string a] fun Q =>
 T.ah d [.slice 9] fun R S U =>
 T.need (((0:Int)<=Q)/\((Q<=(S:Int))/\((S:Int)<=(U:Int)))) <|
 T.loop [aP] [vI 0] fun V =>
 cond (decide (V<((((Int.toNat (S:Int))-(Int.toNat Q)):Nat):Int)))
 (T.need (((0:Int)<=V)/\(V<((((Int.toNat (S:Int))-(Int.toNat Q)):Nat):Int))) <|
 T.bi (if (U=(Int.toNat Q)) then R else (Option.map (fun W=>Addr.add W (aK Q 1)) R)) fun W =>
 T.ah (W.add (aK V 1)) [.string] fun X =>
 T.ah e [.map 9 4] fun Y =>
 T.ey Tryz.prog (Instr.mapUpdate 58 (.map Y) (.string X) (.bool false)) <|
 T.ah h [.map 9 4] fun Z =>
 T.ah h [.map 9 4] fun a0 =>
 eA (Instr.lookup 58 (.map a0) (.string X) false) fun a1 =>
 cond a1
 (T.ey Tryz.prog (Instr.mapUpdate 58 (.map Z) (.string X) (.bool true)) <|
 T.again 1 [bg V])
 (T.ah d [.slice 9] fun a2 a3 a4 =>
 T.ey Tryz.prog (Instr.mapUpdate 58 (.map Z) (.string X) (.bool (decide ((bm ((a3:Int)-Q))>(1:Int))))) <|
 T.again 1 [bg V]))
 (T.ah d [.slice 9] fun W X Y =>
 T.need (((0:Int)<=(0:Int))/\(((0:Int)<=Q)/\(Q<=(Y:Int)))) <|
 T.aC d [.slice (if (Y=0) then W else (Option.map (fun Z=>Addr.add Z 0) W)) ((Int.toNat Q)-0) (Y-0)] <|
 bn #[])))
def nU (a:Xaa) (b:Xax) (c:Xax) (d:Xax) (e:Xax) (f:Xax) (g:Xax) (h:Xax) (i:Xax):bM Tryz.prog [] Tryz.f90 [.string a,.pointer (some b),.pointer (some c),.pointer (some d),.pointer (some e),.pointer (some f),.pointer (some g),.pointer (some h),.pointer (some i)]=ju a b c d e f g h i:=az
def kN (a:Xaa) (b:Xax) (c:Xax) (d:Xax) (e:Xax):T :=
 T.new [bq,aH 0] 69 fun f =>
 T.ah b [.map 9 69] fun g =>
 bU (Instr.lookup 149 (.map g) (.string a) true) true [(true,(yL 117)),bR] fun h i j k l =>
 T.new [bq,aH 0] 69 fun m =>
 T.aC m [.slice h i j,aH k] <|
 cond l
 (T.ah m (yL 117) fun n o p q =>
 T.aC f [.slice n o p,aH q] <|
 T.ah f (yL 117) fun r s t u =>
 T.ret (.agg #[.slice r s t,aH u]))
 (T.ah c [.slice 100] fun n o p =>
 T.ah d [.map 9 3] fun q =>
 bU (Instr.lookup 89 (.map q) (.string a) false) false [aP] fun r =>
 bf r o n fun s =>
 T.ah ((s.add (aK r 3)).add 1) (yL 117) fun t u v w =>
 T.new [bq,aH 0] 69 fun x =>
 T.aC x [.slice t u v,aH w] <|
 T.ah x [.slice 117] fun y z A =>
 T.loop [aP] [vI 0] fun B =>
 bz B z
 (bf B z y fun C =>
 T.ah (C.add (aK B 2)) [.string,.int .u32] fun D E =>
 T.new [bX,aH 0] 117 fun F =>
 T.aC F [.string D,aH E] <|
 T.ah d [.map 9 3] fun G =>
 T.ah F [.string] fun H =>
 bU (Instr.lookup 89 (.map G) (.string H) true) true [aP,bR] fun I J =>
 cond J
 (T.ah e [.func #[9] #[69] false] fun (K:Xab) =>
 T.ah F [.string] fun L =>
 T.tH Tryz.prog K [.string L] false [(true,(yL 117))] fun M N O P =>
 T.again 0 [bg B])
 (T.again 0 [bg B]))
 (T.ah x (yL 117) fun C D E F =>
 T.ah b [.map 9 69] fun G =>
 bJ 66 [.agg #[.slice C D E,aH F],.map G] false [(true,(yL 117))] fun H I J K =>
 T.aC x [.slice H I J,aH K] <|
 T.ah b [.map 9 69] fun L =>
 T.ah x (yL 117) fun M N O P =>
 T.ey Tryz.prog (Instr.mapUpdate 149 (.map L) (.string a) (.agg #[.slice M N O,aH P])) <|
 T.ah x (yL 117) fun Q R S U =>
 T.aC f [.slice Q R S,aH U] <|
 T.ah f (yL 117) fun V W X Y =>
 T.ret (.agg #[.slice V W X,aH Y])))
def pM (a:Xaa) (b:Xax) (c:Xax) (d:Xax) (e:Xax):bM Tryz.prog [] Tryz.f65 [.string a,.pointer (some b),.pointer (some c),.pointer (some d),.pointer (some e)]=kN a b c d e:=az
def jh (a:Xac) (b:Int) (c:Int):T :=
 cond (decide (b<(0:Int)))
 (T.ret (bq))
 (T.bi a fun d =>
 T.ah d [.slice 47] fun e f g =>
 cond (decide (b>=(f:Int)))
 (T.ret (bq))
 (cond (decide (c<(0:Int)))
 (T.ret (bq))
 (cond (decide (c>(1:Int)))
 (T.ret (bq))
 (T.bi a fun h =>
 T.ah h [.slice 47] fun i j k =>
 bf b j i fun l =>
 T.ah (l.add (aK b 4)) [.slice 71] fun m n o =>
 cond (c==(1:Int))
 (T.bi a fun p =>
 T.ah p [.slice 47] fun q r s =>
 bf b r q fun t =>
 T.ah ((t.add (aK b 4)).add 1) [.slice 71] fun u v w =>
 bJ 41 [.slice u v w] false [(false,[.slice 71])] fun x y z =>
 T.loop [aP] [vI 0] fun A =>
 bz A y
 (bf A y x fun B =>
 T.ah ((B.add (aK A 10)).add 7) [.slice 117] fun C D E =>
 bJ 42 [.slice C D E] false [(false,[.slice 117])] fun F G H =>
 bf A y x fun I =>
 T.aC ((I.add (aK A 10)).add 7) [.slice F G H] <|
 T.again 0 [bg A])
 (T.ret (.slice x y z)))
 (bJ 41 [.slice m n o] false [(false,[.slice 71])] fun p q r =>
 T.loop [aP] [vI 0] fun s =>
 bz s q
 (bf s q p fun t =>
 T.ah ((t.add (aK s 10)).add 7) [.slice 117] fun u v w =>
 bJ 42 [.slice u v w] false [(false,[.slice 117])] fun x y z =>
 bf s q p fun A =>
 T.aC ((A.add (aK s 10)).add 7) [.slice x y z] <|
 T.again 0 [bg s])
 (T.ret (.slice p q r)))))))
def nw (a:Xac) (b:Int) (c:Int):bM Tryz.prog [] Tryz.f22 [.pointer a,vI b,vI c]=jh a b c:=az
def iE (a:Xac):T :=
 T.bi a fun b =>
 T.ah (b.add 1) [.slice 112] fun c d e =>
 bJ 68 [.slice c d e] false [(false,[.slice 112])] fun f g h =>
 T.ret (.slice f g h)
def mK (a:Xac):bM Tryz.prog [] Tryz.f39 [.pointer a]=iE a:=az
def jf (a:Xac):T :=
 T.bi a fun b =>
 T.ah b [.slice 47] fun c d e =>
 T.ret (vI (d:Int))
def nL (a:Xac):bM Tryz.prog [] Tryz.f21 [.pointer a]=jf a:=az
def dY (a:Xac) (b c:Nat):T :=
 cond (/-?Option.isSome.match_1-/ match a with
 | some val=>false
 | none=>true)
 (T.ret (bq))
 (bt (Instr.buildSlice 43 0 #[]) fun d e f =>
 bt (Builtin.append_ #[43,43] 43 #[.slice d e f,.slice a b c]) fun g h i =>
 T.ret (.slice g h i))
def fT (a:Xac) (b c:Nat):bM Tryz.prog [] Tryz.f41 [.slice a b c]=dY a b c:=az
def eb (a:Xac) (b c:Nat):T :=
 cond (/-?Option.isSome.match_1-/ match a with
 | some val=>false
 | none=>true)
 (T.ret (bq))
 (bt (Instr.buildSlice 66 0 #[]) fun d e f =>
 bt (Builtin.append_ #[66,66] 66 #[.slice d e f,.slice a b c]) fun g h i =>
 T.ret (.slice g h i))
def fR (a:Xac) (b c:Nat):bM Tryz.prog [] Tryz.f42 [.slice a b c]=eb a b c:=az
def dE (a:Xac) (b c:Nat):T :=
 cond (/-?Option.isSome.match_1-/ match a with
 | some val=>false
 | none=>true)
 (T.ret (bq))
 (bt (Instr.buildSlice 90 0 #[]) fun d e f =>
 bt (Builtin.append_ #[90,90] 90 #[.slice d e f,.slice a b c]) fun g h i =>
 T.ret (.slice g h i))
def ft (a:Xac) (b c:Nat):bM Tryz.prog [] Tryz.f68 [.slice a b c]=dE a b c:=az
end Go.Sx
