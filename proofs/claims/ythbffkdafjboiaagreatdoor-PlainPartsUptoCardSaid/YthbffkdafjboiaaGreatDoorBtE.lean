/- Trees of functions. No condition. -/
import Derived.Test.YthbffkdafjboiaaGreatDoorSxF
import Derived.Test.YthbffkdafjboiaaGreatDoorProg
import Derived.KernelRfl
set_option linter.all false
set_option maxRecDepth 100000
set_option maxHeartbeats 4000000
namespace Go.Sx
open Go.Proofs
def sH (a:ZC) (b c:Nat):T :=
 T.new [.slice a b c] 44 fun d =>
 T.ah d [.slice 100] fun e f g =>
 bK 64 [.slice e f g] false [(false,[.map 9 3])] fun h =>
 T.new [.map none] 89 fun i =>
 T.aE i [.map h] <|
 bR (Instr.makeMap 58 none) false [(false,[.map 0 0])] fun j =>
 T.new [.map none] 58 fun k =>
 T.aE k [.map j] <|
 bR (Instr.makeMap 89 none) false [(false,[.map 0 0])] fun l =>
 bR (Instr.makeMap 89 none) false [(false,[.map 0 0])] fun m =>
 T.new [.map none] 89 fun n =>
 T.new [.map none] 89 fun o =>
 T.aE n [.map l] <|
 T.aE o [.map m] <|
 T.new [bi] 45 fun p =>
 bR (Instr.makeMap 58 none) false [(false,[.map 0 0])] fun q =>
 T.new [.map none] 58 fun r =>
 T.aE r [.map q] <|
 T.new [.nilFunc] 181 fun s =>
 T.aE s [.func (Fn.func 90) #[] #[.pointer (some n),.pointer (some o),.pointer (some p),.pointer (some r),.pointer (some d),.pointer (some i),.pointer (some k),.pointer (some s)]] <|
 T.ah d [.slice 100] fun t u v =>
 T.loop [aR] [vI 0] fun w =>
 bG w u
 (bf w u t fun x =>
 T.ah (x.add (aQ w 3)) [.string,.slice 117,.int .u32] fun y z A B C =>
 T.new [bT,bi,aH 0] 100 fun D =>
 T.aE D [.string y,.slice z A B,aH C] <|
 T.ah n [.map 9 3] fun E =>
 T.ah D [.string] fun F =>
 bR (Instr.lookup 89 (.map E) (.string F) false) false [aR] fun G =>
 cond (G==(0:Int))
 (T.ah s [.func #[9] #[] false] fun (H:ZB) =>
 T.ah D [.string] fun I =>
 T.sI Tryz.prog H [.string I] true [] <| T.again 0 [bh w])
 (T.again 0 [bh w]))
 (T.ah k [.map 9 4] fun x =>
 T.ret (.map x))
def w9 (a:ZC) (b c:Nat):bQ Tryz.prog [] Tryz.f63 [.slice a b c]=sH a b c:=az
def sP (a:ZC) (b c:Nat):T :=
 bR (Instr.makeMap 89 none) false [(false,[.map 0 0])] fun d =>
 T.loop [aR] [vI 0] fun e =>
 bG e b
 (bf e b a fun f =>
 T.ah (f.add (aQ e 3)) [.string,.slice 117,.int .u32] fun g h i j k =>
 T.new [bT,bi,aH 0] 100 fun l =>
 T.aE l [.string g,.slice h i j,aH k] <|
 T.ah l [.string] fun m =>
 T.ei Tryz.prog (Instr.mapUpdate 89 (.map d) (.string m) (vI e)) <|
 T.again 0 [bh e])
 (T.ret (.map d))
def wZ (a:ZC) (b c:Nat):bQ Tryz.prog [] Tryz.f64 [.slice a b c]=sP a b c:=az
def BU (a:ZC) (b c:Nat) (d:Int) (e:Option Nat):T :=
 T.new [.slice a b c,aH d] 69 fun f =>
 T.new [bi,aH 0] 69 fun g =>
 bR (Instr.makeMap 183 none) false [(false,[.map 0 0])] fun h =>
 T.ah (f.add 1) [.int .u32] fun i =>
 T.ah f [.slice 117] fun j k l =>
 T.loop [(false,[.int .u32]),aR] [aH i,vI 0] fun m n =>
 bG n k
 (bf n k j fun o =>
 T.ah (o.add (aQ n 2)) [.string,.int .u32] fun p q =>
 T.new [bT,aH 0] 117 fun r =>
 T.aE r [.string p,aH q] <|
 T.ah r [.string] fun s =>
 bR (Instr.lookup 149 (.map e) (.string s) true) true [(true,(yL 117)),cg] fun t u v w x =>
 T.new [bi,aH 0] 69 fun y =>
 T.aE y [.slice t u v,aH w] <|
 cond (!x)
 (T.ah r [.string] fun z =>
 bR (Instr.lookup 183 (.map h) (.string z) false) false [(false,[.int .u32])] fun A =>
 T.ah (r.add 1) [.int .u32] fun B =>
 T.ei Tryz.prog (Instr.mapUpdate 183 (.map h) (.string z) (aH (IntKind.wrap .u32 (A+B)))) <|
 T.again 0 [aH m,bh n])
 (T.ah y [.slice 117] fun z A B =>
 T.loop [aR] [vI 0] fun C =>
 bG C A
 (bf C A z fun D =>
 T.ah (D.add (aQ C 2)) [.string,.int .u32] fun E F =>
 T.new [bT,aH 0] 117 fun G =>
 T.aE G [.string E,aH F] <|
 T.ah G [.string] fun H =>
 bR (Instr.lookup 183 (.map h) (.string H) false) false [(false,[.int .u32])] fun I =>
 T.ah (r.add 1) [.int .u32] fun J =>
 T.ah (G.add 1) [.int .u32] fun K =>
 T.ei Tryz.prog (Instr.mapUpdate 183 (.map h) (.string H) (aH (IntKind.wrap .u32 (I+(IntKind.wrap .u32 (J*K)))))) <|
 T.again 1 [bh C])
 (T.ah (r.add 1) [.int .u32] fun D =>
 T.ah (y.add 1) [.int .u32] fun E =>
 T.again 0 [aH (IntKind.wrap .u32 (m+(IntKind.wrap .u32 (D*E)))),bh n])))
 (T.new [bi,aH 0] 69 fun o =>
 T.aE o [bi,aH m] <|
 bK 93 [.map h] false [(false,[.func #[142] #[] false])] fun (p:ZB) =>
 bK 92 [p] false [(false,[.slice 9])] fun q r s =>
 T.loop [aR] [vI 0] fun t =>
 bG t r
 (bf t r q fun u =>
 T.ah (u.add (aQ t 1)) [.string] fun v =>
 bR (Instr.lookup 183 (.map h) (.string v) false) false [(false,[.int .u32])] fun w =>
 cond (w != (0:Int))
 (T.ah o [.slice 117] fun x y z =>
 bR (Instr.lookup 183 (.map h) (.string v) false) false [(false,[.int .u32])] fun A =>
 bm (Instr.buildSlice 66 1 #[(0,.agg #[.string v,aH A])]) fun B C D =>
 bm (Builtin.append_ #[66,66] 66 #[.slice x y z,.slice B C D]) fun E F G =>
 T.aE o [.slice E F G] <|
 T.again 1 [bh t])
 (T.again 1 [bh t]))
 (T.ah o (yL 117) fun u v w x =>
 T.aE g [.slice u v w,aH x] <|
 T.ah g (yL 117) fun y z A B =>
 T.ret (.agg #[.slice y z A,aH B])))
def C2 (a:ZC) (b c:Nat) (d:Int) (e:Option Nat):bQ Tryz.prog [] Tryz.f66 [.agg #[.slice a b c,.int .u32 d],.map e]=BU a b c d e:=az
def xe (a:ZC) (b c:Nat):T :=
 T.new [.slice a b c] 44 fun d =>
 T.ah d [.slice 100] fun e f g =>
 bK 63 [.slice e f g] false [(false,[.map 9 4])] fun h =>
 T.ah d [.slice 100] fun i j k =>
 T.loop [dh,aR,aR,aR] [bi,vI 0,vI 0,vI 0] fun l m n o p q =>
 bG q j
 (bf q j i fun r =>
 T.ah (r.add (aQ q 3)) [.string,.slice 117,.int .u32] fun s t u v w =>
 T.new [bT,bi,aH 0] 100 fun x =>
 T.aE x [.string s,.slice t u v,aH w] <|
 T.ah x [.string] fun y =>
 dr (Instr.lookup 58 (.map h) (.string y) false) fun z =>
 cond z
 (br #[bi,vI q,vI 24])
 (T.again 0 [.slice l m n,vI o,vI p,bh q]))
 (T.ah d [.slice 100] fun r s t =>
 bK 64 [.slice r s t] false [(false,[.map 9 3])] fun u =>
 T.new [.map none] 89 fun v =>
 T.aE v [.map u] <|
 bR (Instr.makeMap 149 none) false [(false,[.map 0 0])] fun w =>
 T.new [.map none] 149 fun x =>
 T.aE x [.map w] <|
 T.new [.nilFunc] 150 fun y =>
 T.aE y [.func (Fn.func 65) #[] #[.pointer (some x),.pointer (some d),.pointer (some v),.pointer (some y)]] <|
 T.ah d [.slice 100] fun z A B =>
 T.loop [dh,aR] [bi,vI 0] fun C D E F =>
 bG F A
 (bf F A z fun G =>
 T.ah (G.add (aQ F 3)) [.string,.slice 117,.int .u32] fun H I J K L =>
 T.new [bT,bi,aH 0] 100 fun M =>
 T.aE M [.string H,.slice I J K,aH L] <|
 T.ah y [.func #[9] #[69] false] fun (N:ZB) =>
 T.ah M [.string] fun O =>
 T.sI Tryz.prog N [.string O] false [(true,(yL 117))] fun P Q R S =>
 T.new [bi,aH 0] 69 fun U =>
 T.aE U [.slice P Q R,aH S] <|
 T.ah M [.string] fun V =>
 T.ah U [.slice 117] fun W X Y =>
 T.ah (U.add 1) [.int .u32] fun Z =>
 bK 42 [.slice W X Y] false [(false,[.slice 117])] fun a0 a1 a2 =>
 T.bj [((U.add 1),[aH Z]),(M,[.string V])] <|
 bm (Instr.buildSlice 44 1 #[(0,.agg #[.string V,.slice a0 a1 a2,aH Z])]) fun a3 a4 a5 =>
 T.bj [((U.add 1),[aH Z]),(U,[.slice W X Y]),(M,[.string V])] <|
 bm (Builtin.append_ #[44,44] 44 #[.slice C D E,.slice a3 a4 a5]) fun a6 a7 a8 =>
 T.bj [((U.add 1),[aH Z]),(U,[.slice W X Y]),(M,[.string V])] <|
 T.again 1 [.slice a6 a7 a8,bh F])
 (br #[.slice C D E,vI 0,vI 0]))
def Al (a:ZC) (b c:Nat):bQ Tryz.prog [] Tryz.f37 [.slice a b c]=xe a b c:=az
def BM (a:ZC) (b c:Nat) (d:Int) (e:ZC) (f g:Nat):T :=
 T.new [.slice a b c,aH d] 69 fun h =>
 T.new [bi,aH 0] 69 fun i =>
 bR (Instr.makeMap 149 none) false [(false,[.map 0 0])] fun j =>
 T.loop [aR] [vI 0] fun k =>
 bG k f
 (bf k f e fun l =>
 T.ah (l.add (aQ k 3)) [.string,.slice 117,.int .u32] fun m n o p q =>
 T.new [bT,bi,aH 0] 100 fun r =>
 T.aE r [.string m,.slice n o p,aH q] <|
 T.ah r [.string] fun s =>
 T.ah (r.add 1) (yL 117) fun t u v w =>
 T.ei Tryz.prog (Instr.mapUpdate 149 (.map j) (.string s) (.agg #[.slice t u v,aH w])) <|
 T.again 0 [bh k])
 (T.ah h (yL 117) fun l m n o =>
 bK 66 [.agg #[.slice l m n,aH o],.map j] false [(true,(yL 117))] fun p q r s =>
 bK 67 [.agg #[.slice p q r,aH s],.agg #[bi,aH 0]] false [(true,(yL 117))] fun t u v w =>
 T.aE i [.slice t u v,aH w] <|
 T.ah i (yL 117) fun x y z A =>
 T.ret (.agg #[.slice x y z,aH A]))
def CU (a:ZC) (b c:Nat) (d:Int) (e:ZC) (f g:Nat):bQ Tryz.prog [] Tryz.f38 [.agg #[.slice a b c,.int .u32 d],.slice e f g]=BM a b c d e f g:=az
def eG (a:ZC) (b c:Nat) (d:ZA):T :=
 T.loop [aR,aR] [vI 0,vI 0] fun e f =>
 bG f b
 (bf f b a fun g =>
 T.ah (g.add (aQ f 1)) [.string] fun h =>
 cond ((ByteArray.toList d)==(ByteArray.toList h))
 (T.ret (vI f))
 (T.again 0 [vI e,bh f]))
 (T.ret (vI (-1:Int)))
def gT (a:ZC) (b c:Nat) (d:ZA):bQ Tryz.prog [] Tryz.f91 [.slice a b c,.string d]=eG a b c d:=az
def ji (a:ZA) (b:Zx) (c:Zx) (d:Zx) (e:Zx) (f:Zx) (g:Zx) (h:Zx) (i:Zx):T :=
 T.ah b [.map 9 3] fun j =>
 T.ah b [.map 9 3] fun k =>
 bR (Builtin.len_ #[89] 3 #[.map k]) false [aR] fun l =>
 T.ei Tryz.prog (Instr.mapUpdate 89 (.map j) (.string a) (bh l)) <|
 T.ah c [.map 9 3] fun m =>
 T.ah b [.map 9 3] fun n =>
 bR (Instr.lookup 89 (.map n) (.string a) false) false [aR] fun o =>
 T.ei Tryz.prog (Instr.mapUpdate 89 (.map m) (.string a) (vI o)) <|
 T.ah d [.slice 9] fun p q r =>
 bm (Instr.buildSlice 45 1 #[(0,.string a)]) fun s t u =>
 bm (Builtin.append_ #[45,45] 45 #[.slice p q r,.slice s t u]) fun v w x =>
 T.aE d [.slice v w x] <|
 T.ah e [.map 9 4] fun y =>
 T.ei Tryz.prog (Instr.mapUpdate 58 (.map y) (.string a) (.bool true)) <|
 T.ah f [.slice 100] fun z A B =>
 T.ah g [.map 9 3] fun C =>
 bR (Instr.lookup 89 (.map C) (.string a) false) false [aR] fun D =>
 bf D A z fun E =>
 T.ah ((E.add (aQ D 3)).add 1) [.slice 117] fun F G H =>
 T.loop [aR] [vI 0] fun I =>
 bG I G
 (bf I G F fun J =>
 T.ah (J.add (aQ I 2)) [.string,.int .u32] fun K L =>
 T.new [bT,aH 0] 117 fun M =>
 T.aE M [.string K,aH L] <|
 T.ah g [.map 9 3] fun N =>
 T.ah M [.string] fun O =>
 bR (Instr.lookup 89 (.map N) (.string O) true) true [aR,cg] fun P Q =>
 cond (!Q)
 (T.again 0 [bh I])
 (T.ah M [.string] fun R =>
 cond ((ByteArray.toList R)==(ByteArray.toList a))
 (T.ah h [.map 9 4] fun S =>
 T.ei Tryz.prog (Instr.mapUpdate 58 (.map S) (.string a) (.bool true)) <|
 T.ah b [.map 9 3] fun U =>
 T.ah M [.string] fun V =>
 bR (Instr.lookup 89 (.map U) (.string V) false) false [aR] fun W =>
 cond (W==(0:Int))
 (T.ah i [.func #[9] #[] false] fun (X:ZB) =>
 T.ah M [.string] fun Y =>
 T.sI Tryz.prog X [.string Y] true [] <| T.ah c [.map 9 3] fun Z =>
 T.ah c [.map 9 3] fun a0 =>
 bR (Instr.lookup 89 (.map a0) (.string a) false) false [aR] fun a1 =>
 T.ah c [.map 9 3] fun a2 =>
 T.ah M [.string] fun a3 =>
 bR (Instr.lookup 89 (.map a2) (.string a3) false) false [aR] fun a4 =>
 bR (Builtin.min_ #[3,3] 3 #[vI a1,vI a4]) false [aR] fun a5 =>
 T.ei Tryz.prog (Instr.mapUpdate 89 (.map Z) (.string a) (vI a5)) <|
 T.again 0 [bh I])
 (T.ah e [.map 9 4] fun X =>
 T.ah M [.string] fun Y =>
 dr (Instr.lookup 58 (.map X) (.string Y) false) fun Z =>
 cond Z
 (T.ah c [.map 9 3] fun a0 =>
 T.ah c [.map 9 3] fun a1 =>
 bR (Instr.lookup 89 (.map a1) (.string a) false) false [aR] fun a2 =>
 T.ah b [.map 9 3] fun a3 =>
 T.ah M [.string] fun a4 =>
 bR (Instr.lookup 89 (.map a3) (.string a4) false) false [aR] fun a5 =>
 bR (Builtin.min_ #[3,3] 3 #[vI a2,vI a5]) false [aR] fun a6 =>
 T.ei Tryz.prog (Instr.mapUpdate 89 (.map a0) (.string a) (vI a6)) <|
 T.again 0 [bh I])
 (T.again 0 [bh I])))
 (T.ah b [.map 9 3] fun S =>
 T.ah M [.string] fun U =>
 bR (Instr.lookup 89 (.map S) (.string U) false) false [aR] fun V =>
 cond (V==(0:Int))
 (T.ah i [.func #[9] #[] false] fun (W:ZB) =>
 T.ah M [.string] fun X =>
 T.sI Tryz.prog W [.string X] true [] <| T.ah c [.map 9 3] fun Y =>
 T.ah c [.map 9 3] fun Z =>
 bR (Instr.lookup 89 (.map Z) (.string a) false) false [aR] fun a0 =>
 T.ah c [.map 9 3] fun a1 =>
 T.ah M [.string] fun a2 =>
 bR (Instr.lookup 89 (.map a1) (.string a2) false) false [aR] fun a3 =>
 bR (Builtin.min_ #[3,3] 3 #[vI a0,vI a3]) false [aR] fun a4 =>
 T.ei Tryz.prog (Instr.mapUpdate 89 (.map Y) (.string a) (vI a4)) <|
 T.again 0 [bh I])
 (T.ah e [.map 9 4] fun W =>
 T.ah M [.string] fun X =>
 dr (Instr.lookup 58 (.map W) (.string X) false) fun Y =>
 cond Y
 (T.ah c [.map 9 3] fun Z =>
 T.ah c [.map 9 3] fun a0 =>
 bR (Instr.lookup 89 (.map a0) (.string a) false) false [aR] fun a1 =>
 T.ah b [.map 9 3] fun a2 =>
 T.ah M [.string] fun a3 =>
 bR (Instr.lookup 89 (.map a2) (.string a3) false) false [aR] fun a4 =>
 bR (Builtin.min_ #[3,3] 3 #[vI a1,vI a4]) false [aR] fun a5 =>
 T.ei Tryz.prog (Instr.mapUpdate 89 (.map Z) (.string a) (vI a5)) <|
 T.again 0 [bh I])
 (T.again 0 [bh I])))))
 (T.ah c [.map 9 3] fun J =>
 bR (Instr.lookup 89 (.map J) (.string a) false) false [aR] fun K =>
 T.ah b [.map 9 3] fun L =>
 bR (Instr.lookup 89 (.map L) (.string a) false) false [aR] fun M =>
 cond (decide (K<M))
 (br #[])
 (T.ah d [.slice 9] fun N O P =>
 cD 91 [.slice N O P,.string a] fun Q =>
 T.ah d [.slice 9] fun R S U =>
 T.need (((0:Int)<=Q)/\((Q<=(S:Int))/\((S:Int)<=(U:Int)))) <|
 T.loop [aR] [vI 0] fun V =>
 cond (decide (V<((((Int.toNat (S:Int))-(Int.toNat Q)):Nat):Int)))
 (T.need (((0:Int)<=V)/\(V<((((Int.toNat (S:Int))-(Int.toNat Q)):Nat):Int))) <|
 T.bF (if (U=(Int.toNat Q)) then R else (Option.map (fun W=>Addr.add W (aQ Q 1)) R)) fun W =>
 T.ah (W.add (aQ V 1)) [.string] fun X =>
 T.ah e [.map 9 4] fun Y =>
 T.ei Tryz.prog (Instr.mapUpdate 58 (.map Y) (.string X) (.bool false)) <|
 T.ah h [.map 9 4] fun Z =>
 T.ah h [.map 9 4] fun a0 =>
 dr (Instr.lookup 58 (.map a0) (.string X) false) fun a1 =>
 cond a1
 (T.ei Tryz.prog (Instr.mapUpdate 58 (.map Z) (.string X) (.bool true)) <|
 T.again 1 [bh V])
 (T.ah d [.slice 9] fun a2 a3 a4 =>
 T.ei Tryz.prog (Instr.mapUpdate 58 (.map Z) (.string X) (.bool (decide ((bt ((a3:Int)-Q))>(1:Int))))) <|
 T.again 1 [bh V]))
 (T.ah d [.slice 9] fun W X Y =>
 T.need (((0:Int)<=(0:Int))/\(((0:Int)<=Q)/\(Q<=(Y:Int)))) <|
 T.aE d [.slice (if (Y=0) then W else (Option.map (fun Z=>Addr.add Z 0) W)) ((Int.toNat Q)-0) (Y-0)] <|
 br #[])))
def nh (a:ZA) (b:Zx) (c:Zx) (d:Zx) (e:Zx) (f:Zx) (g:Zx) (h:Zx) (i:Zx):bQ Tryz.prog [] Tryz.f90 [.string a,.pointer (some b),.pointer (some c),.pointer (some d),.pointer (some e),.pointer (some f),.pointer (some g),.pointer (some h),.pointer (some i)]=ji a b c d e f g h i:=az
def ko (a:ZA) (b:Zx) (c:Zx) (d:Zx) (e:Zx):T :=
 T.new [bi,aH 0] 69 fun f =>
 T.ah b [.map 9 69] fun g =>
 bR (Instr.lookup 149 (.map g) (.string a) true) true [(true,(yL 117)),cg] fun h i j k l =>
 T.new [bi,aH 0] 69 fun m =>
 T.aE m [.slice h i j,aH k] <|
 cond l
 (T.ah m (yL 117) fun n o p q =>
 T.aE f [.slice n o p,aH q] <|
 T.ah f (yL 117) fun r s t u =>
 T.ret (.agg #[.slice r s t,aH u]))
 (T.ah c [.slice 100] fun n o p =>
 T.ah d [.map 9 3] fun q =>
 bR (Instr.lookup 89 (.map q) (.string a) false) false [aR] fun r =>
 bf r o n fun s =>
 T.ah ((s.add (aQ r 3)).add 1) (yL 117) fun t u v w =>
 T.new [bi,aH 0] 69 fun x =>
 T.aE x [.slice t u v,aH w] <|
 T.ah x [.slice 117] fun y z A =>
 T.loop [aR] [vI 0] fun B =>
 bG B z
 (bf B z y fun C =>
 T.ah (C.add (aQ B 2)) [.string,.int .u32] fun D E =>
 T.new [bT,aH 0] 117 fun F =>
 T.aE F [.string D,aH E] <|
 T.ah d [.map 9 3] fun G =>
 T.ah F [.string] fun H =>
 bR (Instr.lookup 89 (.map G) (.string H) true) true [aR,cg] fun I J =>
 cond J
 (T.ah e [.func #[9] #[69] false] fun (K:ZB) =>
 T.ah F [.string] fun L =>
 T.sI Tryz.prog K [.string L] false [(true,(yL 117))] fun M N O P =>
 T.again 0 [bh B])
 (T.again 0 [bh B]))
 (T.ah x (yL 117) fun C D E F =>
 T.ah b [.map 9 69] fun G =>
 bK 66 [.agg #[.slice C D E,aH F],.map G] false [(true,(yL 117))] fun H I J K =>
 T.aE x [.slice H I J,aH K] <|
 T.ah b [.map 9 69] fun L =>
 T.ah x (yL 117) fun M N O P =>
 T.ei Tryz.prog (Instr.mapUpdate 149 (.map L) (.string a) (.agg #[.slice M N O,aH P])) <|
 T.ah x (yL 117) fun Q R S U =>
 T.aE f [.slice Q R S,aH U] <|
 T.ah f (yL 117) fun V W X Y =>
 T.ret (.agg #[.slice V W X,aH Y])))
def oR (a:ZA) (b:Zx) (c:Zx) (d:Zx) (e:Zx):bQ Tryz.prog [] Tryz.f65 [.string a,.pointer (some b),.pointer (some c),.pointer (some d),.pointer (some e)]=ko a b c d e:=az
def iZ (a:ZC) (b:Int) (c:Int):T :=
 cond (decide (b<(0:Int)))
 (T.ret (bi))
 (T.bF a fun d =>
 T.ah d [.slice 47] fun e f g =>
 cond (decide (b>=(f:Int)))
 (T.ret (bi))
 (cond (decide (c<(0:Int)))
 (T.ret (bi))
 (cond (decide (c>(1:Int)))
 (T.ret (bi))
 (T.bF a fun h =>
 T.ah h [.slice 47] fun i j k =>
 bf b j i fun l =>
 T.ah (l.add (aQ b 4)) [.slice 71] fun m n o =>
 cond (c==(1:Int))
 (T.bF a fun p =>
 T.ah p [.slice 47] fun q r s =>
 bf b r q fun t =>
 T.ah ((t.add (aQ b 4)).add 1) [.slice 71] fun u v w =>
 bK 41 [.slice u v w] false [(false,[.slice 71])] fun x y z =>
 T.loop [aR] [vI 0] fun A =>
 bG A y
 (bf A y x fun B =>
 T.ah ((B.add (aQ A 10)).add 7) [.slice 117] fun C D E =>
 bK 42 [.slice C D E] false [(false,[.slice 117])] fun F G H =>
 bf A y x fun I =>
 T.aE ((I.add (aQ A 10)).add 7) [.slice F G H] <|
 T.again 0 [bh A])
 (T.ret (.slice x y z)))
 (bK 41 [.slice m n o] false [(false,[.slice 71])] fun p q r =>
 T.loop [aR] [vI 0] fun s =>
 bG s q
 (bf s q p fun t =>
 T.ah ((t.add (aQ s 10)).add 7) [.slice 117] fun u v w =>
 bK 42 [.slice u v w] false [(false,[.slice 117])] fun x y z =>
 bf s q p fun A =>
 T.aE ((A.add (aQ s 10)).add 7) [.slice x y z] <|
 T.again 0 [bh s])
 (T.ret (.slice p q r)))))))
def mG (a:ZC) (b:Int) (c:Int):bQ Tryz.prog [] Tryz.f22 [.pointer a,vI b,vI c]=iZ a b c:=az
def iw (a:ZC):T :=
 T.bF a fun b =>
 T.ah (b.add 1) [.slice 112] fun c d e =>
 bK 68 [.slice c d e] false [(false,[.slice 112])] fun f g h =>
 T.ret (.slice f g h)
def lW (a:ZC):bQ Tryz.prog [] Tryz.f39 [.pointer a]=iw a:=az
def iX (a:ZC):T :=
 T.bF a fun b =>
 T.ah b [.slice 47] fun c d e =>
 T.ret (vI (d:Int))
def mT (a:ZC):bQ Tryz.prog [] Tryz.f21 [.pointer a]=iX a:=az
def dW (a:ZC) (b c:Nat):T :=
 cond (/-?Option.isSome.match_1-/ match a with
 | some val=>false
 | none=>true)
 (T.ret (bi))
 (bm (Instr.buildSlice 43 0 #[]) fun d e f =>
 bm (Builtin.append_ #[43,43] 43 #[.slice d e f,.slice a b c]) fun g h i =>
 T.ret (.slice g h i))
def fQ (a:ZC) (b c:Nat):bQ Tryz.prog [] Tryz.f41 [.slice a b c]=dW a b c:=az
def dY (a:ZC) (b c:Nat):T :=
 cond (/-?Option.isSome.match_1-/ match a with
 | some val=>false
 | none=>true)
 (T.ret (bi))
 (bm (Instr.buildSlice 66 0 #[]) fun d e f =>
 bm (Builtin.append_ #[66,66] 66 #[.slice d e f,.slice a b c]) fun g h i =>
 T.ret (.slice g h i))
def fO (a:ZC) (b c:Nat):bQ Tryz.prog [] Tryz.f42 [.slice a b c]=dY a b c:=az
def dz (a:ZC) (b c:Nat):T :=
 cond (/-?Option.isSome.match_1-/ match a with
 | some val=>false
 | none=>true)
 (T.ret (bi))
 (bm (Instr.buildSlice 90 0 #[]) fun d e f =>
 bm (Builtin.append_ #[90,90] 90 #[.slice d e f,.slice a b c]) fun g h i =>
 T.ret (.slice g h i))
def fk (a:ZC) (b c:Nat):bQ Tryz.prog [] Tryz.f68 [.slice a b c]=dz a b c:=az
end Go.Sx
