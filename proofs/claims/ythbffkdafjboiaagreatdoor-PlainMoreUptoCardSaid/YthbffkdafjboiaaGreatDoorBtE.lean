/- Trees of functions. No condition. -/
import Derived.Test.YthbffkdafjboiaaGreatDoorSxF
import Derived.Test.YthbffkdafjboiaaGreatDoorProg
import Derived.KernelRfl
set_option linter.all false
set_option maxRecDepth 100000
set_option maxHeartbeats 4000000
namespace Go.Sx
open Go.Proofs
def th (a:Xac) (b c:Nat):T :=
 T.new [.slice a b c] 44 fun d =>
 T.ah d [.slice 100] fun e f g =>
 bK 64 [.slice e f g] false [(false,[.map 9 3])] fun h =>
 T.new [.map none] 89 fun i =>
 T.aC i [.map h] <|
 bU (Instr.makeMap 58 none) false [(false,[.map 0 0])] fun j =>
 T.new [.map none] 58 fun k =>
 T.aC k [.map j] <|
 bU (Instr.makeMap 89 none) false [(false,[.map 0 0])] fun l =>
 bU (Instr.makeMap 89 none) false [(false,[.map 0 0])] fun m =>
 T.new [.map none] 89 fun n =>
 T.new [.map none] 89 fun o =>
 T.aC n [.map l] <|
 T.aC o [.map m] <|
 T.new [bj] 45 fun p =>
 bU (Instr.makeMap 58 none) false [(false,[.map 0 0])] fun q =>
 T.new [.map none] 58 fun r =>
 T.aC r [.map q] <|
 T.new [.nilFunc] 181 fun s =>
 T.aC s [.func (Fn.func 90) #[] #[.pointer (some n),.pointer (some o),.pointer (some p),.pointer (some r),.pointer (some d),.pointer (some i),.pointer (some k),.pointer (some s)]] <|
 T.ah d [.slice 100] fun t u v =>
 T.loop [aR] [vI 0] fun w =>
 bH w u
 (bf w u t fun x =>
 T.ah (x.add (aP w 3)) [.string,.slice 117,.int .u32] fun y z A B C =>
 T.new [bY,bj,aG 0] 100 fun D =>
 T.aC D [.string y,.slice z A B,aG C] <|
 T.ah n [.map 9 3] fun E =>
 T.ah D [.string] fun F =>
 bU (Instr.lookup 89 (.map E) (.string F) false) false [aR] fun G =>
 cond (G==(0:Int))
 (T.ah s [.func #[9] #[] false] fun (H:Xab) =>
 T.ah D [.string] fun I =>
 T.tj Tryz.prog H [.string I] true [] <| T.again 0 [bk w])
 (T.again 0 [bk w]))
 (T.ah k [.map 9 4] fun x =>
 T.ret (.map x))
def xz (a:Xac) (b c:Nat):bT Tryz.prog [] Tryz.f63 [.slice a b c]=th a b c:=ax
def tB (a:Xac) (b c:Nat):T :=
 bU (Instr.makeMap 89 none) false [(false,[.map 0 0])] fun d =>
 T.loop [aR] [vI 0] fun e =>
 bH e b
 (bf e b a fun f =>
 T.ah (f.add (aP e 3)) [.string,.slice 117,.int .u32] fun g h i j k =>
 T.new [bY,bj,aG 0] 100 fun l =>
 T.aC l [.string g,.slice h i j,aG k] <|
 T.ah l [.string] fun m =>
 T.et Tryz.prog (Instr.mapUpdate 89 (.map d) (.string m) (vI e)) <|
 T.again 0 [bk e])
 (T.ret (.map d))
def xv (a:Xac) (b c:Nat):bT Tryz.prog [] Tryz.f64 [.slice a b c]=tB a b c:=ax
def Cv (a:Xac) (b c:Nat) (d:Int) (e:Option Nat):T :=
 T.new [.slice a b c,aG d] 69 fun f =>
 T.new [bj,aG 0] 69 fun g =>
 bU (Instr.makeMap 183 none) false [(false,[.map 0 0])] fun h =>
 T.ah (f.add 1) [.int .u32] fun i =>
 T.ah f [.slice 117] fun j k l =>
 T.loop [(false,[.int .u32]),aR] [aG i,vI 0] fun m n =>
 bH n k
 (bf n k j fun o =>
 T.ah (o.add (aP n 2)) [.string,.int .u32] fun p q =>
 T.new [bY,aG 0] 117 fun r =>
 T.aC r [.string p,aG q] <|
 T.ah r [.string] fun s =>
 bU (Instr.lookup 149 (.map e) (.string s) true) true [(true,(yL 117)),cn] fun t u v w x =>
 T.new [bj,aG 0] 69 fun y =>
 T.aC y [.slice t u v,aG w] <|
 cond (!x)
 (T.ah r [.string] fun z =>
 bU (Instr.lookup 183 (.map h) (.string z) false) false [(false,[.int .u32])] fun A =>
 T.ah (r.add 1) [.int .u32] fun B =>
 T.et Tryz.prog (Instr.mapUpdate 183 (.map h) (.string z) (aG (IntKind.wrap .u32 (A+B)))) <|
 T.again 0 [aG m,bk n])
 (T.ah y [.slice 117] fun z A B =>
 T.loop [aR] [vI 0] fun C =>
 bH C A
 (bf C A z fun D =>
 T.ah (D.add (aP C 2)) [.string,.int .u32] fun E F =>
 T.new [bY,aG 0] 117 fun G =>
 T.aC G [.string E,aG F] <|
 T.ah G [.string] fun H =>
 bU (Instr.lookup 183 (.map h) (.string H) false) false [(false,[.int .u32])] fun I =>
 T.ah (r.add 1) [.int .u32] fun J =>
 T.ah (G.add 1) [.int .u32] fun K =>
 T.et Tryz.prog (Instr.mapUpdate 183 (.map h) (.string H) (aG (IntKind.wrap .u32 (I+(IntKind.wrap .u32 (J*K)))))) <|
 T.again 1 [bk C])
 (T.ah (r.add 1) [.int .u32] fun D =>
 T.ah (y.add 1) [.int .u32] fun E =>
 T.again 0 [aG (IntKind.wrap .u32 (m+(IntKind.wrap .u32 (D*E)))),bk n])))
 (T.new [bj,aG 0] 69 fun o =>
 T.aC o [bj,aG m] <|
 bK 93 [.map h] false [(false,[.func #[142] #[] false])] fun (p:Xab) =>
 bK 92 [p] false [(false,[.slice 9])] fun q r s =>
 T.loop [aR] [vI 0] fun t =>
 bH t r
 (bf t r q fun u =>
 T.ah (u.add (aP t 1)) [.string] fun v =>
 bU (Instr.lookup 183 (.map h) (.string v) false) false [(false,[.int .u32])] fun w =>
 cond (w != (0:Int))
 (T.ah o [.slice 117] fun x y z =>
 bU (Instr.lookup 183 (.map h) (.string v) false) false [(false,[.int .u32])] fun A =>
 br (Instr.buildSlice 66 1 #[(0,.agg #[.string v,aG A])]) fun B C D =>
 br (Builtin.append_ #[66,66] 66 #[.slice x y z,.slice B C D]) fun E F G =>
 T.aC o [.slice E F G] <|
 T.again 1 [bk t])
 (T.again 1 [bk t]))
 (T.ah o (yL 117) fun u v w x =>
 T.aC g [.slice u v w,aG x] <|
 T.ah g (yL 117) fun y z A B =>
 T.ret (.agg #[.slice y z A,aG B])))
def DA (a:Xac) (b c:Nat) (d:Int) (e:Option Nat):bT Tryz.prog [] Tryz.f66 [.agg #[.slice a b c,.int .u32 d],.map e]=Cv a b c d e:=ax
def xC (a:Xac) (b c:Nat):T :=
 T.new [.slice a b c] 44 fun d =>
 T.ah d [.slice 100] fun e f g =>
 bK 63 [.slice e f g] false [(false,[.map 9 4])] fun h =>
 T.ah d [.slice 100] fun i j k =>
 T.loop [dh,aR,aR,aR] [bj,vI 0,vI 0,vI 0] fun l m n o p q =>
 bH q j
 (bf q j i fun r =>
 T.ah (r.add (aP q 3)) [.string,.slice 117,.int .u32] fun s t u v w =>
 T.new [bY,bj,aG 0] 100 fun x =>
 T.aC x [.string s,.slice t u v,aG w] <|
 T.ah x [.string] fun y =>
 dN (Instr.lookup 58 (.map h) (.string y) false) fun z =>
 cond z
 (bn #[bj,vI q,vI 24])
 (T.again 0 [.slice l m n,vI o,vI p,bk q]))
 (T.ah d [.slice 100] fun r s t =>
 bK 64 [.slice r s t] false [(false,[.map 9 3])] fun u =>
 T.new [.map none] 89 fun v =>
 T.aC v [.map u] <|
 bU (Instr.makeMap 149 none) false [(false,[.map 0 0])] fun w =>
 T.new [.map none] 149 fun x =>
 T.aC x [.map w] <|
 T.new [.nilFunc] 150 fun y =>
 T.aC y [.func (Fn.func 65) #[] #[.pointer (some x),.pointer (some d),.pointer (some v),.pointer (some y)]] <|
 T.ah d [.slice 100] fun z A B =>
 T.loop [dh,aR] [bj,vI 0] fun C D E F =>
 bH F A
 (bf F A z fun G =>
 T.ah (G.add (aP F 3)) [.string,.slice 117,.int .u32] fun H I J K L =>
 T.new [bY,bj,aG 0] 100 fun M =>
 T.aC M [.string H,.slice I J K,aG L] <|
 T.ah y [.func #[9] #[69] false] fun (N:Xab) =>
 T.ah M [.string] fun O =>
 T.tj Tryz.prog N [.string O] false [(true,(yL 117))] fun P Q R S =>
 T.new [bj,aG 0] 69 fun U =>
 T.aC U [.slice P Q R,aG S] <|
 T.ah M [.string] fun V =>
 T.ah U [.slice 117] fun W X Y =>
 T.ah (U.add 1) [.int .u32] fun Z =>
 bK 42 [.slice W X Y] false [(false,[.slice 117])] fun a0 a1 a2 =>
 T.bi [((U.add 1),[aG Z]),(M,[.string V])] <|
 br (Instr.buildSlice 44 1 #[(0,.agg #[.string V,.slice a0 a1 a2,aG Z])]) fun a3 a4 a5 =>
 T.bi [((U.add 1),[aG Z]),(U,[.slice W X Y]),(M,[.string V])] <|
 br (Builtin.append_ #[44,44] 44 #[.slice C D E,.slice a3 a4 a5]) fun a6 a7 a8 =>
 T.bi [((U.add 1),[aG Z]),(U,[.slice W X Y]),(M,[.string V])] <|
 T.again 1 [.slice a6 a7 a8,bk F])
 (bn #[.slice C D E,vI 0,vI 0]))
def AP (a:Xac) (b c:Nat):bT Tryz.prog [] Tryz.f37 [.slice a b c]=xC a b c:=ax
def Cl (a:Xac) (b c:Nat) (d:Int) (e:Xac) (f g:Nat):T :=
 T.new [.slice a b c,aG d] 69 fun h =>
 T.new [bj,aG 0] 69 fun i =>
 bU (Instr.makeMap 149 none) false [(false,[.map 0 0])] fun j =>
 T.loop [aR] [vI 0] fun k =>
 bH k f
 (bf k f e fun l =>
 T.ah (l.add (aP k 3)) [.string,.slice 117,.int .u32] fun m n o p q =>
 T.new [bY,bj,aG 0] 100 fun r =>
 T.aC r [.string m,.slice n o p,aG q] <|
 T.ah r [.string] fun s =>
 T.ah (r.add 1) (yL 117) fun t u v w =>
 T.et Tryz.prog (Instr.mapUpdate 149 (.map j) (.string s) (.agg #[.slice t u v,aG w])) <|
 T.again 0 [bk k])
 (T.ah h (yL 117) fun l m n o =>
 bK 66 [.agg #[.slice l m n,aG o],.map j] false [(true,(yL 117))] fun p q r s =>
 bK 67 [.agg #[.slice p q r,aG s],.agg #[bj,aG 0]] false [(true,(yL 117))] fun t u v w =>
 T.aC i [.slice t u v,aG w] <|
 T.ah i (yL 117) fun x y z A =>
 T.ret (.agg #[.slice x y z,aG A]))
def Dq (a:Xac) (b c:Nat) (d:Int) (e:Xac) (f g:Nat):bT Tryz.prog [] Tryz.f38 [.agg #[.slice a b c,.int .u32 d],.slice e f g]=Cl a b c d e f g:=ax
def eP (a:Xac) (b c:Nat) (d:Xaa):T :=
 T.loop [aR,aR] [vI 0,vI 0] fun e f =>
 bH f b
 (bf f b a fun g =>
 T.ah (g.add (aP f 1)) [.string] fun h =>
 cond ((ByteArray.toList d)==(ByteArray.toList h))
 (T.ret (vI f))
 (T.again 0 [vI e,bk f]))
 (T.ret (vI (-1:Int)))
def ic (a:Xac) (b c:Nat) (d:Xaa):bT Tryz.prog [] Tryz.f91 [.slice a b c,.string d]=eP a b c d:=ax
def jt (a:Xaa) (b:Xax) (c:Xax) (d:Xax) (e:Xax) (f:Xax) (g:Xax) (h:Xax) (i:Xax):T :=
 T.ah b [.map 9 3] fun j =>
 T.ah b [.map 9 3] fun k =>
 bU (Builtin.len_ #[89] 3 #[.map k]) false [aR] fun l =>
 T.et Tryz.prog (Instr.mapUpdate 89 (.map j) (.string a) (bk l)) <|
 T.ah c [.map 9 3] fun m =>
 T.ah b [.map 9 3] fun n =>
 bU (Instr.lookup 89 (.map n) (.string a) false) false [aR] fun o =>
 T.et Tryz.prog (Instr.mapUpdate 89 (.map m) (.string a) (vI o)) <|
 T.ah d [.slice 9] fun p q r =>
 br (Instr.buildSlice 45 1 #[(0,.string a)]) fun s t u =>
 br (Builtin.append_ #[45,45] 45 #[.slice p q r,.slice s t u]) fun v w x =>
 T.aC d [.slice v w x] <|
 T.ah e [.map 9 4] fun y =>
 T.et Tryz.prog (Instr.mapUpdate 58 (.map y) (.string a) (.bool true)) <|
 T.ah f [.slice 100] fun z A B =>
 T.ah g [.map 9 3] fun C =>
 bU (Instr.lookup 89 (.map C) (.string a) false) false [aR] fun D =>
 bf D A z fun E =>
 T.ah ((E.add (aP D 3)).add 1) [.slice 117] fun F G H =>
 T.loop [aR] [vI 0] fun I =>
 bH I G
 (bf I G F fun J =>
 T.ah (J.add (aP I 2)) [.string,.int .u32] fun K L =>
 T.new [bY,aG 0] 117 fun M =>
 T.aC M [.string K,aG L] <|
 T.ah g [.map 9 3] fun N =>
 T.ah M [.string] fun O =>
 bU (Instr.lookup 89 (.map N) (.string O) true) true [aR,cn] fun P Q =>
 cond (!Q)
 (T.again 0 [bk I])
 (T.ah M [.string] fun R =>
 cond ((ByteArray.toList R)==(ByteArray.toList a))
 (T.ah h [.map 9 4] fun S =>
 T.et Tryz.prog (Instr.mapUpdate 58 (.map S) (.string a) (.bool true)) <|
 T.ah b [.map 9 3] fun U =>
 T.ah M [.string] fun V =>
 bU (Instr.lookup 89 (.map U) (.string V) false) false [aR] fun W =>
 cond (W==(0:Int))
 (T.ah i [.func #[9] #[] false] fun (X:Xab) =>
 T.ah M [.string] fun Y =>
 T.tj Tryz.prog X [.string Y] true [] <| T.ah c [.map 9 3] fun Z =>
 T.ah c [.map 9 3] fun a0 =>
 bU (Instr.lookup 89 (.map a0) (.string a) false) false [aR] fun a1 =>
 T.ah c [.map 9 3] fun a2 =>
 T.ah M [.string] fun a3 =>
 bU (Instr.lookup 89 (.map a2) (.string a3) false) false [aR] fun a4 =>
 bU (Builtin.min_ #[3,3] 3 #[vI a1,vI a4]) false [aR] fun a5 =>
 T.et Tryz.prog (Instr.mapUpdate 89 (.map Z) (.string a) (vI a5)) <|
 T.again 0 [bk I])
 (T.ah e [.map 9 4] fun X =>
 T.ah M [.string] fun Y =>
 dN (Instr.lookup 58 (.map X) (.string Y) false) fun Z =>
 cond Z
 (T.ah c [.map 9 3] fun a0 =>
 T.ah c [.map 9 3] fun a1 =>
 bU (Instr.lookup 89 (.map a1) (.string a) false) false [aR] fun a2 =>
 T.ah b [.map 9 3] fun a3 =>
 T.ah M [.string] fun a4 =>
 bU (Instr.lookup 89 (.map a3) (.string a4) false) false [aR] fun a5 =>
 bU (Builtin.min_ #[3,3] 3 #[vI a2,vI a5]) false [aR] fun a6 =>
 T.et Tryz.prog (Instr.mapUpdate 89 (.map a0) (.string a) (vI a6)) <|
 T.again 0 [bk I])
 (T.again 0 [bk I])))
 (T.ah b [.map 9 3] fun S =>
 T.ah M [.string] fun U =>
 bU (Instr.lookup 89 (.map S) (.string U) false) false [aR] fun V =>
 cond (V==(0:Int))
 (T.ah i [.func #[9] #[] false] fun (W:Xab) =>
 T.ah M [.string] fun X =>
 T.tj Tryz.prog W [.string X] true [] <| T.ah c [.map 9 3] fun Y =>
 T.ah c [.map 9 3] fun Z =>
 bU (Instr.lookup 89 (.map Z) (.string a) false) false [aR] fun a0 =>
 T.ah c [.map 9 3] fun a1 =>
 T.ah M [.string] fun a2 =>
 bU (Instr.lookup 89 (.map a1) (.string a2) false) false [aR] fun a3 =>
 bU (Builtin.min_ #[3,3] 3 #[vI a0,vI a3]) false [aR] fun a4 =>
 T.et Tryz.prog (Instr.mapUpdate 89 (.map Y) (.string a) (vI a4)) <|
 T.again 0 [bk I])
 (T.ah e [.map 9 4] fun W =>
 T.ah M [.string] fun X =>
 dN (Instr.lookup 58 (.map W) (.string X) false) fun Y =>
 cond Y
 (T.ah c [.map 9 3] fun Z =>
 T.ah c [.map 9 3] fun a0 =>
 bU (Instr.lookup 89 (.map a0) (.string a) false) false [aR] fun a1 =>
 T.ah b [.map 9 3] fun a2 =>
 T.ah M [.string] fun a3 =>
 bU (Instr.lookup 89 (.map a2) (.string a3) false) false [aR] fun a4 =>
 bU (Builtin.min_ #[3,3] 3 #[vI a1,vI a4]) false [aR] fun a5 =>
 T.et Tryz.prog (Instr.mapUpdate 89 (.map Z) (.string a) (vI a5)) <|
 T.again 0 [bk I])
 (T.again 0 [bk I])))))
 (T.ah c [.map 9 3] fun J =>
 bU (Instr.lookup 89 (.map J) (.string a) false) false [aR] fun K =>
 T.ah b [.map 9 3] fun L =>
 bU (Instr.lookup 89 (.map L) (.string a) false) false [aR] fun M =>
 cond (decide (K<M))
 (bn #[])
 (T.ah d [.slice 9] fun N O P =>
 cH 91 [.slice N O P,.string a] fun Q =>
 T.ah d [.slice 9] fun R S U =>
 T.need (((0:Int)<=Q)/\((Q<=(S:Int))/\((S:Int)<=(U:Int)))) <|
 T.loop [aR] [vI 0] fun V =>
 cond (decide (V<((((Int.toNat (S:Int))-(Int.toNat Q)):Nat):Int)))
 (T.need (((0:Int)<=V)/\(V<((((Int.toNat (S:Int))-(Int.toNat Q)):Nat):Int))) <|
 T.bG (if (U=(Int.toNat Q)) then R else (Option.map (fun W=>Addr.add W (aP Q 1)) R)) fun W =>
 T.ah (W.add (aP V 1)) [.string] fun X =>
 T.ah e [.map 9 4] fun Y =>
 T.et Tryz.prog (Instr.mapUpdate 58 (.map Y) (.string X) (.bool false)) <|
 T.ah h [.map 9 4] fun Z =>
 T.ah h [.map 9 4] fun a0 =>
 dN (Instr.lookup 58 (.map a0) (.string X) false) fun a1 =>
 cond a1
 (T.et Tryz.prog (Instr.mapUpdate 58 (.map Z) (.string X) (.bool true)) <|
 T.again 1 [bk V])
 (T.ah d [.slice 9] fun a2 a3 a4 =>
 T.et Tryz.prog (Instr.mapUpdate 58 (.map Z) (.string X) (.bool (decide ((bt ((a3:Int)-Q))>(1:Int))))) <|
 T.again 1 [bk V]))
 (T.ah d [.slice 9] fun W X Y =>
 T.need (((0:Int)<=(0:Int))/\(((0:Int)<=Q)/\(Q<=(Y:Int)))) <|
 T.aC d [.slice (if (Y=0) then W else (Option.map (fun Z=>Addr.add Z 0) W)) ((Int.toNat Q)-0) (Y-0)] <|
 bn #[])))
def nw (a:Xaa) (b:Xax) (c:Xax) (d:Xax) (e:Xax) (f:Xax) (g:Xax) (h:Xax) (i:Xax):bT Tryz.prog [] Tryz.f90 [.string a,.pointer (some b),.pointer (some c),.pointer (some d),.pointer (some e),.pointer (some f),.pointer (some g),.pointer (some h),.pointer (some i)]=jt a b c d e f g h i:=ax
def kF (a:Xaa) (b:Xax) (c:Xax) (d:Xax) (e:Xax):T :=
 T.new [bj,aG 0] 69 fun f =>
 T.ah b [.map 9 69] fun g =>
 bU (Instr.lookup 149 (.map g) (.string a) true) true [(true,(yL 117)),cn] fun h i j k l =>
 T.new [bj,aG 0] 69 fun m =>
 T.aC m [.slice h i j,aG k] <|
 cond l
 (T.ah m (yL 117) fun n o p q =>
 T.aC f [.slice n o p,aG q] <|
 T.ah f (yL 117) fun r s t u =>
 T.ret (.agg #[.slice r s t,aG u]))
 (T.ah c [.slice 100] fun n o p =>
 T.ah d [.map 9 3] fun q =>
 bU (Instr.lookup 89 (.map q) (.string a) false) false [aR] fun r =>
 bf r o n fun s =>
 T.ah ((s.add (aP r 3)).add 1) (yL 117) fun t u v w =>
 T.new [bj,aG 0] 69 fun x =>
 T.aC x [.slice t u v,aG w] <|
 T.ah x [.slice 117] fun y z A =>
 T.loop [aR] [vI 0] fun B =>
 bH B z
 (bf B z y fun C =>
 T.ah (C.add (aP B 2)) [.string,.int .u32] fun D E =>
 T.new [bY,aG 0] 117 fun F =>
 T.aC F [.string D,aG E] <|
 T.ah d [.map 9 3] fun G =>
 T.ah F [.string] fun H =>
 bU (Instr.lookup 89 (.map G) (.string H) true) true [aR,cn] fun I J =>
 cond J
 (T.ah e [.func #[9] #[69] false] fun (K:Xab) =>
 T.ah F [.string] fun L =>
 T.tj Tryz.prog K [.string L] false [(true,(yL 117))] fun M N O P =>
 T.again 0 [bk B])
 (T.again 0 [bk B]))
 (T.ah x (yL 117) fun C D E F =>
 T.ah b [.map 9 69] fun G =>
 bK 66 [.agg #[.slice C D E,aG F],.map G] false [(true,(yL 117))] fun H I J K =>
 T.aC x [.slice H I J,aG K] <|
 T.ah b [.map 9 69] fun L =>
 T.ah x (yL 117) fun M N O P =>
 T.et Tryz.prog (Instr.mapUpdate 149 (.map L) (.string a) (.agg #[.slice M N O,aG P])) <|
 T.ah x (yL 117) fun Q R S U =>
 T.aC f [.slice Q R S,aG U] <|
 T.ah f (yL 117) fun V W X Y =>
 T.ret (.agg #[.slice V W X,aG Y])))
def pu (a:Xaa) (b:Xax) (c:Xax) (d:Xax) (e:Xax):bT Tryz.prog [] Tryz.f65 [.string a,.pointer (some b),.pointer (some c),.pointer (some d),.pointer (some e)]=kF a b c d e:=ax
def ji (a:Xac) (b:Int) (c:Int):T :=
 cond (decide (b<(0:Int)))
 (T.ret (bj))
 (T.bG a fun d =>
 T.ah d [.slice 47] fun e f g =>
 cond (decide (b>=(f:Int)))
 (T.ret (bj))
 (cond (decide (c<(0:Int)))
 (T.ret (bj))
 (cond (decide (c>(1:Int)))
 (T.ret (bj))
 (T.bG a fun h =>
 T.ah h [.slice 47] fun i j k =>
 bf b j i fun l =>
 T.ah (l.add (aP b 4)) [.slice 71] fun m n o =>
 cond (c==(1:Int))
 (T.bG a fun p =>
 T.ah p [.slice 47] fun q r s =>
 bf b r q fun t =>
 T.ah ((t.add (aP b 4)).add 1) [.slice 71] fun u v w =>
 bK 41 [.slice u v w] false [(false,[.slice 71])] fun x y z =>
 T.loop [aR] [vI 0] fun A =>
 bH A y
 (bf A y x fun B =>
 T.ah ((B.add (aP A 10)).add 7) [.slice 117] fun C D E =>
 bK 42 [.slice C D E] false [(false,[.slice 117])] fun F G H =>
 bf A y x fun I =>
 T.aC ((I.add (aP A 10)).add 7) [.slice F G H] <|
 T.again 0 [bk A])
 (T.ret (.slice x y z)))
 (bK 41 [.slice m n o] false [(false,[.slice 71])] fun p q r =>
 T.loop [aR] [vI 0] fun s =>
 bH s q
 (bf s q p fun t =>
 T.ah ((t.add (aP s 10)).add 7) [.slice 117] fun u v w =>
 bK 42 [.slice u v w] false [(false,[.slice 117])] fun x y z =>
 bf s q p fun A =>
 T.aC ((A.add (aP s 10)).add 7) [.slice x y z] <|
 T.again 0 [bk s])
 (T.ret (.slice p q r)))))))
def mU (a:Xac) (b:Int) (c:Int):bT Tryz.prog [] Tryz.f22 [.pointer a,vI b,vI c]=ji a b c:=ax
def iG (a:Xac):T :=
 T.bG a fun b =>
 T.ah (b.add 1) [.slice 112] fun c d e =>
 bK 68 [.slice c d e] false [(false,[.slice 112])] fun f g h =>
 T.ret (.slice f g h)
def mi (a:Xac):bT Tryz.prog [] Tryz.f39 [.pointer a]=iG a:=ax
def jg (a:Xac):T :=
 T.bG a fun b =>
 T.ah b [.slice 47] fun c d e =>
 T.ret (vI (d:Int))
def nk (a:Xac):bT Tryz.prog [] Tryz.f21 [.pointer a]=jg a:=ax
def eb (a:Xac) (b c:Nat):T :=
 cond (/-?Option.isSome.match_1-/ match a with
 | some val=>false
 | none=>true)
 (T.ret (bj))
 (br (Instr.buildSlice 43 0 #[]) fun d e f =>
 br (Builtin.append_ #[43,43] 43 #[.slice d e f,.slice a b c]) fun g h i =>
 T.ret (.slice g h i))
def fV (a:Xac) (b c:Nat):bT Tryz.prog [] Tryz.f41 [.slice a b c]=eb a b c:=ax
def ee (a:Xac) (b c:Nat):T :=
 cond (/-?Option.isSome.match_1-/ match a with
 | some val=>false
 | none=>true)
 (T.ret (bj))
 (br (Instr.buildSlice 66 0 #[]) fun d e f =>
 br (Builtin.append_ #[66,66] 66 #[.slice d e f,.slice a b c]) fun g h i =>
 T.ret (.slice g h i))
def fT (a:Xac) (b c:Nat):bT Tryz.prog [] Tryz.f42 [.slice a b c]=ee a b c:=ax
def dB (a:Xac) (b c:Nat):T :=
 cond (/-?Option.isSome.match_1-/ match a with
 | some val=>false
 | none=>true)
 (T.ret (bj))
 (br (Instr.buildSlice 90 0 #[]) fun d e f =>
 br (Builtin.append_ #[90,90] 90 #[.slice d e f,.slice a b c]) fun g h i =>
 T.ret (.slice g h i))
def fv (a:Xac) (b c:Nat):bT Tryz.prog [] Tryz.f68 [.slice a b c]=dB a b c:=ax
end Go.Sx
