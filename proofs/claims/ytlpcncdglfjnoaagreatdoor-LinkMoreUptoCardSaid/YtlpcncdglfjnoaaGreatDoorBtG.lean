/- Trees of functions, each checked by the kernel against the code. No condition. -/
import Derived.Test.YtlpcncdglfjnoaaGreatDoorSxF
import Derived.Test.YtlpcncdglfjnoaaGreatDoorProg
import Derived.KernelRfl
set_option linter.all false
set_option maxRecDepth 100000
set_option maxHeartbeats 4000000
namespace Go.Sx
open Go.Proofs
def gb (a:Int) (b:Int) (c:Int) (d:Int) (e:Int):T :=
 T.new [vI a,vI b,vI c,.int .i32 d,vI e] 62 fun f =>
 T.ah f [.int .i64] fun g =>
 cD 96 [vI g] fun h =>
 T.join [aM,aM]
 (cond (h==(2:Int))
 (cond (h==(2:Int))
 (T.again 0 [vI 8,vI 0])
 (cond (h==(3:Int))
 (T.again 0 [vI 4,vI 0])
 (cond (h==(4:Int))
 (T.again 0 [vI 8,vI 8])
 (cond (h==(5:Int))
 (T.again 0 [vI 4,vI 4])
 (cond (h==(6:Int))
 (T.again 0 [vI 8,vI 4])
 (cond (h==(7:Int))
 (T.again 0 [vI 4,vI 8])
 (T.again 0 [vI 0,vI 0])))))))
 (cond (h==(8:Int))
 (cond (h==(8:Int))
 (T.again 0 [vI 8,vI 0])
 (cond (h==(3:Int))
 (T.again 0 [vI 4,vI 0])
 (cond (h==(4:Int))
 (T.again 0 [vI 8,vI 8])
 (cond (h==(5:Int))
 (T.again 0 [vI 4,vI 4])
 (cond (h==(6:Int))
 (T.again 0 [vI 8,vI 4])
 (cond (h==(7:Int))
 (T.again 0 [vI 4,vI 8])
 (T.again 0 [vI 0,vI 0])))))))
 (cond (h==(10:Int))
 (cond (h==(10:Int))
 (T.again 0 [vI 8,vI 0])
 (cond (h==(3:Int))
 (T.again 0 [vI 4,vI 0])
 (cond (h==(4:Int))
 (T.again 0 [vI 8,vI 8])
 (cond (h==(5:Int))
 (T.again 0 [vI 4,vI 4])
 (cond (h==(6:Int))
 (T.again 0 [vI 8,vI 4])
 (cond (h==(7:Int))
 (T.again 0 [vI 4,vI 8])
 (T.again 0 [vI 0,vI 0])))))))
 (cond (h==(11:Int))
 (cond (h==(11:Int))
 (T.again 0 [vI 8,vI 0])
 (cond (h==(3:Int))
 (T.again 0 [vI 4,vI 0])
 (cond (h==(4:Int))
 (T.again 0 [vI 8,vI 8])
 (cond (h==(5:Int))
 (T.again 0 [vI 4,vI 4])
 (cond (h==(6:Int))
 (T.again 0 [vI 8,vI 4])
 (cond (h==(7:Int))
 (T.again 0 [vI 4,vI 8])
 (T.again 0 [vI 0,vI 0])))))))
 (cond (h==(13:Int))
 (T.again 0 [vI 8,vI 0])
 (cond (h==(3:Int))
 (T.again 0 [vI 4,vI 0])
 (cond (h==(4:Int))
 (T.again 0 [vI 8,vI 8])
 (cond (h==(5:Int))
 (T.again 0 [vI 4,vI 4])
 (cond (h==(6:Int))
 (T.again 0 [vI 8,vI 4])
 (cond (h==(7:Int))
 (T.again 0 [vI 4,vI 8])
 (T.again 0 [vI 0,vI 0]))))))))))) fun i j =>
 T.ah (f.add 1) [.int .i64] fun k =>
 cond (decide (k<(0:Int)))
 bt
 (T.ah (f.add 2) [.int .i64] fun l =>
 cond (decide (l<(0:Int)))
 bt
 (T.ah (f.add 1) [.int .i64] fun m =>
 cond (decide (m>=i))
 (cond (decide (i>(0:Int)))
 bt
 (T.ah (f.add 1) [.int .i64] fun n =>
 cond (n != (0:Int))
 bt
 (T.ah (f.add 2) [.int .i64] fun o =>
 cond (decide (o>=j))
 (cond (decide (j>(0:Int)))
 bt
 (T.ah (f.add 2) [.int .i64] fun p =>
 cond (p != (0:Int))
 bt
 (cond (h != (7:Int))
 dH
 (T.ah (f.add 3) [.int .i32] fun q =>
 cond (decide (q>=(0:Int)))
 (T.ah (f.add 3) [.int .i32] fun r =>
 T.ret (.bool (decide (r<=(7:Int)))))
 bt))))
 (cond (h != (7:Int))
 dH
 (T.ah (f.add 3) [.int .i32] fun p =>
 cond (decide (p>=(0:Int)))
 (T.ah (f.add 3) [.int .i32] fun q =>
 T.ret (.bool (decide (q<=(7:Int)))))
 bt)))))
 (T.ah (f.add 2) [.int .i64] fun n =>
 cond (decide (n>=j))
 (cond (decide (j>(0:Int)))
 bt
 (T.ah (f.add 2) [.int .i64] fun o =>
 cond (o != (0:Int))
 bt
 (cond (h != (7:Int))
 dH
 (T.ah (f.add 3) [.int .i32] fun p =>
 cond (decide (p>=(0:Int)))
 (T.ah (f.add 3) [.int .i32] fun q =>
 T.ret (.bool (decide (q<=(7:Int)))))
 bt))))
 (cond (h != (7:Int))
 dH
 (T.ah (f.add 3) [.int .i32] fun o =>
 cond (decide (o>=(0:Int)))
 (T.ah (f.add 3) [.int .i32] fun p =>
 T.ret (.bool (decide (p<=(7:Int)))))
 bt)))))
theorem kg (a:Int) (b:Int) (c:Int) (d:Int) (e:Int):bI Tryz.prog [1025] Tryz.f97 [.agg #[vI a,vI b,vI c,.int .i32 d,vI e]]=gb a b c d e:=ax
def gQ (a:Int) (b:ZA) (c:Int) (d:Int) (e:Int) (f:Int) (g:Int) (h:Option ZC) (i:Nat) (j:Nat) (k:Int) (l:Int):T :=
 T.new [vI a,.string b,vI c,vI d,vI e,.int .i32 f,vI g,.slice h i j,.int .u32 k,vI l] 64 fun m =>
 T.join [cd]
 (T.ah m [.int .i64] fun n =>
 cond (n==(1:Int))
 (T.ah (m.add 1) [.string] fun o =>
 aU 35 [.string o] fun p =>
 cond p
 (T.ah m [.int .i64,.string,.int .i64,.int .i64,.int .i64,.int .i32,.int .i64,.slice 66,.int .u32,.int .i64] fun q r s t u v w x y z A B =>
 aU 70 [.agg #[vI q,.string r,vI s,vI t,vI u,.int .i32 v,vI w,.slice x y z,.int .u32 A,vI B],.bool false,.bool true,.bool true,.bool true] fun C =>
 T.again 0 [.bool C])
 (T.again 0 [.bool false]))
 (cond (n==(2:Int))
 (T.ah (m.add 2) [.int .i64,.int .i64,.int .i64,.int .i32,.int .i64] fun o p q r s =>
 T.new [vI 0,vI 0,vI 0,.int .i32 0,vI 0] 62 fun t =>
 T.aC t [vI o,vI p,vI q,.int .i32 r,vI s] <|
 T.ah (t.add 4) [.int .i64] fun u =>
 T.join []
 (T.ah t [.int .i64] fun v =>
 aU 71 [vI v] fun w =>
 cond w
 (T.aC (t.add 4) [vI 1] <|
 T.again 1 [])
 (T.again 1 [])) <| T.join [cd]
 (cond (u==(0:Int))
 (T.ah t [.int .i64,.int .i64,.int .i64,.int .i32,.int .i64] fun v w x y z =>
 cD 72 [.agg #[vI v,vI w,vI x,.int .i32 y,vI z]] fun A =>
 cond (A==(0:Int))
 (T.ah m [.int .i64,.string,.int .i64,.int .i64,.int .i64,.int .i32,.int .i64,.slice 66,.int .u32,.int .i64] fun B C D E F G H I J K L M =>
 aU 70 [.agg #[vI B,.string C,vI D,vI E,vI F,.int .i32 G,vI H,.slice I J K,.int .u32 L,vI M],.bool true,.bool false,.bool false,.bool true] fun N =>
 T.again 1 [.bool N])
 (T.again 1 [.bool false]))
 (T.again 1 [.bool false])) fun v =>
 T.ah t [.int .i64] fun w =>
 aU 73 [vI w] fun x =>
 cond x
 (cond v
 (T.ah (t.add 3) [.int .i32] fun y =>
 cond (y==(0:Int))
 (T.ah (m.add 7) [.slice 66,.int .u32] fun z A B C =>
 aU 36 [.agg #[.slice z A B,.int .u32 C]] fun D =>
 T.again 0 [.bool D])
 (T.again 0 [.bool false]))
 (T.again 0 [.bool false]))
 (cond v
 (T.ah m [.int .i64,.string,.int .i64,.int .i64,.int .i64,.int .i32,.int .i64,.slice 66,.int .u32,.int .i64] fun y z A B C D E F G H I J =>
 aU 70 [.agg #[vI y,.string z,vI A,vI B,vI C,.int .i32 D,vI E,.slice F G H,.int .u32 I,vI J],.bool false,.bool false,.bool true,.bool false] fun K =>
 T.again 0 [.bool K])
 (T.again 0 [.bool false])))
 (cond (n==(3:Int))
 (T.ah (m.add 9) [.int .i64] fun o =>
 aU 74 [vI o] fun p =>
 cond p
 (T.ah m [.int .i64,.string,.int .i64,.int .i64,.int .i64,.int .i32,.int .i64,.slice 66,.int .u32,.int .i64] fun q r s t u v w x y z A B =>
 aU 70 [.agg #[vI q,.string r,vI s,vI t,vI u,.int .i32 v,vI w,.slice x y z,.int .u32 A,vI B],.bool true,.bool true,.bool true,.bool false] fun C =>
 T.again 0 [.bool C])
 (T.again 0 [.bool false]))
 (cond (n==(4:Int))
 (T.ah m [.int .i64,.string,.int .i64,.int .i64,.int .i64,.int .i32,.int .i64,.slice 66,.int .u32,.int .i64] fun o p q r s t u v w x y z =>
 aU 70 [.agg #[vI o,.string p,vI q,vI r,vI s,.int .i32 t,vI u,.slice v w x,.int .u32 y,vI z],.bool true,.bool true,.bool true,.bool true] fun A =>
 T.again 0 [.bool A])
 (cond (n==(5:Int))
 (T.again 0 [.bool false])
 (cond (n==(6:Int))
 (T.again 0 [.bool false])
 (cond (n==(7:Int))
 (T.again 0 [.bool false])
 (T.again 0 [.bool false])))))))) fun n =>
 cond (!n)
 (T.ret (vI 31))
 (T.ret (vI 0))
theorem kV (a:Int) (b:ZA) (c:Int) (d:Int) (e:Int) (f:Int) (g:Int) (h:Option ZC) (i:Nat) (j:Nat) (k:Int) (l:Int):bI Tryz.prog [1012,1013,1026] Tryz.f34 [.agg #[vI a,.string b,vI c,vI d,vI e,.int .i32 f,vI g,.slice h i j,.int .u32 k,vI l],vI 0]=gQ a b c d e f g h i j k l:=ax
def gK (a:Int) (b:ZA) (c:Int) (d:Int) (e:Int) (f:Int) (g:Int) (h:Option ZC) (i:Nat) (j:Nat) (k:Int) (l:Int):T :=
 T.new [vI a,.string b,vI c,vI d,vI e,.int .i32 f,vI g,.slice h i j,.int .u32 k,vI l] 64 fun m =>
 T.join [cd]
 (T.ah m [.int .i64] fun n =>
 cond (n==(1:Int))
 (T.ah (m.add 1) [.string] fun o =>
 aU 35 [.string o] fun p =>
 cond p
 (T.ah m [.int .i64,.string,.int .i64,.int .i64,.int .i64,.int .i32,.int .i64,.slice 66,.int .u32,.int .i64] fun q r s t u v w x y z A B =>
 aU 70 [.agg #[vI q,.string r,vI s,vI t,vI u,.int .i32 v,vI w,.slice x y z,.int .u32 A,vI B],.bool false,.bool true,.bool true,.bool true] fun C =>
 T.again 0 [.bool C])
 (T.again 0 [.bool false]))
 (cond (n==(2:Int))
 (T.ah (m.add 2) [.int .i64,.int .i64,.int .i64,.int .i32,.int .i64] fun o p q r s =>
 T.new [vI 0,vI 0,vI 0,.int .i32 0,vI 0] 62 fun t =>
 T.aC t [vI o,vI p,vI q,.int .i32 r,vI s] <|
 T.ah (t.add 4) [.int .i64] fun u =>
 T.join []
 (T.ah t [.int .i64] fun v =>
 aU 71 [vI v] fun w =>
 cond w
 (T.aC (t.add 4) [vI 1] <|
 T.again 1 [])
 (T.again 1 [])) <| T.join [cd]
 (T.again 1 [.bool false]) fun v =>
 T.ah t [.int .i64] fun w =>
 aU 73 [vI w] fun x =>
 cond x
 (cond v
 (T.ah (t.add 3) [.int .i32] fun y =>
 cond (y==(0:Int))
 (T.ah (m.add 7) [.slice 66,.int .u32] fun z A B C =>
 aU 36 [.agg #[.slice z A B,.int .u32 C]] fun D =>
 T.again 0 [.bool D])
 (T.again 0 [.bool false]))
 (T.again 0 [.bool false]))
 (cond v
 (T.ah m [.int .i64,.string,.int .i64,.int .i64,.int .i64,.int .i32,.int .i64,.slice 66,.int .u32,.int .i64] fun y z A B C D E F G H I J =>
 aU 70 [.agg #[vI y,.string z,vI A,vI B,vI C,.int .i32 D,vI E,.slice F G H,.int .u32 I,vI J],.bool false,.bool false,.bool true,.bool false] fun K =>
 T.again 0 [.bool K])
 (T.again 0 [.bool false])))
 (cond (n==(3:Int))
 (T.ah (m.add 9) [.int .i64] fun o =>
 aU 74 [vI o] fun p =>
 cond p
 (T.ah m [.int .i64,.string,.int .i64,.int .i64,.int .i64,.int .i32,.int .i64,.slice 66,.int .u32,.int .i64] fun q r s t u v w x y z A B =>
 aU 70 [.agg #[vI q,.string r,vI s,vI t,vI u,.int .i32 v,vI w,.slice x y z,.int .u32 A,vI B],.bool true,.bool true,.bool true,.bool false] fun C =>
 T.again 0 [.bool C])
 (T.again 0 [.bool false]))
 (cond (n==(4:Int))
 (T.again 0 [.bool false])
 (cond (n==(5:Int))
 (T.ah (m.add 9) [.int .i64] fun o =>
 cond (decide (o>=(-128:Int)))
 (T.ah (m.add 9) [.int .i64] fun p =>
 cond (decide (p<=(255:Int)))
 (T.ah m [.int .i64,.string,.int .i64,.int .i64,.int .i64,.int .i32,.int .i64,.slice 66,.int .u32,.int .i64] fun q r s t u v w x y z A B =>
 aU 70 [.agg #[vI q,.string r,vI s,vI t,vI u,.int .i32 v,vI w,.slice x y z,.int .u32 A,vI B],.bool true,.bool true,.bool true,.bool false] fun C =>
 T.again 0 [.bool C])
 (T.again 0 [.bool false]))
 (T.again 0 [.bool false]))
 (cond (n==(6:Int))
 (T.ah (m.add 7) [.slice 66,.int .u32] fun o p q r =>
 aU 36 [.agg #[.slice o p q,.int .u32 r]] fun s =>
 cond s
 (T.ah m [.int .i64,.string,.int .i64,.int .i64,.int .i64,.int .i32,.int .i64,.slice 66,.int .u32,.int .i64] fun t u v w x y z A B C D E =>
 aU 70 [.agg #[vI t,.string u,vI v,vI w,vI x,.int .i32 y,vI z,.slice A B C,.int .u32 D,vI E],.bool true,.bool true,.bool false,.bool true] fun F =>
 T.again 0 [.bool F])
 (T.again 0 [.bool false]))
 (cond (n==(7:Int))
 (T.ah (m.add 9) [.int .i64] fun o =>
 cond (decide (o>=(0:Int)))
 (T.ah (m.add 9) [.int .i64] fun p =>
 cond (decide (p<=(1048576:Int)))
 (T.ah m [.int .i64,.string,.int .i64,.int .i64,.int .i64,.int .i32,.int .i64,.slice 66,.int .u32,.int .i64] fun q r s t u v w x y z A B =>
 aU 70 [.agg #[vI q,.string r,vI s,vI t,vI u,.int .i32 v,vI w,.slice x y z,.int .u32 A,vI B],.bool true,.bool true,.bool true,.bool false] fun C =>
 T.again 0 [.bool C])
 (T.again 0 [.bool false]))
 (T.again 0 [.bool false]))
 (T.again 0 [.bool false])))))))) fun n =>
 cond (!n)
 (T.ret (vI 31))
 (T.ret (vI 0))
theorem kC (a:Int) (b:ZA) (c:Int) (d:Int) (e:Int) (f:Int) (g:Int) (h:Option ZC) (i:Nat) (j:Nat) (k:Int) (l:Int):bI Tryz.prog [1012,1013,1026] Tryz.f34 [.agg #[vI a,.string b,vI c,vI d,vI e,.int .i32 f,vI g,.slice h i j,.int .u32 k,vI l],vI 1]=gK a b c d e f g h i j k l:=ax
def sL (a:Option ZC) (b c:Nat):T :=
 T.new [.slice a b c] 27 fun d =>
 T.ah d [.slice 88] fun e f g =>
 bG 84 [.slice e f g] false [(false,[.map 9 3])] fun h =>
 T.new [.map none] 97 fun i =>
 T.aC i [.map h] <|
 bK (Instr.makeMap 142 none) false [(false,[.map 0 0])] fun j =>
 T.new [.map none] 142 fun k =>
 T.aC k [.map j] <|
 bK (Instr.makeMap 97 none) false [(false,[.map 0 0])] fun l =>
 bK (Instr.makeMap 97 none) false [(false,[.map 0 0])] fun m =>
 T.new [.map none] 97 fun n =>
 T.new [.map none] 97 fun o =>
 T.aC n [.map l] <|
 T.aC o [.map m] <|
 T.new [bd] 28 fun p =>
 bK (Instr.makeMap 142 none) false [(false,[.map 0 0])] fun q =>
 T.new [.map none] 142 fun r =>
 T.aC r [.map q] <|
 T.new [.nilFunc] 168 fun s =>
 T.aC s [.func (Fn.func 106) #[] #[.pointer (some n),.pointer (some o),.pointer (some p),.pointer (some r),.pointer (some d),.pointer (some i),.pointer (some k),.pointer (some s)]] <|
 T.ah d [.slice 88] fun t u v =>
 T.loop [aM] [vI 0] fun w =>
 bq w u
 (aZ w u t fun x =>
 T.ah (x.add (aK w 3)) [.string,.slice 66,.int .u32] fun y z A B C =>
 T.new [bS,bd,.int .u32 0] 88 fun D =>
 T.aC D [.string y,.slice z A B,.int .u32 C] <|
 T.ah n [.map 9 3] fun E =>
 T.ah D [.string] fun F =>
 bK (Instr.lookup 97 (.map E) (.string F) false) false [aM] fun G =>
 cond (G==(0:Int))
 (T.ah s [.func #[9] #[] false] fun (H:ZB) =>
 T.ah D [.string] fun I =>
 T.vA Tryz.prog H [.string I] true [] <| T.again 0 [bg w])
 (T.again 0 [bg w]))
 (T.ah k [.map 9 4] fun x =>
 T.ret (.map x))
theorem vY (a:Option ZC) (b c:Nat):bI Tryz.prog [] Tryz.f83 [.slice a b c]=sL a b c:=ax
def sG (a:Option ZC) (b c:Nat):T :=
 bK (Instr.makeMap 97 none) false [(false,[.map 0 0])] fun d =>
 T.loop [aM] [vI 0] fun e =>
 bq e b
 (aZ e b a fun f =>
 T.ah (f.add (aK e 3)) [.string,.slice 66,.int .u32] fun g h i j k =>
 T.new [bS,bd,.int .u32 0] 88 fun l =>
 T.aC l [.string g,.slice h i j,.int .u32 k] <|
 T.ah l [.string] fun m =>
 T.ec Tryz.prog (Instr.mapUpdate 97 (.map d) (.string m) (vI e)) <|
 T.again 0 [bg e])
 (T.ret (.map d))
theorem wm (a:Option ZC) (b c:Nat):bI Tryz.prog [] Tryz.f84 [.slice a b c]=sG a b c:=ax
def AP (a:Option ZC) (b c:Nat) (d:Int) (e:Option Nat):T :=
 T.new [.slice a b c,.int .u32 d] 60 fun f =>
 T.new [bd,.int .u32 0] 60 fun g =>
 bK (Instr.makeMap 170 none) false [(false,[.map 0 0])] fun h =>
 T.ah (f.add 1) [.int .u32] fun i =>
 T.ah f [.slice 66] fun j k l =>
 T.loop [(false,[.int .u32]),aM] [.int .u32 i,vI 0] fun m n =>
 bq n k
 (aZ n k j fun o =>
 T.ah (o.add (aK n 2)) [.string,.int .u32] fun p q =>
 T.new [bS,.int .u32 0] 66 fun r =>
 T.aC r [.string p,.int .u32 q] <|
 T.ah r [.string] fun s =>
 bK (Instr.lookup 147 (.map e) (.string s) true) true [(true,[.slice 66,.int .u32]),cd] fun t u v w x =>
 T.new [bd,.int .u32 0] 60 fun y =>
 T.aC y [.slice t u v,.int .u32 w] <|
 cond (!x)
 (T.ah r [.string] fun z =>
 bK (Instr.lookup 170 (.map h) (.string z) false) false [(false,[.int .u32])] fun A =>
 T.ah (r.add 1) [.int .u32] fun B =>
 T.ec Tryz.prog (Instr.mapUpdate 170 (.map h) (.string z) (.int .u32 (IntKind.wrap .u32 (A+B)))) <|
 T.again 0 [.int .u32 m,bg n])
 (T.ah y [.slice 66] fun z A B =>
 T.loop [aM] [vI 0] fun C =>
 bq C A
 (aZ C A z fun D =>
 T.ah (D.add (aK C 2)) [.string,.int .u32] fun E F =>
 T.new [bS,.int .u32 0] 66 fun G =>
 T.aC G [.string E,.int .u32 F] <|
 T.ah G [.string] fun H =>
 bK (Instr.lookup 170 (.map h) (.string H) false) false [(false,[.int .u32])] fun I =>
 T.ah (r.add 1) [.int .u32] fun J =>
 T.ah (G.add 1) [.int .u32] fun K =>
 T.ec Tryz.prog (Instr.mapUpdate 170 (.map h) (.string H) (.int .u32 (IntKind.wrap .u32 (I+(IntKind.wrap .u32 (J*K)))))) <|
 T.again 1 [bg C])
 (T.ah (r.add 1) [.int .u32] fun D =>
 T.ah (y.add 1) [.int .u32] fun E =>
 T.again 0 [.int .u32 (IntKind.wrap .u32 (m+(IntKind.wrap .u32 (D*E)))),bg n])))
 (T.new [bd,.int .u32 0] 60 fun o =>
 T.aC o [bd,.int .u32 m] <|
 bG 109 [.map h] false [(false,[.func #[86] #[] false])] fun (p:ZB) =>
 bG 108 [p] false [(false,[.slice 9])] fun q r s =>
 T.loop [aM] [vI 0] fun t =>
 bq t r
 (aZ t r q fun u =>
 T.ah (u.add (aK t 1)) [.string] fun v =>
 bK (Instr.lookup 170 (.map h) (.string v) false) false [(false,[.int .u32])] fun w =>
 cond (w != (0:Int))
 (T.ah o [.slice 66] fun x y z =>
 bK (Instr.lookup 170 (.map h) (.string v) false) false [(false,[.int .u32])] fun A =>
 bh (Instr.buildSlice 57 1 #[(0,.agg #[.string v,.int .u32 A])]) fun B C D =>
 bh (Builtin.append_ #[57,57] 57 #[.slice x y z,.slice B C D]) fun E F G =>
 T.aC o [.slice E F G] <|
 T.again 1 [bg t])
 (T.again 1 [bg t]))
 (T.ah o [.slice 66,.int .u32] fun u v w x =>
 T.aC g [.slice u v w,.int .u32 x] <|
 T.ah g [.slice 66,.int .u32] fun y z A B =>
 T.ret (.agg #[.slice y z A,.int .u32 B])))
theorem CX (a:Option ZC) (b c:Nat) (d:Int) (e:Option Nat):bI Tryz.prog [] Tryz.f86 [.agg #[.slice a b c,.int .u32 d],.map e]=AP a b c d e:=ax
def xf (a:Option ZC) (b c:Nat):T :=
 T.new [.slice a b c] 27 fun d =>
 T.ah d [.slice 88] fun e f g =>
 bG 83 [.slice e f g] false [(false,[.map 9 4])] fun h =>
 T.ah d [.slice 88] fun i j k =>
 T.loop [db,aM,aM,aM] [bd,vI 0,vI 0,vI 0] fun l m n o p q =>
 bq q j
 (aZ q j i fun r =>
 T.ah (r.add (aK q 3)) [.string,.slice 66,.int .u32] fun s t u v w =>
 T.new [bS,bd,.int .u32 0] 88 fun x =>
 T.aC x [.string s,.slice t u v,.int .u32 w] <|
 T.ah x [.string] fun y =>
 dQ (Instr.lookup 142 (.map h) (.string y) false) fun z =>
 cond z
 (T.ret (.tuple #[bd,vI q,vI 24]))
 (T.again 0 [.slice l m n,vI o,vI p,bg q]))
 (T.ah d [.slice 88] fun r s t =>
 bG 84 [.slice r s t] false [(false,[.map 9 3])] fun u =>
 T.new [.map none] 97 fun v =>
 T.aC v [.map u] <|
 bK (Instr.makeMap 147 none) false [(false,[.map 0 0])] fun w =>
 T.new [.map none] 147 fun x =>
 T.aC x [.map w] <|
 T.new [.nilFunc] 148 fun y =>
 T.aC y [.func (Fn.func 85) #[] #[.pointer (some x),.pointer (some d),.pointer (some v),.pointer (some y)]] <|
 T.ah d [.slice 88] fun z A B =>
 T.loop [db,aM] [bd,vI 0] fun C D E F =>
 bq F A
 (aZ F A z fun G =>
 T.ah (G.add (aK F 3)) [.string,.slice 66,.int .u32] fun H I J K L =>
 T.new [bS,bd,.int .u32 0] 88 fun M =>
 T.aC M [.string H,.slice I J K,.int .u32 L] <|
 T.ah y [.func #[9] #[60] false] fun (N:ZB) =>
 T.ah M [.string] fun O =>
 T.vA Tryz.prog N [.string O] false [(true,[.slice 66,.int .u32])] fun P Q R S =>
 T.new [bd,.int .u32 0] 60 fun U =>
 T.aC U [.slice P Q R,.int .u32 S] <|
 T.ah M [.string] fun V =>
 T.ah U [.slice 66] fun W X Y =>
 T.ah (U.add 1) [.int .u32] fun Z =>
 bG 54 [.slice W X Y] false [(false,[.slice 66])] fun a0 a1 a2 =>
 T.bf [((U.add 1),[.int .u32 Z]),(M,[.string V])] <|
 bh (Instr.buildSlice 27 1 #[(0,.agg #[.string V,.slice a0 a1 a2,.int .u32 Z])]) fun a3 a4 a5 =>
 T.bf [((U.add 1),[.int .u32 Z]),(U,[.slice W X Y]),(M,[.string V])] <|
 bh (Builtin.append_ #[27,27] 27 #[.slice C D E,.slice a3 a4 a5]) fun a6 a7 a8 =>
 T.bf [((U.add 1),[.int .u32 Z]),(U,[.slice W X Y]),(M,[.string V])] <|
 T.again 1 [.slice a6 a7 a8,bg F])
 (T.ret (.tuple #[.slice C D E,vI 0,vI 0])))
theorem zS (a:Option ZC) (b c:Nat):bI Tryz.prog [] Tryz.f49 [.slice a b c]=xf a b c:=ax
def AV (a:Option ZC) (b c:Nat) (d:Int) (e:Option ZC) (f g:Nat):T :=
 T.new [.slice a b c,.int .u32 d] 60 fun h =>
 T.new [bd,.int .u32 0] 60 fun i =>
 bK (Instr.makeMap 147 none) false [(false,[.map 0 0])] fun j =>
 T.loop [aM] [vI 0] fun k =>
 bq k f
 (aZ k f e fun l =>
 T.ah (l.add (aK k 3)) [.string,.slice 66,.int .u32] fun m n o p q =>
 T.new [bS,bd,.int .u32 0] 88 fun r =>
 T.aC r [.string m,.slice n o p,.int .u32 q] <|
 T.ah r [.string] fun s =>
 T.ah (r.add 1) [.slice 66,.int .u32] fun t u v w =>
 T.ec Tryz.prog (Instr.mapUpdate 147 (.map j) (.string s) (.agg #[.slice t u v,.int .u32 w])) <|
 T.again 0 [bg k])
 (T.ah h [.slice 66,.int .u32] fun l m n o =>
 bG 86 [.agg #[.slice l m n,.int .u32 o],.map j] false [(true,[.slice 66,.int .u32])] fun p q r s =>
 bG 87 [.agg #[.slice p q r,.int .u32 s],.agg #[bd,.int .u32 0]] false [(true,[.slice 66,.int .u32])] fun t u v w =>
 T.aC i [.slice t u v,.int .u32 w] <|
 T.ah i [.slice 66,.int .u32] fun x y z A =>
 T.ret (.agg #[.slice x y z,.int .u32 A]))
theorem CK (a:Option ZC) (b c:Nat) (d:Int) (e:Option ZC) (f g:Nat):bI Tryz.prog [] Tryz.f50 [.agg #[.slice a b c,.int .u32 d],.slice e f g]=AV a b c d e f g:=ax
def ez (a:Option ZC) (b c:Nat) (d:ZA):T :=
 T.loop [aM,aM] [vI 0,vI 0] fun e f =>
 bq f b
 (aZ f b a fun g =>
 T.ah (g.add (aK f 1)) [.string] fun h =>
 cond ((ByteArray.toList d)==(ByteArray.toList h))
 (T.ret (vI f))
 (T.again 0 [vI e,bg f]))
 (T.ret (vI (-1:Int)))
theorem gI (a:Option ZC) (b c:Nat) (d:ZA):bI Tryz.prog [] Tryz.f107 [.slice a b c,.string d]=ez a b c d:=ax
end Go.Sx
