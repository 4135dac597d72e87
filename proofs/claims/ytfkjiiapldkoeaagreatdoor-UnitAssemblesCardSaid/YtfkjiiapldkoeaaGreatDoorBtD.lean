/- Trees of functions. No condition. -/
import Derived.Test.YtfkjiiapldkoeaaGreatDoorSxF
import Derived.Test.YtfkjiiapldkoeaaGreatDoorProg
import Derived.KernelRfl
set_option linter.all false
set_option maxRecDepth 100000
set_option maxHeartbeats 4000000
namespace Go.Sx
open Go.Proofs
def uc (a:Option XC) (b c:Nat):T :=
 T.new [aI,av 0] 94 fun d =>
 T.new [.slice a b c,vI 0,vI 0] 261 fun e =>
 T.new [.pointer none] 259 fun f =>
 T.ak f [.pointer (some e)] <|
 T.new [.nilFunc] 262 fun g =>
 T.new [.nilFunc] 262 fun h =>
 T.ak h [.func (Fn.func 152) #[] #[.pointer (some f),.pointer (some g)]] <|
 T.new [.nilFunc] 262 fun i =>
 T.ak i [.func (Fn.func 157) #[] #[.pointer (some h),.pointer (some f)]] <|
 T.ak g [.func (Fn.func 158) #[] #[.pointer (some i),.pointer (some f)]] <|
 T.ah g [.func #[] #[94] false] fun (j:XB) =>
 T.tV Tryz.prog j [] false [(true,(yL 109))] fun k l m n =>
 T.new [aI,av 0] 94 fun o =>
 T.ak o [.slice k l m,av n] <|
 T.ah f [.pointer 261] fun p =>
 T.aA p fun q =>
 T.ah q [.slice 178] fun r s t =>
 cond (decide ((s:Int)>(0:Int)))
 (T.ah f [.pointer 261] fun u =>
 aS 154 [.pointer u,vI 20] true [] <| T.ah f [.pointer 261] fun v =>
 T.aA v fun w =>
 T.ah (w.add 2) [.int .i64] fun x =>
 cond (x != (0:Int))
 (T.ah f [.pointer 261] fun y =>
 T.aA y fun z =>
 T.ah (z.add 2) [.int .i64] fun A =>
 T.ak d [aI,av 0] <|
 T.aT [((z.add 2),[vI A]),(f,[.pointer y])] <|
 T.ah d (yL 109) fun B C D E =>
 aw #[.agg #[.slice B C D,av E],vI A])
 (T.ah o (yL 109) fun y z A B =>
 T.ak d [.slice y z A,av B] <|
 T.ah d (yL 109) fun C D E F =>
 aw #[.agg #[.slice C D E,av F],vI 0]))
 (T.ah f [.pointer 261] fun u =>
 T.aA u fun v =>
 T.ah (v.add 2) [.int .i64] fun w =>
 cond (w != (0:Int))
 (T.ah f [.pointer 261] fun x =>
 T.aA x fun y =>
 T.ah (y.add 2) [.int .i64] fun z =>
 T.ak d [aI,av 0] <|
 T.aT [((y.add 2),[vI z]),(f,[.pointer x])] <|
 T.ah d (yL 109) fun A B C D =>
 aw #[.agg #[.slice A B C,av D],vI z])
 (T.ah o (yL 109) fun x y z A =>
 T.ak d [.slice x y z,av A] <|
 T.ah d (yL 109) fun B C D E =>
 aw #[.agg #[.slice B C D,av E],vI 0]))
def wx (a:Option XC) (b c:Nat):bD Tryz.prog [] Tryz.f130 [.slice a b c]=uc a b c:=aB
def iI (a:XC) (b:XC):T :=
 T.new [aI,av 0] 94 fun c =>
 T.loop [(false,[.int .u32])] [av 1] fun d =>
 T.ah a [.pointer 261] fun e =>
 aN 153 [.pointer e,.string ⟨#[45]⟩] fun f =>
 cond f
 (T.again 0 [av (IntKind.wrap .u32 ((0:Int)-d))])
 (T.join [bZ]
 (T.ah a [.pointer 261] fun g =>
 T.aA g fun h =>
 T.ah (h.add 2) [.int .i64] fun i =>
 cond (i != (0:Int))
 (T.again 1 [.bool true])
 (T.ah a [.pointer 261] fun j =>
 T.aA j fun k =>
 T.ah k [.slice 178] fun l m n =>
 T.again 1 [.bool ((m:Int)==(0:Int))])) fun g =>
 cond g
 (T.ah a [.pointer 261] fun h =>
 aS 154 [.pointer h,vI 20] true [] <| T.ak c [aI,av 0] <|
 T.ah c (yL 109) fun i j k l =>
 T.ret (.agg #[.slice i j k,av l]))
 (T.ah a [.pointer 261] fun h =>
 T.aA h fun i =>
 T.ah i [.slice 178] fun j k l =>
 T.need (aZ 0 k) <|
 T.aA j fun m =>
 T.ah m [.int .i64,.string,.int .u32,.int .i64] fun n o p q =>
 T.new [vI 0,bh,av 0,vI 0] 178 fun r =>
 T.ak r [vI n,.string o,av p,vI q] <|
 T.ah (r.add 1) [.string] fun s =>
 aS 81 [.string s] true [aQ,bZ,bZ] fun t u v =>
 T.new [aI,av 0] 94 fun w =>
 T.join []
 (T.join [bZ]
 (T.ah r [.int .i64] fun x =>
 cond (x==(1:Int))
 (T.again 2 [.bool v])
 (T.again 2 [.bool false])) fun x =>
 cond x
 (T.ah a [.pointer 261] fun y =>
 aS 154 [.pointer y,vI 20] true [] <| T.again 1 [])
 (T.ah r [.int .i64] fun y =>
 cond (y==(1:Int))
 (T.ah (r.add 1) [.string] fun z =>
 aS 155 [.string z] false [(true,(yL 109))] fun A B C D =>
 T.ak w [.slice A B C,av D] <|
 T.ah (w.add 1) [.int .u32] fun E =>
 T.ah (r.add 2) [.int .u32] fun F =>
 T.ak (w.add 1) [av (IntKind.wrap .u32 (E+F))] <|
 T.ah a [.pointer 261] fun G =>
 T.ah a [.pointer 261] fun H =>
 T.aA H fun I =>
 T.ah I [.slice 178] fun J K L =>
 T.need (((0:Int)<=(1:Int))/\(((1:Int)<=(K:Int))/\((K:Int)<=(L:Int)))) <|
 T.aA G fun M =>
 T.ak M [.slice (if (L=1) then J else (Option.map (fun N=>Addr.add N 4) J)) ((Int.toNat (K:Int))-1) (L-1)] <|
 T.again 1 [])
 (T.ah r [.int .i64] fun z =>
 cond (z==(2:Int))
 (T.ah (w.add 1) [.int .u32] fun A =>
 T.ah (r.add 2) [.int .u32] fun B =>
 T.ak (w.add 1) [av (IntKind.wrap .u32 (A+B))] <|
 T.ah a [.pointer 261] fun C =>
 T.ah a [.pointer 261] fun D =>
 T.aA D fun E =>
 T.ah E [.slice 178] fun F G H =>
 T.need (((0:Int)<=(1:Int))/\(((1:Int)<=(G:Int))/\((G:Int)<=(H:Int)))) <|
 T.aA C fun I =>
 T.ak I [.slice (if (H=1) then F else (Option.map (fun J=>Addr.add J 4) F)) ((Int.toNat (G:Int))-1) (H-1)] <|
 T.again 1 [])
 (T.ah a [.pointer 261] fun A =>
 aN 153 [.pointer A,.string ⟨#[40]⟩] fun B =>
 cond B
 (T.ah a [.pointer 261] fun C =>
 T.aA C fun D =>
 T.ah (D.add 1) [.int .i64] fun E =>
 T.aA C fun F =>
 T.ak (F.add 1) [bN E] <|
 T.ah a [.pointer 261] fun G =>
 T.aA G fun H =>
 T.ah (H.add 1) [.int .i64] fun I =>
 cond (decide (I>(32:Int)))
 (T.ah a [.pointer 261] fun J =>
 aS 154 [.pointer J,vI 21] true [] <| T.again 1 [])
 (T.ah b [.func #[] #[94] false] fun (J:XB) =>
 T.tV Tryz.prog J [] false [(true,(yL 109))] fun K L M N =>
 T.ak w [.slice K L M,av N] <|
 T.ah a [.pointer 261] fun O =>
 T.aA O fun P =>
 T.ah (P.add 1) [.int .i64] fun Q =>
 T.aA O fun R =>
 T.ak (R.add 1) [vI (aH (Q-(1:Int)))] <|
 T.ah a [.pointer 261] fun S =>
 aN 153 [.pointer S,.string ⟨#[41]⟩] fun U =>
 cond (!U)
 (T.ah a [.pointer 261] fun V =>
 aS 154 [.pointer V,vI 20] true [] <| T.again 1 [])
 (T.again 1 [])))
 (T.ah a [.pointer 261] fun C =>
 aS 154 [.pointer C,vI 20] true [] <| T.again 1 []))))) <| T.ah w (yL 109) fun x y z A =>
 aS 156 [.agg #[.slice x y z,av A],av d] false [(true,(yL 109))] fun B C D E =>
 T.ak c [.slice B C D,av E] <|
 T.ah c (yL 109) fun F G H I =>
 T.ret (.agg #[.slice F G H,av I])))
def mf (a:XC) (b:XC):bD Tryz.prog [4,10,1026] Tryz.f152 [.pointer (some a),.pointer (some b)]=iI a b:=aB
def jZ (a:XC) (b:XC):T :=
 T.new [aI,av 0] 94 fun c =>
 T.ah a [.func #[] #[94] false] fun (d:XB) =>
 T.tV Tryz.prog d [] false [(true,(yL 109))] fun e f g h =>
 T.new [aI,av 0] 94 fun i =>
 T.ak i [.slice e f g,av h] <|
 T.loop [] [] <| T.ah b [.pointer 261] fun j =>
 aN 153 [.pointer j,.string ⟨#[42]⟩] fun k =>
 cond k
 (T.ah a [.func #[] #[94] false] fun (l:XB) =>
 T.tV Tryz.prog l [] false [(true,(yL 109))] fun m n o p =>
 T.new [aI,av 0] 94 fun q =>
 T.ak q [.slice m n o,av p] <|
 T.ah b [.pointer 261] fun r =>
 T.aA r fun s =>
 T.ah (s.add 2) [.int .i64] fun t =>
 cond (t != (0:Int))
 (T.again 0 [])
 (T.join [bZ]
 (T.ah i [.slice 109] fun u v w =>
 cond (decide ((v:Int)>(0:Int)))
 (T.ah q [.slice 109] fun x y z =>
 T.again 1 [.bool (decide ((y:Int)>(0:Int)))])
 (T.again 1 [.bool false])) fun u =>
 cond u
 (T.ah b [.pointer 261] fun v =>
 aS 154 [.pointer v,vI 21] true [] <| T.again 0 [])
 (T.ah q [.slice 109] fun v w x =>
 cond (decide ((w:Int)>(0:Int)))
 (T.ah q (yL 109) fun y z A B =>
 T.ah (i.add 1) [.int .u32] fun C =>
 aS 156 [.agg #[.slice y z A,av B],av C] false [(true,(yL 109))] fun D E F G =>
 T.ak i [.slice D E F,av G] <|
 T.again 0 [])
 (T.ah i (yL 109) fun y z A B =>
 T.ah (q.add 1) [.int .u32] fun C =>
 aS 156 [.agg #[.slice y z A,av B],av C] false [(true,(yL 109))] fun D E F G =>
 T.ak i [.slice D E F,av G] <|
 T.again 0 []))))
 (T.ah i (yL 109) fun l m n o =>
 T.ak c [.slice l m n,av o] <|
 T.ah c (yL 109) fun p q r s =>
 T.ret (.agg #[.slice p q r,av s]))
def nO (a:XC) (b:XC):bD Tryz.prog [6] Tryz.f157 [.pointer (some a),.pointer (some b)]=jZ a b:=aB
def lj (a:XC) (b:XC):T :=
 T.new [aI,av 0] 94 fun c =>
 T.ah a [.func #[] #[94] false] fun (d:XB) =>
 T.tV Tryz.prog d [] false [(true,(yL 109))] fun e f g h =>
 T.new [aI,av 0] 94 fun i =>
 T.ak i [.slice e f g,av h] <|
 T.loop [] [] <| T.ah b [.pointer 261] fun j =>
 T.aA j fun k =>
 T.ah (k.add 2) [.int .i64] fun l =>
 cond (l==(0:Int))
 (T.ah b [.pointer 261] fun m =>
 aN 153 [.pointer m,.string ⟨#[43]⟩] fun n =>
 cond n
 (T.ah i (yL 109) fun o p q r =>
 T.ah a [.func #[] #[94] false] fun (s:XB) =>
 T.tV Tryz.prog s [] false [(true,(yL 109))] fun t u v w =>
 T.aT [(i,[.slice o p q,av r])] <|
 aS 159 [.agg #[.slice o p q,av r],.agg #[.slice t u v,av w]] false [(true,(yL 109))] fun x y z A =>
 T.aT [(a,[s])] <|
 T.ak i [.slice x y z,av A] <|
 T.again 0 [])
 (T.ah b [.pointer 261] fun o =>
 aN 153 [.pointer o,.string ⟨#[45]⟩] fun p =>
 cond p
 (T.ah i (yL 109) fun q r s t =>
 T.ah a [.func #[] #[94] false] fun (u:XB) =>
 T.tV Tryz.prog u [] false [(true,(yL 109))] fun v w x y =>
 T.aT [(i,[.slice q r s,av t])] <|
 aS 156 [.agg #[.slice v w x,av y],av 4294967295] false [(true,(yL 109))] fun z A B C =>
 T.aT [(a,[u]),(i,[.slice q r s,av t])] <|
 aS 159 [.agg #[.slice q r s,av t],.agg #[.slice z A B,av C]] false [(true,(yL 109))] fun D E F G =>
 T.aT [(a,[u])] <|
 T.ak i [.slice D E F,av G] <|
 T.again 0 [])
 (T.ah i (yL 109) fun q r s t =>
 T.ak c [.slice q r s,av t] <|
 T.ah c (yL 109) fun u v w x =>
 T.ret (.agg #[.slice u v w,av x]))))
 (T.ah i (yL 109) fun m n o p =>
 T.ak c [.slice m n o,av p] <|
 T.ah c (yL 109) fun q r s t =>
 T.ret (.agg #[.slice q r s,av t]))
def pL (a:XC) (b:XC):bD Tryz.prog [] Tryz.f158 [.pointer (some a),.pointer (some b)]=lj a b:=aB
def jk (a:Option XC) (b c:Nat):T :=
 T.new [aI,av 0] 94 fun d =>
 T.new [.slice a b c,vI 0,vI 0,vI 0] 292 fun e =>
 aS 181 [.pointer (some e)] false [(true,(yL 109))] fun f g h i =>
 T.new [aI,av 0] 94 fun j =>
 T.ak j [.slice f g h,av i] <|
 T.ah (e.add 3) [.int .i64] fun k =>
 cond (k==(0:Int))
 (T.ah (e.add 1) [.int .i64] fun l =>
 dH l b
 (aS 182 [.pointer (some e),vI 20] true [] <| T.ah (e.add 3) [.int .i64] fun m =>
 cond (m != (0:Int))
 (T.ah (e.add 3) [.int .i64] fun n =>
 T.ak d [aI,av 0] <|
 T.aT [((e.add 3),[vI n])] <|
 T.ah d (yL 109) fun o p q r =>
 aw #[.agg #[.slice o p q,av r],vI n])
 (T.ah j (yL 109) fun n o p q =>
 T.ak d [.slice n o p,av q] <|
 T.ah d (yL 109) fun r s t u =>
 aw #[.agg #[.slice r s t,av u],vI 0]))
 (T.ah (e.add 3) [.int .i64] fun m =>
 cond (m != (0:Int))
 (T.ah (e.add 3) [.int .i64] fun n =>
 T.ak d [aI,av 0] <|
 T.aT [((e.add 3),[vI n])] <|
 T.ah d (yL 109) fun o p q r =>
 aw #[.agg #[.slice o p q,av r],vI n])
 (T.ah j (yL 109) fun n o p q =>
 T.ak d [.slice n o p,av q] <|
 T.ah d (yL 109) fun r s t u =>
 aw #[.agg #[.slice r s t,av u],vI 0])))
 (T.ah (e.add 3) [.int .i64] fun l =>
 cond (l != (0:Int))
 (T.ah (e.add 3) [.int .i64] fun m =>
 T.ak d [aI,av 0] <|
 T.aT [((e.add 3),[vI m])] <|
 T.ah d (yL 109) fun n o p q =>
 aw #[.agg #[.slice n o p,av q],vI m])
 (T.ah j (yL 109) fun m n o p =>
 T.ak d [.slice m n o,av p] <|
 T.ah d (yL 109) fun q r s t =>
 aw #[.agg #[.slice q r s,av t],vI 0]))
def nD (a:Option XC) (b c:Nat):bD Tryz.prog [] Tryz.f164 [.slice a b c]=jk a b c:=aB
def fF (a:Option XC):T :=
 T.new [aI,av 0] 94 fun b =>
 aS 194 [.pointer a] false [(true,(yL 109))] fun c d e f =>
 T.new [aI,av 0] 94 fun g =>
 T.ak g [.slice c d e,av f] <|
 T.loop [] [] <| T.join [bZ]
 (aN 195 [.pointer a,.string ⟨#[43]⟩] fun h =>
 cond h
 (T.again 1 [.bool true])
 (aN 195 [.pointer a,.string ⟨#[45]⟩] fun i =>
 T.again 1 [.bool i])) fun h =>
 cond h
 (aN 195 [.pointer a,.string ⟨#[45]⟩] fun i =>
 T.aA a fun j =>
 T.ah (j.add 1) [.int .i64] fun k =>
 T.aA a fun l =>
 T.ak (l.add 1) [bN k] <|
 aS 194 [.pointer a] false [(true,(yL 109))] fun m n o p =>
 T.new [aI,av 0] 94 fun q =>
 T.ak q [.slice m n o,av p] <|
 T.join []
 (cond i
 (T.ah q (yL 109) fun r s t u =>
 aS 196 [.agg #[.slice r s t,av u],av 4294967295] false [(true,(yL 109))] fun v w x y =>
 T.ak q [.slice v w x,av y] <|
 T.again 1 [])
 (T.again 1 [])) <| T.ah g (yL 109) fun r s t u =>
 T.ah q (yL 109) fun v w x y =>
 aS 197 [.agg #[.slice r s t,av u],.agg #[.slice v w x,av y]] false [(true,(yL 109))] fun z A B C =>
 T.ak g [.slice z A B,av C] <|
 T.again 0 [])
 (T.ah g (yL 109) fun i j k l =>
 T.ak b [.slice i j k,av l] <|
 T.ah b (yL 109) fun m n o p =>
 T.ret (.agg #[.slice m n o,av p]))
def ji (a:Option XC):bD Tryz.prog [2,1008] Tryz.f181 [.pointer a]=fF a:=aB
def fx (a:Option XC):T :=
 T.new [aI,av 0] 94 fun b =>
 aS 203 [.pointer a] false [(true,(yL 109))] fun c d e f =>
 T.new [aI,av 0] 94 fun g =>
 T.ak g [.slice c d e,av f] <|
 T.loop [] [] <| aN 195 [.pointer a,.string ⟨#[42]⟩] fun h =>
 cond h
 (T.aA a fun i =>
 T.ah (i.add 1) [.int .i64] fun j =>
 T.aA a fun k =>
 T.ak (k.add 1) [bN j] <|
 aS 203 [.pointer a] false [(true,(yL 109))] fun l m n o =>
 T.new [aI,av 0] 94 fun p =>
 T.ak p [.slice l m n,av o] <|
 T.aA a fun q =>
 T.ah (q.add 3) [.int .i64] fun r =>
 cond (r != (0:Int))
 (T.ah g (yL 109) fun s t u v =>
 T.ak b [.slice s t u,av v] <|
 T.ah b (yL 109) fun w x y z =>
 T.ret (.agg #[.slice w x y,av z]))
 (T.join [bZ]
 (T.ah g [.slice 109] fun s t u =>
 cond (decide ((t:Int)>(0:Int)))
 (T.ah p [.slice 109] fun v w x =>
 T.again 1 [.bool (decide ((w:Int)>(0:Int)))])
 (T.again 1 [.bool false])) fun s =>
 cond s
 (aS 182 [.pointer a,vI 21] true [] <| T.ah g (yL 109) fun t u v w =>
 T.ak b [.slice t u v,av w] <|
 T.ah b (yL 109) fun x y z A =>
 T.ret (.agg #[.slice x y z,av A]))
 (T.ah p [.slice 109] fun t u v =>
 cond (decide ((u:Int)>(0:Int)))
 (T.ah p (yL 109) fun w x y z =>
 T.ah (g.add 1) [.int .u32] fun A =>
 aS 196 [.agg #[.slice w x y,av z],av A] false [(true,(yL 109))] fun B C D E =>
 T.ak g [.slice B C D,av E] <|
 T.again 0 [])
 (T.ah g (yL 109) fun w x y z =>
 T.ah (p.add 1) [.int .u32] fun A =>
 aS 196 [.agg #[.slice w x y,av z],av A] false [(true,(yL 109))] fun B C D E =>
 T.ak g [.slice B C D,av E] <|
 T.again 0 []))))
 (T.ah g (yL 109) fun i j k l =>
 T.ak b [.slice i j k,av l] <|
 T.ah b (yL 109) fun m n o p =>
 T.ret (.agg #[.slice m n o,av p]))
def iR (a:Option XC):bD Tryz.prog [7] Tryz.f194 [.pointer a]=fx a:=aB
def eU (a:Option XC):T :=
 T.new [aI,av 0] 94 fun b =>
 T.loop [bZ] [.bool false] fun c =>
 aN 195 [.pointer a,.string ⟨#[45]⟩] fun d =>
 cond d
 (T.aA a fun e =>
 T.ah (e.add 1) [.int .i64] fun f =>
 T.aA a fun g =>
 T.ak (g.add 1) [bN f] <|
 T.again 0 [.bool (!c)])
 (T.new [aI,av 0] 94 fun e =>
 T.join [bZ]
 (T.aA a fun f =>
 T.ah (f.add 3) [.int .i64] fun g =>
 cond (g != (0:Int))
 (T.again 1 [.bool true])
 (T.aA a fun h =>
 T.ah (h.add 1) [.int .i64] fun i =>
 T.aA a fun j =>
 T.ah j [.slice 236] fun k l m =>
 T.again 1 [.bool (decide (i>=(l:Int)))])) fun f =>
 cond f
 (aS 182 [.pointer a,vI 20] true [] <| T.ah e (yL 109) fun g h i j =>
 T.ak b [.slice g h i,av j] <|
 T.ah b (yL 109) fun k l m n =>
 T.ret (.agg #[.slice k l m,av n]))
 (T.aA a fun g =>
 T.ah g [.slice 236] fun h i j =>
 T.aA a fun k =>
 T.ah (k.add 1) [.int .i64] fun l =>
 cv l i h fun m =>
 T.ah (m.add (bW l 4)) [.int .i64,.string,.int .u32,.int .i64] fun n o p q =>
 T.new [vI 0,bh,av 0,vI 0] 236 fun r =>
 T.aT [((m.add (bW l 4)),[vI n,.string o,av p,vI q]),((k.add 1),[vI l]),(g,[.slice h i j])] <|
 T.ak r [vI n,.string o,av p,vI q] <|
 T.join []
 (T.ah r [.int .i64] fun s =>
 cond (s==(2:Int))
 (T.ah (r.add 2) [.int .u32] fun t =>
 T.ak (e.add 1) [av t] <|
 T.again 1 [])
 (T.join [bZ]
 (T.ah r [.int .i64] fun t =>
 cond (t==(1:Int))
 (T.ah (r.add 1) [.string] fun u =>
 aN 48 [.string u] fun v =>
 T.again 2 [.bool v])
 (T.again 2 [.bool false])) fun t =>
 cond t
 (T.ah (r.add 1) [.string] fun u =>
 aR (Instr.buildSlice 91 1 #[(0,.agg #[.string u,av 1])]) fun v w x =>
 T.ak e [.slice v w x] <|
 T.again 1 [])
 (T.join [bZ]
 (T.ah r [.int .i64] fun u =>
 cond (u==(3:Int))
 (T.ah (r.add 1) [.string] fun v =>
 T.again 2 [.bool ((ByteArray.toList v)==[(aJ 40#8)])])
 (T.again 2 [.bool false])) fun u =>
 cond u
 (T.aA a fun v =>
 T.ah (v.add 2) [.int .i64] fun w =>
 cond (w==(32:Int))
 (aS 182 [.pointer a,vI 21] true [] <| T.ah e (yL 109) fun x y z A =>
 T.ak b [.slice x y z,av A] <|
 T.ah b (yL 109) fun B C D E =>
 T.ret (.agg #[.slice B C D,av E]))
 (T.aA a fun x =>
 T.ah (x.add 2) [.int .i64] fun y =>
 T.aA a fun z =>
 T.ak (z.add 2) [bN y] <|
 T.aA a fun A =>
 T.ah (A.add 1) [.int .i64] fun B =>
 T.aA a fun C =>
 T.ak (C.add 1) [bN B] <|
 aS 181 [.pointer a] false [(true,(yL 109))] fun D E F G =>
 T.ak e [.slice D E F,av G] <|
 T.aA a fun H =>
 T.ah (H.add 2) [.int .i64] fun I =>
 T.aA a fun J =>
 T.ak (J.add 2) [vI (aH (I-(1:Int)))] <|
 aN 195 [.pointer a,.string ⟨#[41]⟩] fun K =>
 cond (!K)
 (aS 182 [.pointer a,vI 20] true [] <| T.ah e (yL 109) fun L M N O =>
 T.ak b [.slice L M N,av O] <|
 T.ah b (yL 109) fun P Q R S =>
 T.ret (.agg #[.slice P Q R,av S]))
 (T.again 1 [])))
 (aS 182 [.pointer a,vI 20] true [] <| T.ah e (yL 109) fun v w x y =>
 T.ak b [.slice v w x,av y] <|
 T.ah b (yL 109) fun z A B C =>
 T.ret (.agg #[.slice z A B,av C]))))) <| T.aA a fun s =>
 T.ah (s.add 1) [.int .i64] fun t =>
 T.aA a fun u =>
 T.ak (u.add 1) [bN t] <|
 cond c
 (T.ah e (yL 109) fun v w x y =>
 aS 196 [.agg #[.slice v w x,av y],av 4294967295] false [(true,(yL 109))] fun z A B C =>
 T.ak e [.slice z A B,av C] <|
 T.ah e (yL 109) fun D E F G =>
 T.ak b [.slice D E F,av G] <|
 T.ah b (yL 109) fun H I J K =>
 T.ret (.agg #[.slice H I J,av K]))
 (T.ah e (yL 109) fun v w x y =>
 T.ak b [.slice v w x,av y] <|
 T.ah b (yL 109) fun z A B C =>
 T.ret (.agg #[.slice z A B,av C]))))
def ig (a:Option XC):bD Tryz.prog [6,14,16,1027] Tryz.f203 [.pointer a]=eU a:=aB
def kQ (a:Option XC) (b c:Nat) (d:Int) (e:Option XC) (f g:Nat) (h:Int):T :=
 T.new [.slice a b c,av d] 94 fun i =>
 T.new [.slice e f g,av h] 94 fun j =>
 T.new [aI,av 0] 94 fun k =>
 T.ah (i.add 1) [.int .u32] fun l =>
 T.ah (j.add 1) [.int .u32] fun m =>
 T.new [aI,av 0] 94 fun n =>
 T.ak n [aI,av (IntKind.wrap .u32 (l+m))] <|
 T.loop [aQ,aQ] [vI 0,vI 0] fun o p =>
 T.join [bZ]
 (T.ah i [.slice 109] fun q r s =>
 dH o r
 (T.again 1 [.bool true])
 (T.ah j [.slice 109] fun t u v =>
 T.again 1 [.bool (decide (p<(u:Int)))])) fun q =>
 cond q
 (T.join [bZ]
 (T.ah j [.slice 109] fun r s t =>
 cond (p==(s:Int))
 (T.again 1 [.bool true])
 (T.ah i [.slice 109] fun u v w =>
 dH o v
 (T.ah i [.slice 109] fun x y z =>
 cv o y x fun A =>
 T.ah (A.add (bW o 2)) [.string] fun B =>
 T.ah j [.slice 109] fun C D E =>
 cv p D C fun F =>
 T.ah (F.add (bW p 2)) [.string] fun G =>
 T.again 1 [.bool (Op.bytesLess (ByteArray.toList B) (ByteArray.toList G))])
 (T.again 1 [.bool false]))) fun r =>
 cond r
 (T.ah n [.slice 109] fun s t u =>
 T.ah i [.slice 109] fun v w x =>
 cv o w v fun y =>
 T.ah (y.add (bW o 2)) [.string,.int .u32] fun z A =>
 aR (Instr.buildSlice 91 1 #[(0,.agg #[.string z,av A])]) fun B C D =>
 T.aT [(i,[.slice v w x]),(n,[.slice s t u])] <|
 aR (Builtin.append_ #[91,91] 91 #[.slice s t u,.slice B C D]) fun E F G =>
 T.aT [((y.add (bW o 2)),[.string z,av A]),(i,[.slice v w x])] <|
 T.ak n [.slice E F G] <|
 T.again 0 [bN o,vI p])
 (T.join [bZ]
 (T.ah i [.slice 109] fun s t u =>
 cond (o==(t:Int))
 (T.again 1 [.bool true])
 (T.ah j [.slice 109] fun v w x =>
 cv p w v fun y =>
 T.ah (y.add (bW p 2)) [.string] fun z =>
 T.ah i [.slice 109] fun A B C =>
 cv o B A fun D =>
 T.ah (D.add (bW o 2)) [.string] fun E =>
 T.again 1 [.bool (Op.bytesLess (ByteArray.toList z) (ByteArray.toList E))])) fun s =>
 cond s
 (T.ah n [.slice 109] fun t u v =>
 T.ah j [.slice 109] fun w x y =>
 cv p x w fun z =>
 T.ah (z.add (bW p 2)) [.string,.int .u32] fun A B =>
 aR (Instr.buildSlice 91 1 #[(0,.agg #[.string A,av B])]) fun C D E =>
 T.aT [(j,[.slice w x y]),(n,[.slice t u v])] <|
 aR (Builtin.append_ #[91,91] 91 #[.slice t u v,.slice C D E]) fun F G H =>
 T.aT [((z.add (bW p 2)),[.string A,av B]),(j,[.slice w x y])] <|
 T.ak n [.slice F G H] <|
 T.again 0 [vI o,bN p])
 (T.ah i [.slice 109] fun t u v =>
 cv o u t fun w =>
 T.ah ((w.add (bW o 2)).add 1) [.int .u32] fun x =>
 T.ah j [.slice 109] fun y z A =>
 cv p z y fun B =>
 T.ah ((B.add (bW p 2)).add 1) [.int .u32] fun C =>
 T.join []
 (cond ((IntKind.wrap .u32 (x+C)) != (0:Int))
 (T.ah n [.slice 109] fun D E F =>
 T.ah i [.slice 109] fun G H I =>
 cv o H G fun J =>
 T.ah (J.add (bW o 2)) [.string] fun K =>
 aR (Instr.buildSlice 91 1 #[(0,.agg #[.string K,av (IntKind.wrap .u32 (x+C))])]) fun L M N =>
 T.aT [((J.add (bW o 2)),[.string K]),(i,[.slice G H I]),(n,[.slice D E F])] <|
 aR (Builtin.append_ #[91,91] 91 #[.slice D E F,.slice L M N]) fun O P Q =>
 T.aT [((J.add (bW o 2)),[.string K]),(i,[.slice G H I])] <|
 T.ak n [.slice O P Q] <|
 T.again 1 [])
 (T.again 1 [])) <| T.again 0 [bN o,bN p])))
 (T.ah n (yL 109) fun r s t u =>
 T.ak k [.slice r s t,av u] <|
 T.ah k (yL 109) fun v w x y =>
 T.ret (.agg #[.slice v w x,av y]))
def pv (a:Option XC) (b c:Nat) (d:Int) (e:Option XC) (f g:Nat) (h:Int):bD Tryz.prog [4,5,8,1014] Tryz.f197 [.agg #[.slice a b c,.int .u32 d],.agg #[.slice e f g,.int .u32 h]]=kQ a b c d e f g h:=aB
end Go.Sx
