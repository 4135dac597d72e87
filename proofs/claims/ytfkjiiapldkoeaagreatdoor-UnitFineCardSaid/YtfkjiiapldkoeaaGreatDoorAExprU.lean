/- Trees of functions, each checked by the kernel against the code. No condition. -/
import Derived.Test.YtfkjiiapldkoeaaGreatDoorSxF
import Derived.Test.YtfkjiiapldkoeaaGreatDoorProg
import Derived.KernelRfl
set_option linter.unusedVariables false
set_option linter.unusedSimpArgs false
set_option linter.deprecated false
set_option maxRecDepth 100000
namespace Go.Sx
open Go.Proofs
def qL (a:Option Addr) (b c:Nat):T :=
 T.new [.slice none 0 0,.int .u32 0] 94 fun d =>
 T.new [.slice a b c,vI 0,vI 0] 261 fun e =>
 T.new [.pointer none] 259 fun f =>
 T.ap f [.pointer (some e)] <|
 T.new [.nilFunc] 262 fun g =>
 T.new [.nilFunc] 262 fun h =>
 T.ap h [.func (Fn.func 152) #[] #[.pointer (some f),.pointer (some g)]] <|
 T.new [.nilFunc] 262 fun i =>
 T.ap i [.func (Fn.func 157) #[] #[.pointer (some h),.pointer (some f)]] <|
 T.ap g [.func (Fn.func 158) #[] #[.pointer (some i),.pointer (some f)]] <|
 T.ae g [.func #[] #[94] false] fun (j:Value) =>
 T.qJ Tryz.prog j [] false [(true,[.slice 109,.int .u32])] fun k l m n =>
 T.new [.slice none 0 0,.int .u32 0] 94 fun o =>
 T.ap o [.slice k l m,.int .u32 n] <|
 T.ae f [.pointer 261] fun p =>
 T.au p fun q =>
 T.ae q [.slice 178] fun r s t =>
 cond (decide ((s:Int)>(0:Int)))
 (T.ae f [.pointer 261] fun u =>
 T.call Tryz.prog 154 [.pointer u,vI 20] true [] <| T.ae f [.pointer 261] fun v =>
 T.au v fun w =>
 T.ae (w.add 2) [.int .i64] fun x =>
 cond (x != (0:Int))
 (T.ae f [.pointer 261] fun y =>
 T.au y fun z =>
 T.ae (z.add 2) [.int .i64] fun A =>
 T.ap d [.slice none 0 0,.int .u32 0] <|
 T.aR [((z.add 2),[vI A]),(f,[.pointer y])] <|
 T.ae d [.slice 109,.int .u32] fun B C D E =>
 T.ret (.tuple #[.agg #[.slice B C D,.int .u32 E],vI A]))
 (T.ae o [.slice 109,.int .u32] fun y z A B =>
 T.ap d [.slice y z A,.int .u32 B] <|
 T.ae d [.slice 109,.int .u32] fun C D E F =>
 T.ret (.tuple #[.agg #[.slice C D E,.int .u32 F],vI 0])))
 (T.ae f [.pointer 261] fun u =>
 T.au u fun v =>
 T.ae (v.add 2) [.int .i64] fun w =>
 cond (w != (0:Int))
 (T.ae f [.pointer 261] fun x =>
 T.au x fun y =>
 T.ae (y.add 2) [.int .i64] fun z =>
 T.ap d [.slice none 0 0,.int .u32 0] <|
 T.aR [((y.add 2),[vI z]),(f,[.pointer x])] <|
 T.ae d [.slice 109,.int .u32] fun A B C D =>
 T.ret (.tuple #[.agg #[.slice A B C,.int .u32 D],vI z]))
 (T.ae o [.slice 109,.int .u32] fun x y z A =>
 T.ap d [.slice x y z,.int .u32 A] <|
 T.ae d [.slice 109,.int .u32] fun B C D E =>
 T.ret (.tuple #[.agg #[.slice B C D,.int .u32 E],vI 0])))
theorem tR (a:Option Addr) (b c:Nat):aX Tryz.prog [] Tryz.f130 [.slice a b c]=qL a b c:=by kernel_rfl
def gA (a:Addr) (b:Addr):T :=
 T.new [.slice none 0 0,.int .u32 0] 94 fun c =>
 T.loop [(false,[.int .u32])] [.int .u32 1] fun d =>
 T.ae a [.pointer 261] fun e =>
 T.call Tryz.prog 153 [.pointer e,.string ⟨#[45]⟩] false [(false,[.bool])] fun f =>
 cond f
 (T.again 0 [.int .u32 (IntKind.wrap .u32 ((0:Int)-d))])
 (T.join [(false,[.bool])]
 (T.ae a [.pointer 261] fun g =>
 T.au g fun h =>
 T.ae (h.add 2) [.int .i64] fun i =>
 cond (i != (0:Int))
 (T.again 1 [.bool true])
 (T.ae a [.pointer 261] fun j =>
 T.au j fun k =>
 T.ae k [.slice 178] fun l m n =>
 T.again 1 [.bool ((m:Int)==(0:Int))])) fun g =>
 cond g
 (T.ae a [.pointer 261] fun h =>
 T.call Tryz.prog 154 [.pointer h,vI 20] true [] <| T.ap c [.slice none 0 0,.int .u32 0] <|
 T.ae c [.slice 109,.int .u32] fun i j k l =>
 T.ret (.agg #[.slice i j k,.int .u32 l]))
 (T.ae a [.pointer 261] fun h =>
 T.au h fun i =>
 T.ae i [.slice 178] fun j k l =>
 T.need (((0:Int)≤(0:Int))∧((0:Int)<(k:Int))) <|
 T.au j fun m =>
 T.ae m [.int .i64,.string,.int .u32,.int .i64] fun n o p q =>
 T.new [vI 0,.string ⟨#[]⟩,.int .u32 0,vI 0] 178 fun r =>
 T.ap r [vI n,.string o,.int .u32 p,vI q] <|
 T.ae (r.add 1) [.string] fun s =>
 T.call Tryz.prog 81 [.string s] true [(false,[.int .i64]),(false,[.bool]),(false,[.bool])] fun t u v =>
 T.new [.slice none 0 0,.int .u32 0] 94 fun w =>
 T.join []
 (T.join [(false,[.bool])]
 (T.ae r [.int .i64] fun x =>
 cond (x==(1:Int))
 (T.again 2 [.bool v])
 (T.again 2 [.bool false])) fun x =>
 cond x
 (T.ae a [.pointer 261] fun y =>
 T.call Tryz.prog 154 [.pointer y,vI 20] true [] <| T.again 1 [])
 (T.ae r [.int .i64] fun y =>
 cond (y==(1:Int))
 (T.ae (r.add 1) [.string] fun z =>
 T.call Tryz.prog 155 [.string z] false [(true,[.slice 109,.int .u32])] fun A B C D =>
 T.ap w [.slice A B C,.int .u32 D] <|
 T.ae (w.add 1) [.int .u32] fun E =>
 T.ae (r.add 2) [.int .u32] fun F =>
 T.ap (w.add 1) [.int .u32 (IntKind.wrap .u32 (E+F))] <|
 T.ae a [.pointer 261] fun G =>
 T.ae a [.pointer 261] fun H =>
 T.au H fun I =>
 T.ae I [.slice 178] fun J K L =>
 T.need (((0:Int)≤(1:Int))∧(((1:Int)≤(K:Int))∧((K:Int)≤(L:Int)))) <|
 T.au G fun M =>
 T.ap M [.slice (if (L=1) then J else (Option.map (fun N=>Addr.add N 4) J)) ((Int.toNat (K:Int))-1) (L-1)] <|
 T.again 1 [])
 (T.ae r [.int .i64] fun z =>
 cond (z==(2:Int))
 (T.ae (w.add 1) [.int .u32] fun A =>
 T.ae (r.add 2) [.int .u32] fun B =>
 T.ap (w.add 1) [.int .u32 (IntKind.wrap .u32 (A+B))] <|
 T.ae a [.pointer 261] fun C =>
 T.ae a [.pointer 261] fun D =>
 T.au D fun E =>
 T.ae E [.slice 178] fun F G H =>
 T.need (((0:Int)≤(1:Int))∧(((1:Int)≤(G:Int))∧((G:Int)≤(H:Int)))) <|
 T.au C fun I =>
 T.ap I [.slice (if (H=1) then F else (Option.map (fun J=>Addr.add J 4) F)) ((Int.toNat (G:Int))-1) (H-1)] <|
 T.again 1 [])
 (T.ae a [.pointer 261] fun A =>
 T.call Tryz.prog 153 [.pointer A,.string ⟨#[40]⟩] false [(false,[.bool])] fun B =>
 cond B
 (T.ae a [.pointer 261] fun C =>
 T.au C fun D =>
 T.ae (D.add 1) [.int .i64] fun E =>
 T.au C fun F =>
 T.ap (F.add 1) [vI (IntKind.wrap .i64 (E+(1:Int)))] <|
 T.ae a [.pointer 261] fun G =>
 T.au G fun H =>
 T.ae (H.add 1) [.int .i64] fun I =>
 cond (decide (I>(32:Int)))
 (T.ae a [.pointer 261] fun J =>
 T.call Tryz.prog 154 [.pointer J,vI 21] true [] <| T.again 1 [])
 (T.ae b [.func #[] #[94] false] fun (J:Value) =>
 T.qJ Tryz.prog J [] false [(true,[.slice 109,.int .u32])] fun K L M N =>
 T.ap w [.slice K L M,.int .u32 N] <|
 T.ae a [.pointer 261] fun O =>
 T.au O fun P =>
 T.ae (P.add 1) [.int .i64] fun Q =>
 T.au O fun R =>
 T.ap (R.add 1) [vI (IntKind.wrap .i64 (Q-(1:Int)))] <|
 T.ae a [.pointer 261] fun S =>
 T.call Tryz.prog 153 [.pointer S,.string ⟨#[41]⟩] false [(false,[.bool])] fun U =>
 cond (!U)
 (T.ae a [.pointer 261] fun V =>
 T.call Tryz.prog 154 [.pointer V,vI 20] true [] <| T.again 1 [])
 (T.again 1 [])))
 (T.ae a [.pointer 261] fun C =>
 T.call Tryz.prog 154 [.pointer C,vI 20] true [] <| T.again 1 []))))) <| T.ae w [.slice 109,.int .u32] fun x y z A =>
 T.call Tryz.prog 156 [.agg #[.slice x y z,.int .u32 A],.int .u32 d] false [(true,[.slice 109,.int .u32])] fun B C D E =>
 T.ap c [.slice B C D,.int .u32 E] <|
 T.ae c [.slice 109,.int .u32] fun F G H I =>
 T.ret (.agg #[.slice F G H,.int .u32 I])))
theorem j1 (a:Addr) (b:Addr):aX Tryz.prog [4,10,1026] Tryz.f152 [.pointer (some a),.pointer (some b)]=gA a b:=by kernel_rfl
def ir (a:Addr) (b:Addr):T :=
 T.new [.slice none 0 0,.int .u32 0] 94 fun c =>
 T.ae a [.func #[] #[94] false] fun (d:Value) =>
 T.qJ Tryz.prog d [] false [(true,[.slice 109,.int .u32])] fun e f g h =>
 T.new [.slice none 0 0,.int .u32 0] 94 fun i =>
 T.ap i [.slice e f g,.int .u32 h] <|
 T.loop [] [] <| T.ae b [.pointer 261] fun j =>
 T.call Tryz.prog 153 [.pointer j,.string ⟨#[42]⟩] false [(false,[.bool])] fun k =>
 cond k
 (T.ae a [.func #[] #[94] false] fun (l:Value) =>
 T.qJ Tryz.prog l [] false [(true,[.slice 109,.int .u32])] fun m n o p =>
 T.new [.slice none 0 0,.int .u32 0] 94 fun q =>
 T.ap q [.slice m n o,.int .u32 p] <|
 T.ae b [.pointer 261] fun r =>
 T.au r fun s =>
 T.ae (s.add 2) [.int .i64] fun t =>
 cond (t != (0:Int))
 (T.again 0 [])
 (T.join [(false,[.bool])]
 (T.ae i [.slice 109] fun u v w =>
 cond (decide ((v:Int)>(0:Int)))
 (T.ae q [.slice 109] fun x y z =>
 T.again 1 [.bool (decide ((y:Int)>(0:Int)))])
 (T.again 1 [.bool false])) fun u =>
 cond u
 (T.ae b [.pointer 261] fun v =>
 T.call Tryz.prog 154 [.pointer v,vI 21] true [] <| T.again 0 [])
 (T.ae q [.slice 109] fun v w x =>
 cond (decide ((w:Int)>(0:Int)))
 (T.ae q [.slice 109,.int .u32] fun y z A B =>
 T.ae (i.add 1) [.int .u32] fun C =>
 T.call Tryz.prog 156 [.agg #[.slice y z A,.int .u32 B],.int .u32 C] false [(true,[.slice 109,.int .u32])] fun D E F G =>
 T.ap i [.slice D E F,.int .u32 G] <|
 T.again 0 [])
 (T.ae i [.slice 109,.int .u32] fun y z A B =>
 T.ae (q.add 1) [.int .u32] fun C =>
 T.call Tryz.prog 156 [.agg #[.slice y z A,.int .u32 B],.int .u32 C] false [(true,[.slice 109,.int .u32])] fun D E F G =>
 T.ap i [.slice D E F,.int .u32 G] <|
 T.again 0 []))))
 (T.ae i [.slice 109,.int .u32] fun l m n o =>
 T.ap c [.slice l m n,.int .u32 o] <|
 T.ae c [.slice 109,.int .u32] fun p q r s =>
 T.ret (.agg #[.slice p q r,.int .u32 s]))
theorem kV (a:Addr) (b:Addr):aX Tryz.prog [6] Tryz.f157 [.pointer (some a),.pointer (some b)]=ir a b:=by kernel_rfl
def jc (a:Addr) (b:Addr):T :=
 T.new [.slice none 0 0,.int .u32 0] 94 fun c =>
 T.ae a [.func #[] #[94] false] fun (d:Value) =>
 T.qJ Tryz.prog d [] false [(true,[.slice 109,.int .u32])] fun e f g h =>
 T.new [.slice none 0 0,.int .u32 0] 94 fun i =>
 T.ap i [.slice e f g,.int .u32 h] <|
 T.loop [] [] <| T.ae b [.pointer 261] fun j =>
 T.au j fun k =>
 T.ae (k.add 2) [.int .i64] fun l =>
 cond (l==(0:Int))
 (T.ae b [.pointer 261] fun m =>
 T.call Tryz.prog 153 [.pointer m,.string ⟨#[43]⟩] false [(false,[.bool])] fun n =>
 cond n
 (T.ae i [.slice 109,.int .u32] fun o p q r =>
 T.ae a [.func #[] #[94] false] fun (s:Value) =>
 T.qJ Tryz.prog s [] false [(true,[.slice 109,.int .u32])] fun t u v w =>
 T.aR [(i,[.slice o p q,.int .u32 r])] <|
 T.call Tryz.prog 159 [.agg #[.slice o p q,.int .u32 r],.agg #[.slice t u v,.int .u32 w]] false [(true,[.slice 109,.int .u32])] fun x y z A =>
 T.aR [(a,[s])] <|
 T.ap i [.slice x y z,.int .u32 A] <|
 T.again 0 [])
 (T.ae b [.pointer 261] fun o =>
 T.call Tryz.prog 153 [.pointer o,.string ⟨#[45]⟩] false [(false,[.bool])] fun p =>
 cond p
 (T.ae i [.slice 109,.int .u32] fun q r s t =>
 T.ae a [.func #[] #[94] false] fun (u:Value) =>
 T.qJ Tryz.prog u [] false [(true,[.slice 109,.int .u32])] fun v w x y =>
 T.aR [(i,[.slice q r s,.int .u32 t])] <|
 T.call Tryz.prog 156 [.agg #[.slice v w x,.int .u32 y],.int .u32 4294967295] false [(true,[.slice 109,.int .u32])] fun z A B C =>
 T.aR [(a,[u]),(i,[.slice q r s,.int .u32 t])] <|
 T.call Tryz.prog 159 [.agg #[.slice q r s,.int .u32 t],.agg #[.slice z A B,.int .u32 C]] false [(true,[.slice 109,.int .u32])] fun D E F G =>
 T.aR [(a,[u])] <|
 T.ap i [.slice D E F,.int .u32 G] <|
 T.again 0 [])
 (T.ae i [.slice 109,.int .u32] fun q r s t =>
 T.ap c [.slice q r s,.int .u32 t] <|
 T.ae c [.slice 109,.int .u32] fun u v w x =>
 T.ret (.agg #[.slice u v w,.int .u32 x]))))
 (T.ae i [.slice 109,.int .u32] fun m n o p =>
 T.ap c [.slice m n o,.int .u32 p] <|
 T.ae c [.slice 109,.int .u32] fun q r s t =>
 T.ret (.agg #[.slice q r s,.int .u32 t]))
theorem mm (a:Addr) (b:Addr):aX Tryz.prog [] Tryz.f158 [.pointer (some a),.pointer (some b)]=jc a b:=by kernel_rfl
end Go.Sx
