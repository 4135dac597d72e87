/- Trees of functions, each checked by the kernel against the code. No condition. -/
import Derived.Test.YtfkjiiapldkoeaaGreatDoorSxP
import Derived.Test.YtfkjiiapldkoeaaGreatDoorProg
import Derived.KernelRfl
set_option linter.unusedVariables false
set_option linter.unusedSimpArgs false
set_option linter.deprecated false
set_option maxRecDepth 100000
namespace Go.Sx
open Go.Proofs
def dj (a:Nat) (b:Nat) (c:Nat):T :=
 T.aY Tryz.prog (Instr.makeMap 70 none) false [(false,[.map 0 0])] fun d =>
 T.ae (⟨c,0,none⟩:Addr) [.pointer 73] fun e =>
 T.au e fun f =>
 T.ae (f.add 7) [.slice 76] fun g h i =>
 T.loop [(false,[.int .i64])] [vI 0] fun j =>
 cond (decide (j<(h:Int)))
 (T.need (((0:Int)≤j)∧(j<(h:Int))) <|
 T.au g fun k =>
 T.ae (k.add ((Int.toNat j)*2)) [.string,.int .i64] fun l m =>
 T.new [.string ⟨#[]⟩,vI 0] 76 fun n =>
 T.ap n [.string l,vI m] <|
 T.ae (⟨c,0,none⟩:Addr) [.pointer 73] fun o =>
 T.au o fun p =>
 T.ae (p.add 6) [.map 9 4] fun q =>
 T.ae n [.string] fun r =>
 T.aY Tryz.prog (Instr.lookup 70 (.map q) (.string r) false) false [(false,[.bool])] fun s =>
 T.aR [((⟨c,0,none⟩:Addr),[.pointer o])] <|
 cond (!s)
 (T.ae (n.add 1) [.int .i64] fun t =>
 T.all [ (T.new [vI t,vI 23] 63 fun u =>
 T.aR [((n.add 1),[vI t])] <|
 T.ap (⟨a,0,none⟩:Addr) [.slice none 0 0,.slice none 0 0,.slice none 0 0,.slice none 0 0] <|
 T.aR [((n.add 1),[vI t])] <|
 T.ap (⟨b,0,none⟩:Addr) [.iface 59 (.pointer (some u))] <|
 T.ae (⟨a,0,none⟩:Addr) [.slice 96,.slice 96,.slice 99,.slice 9] fun v w x y z A B C D E F G =>
 T.ae (⟨b, 0, none⟩ : Addr) [.interface #[("Error", 85)]] fun (H : Value) =>
 T.ret (.tuple #[.agg #[.slice v w x,.slice y z A,.slice B C D,.slice E F G],H])),
 (T.ap (⟨a,0,none⟩:Addr) [.slice none 0 0,.slice none 0 0,.slice none 0 0,.slice none 0 0] <|
 T.aR [((n.add 1),[vI t])] <|
 T.new [vI t,vI 23] 63 fun u =>
 T.aR [((n.add 1),[vI t])] <|
 T.ap (⟨b,0,none⟩:Addr) [.iface 59 (.pointer (some u))] <|
 T.ae (⟨a,0,none⟩:Addr) [.slice 96,.slice 96,.slice 99,.slice 9] fun v w x y z A B C D E F G =>
 T.ae (⟨b, 0, none⟩ : Addr) [.interface #[("Error", 85)]] fun (H : Value) =>
 T.ret (.tuple #[.agg #[.slice v w x,.slice y z A,.slice B C D,.slice E F G],H]))])
 (T.ae n [.string] fun t =>
 T.mC Tryz.prog (Instr.mapUpdate 70 (.map d) (.string t) (.bool true)) <|
 T.again 0 [vI (IntKind.wrap .i64 (j+(1:Int)))]))
 (T.ae (⟨c,0,none⟩:Addr) [.pointer 73] fun k =>
 T.call Tryz.prog 35 [.map d] false [(false,[.func #[39] #[] false])] fun (l:Value) =>
 T.aR [((⟨c,0,none⟩:Addr),[.pointer k])] <|
 T.call Tryz.prog 34 [l] false [(false,[.slice 9])] fun m n o =>
 T.aR [((⟨c,0,none⟩:Addr),[.pointer k])] <|
 T.au k fun p =>
 T.ap (p.add 3) [.slice m n o] <|
 T.ae (⟨c,0,none⟩:Addr) [.pointer 73] fun q =>
 T.au q fun r =>
 T.ae r [.slice 96,.slice 96,.slice 99,.slice 9] fun s t u v w x y z A B C D =>
 T.ap (⟨a,0,none⟩:Addr) [.slice s t u,.slice v w x,.slice y z A,.slice B C D] <|
 T.ap (⟨b,0,none⟩:Addr) [.nilIface] <|
 T.ae (⟨a,0,none⟩:Addr) [.slice 96,.slice 96,.slice 99,.slice 9] fun E F G H I J K L M N O P =>
 T.ae (⟨b, 0, none⟩ : Addr) [.interface #[("Error", 85)]] fun (Q : Value) =>
 T.ret (.tuple #[.agg #[.slice E F G,.slice H I J,.slice K L M,.slice N O P],Q]))
theorem kS (a:Nat) (b:Nat) (c:Nat):G6 Tryz.prog [] Tryz.f10 (rX 7 Tryz.f10) [(2,some (.pointer (some (⟨a,0,none⟩:Addr)))),(3,some (.pointer (some (⟨b,0,none⟩:Addr)))),(5,some (.pointer (some (⟨c,0,none⟩:Addr))))]=dj a b c:=by kernel_rfl
end Go.Sx
