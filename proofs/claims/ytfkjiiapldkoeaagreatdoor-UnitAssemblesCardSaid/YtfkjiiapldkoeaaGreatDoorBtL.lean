/- Trees of functions. No condition. -/
import Derived.Test.YtfkjiiapldkoeaaGreatDoorSxF
import Derived.Test.YtfkjiiapldkoeaaGreatDoorProg
import Derived.KernelRfl
set_option linter.all false
set_option maxRecDepth 100000
set_option maxHeartbeats 4000000
namespace Go.Sx
open Go.Proofs
def jK (a:XA):T :=
 cond (decide ((a.size:Int)<=(65536:Int)))
 (T.call Tryz.prog 9 [.string a,vI 3000] false [(false,[.string])] fun b =>
 T.call Tryz.prog 10 [.string b] true [(true, (yU 96 99)), (false, [.interface #[("Error", 85)]])] fun (c : Option XC) (d : Nat) (e : Nat) (f : Option XC) (g : Nat) (h : Nat) (i : Option XC) (j : Nat) (k : Nat) (l : Option XC) (m : Nat) (n : Nat) (o : XB) =>
 T.new [.slice none 0 0,.slice none 0 0,.slice none 0 0,.slice none 0 0] 27 fun p =>
 T.ak p [.slice c d e,.slice f g h,.slice i j k,.slice l m n] <|
 T.call Tryz.prog 11 [.string b] true [(true,(yU 96 99)),(true,[.int .i64,.int .i64])] fun q r s t u v w x y z A B C D =>
 T.new [.slice none 0 0,.slice none 0 0,.slice none 0 0,.slice none 0 0] 27 fun E =>
 T.new [vI 0,vI 0] 33 fun F =>
 T.ak E [.slice q r s,.slice t u v,.slice w x y,.slice z A B] <|
 T.ak F [vI C,vI D] <|
 T.ah F [.int .i64,.int .i64] fun G H =>
 T.call Tryz.prog 12 [o,.agg #[vI G,vI H]] false [(false,[.bool])] fun I =>
 cond I
 (T.ah p (yU 96 99) fun J K L M N O P Q R S U V =>
 T.ah E (yU 96 99) fun W X Y Z a0 a1 a2 a3 a4 a5 a6 a7 =>
 T.call Tryz.prog 13 [.agg #[.slice J K L,.slice M N O,.slice P Q R,.slice S U V],.agg #[.slice W X Y,.slice Z a0 a1,.slice a2 a3 a4,.slice a5 a6 a7]] false [(false,[.bool])] fun a8 =>
 cond a8
 (T.call Tryz.prog 14 [] false [(false,[.bool])] fun a9 =>
 T.ret (.bool a9))
 (T.ret (.bool false)))
 (T.ret (.bool false)))
 (T.call Tryz.prog 10 [.string a] true [(true, (yU 96 99)), (false, [.interface #[("Error", 85)]])] fun (b : Option XC) (c : Nat) (d : Nat) (e : Option XC) (f : Nat) (g : Nat) (h : Option XC) (i : Nat) (j : Nat) (k : Option XC) (l : Nat) (m : Nat) (n : XB) =>
 T.new [.slice none 0 0,.slice none 0 0,.slice none 0 0,.slice none 0 0] 27 fun o =>
 T.ak o [.slice b c d,.slice e f g,.slice h i j,.slice k l m] <|
 T.call Tryz.prog 11 [.string a] true [(true,(yU 96 99)),(true,[.int .i64,.int .i64])] fun p q r s t u v w x y z A B C =>
 T.new [.slice none 0 0,.slice none 0 0,.slice none 0 0,.slice none 0 0] 27 fun D =>
 T.new [vI 0,vI 0] 33 fun E =>
 T.ak D [.slice p q r,.slice s t u,.slice v w x,.slice y z A] <|
 T.ak E [vI B,vI C] <|
 T.ah E [.int .i64,.int .i64] fun F G =>
 T.call Tryz.prog 12 [n,.agg #[vI F,vI G]] false [(false,[.bool])] fun H =>
 cond H
 (T.ah o (yU 96 99) fun I J K L M N O P Q R S U =>
 T.ah D (yU 96 99) fun V W X Y Z a0 a1 a2 a3 a4 a5 a6 =>
 T.call Tryz.prog 13 [.agg #[.slice I J K,.slice L M N,.slice O P Q,.slice R S U],.agg #[.slice V W X,.slice Y Z a0,.slice a1 a2 a3,.slice a4 a5 a6]] false [(false,[.bool])] fun a7 =>
 cond a7
 (T.call Tryz.prog 14 [] false [(false,[.bool])] fun a8 =>
 T.ret (.bool a8))
 (T.ret (.bool false)))
 (T.ret (.bool false)))
def iw (a:XA):bD Tryz.prog [] Tryz.f3 [.string a]=jK a:=aB
end Go.Sx
