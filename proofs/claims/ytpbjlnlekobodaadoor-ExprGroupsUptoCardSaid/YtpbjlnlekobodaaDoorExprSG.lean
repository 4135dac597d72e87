/- The law ExprGroups over heaps: it answers true. Condition: the table of powers of ten as it is laid, 2^30 terms at most. -/
import Derived.Test.YtpbjlnlekobodaaDoorSxF
import Derived.Test.YtpbjlnlekobodaaDoorExprSB
import Derived.Test.YtpbjlnlekobodaaDoorExprR
import Derived.Test.YtpbjlnlekobodaaDoorExprSO
import Derived.Test.YtpbjlnlekobodaaDoorFrameF
import Derived.Test.YtpbjlnlekobodaaDoorProg
import Derived.KernelRfl
set_option linter.unusedVariables false
set_option maxRecDepth 100000
namespace Go.Sx
open Go.Proofs
def grp6 (a4 a5 a28 a49 a70 : Addr) (n3 : Int) : T :=
         T.loads a28 [.slice 80, .int .u32] <| fun (p71 : Option Addr) (l72 : Nat) (l73 : Nat) (n74 : Int) =>
         T.loads a49 [.slice 80, .int .u32] <| fun (p75 : Option Addr) (l76 : Nat) (l77 : Nat) (n78 : Int) =>
         T.call Tryd.prog 64 [.agg #[.slice p71 l72 l73, .int .u32 n74], .agg #[.slice p75 l76 l77, .int .u32 n78]] false [(false, [.bool])] <| fun (b79 : Bool) =>
         cond b79
          (T.loads a28 [.slice 80, .int .u32] <| fun (p80 : Option Addr) (l81 : Nat) (l82 : Nat) (n83 : Int) =>
          T.call Tryd.prog 63 [.agg #[.slice p80 l81 l82, .int .u32 n83]] false [(false, [.bool])] <| fun (b84 : Bool) =>
          T.stable [(a49, [.slice p75 l76 l77, .int .u32 n78]), (a28, [.slice p71 l72 l73, .int .u32 n74])] <|
          cond b84
           (T.loads a70 [.slice 80, .int .u32] <| fun (p85 : Option Addr) (l86 : Nat) (l87 : Nat) (n88 : Int) =>
           T.loads a4 [.slice 80, .int .u32] <| fun (p89 : Option Addr) (l90 : Nat) (l91 : Nat) (n92 : Int) =>
           T.loads a5 [.slice 80, .int .u32] <| fun (p93 : Option Addr) (l94 : Nat) (l95 : Nat) (n96 : Int) =>
           T.call Tryd.prog 52 [.agg #[.slice p89 l90 l91, .int .u32 n92], .agg #[.slice p93 l94 l95, .int .u32 n96]] false [(true, [.slice 80, .int .u32])] <| fun (p97 : Option Addr) (l98 : Nat) (l99 : Nat) (n100 : Int) =>
           T.stable [(a70, [.slice p85 l86 l87, .int .u32 n88]), (a28, [.slice p80 l81 l82, .int .u32 n83]), (a49, [.slice p75 l76 l77, .int .u32 n78]), (a28, [.slice p71 l72 l73, .int .u32 n74])] <|
           T.call Tryd.prog 53 [.agg #[.slice p97 l98 l99, .int .u32 n100], .int .u32 n3] false [(true, [.slice 80, .int .u32])] <| fun (p101 : Option Addr) (l102 : Nat) (l103 : Nat) (n104 : Int) =>
           T.stable [(a5, [.slice p93 l94 l95, .int .u32 n96]), (a4, [.slice p89 l90 l91, .int .u32 n92]), (a70, [.slice p85 l86 l87, .int .u32 n88]), (a28, [.slice p80 l81 l82, .int .u32 n83]), (a49, [.slice p75 l76 l77, .int .u32 n78]), (a28, [.slice p71 l72 l73, .int .u32 n74])] <|
           T.call Tryd.prog 64 [.agg #[.slice p85 l86 l87, .int .u32 n88], .agg #[.slice p101 l102 l103, .int .u32 n104]] false [(false, [.bool])] <| fun (b105 : Bool) =>
           T.stable [(a5, [.slice p93 l94 l95, .int .u32 n96]), (a4, [.slice p89 l90 l91, .int .u32 n92]), (a28, [.slice p80 l81 l82, .int .u32 n83]), (a49, [.slice p75 l76 l77, .int .u32 n78]), (a28, [.slice p71 l72 l73, .int .u32 n74])] <|
           cond b105
            (T.loads a4 [.slice 80, .int .u32] <| fun (p106 : Option Addr) (l107 : Nat) (l108 : Nat) (n109 : Int) =>
            T.loads a4 [.slice 80, .int .u32] <| fun (p110 : Option Addr) (l111 : Nat) (l112 : Nat) (n113 : Int) =>
            T.call Tryd.prog 53 [.agg #[.slice p110 l111 l112, .int .u32 n113], .int .u32 (4294967295 : Int)] false [(true, [.slice 80, .int .u32])] <| fun (p114 : Option Addr) (l115 : Nat) (l116 : Nat) (n117 : Int) =>
            T.stable [(a4, [.slice p106 l107 l108, .int .u32 n109]), (a5, [.slice p93 l94 l95, .int .u32 n96]), (a4, [.slice p89 l90 l91, .int .u32 n92]), (a70, [.slice p85 l86 l87, .int .u32 n88]), (a28, [.slice p80 l81 l82, .int .u32 n83]), (a49, [.slice p75 l76 l77, .int .u32 n78]), (a28, [.slice p71 l72 l73, .int .u32 n74])] <|
            T.call Tryd.prog 52 [.agg #[.slice p106 l107 l108, .int .u32 n109], .agg #[.slice p114 l115 l116, .int .u32 n117]] false [(true, [.slice 80, .int .u32])] <| fun (p118 : Option Addr) (l119 : Nat) (l120 : Nat) (n121 : Int) =>
            T.stable [(a4, [.slice p110 l111 l112, .int .u32 n113]), (a5, [.slice p93 l94 l95, .int .u32 n96]), (a4, [.slice p89 l90 l91, .int .u32 n92]), (a70, [.slice p85 l86 l87, .int .u32 n88]), (a28, [.slice p80 l81 l82, .int .u32 n83]), (a49, [.slice p75 l76 l77, .int .u32 n78]), (a28, [.slice p71 l72 l73, .int .u32 n74])] <|
            T.call Tryd.prog 62 [.int .u32 (0 : Int)] false [(true, [.slice 80, .int .u32])] <| fun (p122 : Option Addr) (l123 : Nat) (l124 : Nat) (n125 : Int) =>
            T.stable [(a4, [.slice p110 l111 l112, .int .u32 n113]), (a4, [.slice p106 l107 l108, .int .u32 n109]), (a5, [.slice p93 l94 l95, .int .u32 n96]), (a4, [.slice p89 l90 l91, .int .u32 n92]), (a70, [.slice p85 l86 l87, .int .u32 n88]), (a28, [.slice p80 l81 l82, .int .u32 n83]), (a49, [.slice p75 l76 l77, .int .u32 n78]), (a28, [.slice p71 l72 l73, .int .u32 n74])] <|
            T.call Tryd.prog 64 [.agg #[.slice p118 l119 l120, .int .u32 n121], .agg #[.slice p122 l123 l124, .int .u32 n125]] false [(false, [.bool])] <| fun (b126 : Bool) =>
            T.stable [(a4, [.slice p110 l111 l112, .int .u32 n113]), (a4, [.slice p106 l107 l108, .int .u32 n109]), (a5, [.slice p93 l94 l95, .int .u32 n96]), (a4, [.slice p89 l90 l91, .int .u32 n92]), (a70, [.slice p85 l86 l87, .int .u32 n88]), (a28, [.slice p80 l81 l82, .int .u32 n83]), (a49, [.slice p75 l76 l77, .int .u32 n78]), (a28, [.slice p71 l72 l73, .int .u32 n74])] <|
            cond b126
             (T.call Tryd.prog 44 [] false [(false, [.bool])] <| fun (b127 : Bool) =>
             T.stable [(a4, [.slice p110 l111 l112, .int .u32 n113]), (a4, [.slice p106 l107 l108, .int .u32 n109]), (a5, [.slice p93 l94 l95, .int .u32 n96]), (a4, [.slice p89 l90 l91, .int .u32 n92]), (a70, [.slice p85 l86 l87, .int .u32 n88]), (a28, [.slice p80 l81 l82, .int .u32 n83]), (a49, [.slice p75 l76 l77, .int .u32 n78]), (a28, [.slice p71 l72 l73, .int .u32 n74])] <|
             T.ret (.bool b127))
             (T.ret (.bool false)))
            (T.ret (.bool false)))
           (T.ret (.bool false)))
          (T.ret (.bool false))
def grp5 (a4 a5 a6 g28 g49 : Addr) (n3 : Int) : T :=
   T.loads a4 [.slice 80, .int .u32] <| fun (p8 : Option Addr) (l9 : Nat) (l10 : Nat) (n11 : Int) =>
   T.loads a5 [.slice 80, .int .u32] <| fun (p12 : Option Addr) (l13 : Nat) (l14 : Nat) (n15 : Int) =>
   T.all [ (T.call Tryd.prog 53 [.agg #[.slice p8 l9 l10, .int .u32 n11], .int .u32 n3] false [(true, [.slice 80, .int .u32])] <| fun (p16 : Option Addr) (l17 : Nat) (l18 : Nat) (n19 : Int) =>
    T.stable [(a5, [.slice p12 l13 l14, .int .u32 n15])] <|
    T.all [ (T.call Tryd.prog 53 [.agg #[.slice p12 l13 l14, .int .u32 n15], .int .u32 n3] false [(true, [.slice 80, .int .u32])] <| fun (p20 : Option Addr) (l21 : Nat) (l22 : Nat) (n23 : Int) =>
     T.stable [(a4, [.slice p8 l9 l10, .int .u32 n11])] <|
     T.all [ (T.call Tryd.prog 52 [.agg #[.slice p16 l17 l18, .int .u32 n19], .agg #[.slice p20 l21 l22, .int .u32 n23]] false [(true, [.slice 80, .int .u32])] <| fun (p24 : Option Addr) (l25 : Nat) (l26 : Nat) (n27 : Int) =>
      T.stable [(a5, [.slice p12 l13 l14, .int .u32 n15]), (a4, [.slice p8 l9 l10, .int .u32 n11])] <|
      T.new [.slice none 0 0, .int .u32 (0 : Int)] 69 <| fun (a28 : Addr) =>
      T.stable [(a5, [.slice p12 l13 l14, .int .u32 n15]), (a4, [.slice p8 l9 l10, .int .u32 n11])] <|
      T.stores a28 [.slice p24 l25 l26, .int .u32 n27] <|
      grp6 a4 a5 g28 g49 a28 n3),
      (T.new [.slice none 0 0, .int .u32 (0 : Int)] 69 <| fun (a24 : Addr) =>
      T.stable [(a5, [.slice p12 l13 l14, .int .u32 n15]), (a4, [.slice p8 l9 l10, .int .u32 n11])] <|
      T.call Tryd.prog 52 [.agg #[.slice p16 l17 l18, .int .u32 n19], .agg #[.slice p20 l21 l22, .int .u32 n23]] false [(true, [.slice 80, .int .u32])] <| fun (p25 : Option Addr) (l26 : Nat) (l27 : Nat) (n28 : Int) =>
      T.stable [(a5, [.slice p12 l13 l14, .int .u32 n15]), (a4, [.slice p8 l9 l10, .int .u32 n11])] <|
      T.stores a24 [.slice p25 l26 l27, .int .u32 n28] <|
      grp6 a4 a5 g28 g49 a24 n3)]),
     (T.new [.slice none 0 0, .int .u32 (0 : Int)] 69 <| fun (a20 : Addr) =>
     T.stable [(a5, [.slice p12 l13 l14, .int .u32 n15]), (a4, [.slice p8 l9 l10, .int .u32 n11])] <|
     T.call Tryd.prog 53 [.agg #[.slice p12 l13 l14, .int .u32 n15], .int .u32 n3] false [(true, [.slice 80, .int .u32])] <| fun (p21 : Option Addr) (l22 : Nat) (l23 : Nat) (n24 : Int) =>
     T.stable [(a4, [.slice p8 l9 l10, .int .u32 n11])] <|
     T.call Tryd.prog 52 [.agg #[.slice p16 l17 l18, .int .u32 n19], .agg #[.slice p21 l22 l23, .int .u32 n24]] false [(true, [.slice 80, .int .u32])] <| fun (p25 : Option Addr) (l26 : Nat) (l27 : Nat) (n28 : Int) =>
     T.stable [(a5, [.slice p12 l13 l14, .int .u32 n15]), (a4, [.slice p8 l9 l10, .int .u32 n11])] <|
     T.stores a20 [.slice p25 l26 l27, .int .u32 n28] <|
     grp6 a4 a5 g28 g49 a20 n3)]),
    (T.new [.slice none 0 0, .int .u32 (0 : Int)] 69 <| fun (a16 : Addr) =>
    T.stable [(a5, [.slice p12 l13 l14, .int .u32 n15]), (a4, [.slice p8 l9 l10, .int .u32 n11])] <|
    T.call Tryd.prog 53 [.agg #[.slice p8 l9 l10, .int .u32 n11], .int .u32 n3] false [(true, [.slice 80, .int .u32])] <| fun (p17 : Option Addr) (l18 : Nat) (l19 : Nat) (n20 : Int) =>
    T.stable [(a5, [.slice p12 l13 l14, .int .u32 n15])] <|
    T.call Tryd.prog 53 [.agg #[.slice p12 l13 l14, .int .u32 n15], .int .u32 n3] false [(true, [.slice 80, .int .u32])] <| fun (p21 : Option Addr) (l22 : Nat) (l23 : Nat) (n24 : Int) =>
    T.stable [(a4, [.slice p8 l9 l10, .int .u32 n11])] <|
    T.call Tryd.prog 52 [.agg #[.slice p17 l18 l19, .int .u32 n20], .agg #[.slice p21 l22 l23, .int .u32 n24]] false [(true, [.slice 80, .int .u32])] <| fun (p25 : Option Addr) (l26 : Nat) (l27 : Nat) (n28 : Int) =>
    T.stable [(a5, [.slice p12 l13 l14, .int .u32 n15]), (a4, [.slice p8 l9 l10, .int .u32 n11])] <|
    T.stores a16 [.slice p25 l26 l27, .int .u32 n28] <|
    grp6 a4 a5 g28 g49 a16 n3)]
def grp4 (a4 a5 a6 g28 : Addr) (n3 : Int) : T :=
   T.loads a5 [.slice 80, .int .u32] <| fun (p8 : Option Addr) (l9 : Nat) (l10 : Nat) (n11 : Int) =>
   T.loads a6 [.slice 80, .int .u32] <| fun (p12 : Option Addr) (l13 : Nat) (l14 : Nat) (n15 : Int) =>
   T.loads a4 [.slice 80, .int .u32] <| fun (p16 : Option Addr) (l17 : Nat) (l18 : Nat) (n19 : Int) =>
   T.all [ (T.call Tryd.prog 52 [.agg #[.slice p12 l13 l14, .int .u32 n15], .agg #[.slice p16 l17 l18, .int .u32 n19]] false [(true, [.slice 80, .int .u32])] <| fun (p20 : Option Addr) (l21 : Nat) (l22 : Nat) (n23 : Int) =>
    T.stable [(a5, [.slice p8 l9 l10, .int .u32 n11])] <|
    T.all [ (T.call Tryd.prog 52 [.agg #[.slice p8 l9 l10, .int .u32 n11], .agg #[.slice p20 l21 l22, .int .u32 n23]] false [(true, [.slice 80, .int .u32])] <| fun (p24 : Option Addr) (l25 : Nat) (l26 : Nat) (n27 : Int) =>
     T.stable [(a4, [.slice p16 l17 l18, .int .u32 n19]), (a6, [.slice p12 l13 l14, .int .u32 n15])] <|
     T.new [.slice none 0 0, .int .u32 (0 : Int)] 69 <| fun (a28 : Addr) =>
     T.stable [(a4, [.slice p16 l17 l18, .int .u32 n19]), (a6, [.slice p12 l13 l14, .int .u32 n15]), (a5, [.slice p8 l9 l10, .int .u32 n11])] <|
     T.stores a28 [.slice p24 l25 l26, .int .u32 n27] <|
     grp5 a4 a5 a6 g28 a28 n3),
     (T.new [.slice none 0 0, .int .u32 (0 : Int)] 69 <| fun (a24 : Addr) =>
     T.stable [(a4, [.slice p16 l17 l18, .int .u32 n19]), (a6, [.slice p12 l13 l14, .int .u32 n15]), (a5, [.slice p8 l9 l10, .int .u32 n11])] <|
     T.call Tryd.prog 52 [.agg #[.slice p8 l9 l10, .int .u32 n11], .agg #[.slice p20 l21 l22, .int .u32 n23]] false [(true, [.slice 80, .int .u32])] <| fun (p25 : Option Addr) (l26 : Nat) (l27 : Nat) (n28 : Int) =>
     T.stable [(a4, [.slice p16 l17 l18, .int .u32 n19]), (a6, [.slice p12 l13 l14, .int .u32 n15])] <|
     T.stores a24 [.slice p25 l26 l27, .int .u32 n28] <|
     grp5 a4 a5 a6 g28 a24 n3)]),
    (T.new [.slice none 0 0, .int .u32 (0 : Int)] 69 <| fun (a20 : Addr) =>
    T.stable [(a4, [.slice p16 l17 l18, .int .u32 n19]), (a6, [.slice p12 l13 l14, .int .u32 n15]), (a5, [.slice p8 l9 l10, .int .u32 n11])] <|
    T.call Tryd.prog 52 [.agg #[.slice p12 l13 l14, .int .u32 n15], .agg #[.slice p16 l17 l18, .int .u32 n19]] false [(true, [.slice 80, .int .u32])] <| fun (p21 : Option Addr) (l22 : Nat) (l23 : Nat) (n24 : Int) =>
    T.stable [(a5, [.slice p8 l9 l10, .int .u32 n11])] <|
    T.call Tryd.prog 52 [.agg #[.slice p8 l9 l10, .int .u32 n11], .agg #[.slice p21 l22 l23, .int .u32 n24]] false [(true, [.slice 80, .int .u32])] <| fun (p25 : Option Addr) (l26 : Nat) (l27 : Nat) (n28 : Int) =>
    T.stable [(a4, [.slice p16 l17 l18, .int .u32 n19]), (a6, [.slice p12 l13 l14, .int .u32 n15])] <|
    T.stores a20 [.slice p25 l26 l27, .int .u32 n28] <|
    grp5 a4 a5 a6 g28 a20 n3)]
def grp3 (a4 a5 a6 : Addr) (n3 : Int) : T :=
   T.loads a4 [.slice 80, .int .u32] <| fun (p8 : Option Addr) (l9 : Nat) (l10 : Nat) (n11 : Int) =>
   T.loads a5 [.slice 80, .int .u32] <| fun (p12 : Option Addr) (l13 : Nat) (l14 : Nat) (n15 : Int) =>
   T.loads a6 [.slice 80, .int .u32] <| fun (p16 : Option Addr) (l17 : Nat) (l18 : Nat) (n19 : Int) =>
   T.all [ (T.call Tryd.prog 52 [.agg #[.slice p8 l9 l10, .int .u32 n11], .agg #[.slice p12 l13 l14, .int .u32 n15]] false [(true, [.slice 80, .int .u32])] <| fun (p20 : Option Addr) (l21 : Nat) (l22 : Nat) (n23 : Int) =>
    T.stable [(a6, [.slice p16 l17 l18, .int .u32 n19])] <|
    T.all [ (T.call Tryd.prog 52 [.agg #[.slice p20 l21 l22, .int .u32 n23], .agg #[.slice p16 l17 l18, .int .u32 n19]] false [(true, [.slice 80, .int .u32])] <| fun (p24 : Option Addr) (l25 : Nat) (l26 : Nat) (n27 : Int) =>
     T.stable [(a5, [.slice p12 l13 l14, .int .u32 n15]), (a4, [.slice p8 l9 l10, .int .u32 n11])] <|
     T.new [.slice none 0 0, .int .u32 (0 : Int)] 69 <| fun (a28 : Addr) =>
     T.stable [(a6, [.slice p16 l17 l18, .int .u32 n19]), (a5, [.slice p12 l13 l14, .int .u32 n15]), (a4, [.slice p8 l9 l10, .int .u32 n11])] <|
     T.stores a28 [.slice p24 l25 l26, .int .u32 n27] <|
     grp4 a4 a5 a6 a28 n3),
     (T.new [.slice none 0 0, .int .u32 (0 : Int)] 69 <| fun (a24 : Addr) =>
     T.stable [(a6, [.slice p16 l17 l18, .int .u32 n19]), (a5, [.slice p12 l13 l14, .int .u32 n15]), (a4, [.slice p8 l9 l10, .int .u32 n11])] <|
     T.call Tryd.prog 52 [.agg #[.slice p20 l21 l22, .int .u32 n23], .agg #[.slice p16 l17 l18, .int .u32 n19]] false [(true, [.slice 80, .int .u32])] <| fun (p25 : Option Addr) (l26 : Nat) (l27 : Nat) (n28 : Int) =>
     T.stable [(a5, [.slice p12 l13 l14, .int .u32 n15]), (a4, [.slice p8 l9 l10, .int .u32 n11])] <|
     T.stores a24 [.slice p25 l26 l27, .int .u32 n28] <|
     grp4 a4 a5 a6 a24 n3)]),
    (T.new [.slice none 0 0, .int .u32 (0 : Int)] 69 <| fun (a20 : Addr) =>
    T.stable [(a6, [.slice p16 l17 l18, .int .u32 n19]), (a5, [.slice p12 l13 l14, .int .u32 n15]), (a4, [.slice p8 l9 l10, .int .u32 n11])] <|
    T.call Tryd.prog 52 [.agg #[.slice p8 l9 l10, .int .u32 n11], .agg #[.slice p12 l13 l14, .int .u32 n15]] false [(true, [.slice 80, .int .u32])] <| fun (p21 : Option Addr) (l22 : Nat) (l23 : Nat) (n24 : Int) =>
    T.stable [(a6, [.slice p16 l17 l18, .int .u32 n19])] <|
    T.call Tryd.prog 52 [.agg #[.slice p21 l22 l23, .int .u32 n24], .agg #[.slice p16 l17 l18, .int .u32 n19]] false [(true, [.slice 80, .int .u32])] <| fun (p25 : Option Addr) (l26 : Nat) (l27 : Nat) (n28 : Int) =>
    T.stable [(a5, [.slice p12 l13 l14, .int .u32 n15]), (a4, [.slice p8 l9 l10, .int .u32 n11])] <|
    T.stores a20 [.slice p25 l26 l27, .int .u32 n28] <|
    grp4 a4 a5 a6 a20 n3)]
def t_spandrellaw4_ExprGroups (pp00 : Option Addr) (ll00 cc00 : Nat) (n1_0 : Int) (pp10 : Option Addr) (ll10 cc10 : Nat) (n1_1 : Int) (pp20 : Option Addr) (ll20 cc20 : Nat) (n1_2 : Int) (n3 : Int) : T :=
 T.new [.slice pp00 ll00 cc00, .int .u32 n1_0] 69 <| fun (a4 : Addr) =>
 T.new [.slice pp10 ll10 cc10, .int .u32 n1_1] 69 <| fun (a5 : Addr) =>
 T.new [.slice pp20 ll20 cc20, .int .u32 n1_2] 69 <| fun (a6 : Addr) =>
 T.join [(false, [.bool])]
  (T.loads a4 [.slice 80, .int .u32] <| fun (p7 : Option Addr) (l8 : Nat) (l9 : Nat) (n10 : Int) =>
  T.call Tryd.prog 63 [.agg #[.slice p7 l8 l9, .int .u32 n10]] false [(false, [.bool])] <| fun (b11 : Bool) =>
  cond (!b11)
   (T.again 0 [.bool true])
   (T.loads a5 [.slice 80, .int .u32] <| fun (p12 : Option Addr) (l13 : Nat) (l14 : Nat) (n15 : Int) =>
   T.call Tryd.prog 63 [.agg #[.slice p12 l13 l14, .int .u32 n15]] false [(false, [.bool])] <| fun (b16 : Bool) =>
   cond (!b16)
    (T.again 0 [.bool true])
    (T.loads a6 [.slice 80, .int .u32] <| fun (p17 : Option Addr) (l18 : Nat) (l19 : Nat) (n20 : Int) =>
    T.call Tryd.prog 63 [.agg #[.slice p17 l18 l19, .int .u32 n20]] false [(false, [.bool])] <| fun (b21 : Bool) =>
    T.again 0 [.bool (!b21)]))) <| fun (b7 : Bool) =>
 cond b7
  (T.call Tryd.prog 44 [] false [(false, [.bool])] <| fun (b8 : Bool) =>
  T.ret (.bool b8))
  (grp3 a4 a5 a6 n3)
theorem t_spandrellaw4_ExprGroups_eq (pp00 : Option Addr) (ll00 cc00 : Nat) (n1_0 : Int) (pp10 : Option Addr) (ll10 cc10 : Nat) (n1_1 : Int) (pp20 : Option Addr) (ll20 cc20 : Nat) (n1_2 : Int) (n3 : Int) : xfun Tryd.prog [1] Tryd.f19 [.agg #[.slice pp00 ll00 cc00, .int .u32 n1_0], .agg #[.slice pp10 ll10 cc10, .int .u32 n1_1], .agg #[.slice pp20 ll20 cc20, .int .u32 n1_2], .int .u32 n3] = t_spandrellaw4_ExprGroups pp00 ll00 cc00 n1_0 pp10 ll10 cc10 n1_1 pp20 ll20 cc20 n1_2 n3 := by kernel_rfl
end Go.Sx

set_option linter.unusedVariables false
set_option linter.unusedSimpArgs false
set_option maxRecDepth 100000
namespace Go.Sx
open Go.Proofs
/-- A Lin in a block of its own. -/
def LX (h : Hp) (g : Nat) (x : Lin) : Prop := ∃ p l c, Box h g 69 [.slice p l c, .int .u32 (x.num : Int)] ∧ VwT h p l x.terms ∧ ∀ i, i ∈ blkOf p → i < h.size
theorem LX.keep {h h' : Hp} {g : Nat} {x : Lin} (a : LX h g x) (e : Ext h h') : LX h' g x := by
  obtain ⟨p, l, c, b, v, hb⟩ := a
  exact ⟨p, l, c, b.keep e (by simp), v.keep e (by simp), fun i hi => by have := hb i hi; have := e.size; omega⟩
section rules
variable {L : Lp} {K : Value → Hp → Prop} {h : Hp}
theorem addB_of {p q : Option Addr} {l m c d : Nat} {x y : Lin} {k : Option Addr → Nat → Nat → Int → T} (vx : VwT h p l x.terms) (vy : VwT h q m y.terms) (hp : ∀ i, i ∈ blkOf p → i < h.size) (hq : ∀ i, i ∈ blkOf q → i < h.size) (gx : Good x) (gy : Good y)
    (hl : x.terms.length + y.terms.length ≤ 2 ^ 40) (hk : ∀ h' p' l' c', Ext h h' → SL h' h.size 80 2 p' l' c' ((linA x y).terms.map encT) → k p' l' c' ((linA x y).num : Int) L K h') :
    T.call Tryd.prog 52 [.agg #[.slice p l c, .int .u32 (x.num : Int)], .agg #[.slice q m d, .int .u32 (y.num : Int)]] false [(true, [.slice 80, .int .u32])] k L K h := by
  refine call_of (add_hc vx vy hp hq hl gx.size gy.size) ?_
  rintro _ h' ⟨e, p', l', c', rfl, s⟩
  rw [linAdd_eq gx.nf gy.nf] at s ⊢
  exact ⟨((p', l', c'), ((linA x y).num : Int), ()), rfl, hk h' p' l' c' e s⟩
theorem timesB_of {p : Option Addr} {l c : Nat} {x : Lin} {n : Nat} {k : Option Addr → Nat → Nat → Int → T} (vx : VwT h p l x.terms) (gx : Good x)
    (hl : x.terms.length ≤ 2 ^ 40) (hk : ∀ h' p' l' c', Ext h h' → SL h' h.size 80 2 p' l' c' ((linT x n).terms.map encT) → k p' l' c' ((linT x n).num : Int) L K h') :
    T.call Tryd.prog 53 [.agg #[.slice p l c, .int .u32 (x.num : Int)], .int .u32 (n : Int)] false [(true, [.slice 80, .int .u32])] k L K h := by
  refine call_of (times_hc vx hl gx.size n) ?_
  rintro _ h' ⟨e, p', l', c', rfl, s⟩
  rw [linTimes_eq gx.nf] at s ⊢
  exact ⟨((p', l', c'), ((linT x n).num : Int), ()), rfl, hk h' p' l' c' e s⟩
/-- A new block, and a Lin laid into it. -/
theorem newLin_of {p : Option Addr} {l c b : Nat} {x : Lin} {k : Addr → T} {ss : List (Addr × List Value)} (s : SL h b 80 2 p l c (x.terms.map encT)) (hss : ∀ h', Ext h h' → T.stab h' ss)
    (hk : ∀ h' g, Ext h h' → h.size = g → LX h' g x → k ⟨g, 0, none⟩ L K h') :
    T.new [.slice none 0 0, .int .u32 (0 : Int)] 69 (fun (a : Addr) => T.stable ss <| T.stores a [.slice p l c, .int .u32 (x.num : Int)] <| k a) L K h := by
  refine newB ?_
  intro h1 b1 e1 z1
  refine ⟨hss h1 e1, ?_⟩
  refine stores_of b1 rfl (by simp) ?_
  intro h2 b2 k2 z2
  have b2 : Box h2 h.size 69 [.slice p l c, .int .u32 (x.num : Int)] := b2
  have e02 : Ext h h2 := Ch.trans e1 k2 (fun j hj hl => by simp at hj; omega)
  exact hk h2 _ e02 rfl ⟨p, l, c, b2, (s.keep' e02 (by simp)).vwT, fun i hi => by have := (s.blk hi).2; have := e02.size; omega⟩
/-- A Lin laid into a block that was made before. -/
theorem putLin_of {p : Option Addr} {l c b g : Nat} {x : Lin} {h0 : Hp} {k : T} (s : SL h b 80 2 p l c (x.terms.map encT)) (hb : Box h g 69 [.slice none 0 0, .int .u32 0]) (hg : g < b) (e0 : Ext h0 h) (hg0 : h0.size ≤ g)
    (hk : ∀ h', Ext h0 h' → LX h' g x → k L K h') : T.stores ⟨g, 0, none⟩ [.slice p l c, .int .u32 (x.num : Int)] k L K h := by
  refine stores_of hb rfl (by simp) ?_
  intro h2 b2 k2 z2
  have b2 : Box h2 g 69 [.slice p l c, .int .u32 (x.num : Int)] := b2
  exact hk h2 (Ch.trans e0 k2 (fun j hj hl => by simp at hj; omega)) ⟨p, l, c, b2, (s.keep' k2 (fun j hj => by have := (s.blk hj).1; simp; omega)).vwT, fun i hi => by have := (s.blk hi).2; omega⟩
theorem grp6_of {h0 : Hp} {g4 g5 g28 g49 g70 : Nat} {x y A : Lin} {n : Nat} (e0 : Ext h0 h) (hp : Pow10 h) (x4 : LX h g4 x) (x5 : LX h g5 y) (xA : LX h g28 A) (xB : LX h g49 A) (xC : LX h g70 (linT (linA x y) n)) (gx : Good x) (gy : Good y) (gA : Good A)
    (hx : x.terms.length ≤ 2 ^ 30) (hy : y.terms.length ≤ 2 ^ 30) (hA : A.terms.length ≤ 2 ^ 32) :
    grp6 ⟨g4, 0, none⟩ ⟨g5, 0, none⟩ ⟨g28, 0, none⟩ ⟨g49, 0, none⟩ ⟨g70, 0, none⟩ (n : Int) L (fun z h' => z = .bool true ∧ Ext h0 h') h := by
  obtain ⟨p4, l4, c4', c4, v4, k4⟩ := x4
  obtain ⟨p5, l5, c5', c5, v5, k5⟩ := x5
  obtain ⟨pA, lA, cA', c28, vA, kA⟩ := xA
  obtain ⟨pB, lB, cB', c49, vB, kB⟩ := xB
  obtain ⟨pC, lC, cC', c70, vC, kC⟩ := xC
  unfold grp6
  refine loads_box c28 ((pA, lA, cA'), (A.num : Int), ()) rfl ?_
  dsimp only [flat, unc, unc1, List.nil_append, List.cons_append]
  refine loads_box c49 ((pB, lB, cB'), (A.num : Int), ()) rfl ?_
  dsimp only [flat, unc, unc1, List.nil_append, List.cons_append]
  refine call_boolx (same64_hc (x := A) (y := A) vA vB (by omega)) ?_
  intro h1 e1
  rw [linB_refl]
  refine cond_t rfl ?_
  have c28 := c28.keep e1 (by simp)
  have c49 := c49.keep e1 (by simp)
  have c70 := c70.keep e1 (by simp)
  have c4 := c4.keep e1 (by simp)
  have c5 := c5.keep e1 (by simp)
  refine loads_box c28 ((pA, lA, cA'), (A.num : Int), ()) rfl ?_
  dsimp only [flat, unc, unc1, List.nil_append, List.cons_append]
  refine call_boolx (right63_hc (vA.keep e1 (by simp)) (by omega) gA.size) ?_
  intro h2 e2
  rw [good_rt gA]
  have c28 := c28.keep e2 (by simp)
  have c49 := c49.keep e2 (by simp)
  have c70 := c70.keep e2 (by simp)
  have c4 := c4.keep e2 (by simp)
  have c5 := c5.keep e2 (by simp)
  have e02 := e1.trans e2
  refine ⟨⟨c49.cells _ rfl, c28.cells _ rfl, trivial⟩, cond_t rfl ?_⟩
  refine loads_box c70 ((pC, lC, cC'), ((linT (linA x y) n).num : Int), ()) rfl ?_
  dsimp only [flat, unc, unc1, List.nil_append, List.cons_append]
  refine loads_box c4 ((p4, l4, c4'), (x.num : Int), ()) rfl ?_
  dsimp only [flat, unc, unc1, List.nil_append, List.cons_append]
  refine loads_box c5 ((p5, l5, c5'), (y.num : Int), ()) rfl ?_
  dsimp only [flat, unc, unc1, List.nil_append, List.cons_append]
  refine addB_of (v4.keep e02 (by simp)) (v5.keep e02 (by simp)) (fun i hi => by have := k4 i hi; have := e02.size; omega) (fun i hi => by have := k5 i hi; have := e02.size; omega) gx gy (by omega) ?_
  intro h3 pd ld cd e3 s3
  have c28 := c28.keep e3 (by simp)
  have c49 := c49.keep e3 (by simp)
  have c70 := c70.keep e3 (by simp)
  have c4 := c4.keep e3 (by simp)
  have c5 := c5.keep e3 (by simp)
  have e03 := e02.trans e3
  refine ⟨⟨c70.cells _ rfl, c28.cells _ rfl, c49.cells _ rfl, c28.cells _ rfl, trivial⟩, ?_⟩
  have hla : (linA x y).terms.length ≤ 2 ^ 31 := by
    have := addM_length x.terms y.terms
    show (addM x.terms y.terms).length ≤ _
    omega
  refine timesB_of s3.vwT (gx.A gy) (by omega) ?_
  intro h4 pt lt ct e4 s4
  have c28 := c28.keep e4 (by simp)
  have c49 := c49.keep e4 (by simp)
  have c70 := c70.keep e4 (by simp)
  have c4 := c4.keep e4 (by simp)
  have c5 := c5.keep e4 (by simp)
  have e04 := e03.trans e4
  refine ⟨⟨c5.cells _ rfl, c4.cells _ rfl, c70.cells _ rfl, c28.cells _ rfl, c49.cells _ rfl, c28.cells _ rfl, trivial⟩, ?_⟩
  have hlt : (linT (linA x y) n).terms.length ≤ 2 ^ 31 := by
    have := timesN_length n (linA x y).terms
    show (timesN n (linA x y).terms).length ≤ _
    omega
  refine call_boolx (same64_hc (x := linT (linA x y) n) (y := linT (linA x y) n) (vC.keep e04 (by simp)) s4.vwT (by omega)) ?_
  intro h5 e5
  rw [linB_refl]
  have c28 := c28.keep e5 (by simp)
  have c49 := c49.keep e5 (by simp)
  have c70 := c70.keep e5 (by simp)
  have c4 := c4.keep e5 (by simp)
  have c5 := c5.keep e5 (by simp)
  have e05 := e04.trans e5
  refine ⟨⟨c5.cells _ rfl, c4.cells _ rfl, c28.cells _ rfl, c49.cells _ rfl, c28.cells _ rfl, trivial⟩, cond_t rfl ?_⟩
  refine loads_box c4 ((p4, l4, c4'), (x.num : Int), ()) rfl ?_
  dsimp only [flat, unc, unc1, List.nil_append, List.cons_append]
  refine loads_box c4 ((p4, l4, c4'), (x.num : Int), ()) rfl ?_
  dsimp only [flat, unc, unc1, List.nil_append, List.cons_append]
  refine timesB_of (n := 4294967295) (v4.keep e05 (by simp)) gx (by omega) ?_
  intro h6 pm lm cm e6 s6
  have c28 := c28.keep e6 (by simp)
  have c49 := c49.keep e6 (by simp)
  have c70 := c70.keep e6 (by simp)
  have c4 := c4.keep e6 (by simp)
  have c5 := c5.keep e6 (by simp)
  have e06 := e05.trans e6
  refine ⟨⟨c4.cells _ rfl, c5.cells _ rfl, c4.cells _ rfl, c70.cells _ rfl, c28.cells _ rfl, c49.cells _ rfl, c28.cells _ rfl, trivial⟩, ?_⟩
  have hlm : (linT x 4294967295).terms.length ≤ 2 ^ 30 := by
    have := timesN_length 4294967295 x.terms
    show (timesN 4294967295 x.terms).length ≤ _
    omega
  refine addB_of (v4.keep e06 (by simp)) s6.vwT (fun i hi => by have := k4 i hi; have := e06.size; omega) (fun i hi => (s6.blk hi).2) gx (gx.T _) (by omega) ?_
  intro h7 pz lz cz e7 s7
  rw [linA_zero gx.nf] at s7 ⊢
  have c28 := c28.keep e7 (by simp)
  have c49 := c49.keep e7 (by simp)
  have c70 := c70.keep e7 (by simp)
  have c4 := c4.keep e7 (by simp)
  have c5 := c5.keep e7 (by simp)
  have e07 := e06.trans e7
  refine ⟨⟨c4.cells _ rfl, c5.cells _ rfl, c4.cells _ rfl, c70.cells _ rfl, c28.cells _ rfl, c49.cells _ rfl, c28.cells _ rfl, trivial⟩, ?_⟩
  refine call_of (of62_hc 0 h7) ?_
  rintro _ h8 ⟨e8, rfl⟩
  refine ⟨((none, 0, 0), (0 : Int), ()), rfl, ?_⟩
  dsimp only [flat, unc, unc1, List.nil_append, List.cons_append]
  have c28 := c28.keep e8 (by simp)
  have c49 := c49.keep e8 (by simp)
  have c70 := c70.keep e8 (by simp)
  have c4 := c4.keep e8 (by simp)
  have c5 := c5.keep e8 (by simp)
  have e08 := e07.trans e8
  refine ⟨⟨c4.cells _ rfl, c4.cells _ rfl, c5.cells _ rfl, c4.cells _ rfl, c70.cells _ rfl, c28.cells _ rfl, c49.cells _ rfl, c28.cells _ rfl, trivial⟩, ?_⟩
  refine call_boolx (same64_hc (x := linZ) (y := linZ) (q := none) (m := 0) (d := 0) (s7.keep' e8 (by simp)).vwT ⟨rfl, fun i hi => by simp [linZ] at hi⟩ (by simp [linZ])) ?_
  intro h9 e9
  rw [linB_refl]
  have c28 := c28.keep e9 (by simp)
  have c49 := c49.keep e9 (by simp)
  have c70 := c70.keep e9 (by simp)
  have c4 := c4.keep e9 (by simp)
  have c5 := c5.keep e9 (by simp)
  have e09 := e08.trans e9
  refine ⟨⟨c4.cells _ rfl, c4.cells _ rfl, c5.cells _ rfl, c4.cells _ rfl, c70.cells _ rfl, c28.cells _ rfl, c49.cells _ rfl, c28.cells _ rfl, trivial⟩, cond_t rfl ?_⟩
  refine call_boolx (known44_hc (hp.keep e09 (by simp))) ?_
  intro h10 e10
  have c28 := c28.keep e10 (by simp)
  have c49 := c49.keep e10 (by simp)
  have c70 := c70.keep e10 (by simp)
  have c4 := c4.keep e10 (by simp)
  have c5 := c5.keep e10 (by simp)
  refine ⟨⟨c4.cells _ rfl, c4.cells _ rfl, c5.cells _ rfl, c4.cells _ rfl, c70.cells _ rfl, c28.cells _ rfl, c49.cells _ rfl, c28.cells _ rfl, trivial⟩, ?_⟩
  exact ⟨rfl, e0.trans (e09.trans e10)⟩
theorem grp5_of {h0 : Hp} {g4 g5 g6 g28 g49 : Nat} {x y A : Lin} {n : Nat} (e0 : Ext h0 h) (hp : Pow10 h) (x4 : LX h g4 x) (x5 : LX h g5 y) (xA : LX h g28 A) (xB : LX h g49 A) (gx : Good x) (gy : Good y) (gA : Good A)
    (hx : x.terms.length ≤ 2 ^ 30) (hy : y.terms.length ≤ 2 ^ 30) (hA : A.terms.length ≤ 2 ^ 32) :
    grp5 ⟨g4, 0, none⟩ ⟨g5, 0, none⟩ ⟨g6, 0, none⟩ ⟨g28, 0, none⟩ ⟨g49, 0, none⟩ (n : Int) L (fun z h' => z = .bool true ∧ Ext h0 h') h := by
  have hfin : ∀ h' g70, Ext h h' → LX h' g70 (linA (linT x n) (linT y n)) → grp6 ⟨g4, 0, none⟩ ⟨g5, 0, none⟩ ⟨g28, 0, none⟩ ⟨g49, 0, none⟩ ⟨g70, 0, none⟩ (n : Int) L (fun z h' => z = .bool true ∧ Ext h0 h') h' := by
    intro h' g70 e xC
    rw [linT_sum gx.nf gy.nf] at xC
    exact grp6_of (e0.trans e) (hp.keep e (by simp)) (x4.keep e) (x5.keep e) (xA.keep e) (xB.keep e) xC gx gy gA hx hy hA
  obtain ⟨p4, l4, c4', c4, v4, k4⟩ := x4
  obtain ⟨p5, l5, c5', c5, v5, k5⟩ := x5
  have hs4 : ∀ h', Ext h h' → cellsAt h' ⟨g4, 0, none⟩ 0 [.slice p4 l4 c4', .int .u32 (x.num : Int)] := fun h' e => (c4.keep e (by simp)).cells _ rfl
  have hs5 : ∀ h', Ext h h' → cellsAt h' ⟨g5, 0, none⟩ 0 [.slice p5 l5 c5', .int .u32 (y.num : Int)] := fun h' e => (c5.keep e (by simp)).cells _ rfl
  have lx : (linT x n).terms.length ≤ 2 ^ 30 := by
    have := timesN_length n x.terms
    show (timesN n x.terms).length ≤ _
    omega
  have ly : (linT y n).terms.length ≤ 2 ^ 30 := by
    have := timesN_length n y.terms
    show (timesN n y.terms).length ≤ _
    omega
  unfold grp5
  refine loads_box c4 ((p4, l4, c4'), (x.num : Int), ()) rfl ?_
  dsimp only [flat, unc, unc1, List.nil_append, List.cons_append]
  refine loads_box c5 ((p5, l5, c5'), (y.num : Int), ()) rfl ?_
  dsimp only [flat, unc, unc1, List.nil_append, List.cons_append]
  refine ⟨?_, ?_, trivial⟩
  · refine timesB_of v4 gx (by omega) ?_
    intro h1 p1 l1 c1 e1 s1
    refine ⟨⟨hs5 _ e1, trivial⟩, ?_, ?_, trivial⟩
    · refine timesB_of (v5.keep e1 (by simp)) gy (by omega) ?_
      intro h2 p2 l2 c2 e2 s2
      have e02 := e1.trans e2
      have s1 := s1.keep' e2 (by simp)
      refine ⟨⟨hs4 _ e02, trivial⟩, ?_, ?_, trivial⟩
      · refine addB_of s1.vwT s2.vwT (fun i hi => (s1.blk hi).2) (fun i hi => (s2.blk hi).2) (gx.T n) (gy.T n) (by omega) ?_
        intro h3 p3 l3 c3 e3 s3
        have e03 := e02.trans e3
        refine ⟨⟨hs5 _ e03, hs4 _ e03, trivial⟩, ?_⟩
        refine newLin_of s3 (fun h' e => ⟨hs5 _ (e03.trans e), hs4 _ (e03.trans e), trivial⟩) ?_
        intro h4 g e4 _ a
        exact hfin h4 g (e03.trans e4) a
      · refine newB ?_
        intro h3 b3 e3 z3
        have e03 := e02.trans e3
        have s1 := s1.keep' e3 (by simp)
        have s2 := s2.keep' e3 (by simp)
        refine ⟨⟨hs5 _ e03, hs4 _ e03, trivial⟩, ?_⟩
        refine addB_of s1.vwT s2.vwT (fun i hi => (s1.blk hi).2) (fun i hi => (s2.blk hi).2) (gx.T n) (gy.T n) (by omega) ?_
        intro h4 p3 l3 c3 e4 s3
        have e04 := e03.trans e4
        refine ⟨⟨hs5 _ e04, hs4 _ e04, trivial⟩, ?_⟩
        have hz := e02.size
        exact putLin_of s3 (b3.keep e4 (by simp)) (by omega) e04 (by omega) (fun h' e a => hfin h' _ e a)
    · refine newB ?_
      intro h2 b2 e2 z2
      have e02 := e1.trans e2
      have s1 := s1.keep' e2 (by simp)
      refine ⟨⟨hs5 _ e02, hs4 _ e02, trivial⟩, ?_⟩
      refine timesB_of (v5.keep e02 (by simp)) gy (by omega) ?_
      intro h3 p2 l2 c2 e3 s2
      have e03 := e02.trans e3
      have s1 := s1.keep' e3 (by simp)
      refine ⟨⟨hs4 _ e03, trivial⟩, ?_⟩
      refine addB_of s1.vwT s2.vwT (fun i hi => (s1.blk hi).2) (fun i hi => (s2.blk hi).2) (gx.T n) (gy.T n) (by omega) ?_
      intro h4 p3 l3 c3 e4 s3
      have e04 := e03.trans e4
      refine ⟨⟨hs5 _ e04, hs4 _ e04, trivial⟩, ?_⟩
      have hz := e1.size
      have hz3 := e3.size
      exact putLin_of s3 ((b2.keep e3 (by simp)).keep e4 (by simp)) (by omega) e04 (by omega) (fun h' e a => hfin h' _ e a)
  · refine newB ?_
    intro h1 b1 e1 z1
    refine ⟨⟨hs5 _ e1, hs4 _ e1, trivial⟩, ?_⟩
    refine timesB_of (v4.keep e1 (by simp)) gx (by omega) ?_
    intro h2 p1 l1 c1 e2 s1
    have e02 := e1.trans e2
    refine ⟨⟨hs5 _ e02, trivial⟩, ?_⟩
    refine timesB_of (v5.keep e02 (by simp)) gy (by omega) ?_
    intro h3 p2 l2 c2 e3 s2
    have e03 := e02.trans e3
    have s1 := s1.keep' e3 (by simp)
    refine ⟨⟨hs4 _ e03, trivial⟩, ?_⟩
    refine addB_of s1.vwT s2.vwT (fun i hi => (s1.blk hi).2) (fun i hi => (s2.blk hi).2) (gx.T n) (gy.T n) (by omega) ?_
    intro h4 p3 l3 c3 e4 s3
    have e04 := e03.trans e4
    refine ⟨⟨hs5 _ e04, hs4 _ e04, trivial⟩, ?_⟩
    have hz2 := e2.size
    have hz3 := e3.size
    exact putLin_of s3 (((b1.keep e2 (by simp)).keep e3 (by simp)).keep e4 (by simp)) (by omega) e04 (by omega) (fun h' e a => hfin h' _ e a)
theorem grp4_of {h0 : Hp} {g4 g5 g6 g28 : Nat} {x y z : Lin} {n : Nat} (e0 : Ext h0 h) (hp : Pow10 h) (x4 : LX h g4 x) (x5 : LX h g5 y) (x6 : LX h g6 z) (xA : LX h g28 (linA (linA x y) z)) (gx : Good x) (gy : Good y) (gz : Good z)
    (hx : x.terms.length ≤ 2 ^ 30) (hy : y.terms.length ≤ 2 ^ 30) (hz : z.terms.length ≤ 2 ^ 30) :
    grp4 ⟨g4, 0, none⟩ ⟨g5, 0, none⟩ ⟨g6, 0, none⟩ ⟨g28, 0, none⟩ (n : Int) L (fun r h' => r = .bool true ∧ Ext h0 h') h := by
  have lA : (linA (linA x y) z).terms.length ≤ 2 ^ 32 := by
    have h1 := addM_length x.terms y.terms
    have h2 := addM_length (addM x.terms y.terms) z.terms
    show (addM (addM x.terms y.terms) z.terms).length ≤ _
    omega
  have hfin : ∀ h' g49, Ext h h' → LX h' g49 (linA y (linA z x)) → grp5 ⟨g4, 0, none⟩ ⟨g5, 0, none⟩ ⟨g6, 0, none⟩ ⟨g28, 0, none⟩ ⟨g49, 0, none⟩ (n : Int) L (fun z h' => z = .bool true ∧ Ext h0 h') h' := by
    intro h' g49 e xB
    rw [← linA_group gx.nf gy.nf gz.nf] at xB
    exact grp5_of (e0.trans e) (hp.keep e (by simp)) (x4.keep e) (x5.keep e) (xA.keep e) xB gx gy ((gx.A gy).A gz) hx hy lA
  obtain ⟨p4, l4, c4', c4, v4, k4⟩ := x4
  obtain ⟨p5, l5, c5', c5, v5, k5⟩ := x5
  obtain ⟨p6, l6, c6', c6, v6, k6⟩ := x6
  have hs4 : ∀ h', Ext h h' → cellsAt h' ⟨g4, 0, none⟩ 0 [.slice p4 l4 c4', .int .u32 (x.num : Int)] := fun h' e => (c4.keep e (by simp)).cells _ rfl
  have hs5 : ∀ h', Ext h h' → cellsAt h' ⟨g5, 0, none⟩ 0 [.slice p5 l5 c5', .int .u32 (y.num : Int)] := fun h' e => (c5.keep e (by simp)).cells _ rfl
  have hs6 : ∀ h', Ext h h' → cellsAt h' ⟨g6, 0, none⟩ 0 [.slice p6 l6 c6', .int .u32 (z.num : Int)] := fun h' e => (c6.keep e (by simp)).cells _ rfl
  have lzx : (linA z x).terms.length ≤ 2 ^ 31 := by
    have := addM_length z.terms x.terms
    show (addM z.terms x.terms).length ≤ _
    omega
  have kb : ∀ h', Ext h h' → (∀ i, i ∈ blkOf p4 → i < h'.size) ∧ (∀ i, i ∈ blkOf p5 → i < h'.size) ∧ (∀ i, i ∈ blkOf p6 → i < h'.size) := fun h' e => by
    have := e.size
    exact ⟨fun i hi => by have := k4 i hi; omega, fun i hi => by have := k5 i hi; omega, fun i hi => by have := k6 i hi; omega⟩
  unfold grp4
  refine loads_box c5 ((p5, l5, c5'), (y.num : Int), ()) rfl ?_
  dsimp only [flat, unc, unc1, List.nil_append, List.cons_append]
  refine loads_box c6 ((p6, l6, c6'), (z.num : Int), ()) rfl ?_
  dsimp only [flat, unc, unc1, List.nil_append, List.cons_append]
  refine loads_box c4 ((p4, l4, c4'), (x.num : Int), ()) rfl ?_
  dsimp only [flat, unc, unc1, List.nil_append, List.cons_append]
  refine ⟨?_, ?_, trivial⟩
  · refine addB_of v6 v4 k6 k4 gz gx (by omega) ?_
    intro h1 p1 l1 c1 e1 s1
    refine ⟨⟨hs5 _ e1, trivial⟩, ?_, ?_, trivial⟩
    · refine addB_of (v5.keep e1 (by simp)) s1.vwT (kb _ e1).2.1 (fun i hi => (s1.blk hi).2) gy (gz.A gx) (by omega) ?_
      intro h2 p2 l2 c2 e2 s2
      have e02 := e1.trans e2
      refine ⟨⟨hs4 _ e02, hs6 _ e02, trivial⟩, ?_⟩
      refine newLin_of s2 (fun h' e => ⟨hs4 _ (e02.trans e), hs6 _ (e02.trans e), hs5 _ (e02.trans e), trivial⟩) ?_
      intro h4 g e4 _ a
      exact hfin h4 g (e02.trans e4) a
    · refine newB ?_
      intro h2 b2 e2 z2
      have e02 := e1.trans e2
      have s1 := s1.keep' e2 (by simp)
      refine ⟨⟨hs4 _ e02, hs6 _ e02, hs5 _ e02, trivial⟩, ?_⟩
      refine addB_of (v5.keep e02 (by simp)) s1.vwT (kb _ e02).2.1 (fun i hi => (s1.blk hi).2) gy (gz.A gx) (by omega) ?_
      intro h3 p2 l2 c2 e3 s2
      have e03 := e02.trans e3
      refine ⟨⟨hs4 _ e03, hs6 _ e03, trivial⟩, ?_⟩
      have hz := e1.size
      exact putLin_of s2 (b2.keep e3 (by simp)) (by omega) e03 (by omega) (fun h' e a => hfin h' _ e a)
  · refine newB ?_
    intro h1 b1 e1 z1
    refine ⟨⟨hs4 _ e1, hs6 _ e1, hs5 _ e1, trivial⟩, ?_⟩
    refine addB_of (v6.keep e1 (by simp)) (v4.keep e1 (by simp)) (kb _ e1).2.2 (kb _ e1).1 gz gx (by omega) ?_
    intro h2 p1 l1 c1 e2 s1
    have e02 := e1.trans e2
    refine ⟨⟨hs5 _ e02, trivial⟩, ?_⟩
    refine addB_of (v5.keep e02 (by simp)) s1.vwT (kb _ e02).2.1 (fun i hi => (s1.blk hi).2) gy (gz.A gx) (by omega) ?_
    intro h3 p2 l2 c2 e3 s2
    have e03 := e02.trans e3
    refine ⟨⟨hs4 _ e03, hs6 _ e03, trivial⟩, ?_⟩
    have hz := e2.size
    exact putLin_of s2 ((b1.keep e2 (by simp)).keep e3 (by simp)) (by omega) e03 (by omega) (fun h' e a => hfin h' _ e a)
theorem grp3_of {h0 : Hp} {g4 g5 g6 : Nat} {x y z : Lin} {n : Nat} (e0 : Ext h0 h) (hp : Pow10 h) (x4 : LX h g4 x) (x5 : LX h g5 y) (x6 : LX h g6 z) (gx : Good x) (gy : Good y) (gz : Good z)
    (hx : x.terms.length ≤ 2 ^ 30) (hy : y.terms.length ≤ 2 ^ 30) (hz : z.terms.length ≤ 2 ^ 30) :
    grp3 ⟨g4, 0, none⟩ ⟨g5, 0, none⟩ ⟨g6, 0, none⟩ (n : Int) L (fun r h' => r = .bool true ∧ Ext h0 h') h := by
  have hfin : ∀ h' g28, Ext h h' → LX h' g28 (linA (linA x y) z) → grp4 ⟨g4, 0, none⟩ ⟨g5, 0, none⟩ ⟨g6, 0, none⟩ ⟨g28, 0, none⟩ (n : Int) L (fun z h' => z = .bool true ∧ Ext h0 h') h' := fun h' g28 e xA =>
    grp4_of (e0.trans e) (hp.keep e (by simp)) (x4.keep e) (x5.keep e) (x6.keep e) xA gx gy gz hx hy hz
  obtain ⟨p4, l4, c4', c4, v4, k4⟩ := x4
  obtain ⟨p5, l5, c5', c5, v5, k5⟩ := x5
  obtain ⟨p6, l6, c6', c6, v6, k6⟩ := x6
  have hs4 : ∀ h', Ext h h' → cellsAt h' ⟨g4, 0, none⟩ 0 [.slice p4 l4 c4', .int .u32 (x.num : Int)] := fun h' e => (c4.keep e (by simp)).cells _ rfl
  have hs5 : ∀ h', Ext h h' → cellsAt h' ⟨g5, 0, none⟩ 0 [.slice p5 l5 c5', .int .u32 (y.num : Int)] := fun h' e => (c5.keep e (by simp)).cells _ rfl
  have hs6 : ∀ h', Ext h h' → cellsAt h' ⟨g6, 0, none⟩ 0 [.slice p6 l6 c6', .int .u32 (z.num : Int)] := fun h' e => (c6.keep e (by simp)).cells _ rfl
  have lxy : (linA x y).terms.length ≤ 2 ^ 31 := by
    have := addM_length x.terms y.terms
    show (addM x.terms y.terms).length ≤ _
    omega
  have kb : ∀ h', Ext h h' → (∀ i, i ∈ blkOf p4 → i < h'.size) ∧ (∀ i, i ∈ blkOf p5 → i < h'.size) ∧ (∀ i, i ∈ blkOf p6 → i < h'.size) := fun h' e => by
    have := e.size
    exact ⟨fun i hi => by have := k4 i hi; omega, fun i hi => by have := k5 i hi; omega, fun i hi => by have := k6 i hi; omega⟩
  unfold grp3
  refine loads_box c4 ((p4, l4, c4'), (x.num : Int), ()) rfl ?_
  dsimp only [flat, unc, unc1, List.nil_append, List.cons_append]
  refine loads_box c5 ((p5, l5, c5'), (y.num : Int), ()) rfl ?_
  dsimp only [flat, unc, unc1, List.nil_append, List.cons_append]
  refine loads_box c6 ((p6, l6, c6'), (z.num : Int), ()) rfl ?_
  dsimp only [flat, unc, unc1, List.nil_append, List.cons_append]
  refine ⟨?_, ?_, trivial⟩
  · refine addB_of v4 v5 k4 k5 gx gy (by omega) ?_
    intro h1 p1 l1 c1 e1 s1
    refine ⟨⟨hs6 _ e1, trivial⟩, ?_, ?_, trivial⟩
    · refine addB_of s1.vwT (v6.keep e1 (by simp)) (fun i hi => (s1.blk hi).2) (kb _ e1).2.2 (gx.A gy) gz (by omega) ?_
      intro h2 p2 l2 c2 e2 s2
      have e02 := e1.trans e2
      refine ⟨⟨hs5 _ e02, hs4 _ e02, trivial⟩, ?_⟩
      refine newLin_of s2 (fun h' e => ⟨hs6 _ (e02.trans e), hs5 _ (e02.trans e), hs4 _ (e02.trans e), trivial⟩) ?_
      intro h4 g e4 _ a
      exact hfin h4 g (e02.trans e4) a
    · refine newB ?_
      intro h2 b2 e2 z2
      have e02 := e1.trans e2
      have s1 := s1.keep' e2 (by simp)
      refine ⟨⟨hs6 _ e02, hs5 _ e02, hs4 _ e02, trivial⟩, ?_⟩
      refine addB_of s1.vwT (v6.keep e02 (by simp)) (fun i hi => (s1.blk hi).2) (kb _ e02).2.2 (gx.A gy) gz (by omega) ?_
      intro h3 p2 l2 c2 e3 s2
      have e03 := e02.trans e3
      refine ⟨⟨hs5 _ e03, hs4 _ e03, trivial⟩, ?_⟩
      have hz := e1.size
      exact putLin_of s2 (b2.keep e3 (by simp)) (by omega) e03 (by omega) (fun h' e a => hfin h' _ e a)
  · refine newB ?_
    intro h1 b1 e1 z1
    refine ⟨⟨hs6 _ e1, hs5 _ e1, hs4 _ e1, trivial⟩, ?_⟩
    refine addB_of (v4.keep e1 (by simp)) (v5.keep e1 (by simp)) (kb _ e1).1 (kb _ e1).2.1 gx gy (by omega) ?_
    intro h2 p1 l1 c1 e2 s1
    have e02 := e1.trans e2
    refine ⟨⟨hs6 _ e02, trivial⟩, ?_⟩
    refine addB_of s1.vwT (v6.keep e02 (by simp)) (fun i hi => (s1.blk hi).2) (kb _ e02).2.2 (gx.A gy) gz (by omega) ?_
    intro h3 p2 l2 c2 e3 s2
    have e03 := e02.trans e3
    refine ⟨⟨hs5 _ e03, hs4 _ e03, trivial⟩, ?_⟩
    have hz := e2.size
    exact putLin_of s2 ((b1.keep e2 (by simp)).keep e3 (by simp)) (by omega) e03 (by omega) (fun h' e a => hfin h' _ e a)
end rules
theorem exprGroups_hc {h : Hp} {p q r : Option Addr} {l c m d k cr N M Q : Nat} {x y z : Lin} (v : LinIn h p l c x N) (u : LinIn h q m d y M) (w : LinIn h r k cr z Q) (n : Nat) (hp : Pow10 h) (hx : x.terms.length ≤ 2 ^ 30) (hy : y.terms.length ≤ 2 ^ 30) (hz : z.terms.length ≤ 2 ^ 30) :
    HC Tryd.prog 19 #[linV p l c x, linV q m d y, linV r k cr z, .int .u32 n] h fun z h' => z = .bool true ∧ Ext h h' := by
  refine hcr_of (args := [.agg #[.slice p l c, .int .u32 x.num], .agg #[.slice q m d, .int .u32 y.num], .agg #[.slice r k cr, .int .u32 z.num], .int .u32 n]) mixed Tryd.func19 (by kernel_rfl) (t_spandrellaw4_ExprGroups_eq p l c x.num q m d y.num r k cr z.num n) ?_
  unfold t_spandrellaw4_ExprGroups
  refine newB ?_
  intro h1 b1 e1 z1
  refine newB ?_
  intro h2 b2 e2 z2
  refine newB ?_
  intro h3 b3 e3 z3
  have b1 := (b1.keep e2 (by simp)).keep e3 (by simp)
  have b2 := b2.keep e3 (by simp)
  have e03 := (e1.trans e2).trans e3
  refine join_of (cs := [(false, [.bool])]) (fun t h' => Ext h3 h' ∧ (t.1 = false → Good x ∧ Good y ∧ Good z)) ?_ ?_
  · refine loads_box b1 ((p, l, c), (x.num : Int), ()) rfl ?_
    dsimp only [flat, unc, unc1, List.nil_append, List.cons_append]
    refine call_boolx (right63_hc (v.vw.keep e03 (by simp)) (by omega) (fun t ht => (v.names t ht).1)) ?_
    intro h4 e4
    refine cond_mk (fun g1 => ?_) (fun g1 => ?_)
    · exact meet_mk (cs := [(false, [.bool])]) (true, ()) rfl rfl ⟨e4, fun hh => by cases hh⟩
    have g1 : rtR none x.terms = true := by simpa using g1
    refine loads_box (b2.keep e4 (by simp)) ((q, m, d), (y.num : Int), ()) rfl ?_
    dsimp only [flat, unc, unc1, List.nil_append, List.cons_append]
    refine call_boolx (right63_hc ((u.vw.keep e03 (by simp)).keep e4 (by simp)) (by omega) (fun t ht => (u.names t ht).1)) ?_
    intro h5 e5
    refine cond_mk (fun g2 => ?_) (fun g2 => ?_)
    · exact meet_mk (cs := [(false, [.bool])]) (true, ()) rfl rfl ⟨e4.trans e5, fun hh => by cases hh⟩
    have g2 : rtR none y.terms = true := by simpa using g2
    have e35 := e4.trans e5
    refine loads_box (b3.keep e35 (by simp)) ((r, k, cr), (z.num : Int), ()) rfl ?_
    dsimp only [flat, unc, unc1, List.nil_append, List.cons_append]
    refine call_boolx (right63_hc ((w.vw.keep e03 (by simp)).keep e35 (by simp)) (by omega) (fun t ht => (w.names t ht).1)) ?_
    intro h6 e6
    refine meet_mk (cs := [(false, [.bool])]) (!rtR none z.terms, ()) rfl rfl ⟨e35.trans e6, fun hh => ?_⟩
    have g3 : rtR none z.terms = true := by
      cases hb : rtR none z.terms with
      | true => rfl
      | false =>
        rw [hb] at hh
        cases hh
    exact ⟨rt_good g1 v.coefs v.num, rt_good g2 u.coefs u.num, rt_good g3 w.coefs w.num⟩
  · rintro ⟨b, ⟨⟩⟩ h4 ⟨e4, hg⟩
    dsimp only [flat, unc, unc1, List.nil_append, List.cons_append]
    have e04 := e03.trans e4
    refine cond_mk (fun g1 => ?_) (fun g1 => ?_)
    · refine call_boolx (known44_hc (hp.keep e04 (by simp))) ?_
      intro h5 e5
      exact ⟨rfl, e04.trans e5⟩
    · obtain ⟨gx, gy, gz⟩ := hg g1
      have hz4 := e04.size
      exact grp3_of e04 (hp.keep e04 (by simp)) ⟨p, l, c, b1.keep e4 (by simp), v.vw.keep e04 (by simp), fun i hi => by have := v.blk i hi; omega⟩ ⟨q, m, d, b2.keep e4 (by simp), u.vw.keep e04 (by simp), fun i hi => by have := u.blk i hi; omega⟩
        ⟨r, k, cr, b3.keep e4 (by simp), w.vw.keep e04 (by simp), fun i hi => by have := w.blk i hi; omega⟩ gx gy gz hx hy hz
end Go.Sx
