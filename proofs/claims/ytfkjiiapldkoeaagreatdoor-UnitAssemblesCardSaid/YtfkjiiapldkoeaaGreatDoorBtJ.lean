/- Trees of functions. No condition. -/
import Derived.Test.YtfkjiiapldkoeaaGreatDoorSxF
import Derived.Test.YtfkjiiapldkoeaaGreatDoorProg
import Derived.KernelRfl
set_option linter.all false
set_option maxRecDepth 100000
set_option maxHeartbeats 4000000
namespace Go.Sx
open Go.Proofs
def gB (a:XA) (b:Option XC) (c d:Nat):T :=
 T.new [vI 0,aI,bh,aI,av 0,vI 0] 194 fun e =>
 T.join [aQ]
 (cond ((ByteArray.toList a)==[(aJ 112#8),(aJ 111#8),(aJ 111#8),(aJ 108#8)])
 (T.again 0 [vI 0])
 (cond ((ByteArray.toList a)==[(aJ 101#8),(aJ 113#8),(aJ 117#8)])
 (T.again 0 [vI 2])
 (cond ((ByteArray.toList a)==[(aJ 98#8),(aJ 121#8),(aJ 116#8),(aJ 101#8)])
 (cond ((ByteArray.toList a)==[(aJ 98#8),(aJ 121#8),(aJ 116#8),(aJ 101#8)])
 (cond ((c:Int)==(0:Int))
 (T.again 0 [vI 1])
 (T.again 0 [vI (c:Int)]))
 (cond ((ByteArray.toList a)==[(aJ 97#8),(aJ 108#8),(aJ 105#8),(aJ 103#8),(aJ 110#8)])
 (cond ((ByteArray.toList a)==[(aJ 97#8),(aJ 108#8),(aJ 105#8),(aJ 103#8),(aJ 110#8)])
 (T.again 0 [vI 1])
 (T.again 0 [vI (-1:Int)]))
 (cond ((ByteArray.toList a)==[(aJ 115#8),(aJ 112#8),(aJ 97#8),(aJ 99#8),(aJ 101#8)])
 (cond ((ByteArray.toList a)==[(aJ 115#8),(aJ 112#8),(aJ 97#8),(aJ 99#8),(aJ 101#8)])
 (T.again 0 [vI 1])
 (T.again 0 [vI (-1:Int)]))
 (cond ((ByteArray.toList a)==[(aJ 103#8),(aJ 108#8),(aJ 111#8),(aJ 98#8),(aJ 97#8),(aJ 108#8)])
 (cond ((ByteArray.toList a)==[(aJ 103#8),(aJ 108#8),(aJ 111#8),(aJ 98#8),(aJ 97#8),(aJ 108#8)])
 (T.again 0 [vI 1])
 (T.again 0 [vI (-1:Int)]))
 (cond ((ByteArray.toList a)==[(aJ 115#8),(aJ 101#8),(aJ 99#8),(aJ 116#8),(aJ 105#8),(aJ 111#8),(aJ 110#8)])
 (T.again 0 [vI 1])
 (T.again 0 [vI (-1:Int)]))))))
 (cond ((ByteArray.toList a)==[(aJ 119#8),(aJ 111#8),(aJ 114#8),(aJ 100#8)])
 (cond ((c:Int)==(0:Int))
 (T.again 0 [vI 1])
 (T.again 0 [vI (c:Int)]))
 (cond ((ByteArray.toList a)==[(aJ 97#8),(aJ 108#8),(aJ 105#8),(aJ 103#8),(aJ 110#8)])
 (cond ((ByteArray.toList a)==[(aJ 97#8),(aJ 108#8),(aJ 105#8),(aJ 103#8),(aJ 110#8)])
 (T.again 0 [vI 1])
 (T.again 0 [vI (-1:Int)]))
 (cond ((ByteArray.toList a)==[(aJ 115#8),(aJ 112#8),(aJ 97#8),(aJ 99#8),(aJ 101#8)])
 (cond ((ByteArray.toList a)==[(aJ 115#8),(aJ 112#8),(aJ 97#8),(aJ 99#8),(aJ 101#8)])
 (T.again 0 [vI 1])
 (T.again 0 [vI (-1:Int)]))
 (cond ((ByteArray.toList a)==[(aJ 103#8),(aJ 108#8),(aJ 111#8),(aJ 98#8),(aJ 97#8),(aJ 108#8)])
 (cond ((ByteArray.toList a)==[(aJ 103#8),(aJ 108#8),(aJ 111#8),(aJ 98#8),(aJ 97#8),(aJ 108#8)])
 (T.again 0 [vI 1])
 (T.again 0 [vI (-1:Int)]))
 (cond ((ByteArray.toList a)==[(aJ 115#8),(aJ 101#8),(aJ 99#8),(aJ 116#8),(aJ 105#8),(aJ 111#8),(aJ 110#8)])
 (T.again 0 [vI 1])
 (T.again 0 [vI (-1:Int)]))))))))) fun f =>
 cond ((c:Int) != f)
 (T.ak e [vI 0,aI,bh,aI,av 0,vI 0] <|
 T.ah e [.int .i64,.slice 96,.string,.slice 109,.int .u32,.int .i64] fun g h i j k l m n o p =>
 aw #[.agg #[vI g,.slice h i j,.string k,.slice l m n,av o,vI p],vI 20])
 (cond ((ByteArray.toList a)==[(aJ 112#8),(aJ 111#8),(aJ 111#8),(aJ 108#8)])
 (aR (Instr.buildSlice 23 1 #[(0,.agg #[vI 4,bh,vI 0,vI 0,vI 0,.int .i32 0,vI 0,aI,av 0,vI 0])]) fun g h i =>
 T.ak e [vI 1,.slice g h i,bh,aI,av 0,vI 0] <|
 T.ah e [.int .i64,.slice 96,.string,.slice 109,.int .u32,.int .i64] fun j k l m n o p q r s =>
 aw #[.agg #[vI j,.slice k l m,.string n,.slice o p q,av r,vI s],vI 0])
 (cond ((ByteArray.toList a)==[(aJ 97#8),(aJ 108#8),(aJ 105#8),(aJ 103#8),(aJ 110#8)])
 (T.need (aZ 0 c) <|
 T.aA b fun g =>
 T.ah g [.slice 236] fun h i j =>
 aS 163 [.slice h i j,vI 1,vI 256] true [aQ,aQ] fun k l =>
 cond (l==(0:Int))
 (aN 86 [vI k] fun m =>
 cond (!m)
 (T.ak e [vI 0,aI,bh,aI,av 0,vI 0] <|
 T.ah e [.int .i64,.slice 96,.string,.slice 109,.int .u32,.int .i64] fun n o p q r s t u v w =>
 aw #[.agg #[vI n,.slice o p q,.string r,.slice s t u,av v,vI w],vI 21])
 (cond (l != (0:Int))
 (T.ak e [vI 0,aI,bh,aI,av 0,vI 0] <|
 T.ah e [.int .i64,.slice 96,.string,.slice 109,.int .u32,.int .i64] fun n o p q r s t u v w =>
 aw #[.agg #[vI n,.slice o p q,.string r,.slice s t u,av v,vI w],vI l])
 (aR (Instr.buildSlice 23 1 #[(0,.agg #[vI 3,bh,vI 0,vI 0,vI 0,.int .i32 0,vI 0,aI,av 0,vI k])]) fun n o p =>
 T.ak e [vI 1,.slice n o p,bh,aI,av 0,vI 0] <|
 T.ah e [.int .i64,.slice 96,.string,.slice 109,.int .u32,.int .i64] fun q r s t u v w x y z =>
 aw #[.agg #[vI q,.slice r s t,.string u,.slice v w x,av y,vI z],vI 0])))
 (cond (l != (0:Int))
 (T.ak e [vI 0,aI,bh,aI,av 0,vI 0] <|
 T.ah e [.int .i64,.slice 96,.string,.slice 109,.int .u32,.int .i64] fun m n o p q r s t u v =>
 aw #[.agg #[vI m,.slice n o p,.string q,.slice r s t,av u,vI v],vI l])
 (aR (Instr.buildSlice 23 1 #[(0,.agg #[vI 3,bh,vI 0,vI 0,vI 0,.int .i32 0,vI 0,aI,av 0,vI k])]) fun m n o =>
 T.ak e [vI 1,.slice m n o,bh,aI,av 0,vI 0] <|
 T.ah e [.int .i64,.slice 96,.string,.slice 109,.int .u32,.int .i64] fun p q r s t u v w x y =>
 aw #[.agg #[vI p,.slice q r s,.string t,.slice u v w,av x,vI y],vI 0])))
 (cond ((ByteArray.toList a)==[(aJ 115#8),(aJ 112#8),(aJ 97#8),(aJ 99#8),(aJ 101#8)])
 (T.need (aZ 0 c) <|
 T.aA b fun g =>
 T.ah g [.slice 236] fun h i j =>
 aS 163 [.slice h i j,vI 0,vI 1048576] true [aQ,aQ] fun k l =>
 cond (l != (0:Int))
 (T.ak e [vI 0,aI,bh,aI,av 0,vI 0] <|
 T.ah e [.int .i64,.slice 96,.string,.slice 109,.int .u32,.int .i64] fun m n o p q r s t u v =>
 aw #[.agg #[vI m,.slice n o p,.string q,.slice r s t,av u,vI v],vI l])
 (aR (Instr.buildSlice 23 1 #[(0,.agg #[vI 7,bh,vI 0,vI 0,vI 0,.int .i32 0,vI 0,aI,av 0,vI k])]) fun m n o =>
 T.ak e [vI 1,.slice m n o,bh,aI,av 0,vI 0] <|
 T.ah e [.int .i64,.slice 96,.string,.slice 109,.int .u32,.int .i64] fun p q r s t u v w x y =>
 aw #[.agg #[vI p,.slice q r s,.string t,.slice u v w,av x,vI y],vI 0]))
 (cond ((ByteArray.toList a)==[(aJ 98#8),(aJ 121#8),(aJ 116#8),(aJ 101#8)])
 (cond ((ByteArray.toList a)==[(aJ 98#8),(aJ 121#8),(aJ 116#8),(aJ 101#8)])
 (aS 165 [.string a,.slice b c d] true [(true,[.int .i64,.slice 96,.string,.slice 109,.int .u32,.int .i64]),aQ] fun g h i j k l m n o p q =>
 T.ak e [vI g,.slice h i j,.string k,.slice l m n,av o,vI p] <|
 T.ah e [.int .i64,.slice 96,.string,.slice 109,.int .u32,.int .i64] fun r s t u v w x y z A =>
 aw #[.agg #[vI r,.slice s t u,.string v,.slice w x y,av z,vI A],vI q])
 (cond ((ByteArray.toList a)==[(aJ 115#8),(aJ 101#8),(aJ 99#8),(aJ 116#8),(aJ 105#8),(aJ 111#8),(aJ 110#8)])
 (T.need (aZ 0 c) <|
 T.aA b fun g =>
 T.ah g [.slice 236] fun h i j =>
 cond ((i:Int)==(1:Int))
 (T.need (aZ 0 c) <|
 T.aA b fun k =>
 T.ah k [.slice 236] fun l m n =>
 T.need (aZ 0 m) <|
 T.aA l fun o =>
 T.ah o [.int .i64] fun p =>
 cond (p==(1:Int))
 (T.need (aZ 0 c) <|
 T.aA b fun q =>
 T.ah q [.slice 236] fun r s t =>
 T.need (aZ 0 s) <|
 T.aA r fun u =>
 T.ah (u.add 1) [.string] fun v =>
 cond ((ByteArray.toList v)==[(aJ 116#8),(aJ 101#8),(aJ 120#8),(aJ 116#8)])
 (T.new [vI 0,aI,bh,aI,av 0,vI 0] 194 fun w =>
 T.ak w [vI 5,aI,bh,aI,av 0,vI 0] <|
 T.need (aZ 0 c) <|
 T.aA b fun x =>
 T.ah x [.slice 236] fun y z A =>
 T.need (aZ 0 z) <|
 T.aA y fun B =>
 T.ah (B.add 1) [.string] fun C =>
 cond ((ByteArray.toList C)==[(aJ 100#8),(aJ 97#8),(aJ 116#8),(aJ 97#8)])
 (T.ak (w.add 5) [vI 1] <|
 T.ah w [.int .i64,.slice 96,.string,.slice 109,.int .u32,.int .i64] fun D E F G H I J K L M =>
 T.ak e [vI D,.slice E F G,.string H,.slice I J K,av L,vI M] <|
 T.ah e [.int .i64,.slice 96,.string,.slice 109,.int .u32,.int .i64] fun N O P Q R S U V W X =>
 aw #[.agg #[vI N,.slice O P Q,.string R,.slice S U V,av W,vI X],vI 0])
 (T.ah w [.int .i64,.slice 96,.string,.slice 109,.int .u32,.int .i64] fun D E F G H I J K L M =>
 T.ak e [vI D,.slice E F G,.string H,.slice I J K,av L,vI M] <|
 T.ah e [.int .i64,.slice 96,.string,.slice 109,.int .u32,.int .i64] fun N O P Q R S U V W X =>
 aw #[.agg #[vI N,.slice O P Q,.string R,.slice S U V,av W,vI X],vI 0]))
 (T.need (aZ 0 c) <|
 T.aA b fun w =>
 T.ah w [.slice 236] fun x y z =>
 T.need (aZ 0 y) <|
 T.aA x fun A =>
 T.ah (A.add 1) [.string] fun B =>
 cond ((ByteArray.toList B)==[(aJ 100#8),(aJ 97#8),(aJ 116#8),(aJ 97#8)])
 (T.new [vI 0,aI,bh,aI,av 0,vI 0] 194 fun C =>
 T.ak C [vI 5,aI,bh,aI,av 0,vI 0] <|
 T.need (aZ 0 c) <|
 T.aA b fun D =>
 T.ah D [.slice 236] fun E F G =>
 T.need (aZ 0 F) <|
 T.aA E fun H =>
 T.ah (H.add 1) [.string] fun I =>
 cond ((ByteArray.toList I)==[(aJ 100#8),(aJ 97#8),(aJ 116#8),(aJ 97#8)])
 (T.ak (C.add 5) [vI 1] <|
 T.ah C [.int .i64,.slice 96,.string,.slice 109,.int .u32,.int .i64] fun J K L M N O P Q R S =>
 T.ak e [vI J,.slice K L M,.string N,.slice O P Q,av R,vI S] <|
 T.ah e [.int .i64,.slice 96,.string,.slice 109,.int .u32,.int .i64] fun U V W X Y Z a0 a1 a2 a3 =>
 aw #[.agg #[vI U,.slice V W X,.string Y,.slice Z a0 a1,av a2,vI a3],vI 0])
 (T.ah C [.int .i64,.slice 96,.string,.slice 109,.int .u32,.int .i64] fun J K L M N O P Q R S =>
 T.ak e [vI J,.slice K L M,.string N,.slice O P Q,av R,vI S] <|
 T.ah e [.int .i64,.slice 96,.string,.slice 109,.int .u32,.int .i64] fun U V W X Y Z a0 a1 a2 a3 =>
 aw #[.agg #[vI U,.slice V W X,.string Y,.slice Z a0 a1,av a2,vI a3],vI 0]))
 (T.ak e [vI 0,aI,bh,aI,av 0,vI 0] <|
 T.ah e [.int .i64,.slice 96,.string,.slice 109,.int .u32,.int .i64] fun C D E F G H I J K L =>
 aw #[.agg #[vI C,.slice D E F,.string G,.slice H I J,av K,vI L],vI 20])))
 (T.ak e [vI 0,aI,bh,aI,av 0,vI 0] <|
 T.ah e [.int .i64,.slice 96,.string,.slice 109,.int .u32,.int .i64] fun q r s t u v w x y z =>
 aw #[.agg #[vI q,.slice r s t,.string u,.slice v w x,av y,vI z],vI 20]))
 (T.ak e [vI 0,aI,bh,aI,av 0,vI 0] <|
 T.ah e [.int .i64,.slice 96,.string,.slice 109,.int .u32,.int .i64] fun k l m n o p q r s t =>
 aw #[.agg #[vI k,.slice l m n,.string o,.slice p q r,av s,vI t],vI 20]))
 (T.need (aZ 0 c) <|
 T.aA b fun g =>
 T.ah g [.slice 236] fun h i j =>
 aS 166 [.slice h i j] true [(false,[.string]),aQ] fun k l =>
 cond (l != (0:Int))
 (T.ak e [vI 0,aI,bh,aI,av 0,vI 0] <|
 T.ah e [.int .i64,.slice 96,.string,.slice 109,.int .u32,.int .i64] fun m n o p q r s t u v =>
 aw #[.agg #[vI m,.slice n o p,.string q,.slice r s t,av u,vI v],vI l])
 (cond ((ByteArray.toList a)==[(aJ 103#8),(aJ 108#8),(aJ 111#8),(aJ 98#8),(aJ 97#8),(aJ 108#8)])
 (T.ak e [vI 4,aI,.string k,aI,av 0,vI 0] <|
 T.ah e [.int .i64,.slice 96,.string,.slice 109,.int .u32,.int .i64] fun m n o p q r s t u v =>
 aw #[.agg #[vI m,.slice n o p,.string q,.slice r s t,av u,vI v],vI 0])
 (T.need (aZ 1 c) <|
 T.aA b fun m =>
 T.ah (m.add 1) [.slice 236] fun n o p =>
 aS 164 [.slice n o p] true [(true,(yL 109)),aQ] fun q r s t u =>
 T.new [aI,av 0] 94 fun v =>
 T.ak v [.slice q r s,av t] <|
 cond (u != (0:Int))
 (T.ak e [vI 0,aI,bh,aI,av 0,vI 0] <|
 T.ah e [.int .i64,.slice 96,.string,.slice 109,.int .u32,.int .i64] fun w x y z A B C D E F =>
 aw #[.agg #[vI w,.slice x y z,.string A,.slice B C D,av E,vI F],vI u])
 (T.ah v (yL 109) fun w x y z =>
 T.ak e [vI 3,aI,.string k,.slice w x y,av z,vI 0] <|
 T.ah e [.int .i64,.slice 96,.string,.slice 109,.int .u32,.int .i64] fun A B C D E F G H I J =>
 aw #[.agg #[vI A,.slice B C D,.string E,.slice F G H,av I,vI J],vI 0]))))))
 (cond ((ByteArray.toList a)==[(aJ 119#8),(aJ 111#8),(aJ 114#8),(aJ 100#8)])
 (aS 165 [.string a,.slice b c d] true [(true,[.int .i64,.slice 96,.string,.slice 109,.int .u32,.int .i64]),aQ] fun g h i j k l m n o p q =>
 T.ak e [vI g,.slice h i j,.string k,.slice l m n,av o,vI p] <|
 T.ah e [.int .i64,.slice 96,.string,.slice 109,.int .u32,.int .i64] fun r s t u v w x y z A =>
 aw #[.agg #[vI r,.slice s t u,.string v,.slice w x y,av z,vI A],vI q])
 (cond ((ByteArray.toList a)==[(aJ 115#8),(aJ 101#8),(aJ 99#8),(aJ 116#8),(aJ 105#8),(aJ 111#8),(aJ 110#8)])
 (T.need (aZ 0 c) <|
 T.aA b fun g =>
 T.ah g [.slice 236] fun h i j =>
 cond ((i:Int)==(1:Int))
 (T.need (aZ 0 c) <|
 T.aA b fun k =>
 T.ah k [.slice 236] fun l m n =>
 T.need (aZ 0 m) <|
 T.aA l fun o =>
 T.ah o [.int .i64] fun p =>
 cond (p==(1:Int))
 (T.need (aZ 0 c) <|
 T.aA b fun q =>
 T.ah q [.slice 236] fun r s t =>
 T.need (aZ 0 s) <|
 T.aA r fun u =>
 T.ah (u.add 1) [.string] fun v =>
 cond ((ByteArray.toList v)==[(aJ 116#8),(aJ 101#8),(aJ 120#8),(aJ 116#8)])
 (T.new [vI 0,aI,bh,aI,av 0,vI 0] 194 fun w =>
 T.ak w [vI 5,aI,bh,aI,av 0,vI 0] <|
 T.need (aZ 0 c) <|
 T.aA b fun x =>
 T.ah x [.slice 236] fun y z A =>
 T.need (aZ 0 z) <|
 T.aA y fun B =>
 T.ah (B.add 1) [.string] fun C =>
 cond ((ByteArray.toList C)==[(aJ 100#8),(aJ 97#8),(aJ 116#8),(aJ 97#8)])
 (T.ak (w.add 5) [vI 1] <|
 T.ah w [.int .i64,.slice 96,.string,.slice 109,.int .u32,.int .i64] fun D E F G H I J K L M =>
 T.ak e [vI D,.slice E F G,.string H,.slice I J K,av L,vI M] <|
 T.ah e [.int .i64,.slice 96,.string,.slice 109,.int .u32,.int .i64] fun N O P Q R S U V W X =>
 aw #[.agg #[vI N,.slice O P Q,.string R,.slice S U V,av W,vI X],vI 0])
 (T.ah w [.int .i64,.slice 96,.string,.slice 109,.int .u32,.int .i64] fun D E F G H I J K L M =>
 T.ak e [vI D,.slice E F G,.string H,.slice I J K,av L,vI M] <|
 T.ah e [.int .i64,.slice 96,.string,.slice 109,.int .u32,.int .i64] fun N O P Q R S U V W X =>
 aw #[.agg #[vI N,.slice O P Q,.string R,.slice S U V,av W,vI X],vI 0]))
 (T.need (aZ 0 c) <|
 T.aA b fun w =>
 T.ah w [.slice 236] fun x y z =>
 T.need (aZ 0 y) <|
 T.aA x fun A =>
 T.ah (A.add 1) [.string] fun B =>
 cond ((ByteArray.toList B)==[(aJ 100#8),(aJ 97#8),(aJ 116#8),(aJ 97#8)])
 (T.new [vI 0,aI,bh,aI,av 0,vI 0] 194 fun C =>
 T.ak C [vI 5,aI,bh,aI,av 0,vI 0] <|
 T.need (aZ 0 c) <|
 T.aA b fun D =>
 T.ah D [.slice 236] fun E F G =>
 T.need (aZ 0 F) <|
 T.aA E fun H =>
 T.ah (H.add 1) [.string] fun I =>
 cond ((ByteArray.toList I)==[(aJ 100#8),(aJ 97#8),(aJ 116#8),(aJ 97#8)])
 (T.ak (C.add 5) [vI 1] <|
 T.ah C [.int .i64,.slice 96,.string,.slice 109,.int .u32,.int .i64] fun J K L M N O P Q R S =>
 T.ak e [vI J,.slice K L M,.string N,.slice O P Q,av R,vI S] <|
 T.ah e [.int .i64,.slice 96,.string,.slice 109,.int .u32,.int .i64] fun U V W X Y Z a0 a1 a2 a3 =>
 aw #[.agg #[vI U,.slice V W X,.string Y,.slice Z a0 a1,av a2,vI a3],vI 0])
 (T.ah C [.int .i64,.slice 96,.string,.slice 109,.int .u32,.int .i64] fun J K L M N O P Q R S =>
 T.ak e [vI J,.slice K L M,.string N,.slice O P Q,av R,vI S] <|
 T.ah e [.int .i64,.slice 96,.string,.slice 109,.int .u32,.int .i64] fun U V W X Y Z a0 a1 a2 a3 =>
 aw #[.agg #[vI U,.slice V W X,.string Y,.slice Z a0 a1,av a2,vI a3],vI 0]))
 (T.ak e [vI 0,aI,bh,aI,av 0,vI 0] <|
 T.ah e [.int .i64,.slice 96,.string,.slice 109,.int .u32,.int .i64] fun C D E F G H I J K L =>
 aw #[.agg #[vI C,.slice D E F,.string G,.slice H I J,av K,vI L],vI 20])))
 (T.ak e [vI 0,aI,bh,aI,av 0,vI 0] <|
 T.ah e [.int .i64,.slice 96,.string,.slice 109,.int .u32,.int .i64] fun q r s t u v w x y z =>
 aw #[.agg #[vI q,.slice r s t,.string u,.slice v w x,av y,vI z],vI 20]))
 (T.ak e [vI 0,aI,bh,aI,av 0,vI 0] <|
 T.ah e [.int .i64,.slice 96,.string,.slice 109,.int .u32,.int .i64] fun k l m n o p q r s t =>
 aw #[.agg #[vI k,.slice l m n,.string o,.slice p q r,av s,vI t],vI 20]))
 (T.need (aZ 0 c) <|
 T.aA b fun g =>
 T.ah g [.slice 236] fun h i j =>
 aS 166 [.slice h i j] true [(false,[.string]),aQ] fun k l =>
 cond (l != (0:Int))
 (T.ak e [vI 0,aI,bh,aI,av 0,vI 0] <|
 T.ah e [.int .i64,.slice 96,.string,.slice 109,.int .u32,.int .i64] fun m n o p q r s t u v =>
 aw #[.agg #[vI m,.slice n o p,.string q,.slice r s t,av u,vI v],vI l])
 (cond ((ByteArray.toList a)==[(aJ 103#8),(aJ 108#8),(aJ 111#8),(aJ 98#8),(aJ 97#8),(aJ 108#8)])
 (T.ak e [vI 4,aI,.string k,aI,av 0,vI 0] <|
 T.ah e [.int .i64,.slice 96,.string,.slice 109,.int .u32,.int .i64] fun m n o p q r s t u v =>
 aw #[.agg #[vI m,.slice n o p,.string q,.slice r s t,av u,vI v],vI 0])
 (T.need (aZ 1 c) <|
 T.aA b fun m =>
 T.ah (m.add 1) [.slice 236] fun n o p =>
 aS 164 [.slice n o p] true [(true,(yL 109)),aQ] fun q r s t u =>
 T.new [aI,av 0] 94 fun v =>
 T.ak v [.slice q r s,av t] <|
 cond (u != (0:Int))
 (T.ak e [vI 0,aI,bh,aI,av 0,vI 0] <|
 T.ah e [.int .i64,.slice 96,.string,.slice 109,.int .u32,.int .i64] fun w x y z A B C D E F =>
 aw #[.agg #[vI w,.slice x y z,.string A,.slice B C D,av E,vI F],vI u])
 (T.ah v (yL 109) fun w x y z =>
 T.ak e [vI 3,aI,.string k,.slice w x y,av z,vI 0] <|
 T.ah e [.int .i64,.slice 96,.string,.slice 109,.int .u32,.int .i64] fun A B C D E F G H I J =>
 aw #[.agg #[vI A,.slice B C D,.string E,.slice F G H,av I,vI J],vI 0]))))))))))
def ka (a:XA) (b:Option XC) (c d:Nat):bD Tryz.prog [1017] Tryz.f135 [.string a,.slice b c d]=gB a b c d:=aB
def jR (a:XA) (b:XA) (c:Option XC) (d e:Nat) (f:Int):T :=
 T.new [.string a,.string b,.slice c d e] 191 fun g =>
 T.new [vI 0,aI,bh,aI,av 0,vI 0] 194 fun h =>
 T.ah (g.add 1) [.string] fun i =>
 cond ((ByteArray.toList i)==[])
 (T.ak h [vI 0,aI,bh,aI,av 0,vI 0] <|
 T.ah h [.int .i64,.slice 96,.string,.slice 109,.int .u32,.int .i64] fun j k l m n o p q r s =>
 aw #[.agg #[vI j,.slice k l m,.string n,.slice o p q,av r,vI s],vI 0])
 (T.ah (g.add 1) [.string] fun j =>
 cU 133 [.string j] fun k =>
 cond (decide (k>(0:Int)))
 (T.ah (g.add 2) [.slice 233] fun l m n =>
 aS 134 [vI k,.slice l m n] true [(true,(yI 109)),aQ] fun o p q r s t u v w x y z A =>
 T.new [vI 0,bh,vI 0,vI 0,vI 0,.int .i32 0,vI 0,aI,av 0,vI 0] 96 fun B =>
 T.ak B [vI o,.string p,vI q,vI r,vI s,.int .i32 t,vI u,.slice v w x,av y,vI z] <|
 T.join [aQ]
 (cond (A==(0:Int))
 (cond (f==(1:Int))
 (T.again 0 [vI 21])
 (T.again 0 [vI A]))
 (T.again 0 [vI A])) fun C =>
 cond (C != (0:Int))
 (T.ak h [vI 0,aI,bh,aI,av 0,vI 0] <|
 T.ah h [.int .i64,.slice 96,.string,.slice 109,.int .u32,.int .i64] fun D E F G H I J K L M =>
 aw #[.agg #[vI D,.slice E F G,.string H,.slice I J K,av L,vI M],vI C])
 (T.ah B (yI 109) fun D E F G H I J K L M N O =>
 aR (Instr.buildSlice 23 1 #[(0,.agg #[vI D,.string E,vI F,vI G,vI H,.int .i32 I,vI J,.slice K L M,av N,vI O])]) fun P Q R =>
 T.ak h [vI 1,.slice P Q R,bh,aI,av 0,vI 0] <|
 T.ah h [.int .i64,.slice 96,.string,.slice 109,.int .u32,.int .i64] fun S U V W X Y Z a0 a1 a2 =>
 aw #[.agg #[vI S,.slice U V W,.string X,.slice Y Z a0,av a1,vI a2],vI 0]))
 (T.ah (g.add 1) [.string] fun l =>
 T.ah (g.add 2) [.slice 233] fun m n o =>
 aS 135 [.string l,.slice m n o] true [(true,[.int .i64,.slice 96,.string,.slice 109,.int .u32,.int .i64]),aQ] fun p q r s t u v w x y z =>
 T.new [vI 0,aI,bh,aI,av 0,vI 0] 194 fun A =>
 T.ak A [vI p,.slice q r s,.string t,.slice u v w,av x,vI y] <|
 T.join [aQ]
 (cond (z==(0:Int))
 (T.ah (g.add 1) [.string] fun B =>
 cond ((ByteArray.toList B)==[(aJ 112#8),(aJ 111#8),(aJ 111#8),(aJ 108#8)])
 (cond (f==(1:Int))
 (T.again 0 [vI 21])
 (T.ah (g.add 1) [.string] fun C =>
 cond ((ByteArray.toList C)==[(aJ 98#8),(aJ 121#8),(aJ 116#8),(aJ 101#8)])
 (cond (!(f==(1:Int)))
 (T.again 0 [vI 21])
 (T.again 0 [vI z]))
 (T.ah (g.add 1) [.string] fun D =>
 cond ((ByteArray.toList D)==[(aJ 119#8),(aJ 111#8),(aJ 114#8),(aJ 100#8)])
 (cond (!(f==(1:Int)))
 (T.again 0 [vI 21])
 (T.again 0 [vI z]))
 (T.ah (g.add 1) [.string] fun E =>
 cond ((ByteArray.toList E)==[(aJ 115#8),(aJ 112#8),(aJ 97#8),(aJ 99#8),(aJ 101#8)])
 (cond (!(f==(1:Int)))
 (T.again 0 [vI 21])
 (T.again 0 [vI z]))
 (T.again 0 [vI z])))))
 (T.ah (g.add 1) [.string] fun C =>
 cond ((ByteArray.toList C)==[(aJ 98#8),(aJ 121#8),(aJ 116#8),(aJ 101#8)])
 (cond (!(f==(1:Int)))
 (T.again 0 [vI 21])
 (T.again 0 [vI z]))
 (T.ah (g.add 1) [.string] fun D =>
 cond ((ByteArray.toList D)==[(aJ 119#8),(aJ 111#8),(aJ 114#8),(aJ 100#8)])
 (cond (!(f==(1:Int)))
 (T.again 0 [vI 21])
 (T.again 0 [vI z]))
 (T.ah (g.add 1) [.string] fun E =>
 cond ((ByteArray.toList E)==[(aJ 115#8),(aJ 112#8),(aJ 97#8),(aJ 99#8),(aJ 101#8)])
 (cond (!(f==(1:Int)))
 (T.again 0 [vI 21])
 (T.again 0 [vI z]))
 (T.again 0 [vI z])))))
 (T.again 0 [vI z])) fun B =>
 cond (B != (0:Int))
 (T.ak h [vI 0,aI,bh,aI,av 0,vI 0] <|
 T.ah h [.int .i64,.slice 96,.string,.slice 109,.int .u32,.int .i64] fun C D E F G H I J K L =>
 aw #[.agg #[vI C,.slice D E F,.string G,.slice H I J,av K,vI L],vI B])
 (T.ah A [.int .i64,.slice 96,.string,.slice 109,.int .u32,.int .i64] fun C D E F G H I J K L =>
 T.ak h [vI C,.slice D E F,.string G,.slice H I J,av K,vI L] <|
 T.ah h [.int .i64,.slice 96,.string,.slice 109,.int .u32,.int .i64] fun M N O P Q R S U V W =>
 aw #[.agg #[vI M,.slice N O P,.string Q,.slice R S U,av V,vI W],vI 0])))
def nQ (a:XA) (b:XA) (c:Option XC) (d e:Nat) (f:Int):bD Tryz.prog [1009,1015] Tryz.f103 [.agg #[.string a,.string b,.slice c d e],vI f]=jR a b c d e f:=aB
end Go.Sx
