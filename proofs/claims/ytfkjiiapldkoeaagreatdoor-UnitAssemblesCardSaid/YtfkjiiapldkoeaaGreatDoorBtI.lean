/- Trees of functions. No condition. -/
import Derived.Test.YtfkjiiapldkoeaaGreatDoorSxF
import Derived.Test.YtfkjiiapldkoeaaGreatDoorProg
import Derived.KernelRfl
set_option linter.all false
set_option maxRecDepth 100000
set_option maxHeartbeats 4000000
namespace Go.Sx
open Go.Proofs
def jS (a:Int) (b:Option XC) (c d:Nat):T :=
 T.new [vI 0,bh,vI 0,vI 0,vI 0,.int .i32 0,vI 0,aI,av 0,vI 0] 96 fun e =>
 cU 91 [vI a] fun f =>
 cU 161 [vI f] fun g =>
 cond ((c:Int) != g)
 (T.ak e [vI 0,bh,vI 0,vI 0,vI 0,.int .i32 0,vI 0,aI,av 0,vI 0] <|
 T.ah e (yI 109) fun h i j k l m n o p q r s =>
 aw #[.agg #[vI h,.string i,vI j,vI k,vI l,.int .i32 m,vI n,.slice o p q,av r,vI s],vI 20])
 (T.new [vI 0,bh,vI 0,vI 0,vI 0,.int .i32 0,vI 0,aI,av 0,vI 0] 96 fun h =>
 T.ak h [vI 2,bh,vI a,vI 0,vI 0,.int .i32 0,vI 0,aI,av 0,vI 0] <|
 T.join [aQ,aQ]
 (cond (f==(2:Int))
 (cond (f==(2:Int))
 (T.need (aZ 0 c) <|
 T.aA b fun i =>
 T.ah i [.slice 236] fun j k l =>
 aS 162 [.slice j k l,.bool false] true [aQ,aQ] fun m n =>
 T.ak ((h.add 2).add 1) [vI m] <|
 T.again 0 [vI n,vI 1])
 (cond (f==(3:Int))
 (cond (f==(3:Int))
 (T.need (aZ 0 c) <|
 T.aA b fun i =>
 T.ah i [.slice 236] fun j k l =>
 aS 162 [.slice j k l,.bool true] true [aQ,aQ] fun m n =>
 T.ak ((h.add 2).add 1) [vI m] <|
 T.again 0 [vI n,vI 1])
 (T.again 0 [vI 0,vI 0]))
 (cond (f==(5:Int))
 (cond (f==(5:Int))
 (T.need (aZ 0 c) <|
 T.aA b fun i =>
 T.ah i [.slice 236] fun j k l =>
 aS 162 [.slice j k l,.bool true] true [aQ,aQ] fun m n =>
 T.ak ((h.add 2).add 1) [vI m] <|
 T.again 0 [vI n,vI 1])
 (T.again 0 [vI 0,vI 0]))
 (cond (f==(7:Int))
 (T.need (aZ 0 c) <|
 T.aA b fun i =>
 T.ah i [.slice 236] fun j k l =>
 aS 162 [.slice j k l,.bool true] true [aQ,aQ] fun m n =>
 T.ak ((h.add 2).add 1) [vI m] <|
 T.again 0 [vI n,vI 1])
 (T.again 0 [vI 0,vI 0])))))
 (cond (f==(4:Int))
 (cond (f==(4:Int))
 (T.need (aZ 0 c) <|
 T.aA b fun i =>
 T.ah i [.slice 236] fun j k l =>
 aS 162 [.slice j k l,.bool false] true [aQ,aQ] fun m n =>
 T.ak ((h.add 2).add 1) [vI m] <|
 T.again 0 [vI n,vI 1])
 (cond (f==(3:Int))
 (cond (f==(3:Int))
 (T.need (aZ 0 c) <|
 T.aA b fun i =>
 T.ah i [.slice 236] fun j k l =>
 aS 162 [.slice j k l,.bool true] true [aQ,aQ] fun m n =>
 T.ak ((h.add 2).add 1) [vI m] <|
 T.again 0 [vI n,vI 1])
 (T.again 0 [vI 0,vI 0]))
 (cond (f==(5:Int))
 (cond (f==(5:Int))
 (T.need (aZ 0 c) <|
 T.aA b fun i =>
 T.ah i [.slice 236] fun j k l =>
 aS 162 [.slice j k l,.bool true] true [aQ,aQ] fun m n =>
 T.ak ((h.add 2).add 1) [vI m] <|
 T.again 0 [vI n,vI 1])
 (T.again 0 [vI 0,vI 0]))
 (cond (f==(7:Int))
 (T.need (aZ 0 c) <|
 T.aA b fun i =>
 T.ah i [.slice 236] fun j k l =>
 aS 162 [.slice j k l,.bool true] true [aQ,aQ] fun m n =>
 T.ak ((h.add 2).add 1) [vI m] <|
 T.again 0 [vI n,vI 1])
 (T.again 0 [vI 0,vI 0])))))
 (cond (f==(6:Int))
 (cond (f==(6:Int))
 (T.need (aZ 0 c) <|
 T.aA b fun i =>
 T.ah i [.slice 236] fun j k l =>
 aS 162 [.slice j k l,.bool false] true [aQ,aQ] fun m n =>
 T.ak ((h.add 2).add 1) [vI m] <|
 T.again 0 [vI n,vI 1])
 (cond (f==(3:Int))
 (cond (f==(3:Int))
 (T.need (aZ 0 c) <|
 T.aA b fun i =>
 T.ah i [.slice 236] fun j k l =>
 aS 162 [.slice j k l,.bool true] true [aQ,aQ] fun m n =>
 T.ak ((h.add 2).add 1) [vI m] <|
 T.again 0 [vI n,vI 1])
 (T.again 0 [vI 0,vI 0]))
 (cond (f==(5:Int))
 (cond (f==(5:Int))
 (T.need (aZ 0 c) <|
 T.aA b fun i =>
 T.ah i [.slice 236] fun j k l =>
 aS 162 [.slice j k l,.bool true] true [aQ,aQ] fun m n =>
 T.ak ((h.add 2).add 1) [vI m] <|
 T.again 0 [vI n,vI 1])
 (T.again 0 [vI 0,vI 0]))
 (cond (f==(7:Int))
 (T.need (aZ 0 c) <|
 T.aA b fun i =>
 T.ah i [.slice 236] fun j k l =>
 aS 162 [.slice j k l,.bool true] true [aQ,aQ] fun m n =>
 T.ak ((h.add 2).add 1) [vI m] <|
 T.again 0 [vI n,vI 1])
 (T.again 0 [vI 0,vI 0])))))
 (cond (f==(8:Int))
 (cond (f==(8:Int))
 (T.need (aZ 0 c) <|
 T.aA b fun i =>
 T.ah i [.slice 236] fun j k l =>
 aS 162 [.slice j k l,.bool false] true [aQ,aQ] fun m n =>
 T.ak ((h.add 2).add 1) [vI m] <|
 T.again 0 [vI n,vI 1])
 (cond (f==(3:Int))
 (cond (f==(3:Int))
 (T.need (aZ 0 c) <|
 T.aA b fun i =>
 T.ah i [.slice 236] fun j k l =>
 aS 162 [.slice j k l,.bool true] true [aQ,aQ] fun m n =>
 T.ak ((h.add 2).add 1) [vI m] <|
 T.again 0 [vI n,vI 1])
 (T.again 0 [vI 0,vI 0]))
 (cond (f==(5:Int))
 (cond (f==(5:Int))
 (T.need (aZ 0 c) <|
 T.aA b fun i =>
 T.ah i [.slice 236] fun j k l =>
 aS 162 [.slice j k l,.bool true] true [aQ,aQ] fun m n =>
 T.ak ((h.add 2).add 1) [vI m] <|
 T.again 0 [vI n,vI 1])
 (T.again 0 [vI 0,vI 0]))
 (cond (f==(7:Int))
 (T.need (aZ 0 c) <|
 T.aA b fun i =>
 T.ah i [.slice 236] fun j k l =>
 aS 162 [.slice j k l,.bool true] true [aQ,aQ] fun m n =>
 T.ak ((h.add 2).add 1) [vI m] <|
 T.again 0 [vI n,vI 1])
 (T.again 0 [vI 0,vI 0])))))
 (cond (f==(10:Int))
 (cond (f==(10:Int))
 (T.need (aZ 0 c) <|
 T.aA b fun i =>
 T.ah i [.slice 236] fun j k l =>
 aS 162 [.slice j k l,.bool false] true [aQ,aQ] fun m n =>
 T.ak ((h.add 2).add 1) [vI m] <|
 T.again 0 [vI n,vI 1])
 (cond (f==(3:Int))
 (cond (f==(3:Int))
 (T.need (aZ 0 c) <|
 T.aA b fun i =>
 T.ah i [.slice 236] fun j k l =>
 aS 162 [.slice j k l,.bool true] true [aQ,aQ] fun m n =>
 T.ak ((h.add 2).add 1) [vI m] <|
 T.again 0 [vI n,vI 1])
 (T.again 0 [vI 0,vI 0]))
 (cond (f==(5:Int))
 (cond (f==(5:Int))
 (T.need (aZ 0 c) <|
 T.aA b fun i =>
 T.ah i [.slice 236] fun j k l =>
 aS 162 [.slice j k l,.bool true] true [aQ,aQ] fun m n =>
 T.ak ((h.add 2).add 1) [vI m] <|
 T.again 0 [vI n,vI 1])
 (T.again 0 [vI 0,vI 0]))
 (cond (f==(7:Int))
 (T.need (aZ 0 c) <|
 T.aA b fun i =>
 T.ah i [.slice 236] fun j k l =>
 aS 162 [.slice j k l,.bool true] true [aQ,aQ] fun m n =>
 T.ak ((h.add 2).add 1) [vI m] <|
 T.again 0 [vI n,vI 1])
 (T.again 0 [vI 0,vI 0])))))
 (cond (f==(11:Int))
 (cond (f==(11:Int))
 (T.need (aZ 0 c) <|
 T.aA b fun i =>
 T.ah i [.slice 236] fun j k l =>
 aS 162 [.slice j k l,.bool false] true [aQ,aQ] fun m n =>
 T.ak ((h.add 2).add 1) [vI m] <|
 T.again 0 [vI n,vI 1])
 (cond (f==(3:Int))
 (cond (f==(3:Int))
 (T.need (aZ 0 c) <|
 T.aA b fun i =>
 T.ah i [.slice 236] fun j k l =>
 aS 162 [.slice j k l,.bool true] true [aQ,aQ] fun m n =>
 T.ak ((h.add 2).add 1) [vI m] <|
 T.again 0 [vI n,vI 1])
 (T.again 0 [vI 0,vI 0]))
 (cond (f==(5:Int))
 (cond (f==(5:Int))
 (T.need (aZ 0 c) <|
 T.aA b fun i =>
 T.ah i [.slice 236] fun j k l =>
 aS 162 [.slice j k l,.bool true] true [aQ,aQ] fun m n =>
 T.ak ((h.add 2).add 1) [vI m] <|
 T.again 0 [vI n,vI 1])
 (T.again 0 [vI 0,vI 0]))
 (cond (f==(7:Int))
 (T.need (aZ 0 c) <|
 T.aA b fun i =>
 T.ah i [.slice 236] fun j k l =>
 aS 162 [.slice j k l,.bool true] true [aQ,aQ] fun m n =>
 T.ak ((h.add 2).add 1) [vI m] <|
 T.again 0 [vI n,vI 1])
 (T.again 0 [vI 0,vI 0])))))
 (cond (f==(13:Int))
 (T.need (aZ 0 c) <|
 T.aA b fun i =>
 T.ah i [.slice 236] fun j k l =>
 aS 162 [.slice j k l,.bool false] true [aQ,aQ] fun m n =>
 T.ak ((h.add 2).add 1) [vI m] <|
 T.again 0 [vI n,vI 1])
 (cond (f==(3:Int))
 (cond (f==(3:Int))
 (T.need (aZ 0 c) <|
 T.aA b fun i =>
 T.ah i [.slice 236] fun j k l =>
 aS 162 [.slice j k l,.bool true] true [aQ,aQ] fun m n =>
 T.ak ((h.add 2).add 1) [vI m] <|
 T.again 0 [vI n,vI 1])
 (T.again 0 [vI 0,vI 0]))
 (cond (f==(5:Int))
 (cond (f==(5:Int))
 (T.need (aZ 0 c) <|
 T.aA b fun i =>
 T.ah i [.slice 236] fun j k l =>
 aS 162 [.slice j k l,.bool true] true [aQ,aQ] fun m n =>
 T.ak ((h.add 2).add 1) [vI m] <|
 T.again 0 [vI n,vI 1])
 (T.again 0 [vI 0,vI 0]))
 (cond (f==(7:Int))
 (T.need (aZ 0 c) <|
 T.aA b fun i =>
 T.ah i [.slice 236] fun j k l =>
 aS 162 [.slice j k l,.bool true] true [aQ,aQ] fun m n =>
 T.ak ((h.add 2).add 1) [vI m] <|
 T.again 0 [vI n,vI 1])
 (T.again 0 [vI 0,vI 0]))))))))))) fun i j =>
 cond (i != (0:Int))
 (T.ak e [vI 0,bh,vI 0,vI 0,vI 0,.int .i32 0,vI 0,aI,av 0,vI 0] <|
 T.ah e (yI 109) fun k l m n o p q r s t u v =>
 aw #[.agg #[vI k,.string l,vI m,vI n,vI o,.int .i32 p,vI q,.slice r s t,av u,vI v],vI i])
 (T.join [aQ,aQ,aQ]
 (cond (f==(4:Int))
 (T.need (aZ 1 c) <|
 T.aA b fun k =>
 T.ah (k.add 1) [.slice 236] fun l m n =>
 aS 162 [.slice l m n,.bool false] true [aQ,aQ] fun o p =>
 T.ak ((h.add 2).add 2) [vI o] <|
 T.again 0 [vI 0,vI p,vI 0])
 (cond (f==(5:Int))
 (cond (f==(5:Int))
 (T.need (aZ 1 c) <|
 T.aA b fun k =>
 T.ah (k.add 1) [.slice 236] fun l m n =>
 aS 162 [.slice l m n,.bool true] true [aQ,aQ] fun o p =>
 T.ak ((h.add 2).add 2) [vI o] <|
 T.again 0 [vI 0,vI p,vI 0])
 (cond (f==(7:Int))
 (T.need (aZ 1 c) <|
 T.aA b fun k =>
 T.ah (k.add 1) [.slice 236] fun l m n =>
 aS 162 [.slice l m n,.bool false] true [aQ,aQ] fun o p =>
 T.ak ((h.add 2).add 2) [vI o] <|
 cond (p==(0:Int))
 (T.need (aZ 2 c) <|
 T.aA b fun q =>
 T.ah (q.add 2) [.slice 236] fun r s t =>
 aS 162 [.slice r s t,.bool false] true [aQ,aQ] fun u v =>
 T.again 0 [vI 0,vI v,vI u])
 (T.again 0 [vI 0,vI p,vI 0]))
 (cond (f==(8:Int))
 (T.need (aZ 1 c) <|
 T.aA b fun k =>
 T.ah (k.add 1) [.slice 236] fun l m n =>
 aS 163 [.slice l m n,vI (-128:Int),vI 127] true [aQ,aQ] fun o p =>
 T.again 0 [vI 0,vI p,vI o])
 (cond (f==(9:Int))
 (T.need (aZ 0 c) <|
 T.aA b fun k =>
 T.ah k [.slice 236] fun l m n =>
 aS 163 [.slice l m n,vI 0,vI 255] true [aQ,aQ] fun o p =>
 T.again 0 [vI 0,vI p,vI o])
 (cond (f==(11:Int))
 (T.need (aZ 1 c) <|
 T.aA b fun k =>
 T.ah (k.add 1) [.slice 236] fun l m n =>
 T.need (aZ 0 m) <|
 T.aA l fun o =>
 T.ah o [.int .i64] fun p =>
 cond (p != (3:Int))
 (T.ak e [vI 0,bh,vI 0,vI 0,vI 0,.int .i32 0,vI 0,aI,av 0,vI 0] <|
 T.ah e (yI 109) fun q r s t u v w x y z A B =>
 aw #[.agg #[vI q,.string r,vI s,vI t,vI u,.int .i32 v,vI w,.slice x y z,av A,vI B],vI 20])
 (T.need (aZ 1 c) <|
 T.aA b fun q =>
 T.ah (q.add 1) [.slice 236] fun r s t =>
 T.need (aZ 0 s) <|
 T.aA r fun u =>
 T.ah (u.add 1) [.string] fun v =>
 cond (!((ByteArray.toList v)==[(aJ 61#8)]))
 (T.ak e [vI 0,bh,vI 0,vI 0,vI 0,.int .i32 0,vI 0,aI,av 0,vI 0] <|
 T.ah e (yI 109) fun w x y z A B C D E F G H =>
 aw #[.agg #[vI w,.string x,vI y,vI z,vI A,.int .i32 B,vI C,.slice D E F,av G,vI H],vI 20])
 (T.need (aZ 1 c) <|
 T.aA b fun w =>
 T.ah (w.add 1) [.slice 236] fun x y z =>
 T.need (((0:Int)<=(1:Int))/\(((1:Int)<=(y:Int))/\((y:Int)<=(z:Int)))) <|
 aS 164 [.slice (if (z=1) then x else (Option.map (fun A=>Addr.add A 4) x)) ((Int.toNat (y:Int))-1) (z-1)] true [(true,(yL 109)),aQ] fun A B C D E =>
 T.ak (h.add 7) [.slice A B C,av D] <|
 T.again 0 [vI 0,vI E,vI 0])))
 (cond (f==(10:Int))
 (cond (f==(10:Int))
 (cv j c b fun k =>
 T.ah (k.add (bW j 1)) [.slice 236] fun l m n =>
 aS 164 [.slice l m n] true [(true,(yL 109)),aQ] fun o p q r s =>
 T.ak (h.add 7) [.slice o p q,av r] <|
 T.again 0 [vI 0,vI s,vI 0])
 (T.again 0 [vI 0,vI i,vI 0]))
 (cond (f==(12:Int))
 (cond (f==(12:Int))
 (cv j c b fun k =>
 T.ah (k.add (bW j 1)) [.slice 236] fun l m n =>
 aS 164 [.slice l m n] true [(true,(yL 109)),aQ] fun o p q r s =>
 T.ak (h.add 7) [.slice o p q,av r] <|
 T.again 0 [vI 0,vI s,vI 0])
 (T.again 0 [vI 0,vI i,vI 0]))
 (cond (f==(13:Int))
 (cv j c b fun k =>
 T.ah (k.add (bW j 1)) [.slice 236] fun l m n =>
 aS 164 [.slice l m n] true [(true,(yL 109)),aQ] fun o p q r s =>
 T.ak (h.add 7) [.slice o p q,av r] <|
 T.again 0 [vI 0,vI s,vI 0])
 (T.again 0 [vI 0,vI i,vI 0])))))))))
 (cond (f==(6:Int))
 (T.need (aZ 1 c) <|
 T.aA b fun k =>
 T.ah (k.add 1) [.slice 236] fun l m n =>
 aS 162 [.slice l m n,.bool true] true [aQ,aQ] fun o p =>
 T.ak ((h.add 2).add 2) [vI o] <|
 T.again 0 [vI 0,vI p,vI 0])
 (cond (f==(7:Int))
 (T.need (aZ 1 c) <|
 T.aA b fun k =>
 T.ah (k.add 1) [.slice 236] fun l m n =>
 aS 162 [.slice l m n,.bool false] true [aQ,aQ] fun o p =>
 T.ak ((h.add 2).add 2) [vI o] <|
 cond (p==(0:Int))
 (T.need (aZ 2 c) <|
 T.aA b fun q =>
 T.ah (q.add 2) [.slice 236] fun r s t =>
 aS 162 [.slice r s t,.bool false] true [aQ,aQ] fun u v =>
 T.again 0 [vI 0,vI v,vI u])
 (T.again 0 [vI 0,vI p,vI 0]))
 (cond (f==(8:Int))
 (T.need (aZ 1 c) <|
 T.aA b fun k =>
 T.ah (k.add 1) [.slice 236] fun l m n =>
 aS 163 [.slice l m n,vI (-128:Int),vI 127] true [aQ,aQ] fun o p =>
 T.again 0 [vI 0,vI p,vI o])
 (cond (f==(9:Int))
 (T.need (aZ 0 c) <|
 T.aA b fun k =>
 T.ah k [.slice 236] fun l m n =>
 aS 163 [.slice l m n,vI 0,vI 255] true [aQ,aQ] fun o p =>
 T.again 0 [vI 0,vI p,vI o])
 (cond (f==(11:Int))
 (T.need (aZ 1 c) <|
 T.aA b fun k =>
 T.ah (k.add 1) [.slice 236] fun l m n =>
 T.need (aZ 0 m) <|
 T.aA l fun o =>
 T.ah o [.int .i64] fun p =>
 cond (p != (3:Int))
 (T.ak e [vI 0,bh,vI 0,vI 0,vI 0,.int .i32 0,vI 0,aI,av 0,vI 0] <|
 T.ah e (yI 109) fun q r s t u v w x y z A B =>
 aw #[.agg #[vI q,.string r,vI s,vI t,vI u,.int .i32 v,vI w,.slice x y z,av A,vI B],vI 20])
 (T.need (aZ 1 c) <|
 T.aA b fun q =>
 T.ah (q.add 1) [.slice 236] fun r s t =>
 T.need (aZ 0 s) <|
 T.aA r fun u =>
 T.ah (u.add 1) [.string] fun v =>
 cond (!((ByteArray.toList v)==[(aJ 61#8)]))
 (T.ak e [vI 0,bh,vI 0,vI 0,vI 0,.int .i32 0,vI 0,aI,av 0,vI 0] <|
 T.ah e (yI 109) fun w x y z A B C D E F G H =>
 aw #[.agg #[vI w,.string x,vI y,vI z,vI A,.int .i32 B,vI C,.slice D E F,av G,vI H],vI 20])
 (T.need (aZ 1 c) <|
 T.aA b fun w =>
 T.ah (w.add 1) [.slice 236] fun x y z =>
 T.need (((0:Int)<=(1:Int))/\(((1:Int)<=(y:Int))/\((y:Int)<=(z:Int)))) <|
 aS 164 [.slice (if (z=1) then x else (Option.map (fun A=>Addr.add A 4) x)) ((Int.toNat (y:Int))-1) (z-1)] true [(true,(yL 109)),aQ] fun A B C D E =>
 T.ak (h.add 7) [.slice A B C,av D] <|
 T.again 0 [vI 0,vI E,vI 0])))
 (cond (f==(10:Int))
 (cond (f==(10:Int))
 (cv j c b fun k =>
 T.ah (k.add (bW j 1)) [.slice 236] fun l m n =>
 aS 164 [.slice l m n] true [(true,(yL 109)),aQ] fun o p q r s =>
 T.ak (h.add 7) [.slice o p q,av r] <|
 T.again 0 [vI 0,vI s,vI 0])
 (T.again 0 [vI 0,vI i,vI 0]))
 (cond (f==(12:Int))
 (cond (f==(12:Int))
 (cv j c b fun k =>
 T.ah (k.add (bW j 1)) [.slice 236] fun l m n =>
 aS 164 [.slice l m n] true [(true,(yL 109)),aQ] fun o p q r s =>
 T.ak (h.add 7) [.slice o p q,av r] <|
 T.again 0 [vI 0,vI s,vI 0])
 (T.again 0 [vI 0,vI i,vI 0]))
 (cond (f==(13:Int))
 (cv j c b fun k =>
 T.ah (k.add (bW j 1)) [.slice 236] fun l m n =>
 aS 164 [.slice l m n] true [(true,(yL 109)),aQ] fun o p q r s =>
 T.ak (h.add 7) [.slice o p q,av r] <|
 T.again 0 [vI 0,vI s,vI 0])
 (T.again 0 [vI 0,vI i,vI 0]))))))))))) fun k l m =>
 cond (l != (0:Int))
 (T.ak e [vI 0,bh,vI 0,vI 0,vI 0,.int .i32 0,vI 0,aI,av 0,vI 0] <|
 T.ah e (yI 109) fun n o p q r s t u v w x y =>
 aw #[.agg #[vI n,.string o,vI p,vI q,vI r,.int .i32 s,vI t,.slice u v w,av x,vI y],vI l])
 (T.ak ((h.add 2).add 3) [.int .i32 (IntKind.wrap .i32 m)] <|
 T.ah h (yI 109) fun n o p q r s t u v w x y =>
 T.ak e [vI n,.string o,vI p,vI q,vI r,.int .i32 s,vI t,.slice u v w,av x,vI y] <|
 T.ah e (yI 109) fun z A B C D E F G H I J K =>
 aw #[.agg #[vI z,.string A,vI B,vI C,vI D,.int .i32 E,vI F,.slice G H I,av J,vI K],vI 0])))
def oJ (a:Int) (b:Option XC) (c d:Nat):bD Tryz.prog [1022,1047] Tryz.f134 [vI a,.slice b c d]=jS a b c d:=aB
def wh (a:XA) (b:XA) (c:Option XC) (d e:Nat) (f:Int):T :=
 T.new [.string a,.string b,.slice c d e] 130 fun g =>
 T.new [vI 0,aI,bh,aI,av 0,vI 0] 134 fun h =>
 T.join [aQ]
 (cond (f != (1:Int))
 (T.again 0 [vI 0])
 (T.again 0 [vI f])) fun i =>
 T.ah (g.add 1) [.string] fun j =>
 cond ((ByteArray.toList j)==[])
 (T.ak h [vI 0,aI,bh,aI,av 0,vI 0] <|
 T.ah h [.int .i64,.slice 96,.string,.slice 109,.int .u32,.int .i64] fun k l m n o p q r s t =>
 aw #[.agg #[vI k,.slice l m n,.string o,.slice p q r,av s,vI t],vI 0])
 (T.new [vI 0,aI,bh,aI,av 0,vI 0] 134 fun k =>
 T.join [aQ,aQ]
 (T.ah (g.add 1) [.string] fun l =>
 aS 98 [.string l] true [aQ,bZ] fun m n =>
 cond n
 (T.new [vI 0,bh,vI 0,vI 0,vI 0,.int .i32 0,vI 0,aI,av 0,vI 0] 96 fun o =>
 T.ah (g.add 2) [.slice 174] fun p q r =>
 aS 99 [vI m,.slice p q r] true [(true,(yI 109)),aQ] fun s t u v w x y z A B C D E =>
 T.ak o [vI s,.string t,vI u,vI v,vI w,.int .i32 x,vI y,.slice z A B,av C,vI D] <|
 T.ah o (yI 109) fun F G H I J K L M N O P Q =>
 aR (Instr.buildSlice 23 1 #[(0,.agg #[vI F,.string G,vI H,vI I,vI J,.int .i32 K,vI L,.slice M N O,av P,vI Q])]) fun R S U =>
 T.ak k [vI 1,.slice R S U,bh,aI,av 0,vI 0] <|
 T.again 0 [vI 0,vI E])
 (T.ah (g.add 1) [.string] fun o =>
 T.ah (g.add 2) [.slice 174] fun p q r =>
 aS 100 [.string o,.slice p q r] true [(true,[.int .i64,.slice 96,.string,.slice 109,.int .u32,.int .i64]),aQ,aQ] fun s t u v w x y z A B C D =>
 T.ak k [vI s,.slice t u v,.string w,.slice x y z,av A,vI B] <|
 T.again 0 [vI C,vI D])) fun l m =>
 cond (m != (0:Int))
 (T.ak h [vI 0,aI,bh,aI,av 0,vI 0] <|
 T.ah h [.int .i64,.slice 96,.string,.slice 109,.int .u32,.int .i64] fun n o p q r s t u v w =>
 aw #[.agg #[vI n,.slice o p q,.string r,.slice s t u,av v,vI w],vI m])
 (cond (decide (l>=(0:Int)))
 (cond (l != i)
 (T.ak h [vI 0,aI,bh,aI,av 0,vI 0] <|
 T.ah h [.int .i64,.slice 96,.string,.slice 109,.int .u32,.int .i64] fun n o p q r s t u v w =>
 aw #[.agg #[vI n,.slice o p q,.string r,.slice s t u,av v,vI w],vI 21])
 (T.ah k [.int .i64,.slice 96,.string,.slice 109,.int .u32,.int .i64] fun n o p q r s t u v w =>
 T.ak h [vI n,.slice o p q,.string r,.slice s t u,av v,vI w] <|
 T.ah h [.int .i64,.slice 96,.string,.slice 109,.int .u32,.int .i64] fun x y z A B C D E F G =>
 aw #[.agg #[vI x,.slice y z A,.string B,.slice C D E,av F,vI G],vI 0]))
 (T.ah k [.int .i64,.slice 96,.string,.slice 109,.int .u32,.int .i64] fun n o p q r s t u v w =>
 T.ak h [vI n,.slice o p q,.string r,.slice s t u,av v,vI w] <|
 T.ah h [.int .i64,.slice 96,.string,.slice 109,.int .u32,.int .i64] fun x y z A B C D E F G =>
 aw #[.agg #[vI x,.slice y z A,.string B,.slice C D E,av F,vI G],vI 0])))
def xU (a:XA) (b:XA) (c:Option XC) (d e:Nat) (f:Int):bD Tryz.prog [1003,1014] Tryz.f65 [.agg #[.string a,.string b,.slice c d e],vI f]=wh a b c d e f:=aB
end Go.Sx
