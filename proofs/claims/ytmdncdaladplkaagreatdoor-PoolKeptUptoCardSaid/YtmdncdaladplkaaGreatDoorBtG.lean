/- Trees of functions. No condition. -/
import Derived.Test.YtmdncdaladplkaaGreatDoorSxF
import Derived.Test.YtmdncdaladplkaaGreatDoorProg
import Derived.KernelRfl
set_option linter.all false
set_option maxRecDepth 100000
set_option maxHeartbeats 4000000
namespace Go.Sx
open Go.Proofs
def kpT (c:Xac) (l8:Nat) (r:Xax) (k:T):T :=
 T.loop [aS] [vI 0] λa =>
 bz a l8
 (T.loop [aS] [vI 0] λb =>
 aR a l8 c λd =>
 T.ah ((d.add (aK a 3)).add 2) [.slice 53] λs e t =>
 bz b e
 (aR a l8 c λf =>
 T.ah ((f.add (aK a 3)).add 2) [.slice 53] λg h u =>
 aR b h g λi =>
 T.ah (i.add (aK b 2)) [.slice 64] λj l m =>
 cv 17 [.pointer (some r),.slice j l m] true [] <| aR a l8 c λn =>
 T.ah ((n.add (aK a 3)).add 2) [.slice 53] λo p w =>
 aR b p o λq =>
 T.aD (q.add (aK b 2)) [bm,aE 9] <|
 T.again 2 [aY b])
 (T.again 1 [aY a]))
 k
def iL (a:Xac) (b c:Nat):T :=
 cv 11 [.slice a b c] true [(false,[.pointer 108]),(false,[.pointer 45]),cH,cH] λd e f g =>
 cond (!f)
 (cond g
 (bj 10 [] λh =>
 T.ret (.bool h))
 cC)
 (T.new [bm,bm,vI 0,.bool false] 61 λh =>
 T.loop [aS] [vI 0] λi =>
 cond (decide (i<2))
 (cv 8 [.pointer d] false [(false,[.slice 30])] λj k l =>
 kpT j k h (T.again 0 [aY i]))
 (bj 18 [.pointer (some h),.func (Fn.func 19) #[] #[]] λj =>
 cond j
 (cv 8 [.pointer d] false [(false,[.slice 30])] λk l m =>
 cv 14 [.pointer e] false [(false,[.slice 94])] λn o p =>
 bj 13 [.slice k l m,.slice n o p] λq =>
 cond q
 (bj 10 [] λr =>
 T.ret (.bool r))
 cC)
 cC))
def mC (a:Xac) (b c:Nat):bP Xaz [] Tryz.f6 [.slice a b c]=iL a b c:=av
end Go.Sx
