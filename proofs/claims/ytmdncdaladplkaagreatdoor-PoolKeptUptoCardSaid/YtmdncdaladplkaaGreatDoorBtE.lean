/- Trees of functions. No condition. -/
import Derived.Test.YtmdncdaladplkaaGreatDoorSxF
import Derived.Test.YtmdncdaladplkaaGreatDoorProg
import Derived.KernelRfl
set_option linter.all false
set_option maxRecDepth 100000
set_option maxHeartbeats 4000000
namespace Go.Sx
open Go.Proofs
def jT (a:Xac) (b c:Nat):T :=
 cv 75 [.slice a b c] false [(false,[.slice 3])] λd e f =>
 cond (decide ((e:Int)>0))
 (T.need (jc 0 e) <|
 T.bh d λg =>
 T.ah g [.int .i64] λh =>
 T.bG [(g,[vI h])] <|
 bR #[bm,vI h,vI 24])
 (bg (Instr.buildSlice 67 0 #[]) λg h i =>
 bg (Builtin.append_ #[67,67] 67 #[.slice g h i,.slice a b c]) λj k l =>
 T.loop [aS] [vI 0] λm =>
 bz m b
 (T.loop [aS] [vI 0] λn =>
 bz n k
 (aR n k j λo =>
 T.ah ((o.add (aK n 3)).add 1) (yL 64) λp q r s =>
 cv 76 [.agg #[.slice p q r,aE s],.slice a b c] false [(true,(yL 64))] λt u v w =>
 aR n k j λx =>
 T.aD ((x.add (aK n 3)).add 1) [.slice t u v,aE w] <|
 T.again 1 [aY n])
 (T.again 0 [aY m]))
 (bR #[.slice j k l,vI 0,vI 0]))
def oS (a:Xac) (b c:Nat):bP Xaz [] Tryz.f47 [.slice a b c]=jT a b c:=av
def lh (a:Xac) (b c:Nat):T :=
 T.loop [fH,aS] [bm,vI 0] λd e f g =>
 bz g b
 (bj 100 [.slice a b c,vI g,vI g] λh =>
 cond h
 (bg (Instr.buildSlice 135 1 #[(0,vI g)]) λi j k =>
 bg (Builtin.append_ #[135,135] 135 #[.slice d e f,.slice i j k]) λl m n =>
 T.again 0 [.slice l m n,aY g])
 (T.again 0 [.slice d e f,aY g]))
 (T.ret (.slice d e f))
def qp (a:Xac) (b c:Nat):bP Xaz [] Tryz.f75 [.slice a b c]=lh a b c:=av
def Q9 (n a:Xax) (o:Int):T :=
 T.ah n (yL 64) λb c d e =>
 T.ah a (yL 64) λf g h i =>
 T.call Xaz 74 [.agg #[.slice b c d,.int .u32 e],.agg #[.slice f g h,.int .u32 i]] false [(true,(yL 64))] λj k l m =>
 T.aD n [.slice j k l,.int .u32 m] <|
 T.again 0 [vI (IntKind.wrap .i64 (o+1))]
def lW (a:Xac) (b c:Nat) (d:Int) (e:Xac) (f g:Nat):T :=
 T.new [.slice a b c,aE d] 53 λh =>
 T.new [bm,aE 0] 53 λi =>
 T.ah (h.add 1) [.int .u32] λj =>
 T.new [bm,aE 0] 53 λk =>
 T.aD k [bm,aE j] <|
 T.loop [aS] [vI 0] λl =>
 T.ah h [.slice 64] λm n o =>
 bz l n
 (T.ah h [.slice 64] λp q r =>
 aR l q p λs =>
 T.ah (s.add (aK l 2)) [.string] λt =>
 cY 101 [.slice e f g,.string t] λu =>
 T.ah h [.slice 64] λv w x =>
 aR l w v λy =>
 T.ah (y.add (aK l 2)) [.string,.int .u32] λz A =>
 bg (Instr.buildSlice 50 1 #[(0,.agg #[.string z,aE A])]) λB C D =>
 T.new [bm,aE 0] 53 λE =>
 T.aD E [.slice B C D,aE 0] <|
 cond (decide (u>=0))
 (aR u f e λF =>
 T.ah ((F.add (aK u 3)).add 1) (yL 64) λG H I J =>
 T.ah h [.slice 64] λK L M =>
 aR l L K λN =>
 T.ah ((N.add (aK l 2)).add 1) [.int .u32] λO =>
 cv 102 [.agg #[.slice G H I,aE J],aE O] false [(true,(yL 64))] λP Q R S =>
 T.bG [(h,[.slice K L M])] <|
 T.aD E [.slice P Q R,aE S] <|
 Q9 k E l)
 (Q9 k E l))
 (T.ah k (yL 64) λp q r s =>
 T.aD i [.slice p q r,aE s] <|
 T.ah i (yL 64) λt u v w =>
 T.ret (.agg #[.slice t u v,aE w]))
def rm (a:Xac) (b c:Nat) (d:Int) (e:Xac) (f g:Nat):bP Xaz [] Tryz.f76 [.agg #[.slice a b c,.int .u32 d],.slice e f g]=lW a b c d e f g:=av
def me (a:Xac) (b c:Nat) (d e:Int):T :=
 bg (Instr.makeSlice 243 (vI (b:Int)) (vI (b:Int))) λf g h =>
 bg (Instr.buildSlice 135 1 #[(0,vI d)]) λi j k =>
 T.loop [cH,fH] [.bool false,.slice i j k] λl m n o =>
 cond (decide ((n:Int)>0))
 (T.need ((0<=(bY ((n:Int)-1)))/\((bY ((n:Int)-1))<(n:Int))) <|
 T.bh m λp =>
 T.ah (p.add ((Int.toNat (bY ((n:Int)-1)))*1)) [.int .i64] λq =>
 T.need (((0:Int)<=0)/\((0<=(bY ((n:Int)-1)))/\((bY ((n:Int)-1))<=(o:Int)))) <|
 T.loop [cH,fH,aS] [.bool l,.slice (if (o=0) then m else (Option.map (λr=>Addr.add r 0) m)) ((Int.toNat (bY ((n:Int)-1)))-0) (o-0),vI 0] λr s t u v =>
 aR q b a λw =>
 T.ah ((w.add (aK q 3)).add 1) [.slice 64] λx y z =>
 bz v y
 (aR q b a λA =>
 T.ah ((A.add (aK q 3)).add 1) [.slice 64] λB C D =>
 aR v C B λE =>
 T.ah (E.add (aK v 2)) [.string] λF =>
 cY 101 [.slice a b c,.string F] λG =>
 cond (G==e)
 fR
 (cond (decide (G>=0))
 (aR G g f λH =>
 T.ah (H.add (aK G 1)) [.bool] λI =>
 cond (!I)
 (aR G g f λJ =>
 T.aD (J.add (aK G 1)) [.bool true] <|
 bg (Instr.buildSlice 135 1 #[(0,vI G)]) λK L M =>
 bg (Builtin.append_ #[135,135] 135 #[.slice s t u,.slice K L M]) λN O P =>
 T.again 1 [.bool r,.slice N O P,aY v])
 (T.again 1 [.bool r,.slice s t u,aY v]))
 (T.again 1 [.bool r,.slice s t u,aY v])))
 (T.again 0 [.bool r,.slice s t u]))
 cC
def qZ (a:Xac) (b c:Nat) (d e:Int):bP Xaz [] Tryz.f100 [.slice a b c,vI d,vI e]=me a b c d e:=av
def lA (a:Xac) (b c:Nat) (d:Xaa):T :=
 T.loop [aS,aS] [vI 0,vI 0] λe f =>
 bz f b
 (aR f b a λg =>
 T.ah (g.add (aK f 3)) [.string] λh =>
 cond ((ByteArray.toList h)==(ByteArray.toList d))
 (T.ret (vI f))
 (T.again 0 [vI e,aY f]))
 (T.ret (vI (-1)))
def ph (a:Xac) (b c:Nat) (d:Xaa):bP Xaz [] Tryz.f101 [.slice a b c,.string d]=lA a b c d:=av
def Sn (S:Nat) (d:Xac) (b:Nat) (R c:Xax) (s:Xac) (t u:Nat):T :=
 T.loop [aS] [vI 0] λa =>
 bz a b
 (T.ah (c.add 2) [.slice 46] λe f g =>
 aR a b d λh =>
 T.ah (h.add (aK a 4)) [.slice 55] λi j k =>
 cv 48 [.pointer (some c),vI a,.slice i j k,.slice s t u] false [(false,[.slice 55])] λw x y =>
 T.bG [((c.add 2),[.slice e f g])] <|
 bg (Instr.buildSlice 43 1 #[(0,.slice w x y)]) λz A B =>
 T.bG [((h.add (aK a 4)),[.slice i j k]),((c.add 2),[.slice e f g])] <|
 bg (Builtin.append_ #[43,43] 43 #[.slice e f g,.slice z A B]) λC D E =>
 T.bG [((h.add (aK a 4)),[.slice i j k])] <|
 T.aD (c.add 2) [.slice C D E] <|
 T.ah (c.add 3) [.slice 46] λl m n =>
 aR a b d λo =>
 T.ah ((o.add (aK a 4)).add 1) [.slice 55] λp q r =>
 cv 48 [.pointer (some c),vI a,.slice p q r,.slice s t u] false [(false,[.slice 55])] λF G H =>
 T.bG [((c.add 3),[.slice l m n])] <|
 bg (Instr.buildSlice 43 1 #[(0,.slice F G H)]) λI J K =>
 T.bG [(((o.add (aK a 4)).add 1),[.slice p q r]),((c.add 3),[.slice l m n])] <|
 bg (Builtin.append_ #[43,43] 43 #[.slice l m n,.slice I J K]) λL M N =>
 T.bG [(((o.add (aK a 4)).add 1),[.slice p q r])] <|
 T.aD (c.add 3) [.slice L M N] <|
 T.again S [aY a])
 (T.aD R [vI 0,vI 0,bZ] <|
 T.ah R [.int .i64,.int .i64,.string] λO P Q =>
 bR #[.pointer (some c),.agg #[vI O,vI P,.string Q]])
def QY (w:Nat) (b:Xac) (c:Nat) (u:Xax) (n:Xac) (o:Nat) (d:Int):T :=
 T.loop [aS,aS] [vI 0,vI d] λa i =>
 aR a c b λp =>
 T.ah ((p.add (aK a 4)).add 2) [.slice 116] λx q y =>
 cond (decide (i>=(q:Int)))
 (aR a c b λe =>
 T.ah ((e.add (aK a 4)).add 2) [.slice 116] λh f j =>
 T.again w [aY a,vI (bY (i-(f:Int)))])
 (aR a c b λe =>
 T.ah ((e.add (aK a 4)).add 2) [.slice 116] λh f j =>
 aR d o n λk =>
 T.ah (k.add (aK d 1)) [.int .i64] λg =>
 aR g f h λl =>
 T.ah (l.add (aK g 3)) [.string] λm =>
 T.bG [((l.add (aK g 3)),[.string m]),((k.add (aK d 1)),[vI g]),(((e.add (aK a 4)).add 2),[.slice h f j])] <|
 T.aD u [vI 24,vI a,.string m] <|
 T.ah u [.int .i64,.int .i64,.string] λr s t =>
 bR #[.pointer none,.agg #[vI r,vI s,.string t]])
def PD (d:Xac) (b:Nat) (a1 t:Xax):T :=
 T.loop [fH,fH,aS] [bm,bm,vI 0] λp9 l10 n o p u c =>
 bz c b
 (T.loop [fH,fH,aS] [.slice p9 l10 n,.slice o p u,vI 0] λf g h q r s e =>
 aR c b d λw =>
 T.ah ((w.add (aK c 4)).add 2) [.slice 116] λp24 x l26 =>
 bz e x
 (aR c b d λy =>
 T.ah ((y.add (aK c 4)).add 2) [.slice 116] λz A l30 =>
 aR e A z λB =>
 T.ah (B.add (aK e 3)) [.string,.slice 64,.int .u32] λYA C D E F =>
 T.new [bZ,bm,aE 0] 116 λa =>
 T.aD a [.string YA,.slice C D E,aE F] <|
 T.ah a [.string] λi =>
 T.ah (a.add 1) (yL 64) λj k l m =>
 fo 45 [.pointer (some t),vI c,.string i] λG =>
 T.bG [((a.add 1),[.slice j k l,aE m])] <|
 cv 46 [.pointer (some t),vI c,.agg #[.slice j k l,aE m]] false [(true,(yL 64))] λH I J K =>
 T.bG [(a,[.string i])] <|
 bg (Instr.buildSlice 67 1 #[(0,.agg #[.string G,.slice H I J,aE K])]) λL M N =>
 T.bG [((a.add 1),[.slice j k l,aE m]),(a,[.string i])] <|
 bg (Builtin.append_ #[67,67] 67 #[.slice f g h,.slice L M N]) λO P Q =>
 T.bG [((a.add 1),[.slice j k l,aE m]),(a,[.string i])] <|
 bg (Instr.buildSlice 135 1 #[(0,vI e)]) λR S U =>
 bg (Builtin.append_ #[135,135] 135 #[.slice q r s,.slice R S U]) λV W X =>
 T.again 2 [.slice O P Q,.slice V W X,aY e])
 (T.again 1 [.slice f g h,.slice q r s,aY c]))
 (cv 47 [.slice p9 l10 n] true [(false,[.slice 116]),aS,aS] λf g h Y Z =>
 cond (Z != 0) (QY 2 d b a1 o p Y) (Sn 2 d b a1 t f g h))
def lf (a:Xac) (b c:Nat):T :=
 T.new [vI 0,vI 0,bZ] 91 λd =>
 cv 43 [.slice a b c] false [(true,[.int .i64,.int .i64,.string])] λe f g =>
 T.new [vI 0,vI 0,bZ] 91 λh =>
 T.aD h [vI e,vI f,.string g] <|
 T.ah h [.int .i64] λi =>
 cond (i != 0)
 (T.ah h [.int .i64,.int .i64,.string] λj k l =>
 T.bG [(h,[vI j,vI k,.string l])] <|
 T.aD d [vI j,vI k,.string l] <|
 T.ah d [.int .i64,.int .i64,.string] λm n o =>
 bR #[.pointer none,.agg #[vI m,vI n,.string o]])
 (T.new [.slice a b c,bm,bm,bm] 45 λj =>
 T.loop [aS] [vI 0] λk =>
 bz k b
 (aR k b a λl =>
 T.ah (l.add (aK k 4)) [.slice 55] λm n o =>
 cv 44 [.pointer (some j),vI k,vI 0,.slice m n o] true [] <| aR k b a λp =>
 T.ah ((p.add (aK k 4)).add 1) [.slice 55] λq r s =>
 cv 44 [.pointer (some j),vI k,vI 1,.slice q r s] true [] <| T.again 0 [aY k])
 (PD a b d j))
def oY (a:Xac) (b c:Nat):bP Xaz [] Tryz.f24 [.slice a b c]=lf a b c:=av
def yv (a:Xax):T :=
 T.ah a [.int .i64,.int .i64,.string] λb c d =>
 T.ret (.agg #[vI b,vI c,.string d])
def ji (a:Xac) (b c:Nat):T :=
 T.new [vI 0,vI 0,bZ] 91 λd =>
 cond ((b:Int)==0)
 (T.aD d [vI 25,vI 0,bZ] <|
 yv d)
 (cond (decide ((b:Int)>64))
 (T.aD d [vI 4,vI 0,bZ] <|
 yv d)
 (T.loop [aS] [vI 0] λe =>
 bz e b
 (aR e b a λf =>
 T.ah (f.add (aK e 4)) (yU 55 116) λg h i j k l m n o p q r =>
 cY 70 [.agg #[.slice g h i,.slice j k l,.slice m n o,.slice p q r]] λs =>
 cond (s != 0)
 (T.aD d [vI 31,vI e,bZ] <|
 yv d)
 (T.again 0 [aY e]))
 (T.loop [aS] [vI 0] λf =>
 bz f b
 (T.loop [aS] [vI 0] λg =>
 aR f b a λh =>
 T.ah ((h.add (aK f 4)).add 3) [.slice 9] λi j k =>
 bz g j
 (T.loop [aS] [vI 0] λl =>
 cond (decide (l<f))
 (aR l b a λm =>
 T.ah ((m.add (aK l 4)).add 3) [.slice 9] λn o p =>
 aR f b a λq =>
 T.ah ((q.add (aK f 4)).add 3) [.slice 9] λr s t =>
 aR g s r λu =>
 T.ah (u.add (aK g 1)) [.string] λv =>
 bj 52 [.slice n o p,.string v] λw =>
 T.bG [(((q.add (aK f 4)).add 3),[.slice r s t])] <|
 cond w
 (aR f b a λx =>
 T.ah ((x.add (aK f 4)).add 3) [.slice 9] λy z A =>
 aR g z y λB =>
 T.ah (B.add (aK g 1)) [.string] λC =>
 T.aD d [vI 22,vI f,.string C] <|
 yv d)
 (T.again 3 [aY l]))
 (T.again 2 [aY g]))
 (T.again 1 [aY f]))
 (T.loop [aS] [vI 0] λg =>
 bz g b
 (fo 71 [.slice a b c,vI g] λh =>
 cond (!((ByteArray.toList h)==[]))
 (T.aD d [vI 23,vI g,.string h] <|
 yv d)
 (T.again 2 [aY g]))
 (T.aD d [vI 0,vI 0,bZ] <|
 yv d)))))
def nr (a:Xac) (b c:Nat):bP Xaz [] Tryz.f43 [.slice a b c]=ji a b c:=av
def fE (a:Xac) (b c:Int) (d:Xac) (e f:Nat):T :=
 T.loop [aS] [vI 0] λg =>
 bz g e
 (aR g e d λh =>
 T.ah (h.add (aK g 10)) [.int .i64] λi =>
 cond (i==1)
 (T.bh a λj =>
 T.ah (j.add 1) [.slice 178] λk l m =>
 aR g e d λn =>
 T.ah ((n.add (aK g 10)).add 1) [.string] λo =>
 bg (Instr.buildSlice 42 1 #[(0,.agg #[vI b,vI c,vI g,.string o])]) λp q r =>
 T.bG [(((n.add (aK g 10)).add 1),[.string o]),((j.add 1),[.slice k l m])] <|
 bg (Builtin.append_ #[42,42] 42 #[.slice k l m,.slice p q r]) λs t u =>
 T.bG [(((n.add (aK g 10)).add 1),[.string o])] <|
 T.bh a λv =>
 T.aD (v.add 1) [.slice s t u] <|
 T.again 0 [aY g])
 (T.again 0 [aY g]))
 (bR #[])
def jn (a:Xac) (b c:Int) (d:Xac) (e f:Nat):bP Xaz [] Tryz.f44 [.pointer a,vI b,vI c,.slice d e f]=fE a b c d e f:=av
def fN (a:Xac) (b:Int) (c:Xaa):T :=
 T.bh a λd =>
 T.ah d [.slice 70] λe f g =>
 cY 72 [.slice e f g,vI b,.string c] λh =>
 T.loop [(false,[.string]),aS] [bZ,vI 0] λi j =>
 T.bh a λk =>
 T.ah (k.add 1) [.slice 178] λl m n =>
 bz j m
 (T.bh a λo =>
 T.ah (o.add 1) [.slice 178] λp q r =>
 aR j q p λs =>
 T.ah (s.add (aK j 4)) [.int .i64] λt =>
 cond (t==h)
 (T.bh a λu =>
 T.ah (u.add 1) [.slice 178] λv w x =>
 aR j w v λy =>
 T.ah ((y.add (aK j 4)).add 3) [.string] λz =>
 cond ((ByteArray.toList z)==(ByteArray.toList c))
 (fo 73 [vI j] λA =>
 T.need ((((1+A.size):Nat):Int)<=9223372036854775807) <|
 T.ret (.string (⟨#[76]⟩++A)))
 (T.again 0 [.string i,aY j]))
 (T.again 0 [.string i,aY j]))
 (fo 73 [vI h] λo =>
 T.need ((((1+o.size):Nat):Int)<=9223372036854775807) <|
 T.need (((((ByteArray.size (⟨#[69]⟩++o))+1):Nat):Int)<=9223372036854775807) <|
 T.need (((((ByteArray.size ((⟨#[69]⟩++o)++⟨#[95]⟩))+c.size):Nat):Int)<=9223372036854775807) <|
 T.ret (.string (((⟨#[69]⟩++o)++⟨#[95]⟩)++c)))
def jH (a:Xac) (b:Int) (c:Xaa):bP Xaz [] Tryz.f45 [.pointer a,vI b,.string c]=fN a b c:=av
def fB (a:Xac) (b:Int) (c:Xac) (d e:Nat) (f:Int):T :=
 T.new [.slice c d e,aE f] 53 λg =>
 T.new [bm,aE 0] 53 λh =>
 T.ah (g.add 1) [.int .u32] λi =>
 T.new [bm,aE 0] 53 λj =>
 T.aD j [bm,aE i] <|
 T.loop [aS] [vI 0] λk =>
 T.ah g [.slice 64] λl m n =>
 bz k m
 (T.ah j (yL 64) λo p q r =>
 T.ah g [.slice 64] λs t u =>
 aR k t s λv =>
 T.ah (v.add (aK k 2)) [.string] λw =>
 T.ah g [.slice 64] λx y z =>
 aR k y x λA =>
 T.ah ((A.add (aK k 2)).add 1) [.int .u32] λB =>
 fo 45 [.pointer a,vI b,.string w] λC =>
 T.bG [(((A.add (aK k 2)).add 1),[aE B]),(g,[.slice x y z]),(g,[.slice s t u]),(j,[.slice o p q,aE r])] <|
 bg (Instr.buildSlice 50 1 #[(0,.agg #[.string C,aE B])]) λD E F =>
 T.bG [(((A.add (aK k 2)).add 1),[aE B]),(g,[.slice x y z]),((v.add (aK k 2)),[.string w]),(g,[.slice s t u]),(j,[.slice o p q,aE r])] <|
 cv 74 [.agg #[.slice o p q,aE r],.agg #[.slice D E F,aE 0]] false [(true,(yL 64))] λG H I J =>
 T.bG [(((A.add (aK k 2)).add 1),[aE B]),(g,[.slice x y z]),((v.add (aK k 2)),[.string w]),(g,[.slice s t u])] <|
 T.aD j [.slice G H I,aE J] <|
 T.again 0 [aY k])
 (T.ah j (yL 64) λo p q r =>
 T.aD h [.slice o p q,aE r] <|
 T.ah h (yL 64) λs t u v =>
 T.ret (.agg #[.slice s t u,aE v]))
def jm (a:Xac) (b:Int) (c:Xac) (d e:Nat) (f:Int):bP Xaz [] Tryz.f46 [.pointer a,vI b,.agg #[.slice c d e,.int .u32 f]]=fB a b c d e f:=av
def fp (a:Xac) (b:Int) (c:Xac) (d e:Nat) (f:Xac) (g h:Nat):T :=
 bg (Instr.buildSlice 46 0 #[]) λi j k =>
 bg (Builtin.append_ #[46,46] 46 #[.slice i j k,.slice c d e]) λl m n =>
 T.loop [aS] [vI 0] λo =>
 bz o m
 (aR o m l λp =>
 T.ah ((p.add (aK o 10)).add 7) (yL 64) λq r s t =>
 cv 46 [.pointer a,vI b,.agg #[.slice q r s,aE t]] false [(true,(yL 64))] λu v w x =>
 cv 76 [.agg #[.slice u v w,aE x],.slice f g h] false [(true,(yL 64))] λy z A B =>
 aR o m l λC =>
 T.aD ((C.add (aK o 10)).add 7) [.slice y z A,aE B] <|
 T.again 0 [aY o])
 (T.ret (.slice l m n))
def iT (a:Xac) (b:Int) (c:Xac) (d e:Nat) (f:Xac) (g h:Nat):bP Xaz [] Tryz.f48 [.pointer a,vI b,.slice c d e,.slice f g h]=fp a b c d e f g h:=av
def j2 (a:Xac) (b c:Nat) (d:Int) (e:Xaa):T :=
 aR d b a λf =>
 T.ah (f.add (aK d 4)) (yU 55 116) λg h i j k l m n o p q r =>
 cv 98 [.agg #[.slice g h i,.slice j k l,.slice m n o,.slice p q r]] false [(false,[.slice 9])] λs t u =>
 bj 52 [.slice s t u,.string e] λv =>
 cond v
 (T.ret (vI d))
 (T.loop [aS,aS] [vI 0,vI 0] λw x =>
 bz x b
 (aR x b a λy =>
 T.ah ((y.add (aK x 4)).add 3) [.slice 9] λz A B =>
 bj 52 [.slice z A B,.string e] λC =>
 cond C
 (T.ret (vI x))
 (T.again 0 [vI w,aY x]))
 (T.ret (vI (-1))))
def oF (a:Xac) (b c:Nat) (d:Int) (e:Xaa):bP Xaz [] Tryz.f72 [.slice a b c,vI d,.string e]=j2 a b c d e:=av
def iq (a:Xac) (b c:Nat) (d:Int):T :=
 aR d b a λe =>
 T.ah (e.add (aK d 4)) (yU 55 116) λf g h i j k l m n o p q =>
 T.new [bm,bm,bm,bm] 70 λr =>
 T.aD r [.slice f g h,.slice i j k,.slice l m n,.slice o p q] <|
 T.ah r [.slice 55] λs t u =>
 T.ah (r.add 1) [.slice 55] λv w x =>
 bg (Instr.buildSlice 46 0 #[]) λy z A =>
 T.bG [((r.add 1),[.slice v w x]),(r,[.slice s t u])] <|
 bg (Builtin.append_ #[46,46] 46 #[.slice y z A,.slice s t u]) λB C D =>
 T.bG [((r.add 1),[.slice v w x])] <|
 bg (Builtin.append_ #[46,46] 46 #[.slice B C D,.slice v w x]) λE F G =>
 T.bG [(r,[.slice s t u])] <|
 T.loop [(false,[.string]),aS] [bZ,vI 0] λH I =>
 bz I F
 (aR I F E λJ =>
 T.ah ((J.add (aK I 10)).add 7) (yL 64) λK L M N =>
 fo 99 [.slice a b c,vI d,.agg #[.slice K L M,aE N]] λO =>
 cond (!((ByteArray.toList O)==[]))
 (T.ret (.string O))
 (T.again 0 [.string H,aY I]))
 (T.loop [(false,[.string]),aS] [.string H,vI 0] λJ K =>
 T.ah (r.add 2) [.slice 116] λL M N =>
 bz K M
 (T.ah (r.add 2) [.slice 116] λO P Q =>
 aR K P O λR =>
 T.ah ((R.add (aK K 3)).add 1) (yL 64) λS U V W =>
 fo 99 [.slice a b c,vI d,.agg #[.slice S U V,aE W]] λX =>
 cond (!((ByteArray.toList X)==[]))
 (T.ret (.string X))
 (T.again 1 [.string J,aY K]))
 (T.ret (bZ)))
def lH (a:Xac) (b c:Nat) (d:Int):bP Xaz [] Tryz.f71 [.slice a b c,vI d]=iq a b c d:=av
def Sj (a:Int) (b:Xaa):T :=
 T.need ((10:Int)≠0) <|
 T.dP Xaz (Instr.buildSlice 204 1 #[(0,.int .u8 (IntKind.wrap .u8 (IntKind.wrap .i64 (48+(Int.tmod a 10)))))]) false [(false,[.slice 0])] λd e f =>
 T.dP Xaz (convert 204 9 (.slice d e f)) false [(false,[.string])] λc =>
 T.need ((((c.size+b.size):Nat):Int)<=9223372036854775807) <|
 T.need ((10:Int)≠0) <|
 T.again 0 [vI (IntKind.wrap .i64 (Int.tdiv a 10)),.string (c++b)]
def jt (a:Int):T :=
 T.loop [aS,(false,[.string])] [vI a,bZ] λb c =>
 cond (decide (b>0))
 (Sj b c)
 (cond ((ByteArray.toList c)==[])
 (Sj b c)
 (T.ret (.string c)))
def nW (a:Int):bP Xaz [] Tryz.f73 [vI a]=jt a:=av
def jY (a:Xac) (b c:Nat) (d:Int) (e:Xac) (f g:Nat) (h:Int):T :=
 T.new [.slice e f g,aE h] 53 λi =>
 T.loop [(false,[.string]),aS] [bZ,vI 0] λj k =>
 T.ah i [.slice 64] λl m n =>
 bz k m
 (T.ah i [.slice 64] λo p q =>
 aR k p o λr =>
 T.ah (r.add (aK k 2)) [.string] λs =>
 cY 72 [.slice a b c,vI d,.string s] λt =>
 cond (decide (t<0))
 (T.ah i [.slice 64] λu v w =>
 aR k v u λx =>
 T.ah (x.add (aK k 2)) [.string] λy =>
 T.ret (.string y))
 (T.again 0 [.string j,aY k]))
 (T.ret (bZ))
def oH (a:Xac) (b c:Nat) (d:Int) (e:Xac) (f g:Nat) (h:Int):bP Xaz [] Tryz.f99 [.slice a b c,vI d,.agg #[.slice e f g,.int .u32 h]]=jY a b c d e f g h:=av
end Go.Sx
