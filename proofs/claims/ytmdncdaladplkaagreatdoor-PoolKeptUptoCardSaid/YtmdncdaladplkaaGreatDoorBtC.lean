/- Trees of functions. No condition. -/
import Derived.Test.YtmdncdaladplkaaGreatDoorSxF
import Derived.Test.YtmdncdaladplkaaGreatDoorProg
import Derived.KernelRfl
set_option linter.all false
set_option maxRecDepth 100000
set_option maxHeartbeats 4000000
namespace Go.Sx
open Go.Proofs
def kW (a:Int):T :=
 cv 49 [] false [(false,[.slice 144])] λb c d =>
 cond (decide (a<1))
 (T.ret (vI 0))
 (cond (decide (a>(c:Int)))
 (T.ret (vI 0))
 (T.need ((0<=(bY (a-1)))/\((bY (a-1))<(c:Int))) <|
 T.bh b λe =>
 T.ah ((e.add ((Int.toNat (bY (a-1)))*3)).add 2) [.int .i64] λf =>
 T.ret (vI f)))
def pP (a:Int):bP Xaz [] Tryz.f26 [vI a]=kW a:=av
def kQ (a:Int):T :=
 cY 26 [vI a] λb =>
 cond (b==12)
 fR
 (cY 26 [vI a] λc =>
 T.ret (.bool (c==13)))
def pT (a:Int):bP Xaz [] Tryz.f125 [vI a]=kQ a:=av
def mi (a b:Int):T :=
 cond (b==1)
 (cond (decide (a>=(-128)))
 (T.ret (.bool (decide (a<=127))))
 cC)
 (cond (b==2)
 (cond (decide (a>=(-32768)))
 (T.ret (.bool (decide (a<=32767))))
 cC)
 (cond (b==4)
 fR
 cC))
def qH (a b:Int):bP Xaz [] Tryz.f151 [.int .i32 a,vI b]=mi a b:=av
def yc (d:Xax):T :=
 T.ah (d.add 3) [.int .i32] λa =>
 T.ah (d.add 4) [.int .i64] λb =>
 T.call Xaz 151 [.int .i32 a,vI b] false [(false,[.bool])] λc =>
 cond (!c)
 (T.ret (vI 13))
 (T.ret (vI 0))
def ld (a b c d e:Int):T :=
 T.new [vI a,vI b,vI c,.int .i32 d,vI e] 49 λf =>
 T.ah f [.int .i64] λg =>
 cY 26 [vI g] λh =>
 cond (h==0)
 (T.ret (vI 11))
 (T.ah f [.int .i64,.int .i64,.int .i64,.int .i32,.int .i64] λi j k l m =>
 bj 150 [.agg #[vI i,vI j,vI k,.int .i32 l,vI m]] λn =>
 cond (!n)
 (T.ret (vI 12))
 (cond (h==12)
 (T.ah (f.add 4) [.int .i64] λo =>
 cond (o != 1)
 (T.ah (f.add 4) [.int .i64] λp =>
 cond (p != 2)
 (T.ah (f.add 4) [.int .i64] λq =>
 cond (q != 4)
 (T.ret (vI 13))
 (yc f))
 (yc f))
 (yc f))
 (cond (h==13)
 (T.ah (f.add 4) [.int .i64] λo =>
 cond (o != 1)
 (T.ah (f.add 4) [.int .i64] λp =>
 cond (p != 2)
 (T.ah (f.add 4) [.int .i64] λq =>
 cond (q != 4)
 (T.ret (vI 13))
 (yc f))
 (yc f))
 (yc f))
 (T.ah (f.add 4) [.int .i64] λo =>
 cond (o != 0)
 (T.ret (vI 13))
 (T.ah (f.add 3) [.int .i32] λp =>
 cond (h==8)
 (T.ah (f.add 3) [.int .i32] λq =>
 cond (decide (q>=(-128)))
 (T.ah (f.add 3) [.int .i32] λr =>
 cond (!(decide (r<=127)))
 (T.ret (vI 13))
 (T.ret (vI 0)))
 (T.ret (vI 13)))
 (cond (h==9)
 (T.ah (f.add 3) [.int .i32] λq =>
 cond (decide (q>=0))
 (T.ah (f.add 3) [.int .i32] λr =>
 cond (!(decide (r<=255)))
 (T.ret (vI 13))
 (T.ret (vI 0)))
 (T.ret (vI 13)))
 (cond (h==11)
 (T.ah (f.add 3) [.int .i32] λq =>
 cond (decide (q>=0))
 (T.ah (f.add 3) [.int .i32] λr =>
 cond (!(decide (r<=4095)))
 (T.ret (vI 13))
 (T.ret (vI 0)))
 (T.ret (vI 13)))
 (cond (h==10)
 (cond (h==10)
 (T.ret (vI 0))
 (cond (!(p==0))
 (T.ret (vI 13))
 (T.ret (vI 0))))
 (cond (h==7)
 (T.ret (vI 0))
 (cond (!(p==0))
 (T.ret (vI 13))
 (T.ret (vI 0))))))))))))
def pa (a b c d e:Int):bP Xaz [] Tryz.f126 [.agg #[vI a,vI b,vI c,.int .i32 d,vI e]]=ld a b c d e:=av
def lQ (a:Int):T :=
 cY 26 [vI a] λb =>
 cond (b==10)
 fR
 (cond (b==11)
 fR
 (cond (b==12)
 fR
 (T.ret (.bool (b==13)))))
def rf (a:Int):bP Xaz [] Tryz.f127 [vI a]=lQ a:=av
def PS (d c:Bool) (a:Xax):T :=
 cond (!d)
 (cond (!c)
 (T.ret (.bool true))
 (T.ah (a.add 9) [.int .i64] λe =>
 T.ret (.bool (e==0))))
 (T.ah (a.add 7) [.slice 64] λh f l8 =>
 cond ((f:Int)==0)
 (T.ah ((a.add 7).add 1) [.int .u32] λg =>
 cond (g==0)
 (cond (!c)
 (T.ret (.bool true))
 (T.ah (a.add 9) [.int .i64] λb =>
 T.ret (.bool (b==0))))
 (T.ret (.bool false)))
 (T.ret (.bool false)))
def Ql (f d e:Bool) (a:Xax):T :=
 cond (!f)
 (PS d e a)
 (T.ah (a.add 2) [.int .i64,.int .i64,.int .i64,.int .i32,.int .i64] λg h n8 i b =>
 T.dP Xaz (Sx.vr (BinOp.eql) 49 (Operand.tmp 23) (Operand.tmp 24) (.agg #[vI g,vI h,vI n8,.int .i32 i,vI b]) (.agg #[vI 0,vI 0,vI 0,.int .i32 0,vI 0])) false [(false,[.bool])] λc =>
 cond c
 (PS d e a)
 (T.ret (.bool false)))
def lY (a:Int) (b:Xaa) (c d e f g:Int) (h:Xac) (i j:Nat) (k l:Int) (m n o p:Bool):T :=
 T.new [vI a,.string b,vI c,vI d,vI e,.int .i32 f,vI g,.slice h i j,aE k,vI l] 55 λq =>
 cond (!m)
 (Ql n o p q)
 (T.ah (q.add 1) [.string] λr =>
 cond ((ByteArray.toList r)==[])
 (Ql n o p q)
 cC)
def q8 (a:Int) (b:Xaa) (c d e f g:Int) (h:Xac) (i j:Nat) (k l:Int) (m n o p:Bool):bP Xaz [] Tryz.f124 [.agg #[vI a,.string b,vI c,vI d,vI e,.int .i32 f,vI g,.slice h i j,.int .u32 k,vI l],.bool m,.bool n,.bool o,.bool p]=lY a b c d e f g h i j k l m n o p:=av
def la (a:Int):T :=
 T.loop [cH,aS] [.bool false,vI 1] λb c =>
 cond (decide (c<=256))
 (cond (a==c)
 fR
 (T.again 0 [.bool b,vI (bY (2*c))]))
 cC
def qk (a:Int):bP Xaz [] Tryz.f128 [vI a]=la a:=av
def mU (a:Xac) (b c:Nat) (d:Xac) (e f:Nat) (g:Xac) (h i:Nat) (j:Xac) (k l:Nat):T :=
 T.new [.slice a b c,.slice d e f,.slice g h i,.slice j k l] 70 λm =>
 T.ah m [.slice 55] λn o p =>
 T.ah (m.add 1) [.slice 55] λq r s =>
 cv 129 [.slice n o p] false [(false,[.slice 9])] λt u v =>
 T.bG [((m.add 1),[.slice q r s])] <|
 cv 129 [.slice q r s] false [(false,[.slice 9])] λw x y =>
 T.bG [(m,[.slice n o p])] <|
 bg (Builtin.append_ #[68,68] 68 #[.slice t u v,.slice w x y]) λz A B =>
 T.bG [((m.add 1),[.slice q r s]),(m,[.slice n o p])] <|
 T.loop [fH,aS] [.slice z A B,vI 0] λC D E F =>
 T.ah (m.add 2) [.slice 116] λG H I =>
 bz F H
 (T.ah (m.add 2) [.slice 116] λJ K L =>
 aR F K J λM =>
 T.ah (M.add (aK F 3)) [.string] λN =>
 bg (Instr.buildSlice 68 1 #[(0,.string N)]) λO P Q =>
 bg (Builtin.append_ #[68,68] 68 #[.slice C D E,.slice O P Q]) λR S U =>
 T.again 0 [.slice R S U,aY F])
 (T.ret (.slice C D E))
def rZ (a:Xac) (b c:Nat) (d:Xac) (e f:Nat) (g:Xac) (h i:Nat) (j:Xac) (k l:Nat):bP Xaz [] Tryz.f98 [.agg #[.slice a b c,.slice d e f,.slice g h i,.slice j k l]]=mU a b c d e f g h i j k l:=av
def j3 (a:Xac) (b c:Nat):T :=
 T.loop [fH,aS] [bm,vI 0] λd e f g =>
 bz g b
 (aR g b a λh =>
 T.ah (h.add (aK g 1)) [.string] λi =>
 bj 52 [.slice d e f,.string i] λj =>
 cond j
 (T.again 0 [.slice d e f,aY g])
 (aR g b a λk =>
 T.ah (k.add (aK g 1)) [.string] λl =>
 bg (Instr.buildSlice 68 1 #[(0,.string l)]) λm n o =>
 bg (Builtin.append_ #[68,68] 68 #[.slice d e f,.slice m n o]) λp q r =>
 T.loop [aS] [vI (e:Int)] λs =>
 cond (decide (s>0))
 (T.need ((0<=(bY (s-1)))/\((bY (s-1))<(q:Int))) <|
 T.bh p λt =>
 T.ah (t.add ((Int.toNat (bY (s-1)))*1)) [.string] λu =>
 aR g b a λv =>
 T.ah (v.add (aK g 1)) [.string] λw =>
 cond (!((Op.bytesLess (ByteArray.toList u) (ByteArray.toList w)) || ((ByteArray.toList u)==(ByteArray.toList w))))
 (T.need ((0<=(bY (s-1)))/\((bY (s-1))<(q:Int))) <|
 T.bh p λx =>
 T.ah (x.add ((Int.toNat (bY (s-1)))*1)) [.string] λy =>
 aR s q p λz =>
 T.aD (z.add (aK s 1)) [.string y] <|
 T.again 1 [vI (bY (s-1))])
 (aR g b a λx =>
 T.ah (x.add (aK g 1)) [.string] λy =>
 aR s q p λz =>
 T.aD (z.add (aK s 1)) [.string y] <|
 T.again 0 [.slice p q r,aY g]))
 (aR g b a λt =>
 T.ah (t.add (aK g 1)) [.string] λu =>
 aR s q p λv =>
 T.aD (v.add (aK s 1)) [.string u] <|
 T.again 0 [.slice p q r,aY g])))
 (T.ret (.slice d e f))
def oN (a:Xac) (b c:Nat):bP Xaz [] Tryz.f53 [.slice a b c]=j3 a b c:=av
def iR (a:Xac) (b c:Nat) (d:Xaa):T :=
 T.loop [cH,aS] [.bool false,vI 0] λe f =>
 bz f b
 (aR f b a λg =>
 T.ah (g.add (aK f 1)) [.string] λh =>
 cond ((ByteArray.toList h)==(ByteArray.toList d))
 fR
 (T.again 0 [.bool e,aY f]))
 cC
def j0 (a:Xac) (b c:Nat) (d:Xaa):bP Xaz [] Tryz.f52 [.slice a b c,.string d]=iR a b c d:=av
def j4 (a:Xac) (b c:Nat):T :=
 T.loop [fH,aS] [bm,vI 0] λd e f g =>
 bz g b
 (aR g b a λh =>
 T.ah (h.add (aK g 10)) [.int .i64] λi =>
 cond (i==1)
 (aR g b a λj =>
 T.ah ((j.add (aK g 10)).add 1) [.string] λk =>
 bg (Instr.buildSlice 68 1 #[(0,.string k)]) λl m n =>
 bg (Builtin.append_ #[68,68] 68 #[.slice d e f,.slice l m n]) λo p q =>
 T.again 0 [.slice o p q,aY g])
 (T.again 0 [.slice d e f,aY g]))
 (T.ret (.slice d e f))
def oC (a:Xac) (b c:Nat):bP Xaz [] Tryz.f129 [.slice a b c]=j4 a b c:=av
def kN (a:Xac) (b c:Nat) (d:Xac) (e f:Nat) (g:Xac) (h i:Nat) (j:Xac) (k l:Nat):T :=
 T.new [.slice a b c,.slice d e f,.slice g h i,.slice j k l] 70 λm =>
 T.ah m [.slice 55] λn o p =>
 T.ah (m.add 1) [.slice 55] λq r s =>
 cond (decide ((bY ((o:Int)+(r:Int)))>8192))
 (T.ret (vI 4))
 (T.ah (m.add 2) [.slice 116] λt u v =>
 cond (decide ((u:Int)>8192))
 (T.ret (vI 4))
 (T.loop [aS,aS] [vI 0,vI 0] λw x =>
 T.ah m [.slice 55] λy z A =>
 bz x z
 (T.ah m [.slice 55] λB C D =>
 aR x C B λE =>
 T.ah (E.add (aK x 10)) (yI 64) λF G H I J K L M N O P Q =>
 cY 96 [.agg #[vI F,.string G,vI H,vI I,vI J,.int .i32 K,vI L,.slice M N O,aE P,vI Q],vI 0] λR =>
 cond (R != 0)
 (T.ret (vI 31))
 (T.again 0 [vI w,aY x]))
 (T.loop [aS,aS] [vI w,vI 0] λB C =>
 T.ah (m.add 1) [.slice 55] λD E F =>
 bz C E
 (T.ah (m.add 1) [.slice 55] λG H I =>
 aR C H G λJ =>
 T.ah (J.add (aK C 10)) (yI 64) λK L M N O P Q R S U V W =>
 cY 96 [.agg #[vI K,.string L,vI M,vI N,vI O,.int .i32 P,vI Q,.slice R S U,aE V,vI W],vI 1] λX =>
 cond (X != 0)
 (T.ret (vI 31))
 (T.again 1 [vI B,aY C]))
 (T.loop [aS,aS] [vI B,vI 0] λG H =>
 T.ah (m.add 2) [.slice 116] λI J K =>
 bz H J
 (T.ah (m.add 2) [.slice 116] λL M N =>
 aR H M L λO =>
 T.ah (O.add (aK H 3)) [.string] λP =>
 bj 78 [.string P] λQ =>
 cond (!Q)
 (T.ret (vI 31))
 (T.ah (m.add 2) [.slice 116] λR S U =>
 aR H S R λV =>
 T.ah ((V.add (aK H 3)).add 1) (yL 64) λW X Y Z =>
 bj 97 [.agg #[.slice W X Y,aE Z]] λa0 =>
 cond (!a0)
 (T.ret (vI 31))
 (T.again 2 [vI G,aY H])))
 (T.ah m (yU 55 116) λL M N O P Q R S U V W X =>
 cv 98 [.agg #[.slice L M N,.slice O P Q,.slice R S U,.slice V W X]] false [(false,[.slice 9])] λY Z a0 =>
 cv 53 [.slice Y Z a0] false [(false,[.slice 9])] λa1 a2 a3 =>
 cond ((a2:Int) != (Z:Int))
 (T.ret (vI 31))
 (T.loop [aS,aS] [vI G,vI 0] λa4 a5 =>
 T.ah (m.add 3) [.slice 9] λa6 a7 a8 =>
 bz a5 a7
 (cond (decide (a5>0))
 (T.ah (m.add 3) [.slice 9] λa9 b0 b1 =>
 aR a5 b0 a9 λb2 =>
 T.ah (b2.add (aK a5 1)) [.string] λb3 =>
 T.ah (m.add 3) [.slice 9] λb4 b5 b6 =>
 T.need ((0<=(bY (a5-1)))/\((bY (a5-1))<(b5:Int))) <|
 T.bh b4 λb7 =>
 T.ah (b7.add ((Int.toNat (bY (a5-1)))*1)) [.string] λb8 =>
 cond ((Op.bytesLess (ByteArray.toList b3) (ByteArray.toList b8)) || ((ByteArray.toList b3)==(ByteArray.toList b8)))
 (T.ret (vI 31))
 (T.ah (m.add 3) [.slice 9] λb9 c0 c1 =>
 aR a5 c0 b9 λc2 =>
 T.ah (c2.add (aK a5 1)) [.string] λc3 =>
 bj 52 [.slice Y Z a0,.string c3] λc4 =>
 T.bG [((m.add 3),[.slice b9 c0 c1]),((b7.add ((Int.toNat (bY (a5-1)))*1)),[.string b8]),((m.add 3),[.slice b4 b5 b6]),((b2.add (aK a5 1)),[.string b3]),((m.add 3),[.slice a9 b0 b1])] <|
 cond (!c4)
 (T.ret (vI 31))
 (T.again 3 [vI a4,aY a5])))
 (T.ah (m.add 3) [.slice 9] λa9 b0 b1 =>
 aR a5 b0 a9 λb2 =>
 T.ah (b2.add (aK a5 1)) [.string] λb3 =>
 bj 52 [.slice Y Z a0,.string b3] λb4 =>
 T.bG [((m.add 3),[.slice a9 b0 b1])] <|
 cond (!b4)
 (T.ret (vI 31))
 (T.again 3 [vI a4,aY a5])))
 (T.ret (vI 0))))))))
def pt (a:Xac) (b c:Nat) (d:Xac) (e f:Nat) (g:Xac) (h i:Nat) (j:Xac) (k l:Nat):bP Xaz [] Tryz.f70 [.agg #[.slice a b c,.slice d e f,.slice g h i,.slice j k l]]=kN a b c d e f g h i j k l:=av
def wq :T :=
 T.dP Xaz (Instr.buildSlice 141 43 #[(0,.agg #[.string ⟨#[110,111,112]⟩,.int .u8 0,vI 1]),(1,.agg #[.string ⟨#[104,97,108,116]⟩,.int .u8 1,vI 1]),(2,.agg #[.string ⟨#[114,101,116]⟩,.int .u8 2,vI 1]),(3,.agg #[.string ⟨#[112,114,105,110,116]⟩,.int .u8 3,vI 2]),(4,.agg #[.string ⟨#[105,110]⟩,.int .u8 4,vI 2]),(5,.agg #[.string ⟨#[112,117,115,104]⟩,.int .u8 5,vI 2]),(6,.agg #[.string ⟨#[112,111,112]⟩,.int .u8 6,vI 2]),(7,.agg #[.string ⟨#[106,114]⟩,.int .u8 7,vI 2]),(8,.agg #[.string ⟨#[110,101,103]⟩,.int .u8 8,vI 2]),(9,.agg #[.string ⟨#[110,111,116]⟩,.int .u8 9,vI 2]),(10,.agg #[.string ⟨#[122,116,117,114,110]⟩,.int .u8 10,vI 3]),(11,.agg #[.string ⟨#[122,99,111,110,106]⟩,.int .u8 11,vI 3]),(12,.agg #[.string ⟨#[109,111,118]⟩,.int .u8 16,vI 4]),(13,.agg #[.string ⟨#[97,100,100]⟩,.int .u8 17,vI 4]),(14,.agg #[.string ⟨#[115,117,98]⟩,.int .u8 18,vI 4]),(15,.agg #[.string ⟨#[109,117,108]⟩,.int .u8 19,vI 4]),(16,.agg #[.string ⟨#[100,105,118]⟩,.int .u8 20,vI 4]),(17,.agg #[.string ⟨#[97,110,100]⟩,.int .u8 21,vI 4]),(18,.agg #[.string ⟨#[111,114]⟩,.int .u8 22,vI 4]),(19,.agg #[.string ⟨#[120,111,114]⟩,.int .u8 23,vI 4]),(20,.agg #[.string ⟨#[115,104,108]⟩,.int .u8 24,vI 4]),(21,.agg #[.string ⟨#[115,104,114]⟩,.int .u8 25,vI 4]),(22,.agg #[.string ⟨#[108,116]⟩,.int .u8 26,vI 4]),(23,.agg #[.string ⟨#[101,113]⟩,.int .u8 27,vI 4]),(24,.agg #[.string ⟨#[108,100,98]⟩,.int .u8 28,vI 4]),(25,.agg #[.string ⟨#[108,100,119]⟩,.int .u8 29,vI 4]),(26,.agg #[.string ⟨#[108,100,109]⟩,.int .u8 30,vI 4]),(27,.agg #[.string ⟨#[115,116,109]⟩,.int .u8 31,vI 4]),(28,.agg #[.string ⟨#[122,109,111,118]⟩,.int .u8 32,vI 5]),(29,.agg #[.string ⟨#[122,97,100,100]⟩,.int .u8 33,vI 5]),(30,.agg #[.string ⟨#[122,115,117,98]⟩,.int .u8 34,vI 5]),(31,.agg #[.string ⟨#[122,109,117,108]⟩,.int .u8 35,vI 5]),(32,.agg #[.string ⟨#[122,114,101]⟩,.int .u8 36,vI 6]),(33,.agg #[.string ⟨#[122,105,109]⟩,.int .u8 37,vI 6]),(34,.agg #[.string ⟨#[122,115,101,116]⟩,.int .u8 38,vI 7]),(35,.agg #[.string ⟨#[108,105,115]⟩,.int .u8 48,vI 8]),(36,.agg #[.string ⟨#[116,114,97,112]⟩,.int .u8 49,vI 9]),(37,.agg #[.string ⟨#[108,105]⟩,.int .u8 50,vI 10]),(38,.agg #[.string ⟨#[108,100,112]⟩,.int .u8 51,vI 11]),(39,.agg #[.string ⟨#[106,109,112]⟩,.int .u8 64,vI 12]),(40,.agg #[.string ⟨#[99,97,108,108]⟩,.int .u8 67,vI 12]),(41,.agg #[.string ⟨#[106,122]⟩,.int .u8 70,vI 13]),(42,.agg #[.string ⟨#[106,110,122]⟩,.int .u8 73,vI 13])]) false [(false,[.slice 0])] λa b c =>
 T.ret (.slice a b c)
def r8 :bP Xaz [] Tryz.f49 []=wq :=av
def Se (c:Xax) (f g:Int):T :=
 T.ah (c.add 2) [.int .i64] λd =>
 cond (decide (d>=f))
 (cond (decide (f>0))
 (T.ret (.bool false))
 (T.ah (c.add 2) [.int .i64] λa =>
 cond (a != 0)
 (T.ret (.bool false))
 (cond (g != 7)
 (T.ret (.bool true))
 (T.ah (c.add 3) [.int .i32] λb =>
 cond (decide (b>=0))
 (T.ah (c.add 3) [.int .i32] λe =>
 T.ret (.bool (decide (e<=7))))
 (T.ret (.bool false))))))
 (cond (g != 7)
 (T.ret (.bool true))
 (T.ah (c.add 3) [.int .i32] λa =>
 cond (decide (a>=0))
 (T.ah (c.add 3) [.int .i32] λb =>
 T.ret (.bool (decide (b<=7))))
 (T.ret (.bool false))))
def iE (a b c d e:Int):T :=
 T.new [vI a,vI b,vI c,.int .i32 d,vI e] 49 λf =>
 T.ah f [.int .i64] λg =>
 cY 26 [vI g] λh =>
 T.join [aS,aS]
 (cond (h==2)
 (cond (h==2)
 (T.again 0 [vI 8,vI 0])
 (cond (h==3)
 (T.again 0 [vI 4,vI 0])
 (cond (h==4)
 (T.again 0 [vI 8,vI 8])
 (cond (h==5)
 (T.again 0 [vI 4,vI 4])
 (cond (h==6)
 (T.again 0 [vI 8,vI 4])
 (cond (h==7)
 (T.again 0 [vI 4,vI 8])
 (T.again 0 [vI 0,vI 0])))))))
 (cond (h==8)
 (cond (h==8)
 (T.again 0 [vI 8,vI 0])
 (cond (h==3)
 (T.again 0 [vI 4,vI 0])
 (cond (h==4)
 (T.again 0 [vI 8,vI 8])
 (cond (h==5)
 (T.again 0 [vI 4,vI 4])
 (cond (h==6)
 (T.again 0 [vI 8,vI 4])
 (cond (h==7)
 (T.again 0 [vI 4,vI 8])
 (T.again 0 [vI 0,vI 0])))))))
 (cond (h==10)
 (cond (h==10)
 (T.again 0 [vI 8,vI 0])
 (cond (h==3)
 (T.again 0 [vI 4,vI 0])
 (cond (h==4)
 (T.again 0 [vI 8,vI 8])
 (cond (h==5)
 (T.again 0 [vI 4,vI 4])
 (cond (h==6)
 (T.again 0 [vI 8,vI 4])
 (cond (h==7)
 (T.again 0 [vI 4,vI 8])
 (T.again 0 [vI 0,vI 0])))))))
 (cond (h==11)
 (cond (h==11)
 (T.again 0 [vI 8,vI 0])
 (cond (h==3)
 (T.again 0 [vI 4,vI 0])
 (cond (h==4)
 (T.again 0 [vI 8,vI 8])
 (cond (h==5)
 (T.again 0 [vI 4,vI 4])
 (cond (h==6)
 (T.again 0 [vI 8,vI 4])
 (cond (h==7)
 (T.again 0 [vI 4,vI 8])
 (T.again 0 [vI 0,vI 0])))))))
 (cond (h==13)
 (T.again 0 [vI 8,vI 0])
 (cond (h==3)
 (T.again 0 [vI 4,vI 0])
 (cond (h==4)
 (T.again 0 [vI 8,vI 8])
 (cond (h==5)
 (T.again 0 [vI 4,vI 4])
 (cond (h==6)
 (T.again 0 [vI 8,vI 4])
 (cond (h==7)
 (T.again 0 [vI 4,vI 8])
 (T.again 0 [vI 0,vI 0]))))))))))) λi j =>
 T.ah (f.add 1) [.int .i64] λk =>
 cond (decide (k<0))
 cC
 (T.ah (f.add 2) [.int .i64] λl =>
 cond (decide (l<0))
 cC
 (T.ah (f.add 1) [.int .i64] λm =>
 cond (decide (m>=i))
 (cond (decide (i>0))
 cC
 (T.ah (f.add 1) [.int .i64] λn =>
 cond (n != 0)
 cC
 (Se f j h)))
 (Se f j h)))
def mw (a b c d e:Int):bP Xaz [1025] Tryz.f150 [.agg #[vI a,vI b,vI c,.int .i32 d,vI e]]=iE a b c d e:=av
def jd (a:Int) (b:Xaa) (c d e f g:Int) (h:Xac) (i j:Nat) (k l:Int):T :=
 T.new [vI a,.string b,vI c,vI d,vI e,.int .i32 f,vI g,.slice h i j,aE k,vI l] 55 λm =>
 T.join [cH]
 (T.ah m [.int .i64] λn =>
 cond (n==1)
 (T.ah (m.add 1) [.string] λo =>
 bj 78 [.string o] λp =>
 cond p
 (T.ah m (yI 64) λq r s t u v w x y z A B =>
 bj 124 [.agg #[vI q,.string r,vI s,vI t,vI u,.int .i32 v,vI w,.slice x y z,aE A,vI B],.bool false,.bool true,.bool true,.bool true] λC =>
 T.again 0 [.bool C])
 (T.again 0 [.bool false]))
 (cond (n==2)
 (T.ah (m.add 2) [.int .i64,.int .i64,.int .i64,.int .i32,.int .i64] λo p q r s =>
 T.new [vI 0,vI 0,vI 0,.int .i32 0,vI 0] 49 λt =>
 T.aD t [vI o,vI p,vI q,.int .i32 r,vI s] <|
 T.ah (t.add 4) [.int .i64] λu =>
 T.join []
 (T.ah t [.int .i64] λv =>
 bj 125 [vI v] λw =>
 cond w
 (T.aD (t.add 4) [vI 1] <|
 T.again 1 [])
 (T.again 1 [])) <| T.join [cH]
 (cond (u==0)
 (T.ah t [.int .i64,.int .i64,.int .i64,.int .i32,.int .i64] λv w x y z =>
 cY 126 [.agg #[vI v,vI w,vI x,.int .i32 y,vI z]] λA =>
 cond (A==0)
 (T.ah m (yI 64) λB C D E F G H I J K L M =>
 bj 124 [.agg #[vI B,.string C,vI D,vI E,vI F,.int .i32 G,vI H,.slice I J K,aE L,vI M],.bool true,.bool false,.bool false,.bool true] λN =>
 T.again 1 [.bool N])
 (T.again 1 [.bool false]))
 (T.again 1 [.bool false])) λv =>
 T.ah t [.int .i64] λw =>
 bj 127 [vI w] λx =>
 cond x
 (cond v
 (T.ah (t.add 3) [.int .i32] λy =>
 cond (y==0)
 (T.ah (m.add 7) (yL 64) λz A B C =>
 bj 97 [.agg #[.slice z A B,aE C]] λD =>
 T.again 0 [.bool D])
 (T.again 0 [.bool false]))
 (T.again 0 [.bool false]))
 (cond v
 (T.ah m (yI 64) λy z A B C D E F G H I J =>
 bj 124 [.agg #[vI y,.string z,vI A,vI B,vI C,.int .i32 D,vI E,.slice F G H,aE I,vI J],.bool false,.bool false,.bool true,.bool false] λK =>
 T.again 0 [.bool K])
 (T.again 0 [.bool false])))
 (cond (n==3)
 (T.ah (m.add 9) [.int .i64] λo =>
 bj 128 [vI o] λp =>
 cond p
 (T.ah m (yI 64) λq r s t u v w x y z A B =>
 bj 124 [.agg #[vI q,.string r,vI s,vI t,vI u,.int .i32 v,vI w,.slice x y z,aE A,vI B],.bool true,.bool true,.bool true,.bool false] λC =>
 T.again 0 [.bool C])
 (T.again 0 [.bool false]))
 (cond (n==4)
 (T.ah m (yI 64) λo p q r s t u v w x y z =>
 bj 124 [.agg #[vI o,.string p,vI q,vI r,vI s,.int .i32 t,vI u,.slice v w x,aE y,vI z],.bool true,.bool true,.bool true,.bool true] λA =>
 T.again 0 [.bool A])
 (cond (n==5)
 (T.again 0 [.bool false])
 (cond (n==6)
 (T.again 0 [.bool false])
 (cond (n==7)
 (T.again 0 [.bool false])
 (T.again 0 [.bool false])))))))) λn =>
 cond (!n)
 (T.ret (vI 31))
 (T.ret (vI 0))
def nO (a:Int) (b:Xaa) (c d e f g:Int) (h:Xac) (i j:Nat) (k l:Int):bP Xaz [1012,1013,1026] Tryz.f96 [.agg #[vI a,.string b,vI c,vI d,vI e,.int .i32 f,vI g,.slice h i j,.int .u32 k,vI l],vI 0]=jd a b c d e f g h i j k l:=av
def je (a:Int) (b:Xaa) (c d e f g:Int) (h:Xac) (i j:Nat) (k l:Int):T :=
 T.new [vI a,.string b,vI c,vI d,vI e,.int .i32 f,vI g,.slice h i j,aE k,vI l] 55 λm =>
 T.join [cH]
 (T.ah m [.int .i64] λn =>
 cond (n==1)
 (T.ah (m.add 1) [.string] λo =>
 bj 78 [.string o] λp =>
 cond p
 (T.ah m (yI 64) λq r s t u v w x y z A B =>
 bj 124 [.agg #[vI q,.string r,vI s,vI t,vI u,.int .i32 v,vI w,.slice x y z,aE A,vI B],.bool false,.bool true,.bool true,.bool true] λC =>
 T.again 0 [.bool C])
 (T.again 0 [.bool false]))
 (cond (n==2)
 (T.ah (m.add 2) [.int .i64,.int .i64,.int .i64,.int .i32,.int .i64] λo p q r s =>
 T.new [vI 0,vI 0,vI 0,.int .i32 0,vI 0] 49 λt =>
 T.aD t [vI o,vI p,vI q,.int .i32 r,vI s] <|
 T.ah (t.add 4) [.int .i64] λu =>
 T.join []
 (T.ah t [.int .i64] λv =>
 bj 125 [vI v] λw =>
 cond w
 (T.aD (t.add 4) [vI 1] <|
 T.again 1 [])
 (T.again 1 [])) <| T.join [cH]
 (T.again 1 [.bool false]) λv =>
 T.ah t [.int .i64] λw =>
 bj 127 [vI w] λx =>
 cond x
 (cond v
 (T.ah (t.add 3) [.int .i32] λy =>
 cond (y==0)
 (T.ah (m.add 7) (yL 64) λz A B C =>
 bj 97 [.agg #[.slice z A B,aE C]] λD =>
 T.again 0 [.bool D])
 (T.again 0 [.bool false]))
 (T.again 0 [.bool false]))
 (cond v
 (T.ah m (yI 64) λy z A B C D E F G H I J =>
 bj 124 [.agg #[vI y,.string z,vI A,vI B,vI C,.int .i32 D,vI E,.slice F G H,aE I,vI J],.bool false,.bool false,.bool true,.bool false] λK =>
 T.again 0 [.bool K])
 (T.again 0 [.bool false])))
 (cond (n==3)
 (T.ah (m.add 9) [.int .i64] λo =>
 bj 128 [vI o] λp =>
 cond p
 (T.ah m (yI 64) λq r s t u v w x y z A B =>
 bj 124 [.agg #[vI q,.string r,vI s,vI t,vI u,.int .i32 v,vI w,.slice x y z,aE A,vI B],.bool true,.bool true,.bool true,.bool false] λC =>
 T.again 0 [.bool C])
 (T.again 0 [.bool false]))
 (cond (n==4)
 (T.again 0 [.bool false])
 (cond (n==5)
 (T.ah (m.add 9) [.int .i64] λo =>
 cond (decide (o>=(-128)))
 (T.ah (m.add 9) [.int .i64] λp =>
 cond (decide (p<=255))
 (T.ah m (yI 64) λq r s t u v w x y z A B =>
 bj 124 [.agg #[vI q,.string r,vI s,vI t,vI u,.int .i32 v,vI w,.slice x y z,aE A,vI B],.bool true,.bool true,.bool true,.bool false] λC =>
 T.again 0 [.bool C])
 (T.again 0 [.bool false]))
 (T.again 0 [.bool false]))
 (cond (n==6)
 (T.ah (m.add 7) (yL 64) λo p q r =>
 bj 97 [.agg #[.slice o p q,aE r]] λs =>
 cond s
 (T.ah m (yI 64) λt u v w x y z A B C D E =>
 bj 124 [.agg #[vI t,.string u,vI v,vI w,vI x,.int .i32 y,vI z,.slice A B C,aE D,vI E],.bool true,.bool true,.bool false,.bool true] λF =>
 T.again 0 [.bool F])
 (T.again 0 [.bool false]))
 (cond (n==7)
 (T.ah (m.add 9) [.int .i64] λo =>
 cond (decide (o>=0))
 (T.ah (m.add 9) [.int .i64] λp =>
 cond (decide (p<=1048576))
 (T.ah m (yI 64) λq r s t u v w x y z A B =>
 bj 124 [.agg #[vI q,.string r,vI s,vI t,vI u,.int .i32 v,vI w,.slice x y z,aE A,vI B],.bool true,.bool true,.bool true,.bool false] λC =>
 T.again 0 [.bool C])
 (T.again 0 [.bool false]))
 (T.again 0 [.bool false]))
 (T.again 0 [.bool false])))))))) λn =>
 cond (!n)
 (T.ret (vI 31))
 (T.ret (vI 0))
def mQ (a:Int) (b:Xaa) (c d e f g:Int) (h:Xac) (i j:Nat) (k l:Int):bP Xaz [1012,1013,1026] Tryz.f96 [.agg #[vI a,.string b,vI c,vI d,vI e,.int .i32 f,vI g,.slice h i j,.int .u32 k,vI l],vI 1]=je a b c d e f g h i j k l:=av
end Go.Sx
