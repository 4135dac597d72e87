/- Trees of functions, each checked by the kernel against the code. No condition. -/
import Derived.Test.YtlpcncdglfjnoaaGreatDoorSxF
import Derived.Test.YtlpcncdglfjnoaaGreatDoorProg
import Derived.KernelRfl
set_option linter.all false
set_option maxRecDepth 100000
set_option maxHeartbeats 4000000
namespace Go.Sx
open Go.Proofs
def iO (a:Option ZC) (b c:Nat):T :=
 bG 93 [.slice a b c] false [(false,[.slice 3])] fun d e f =>
 cond (decide ((e:Int)>(0:Int)))
 (T.need (((0:Int)<=(0:Int))/\((0:Int)<(e:Int))) <|
 T.bk d fun g =>
 T.ah g [.int .i64] fun h =>
 T.bf [(g,[vI h])] <|
 T.ret (.tuple #[bd,vI h,vI 24]))
 (bh (Instr.buildSlice 27 0 #[]) fun g h i =>
 bh (Builtin.append_ #[27,27] 27 #[.slice g h i,.slice a b c]) fun j k l =>
 T.loop [aM] [vI 0] fun m =>
 bq m b
 (T.loop [aM] [vI 0] fun n =>
 bq n k
 (aZ n k j fun o =>
 T.ah ((o.add (aK n 3)).add 1) [.slice 66,.int .u32] fun p q r s =>
 bG 94 [.agg #[.slice p q r,.int .u32 s],.slice a b c] false [(true,[.slice 66,.int .u32])] fun t u v w =>
 aZ n k j fun x =>
 T.aC ((x.add (aK n 3)).add 1) [.slice t u v,.int .u32 w] <|
 T.again 1 [bg n])
 (T.again 0 [bg m]))
 (T.ret (.tuple #[.slice j k l,vI 0,vI 0])))
theorem mF (a:Option ZC) (b c:Nat):bI Tryz.prog [] Tryz.f64 [.slice a b c]=iO a b c:=ax
def jH (a:Option ZC) (b c:Nat):T :=
 T.loop [db,aM] [bd,vI 0] fun d e f g =>
 bq g b
 (aU 114 [.slice a b c,vI g,vI g] fun h =>
 cond h
 (bh (Instr.buildSlice 126 1 #[(0,vI g)]) fun i j k =>
 bh (Builtin.append_ #[126,126] 126 #[.slice d e f,.slice i j k]) fun l m n =>
 T.again 0 [.slice l m n,bg g])
 (T.again 0 [.slice d e f,bg g]))
 (T.ret (.slice d e f))
theorem mX (a:Option ZC) (b c:Nat):bI Tryz.prog [] Tryz.f93 [.slice a b c]=jH a b c:=ax
def j7 (a:Option ZC) (b c:Nat) (d:Int) (e:Option ZC) (f g:Nat):T :=
 T.new [.slice a b c,.int .u32 d] 60 fun h =>
 T.new [bd,.int .u32 0] 60 fun i =>
 T.ah (h.add 1) [.int .u32] fun j =>
 T.new [bd,.int .u32 0] 60 fun k =>
 T.aC k [bd,.int .u32 j] <|
 T.loop [aM] [vI 0] fun l =>
 T.ah h [.slice 66] fun m n o =>
 bq l n
 (T.ah h [.slice 66] fun p q r =>
 aZ l q p fun s =>
 T.ah (s.add (aK l 2)) [.string] fun t =>
 cD 115 [.slice e f g,.string t] fun u =>
 T.ah h [.slice 66] fun v w x =>
 aZ l w v fun y =>
 T.ah (y.add (aK l 2)) [.string,.int .u32] fun z A =>
 bh (Instr.buildSlice 57 1 #[(0,.agg #[.string z,.int .u32 A])]) fun B C D =>
 T.new [bd,.int .u32 0] 60 fun E =>
 T.aC E [.slice B C D,.int .u32 0] <|
 cond (decide (u>=(0:Int)))
 (aZ u f e fun F =>
 T.ah ((F.add (aK u 3)).add 1) [.slice 66,.int .u32] fun G H I J =>
 T.ah h [.slice 66] fun K L M =>
 aZ l L K fun N =>
 T.ah ((N.add (aK l 2)).add 1) [.int .u32] fun O =>
 bG 116 [.agg #[.slice G H I,.int .u32 J],.int .u32 O] false [(true,[.slice 66,.int .u32])] fun P Q R S =>
 T.bf [(h,[.slice K L M])] <|
 T.aC E [.slice P Q R,.int .u32 S] <|
 T.ah k [.slice 66,.int .u32] fun U V W X =>
 T.ah E [.slice 66,.int .u32] fun Y Z a0 a1 =>
 bG 92 [.agg #[.slice U V W,.int .u32 X],.agg #[.slice Y Z a0,.int .u32 a1]] false [(true,[.slice 66,.int .u32])] fun a2 a3 a4 a5 =>
 T.aC k [.slice a2 a3 a4,.int .u32 a5] <|
 T.again 0 [bg l])
 (T.ah k [.slice 66,.int .u32] fun F G H I =>
 T.ah E [.slice 66,.int .u32] fun J K L M =>
 bG 92 [.agg #[.slice F G H,.int .u32 I],.agg #[.slice J K L,.int .u32 M]] false [(true,[.slice 66,.int .u32])] fun N O P Q =>
 T.aC k [.slice N O P,.int .u32 Q] <|
 T.again 0 [bg l]))
 (T.ah k [.slice 66,.int .u32] fun p q r s =>
 T.aC i [.slice p q r,.int .u32 s] <|
 T.ah i [.slice 66,.int .u32] fun t u v w =>
 T.ret (.agg #[.slice t u v,.int .u32 w]))
theorem oR (a:Option ZC) (b c:Nat) (d:Int) (e:Option ZC) (f g:Nat):bI Tryz.prog [] Tryz.f94 [.agg #[.slice a b c,.int .u32 d],.slice e f g]=j7 a b c d e f g:=ax
def jV (a:Option ZC) (b c:Nat) (d:Int) (e:Int):T :=
 bh (Instr.makeSlice 204 (vI (b:Int)) (vI (b:Int))) fun f g h =>
 bh (Instr.buildSlice 126 1 #[(0,vI d)]) fun i j k =>
 T.loop [cd,db] [.bool false,.slice i j k] fun l m n o =>
 cond (decide ((n:Int)>(0:Int)))
 (T.need (((0:Int)<=(bi ((n:Int)-(1:Int))))/\((bi ((n:Int)-(1:Int)))<(n:Int))) <|
 T.bk m fun p =>
 T.ah (p.add ((Int.toNat (bi ((n:Int)-(1:Int))))*1)) [.int .i64] fun q =>
 T.need (((0:Int)<=(0:Int))/\(((0:Int)<=(bi ((n:Int)-(1:Int))))/\((bi ((n:Int)-(1:Int)))<=(o:Int)))) <|
 T.loop [cd,db,aM] [.bool l,.slice (if (o=0) then m else (Option.map (fun r=>Addr.add r 0) m)) ((Int.toNat (bi ((n:Int)-(1:Int))))-0) (o-0),vI 0] fun r s t u v =>
 aZ q b a fun w =>
 T.ah ((w.add (aK q 3)).add 1) [.slice 66] fun x y z =>
 bq v y
 (aZ q b a fun A =>
 T.ah ((A.add (aK q 3)).add 1) [.slice 66] fun B C D =>
 aZ v C B fun E =>
 T.ah (E.add (aK v 2)) [.string] fun F =>
 cD 115 [.slice a b c,.string F] fun G =>
 cond (G==e)
 dH
 (cond (decide (G>=(0:Int)))
 (aZ G g f fun H =>
 T.ah (H.add (aK G 1)) [.bool] fun I =>
 cond (!I)
 (aZ G g f fun J =>
 T.aC (J.add (aK G 1)) [.bool true] <|
 bh (Instr.buildSlice 126 1 #[(0,vI G)]) fun K L M =>
 bh (Builtin.append_ #[126,126] 126 #[.slice s t u,.slice K L M]) fun N O P =>
 T.again 1 [.bool r,.slice N O P,bg v])
 (T.again 1 [.bool r,.slice s t u,bg v]))
 (T.again 1 [.bool r,.slice s t u,bg v])))
 (T.again 0 [.bool r,.slice s t u]))
 bt
theorem oY (a:Option ZC) (b c:Nat) (d:Int) (e:Int):bI Tryz.prog [] Tryz.f114 [.slice a b c,vI d,vI e]=jV a b c d e:=ax
def jv (a:Option ZC) (b c:Nat) (d:ZA):T :=
 T.loop [aM,aM] [vI 0,vI 0] fun e f =>
 bq f b
 (aZ f b a fun g =>
 T.ah (g.add (aK f 3)) [.string] fun h =>
 cond ((ByteArray.toList h)==(ByteArray.toList d))
 (T.ret (vI f))
 (T.again 0 [vI e,bg f]))
 (T.ret (vI (-1:Int)))
theorem ni (a:Option ZC) (b c:Nat) (d:ZA):bI Tryz.prog [] Tryz.f115 [.slice a b c,.string d]=jv a b c d:=ax
def jB (a:Option ZC) (b c:Nat):T :=
 T.new [vI 0,vI 0,bS] 54 fun d =>
 bG 60 [.slice a b c] false [(true,[.int .i64,.int .i64,.string])] fun e f g =>
 T.new [vI 0,vI 0,bS] 54 fun h =>
 T.aC h [vI e,vI f,.string g] <|
 T.ah h [.int .i64] fun i =>
 cond (i != (0:Int))
 (T.ah h [.int .i64,.int .i64,.string] fun j k l =>
 T.bf [(h,[vI j,vI k,.string l])] <|
 T.aC d [vI j,vI k,.string l] <|
 T.ah d [.int .i64,.int .i64,.string] fun m n o =>
 T.ret (.tuple #[.pointer none,.agg #[vI m,vI n,.string o]]))
 (T.new [.slice a b c,bd,bd,bd] 70 fun j =>
 T.loop [aM] [vI 0] fun k =>
 bq k b
 (aZ k b a fun l =>
 T.ah (l.add (aK k 4)) [.slice 64] fun m n o =>
 bG 61 [.pointer (some j),vI k,vI 0,.slice m n o] true [] <| aZ k b a fun p =>
 T.ah ((p.add (aK k 4)).add 1) [.slice 64] fun q r s =>
 bG 61 [.pointer (some j),vI k,vI 1,.slice q r s] true [] <| T.again 0 [bg k])
 (T.loop [db,db,aM] [bd,bd,vI 0] fun l m n o p q r =>
 bq r b
 (T.loop [db,db,aM] [.slice l m n,.slice o p q,vI 0] fun s t u v w x y =>
 aZ r b a fun z =>
 T.ah ((z.add (aK r 4)).add 2) [.slice 88] fun A B C =>
 bq y B
 (aZ r b a fun D =>
 T.ah ((D.add (aK r 4)).add 2) [.slice 88] fun E F G =>
 aZ y F E fun H =>
 T.ah (H.add (aK y 3)) [.string,.slice 66,.int .u32] fun I J K L M =>
 T.new [bS,bd,.int .u32 0] 88 fun N =>
 T.aC N [.string I,.slice J K L,.int .u32 M] <|
 T.ah N [.string] fun O =>
 T.ah (N.add 1) [.slice 66,.int .u32] fun P Q R S =>
 hY 62 [.pointer (some j),vI r,.string O] fun U =>
 T.bf [((N.add 1),[.slice P Q R,.int .u32 S])] <|
 bG 63 [.pointer (some j),vI r,.agg #[.slice P Q R,.int .u32 S]] false [(true,[.slice 66,.int .u32])] fun V W X Y =>
 T.bf [(N,[.string O])] <|
 bh (Instr.buildSlice 27 1 #[(0,.agg #[.string U,.slice V W X,.int .u32 Y])]) fun Z a0 a1 =>
 T.bf [((N.add 1),[.slice P Q R,.int .u32 S]),(N,[.string O])] <|
 bh (Builtin.append_ #[27,27] 27 #[.slice s t u,.slice Z a0 a1]) fun a2 a3 a4 =>
 T.bf [((N.add 1),[.slice P Q R,.int .u32 S]),(N,[.string O])] <|
 bh (Instr.buildSlice 126 1 #[(0,vI y)]) fun a5 a6 a7 =>
 bh (Builtin.append_ #[126,126] 126 #[.slice v w x,.slice a5 a6 a7]) fun a8 a9 b0 =>
 T.again 2 [.slice a2 a3 a4,.slice a8 a9 b0,bg y])
 (T.again 1 [.slice s t u,.slice v w x,bg r]))
 (bG 64 [.slice l m n] true [(false,[.slice 88]),aM,aM] fun s t u v w =>
 cond (w != (0:Int))
 (T.loop [aM,aM] [vI 0,vI v] fun x y =>
 aZ x b a fun z =>
 T.ah ((z.add (aK x 4)).add 2) [.slice 88] fun A B C =>
 cond (decide (y>=(B:Int)))
 (aZ x b a fun D =>
 T.ah ((D.add (aK x 4)).add 2) [.slice 88] fun E F G =>
 T.again 2 [bg x,vI (bi (y-(F:Int)))])
 (aZ x b a fun D =>
 T.ah ((D.add (aK x 4)).add 2) [.slice 88] fun E F G =>
 aZ v p o fun H =>
 T.ah (H.add (aK v 1)) [.int .i64] fun I =>
 aZ I F E fun J =>
 T.ah (J.add (aK I 3)) [.string] fun K =>
 T.bf [((J.add (aK I 3)),[.string K]),((H.add (aK v 1)),[vI I]),(((D.add (aK x 4)).add 2),[.slice E F G])] <|
 T.aC d [vI 24,vI x,.string K] <|
 T.ah d [.int .i64,.int .i64,.string] fun L M N =>
 T.ret (.tuple #[.pointer none,.agg #[vI L,vI M,.string N]])))
 (T.loop [aM] [vI 0] fun x =>
 bq x b
 (T.ah (j.add 2) [.slice 26] fun y z A =>
 aZ x b a fun B =>
 T.ah (B.add (aK x 4)) [.slice 64] fun C D E =>
 bG 65 [.pointer (some j),vI x,.slice C D E,.slice s t u] false [(false,[.slice 64])] fun F G H =>
 T.bf [((j.add 2),[.slice y z A])] <|
 bh (Instr.buildSlice 68 1 #[(0,.slice F G H)]) fun I J K =>
 T.bf [((B.add (aK x 4)),[.slice C D E]),((j.add 2),[.slice y z A])] <|
 bh (Builtin.append_ #[68,68] 68 #[.slice y z A,.slice I J K]) fun L M N =>
 T.bf [((B.add (aK x 4)),[.slice C D E])] <|
 T.aC (j.add 2) [.slice L M N] <|
 T.ah (j.add 3) [.slice 26] fun O P Q =>
 aZ x b a fun R =>
 T.ah ((R.add (aK x 4)).add 1) [.slice 64] fun S U V =>
 bG 65 [.pointer (some j),vI x,.slice S U V,.slice s t u] false [(false,[.slice 64])] fun W X Y =>
 T.bf [((j.add 3),[.slice O P Q])] <|
 bh (Instr.buildSlice 68 1 #[(0,.slice W X Y)]) fun Z a0 a1 =>
 T.bf [(((R.add (aK x 4)).add 1),[.slice S U V]),((j.add 3),[.slice O P Q])] <|
 bh (Builtin.append_ #[68,68] 68 #[.slice O P Q,.slice Z a0 a1]) fun a2 a3 a4 =>
 T.bf [(((R.add (aK x 4)).add 1),[.slice S U V])] <|
 T.aC (j.add 3) [.slice a2 a3 a4] <|
 T.again 2 [bg x])
 (T.aC d [vI 0,vI 0,bS] <|
 T.ah d [.int .i64,.int .i64,.string] fun y z A =>
 T.ret (.tuple #[.pointer (some j),.agg #[vI y,vI z,.string A]]))))))
theorem nK (a:Option ZC) (b c:Nat):bI Tryz.prog [] Tryz.f26 [.slice a b c]=jB a b c:=ax
def gX (a:Option ZC) (b c:Nat):T :=
 T.new [vI 0,vI 0,bS] 54 fun d =>
 cond ((b:Int)==(0:Int))
 (T.aC d [vI 25,vI 0,bS] <|
 T.ah d [.int .i64,.int .i64,.string] fun e f g =>
 T.ret (.agg #[vI e,vI f,.string g]))
 (cond (decide ((b:Int)>(64:Int)))
 (T.aC d [vI 4,vI 0,bS] <|
 T.ah d [.int .i64,.int .i64,.string] fun e f g =>
 T.ret (.agg #[vI e,vI f,.string g]))
 (T.loop [aM] [vI 0] fun e =>
 bq e b
 (aZ e b a fun f =>
 T.ah (f.add (aK e 4)) [.slice 64,.slice 64,.slice 88,.slice 9] fun g h i j k l m n o p q r =>
 cD 10 [.agg #[.slice g h i,.slice j k l,.slice m n o,.slice p q r]] fun s =>
 cond (s != (0:Int))
 (T.aC d [vI 31,vI e,bS] <|
 T.ah d [.int .i64,.int .i64,.string] fun t u v =>
 T.ret (.agg #[vI t,vI u,.string v]))
 (T.again 0 [bg e]))
 (T.loop [aM] [vI 0] fun f =>
 bq f b
 (T.loop [aM] [vI 0] fun g =>
 aZ f b a fun h =>
 T.ah ((h.add (aK f 4)).add 3) [.slice 9] fun i j k =>
 bq g j
 (T.loop [aM] [vI 0] fun l =>
 cond (decide (l<f))
 (aZ l b a fun m =>
 T.ah ((m.add (aK l 4)).add 3) [.slice 9] fun n o p =>
 aZ f b a fun q =>
 T.ah ((q.add (aK f 4)).add 3) [.slice 9] fun r s t =>
 aZ g s r fun u =>
 T.ah (u.add (aK g 1)) [.string] fun v =>
 aU 38 [.slice n o p,.string v] fun w =>
 T.bf [(((q.add (aK f 4)).add 3),[.slice r s t])] <|
 cond w
 (aZ f b a fun x =>
 T.ah ((x.add (aK f 4)).add 3) [.slice 9] fun y z A =>
 aZ g z y fun B =>
 T.ah (B.add (aK g 1)) [.string] fun C =>
 T.aC d [vI 22,vI f,.string C] <|
 T.ah d [.int .i64,.int .i64,.string] fun D E F =>
 T.ret (.agg #[vI D,vI E,.string F]))
 (T.again 3 [bg l]))
 (T.again 2 [bg g]))
 (T.again 1 [bg f]))
 (T.loop [aM] [vI 0] fun g =>
 bq g b
 (hY 90 [.slice a b c,vI g] fun h =>
 cond (!((ByteArray.toList h)==[]))
 (T.aC d [vI 23,vI g,.string h] <|
 T.ah d [.int .i64,.int .i64,.string] fun i j k =>
 T.ret (.agg #[vI i,vI j,.string k]))
 (T.again 2 [bg g]))
 (T.aC d [vI 0,vI 0,bS] <|
 T.ah d [.int .i64,.int .i64,.string] fun h i j =>
 T.ret (.agg #[vI h,vI i,.string j]))))))
theorem lh (a:Option ZC) (b c:Nat):bI Tryz.prog [] Tryz.f60 [.slice a b c]=gX a b c:=ax
def eK (a:Option ZC) (b:Int) (c:Int) (d:Option ZC) (e f:Nat):T :=
 T.loop [aM] [vI 0] fun g =>
 bq g e
 (aZ g e d fun h =>
 T.ah (h.add (aK g 10)) [.int .i64] fun i =>
 cond (i==(1:Int))
 (T.bk a fun j =>
 T.ah (j.add 1) [.slice 82] fun k l m =>
 aZ g e d fun n =>
 T.ah ((n.add (aK g 10)).add 1) [.string] fun o =>
 bh (Instr.buildSlice 67 1 #[(0,.agg #[vI b,vI c,vI g,.string o])]) fun p q r =>
 T.bf [(((n.add (aK g 10)).add 1),[.string o]),((j.add 1),[.slice k l m])] <|
 bh (Builtin.append_ #[67,67] 67 #[.slice k l m,.slice p q r]) fun s t u =>
 T.bf [(((n.add (aK g 10)).add 1),[.string o])] <|
 T.bk a fun v =>
 T.aC (v.add 1) [.slice s t u] <|
 T.again 0 [bg g])
 (T.again 0 [bg g]))
 (T.ret (.tuple #[]))
theorem gY (a:Option ZC) (b:Int) (c:Int) (d:Option ZC) (e f:Nat):bI Tryz.prog [] Tryz.f61 [.pointer a,vI b,vI c,.slice d e f]=eK a b c d e f:=ax
def eV (a:Option ZC) (b:Int) (c:ZA):T :=
 T.bk a fun d =>
 T.ah d [.slice 30] fun e f g =>
 cD 69 [.slice e f g,vI b,.string c] fun h =>
 T.loop [(false,[.string]),aM] [bS,vI 0] fun i j =>
 T.bk a fun k =>
 T.ah (k.add 1) [.slice 82] fun l m n =>
 bq j m
 (T.bk a fun o =>
 T.ah (o.add 1) [.slice 82] fun p q r =>
 aZ j q p fun s =>
 T.ah (s.add (aK j 4)) [.int .i64] fun t =>
 cond (t==h)
 (T.bk a fun u =>
 T.ah (u.add 1) [.slice 82] fun v w x =>
 aZ j w v fun y =>
 T.ah ((y.add (aK j 4)).add 3) [.string] fun z =>
 cond ((ByteArray.toList z)==(ByteArray.toList c))
 (hY 91 [vI j] fun A =>
 T.need ((((1+A.size):Nat):Int)<=(9223372036854775807:Int)) <|
 T.ret (.string (⟨#[76]⟩++A)))
 (T.again 0 [.string i,bg j]))
 (T.again 0 [.string i,bg j]))
 (hY 91 [vI h] fun o =>
 T.need ((((1+o.size):Nat):Int)<=(9223372036854775807:Int)) <|
 T.need (((((ByteArray.size (⟨#[69]⟩++o))+1):Nat):Int)<=(9223372036854775807:Int)) <|
 T.need (((((ByteArray.size ((⟨#[69]⟩++o)++⟨#[95]⟩))+c.size):Nat):Int)<=(9223372036854775807:Int)) <|
 T.ret (.string (((⟨#[69]⟩++o)++⟨#[95]⟩)++c)))
theorem iA (a:Option ZC) (b:Int) (c:ZA):bI Tryz.prog [] Tryz.f62 [.pointer a,vI b,.string c]=eV a b c:=ax
def eO (a:Option ZC) (b:Int) (c:Option ZC) (d e:Nat) (f:Int):T :=
 T.new [.slice c d e,.int .u32 f] 60 fun g =>
 T.new [bd,.int .u32 0] 60 fun h =>
 T.ah (g.add 1) [.int .u32] fun i =>
 T.new [bd,.int .u32 0] 60 fun j =>
 T.aC j [bd,.int .u32 i] <|
 T.loop [aM] [vI 0] fun k =>
 T.ah g [.slice 66] fun l m n =>
 bq k m
 (T.ah j [.slice 66,.int .u32] fun o p q r =>
 T.ah g [.slice 66] fun s t u =>
 aZ k t s fun v =>
 T.ah (v.add (aK k 2)) [.string] fun w =>
 T.ah g [.slice 66] fun x y z =>
 aZ k y x fun A =>
 T.ah ((A.add (aK k 2)).add 1) [.int .u32] fun B =>
 hY 62 [.pointer a,vI b,.string w] fun C =>
 T.bf [(((A.add (aK k 2)).add 1),[.int .u32 B]),(g,[.slice x y z]),(g,[.slice s t u]),(j,[.slice o p q,.int .u32 r])] <|
 bh (Instr.buildSlice 57 1 #[(0,.agg #[.string C,.int .u32 B])]) fun D E F =>
 T.bf [(((A.add (aK k 2)).add 1),[.int .u32 B]),(g,[.slice x y z]),((v.add (aK k 2)),[.string w]),(g,[.slice s t u]),(j,[.slice o p q,.int .u32 r])] <|
 bG 92 [.agg #[.slice o p q,.int .u32 r],.agg #[.slice D E F,.int .u32 0]] false [(true,[.slice 66,.int .u32])] fun G H I J =>
 T.bf [(((A.add (aK k 2)).add 1),[.int .u32 B]),(g,[.slice x y z]),((v.add (aK k 2)),[.string w]),(g,[.slice s t u])] <|
 T.aC j [.slice G H I,.int .u32 J] <|
 T.again 0 [bg k])
 (T.ah j [.slice 66,.int .u32] fun o p q r =>
 T.aC h [.slice o p q,.int .u32 r] <|
 T.ah h [.slice 66,.int .u32] fun s t u v =>
 T.ret (.agg #[.slice s t u,.int .u32 v]))
theorem gZ (a:Option ZC) (b:Int) (c:Option ZC) (d e:Nat) (f:Int):bI Tryz.prog [] Tryz.f63 [.pointer a,vI b,.agg #[.slice c d e,.int .u32 f]]=eO a b c d e f:=ax
def eA (a:Option ZC) (b:Int) (c:Option ZC) (d e:Nat) (f:Option ZC) (g h:Nat):T :=
 bh (Instr.buildSlice 26 0 #[]) fun i j k =>
 bh (Builtin.append_ #[26,26] 26 #[.slice i j k,.slice c d e]) fun l m n =>
 T.loop [aM] [vI 0] fun o =>
 bq o m
 (aZ o m l fun p =>
 T.ah ((p.add (aK o 10)).add 7) [.slice 66,.int .u32] fun q r s t =>
 bG 63 [.pointer a,vI b,.agg #[.slice q r s,.int .u32 t]] false [(true,[.slice 66,.int .u32])] fun u v w x =>
 bG 94 [.agg #[.slice u v w,.int .u32 x],.slice f g h] false [(true,[.slice 66,.int .u32])] fun y z A B =>
 aZ o m l fun C =>
 T.aC ((C.add (aK o 10)).add 7) [.slice y z A,.int .u32 B] <|
 T.again 0 [bg o])
 (T.ret (.slice l m n))
theorem gy (a:Option ZC) (b:Int) (c:Option ZC) (d e:Nat) (f:Option ZC) (g h:Nat):bI Tryz.prog [] Tryz.f65 [.pointer a,vI b,.slice c d e,.slice f g h]=eA a b c d e f g h:=ax
def iP (a:Option ZC) (b c:Nat) (d:Int) (e:ZA):T :=
 aZ d b a fun f =>
 T.ah (f.add (aK d 4)) [.slice 64,.slice 64,.slice 88,.slice 9] fun g h i j k l m n o p q r =>
 bG 11 [.agg #[.slice g h i,.slice j k l,.slice m n o,.slice p q r]] false [(false,[.slice 9])] fun s t u =>
 aU 38 [.slice s t u,.string e] fun v =>
 cond v
 (T.ret (vI d))
 (T.loop [aM,aM] [vI 0,vI 0] fun w x =>
 bq x b
 (aZ x b a fun y =>
 T.ah ((y.add (aK x 4)).add 3) [.slice 9] fun z A B =>
 aU 38 [.slice z A B,.string e] fun C =>
 cond C
 (T.ret (vI x))
 (T.again 0 [vI w,bg x]))
 (T.ret (vI (-1:Int))))
theorem mK (a:Option ZC) (b c:Nat) (d:Int) (e:ZA):bI Tryz.prog [] Tryz.f69 [.slice a b c,vI d,.string e]=iP a b c d e:=ax
def fQ (a:Option ZC) (b c:Nat) (d:Int):T :=
 aZ d b a fun e =>
 T.ah (e.add (aK d 4)) [.slice 64,.slice 64,.slice 88,.slice 9] fun f g h i j k l m n o p q =>
 T.new [bd,bd,bd,bd] 30 fun r =>
 T.aC r [.slice f g h,.slice i j k,.slice l m n,.slice o p q] <|
 T.ah r [.slice 64] fun s t u =>
 T.ah (r.add 1) [.slice 64] fun v w x =>
 bh (Instr.buildSlice 26 0 #[]) fun y z A =>
 T.bf [((r.add 1),[.slice v w x]),(r,[.slice s t u])] <|
 bh (Builtin.append_ #[26,26] 26 #[.slice y z A,.slice s t u]) fun B C D =>
 T.bf [((r.add 1),[.slice v w x])] <|
 bh (Builtin.append_ #[26,26] 26 #[.slice B C D,.slice v w x]) fun E F G =>
 T.bf [(r,[.slice s t u])] <|
 T.loop [(false,[.string]),aM] [bS,vI 0] fun H I =>
 bq I F
 (aZ I F E fun J =>
 T.ah ((J.add (aK I 10)).add 7) [.slice 66,.int .u32] fun K L M N =>
 hY 113 [.slice a b c,vI d,.agg #[.slice K L M,.int .u32 N]] fun O =>
 cond (!((ByteArray.toList O)==[]))
 (T.ret (.string O))
 (T.again 0 [.string H,bg I]))
 (T.loop [(false,[.string]),aM] [.string H,vI 0] fun J K =>
 T.ah (r.add 2) [.slice 88] fun L M N =>
 bq K M
 (T.ah (r.add 2) [.slice 88] fun O P Q =>
 aZ K P O fun R =>
 T.ah ((R.add (aK K 3)).add 1) [.slice 66,.int .u32] fun S U V W =>
 hY 113 [.slice a b c,vI d,.agg #[.slice S U V,.int .u32 W]] fun X =>
 cond (!((ByteArray.toList X)==[]))
 (T.ret (.string X))
 (T.again 1 [.string J,bg K]))
 (T.ret (bS)))
theorem jP (a:Option ZC) (b c:Nat) (d:Int):bI Tryz.prog [] Tryz.f90 [.slice a b c,vI d]=fQ a b c d:=ax
def ix (a:Int):T :=
 T.loop [aM,(false,[.string])] [vI a,bS] fun b c =>
 cond (decide (b>(0:Int)))
 (T.need ((10:Int)≠(0:Int)) <|
 bh (Instr.buildSlice 182 1 #[(0,.int .u8 (IntKind.wrap .u8 (bi ((48:Int)+(Int.tmod b (10:Int))))))]) fun d e f =>
 bK (convert 182 9 (.slice d e f)) false [(false,[.string])] fun g =>
 T.need ((((g.size+c.size):Nat):Int)<=(9223372036854775807:Int)) <|
 T.need ((10:Int)≠(0:Int)) <|
 T.again 0 [vI (bi (Int.tdiv b (10:Int))),.string (g++c)])
 (cond ((ByteArray.toList c)==[])
 (T.need ((10:Int)≠(0:Int)) <|
 bh (Instr.buildSlice 182 1 #[(0,.int .u8 (IntKind.wrap .u8 (bi ((48:Int)+(Int.tmod b (10:Int))))))]) fun d e f =>
 bK (convert 182 9 (.slice d e f)) false [(false,[.string])] fun g =>
 T.need ((((g.size+c.size):Nat):Int)<=(9223372036854775807:Int)) <|
 T.need ((10:Int)≠(0:Int)) <|
 T.again 0 [vI (bi (Int.tdiv b (10:Int))),.string (g++c)])
 (T.ret (.string c)))
theorem lN (a:Int):bI Tryz.prog [] Tryz.f91 [vI a]=ix a:=ax
def iI (a:Option ZC) (b c:Nat) (d:Int) (e:Option ZC) (f g:Nat) (h:Int):T :=
 T.new [.slice e f g,.int .u32 h] 60 fun i =>
 T.loop [(false,[.string]),aM] [bS,vI 0] fun j k =>
 T.ah i [.slice 66] fun l m n =>
 bq k m
 (T.ah i [.slice 66] fun o p q =>
 aZ k p o fun r =>
 T.ah (r.add (aK k 2)) [.string] fun s =>
 cD 69 [.slice a b c,vI d,.string s] fun t =>
 cond (decide (t<(0:Int)))
 (T.ah i [.slice 66] fun u v w =>
 aZ k v u fun x =>
 T.ah (x.add (aK k 2)) [.string] fun y =>
 T.ret (.string y))
 (T.again 0 [.string j,bg k]))
 (T.ret (bS))
theorem mv (a:Option ZC) (b c:Nat) (d:Int) (e:Option ZC) (f g:Nat) (h:Int):bI Tryz.prog [] Tryz.f113 [.slice a b c,vI d,.agg #[.slice e f g,.int .u32 h]]=iI a b c d e f g h:=ax
end Go.Sx
