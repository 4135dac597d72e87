/- Trees of functions, each checked by the kernel against the code. No condition. -/
import Derived.Test.YtlpcncdglfjnoaaGreatDoorSxF
import Derived.Test.YtlpcncdglfjnoaaGreatDoorProg
import Derived.KernelRfl
set_option linter.all false
set_option maxRecDepth 100000
set_option maxHeartbeats 4000000
namespace Go.Sx
open Go.Proofs
def uc (a:Option YC) (b c:Nat) (d:Option YC) (e f:Nat) (g:Option YC) (h i:Nat) (j:Option YC) (k l:Nat):T :=
 T.new [.slice a b c,.slice d e f,.slice g h i,.slice j k l] 30 fun m =>
 T.ah m [.slice 64,.slice 64,.slice 88,.slice 9] fun n o p q r s t u v w x y =>
 cn 42 [.agg #[.slice n o p,.slice q r s,.slice t u v,.slice w x y]] fun z =>
 cond (z != (0:Int))
 (T.ret (vI 0))
 (T.ah m [.slice 64] fun A B C =>
 T.loop [aM,aM] [vI 0,vI 0] fun D E =>
 bm E B
 (aX E B A fun F =>
 T.ah (F.add (aH E 10)) [.int .i64,.string,.int .i64,.int .i64,.int .i64,.int .i32,.int .i64,.slice 66,.int .u32,.int .i64] fun G H I J K L M N O P Q R =>
 T.new [vI 0,bU,vI 0,vI 0,vI 0,.int .i32 0,vI 0,bi,.int .u32 0,vI 0] 64 fun S =>
 T.aD S [vI G,.string H,vI I,vI J,vI K,.int .i32 L,vI M,.slice N O P,.int .u32 Q,vI R] <|
 T.ah S [.int .i64] fun U =>
 cond (U==(2:Int))
 (T.ah (S.add 2) [.int .i64] fun V =>
 aU 82 [vI V] fun W =>
 cond W
 (T.again 0 [bh D,bh E])
 (T.again 0 [vI D,bh E]))
 (T.again 0 [vI D,bh E]))
 (T.ret (vI D)))
theorem xR (a:Option YC) (b c:Nat) (d:Option YC) (e f:Nat) (g:Option YC) (h i:Nat) (j:Option YC) (k l:Nat):bI Tryz.prog [] Tryz.f48 [.agg #[.slice a b c,.slice d e f,.slice g h i,.slice j k l]]=uc a b c d e f g h i j k l:=az
def jy (a:Option YC) (b c:Nat) (d:Option YC) (e f:Nat) (g:Option YC) (h i:Nat) (j:Option YC) (k l:Nat):T :=
 T.new [.slice a b c,.slice d e f,.slice g h i,.slice j k l] 30 fun m =>
 T.loop [aM,aM] [vI 0,vI 0] fun n o =>
 T.ah m [.slice 64] fun p q r =>
 bm o q
 (T.ah m [.slice 64] fun s t u =>
 aX o t s fun v =>
 T.ah (v.add (aH o 10)) [.int .i64] fun w =>
 cond (w==(2:Int))
 (T.ah m [.slice 64] fun x y z =>
 aX o y x fun A =>
 T.ah ((A.add (aH o 10)).add 2) [.int .i64] fun B =>
 aU 71 [vI B] fun C =>
 cond C
 (T.again 0 [bh n,bh o])
 (T.again 0 [vI n,bh o]))
 (T.again 0 [vI n,bh o]))
 (T.ret (vI n))
theorem nq (a:Option YC) (b c:Nat) (d:Option YC) (e f:Nat) (g:Option YC) (h i:Nat) (j:Option YC) (k l:Nat):bI Tryz.prog [] Tryz.f68 [.agg #[.slice a b c,.slice d e f,.slice g h i,.slice j k l]]=jy a b c d e f g h i j k l:=az
def iT (a:Option YC) (b c:Nat):T :=
 bF 93 [.slice a b c] false [(false,[.slice 3])] fun d e f =>
 cond (decide ((e:Int)>(0:Int)))
 (T.need (((0:Int)<=(0:Int))/\((0:Int)<(e:Int))) <|
 T.bd d fun g =>
 T.ah g [.int .i64] fun h =>
 T.aY [(g,[vI h])] <|
 T.ret (.tuple #[bi,vI h,vI 24]))
 (bk (Instr.buildSlice 27 0 #[]) fun g h i =>
 bk (Builtin.append_ #[27,27] 27 #[.slice g h i,.slice a b c]) fun j k l =>
 T.loop [aM] [vI 0] fun m =>
 bm m b
 (T.loop [aM] [vI 0] fun n =>
 bm n k
 (aX n k j fun o =>
 T.ah ((o.add (aH n 3)).add 1) [.slice 66,.int .u32] fun p q r s =>
 bF 94 [.agg #[.slice p q r,.int .u32 s],.slice a b c] false [(true,[.slice 66,.int .u32])] fun t u v w =>
 aX n k j fun x =>
 T.aD ((x.add (aH n 3)).add 1) [.slice t u v,.int .u32 w] <|
 T.again 1 [bh n])
 (T.again 0 [bh m]))
 (T.ret (.tuple #[.slice j k l,vI 0,vI 0])))
theorem mQ (a:Option YC) (b c:Nat):bI Tryz.prog [] Tryz.f64 [.slice a b c]=iT a b c:=az
def jM (a:Option YC) (b c:Nat):T :=
 T.loop [da,aM] [bi,vI 0] fun d e f g =>
 bm g b
 (aU 114 [.slice a b c,vI g,vI g] fun h =>
 cond h
 (bk (Instr.buildSlice 126 1 #[(0,vI g)]) fun i j k =>
 bk (Builtin.append_ #[126,126] 126 #[.slice d e f,.slice i j k]) fun l m n =>
 T.again 0 [.slice l m n,bh g])
 (T.again 0 [.slice d e f,bh g]))
 (T.ret (.slice d e f))
theorem nO (a:Option YC) (b c:Nat):bI Tryz.prog [] Tryz.f93 [.slice a b c]=jM a b c:=az
def j0 (a:Option YC) (b c:Nat) (d:Int) (e:Option YC) (f g:Nat):T :=
 T.new [.slice a b c,.int .u32 d] 60 fun h =>
 T.new [bi,.int .u32 0] 60 fun i =>
 T.ah (h.add 1) [.int .u32] fun j =>
 T.new [bi,.int .u32 0] 60 fun k =>
 T.aD k [bi,.int .u32 j] <|
 T.loop [aM] [vI 0] fun l =>
 T.ah h [.slice 66] fun m n o =>
 bm l n
 (T.ah h [.slice 66] fun p q r =>
 aX l q p fun s =>
 T.ah (s.add (aH l 2)) [.string] fun t =>
 cn 115 [.slice e f g,.string t] fun u =>
 T.ah h [.slice 66] fun v w x =>
 aX l w v fun y =>
 T.ah (y.add (aH l 2)) [.string,.int .u32] fun z A =>
 bk (Instr.buildSlice 57 1 #[(0,.agg #[.string z,.int .u32 A])]) fun B C D =>
 T.new [bi,.int .u32 0] 60 fun E =>
 T.aD E [.slice B C D,.int .u32 0] <|
 cond (decide (u>=(0:Int)))
 (aX u f e fun F =>
 T.ah ((F.add (aH u 3)).add 1) [.slice 66,.int .u32] fun G H I J =>
 T.ah h [.slice 66] fun K L M =>
 aX l L K fun N =>
 T.ah ((N.add (aH l 2)).add 1) [.int .u32] fun O =>
 bF 116 [.agg #[.slice G H I,.int .u32 J],.int .u32 O] false [(true,[.slice 66,.int .u32])] fun P Q R S =>
 T.aY [(h,[.slice K L M])] <|
 T.aD E [.slice P Q R,.int .u32 S] <|
 T.ah k [.slice 66,.int .u32] fun U V W X =>
 T.ah E [.slice 66,.int .u32] fun Y Z a0 a1 =>
 bF 92 [.agg #[.slice U V W,.int .u32 X],.agg #[.slice Y Z a0,.int .u32 a1]] false [(true,[.slice 66,.int .u32])] fun a2 a3 a4 a5 =>
 T.aD k [.slice a2 a3 a4,.int .u32 a5] <|
 T.again 0 [bh l])
 (T.ah k [.slice 66,.int .u32] fun F G H I =>
 T.ah E [.slice 66,.int .u32] fun J K L M =>
 bF 92 [.agg #[.slice F G H,.int .u32 I],.agg #[.slice J K L,.int .u32 M]] false [(true,[.slice 66,.int .u32])] fun N O P Q =>
 T.aD k [.slice N O P,.int .u32 Q] <|
 T.again 0 [bh l]))
 (T.ah k [.slice 66,.int .u32] fun p q r s =>
 T.aD i [.slice p q r,.int .u32 s] <|
 T.ah i [.slice 66,.int .u32] fun t u v w =>
 T.ret (.agg #[.slice t u v,.int .u32 w]))
theorem pz (a:Option YC) (b c:Nat) (d:Int) (e:Option YC) (f g:Nat):bI Tryz.prog [] Tryz.f94 [.agg #[.slice a b c,.int .u32 d],.slice e f g]=j0 a b c d e f g:=az
def kg (a:Option YC) (b c:Nat) (d:Int) (e:Int):T :=
 bk (Instr.makeSlice 204 (vI (b:Int)) (vI (b:Int))) fun f g h =>
 bk (Instr.buildSlice 126 1 #[(0,vI d)]) fun i j k =>
 T.loop [bT,da] [.bool false,.slice i j k] fun l m n o =>
 cond (decide ((n:Int)>(0:Int)))
 (T.need (((0:Int)<=(bj ((n:Int)-(1:Int))))/\((bj ((n:Int)-(1:Int)))<(n:Int))) <|
 T.bd m fun p =>
 T.ah (p.add ((Int.toNat (bj ((n:Int)-(1:Int))))*1)) [.int .i64] fun q =>
 T.need (((0:Int)<=(0:Int))/\(((0:Int)<=(bj ((n:Int)-(1:Int))))/\((bj ((n:Int)-(1:Int)))<=(o:Int)))) <|
 T.loop [bT,da,aM] [.bool l,.slice (if (o=0) then m else (Option.map (fun r=>Addr.add r 0) m)) ((Int.toNat (bj ((n:Int)-(1:Int))))-0) (o-0),vI 0] fun r s t u v =>
 aX q b a fun w =>
 T.ah ((w.add (aH q 3)).add 1) [.slice 66] fun x y z =>
 bm v y
 (aX q b a fun A =>
 T.ah ((A.add (aH q 3)).add 1) [.slice 66] fun B C D =>
 aX v C B fun E =>
 T.ah (E.add (aH v 2)) [.string] fun F =>
 cn 115 [.slice a b c,.string F] fun G =>
 cond (G==e)
 dI
 (cond (decide (G>=(0:Int)))
 (aX G g f fun H =>
 T.ah (H.add (aH G 1)) [.bool] fun I =>
 cond (!I)
 (aX G g f fun J =>
 T.aD (J.add (aH G 1)) [.bool true] <|
 bk (Instr.buildSlice 126 1 #[(0,vI G)]) fun K L M =>
 bk (Builtin.append_ #[126,126] 126 #[.slice s t u,.slice K L M]) fun N O P =>
 T.again 1 [.bool r,.slice N O P,bh v])
 (T.again 1 [.bool r,.slice s t u,bh v]))
 (T.again 1 [.bool r,.slice s t u,bh v])))
 (T.again 0 [.bool r,.slice s t u]))
 bo
theorem oS (a:Option YC) (b c:Nat) (d:Int) (e:Int):bI Tryz.prog [] Tryz.f114 [.slice a b c,vI d,vI e]=kg a b c d e:=az
def jt (a:Option YC) (b c:Nat) (d:YA):T :=
 T.loop [aM,aM] [vI 0,vI 0] fun e f =>
 bm f b
 (aX f b a fun g =>
 T.ah (g.add (aH f 3)) [.string] fun h =>
 cond ((ByteArray.toList h)==(ByteArray.toList d))
 (T.ret (vI f))
 (T.again 0 [vI e,bh f]))
 (T.ret (vI (-1:Int)))
theorem nH (a:Option YC) (b c:Nat) (d:YA):bI Tryz.prog [] Tryz.f115 [.slice a b c,.string d]=jt a b c d:=az
end Go.Sx
