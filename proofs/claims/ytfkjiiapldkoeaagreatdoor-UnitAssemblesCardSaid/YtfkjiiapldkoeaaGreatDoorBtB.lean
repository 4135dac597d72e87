/- Trees of functions. No condition. -/
import Derived.Test.YtfkjiiapldkoeaaGreatDoorSxF
import Derived.Test.YtfkjiiapldkoeaaGreatDoorProg
import Derived.KernelRfl
set_option linter.all false
set_option maxRecDepth 100000
set_option maxHeartbeats 4000000
namespace Go.Sx
open Go.Proofs
def iC (a:XA):T :=
 T.loop [gK,aQ,aQ,gK,aQ] [aI,vI 0,vI 0,aI,vI 0] fun b c d e f g h i j =>
 cond (decide (j<(a.size:Int)))
 (T.need (cz j a.size) <|
 cond ((aU a j)==(59:Int))
 (aw #[.slice g h i,vI 0,vI 0])
 (cond ((aU a j)==(9:Int))
 (T.again 0 [.slice b c d,vI e,vI f,.slice g h i,bN j])
 (cond ((aU a j)==(13:Int))
 (T.again 0 [.slice b c d,vI e,vI f,.slice g h i,bN j])
 (cond ((aU a j)==(32:Int))
 (T.again 0 [.slice b c d,vI e,vI f,.slice g h i,bN j])
 (aN 87 [.int .u8 (aU a j)] fun k =>
 cond k
 (T.loop [aQ] [vI j] fun l =>
 cond (decide (l<(a.size:Int)))
 (T.need (cz l a.size) <|
 aN 87 [.int .u8 (aU a l)] fun m =>
 cond m
 (T.again 1 [bN l])
 (T.need (cz l a.size) <|
 aN 88 [.int .u8 (aU a l)] fun n =>
 cond n
 (T.again 1 [bN l])
 (cond (decide ((aH (l-j))>(32:Int)))
 (aw #[aI,vI j,vI 20])
 (T.need (((0:Int)<=j)/\((j<=l)/\(l<=(a.size:Int)))) <|
 aR (Instr.buildSlice 233 1 #[(0,.agg #[vI 1,.string (ByteArray.extract a (Int.toNat j) (Int.toNat l)),av 0,vI j])]) fun o p q =>
 aR (Builtin.append_ #[233,233] 233 #[.slice g h i,.slice o p q]) fun r s t =>
 T.again 0 [.slice b c d,vI e,vI f,.slice r s t,vI l]))))
 (cond (decide ((aH (l-j))>(32:Int)))
 (aw #[aI,vI j,vI 20])
 (T.need (((0:Int)<=j)/\((j<=l)/\(l<=(a.size:Int)))) <|
 aR (Instr.buildSlice 233 1 #[(0,.agg #[vI 1,.string (ByteArray.extract a (Int.toNat j) (Int.toNat l)),av 0,vI j])]) fun m n o =>
 aR (Builtin.append_ #[233,233] 233 #[.slice g h i,.slice m n o]) fun p q r =>
 T.again 0 [.slice b c d,vI e,vI f,.slice p q r,vI l])))
 (aN 88 [.int .u8 (aU a j)] fun l =>
 cond l
 (aS 160 [.string a,vI j] true [(false,[.int .u32]),aQ] fun m n =>
 cond (n==(0:Int))
 (aw #[aI,vI j,vI 20])
 (T.need (((0:Int)<=j)/\((j<=n)/\(n<=(a.size:Int)))) <|
 aR (Instr.buildSlice 233 1 #[(0,.agg #[vI 2,.string (ByteArray.extract a (Int.toNat j) (Int.toNat n)),av m,vI j])]) fun o p q =>
 aR (Builtin.append_ #[233,233] 233 #[.slice g h i,.slice o p q]) fun r s t =>
 T.again 0 [.slice b c d,vI e,vI f,.slice r s t,vI n]))
 (cond ((aU a j)==(39:Int))
 (aS 160 [.string a,vI j] true [(false,[.int .u32]),aQ] fun m n =>
 cond (n==(0:Int))
 (aw #[aI,vI j,vI 20])
 (T.need (((0:Int)<=j)/\((j<=n)/\(n<=(a.size:Int)))) <|
 aR (Instr.buildSlice 233 1 #[(0,.agg #[vI 2,.string (ByteArray.extract a (Int.toNat j) (Int.toNat n)),av m,vI j])]) fun o p q =>
 aR (Builtin.append_ #[233,233] 233 #[.slice g h i,.slice o p q]) fun r s t =>
 T.again 0 [.slice b c d,vI e,vI f,.slice r s t,vI n]))
 (cond ((aU a j) != (58:Int))
 (cond ((aU a j) != (44:Int))
 (cond ((aU a j) != (40:Int))
 (cond ((aU a j) != (41:Int))
 (cond ((aU a j) != (43:Int))
 (cond ((aU a j) != (45:Int))
 (cond ((aU a j) != (42:Int))
 (cond ((aU a j) != (61:Int))
 (aw #[aI,vI j,vI 20])
 (T.need (((0:Int)<=j)/\((j<=(aH (j+(1:Int))))/\((aH (j+(1:Int)))<=(a.size:Int)))) <|
 aR (Instr.buildSlice 233 1 #[(0,.agg #[vI 3,.string (ByteArray.extract a (Int.toNat j) (Int.toNat (aH (j+(1:Int))))),av 0,vI j])]) fun m n o =>
 aR (Builtin.append_ #[233,233] 233 #[.slice g h i,.slice m n o]) fun p q r =>
 T.again 0 [.slice b c d,vI e,vI f,.slice p q r,bN j]))
 (T.need (((0:Int)<=j)/\((j<=(aH (j+(1:Int))))/\((aH (j+(1:Int)))<=(a.size:Int)))) <|
 aR (Instr.buildSlice 233 1 #[(0,.agg #[vI 3,.string (ByteArray.extract a (Int.toNat j) (Int.toNat (aH (j+(1:Int))))),av 0,vI j])]) fun m n o =>
 aR (Builtin.append_ #[233,233] 233 #[.slice g h i,.slice m n o]) fun p q r =>
 T.again 0 [.slice b c d,vI e,vI f,.slice p q r,bN j]))
 (T.need (((0:Int)<=j)/\((j<=(aH (j+(1:Int))))/\((aH (j+(1:Int)))<=(a.size:Int)))) <|
 aR (Instr.buildSlice 233 1 #[(0,.agg #[vI 3,.string (ByteArray.extract a (Int.toNat j) (Int.toNat (aH (j+(1:Int))))),av 0,vI j])]) fun m n o =>
 aR (Builtin.append_ #[233,233] 233 #[.slice g h i,.slice m n o]) fun p q r =>
 T.again 0 [.slice b c d,vI e,vI f,.slice p q r,bN j]))
 (T.need (((0:Int)<=j)/\((j<=(aH (j+(1:Int))))/\((aH (j+(1:Int)))<=(a.size:Int)))) <|
 aR (Instr.buildSlice 233 1 #[(0,.agg #[vI 3,.string (ByteArray.extract a (Int.toNat j) (Int.toNat (aH (j+(1:Int))))),av 0,vI j])]) fun m n o =>
 aR (Builtin.append_ #[233,233] 233 #[.slice g h i,.slice m n o]) fun p q r =>
 T.again 0 [.slice b c d,vI e,vI f,.slice p q r,bN j]))
 (T.need (((0:Int)<=j)/\((j<=(aH (j+(1:Int))))/\((aH (j+(1:Int)))<=(a.size:Int)))) <|
 aR (Instr.buildSlice 233 1 #[(0,.agg #[vI 3,.string (ByteArray.extract a (Int.toNat j) (Int.toNat (aH (j+(1:Int))))),av 0,vI j])]) fun m n o =>
 aR (Builtin.append_ #[233,233] 233 #[.slice g h i,.slice m n o]) fun p q r =>
 T.again 0 [.slice b c d,vI e,vI f,.slice p q r,bN j]))
 (T.need (((0:Int)<=j)/\((j<=(aH (j+(1:Int))))/\((aH (j+(1:Int)))<=(a.size:Int)))) <|
 aR (Instr.buildSlice 233 1 #[(0,.agg #[vI 3,.string (ByteArray.extract a (Int.toNat j) (Int.toNat (aH (j+(1:Int))))),av 0,vI j])]) fun m n o =>
 aR (Builtin.append_ #[233,233] 233 #[.slice g h i,.slice m n o]) fun p q r =>
 T.again 0 [.slice b c d,vI e,vI f,.slice p q r,bN j]))
 (T.need (((0:Int)<=j)/\((j<=(aH (j+(1:Int))))/\((aH (j+(1:Int)))<=(a.size:Int)))) <|
 aR (Instr.buildSlice 233 1 #[(0,.agg #[vI 3,.string (ByteArray.extract a (Int.toNat j) (Int.toNat (aH (j+(1:Int))))),av 0,vI j])]) fun m n o =>
 aR (Builtin.append_ #[233,233] 233 #[.slice g h i,.slice m n o]) fun p q r =>
 T.again 0 [.slice b c d,vI e,vI f,.slice p q r,bN j]))
 (T.need (((0:Int)<=j)/\((j<=(aH (j+(1:Int))))/\((aH (j+(1:Int)))<=(a.size:Int)))) <|
 aR (Instr.buildSlice 233 1 #[(0,.agg #[vI 3,.string (ByteArray.extract a (Int.toNat j) (Int.toNat (aH (j+(1:Int))))),av 0,vI j])]) fun m n o =>
 aR (Builtin.append_ #[233,233] 233 #[.slice g h i,.slice m n o]) fun p q r =>
 T.again 0 [.slice b c d,vI e,vI f,.slice p q r,bN j])))))))))
 (aw #[.slice g h i,vI 0,vI 0])
def mi (a:XA):bD Tryz.prog [] Tryz.f131 [.string a]=iC a:=aB
def iA (a:XA) (b:Int):T :=
 T.need (cz b a.size) <|
 cond ((aU a b)==(39:Int))
 (cond (decide ((aH (b+(2:Int)))>=(a.size:Int)))
 (aw #[av 0,vI 0])
 (T.need (((0:Int)<=(aH (b+(1:Int))))/\((aH (b+(1:Int)))<(a.size:Int))) <|
 cond (decide ((aU a (aH (b+(1:Int))))<(32:Int)))
 (aw #[av 0,vI 0])
 (T.need (((0:Int)<=(aH (b+(1:Int))))/\((aH (b+(1:Int)))<(a.size:Int))) <|
 cond (decide ((aU a (aH (b+(1:Int))))>(126:Int)))
 (aw #[av 0,vI 0])
 (T.need (((0:Int)<=(aH (b+(1:Int))))/\((aH (b+(1:Int)))<(a.size:Int))) <|
 cond ((aU a (aH (b+(1:Int))))==(39:Int))
 (aw #[av 0,vI 0])
 (T.need (((0:Int)<=(aH (b+(2:Int))))/\((aH (b+(2:Int)))<(a.size:Int))) <|
 cond ((aU a (aH (b+(2:Int)))) != (39:Int))
 (aw #[av 0,vI 0])
 (T.need (((0:Int)<=(aH (b+(1:Int))))/\((aH (b+(1:Int)))<(a.size:Int))) <|
 aw #[av (IntKind.wrap .u32 (aU a (aH (b+(1:Int))))),vI (aH (b+(3:Int)))]))))))
 (T.need (cz b a.size) <|
 cond ((aU a b)==(48:Int))
 (cond (decide ((aH (b+(1:Int)))<(a.size:Int)))
 (T.need (((0:Int)<=(aH (b+(1:Int))))/\((aH (b+(1:Int)))<(a.size:Int))) <|
 cond ((aU a (aH (b+(1:Int))))==(120:Int))
 (T.loop [aQ,(false,[.int .u64])] [vI (aH (b+(2:Int))),.int .u64 0] fun c d =>
 cond (decide (c<(a.size:Int)))
 (T.need (cz c a.size) <|
 cU 180 [.int .u8 (aU a c)] fun e =>
 cond (decide (e>=(0:Int)))
 (cond (decide ((aH (c-b))<(12:Int)))
 (T.need (cz c a.size) <|
 cU 180 [.int .u8 (aU a c)] fun f =>
 T.again 0 [bN c,.int .u64 (IntKind.wrap .u64 ((IntKind.wrap .u64 (d*(16:Int)))+(IntKind.wrap .u64 f)))])
 (cond (decide ((aH (c-b))<(3:Int)))
 (aw #[av 0,vI 0])
 (cond (decide ((aH (c-b))>(10:Int)))
 (aw #[av 0,vI 0])
 (cond (decide (c<(a.size:Int)))
 (T.need (cz c a.size) <|
 aN 87 [.int .u8 (aU a c)] fun f =>
 cond f
 (aw #[av 0,vI 0])
 (T.need (cz c a.size) <|
 aN 88 [.int .u8 (aU a c)] fun g =>
 cond g
 (aw #[av 0,vI 0])
 (aw #[av (IntKind.wrap .u32 d),vI c])))
 (aw #[av (IntKind.wrap .u32 d),vI c])))))
 (cond (decide ((aH (c-b))<(3:Int)))
 (aw #[av 0,vI 0])
 (cond (decide ((aH (c-b))>(10:Int)))
 (aw #[av 0,vI 0])
 (cond (decide (c<(a.size:Int)))
 (T.need (cz c a.size) <|
 aN 87 [.int .u8 (aU a c)] fun f =>
 cond f
 (aw #[av 0,vI 0])
 (T.need (cz c a.size) <|
 aN 88 [.int .u8 (aU a c)] fun g =>
 cond g
 (aw #[av 0,vI 0])
 (aw #[av (IntKind.wrap .u32 d),vI c])))
 (aw #[av (IntKind.wrap .u32 d),vI c])))))
 (cond (decide ((aH (c-b))<(3:Int)))
 (aw #[av 0,vI 0])
 (cond (decide ((aH (c-b))>(10:Int)))
 (aw #[av 0,vI 0])
 (cond (decide (c<(a.size:Int)))
 (T.need (cz c a.size) <|
 aN 87 [.int .u8 (aU a c)] fun e =>
 cond e
 (aw #[av 0,vI 0])
 (T.need (cz c a.size) <|
 aN 88 [.int .u8 (aU a c)] fun f =>
 cond f
 (aw #[av 0,vI 0])
 (aw #[av (IntKind.wrap .u32 d),vI c])))
 (aw #[av (IntKind.wrap .u32 d),vI c])))))
 (T.loop [aQ,(false,[.int .u64])] [vI b,.int .u64 0] fun c d =>
 cond (decide (c<(a.size:Int)))
 (T.need (cz c a.size) <|
 aN 88 [.int .u8 (aU a c)] fun e =>
 cond e
 (cond (decide ((aH (c-b))<(12:Int)))
 (T.need (cz c a.size) <|
 T.again 0 [bN c,.int .u64 (IntKind.wrap .u64 ((IntKind.wrap .u64 (d*(10:Int)))+(IntKind.wrap .u64 (IntKind.wrap .u8 ((aU a c)-(48:Int))))))])
 (cond (decide ((aH (c-b))>(10:Int)))
 (aw #[av 0,vI 0])
 (cond (decide (d>(4294967295:Int)))
 (aw #[av 0,vI 0])
 (T.need (cz b a.size) <|
 cond ((aU a b)==(48:Int))
 (cond (decide ((aH (c-b))>(1:Int)))
 (aw #[av 0,vI 0])
 (cond (decide (c<(a.size:Int)))
 (T.need (cz c a.size) <|
 aN 87 [.int .u8 (aU a c)] fun f =>
 cond f
 (aw #[av 0,vI 0])
 (T.need (cz c a.size) <|
 aN 88 [.int .u8 (aU a c)] fun g =>
 cond g
 (aw #[av 0,vI 0])
 (aw #[av (IntKind.wrap .u32 d),vI c])))
 (aw #[av (IntKind.wrap .u32 d),vI c])))
 (cond (decide (c<(a.size:Int)))
 (T.need (cz c a.size) <|
 aN 87 [.int .u8 (aU a c)] fun f =>
 cond f
 (aw #[av 0,vI 0])
 (T.need (cz c a.size) <|
 aN 88 [.int .u8 (aU a c)] fun g =>
 cond g
 (aw #[av 0,vI 0])
 (aw #[av (IntKind.wrap .u32 d),vI c])))
 (aw #[av (IntKind.wrap .u32 d),vI c]))))))
 (cond (decide ((aH (c-b))>(10:Int)))
 (aw #[av 0,vI 0])
 (cond (decide (d>(4294967295:Int)))
 (aw #[av 0,vI 0])
 (T.need (cz b a.size) <|
 cond ((aU a b)==(48:Int))
 (cond (decide ((aH (c-b))>(1:Int)))
 (aw #[av 0,vI 0])
 (cond (decide (c<(a.size:Int)))
 (T.need (cz c a.size) <|
 aN 87 [.int .u8 (aU a c)] fun f =>
 cond f
 (aw #[av 0,vI 0])
 (T.need (cz c a.size) <|
 aN 88 [.int .u8 (aU a c)] fun g =>
 cond g
 (aw #[av 0,vI 0])
 (aw #[av (IntKind.wrap .u32 d),vI c])))
 (aw #[av (IntKind.wrap .u32 d),vI c])))
 (cond (decide (c<(a.size:Int)))
 (T.need (cz c a.size) <|
 aN 87 [.int .u8 (aU a c)] fun f =>
 cond f
 (aw #[av 0,vI 0])
 (T.need (cz c a.size) <|
 aN 88 [.int .u8 (aU a c)] fun g =>
 cond g
 (aw #[av 0,vI 0])
 (aw #[av (IntKind.wrap .u32 d),vI c])))
 (aw #[av (IntKind.wrap .u32 d),vI c]))))))
 (cond (decide ((aH (c-b))>(10:Int)))
 (aw #[av 0,vI 0])
 (cond (decide (d>(4294967295:Int)))
 (aw #[av 0,vI 0])
 (T.need (cz b a.size) <|
 cond ((aU a b)==(48:Int))
 (cond (decide ((aH (c-b))>(1:Int)))
 (aw #[av 0,vI 0])
 (cond (decide (c<(a.size:Int)))
 (T.need (cz c a.size) <|
 aN 87 [.int .u8 (aU a c)] fun e =>
 cond e
 (aw #[av 0,vI 0])
 (T.need (cz c a.size) <|
 aN 88 [.int .u8 (aU a c)] fun f =>
 cond f
 (aw #[av 0,vI 0])
 (aw #[av (IntKind.wrap .u32 d),vI c])))
 (aw #[av (IntKind.wrap .u32 d),vI c])))
 (cond (decide (c<(a.size:Int)))
 (T.need (cz c a.size) <|
 aN 87 [.int .u8 (aU a c)] fun e =>
 cond e
 (aw #[av 0,vI 0])
 (T.need (cz c a.size) <|
 aN 88 [.int .u8 (aU a c)] fun f =>
 cond f
 (aw #[av 0,vI 0])
 (aw #[av (IntKind.wrap .u32 d),vI c])))
 (aw #[av (IntKind.wrap .u32 d),vI c])))))))
 (T.loop [aQ,(false,[.int .u64])] [vI b,.int .u64 0] fun c d =>
 cond (decide (c<(a.size:Int)))
 (T.need (cz c a.size) <|
 aN 88 [.int .u8 (aU a c)] fun e =>
 cond e
 (cond (decide ((aH (c-b))<(12:Int)))
 (T.need (cz c a.size) <|
 T.again 0 [bN c,.int .u64 (IntKind.wrap .u64 ((IntKind.wrap .u64 (d*(10:Int)))+(IntKind.wrap .u64 (IntKind.wrap .u8 ((aU a c)-(48:Int))))))])
 (cond (decide ((aH (c-b))>(10:Int)))
 (aw #[av 0,vI 0])
 (cond (decide (d>(4294967295:Int)))
 (aw #[av 0,vI 0])
 (T.need (cz b a.size) <|
 cond ((aU a b)==(48:Int))
 (cond (decide ((aH (c-b))>(1:Int)))
 (aw #[av 0,vI 0])
 (cond (decide (c<(a.size:Int)))
 (T.need (cz c a.size) <|
 aN 87 [.int .u8 (aU a c)] fun f =>
 cond f
 (aw #[av 0,vI 0])
 (T.need (cz c a.size) <|
 aN 88 [.int .u8 (aU a c)] fun g =>
 cond g
 (aw #[av 0,vI 0])
 (aw #[av (IntKind.wrap .u32 d),vI c])))
 (aw #[av (IntKind.wrap .u32 d),vI c])))
 (cond (decide (c<(a.size:Int)))
 (T.need (cz c a.size) <|
 aN 87 [.int .u8 (aU a c)] fun f =>
 cond f
 (aw #[av 0,vI 0])
 (T.need (cz c a.size) <|
 aN 88 [.int .u8 (aU a c)] fun g =>
 cond g
 (aw #[av 0,vI 0])
 (aw #[av (IntKind.wrap .u32 d),vI c])))
 (aw #[av (IntKind.wrap .u32 d),vI c]))))))
 (cond (decide ((aH (c-b))>(10:Int)))
 (aw #[av 0,vI 0])
 (cond (decide (d>(4294967295:Int)))
 (aw #[av 0,vI 0])
 (T.need (cz b a.size) <|
 cond ((aU a b)==(48:Int))
 (cond (decide ((aH (c-b))>(1:Int)))
 (aw #[av 0,vI 0])
 (cond (decide (c<(a.size:Int)))
 (T.need (cz c a.size) <|
 aN 87 [.int .u8 (aU a c)] fun f =>
 cond f
 (aw #[av 0,vI 0])
 (T.need (cz c a.size) <|
 aN 88 [.int .u8 (aU a c)] fun g =>
 cond g
 (aw #[av 0,vI 0])
 (aw #[av (IntKind.wrap .u32 d),vI c])))
 (aw #[av (IntKind.wrap .u32 d),vI c])))
 (cond (decide (c<(a.size:Int)))
 (T.need (cz c a.size) <|
 aN 87 [.int .u8 (aU a c)] fun f =>
 cond f
 (aw #[av 0,vI 0])
 (T.need (cz c a.size) <|
 aN 88 [.int .u8 (aU a c)] fun g =>
 cond g
 (aw #[av 0,vI 0])
 (aw #[av (IntKind.wrap .u32 d),vI c])))
 (aw #[av (IntKind.wrap .u32 d),vI c]))))))
 (cond (decide ((aH (c-b))>(10:Int)))
 (aw #[av 0,vI 0])
 (cond (decide (d>(4294967295:Int)))
 (aw #[av 0,vI 0])
 (T.need (cz b a.size) <|
 cond ((aU a b)==(48:Int))
 (cond (decide ((aH (c-b))>(1:Int)))
 (aw #[av 0,vI 0])
 (cond (decide (c<(a.size:Int)))
 (T.need (cz c a.size) <|
 aN 87 [.int .u8 (aU a c)] fun e =>
 cond e
 (aw #[av 0,vI 0])
 (T.need (cz c a.size) <|
 aN 88 [.int .u8 (aU a c)] fun f =>
 cond f
 (aw #[av 0,vI 0])
 (aw #[av (IntKind.wrap .u32 d),vI c])))
 (aw #[av (IntKind.wrap .u32 d),vI c])))
 (cond (decide (c<(a.size:Int)))
 (T.need (cz c a.size) <|
 aN 87 [.int .u8 (aU a c)] fun e =>
 cond e
 (aw #[av 0,vI 0])
 (T.need (cz c a.size) <|
 aN 88 [.int .u8 (aU a c)] fun f =>
 cond f
 (aw #[av 0,vI 0])
 (aw #[av (IntKind.wrap .u32 d),vI c])))
 (aw #[av (IntKind.wrap .u32 d),vI c])))))))
 (T.loop [aQ,(false,[.int .u64])] [vI b,.int .u64 0] fun c d =>
 cond (decide (c<(a.size:Int)))
 (T.need (cz c a.size) <|
 aN 88 [.int .u8 (aU a c)] fun e =>
 cond e
 (cond (decide ((aH (c-b))<(12:Int)))
 (T.need (cz c a.size) <|
 T.again 0 [bN c,.int .u64 (IntKind.wrap .u64 ((IntKind.wrap .u64 (d*(10:Int)))+(IntKind.wrap .u64 (IntKind.wrap .u8 ((aU a c)-(48:Int))))))])
 (cond (decide ((aH (c-b))>(10:Int)))
 (aw #[av 0,vI 0])
 (cond (decide (d>(4294967295:Int)))
 (aw #[av 0,vI 0])
 (T.need (cz b a.size) <|
 cond ((aU a b)==(48:Int))
 (cond (decide ((aH (c-b))>(1:Int)))
 (aw #[av 0,vI 0])
 (cond (decide (c<(a.size:Int)))
 (T.need (cz c a.size) <|
 aN 87 [.int .u8 (aU a c)] fun f =>
 cond f
 (aw #[av 0,vI 0])
 (T.need (cz c a.size) <|
 aN 88 [.int .u8 (aU a c)] fun g =>
 cond g
 (aw #[av 0,vI 0])
 (aw #[av (IntKind.wrap .u32 d),vI c])))
 (aw #[av (IntKind.wrap .u32 d),vI c])))
 (cond (decide (c<(a.size:Int)))
 (T.need (cz c a.size) <|
 aN 87 [.int .u8 (aU a c)] fun f =>
 cond f
 (aw #[av 0,vI 0])
 (T.need (cz c a.size) <|
 aN 88 [.int .u8 (aU a c)] fun g =>
 cond g
 (aw #[av 0,vI 0])
 (aw #[av (IntKind.wrap .u32 d),vI c])))
 (aw #[av (IntKind.wrap .u32 d),vI c]))))))
 (cond (decide ((aH (c-b))>(10:Int)))
 (aw #[av 0,vI 0])
 (cond (decide (d>(4294967295:Int)))
 (aw #[av 0,vI 0])
 (T.need (cz b a.size) <|
 cond ((aU a b)==(48:Int))
 (cond (decide ((aH (c-b))>(1:Int)))
 (aw #[av 0,vI 0])
 (cond (decide (c<(a.size:Int)))
 (T.need (cz c a.size) <|
 aN 87 [.int .u8 (aU a c)] fun f =>
 cond f
 (aw #[av 0,vI 0])
 (T.need (cz c a.size) <|
 aN 88 [.int .u8 (aU a c)] fun g =>
 cond g
 (aw #[av 0,vI 0])
 (aw #[av (IntKind.wrap .u32 d),vI c])))
 (aw #[av (IntKind.wrap .u32 d),vI c])))
 (cond (decide (c<(a.size:Int)))
 (T.need (cz c a.size) <|
 aN 87 [.int .u8 (aU a c)] fun f =>
 cond f
 (aw #[av 0,vI 0])
 (T.need (cz c a.size) <|
 aN 88 [.int .u8 (aU a c)] fun g =>
 cond g
 (aw #[av 0,vI 0])
 (aw #[av (IntKind.wrap .u32 d),vI c])))
 (aw #[av (IntKind.wrap .u32 d),vI c]))))))
 (cond (decide ((aH (c-b))>(10:Int)))
 (aw #[av 0,vI 0])
 (cond (decide (d>(4294967295:Int)))
 (aw #[av 0,vI 0])
 (T.need (cz b a.size) <|
 cond ((aU a b)==(48:Int))
 (cond (decide ((aH (c-b))>(1:Int)))
 (aw #[av 0,vI 0])
 (cond (decide (c<(a.size:Int)))
 (T.need (cz c a.size) <|
 aN 87 [.int .u8 (aU a c)] fun e =>
 cond e
 (aw #[av 0,vI 0])
 (T.need (cz c a.size) <|
 aN 88 [.int .u8 (aU a c)] fun f =>
 cond f
 (aw #[av 0,vI 0])
 (aw #[av (IntKind.wrap .u32 d),vI c])))
 (aw #[av (IntKind.wrap .u32 d),vI c])))
 (cond (decide (c<(a.size:Int)))
 (T.need (cz c a.size) <|
 aN 87 [.int .u8 (aU a c)] fun e =>
 cond e
 (aw #[av 0,vI 0])
 (T.need (cz c a.size) <|
 aN 88 [.int .u8 (aU a c)] fun f =>
 cond f
 (aw #[av 0,vI 0])
 (aw #[av (IntKind.wrap .u32 d),vI c])))
 (aw #[av (IntKind.wrap .u32 d),vI c])))))))
def mu (a:XA) (b:Int):bD Tryz.prog [] Tryz.f160 [.string a,vI b]=iA a b:=aB
def ln (a:Int):T :=
 aN 88 [.int .u8 a] fun b =>
 cond b
 (T.ret (vI (aH (IntKind.wrap .u8 (a-(48:Int))))))
 (cond (decide (a>=(97:Int)))
 (cond (decide (a<=(102:Int)))
 (T.ret (vI (aH ((aH (IntKind.wrap .u8 (a-(97:Int))))+(10:Int)))))
 (T.ret (vI (-1:Int))))
 (T.ret (vI (-1:Int))))
def pJ (a:Int):bD Tryz.prog [] Tryz.f180 [.int .u8 a]=ln a:=aB
end Go.Sx
