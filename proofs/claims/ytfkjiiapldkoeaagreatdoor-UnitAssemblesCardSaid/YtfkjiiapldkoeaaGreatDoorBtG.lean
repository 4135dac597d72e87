/- Trees of functions. No condition. -/
import Derived.Test.YtfkjiiapldkoeaaGreatDoorSxF
import Derived.Test.YtfkjiiapldkoeaaGreatDoorProg
import Derived.KernelRfl
set_option linter.all false
set_option maxRecDepth 100000
set_option maxHeartbeats 4000000
namespace Go.Sx
open Go.Proofs
def gL (a:Int) (b:XA) (c:Int) (d:Int) (e:Int) (f:Int) (g:Int) (h:Option XC) (i j:Nat) (k:Int) (l:Int) (m:Int) (n:XA) (o:Int) (p:Int) (q:Int) (r:Int) (s:Int) (t:Option XC) (u v:Nat) (w:Int) (x:Int):T :=
 T.new [vI a,.string b,vI c,vI d,vI e,.int .i32 f,vI g,.slice h i j,av k,vI l] 96 fun y =>
 T.new [vI m,.string n,vI o,vI p,vI q,.int .i32 r,vI s,.slice t u v,av w,vI x] 96 fun z =>
 T.ah y [.int .i64] fun A =>
 T.ah z [.int .i64] fun B =>
 cond (A==B)
 (T.ah (y.add 1) [.string] fun C =>
 T.ah (z.add 1) [.string] fun D =>
 cond ((ByteArray.toList C)==(ByteArray.toList D))
 (T.ah (y.add 2) [.int .i64,.int .i64,.int .i64,.int .i32,.int .i64] fun E F G H I =>
 T.ah (z.add 2) [.int .i64,.int .i64,.int .i64,.int .i32,.int .i64] fun J K L M N =>
 bR (Sx.df (BinOp.eql) 90 (Operand.tmp 19) (Operand.tmp 21) (.agg #[vI E,vI F,vI G,.int .i32 H,vI I]) (.agg #[vI J,vI K,vI L,.int .i32 M,vI N])) fun O =>
 cond O
 (T.ah (y.add 7) (yL 109) fun P Q R S =>
 T.ah (z.add 7) (yL 109) fun U V W X =>
 aN 75 [.agg #[.slice P Q R,av S],.agg #[.slice U V W,av X]] fun Y =>
 cond Y
 (T.ah (y.add 9) [.int .i64] fun Z =>
 T.ah (z.add 9) [.int .i64] fun a0 =>
 T.ret (.bool (Z==a0)))
 bE)
 bE)
 bE)
 bE
def kM (a:Int) (b:XA) (c:Int) (d:Int) (e:Int) (f:Int) (g:Int) (h:Option XC) (i j:Nat) (k:Int) (l:Int) (m:Int) (n:XA) (o:Int) (p:Int) (q:Int) (r:Int) (s:Int) (t:Option XC) (u v:Nat) (w:Int) (x:Int):bD Tryz.prog [] Tryz.f61 [.agg #[vI a,.string b,vI c,vI d,vI e,.int .i32 f,vI g,.slice h i j,.int .u32 k,vI l],.agg #[vI m,.string n,vI o,vI p,vI q,.int .i32 r,vI s,.slice t u v,.int .u32 w,vI x]]=gL a b c d e f g h i j k l m n o p q r s t u v w x:=aB
def ma (a:Option XC) (b c:Nat) (d:Option XC) (e f:Nat):T :=
 cond ((b:Int) != (e:Int))
 (T.ret (.bool false))
 (T.loop [(false,[.bool]),(false,[.int .i64])] [.bool false,vI 0] fun g h =>
 cond (decide (h<(b:Int)))
 (T.need (((0:Int)<=h)/\(h<(b:Int))) <|
 T.aA a fun i =>
 T.ah (i.add ((Int.toNat h)*10)) (yI 109) fun j k l m n o p q r s t u =>
 T.need (((0:Int)<=h)/\(h<(e:Int))) <|
 T.aA d fun v =>
 T.ah (v.add ((Int.toNat h)*10)) (yI 109) fun w x y z A B C D E F G H =>
 T.call Tryz.prog 61 [.agg #[vI j,.string k,vI l,vI m,vI n,.int .i32 o,vI p,.slice q r s,.int .u32 t,vI u],.agg #[vI w,.string x,vI y,vI z,vI A,.int .i32 B,vI C,.slice D E F,.int .u32 G,vI H]] false [(false,[.bool])] fun I =>
 cond (!I)
 (T.ret (.bool false))
 (T.again 0 [.bool g,vI (IntKind.wrap .i64 (h+(1:Int)))]))
 (T.ret (.bool true)))
def j7 (a:Option XC) (b c:Nat) (d:Option XC) (e f:Nat):bD Tryz.prog [] Tryz.f31 [.slice a b c,.slice d e f]=ma a b c d e f:=aB
def mV (a:Option XC) (b c:Nat) (d:Option XC) (e f:Nat):T :=
 cond ((b:Int) != (e:Int))
 (T.ret (.bool false))
 (T.loop [(false,[.bool]),(false,[.int .i64])] [.bool false,vI 0] fun g h =>
 cond (decide (h<(b:Int)))
 (T.need (((0:Int)<=h)/\(h<(b:Int))) <|
 T.aA a fun i =>
 T.ah (i.add ((Int.toNat h)*3)) [.string] fun j =>
 T.need (((0:Int)<=h)/\(h<(e:Int))) <|
 T.aA d fun k =>
 T.ah (k.add ((Int.toNat h)*3)) [.string] fun l =>
 cond (!((ByteArray.toList j)==(ByteArray.toList l)))
 (T.ret (.bool false))
 (T.need (((0:Int)<=h)/\(h<(b:Int))) <|
 T.aA a fun m =>
 T.ah ((m.add ((Int.toNat h)*3)).add 1) (yL 109) fun n o p q =>
 T.need (((0:Int)<=h)/\(h<(e:Int))) <|
 T.aA d fun r =>
 T.ah ((r.add ((Int.toNat h)*3)).add 1) (yL 109) fun s t u v =>
 T.call Tryz.prog 75 [.agg #[.slice n o p,.int .u32 q],.agg #[.slice s t u,.int .u32 v]] false [(false,[.bool])] fun w =>
 T.aT [((k.add ((Int.toNat h)*3)),[.string l]),((i.add ((Int.toNat h)*3)),[.string j])] <|
 cond (!w)
 (T.ret (.bool false))
 (T.again 0 [.bool g,vI (IntKind.wrap .i64 (h+(1:Int)))])))
 (T.ret (.bool true)))
def la (a:Option XC) (b c:Nat) (d:Option XC) (e f:Nat):bD Tryz.prog [] Tryz.f41 [.slice a b c,.slice d e f]=mV a b c d e f:=aB
def kf (a:Option XC) (b c:Nat) (d:Option XC) (e f:Nat):T :=
 cond ((b:Int) != (e:Int))
 (T.ret (.bool false))
 (T.loop [(false,[.bool]),(false,[.int .i64])] [.bool false,vI 0] fun g h =>
 cond (decide (h<(b:Int)))
 (T.need (((0:Int)<=h)/\(h<(b:Int))) <|
 T.aA a fun i =>
 T.ah (i.add ((Int.toNat h)*1)) [.string] fun j =>
 T.need (((0:Int)<=h)/\(h<(e:Int))) <|
 T.aA d fun k =>
 T.ah (k.add ((Int.toNat h)*1)) [.string] fun l =>
 cond (!((ByteArray.toList j)==(ByteArray.toList l)))
 (T.ret (.bool false))
 (T.again 0 [.bool g,vI (IntKind.wrap .i64 (h+(1:Int)))]))
 (T.ret (.bool true)))
def iU (a:Option XC) (b c:Nat) (d:Option XC) (e f:Nat):bD Tryz.prog [] Tryz.f15 [.slice a b c,.slice d e f]=kf a b c d e f:=aB
def gP (a:Option XC) (b c:Nat) (d:Option XC) (e f:Nat) (g:Option XC) (h i:Nat) (j:Option XC) (k l:Nat) (m:Option XC) (n o:Nat) (p:Option XC) (q r:Nat) (s:Option XC) (t u:Nat) (v:Option XC) (w x:Nat):T :=
 T.new [.slice a b c,.slice d e f,.slice g h i,.slice j k l] 27 fun y =>
 T.new [.slice m n o,.slice p q r,.slice s t u,.slice v w x] 27 fun z =>
 T.ah y [.slice 96] fun A B C =>
 T.ah z [.slice 96] fun D E F =>
 aN 31 [.slice A B C,.slice D E F] fun G =>
 cond G
 (T.ah (y.add 1) [.slice 96] fun H I J =>
 T.ah (z.add 1) [.slice 96] fun K L M =>
 aN 31 [.slice H I J,.slice K L M] fun N =>
 cond N
 (T.ah (y.add 2) [.slice 99] fun O P Q =>
 T.ah (z.add 2) [.slice 99] fun R S U =>
 aN 41 [.slice O P Q,.slice R S U] fun V =>
 cond V
 (T.ah (y.add 3) [.slice 9] fun W X Y =>
 T.ah (z.add 3) [.slice 9] fun Z a0 a1 =>
 aN 15 [.slice W X Y,.slice Z a0 a1] fun a2 =>
 T.ret (.bool a2))
 bE)
 bE)
 bE
def kZ (a:Option XC) (b c:Nat) (d:Option XC) (e f:Nat) (g:Option XC) (h i:Nat) (j:Option XC) (k l:Nat) (m:Option XC) (n o:Nat) (p:Option XC) (q r:Nat) (s:Option XC) (t u:Nat) (v:Option XC) (w x:Nat):bD Tryz.prog [] Tryz.f13 [.agg #[.slice a b c,.slice d e f,.slice g h i,.slice j k l],.agg #[.slice m n o,.slice p q r,.slice s t u,.slice v w x]]=gP a b c d e f g h i j k l m n o p q r s t u v w x:=aB
def jP (a:Int):T :=
 cond (a==(0:Int))
 (T.ret (.string ⟨#[110,111,32,101,114,114,111,114]⟩))
 (cond (a==(1:Int))
 (T.ret (.string ⟨#[97,110,32,97,114,103,117,109,101,110,116,32,116,104,97,116,32,109,97,121,32,110,111,116,32,98,101]⟩))
 (cond (a==(20:Int))
 (T.ret (.string ⟨#[97,32,108,105,110,101,32,116,104,97,116,32,99,97,110,39,116,32,98,101,32,114,101,97,100]⟩))
 (cond (a==(23:Int))
 (T.ret (.string ⟨#[97,32,110,97,109,101,32,116,104,97,116,32,110,111,98,111,100,121,32,103,105,118,101,115]⟩))
 (cond (decide (a<(0:Int)))
 (T.loop [aQ,gK] [vI 0,aI] fun b c d e =>
 cond (decide (b>(0:Int)))
 (T.need ((10:Int)≠(0:Int)) <|
 aR (Instr.buildSlice 42 1 #[(0,.int .u8 (IntKind.wrap .u8 (aH ((48:Int)+(Int.tmod b (10:Int))))))]) fun f g h =>
 aR (Builtin.append_ #[42,42] 42 #[.slice f g h,.slice c d e]) fun i j k =>
 T.need ((10:Int)≠(0:Int)) <|
 T.again 0 [vI (aH (Int.tdiv b (10:Int))),.slice i j k])
 (cond ((d:Int)==(0:Int))
 (T.need ((10:Int)≠(0:Int)) <|
 aR (Instr.buildSlice 42 1 #[(0,.int .u8 (IntKind.wrap .u8 (aH ((48:Int)+(Int.tmod b (10:Int))))))]) fun f g h =>
 aR (Builtin.append_ #[42,42] 42 #[.slice f g h,.slice c d e]) fun i j k =>
 T.need ((10:Int)≠(0:Int)) <|
 T.again 0 [vI (aH (Int.tdiv b (10:Int))),.slice i j k])
 (dh (convert 42 9 (.slice c d e)) false [(false,[.string])] fun f =>
 T.need ((((8+f.size):Nat):Int)<=(9223372036854775807:Int)) <|
 T.ret (.string (⟨#[114,101,102,117,115,97,108,32]⟩++f)))))
 (T.loop [aQ,gK] [vI a,aI] fun b c d e =>
 cond (decide (b>(0:Int)))
 (T.need ((10:Int)≠(0:Int)) <|
 aR (Instr.buildSlice 42 1 #[(0,.int .u8 (IntKind.wrap .u8 (aH ((48:Int)+(Int.tmod b (10:Int))))))]) fun f g h =>
 aR (Builtin.append_ #[42,42] 42 #[.slice f g h,.slice c d e]) fun i j k =>
 T.need ((10:Int)≠(0:Int)) <|
 T.again 0 [vI (aH (Int.tdiv b (10:Int))),.slice i j k])
 (cond ((d:Int)==(0:Int))
 (T.need ((10:Int)≠(0:Int)) <|
 aR (Instr.buildSlice 42 1 #[(0,.int .u8 (IntKind.wrap .u8 (aH ((48:Int)+(Int.tmod b (10:Int))))))]) fun f g h =>
 aR (Builtin.append_ #[42,42] 42 #[.slice f g h,.slice c d e]) fun i j k =>
 T.need ((10:Int)≠(0:Int)) <|
 T.again 0 [vI (aH (Int.tdiv b (10:Int))),.slice i j k])
 (dh (convert 42 9 (.slice c d e)) false [(false,[.string])] fun f =>
 T.need ((((8+f.size):Nat):Int)<=(9223372036854775807:Int)) <|
 T.ret (.string (⟨#[114,101,102,117,115,97,108,32]⟩++f)))))))))
def oQ (a:Int):bD Tryz.prog [] Tryz.f72 [vI a]=jP a:=aB
def iG (a:Option XC):T :=
 T.aA a fun b =>
 T.ah b [.int .i64] fun c =>
 T.aA a fun d =>
 T.ah (d.add 1) [.int .i64] fun e =>
 uG 71 [vI c] fun f =>
 T.aT [((d.add 1),[vI e])] <|
 T.need ((((5+f.size):Nat):Int)<=(9223372036854775807:Int)) <|
 T.need (((((ByteArray.size (⟨#[108,105,110,101,32]⟩++f))+2):Nat):Int)<=(9223372036854775807:Int)) <|
 uG 72 [vI e] fun g =>
 T.aT [(b,[vI c])] <|
 T.need (((((ByteArray.size ((⟨#[108,105,110,101,32]⟩++f)++⟨#[58,32]⟩))+g.size):Nat):Int)<=(9223372036854775807:Int)) <|
 T.ret (.string (((⟨#[108,105,110,101,32]⟩++f)++⟨#[58,32]⟩)++g))
def lX (a:Option XC):bD Tryz.prog [] Tryz.f37 [.pointer a]=iG a:=aB
def iq (a:Option XC):T :=
 T.aA a fun b =>
 T.ah (b.add 1) [.int .i64] fun c =>
 T.ret (.iface 44 (vI c))
def lB (a:Option XC):bD Tryz.prog [] Tryz.f39 [.pointer a]=iq a:=aB
def ib (a:XB) (b:XB):T :=
 bR (Sx.df (BinOp.eql) 29 (Operand.tmp 5) (Operand.const Value.nilIface) a .nilIface) fun c =>
 cond c
 (bR (Sx.df (BinOp.eql) 29 (Operand.tmp 11) (Operand.const Value.nilIface) a .nilIface) fun d =>
 cond d
 (bR (Sx.df (BinOp.eql) 29 (Operand.tmp 14) (Operand.const Value.nilIface) b .nilIface) fun e =>
 T.ret (.bool e))
 bE)
 (bR (Sx.df (BinOp.eql) 29 (Operand.tmp 8) (Operand.const Value.nilIface) b .nilIface) fun d =>
 cond d
 (bR (Sx.df (BinOp.eql) 29 (Operand.tmp 11) (Operand.const Value.nilIface) a .nilIface) fun e =>
 cond e
 (bR (Sx.df (BinOp.eql) 29 (Operand.tmp 14) (Operand.const Value.nilIface) b .nilIface) fun f =>
 T.ret (.bool f))
 bE)
 (bR (Sx.df (BinOp.eql) 29 (Operand.tmp 17) (Operand.tmp 18) a b) fun e =>
 T.ret (.bool e)))
def lH (a:XB) (b:XB):bD Tryz.prog [] Tryz.f38 [a,b]=ib a b:=aB
def jx (a:Int):T :=
 aS 121 [] false [(false,[.slice 218])] fun b c d =>
 cond (decide (a<(1:Int)))
 (T.ret (vI 0))
 (cond (decide (a>(c:Int)))
 (T.ret (vI 0))
 (T.need (((0:Int)<=(aH (a-(1:Int))))/\((aH (a-(1:Int)))<(c:Int))) <|
 T.aA b fun e =>
 T.ah ((e.add ((Int.toNat (aH (a-(1:Int))))*3)).add 2) [.int .i64] fun f =>
 T.ret (vI f)))
def mW (a:Int):bD Tryz.prog [] Tryz.f91 [vI a]=jx a:=aB
def jA (a:Int):T :=
 T.loop [bZ,aQ] [.bool false,vI 1] fun b c =>
 cond (decide (c<=(256:Int)))
 (cond (a==c)
 pj
 (T.again 0 [.bool b,vI (aH ((2:Int)*c))]))
 bE
def nv (a:Int):bD Tryz.prog [] Tryz.f86 [vI a]=jA a:=aB
def iO (a:Option XC) (b c:Nat):T :=
 T.loop [gK,aQ] [aI,vI 0] fun d e f g =>
 dH g b
 (cv g b a fun h =>
 T.ah (h.add (bW g 1)) [.string] fun i =>
 aN 50 [.slice d e f,.string i] fun j =>
 cond j
 (T.again 0 [.slice d e f,bN g])
 (cv g b a fun k =>
 T.ah (k.add (bW g 1)) [.string] fun l =>
 aR (Instr.buildSlice 25 1 #[(0,.string l)]) fun m n o =>
 aR (Builtin.append_ #[25,25] 25 #[.slice d e f,.slice m n o]) fun p q r =>
 T.loop [aQ] [vI (e:Int)] fun s =>
 cond (decide (s>(0:Int)))
 (T.need (((0:Int)<=(aH (s-(1:Int))))/\((aH (s-(1:Int)))<(q:Int))) <|
 T.aA p fun t =>
 T.ah (t.add ((Int.toNat (aH (s-(1:Int))))*1)) [.string] fun u =>
 cv g b a fun v =>
 T.ah (v.add (bW g 1)) [.string] fun w =>
 cond (!((Op.bytesLess (ByteArray.toList u) (ByteArray.toList w)) || ((ByteArray.toList u)==(ByteArray.toList w))))
 (T.need (((0:Int)<=(aH (s-(1:Int))))/\((aH (s-(1:Int)))<(q:Int))) <|
 T.aA p fun x =>
 T.ah (x.add ((Int.toNat (aH (s-(1:Int))))*1)) [.string] fun y =>
 cv s q p fun z =>
 T.ak (z.add (bW s 1)) [.string y] <|
 T.again 1 [vI (aH (s-(1:Int)))])
 (cv g b a fun x =>
 T.ah (x.add (bW g 1)) [.string] fun y =>
 cv s q p fun z =>
 T.ak (z.add (bW s 1)) [.string y] <|
 T.again 0 [.slice p q r,bN g]))
 (cv g b a fun t =>
 T.ah (t.add (bW g 1)) [.string] fun u =>
 cv s q p fun v =>
 T.ak (v.add (bW s 1)) [.string u] <|
 T.again 0 [.slice p q r,bN g])))
 (T.ret (.slice d e f))
def mc (a:Option XC) (b c:Nat):bD Tryz.prog [] Tryz.f22 [.slice a b c]=iO a b c:=aB
def kK (a:Option XC) (b c:Nat) (d:XA):T :=
 T.loop [bZ,aQ] [.bool false,vI 0] fun e f =>
 dH f b
 (cv f b a fun g =>
 T.ah (g.add (bW f 1)) [.string] fun h =>
 cond ((ByteArray.toList h)==(ByteArray.toList d))
 pj
 (T.again 0 [.bool e,bN f]))
 bE
def pC (a:Option XC) (b c:Nat) (d:XA):bD Tryz.prog [] Tryz.f50 [.slice a b c,.string d]=kK a b c d:=aB
def tj :T :=
 T.fb Tryz.prog (Instr.buildSlice 216 43 #[(0,.agg #[.string ⟨#[110,111,112]⟩,.int .u8 0,vI 1]),(1,.agg #[.string ⟨#[104,97,108,116]⟩,.int .u8 1,vI 1]),(2,.agg #[.string ⟨#[114,101,116]⟩,.int .u8 2,vI 1]),(3,.agg #[.string ⟨#[112,114,105,110,116]⟩,.int .u8 3,vI 2]),(4,.agg #[.string ⟨#[105,110]⟩,.int .u8 4,vI 2]),(5,.agg #[.string ⟨#[112,117,115,104]⟩,.int .u8 5,vI 2]),(6,.agg #[.string ⟨#[112,111,112]⟩,.int .u8 6,vI 2]),(7,.agg #[.string ⟨#[106,114]⟩,.int .u8 7,vI 2]),(8,.agg #[.string ⟨#[110,101,103]⟩,.int .u8 8,vI 2]),(9,.agg #[.string ⟨#[110,111,116]⟩,.int .u8 9,vI 2]),(10,.agg #[.string ⟨#[122,116,117,114,110]⟩,.int .u8 10,vI 3]),(11,.agg #[.string ⟨#[122,99,111,110,106]⟩,.int .u8 11,vI 3]),(12,.agg #[.string ⟨#[109,111,118]⟩,.int .u8 16,vI 4]),(13,.agg #[.string ⟨#[97,100,100]⟩,.int .u8 17,vI 4]),(14,.agg #[.string ⟨#[115,117,98]⟩,.int .u8 18,vI 4]),(15,.agg #[.string ⟨#[109,117,108]⟩,.int .u8 19,vI 4]),(16,.agg #[.string ⟨#[100,105,118]⟩,.int .u8 20,vI 4]),(17,.agg #[.string ⟨#[97,110,100]⟩,.int .u8 21,vI 4]),(18,.agg #[.string ⟨#[111,114]⟩,.int .u8 22,vI 4]),(19,.agg #[.string ⟨#[120,111,114]⟩,.int .u8 23,vI 4]),(20,.agg #[.string ⟨#[115,104,108]⟩,.int .u8 24,vI 4]),(21,.agg #[.string ⟨#[115,104,114]⟩,.int .u8 25,vI 4]),(22,.agg #[.string ⟨#[108,116]⟩,.int .u8 26,vI 4]),(23,.agg #[.string ⟨#[101,113]⟩,.int .u8 27,vI 4]),(24,.agg #[.string ⟨#[108,100,98]⟩,.int .u8 28,vI 4]),(25,.agg #[.string ⟨#[108,100,119]⟩,.int .u8 29,vI 4]),(26,.agg #[.string ⟨#[108,100,109]⟩,.int .u8 30,vI 4]),(27,.agg #[.string ⟨#[115,116,109]⟩,.int .u8 31,vI 4]),(28,.agg #[.string ⟨#[122,109,111,118]⟩,.int .u8 32,vI 5]),(29,.agg #[.string ⟨#[122,97,100,100]⟩,.int .u8 33,vI 5]),(30,.agg #[.string ⟨#[122,115,117,98]⟩,.int .u8 34,vI 5]),(31,.agg #[.string ⟨#[122,109,117,108]⟩,.int .u8 35,vI 5]),(32,.agg #[.string ⟨#[122,114,101]⟩,.int .u8 36,vI 6]),(33,.agg #[.string ⟨#[122,105,109]⟩,.int .u8 37,vI 6]),(34,.agg #[.string ⟨#[122,115,101,116]⟩,.int .u8 38,vI 7]),(35,.agg #[.string ⟨#[108,105,115]⟩,.int .u8 48,vI 8]),(36,.agg #[.string ⟨#[116,114,97,112]⟩,.int .u8 49,vI 9]),(37,.agg #[.string ⟨#[108,105]⟩,.int .u8 50,vI 10]),(38,.agg #[.string ⟨#[108,100,112]⟩,.int .u8 51,vI 11]),(39,.agg #[.string ⟨#[106,109,112]⟩,.int .u8 64,vI 12]),(40,.agg #[.string ⟨#[99,97,108,108]⟩,.int .u8 67,vI 12]),(41,.agg #[.string ⟨#[106,122]⟩,.int .u8 70,vI 13]),(42,.agg #[.string ⟨#[106,110,122]⟩,.int .u8 73,vI 13])]) false [(false,[.slice 0])] fun a b c =>
 T.ret (.slice a b c)
def pD :bD Tryz.prog [] Tryz.f121 []=tj :=aB
def yJ (a:Option XC) (b c:Nat) (d:Bool):T :=
 cond ((b:Int) != (1:Int))
 (aw #[vI 0,vI 20])
 (T.need (aZ 0 b) <|
 T.aA a fun e =>
 T.ah e [.int .i64] fun f =>
 cond (f != (1:Int))
 (aw #[vI 0,vI 20])
 (T.need (aZ 0 b) <|
 T.aA a fun g =>
 T.ah (g.add 1) [.string] fun h =>
 aS 81 [.string h] true [aQ,bZ,bZ] fun i j k =>
 cond (!k)
 (aw #[vI 0,vI 20])
 (cond (!(j==d))
 (aw #[vI 0,vI 20])
 (aw #[vI i,vI 0]))))
def yW (a:Option XC) (b c:Nat) (d:Bool):bD Tryz.prog [] Tryz.f151 [.slice a b c,.bool d]=yJ a b c d:=aB
def rX (a:Option XC) (b c:Nat) (d:Int) (e:Int):T :=
 aS 130 [.slice a b c] true [(true,(yL 109)),aQ] fun f g h i j =>
 T.new [aI,av 0] 94 fun k =>
 T.ak k [.slice f g h,av i] <|
 cond (j != (0:Int))
 (aw #[vI 0,vI j])
 (T.ah (k.add 1) [.int .u32] fun l =>
 T.ah k [.slice 109] fun m n o =>
 cond (decide ((n:Int)>(0:Int)))
 (aw #[vI 0,vI 21])
 (cond (decide ((aH (IntKind.wrap .i32 l))<d))
 (aw #[vI 0,vI 21])
 (cond (decide ((aH (IntKind.wrap .i32 l))>e))
 (aw #[vI 0,vI 21])
 (aw #[vI (aH (IntKind.wrap .i32 l)),vI 0]))))
def vG (a:Option XC) (b c:Nat) (d:Int) (e:Int):bD Tryz.prog [] Tryz.f127 [.slice a b c,vI d,vI e]=rX a b c d e:=aB
def vU (a:Option XC) (b c:Nat):T :=
 cond ((b:Int) != (1:Int))
 (aw #[bh,vI 20])
 (T.need (aZ 0 b) <|
 T.aA a fun d =>
 T.ah d [.int .i64] fun e =>
 cond (e != (1:Int))
 (aw #[bh,vI 20])
 (T.need (aZ 0 b) <|
 T.aA a fun f =>
 T.ah (f.add 1) [.string] fun g =>
 aN 45 [.string g] fun h =>
 cond (!h)
 (aw #[bh,vI 20])
 (T.need (aZ 0 b) <|
 T.aA a fun i =>
 T.ah (i.add 1) [.string] fun j =>
 aw #[.string j,vI 0])))
def xo (a:Option XC) (b c:Nat):bD Tryz.prog [] Tryz.f129 [.slice a b c]=vU a b c:=aB
def pX (a:Int):T :=
 T.new [.bool false,.bool false,.bool false] 253 fun b =>
 T.new [.bool false,.bool false,.bool false] 253 fun c =>
 T.ak b [.bool false,.bool false,.bool false] <|
 T.ak c [.bool false,.bool true,.bool false] <|
 cond (a==(1:Int))
 (T.ret (aI))
 (cond (a==(2:Int))
 (T.ah b [.bool,.bool,.bool] fun d e f =>
 aR (Instr.buildSlice 221 1 #[(0,.iface 253 (.agg #[.bool d,.bool e,.bool f]))]) fun g h i =>
 T.ret (.slice g h i))
 (cond (a==(3:Int))
 (aR (Instr.buildSlice 221 1 #[(0,.iface 253 (.agg #[.bool true,.bool false,.bool false]))]) fun d e f =>
 T.ret (.slice d e f))
 (cond (a==(4:Int))
 (T.ah b [.bool,.bool,.bool] fun d e f =>
 T.ah c [.bool,.bool,.bool] fun g h i =>
 aR (Instr.buildSlice 221 2 #[(0,.iface 253 (.agg #[.bool d,.bool e,.bool f])),(1,.iface 253 (.agg #[.bool g,.bool h,.bool i]))]) fun j k l =>
 T.ret (.slice j k l))
 (cond (a==(5:Int))
 (aR (Instr.buildSlice 221 2 #[(0,.iface 253 (.agg #[.bool true,.bool false,.bool false])),(1,.iface 253 (.agg #[.bool true,.bool true,.bool false]))]) fun d e f =>
 T.ret (.slice d e f))
 (cond (a==(6:Int))
 (T.ah b [.bool,.bool,.bool] fun d e f =>
 aR (Instr.buildSlice 221 2 #[(0,.iface 253 (.agg #[.bool d,.bool e,.bool f])),(1,.iface 253 (.agg #[.bool true,.bool true,.bool false]))]) fun g h i =>
 T.ret (.slice g h i))
 (cond (a==(7:Int))
 (T.ah c [.bool,.bool,.bool] fun d e f =>
 aR (Instr.buildSlice 221 3 #[(0,.iface 253 (.agg #[.bool true,.bool false,.bool false])),(1,.iface 253 (.agg #[.bool d,.bool e,.bool f])),(2,.iface 253 (.agg #[.bool false,.bool false,.bool true]))]) fun g h i =>
 T.ret (.slice g h i))
 (cond (a==(8:Int))
 (T.ah b [.bool,.bool,.bool] fun d e f =>
 aR (Instr.buildSlice 221 2 #[(0,.iface 253 (.agg #[.bool d,.bool e,.bool f])),(1,.iface 255 (.agg #[vI (-128:Int),vI 127]))]) fun g h i =>
 T.ret (.slice g h i))
 (cond (a==(9:Int))
 (aR (Instr.buildSlice 221 1 #[(0,.iface 255 (.agg #[vI 0,vI 255]))]) fun d e f =>
 T.ret (.slice d e f))
 (cond (a==(11:Int))
 (T.ah b [.bool,.bool,.bool] fun d e f =>
 aR (Instr.buildSlice 221 2 #[(0,.iface 253 (.agg #[.bool d,.bool e,.bool f])),(1,.iface 257 (.agg #[.bool true]))]) fun g h i =>
 T.ret (.slice g h i))
 (cond (a==(12:Int))
 (aR (Instr.buildSlice 221 1 #[(0,.iface 257 (.agg #[.bool false]))]) fun d e f =>
 T.ret (.slice d e f))
 (T.ah b [.bool,.bool,.bool] fun d e f =>
 aR (Instr.buildSlice 221 2 #[(0,.iface 253 (.agg #[.bool d,.bool e,.bool f])),(1,.iface 257 (.agg #[.bool false]))]) fun g h i =>
 T.ret (.slice g h i))))))))))))
def tH (a:Int):bD Tryz.prog [] Tryz.f124 [vI a]=pX a:=aB
def pd (a:Option XC) (b:XB) (c:Option XC) (d e:Nat):T :=
 dh (Instr.typeAssert b 20 253 true) true [(true,[.bool,.bool,.bool]),bZ] fun f g h i =>
 cond i
 (T.new [.bool false,.bool false,.bool false] 253 fun j =>
 T.ak j [.bool f,.bool g,.bool h] <|
 T.ah j [.bool] fun k =>
 aS 151 [.slice c d e,.bool k] true [aQ,aQ] fun l m =>
 T.ah (j.add 2) [.bool] fun n =>
 cond n
 (T.aA a fun o =>
 T.ak ((o.add 2).add 3) [.int .i32 (IntKind.wrap .i32 l)] <|
 T.ret (vI m))
 (T.ah (j.add 1) [.bool] fun o =>
 cond o
 (T.aA a fun p =>
 T.ak ((p.add 2).add 2) [vI l] <|
 T.ret (vI m))
 (T.aA a fun p =>
 T.ak ((p.add 2).add 1) [vI l] <|
 T.ret (vI m))))
 (dh (Instr.typeAssert b 20 255 true) true [(true,[.int .i64,.int .i64]),bZ] fun j k l =>
 cond l
 (T.new [vI 0,vI 0] 255 fun m =>
 T.ak m [vI j,vI k] <|
 T.ah m [.int .i64] fun n =>
 T.ah (m.add 1) [.int .i64] fun o =>
 aS 127 [.slice c d e,vI n,vI o] true [aQ,aQ] fun p q =>
 T.aA a fun r =>
 T.ak ((r.add 2).add 3) [.int .i32 (IntKind.wrap .i32 p)] <|
 T.ret (vI q))
 (dh (Instr.typeAssert b 20 257 true) true [(true,[.bool]),bZ] fun m n =>
 cond n
 (T.new [.bool false] 257 fun o =>
 T.ak o [.bool m] <|
 T.ah o [.bool] fun p =>
 cond p
 (cond ((d:Int)==(0:Int))
 (T.ret (vI 20))
 (T.need (aZ 0 d) <|
 T.aA c fun q =>
 T.ah q [.int .i64] fun r =>
 cond (r != (3:Int))
 (T.ret (vI 20))
 (T.need (aZ 0 d) <|
 T.aA c fun s =>
 T.ah (s.add 1) [.string] fun t =>
 cond (!((ByteArray.toList t)==[(aJ 61#8)]))
 (T.ret (vI 20))
 (T.need (((0:Int)<=(1:Int))/\(((1:Int)<=(d:Int))/\((d:Int)<=(e:Int)))) <|
 aS 130 [.slice (if (e=1) then c else (Option.map (fun u=>Addr.add u 4) c)) ((Int.toNat (d:Int))-1) (e-1)] true [(true,(yL 109)),aQ] fun u v w x y =>
 T.aA a fun z =>
 T.ak (z.add 7) [.slice u v w,av x] <|
 T.ret (vI y)))))
 (aS 130 [.slice c d e] true [(true,(yL 109)),aQ] fun q r s t u =>
 T.aA a fun v =>
 T.ak (v.add 7) [.slice q r s,av t] <|
 T.ret (vI u)))
 (T.ret (vI 0))))
def sW (a:Option XC) (b:XB) (c:Option XC) (d e:Nat):bD Tryz.prog [] Tryz.f125 [.pointer a,b,.slice c d e]=pd a b c d e:=aB
def sb (a:XA):T :=
 cond ((ByteArray.toList a)==[(aJ 112#8),(aJ 111#8),(aJ 111#8),(aJ 108#8)])
 (aw #[vI 0,.bool true])
 (cond ((ByteArray.toList a)==[(aJ 97#8),(aJ 108#8),(aJ 105#8),(aJ 103#8),(aJ 110#8)])
 (cond ((ByteArray.toList a)==[(aJ 97#8),(aJ 108#8),(aJ 105#8),(aJ 103#8),(aJ 110#8)])
 (aw #[vI 1,.bool true])
 (cond ((ByteArray.toList a)==[(aJ 101#8),(aJ 113#8),(aJ 117#8)])
 (aw #[vI 2,.bool true])
 (cond ((ByteArray.toList a)==[(aJ 98#8),(aJ 121#8),(aJ 116#8),(aJ 101#8)])
 (cond ((ByteArray.toList a)==[(aJ 98#8),(aJ 121#8),(aJ 116#8),(aJ 101#8)])
 (aw #[vI (-1:Int),.bool true])
 (aw #[vI 0,.bool false]))
 (cond ((ByteArray.toList a)==[(aJ 119#8),(aJ 111#8),(aJ 114#8),(aJ 100#8)])
 (aw #[vI (-1:Int),.bool true])
 (aw #[vI 0,.bool false])))))
 (cond ((ByteArray.toList a)==[(aJ 115#8),(aJ 112#8),(aJ 97#8),(aJ 99#8),(aJ 101#8)])
 (cond ((ByteArray.toList a)==[(aJ 115#8),(aJ 112#8),(aJ 97#8),(aJ 99#8),(aJ 101#8)])
 (aw #[vI 1,.bool true])
 (cond ((ByteArray.toList a)==[(aJ 101#8),(aJ 113#8),(aJ 117#8)])
 (aw #[vI 2,.bool true])
 (cond ((ByteArray.toList a)==[(aJ 98#8),(aJ 121#8),(aJ 116#8),(aJ 101#8)])
 (cond ((ByteArray.toList a)==[(aJ 98#8),(aJ 121#8),(aJ 116#8),(aJ 101#8)])
 (aw #[vI (-1:Int),.bool true])
 (aw #[vI 0,.bool false]))
 (cond ((ByteArray.toList a)==[(aJ 119#8),(aJ 111#8),(aJ 114#8),(aJ 100#8)])
 (aw #[vI (-1:Int),.bool true])
 (aw #[vI 0,.bool false])))))
 (cond ((ByteArray.toList a)==[(aJ 103#8),(aJ 108#8),(aJ 111#8),(aJ 98#8),(aJ 97#8),(aJ 108#8)])
 (cond ((ByteArray.toList a)==[(aJ 103#8),(aJ 108#8),(aJ 111#8),(aJ 98#8),(aJ 97#8),(aJ 108#8)])
 (aw #[vI 1,.bool true])
 (cond ((ByteArray.toList a)==[(aJ 101#8),(aJ 113#8),(aJ 117#8)])
 (aw #[vI 2,.bool true])
 (cond ((ByteArray.toList a)==[(aJ 98#8),(aJ 121#8),(aJ 116#8),(aJ 101#8)])
 (cond ((ByteArray.toList a)==[(aJ 98#8),(aJ 121#8),(aJ 116#8),(aJ 101#8)])
 (aw #[vI (-1:Int),.bool true])
 (aw #[vI 0,.bool false]))
 (cond ((ByteArray.toList a)==[(aJ 119#8),(aJ 111#8),(aJ 114#8),(aJ 100#8)])
 (aw #[vI (-1:Int),.bool true])
 (aw #[vI 0,.bool false])))))
 (cond ((ByteArray.toList a)==[(aJ 115#8),(aJ 101#8),(aJ 99#8),(aJ 116#8),(aJ 105#8),(aJ 111#8),(aJ 110#8)])
 (aw #[vI 1,.bool true])
 (cond ((ByteArray.toList a)==[(aJ 101#8),(aJ 113#8),(aJ 117#8)])
 (aw #[vI 2,.bool true])
 (cond ((ByteArray.toList a)==[(aJ 98#8),(aJ 121#8),(aJ 116#8),(aJ 101#8)])
 (cond ((ByteArray.toList a)==[(aJ 98#8),(aJ 121#8),(aJ 116#8),(aJ 101#8)])
 (aw #[vI (-1:Int),.bool true])
 (aw #[vI 0,.bool false]))
 (cond ((ByteArray.toList a)==[(aJ 119#8),(aJ 111#8),(aJ 114#8),(aJ 100#8)])
 (aw #[vI (-1:Int),.bool true])
 (aw #[vI 0,.bool false]))))))))
def vH (a:XA):bD Tryz.prog [] Tryz.f126 [.string a]=sb a:=aB
def uk (a:Int) (b:Option XC) (c d:Nat):T :=
 cond ((c:Int)==(0:Int))
 (aw #[aI,vI 20])
 (T.loop [gK,aQ,gK,aQ] [aI,vI 0,aI,vI 0] fun e f g h i j k l =>
 dH l c
 (cv l c b fun m =>
 T.ah (m.add (bW l 1)) [.slice 178] fun n o p =>
 T.new [vI 0,bh,vI 0,vI 0,vI 0,.int .i32 0,vI 0,aI,av 0,vI 0] 96 fun q =>
 T.ak q [vI a,bh,vI 0,vI 0,vI 0,.int .i32 0,vI 0,aI,av 0,vI 0] <|
 cond (a==(5:Int))
 (aS 127 [.slice n o p,vI (-128:Int),vI 255] true [aQ,aQ] fun r s =>
 T.ak (q.add 9) [vI r] <|
 cond (s != (0:Int))
 (aw #[aI,vI s])
 (T.ah q (yI 109) fun t u v w x y z A B C D E =>
 aR (Instr.buildSlice 23 1 #[(0,.agg #[vI t,.string u,vI v,vI w,vI x,.int .i32 y,vI z,.slice A B C,av D,vI E])]) fun F G H =>
 aR (Builtin.append_ #[23,23] 23 #[.slice i j k,.slice F G H]) fun I J K =>
 T.again 0 [.slice e f g,vI h,.slice I J K,bN l]))
 (aS 130 [.slice n o p] true [(true,(yL 109)),aQ] fun r s t u v =>
 T.ak (q.add 7) [.slice r s t,av u] <|
 cond (v != (0:Int))
 (aw #[aI,vI v])
 (T.ah q (yI 109) fun w x y z A B C D E F G H =>
 aR (Instr.buildSlice 23 1 #[(0,.agg #[vI w,.string x,vI y,vI z,vI A,.int .i32 B,vI C,.slice D E F,av G,vI H])]) fun I J K =>
 aR (Builtin.append_ #[23,23] 23 #[.slice i j k,.slice I J K]) fun L M N =>
 T.again 0 [.slice e f g,vI h,.slice L M N,bN l])))
 (aw #[.slice i j k,vI 0]))
def wA (a:Int) (b:Option XC) (c d:Nat):bD Tryz.prog [] Tryz.f128 [vI a,.slice b c d]=uk a b c d:=aB
def yK (a:XA):T :=
 T.ah ⟨1,0,none⟩ [.string,.int .u8,.int .i64,.string,.int .u8,.int .i64,.string,.int .u8,.int .i64,.string,.int .u8,.int .i64,.string,.int .u8,.int .i64,.string,.int .u8,.int .i64,.string,.int .u8,.int .i64,.string,.int .u8,.int .i64,.string,.int .u8,.int .i64,.string,.int .u8,.int .i64,.string,.int .u8,.int .i64,.string,.int .u8,.int .i64,.string,.int .u8,.int .i64,.string,.int .u8,.int .i64,.string,.int .u8,.int .i64,.string,.int .u8,.int .i64,.string,.int .u8,.int .i64,.string,.int .u8,.int .i64,.string,.int .u8,.int .i64,.string,.int .u8,.int .i64,.string,.int .u8,.int .i64,.string,.int .u8,.int .i64,.string,.int .u8,.int .i64,.string,.int .u8,.int .i64,.string,.int .u8,.int .i64,.string,.int .u8,.int .i64,.string,.int .u8,.int .i64,.string,.int .u8,.int .i64,.string,.int .u8,.int .i64,.string,.int .u8,.int .i64,.string,.int .u8,.int .i64,.string,.int .u8,.int .i64,.string,.int .u8,.int .i64,.string,.int .u8,.int .i64,.string,.int .u8,.int .i64,.string,.int .u8,.int .i64,.string,.int .u8,.int .i64,.string,.int .u8,.int .i64,.string,.int .u8,.int .i64,.string,.int .u8,.int .i64,.string,.int .u8,.int .i64,.string,.int .u8,.int .i64,.string,.int .u8,.int .i64] fun b c d e f g h i j k l m n o p q r s t u v w x y z A B C D E F G H I J K L M N O P Q R S U V W X Y Z a0 a1 a2 a3 a4 a5 a6 a7 a8 a9 b0 b1 b2 b3 b4 b5 b6 b7 b8 b9 c0 c1 c2 c3 c4 c5 c6 c7 c8 c9 d0 d1 d2 d3 d4 d5 d6 d7 d8 d9 e0 e1 e2 e3 e4 e5 e6 e7 e8 e9 f0 f1 f2 f3 f4 f5 f6 f7 f8 f9 g0 g1 g2 g3 g4 g5 g6 g7 g8 g9 h0 h1 h2 h3 h4 h5 h6 h7 h8 =>
 T.loop [(false,[.int .i64]),(false,[.bool]),(false,[.int .i64])] [vI 0,.bool false,vI 0] fun h9 i0 i1 =>
 cond (decide (i1<(43:Int)))
 (T.fb Tryz.prog (Instr.index 215 (.agg #[.string b,.int .u8 c,vI d,.string e,.int .u8 f,vI g,.string h,.int .u8 i,vI j,.string k,.int .u8 l,vI m,.string n,.int .u8 o,vI p,.string q,.int .u8 r,vI s,.string t,.int .u8 u,vI v,.string w,.int .u8 x,vI y,.string z,.int .u8 A,vI B,.string C,.int .u8 D,vI E,.string F,.int .u8 G,vI H,.string I,.int .u8 J,vI K,.string L,.int .u8 M,vI N,.string O,.int .u8 P,vI Q,.string R,.int .u8 S,vI U,.string V,.int .u8 W,vI X,.string Y,.int .u8 Z,vI a0,.string a1,.int .u8 a2,vI a3,.string a4,.int .u8 a5,vI a6,.string a7,.int .u8 a8,vI a9,.string b0,.int .u8 b1,vI b2,.string b3,.int .u8 b4,vI b5,.string b6,.int .u8 b7,vI b8,.string b9,.int .u8 c0,vI c1,.string c2,.int .u8 c3,vI c4,.string c5,.int .u8 c6,vI c7,.string c8,.int .u8 c9,vI d0,.string d1,.int .u8 d2,vI d3,.string d4,.int .u8 d5,vI d6,.string d7,.int .u8 d8,vI d9,.string e0,.int .u8 e1,vI e2,.string e3,.int .u8 e4,vI e5,.string e6,.int .u8 e7,vI e8,.string e9,.int .u8 f0,vI f1,.string f2,.int .u8 f3,vI f4,.string f5,.int .u8 f6,vI f7,.string f8,.int .u8 f9,vI g0,.string g1,.int .u8 g2,vI g3,.string g4,.int .u8 g5,vI g6,.string g7,.int .u8 g8,vI g9,.string h0,.int .u8 h1,vI h2,.string h3,.int .u8 h4,vI h5,.string h6,.int .u8 h7,vI h8]) (vI i1)) false [(true,[.string,.int .u8,.int .i64])] fun i2 i3 i4 =>
 T.new [.string ⟨#[]⟩,.int .u8 0,vI 0] 158 fun i5 =>
 T.ak i5 [.string i2,.int .u8 i3,vI i4] <|
 T.ah i5 [.string] fun i6 =>
 cond ((ByteArray.toList i6)==(ByteArray.toList a))
 (T.ret (.tuple #[vI (IntKind.wrap .i64 (i1+(1:Int))),.bool true]))
 (T.again 0 [vI h9,.bool i0,vI (IntKind.wrap .i64 (i1+(1:Int)))]))
 (T.ret (.tuple #[vI 0,.bool false]))
def zf (a:XA):bD Tryz.prog [] Tryz.f98 [.string a]=yK a:=aB
end Go.Sx
