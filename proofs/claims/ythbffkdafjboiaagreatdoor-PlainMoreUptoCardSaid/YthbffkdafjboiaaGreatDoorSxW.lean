/- Part of the framework. No condition. -/
import Derived.Test.YthbffkdafjboiaaGreatDoorSxV
set_option linter.all false
set_option maxHeartbeats 4000000
namespace Go.Sx.Cr
noncomputable section
abbrev Ev:=dK Xab
structure CS where
 σ:dK AO
 nx:Nat
abbrev VS:=Option (Xab × CS)
def fM {α:Type} (b:Bool) (k:Option α):Option α :=
 match b with
 | true=>k
 | false=>none
def bq {α:Type} {b:Bool} {k:Option α} {x:α}:fM b k=some x↔b=true/\k=some x:=by
 cases b <;> simp [fM]
def F0 (v:Xab):Option Xab:=fM (fE 9 v) (some v)
def Sy (C:Cx) (g:Nat):Option Xab:=fM (Nat.blt g C.ng) (some (.pointer (some ⟨g,0,none⟩)))
def ko (C:Cx) (e:Ev):Operand->Option Xab
 | .tmp t=>e.get t
 | .const v=>F0 v
 | .func f=>some (.func (.func f) #[] #[])
 | .global g=>Sy C g
def zQ (C:Cx) (e:Ev):List Operand->Option (List Xab)
 | []=>some []
 | x::xs=>(ko C e x).bind fun v=>(zQ C e xs).bind fun l=>some (v::l)
def Lm (op:BinOp) (k:IntKind) (m n:Int):Option Xab :=
 match op with
 | .add=>some (.int k (k.wrap (m+n)))
 | .sub=>some (.int k (k.wrap (m-n)))
 | .mul=>some (.int k (k.wrap (m*n)))
 | .quo=>fM (!decide (n=0)) (some (.int k (k.wrap (m.tdiv n))))
 | .rem=>fM (!decide (n=0)) (some (.int k (m.tmod n)))
 | .eql=>some (.bool (m==n))
 | .neq=>some (.bool (m != n))
 | .lss=>some (.bool (decide (m<n)))
 | .leq=>some (.bool (decide (m<=n)))
 | .gtr=>some (.bool (decide (m>n)))
 | .geq=>some (.bool (decide (m>=n)))
 | .and=>some (.int k (DD .and k m n))
 | .or=>some (.int k (DD .or k m n))
 | .xor=>some (.int k (DD .xor k m n))
 | .andNot=>some (.int k (DD .andNot k m n))
 | _=>none
def Og (op:BinOp) (x y:Xaa):Option Xab :=
 match op with
 | .add=>fM (decide (((x.size+y.size:Nat):Int)<=IntKind.i64.max)) (some (.string (x++y)))
 | .eql=>some (.bool (x.data.toList==y.data.toList))
 | .neq=>some (.bool !(x.data.toList==y.data.toList))
 | .lss=>some (.bool (Op.bytesLess x.data.toList y.data.toList))
 | .leq=>some (.bool (Op.bytesLess x.data.toList y.data.toList || x.data.toList==y.data.toList))
 | .gtr=>some (.bool !(Op.bytesLess x.data.toList y.data.toList || x.data.toList==y.data.toList))
 | .geq=>some (.bool !(Op.bytesLess x.data.toList y.data.toList))
 | _=>none
def pL (op:BinOp) (b:Bool):Option Xab :=
 match op with
 | .eql=>some (.bool b)
 | .neq=>some (.bool !b)
 | _=>none
def Lo:Option TypeDesc->Bool
 | some (.pointer _)=>true
 | _=>false
def IR:Option TypeDesc->Bool
 | some (.slice _)=>true
 | _=>false
def Iz:Option TypeDesc->Bool
 | some .bool=>true
 | _=>false
def xf:Option TypeDesc->Bool
 | some .string=>true
 | _=>false
def OY (P:Program) (op:BinOp) (t:TypeId) (a b:Xab):Option Xab :=
 match a,b with
 | .int k m,.int k' n=>fM (!mD op && decide (k=k')) (Lm op k m n)
 | .string m,.string n=>Og op m n
 | .bool m,.bool n=>fM (Iz (P.underlying t)) (pL op (m==n))
 | .pointer p,.pointer _=>fM (Lo (P.underlying t)) (pL op p.isNone)
 | .slice p _ _,.slice _ _ _=>fM (IR (P.underlying t)) (pL op p.isNone)
 | _,_=>none
def oy (a b:Xaa):Bool:=a.data.toList==b.data.toList
def DB:Xab->Xab->Bool
 | .int _ a,.int _ b=>a==b
 | .string a,.string b=>oy a b
 | .bool a,.bool b=>a==b
 | _,_=>false
def To (P:Program) (op:BinOp) (t:TypeId) (a b:Xab):Option Xab :=
 match a,b,P.underlying t with
 | .agg xs,.agg ys,some (.struct fs) =>
  fM (!(P.stoodInHeld t) && !(P.eqGuardType P.depth t) && fs.all (okF P xs ys)) (pL op (fs.all fun f=>DB (xs[f.offset]?.getD .nilIface) (ys[f.offset]?.getD .nilIface)))
 | _,_,_=>none
def Uu (P:Program) (op:BinOp) (t:TypeId) (x y:Operand) (a b:Xab):Option Xab :=
 match rA P t x y with
 | true=>OY P op t a b
 | false=>To P op t a b
def XW (op:UnOp) (a:Xab):Option Xab :=
 match op,a with
 | .neg,.int k n=>some (.int k (k.wrap (0-n)))
 | .not,.bool b=>some (.bool !b)
 | _,_=>none
def LD (P:Program) (s d:TypeId) (a:Xab):Option Xab :=
 match P.underlying s,P.underlying d,a with
 | some (.int _),some (.int k),.int _ n=>some (.int k (k.wrap n))
 | some .string,some .string,.string x=>some (.string x)
 | _,_,_=>none
def vR:TypeDesc->Xab->Bool
 | .bool,.bool _=>true
 | .bool,_=>false
 | .int k,.int k' _=>decide (k=k')
 | .int _,_=>false
 | .string,.string _=>true
 | .string,_=>false
 | .pointer _,.pointer _=>true
 | .pointer _,_=>false
 | .slice _,.slice _ _ _=>true
 | .slice _,_=>false
 | .map _ _,.map _=>true
 | .map _ _,_=>false
 | _,_=>true
def fits:List TypeDesc->List Xab->Bool
 | [],[]=>true
 | d::ds,v::vs=>vR d v && fits ds vs
 | _,_=>false
def Al:Xab->Option (List Xab)
 | .agg ⟨l⟩=>some l
 | _=>none
def CR (c:fJ) (v:Xab):Bool :=
 match c with
 | (true,ds)=>(Al v).elim false (fits ds)
 | (false,ds)=>fits ds [v]
def zV:List fJ->List Xab->Bool
 | [],[]=>true
 | c::cs,v::vs=>CR c v && zV cs vs
 | _,_=>false
def Nj:Xab->Option (List Xab)
 | .tuple ⟨l⟩=>some l
 | _=>none
def Hl (q:Bool × List fJ) (v:Xab):Bool :=
 match q with
 | (true,cs)=>(Nj v).elim false (zV cs)
 | (false,cs)=>zV cs [v]
def MN (C:Cx) (b off n:Nat):Option AO->Option (List Xab)
 | some (.row c _ _)=>Eh off n c
 | some .gone=>(C.ro b).bind fun c=>Eh off n c
 | _=>none
def cells (C:Cx) (s:CS) (b off n:Nat):Option (List Xab):=MN C b off n (s.σ.get b)
def uA:Xab->Option (Nat × Nat)
 | .pointer (some ⟨b,off,none⟩)=>some (b,off)
 | _=>none
abbrev Ld:=Option (Nat × Nat × List Xab × Xab)
def SP (C:Cx) (t:TypeId) (b off:Nat) (s:CS):Ld :=
 fM (Nat.beq (ff C.P 9 t).length (C.P.cellsOf t)) ((cells C s b off (ff C.P 9 t).length).bind fun vs=>fM (fits (ff C.P 9 t) vs) (some (b,off,vs,.agg ⟨vs⟩)))
def S0 (C:Cx) (t:TypeId) (b off:Nat) (s:CS):Ld :=
 (cells C s b off 1).bind fun vs=>fM (fits (cD C.P t).2 vs) (some (b,off,vs,vs.headD undef))
def BF (C:Cx) (t:TypeId) (v:Xab) (s:CS):Ld :=
 (uA v).bind fun (b,off)=>(cF C.P t).bind fun g=>match g with
  | true=>SP C t b off s
  | false=>S0 C t b off s
def yN (s:CS) (o:AO):Option CS :=
 match s.σ.get s.nx with
 | none=>some ⟨s.σ.put s.nx o,s.nx+1⟩
 | some _=>none
def QC (s:CS) (b off:Nat) (vs:List Xab):Option CS :=
 match s.σ.get b with
 | some (.row c e m)=>fM (!Nat.beq m 2 && vs.all cO && Nat.ble 1 vs.length && Nat.ble (off+vs.length) c.length) (some ⟨s.σ.put b (.row (lz c off vs) e m),s.nx⟩)
 | _=>none
def vL (g:Bool) (v:Xab):Option (List Xab) :=
 match g with
 | true=>Al v
 | false=>fM (!eY v) (some [v])
def Gz (P:Program) (t:TypeId) (p v:Xab) (s:CS):Option CS :=
 (uA p).bind fun (b,off)=>(cF P t).bind fun g=>(vL g v).bind fun l=>fM (Nat.beq l.length (P.cellsOf t)) (QC s b off l)
def C4 (agg:Nat->Option Bool):List (Nat × Xab)->Option (List (Nat × List Xab))
 | []=>some []
 | (i,v)::l=>(agg i).bind fun g=>(vL g v).bind fun c=>(C4 agg l).bind fun r=>some ((i,c)::r)
def zeroOf (P:Program) (t:TypeId):Option (List Xab) :=
 ((P.info? t).bind (·.zero)).bind fun z=>fM (z.cells.toList.all (fE 9)) (some z.cells.toList)
def Ik (P:Program) (fs:Array Field) (z:List Xab) (ps:List (Nat × Xab)):Option Xab :=
 fM (fs.all fun f=>nq P f.type) ((C4 (fun i=>(fs[i]?).bind fun f=>cF P f.type) ps).bind fun j=>(fA (((fs.map fun f=>(f.offset,P.cellsOf f.type)))[·]?) z j).bind fun cs=>some (.agg ⟨cs⟩))
def H0 (P:Program) (j:TypeId) (z:List Xab) (ps:List (Nat × Xab)):Option Xab :=
 fM (nq P j) ((C4 (fun _=>cF P j) ps).bind fun u=>(fA (fun i=>some (i*P.cellsOf j,P.cellsOf j)) z u).bind fun cs=>some (.agg ⟨cs⟩))
def GZ (P:Program) (t:TypeId) (ps:List (Nat × Xab)):Option Xab :=
 (zeroOf P t).bind fun z=>match P.underlying t with
  | some (.struct fs)=>Ik P fs z ps
  | some (.array _ j)=>H0 P j z ps
  | _=>none
structure El where
 e:TypeId
 sz:Nat
 by_:Nat
 z:List Xab
def Mq (P:Program) (e:TypeId):Option El :=
 (P.info? e).bind fun i=>i.zero.bind fun z=>fM (z.cells.toList.all (fE 9) && Nat.beq z.cells.size i.size && Nat.ble 1 i.size) (some ⟨e,i.size,i.bytes,z.cells.toList⟩)
def elemOf:Option TypeDesc->Option TypeId
 | some (.slice e)=>some e
 | _=>none
def MX (P:Program) (t:TypeId):Option El:=(elemOf (P.underlying t)).bind (Mq P)
def BC:List (Nat × Xab)->List (Nat × List Xab)
 | []=>[]
 | (i,v)::l=>(i,match Al v with
  | some c=>c
  | none=>[v])::BC l
def GW (sz:Nat):Nat->List (Nat × List Xab)->Option (List Xab)
 | _,[]=>some []
 | i,(k,c)::l=>fM (Nat.beq k i && Nat.beq c.length sz) ((GW sz (i+1) l).bind fun r=>some (c++r))
def MS (q:El) (n:Nat) (ps:List (Nat × List Xab)):Option (List Xab):=fM (Nat.beq ps.length n) (GW q.sz 0 ps)
def F3 (s:CS) (c:List Xab) (e:TypeId) (m l cap:Nat):VS :=
 (yN s (.row c e m)).bind fun s'=>some (.slice (some ⟨s.nx,0,none⟩) l cap,s')
def Mg (P:Program) (t:TypeId) (n:Nat) (ps:List (Nat × Xab)) (s:CS):VS :=
 (MX P t).bind fun q=>fM (Nat.ble (n*q.sz) 16777216) ((MS q n (BC ps)).bind fun cs=>F3 s cs q.e 0 n n)
def GA (C:Cx) (sz:Nat) (x:Xab) (s:CS):Option (List Xab) :=
 match x with
 | .slice q m _=>match m with
  | 0=>some []
  | m+1=>(uA (.pointer q)).bind fun (b,off)=>cells C s b off ((m+1)*sz)
 | _=>none
def CG (q:El) (j l c:Nat):Option AO->Option (List Xab)
 | some (.row cs e' m')=>fM (Nat.beq m' 1 && Nat.beq q.e e' && Nat.ble c pT && Nat.beq j ((pT-c)*q.sz) && Nat.ble (j+l*q.sz) cs.length) (some cs)
 | _=>none
def Ig (s:CS) (q:El) (u j l c m:Nat) (ys:List Xab):VS :=
 (CG q j l c (s.σ.get u)).bind fun cs=>fM (Nat.beq cs.length (j+l*q.sz))
   (match s.σ.get s.nx with
   | none=>some (.slice (some ⟨s.nx,0,none⟩) (l+m) pT,⟨(s.σ.put u .gone).put s.nx (.row (cs.drop j++ys) q.e 1),s.nx+1⟩)
   | some _=>none)
def N6 (C:Cx) (s:CS) (q:El) (j u l c m:Nat) (ys:List Xab):VS :=
 match Nat.ble (l+m) c with
 | true=>(QC s j (u+l*q.sz) ys).bind fun s=>some (.slice (some ⟨j,u,none⟩) (l+m) c,s)
 | false=>(cells C s j u (l*q.sz)).bind fun old=>F3 s (old++ys) q.e 1 (l+m) pT
def Sk (C:Cx) (s:CS) (q:El) (j u l c m:Nat) (ys:List Xab):VS :=
 match Nat.blt c half with
 | true=>N6 C s q j u l c m ys
 | false=>Ig s q j u l c m ys
def SJ (C:Cx) (s:CS) (q:El) (p:Xac) (l c m:Nat) (ys:List Xab):VS :=
 match p with
 | none=>fM (Nat.beq l 0 && Nat.beq c 0) (F3 s ys q.e 1 m pT)
 | some a=>(uA (.pointer (some a))).bind fun (b,off)=>Sk C s q b off l c m ys
def T0 (C:Cx) (q:El) (a x:Xab) (s:CS) (ys:List Xab):VS :=
 match a,x with
 | .slice p l c,.slice _ m _=>fM (Nat.ble ((2*(l+m)+1024)*q.by_) 281474976710656 && Nat.ble (l+m) 281474976710656 && ys.all cO)
   (match m with
   | 0=>some (.slice p l c,s)
   | _+1=>SJ C s q p l c m ys)
 | _,_=>none
def Du (C:Cx) (ts:List TypeId) (vs:List Xab) (s:CS):VS :=
 match ts,vs with
 | [t,t'],[a,x]=>fM (IR (C.P.underlying t')) ((MX C.P t).bind fun q=>(GA C q.sz x s).bind fun ys=>T0 C q a x s ys)
 | _,_=>none
def VH:AO->Option Nat
 | .wv D=>some D.length
 | .yo D=>some D.length
 | .ym D=>some D.length
 | _=>none
def Tf (s:CS) (D:Option TypeDesc) (v:Xab):Option Xab :=
 match D with
 | some .string=>(match v with
  | .string s=>some (.int .i64 s.size)
  | _=>none)
 | some (.slice _)=>(match v with
  | .slice _ n _=>some (.int .i64 n)
  | _=>none)
 | some (.map _ _)=>(match v with
  | .map (some b)=>((s.σ.get b).bind VH).bind fun n=>some (.int .i64 n)
  | _=>none)
 | _=>none
def KC:List Xab->Option Xab
 | [v]=>some v
 | _=>none
def VL (x:Xaa) (j hi:Option Xab):Option Xab :=
 fM (decide (0<=kj j/\kj j<=kJ x.size hi/\kJ x.size hi<=x.size)) (some (.string (x.extract (kj j).toNat (kJ x.size hi).toNat)))
def XN (P:Program) (e:TypeId) (b off len cap:Nat) (j hi:Option Xab):Option Xab :=
 fM (nq P e && decide (0<=kj j/\kj j<=kJ len hi/\kJ len hi<=len/\kj j<len) && (Nat.blt cap half || Nat.ble half (cap-(kj j).toNat))) (some (.slice (some ⟨b,off+(kj j).toNat*P.cellsOf e,none⟩) ((kJ len hi).toNat-(kj j).toNat) (cap-(kj j).toNat)))
def rH (P:Program) (t:TypeId) (a:Xab) (j hi:Option Xab):Option Xab :=
 fM (eA j && eA hi) (match P.underlying t with
  | some .string=>(match a with
   | .string x=>VL x j hi
   | _=>none)
  | some (.slice e)=>(match a with
   | .slice (some ⟨b,off,none⟩) len cap=>XN P e b off len cap j hi
   | _=>none)
  | _=>none)
def XE (P:Program) (t:TypeId) (j hi u:Option Operand) (a:Xab) (vs:List Xab):Option Xab :=
 match u,j,hi,vs with
 | none,none,none,[]=>rH P t a none none
 | none,some _,none,[l]=>rH P t a (some l) none
 | none,none,some _,[h]=>rH P t a none (some h)
 | none,some _,some _,[l,h]=>rH P t a (some l) (some h)
 | _,_,_,_=>none
def atIdx (P:Program) (b off len:Nat) (j:TypeId) (n:Int):Option Xab :=
 fM (nq P j && decide (0<=n/\n<len)) (some (.pointer (some ⟨b,off+n.toNat*P.cellsOf j,none⟩)))
def intOf:Xab->Option Int
 | .int _ n=>some n
 | _=>none
def OV (P:Program) (t:TypeId) (v i:Xab):Option Xab :=
 (intOf i).bind fun n=>match P.underlying t with
 | some (.slice j)=>(match v with
  | .slice (some ⟨b,off,none⟩) len _=>atIdx P b off len j n
  | _=>none)
 | some (.array len j)=>(uA v).bind fun (b,off)=>atIdx P b off len j n
 | _=>none
def Uz (P:Program) (t:TypeId) (v i:Xab):Option Xab :=
 (intOf i).bind fun n=>match v with
 | .string s=>fM (xf (P.underlying t) && decide (0<=n/\n<s.size)) (some (.int .u8 (cU s n)))
 | _=>none
def Lr (P:Program) (t:TypeId) (off:Nat) (cs:List Xab):Option Xab :=
 (cF P t).bind fun g=>match g with
 | true=>some (.agg ⟨(cs.drop off).take (P.cellsOf t)⟩)
 | false=>cs[off]?
def IS (P:Program) (t:TypeId) (f:Nat):Option Field :=
 match P.underlying t with
 | some (.struct fs)=>fs[f]?
 | _=>none
def DG (P:Program) (t:TypeId) (f:Nat) (v:Xab):Option Xab :=
 (uA v).bind fun (b,off)=>(IS P t f).bind fun fd=>fM (Nat.ble 1 (P.cellsOf fd.type)) (some (.pointer (some ⟨b,off+fd.offset,none⟩)))
def vD (a b:Nat × Xaa):Bool:=Nat.beq a.1 b.1 && oy a.2 b.2
def pM (a b:Nat × Nat):Bool:=Nat.beq a.1 b.1 && Nat.beq a.2 b.2
def kG {α:Type} (q:α->α->Bool) (s:α):List (α × Xab)->Option Xab
 | []=>none
 | p::D=>match q s p.1 with
  | true=>some p.2
  | false=>kG q s D
def yu {α:Type} (q:α->α->Bool) (s:α) (v:Xab):List (α × Xab)->List (α × Xab)
 | []=>[(s,v)]
 | p::D=>match q s p.1 with
  | true=>(p.1,v)::D
  | false=>p::yu q s v D
def On:Option TypeDesc->Option (TypeId × TypeId)
 | some (.map k e)=>some (k,e)
 | _=>none
def Pp:Xab->Option (Nat × Xaa)
 | .agg ⟨[.int .i64 (.ofNat n),.string y]⟩=>some (n,y)
 | _=>none
def QG:Xab->Option (Nat × Nat)
 | .agg ⟨[.int .i64 (.ofNat n),.int .i64 (.ofNat m)]⟩=>some (n,m)
 | _=>none
def U8 (C:Cx) (k:TypeId):Bool:=Nat.beq k C.kt || Nat.beq k C.ku
def U6 (C:Cx) (k:TypeId):Bool:=Nat.blt 0 C.ki && Nat.beq k C.ki
def OP:Xab->Option Xaa
 | .string y=>some y
 | _=>none
def YL (y:Xaa):AO->Option (Option Xab)
 | .wv D=>some (kG oy y D)
 | _=>none
def YT (y:Nat × Xaa):AO->Option (Option Xab)
 | .yo D=>some (kG vD y D)
 | _=>none
def YF (y:Nat × Nat):AO->Option (Option Xab)
 | .ym D=>some (kG pM y D)
 | _=>none
def Vk (x:Xab) (s:CS):Xab->Option (Option Xab)
 | .map (some b)=>(QG x).bind fun y=>(s.σ.get b).bind (YF y)
 | _=>none
def Xa (x:Xab) (s:CS):Xab->Option (Option Xab)
 | .map (some b)=>(Pp x).bind fun y=>(s.σ.get b).bind (YT y)
 | _=>none
def VE (x:Xab) (s:CS):Xab->Option (Option Xab)
 | .map none=>(OP x).bind fun _=>some none
 | .map (some b)=>(OP x).bind fun y=>(s.σ.get b).bind (YL y)
 | _=>none
def Nb (C:Cx) (k:TypeId) (m x:Xab) (s:CS):Option (Option Xab) :=
 match U8 C k with
 | true=>Xa x s m
 | false=>match U6 C k with
  | true=>Vk x s m
  | false=>fM (xf (C.P.underlying k)) (VE x s m)
def K7 (P:Program) (j:TypeId):Option Xab:=((P.info? j).bind (·.zero)).bind F0
def SK (ok:Bool) (z:Xab) (r:Option Xab):Xab :=
 match ok with
 | true=>.tuple ⟨[r.getD z,.bool r.isSome]⟩
 | false=>r.getD z
def Mp (C:Cx) (t:TypeId) (m x:Xab) (ok:Bool) (s:CS):Option Xab :=
 (On (C.P.underlying t)).bind fun (k,j)=>(K7 C.P j).bind fun z=>(Nb C k m x s).bind fun r=>fM (CR (cD C.P j) (r.getD z)) (some (SK ok z r))
def NK (C:Cx) (k:TypeId) (b:Nat) (x v:Xab) (s:CS):AO->Option CS
 | .wv D=>fM (xf (C.P.underlying k)) ((OP x).bind fun y=>fM (Nat.ble y.size maxLen) (some ⟨s.σ.put b (.wv (yu oy y v D)),s.nx⟩))
 | .yo D=>fM (U8 C k) ((Pp x).bind fun y=>some ⟨s.σ.put b (.yo (yu vD y v D)),s.nx⟩)
 | .ym D=>fM (U6 C k) ((QG x).bind fun y=>some ⟨s.σ.put b (.ym (yu pM y v D)),s.nx⟩)
 | _=>none
def US (C:Cx) (t:TypeId) (m x v:Xab) (s:CS):Option CS :=
 match m with
 | .map (some b)=>(On (C.P.underlying t)).bind fun (k,_)=>(s.σ.get b).bind fun o=>NK C k b x v s o
 | _=>none
def Hi (C:Cx) (t:TypeId) (s:CS):VS :=
 (On (C.P.underlying t)).bind fun q=>match U8 C q.1 with
 | true=>(yN s (.yo [])).bind fun s'=>some (.map (some s.nx),s')
 | false=>match U6 C q.1 with
  | true=>(yN s (.ym [])).bind fun s'=>some (.map (some s.nx),s')
  | false=>fM (xf (C.P.underlying q.1)) ((yN s (.wv [])).bind fun s'=>some (.map (some s.nx),s'))
def Ir:Xab->Option Nat
 | .int _ (.ofNat n)=>some n
 | _=>none
def zF (P:Program) (t:TypeId) (l c:Xab) (s:CS):VS :=
 (Ir l).bind fun l=>(Ir c).bind fun c=>(MX P t).bind fun q=>fM (Nat.ble l c && Nat.ble (c*q.by_) 16777216 && Nat.ble c 16777216) (F3 s (List.replicate c q.z).flatten q.e 0 l c)
def DJ (x:Xaa):List Xaa->List Xaa
 | []=>[x]
 | y::l=>match Op.bytesLess x.data.toList y.data.toList with
  | true=>x::y::l
  | false=>y::DJ x l
def qS:List Xaa->List Xaa
 | []=>[]
 | x::l=>DJ x (qS l)
def Oz (D:List (Xaa × Xab)) (s:CS):VS :=
 match D with
 | []=>some (.slice none 0 0,s)
 | _::_=>F3 s ((qS (D.map (·.1))).map .string) 9 1 D.length pT
def IQ (s:CS):AO->VS
 | .wv D=>fM (Nat.ble D.length 1024) (Oz D s)
 | _=>none
def LO:Xab->Option Nat
 | .map (some b)=>some b
 | _=>none
def N4 (C:Cx):Xab->Option (Nat × Nat)
 | .func (.func f) ⟨[]⟩ ⟨[p]⟩=>fM (Nat.beq f C.seq) (uA p)
 | _=>none
def Wk:Option AO->Option (List Xab)
 | some (.row c _ m)=>fM (Nat.beq m 0) (some c)
 | _=>none
def Di (C:Cx) (vs:List Xab) (s:CS):VS :=
 (KC vs).bind fun v=>(N4 C v).bind fun (q,off)=>fM (Nat.beq off 0) ((Wk (s.σ.get q)).bind fun l=>(KC l).bind fun m=>(LO m).bind fun b=>(s.σ.get b).bind (IQ s))
def Q7 (vs:List Xab):Option Xab :=
 match vs with
 | [.int .i64 (.ofNat a),.int .i64 (.ofNat b)]=>some (.int .i64 (.ofNat (Nat.min a b)))
 | _=>none
def L9 (vs:List Xab):Option Xab :=
 match vs with
 | [.string x,.int .u8 n]=>some (.int .i64 (Lib.indexByte x.data.toList n.toNat.toUInt8))
 | _=>none
abbrev gd:=FuncId->List Xab->CS->VS
def val (s:CS) (v:Option Xab):VS:=v.bind fun v=>some (v,s)
def done (r:Option CS):VS:=r.bind fun s=>some (undef,s)
def M0 (C:Cx) (e:Ev) (s:CS) (c a b:Operand):VS :=
 (ko C e c).bind fun v=>match v with
 | .bool true=>val s (ko C e a)
 | .bool false=>val s (ko C e b)
 | _=>none
def CX (s:CS) (t:TypeId) (l:List Xab):VS:=(yN s (.row l t 0)).bind fun s'=>some (.pointer (some ⟨s.nx,0,none⟩),s')
def XY (C:Cx) (e:Ev) (s:CS) (t:TypeId) (x:Operand):VS:=(ko C e x).bind fun v=>(cF C.P t).bind fun g=>(vL g v).bind fun l=>CX s t l
def WQ (ps:Array (Nat × Operand)) (vs:List Xab):List (Nat × Xab):=(ps.toList.map (·.1)).zip vs
def Th (C:Cx) (e:Ev) (s:CS) (t:TypeId) (ps:Array (Nat × Operand)):VS:=(zQ C e (ps.toList.map (·.2))).bind fun vs=>val s (GZ C.P t (WQ ps vs))
def PZ (C:Cx) (e:Ev) (s:CS) (t:TypeId) (n:Nat) (ps:Array (Nat × Operand)):VS:=(zQ C e (ps.toList.map (·.2))).bind fun vs=>Mg C.P t n (WQ ps vs) s
def VB (C:Cx) (e:Ev) (s:CS) (t:TypeId) (x:Operand):VS:=(ko C e x).bind fun v=>(BF C t v s).bind fun (_,_,_,v)=>some (v,s)
def Us (C:Cx) (e:Ev) (s:CS) (t:TypeId) (x y:Operand):VS:=(ko C e x).bind fun p=>(ko C e y).bind fun v=>done (Gz C.P t p v s)
def notNil:Xab->Option Xab
 | .pointer (some a)=>some (.pointer (some a))
 | _=>none
def X3 (C:Cx) (e:Ev) (s:CS) (x:Operand):VS:=(ko C e x).bind fun v=>val s (notNil v)
def XB (C:Cx) (e:Ev) (s:CS) (op:BinOp) (t:TypeId) (x y:Operand):VS:=(ko C e x).bind fun a=>(ko C e y).bind fun b=>val s (Uu C.P op t x y a b)
def YU (C:Cx) (e:Ev) (s:CS) (op:UnOp) (x:Operand):VS:=(ko C e x).bind fun a=>val s (XW op a)
def Vh (C:Cx) (e:Ev) (s:CS) (a d:TypeId) (x:Operand):VS:=(ko C e x).bind fun v=>val s (LD C.P a d v)
def VG (C:Cx) (e:Ev) (s:CS) (f:FuncId) (j ca:Array Operand):VS:=(zQ C e j.toList).bind fun j=>(zQ C e ca.toList).bind fun ca=>some (.func (.func f) ⟨j⟩ ⟨ca⟩,s)
def VZ (C:Cx) (e:Ev) (s:CS) (t:TypeId) (l c:Operand):VS:=(ko C e l).bind fun l=>(ko C e c).bind fun c=>zF C.P t l c s
def W4 (C:Cx) (e:Ev) (s:CS) (t:TypeId) (m x:Operand) (ok:Bool):VS:=(ko C e m).bind fun m=>(ko C e x).bind fun x=>val s (Mp C t m x ok s)
def Xx (C:Cx) (e:Ev) (s:CS) (t:TypeId) (m x v:Operand):VS:=(ko C e m).bind fun m=>(ko C e x).bind fun x=>(ko C e v).bind fun v=>done (US C t m x v s)
def TC (C:Cx) (e:Ev) (s:CS) (t:TypeId) (x:Operand) (j hi u:Option Operand):VS :=
 (ko C e x).bind fun a=>(zQ C e (j.toList++hi.toList++u.toList)).bind fun vs=>val s (XE C.P t j hi u a vs)
def PM (C:Cx) (e:Ev) (s:CS) (t:TypeId) (x:Operand) (f:Nat):VS:=(ko C e x).bind fun v=>val s (DG C.P t f v)
def UN (C:Cx) (e:Ev) (s:CS) (t:TypeId) (x:Operand) (f:Nat):VS:=(ko C e x).bind fun v=>(Al v).bind fun cs=>(IS C.P t f).bind fun fd=>val s (Lr C.P fd.type fd.offset cs)
def V9 (C:Cx) (e:Ev) (s:CS) (t:TypeId) (x i:Operand):VS:=(ko C e x).bind fun v=>(ko C e i).bind fun i=>val s (OV C.P t v i)
def X7 (C:Cx) (e:Ev) (s:CS) (t:TypeId) (x i:Operand):VS:=(ko C e x).bind fun v=>(ko C e i).bind fun i=>val s (Uz C.P t v i)
def VF (C:Cx) (e:Ev) (s:CS) (x:Operand) (i:Nat):VS:=(ko C e x).bind fun v=>(Nj v).bind fun vs=>val s vs[i]?
def Ak (P:Program) (t:TypeId) (r:VS):VS:=r.bind fun (v,s)=>fM (Hl (kU P t) v) (some (v,s))
def Hh (C:Cx) (call:gd) (t:TypeId) (s:CS) (f:FuncId) (vs:List Xab):VS :=
 match fL C.P f with
 | true=>Ak C.P t (match Nat.beq f C.Sl with
  | true=>Di C vs s
  | false=>call f vs s)
 | false=>fM (Nat.beq f C.idx) (Ak C.P t (val s (L9 vs)))
def Nl (C:Cx) (call:gd) (t:TypeId) (s:CS) (g:Xab) (vs:List Xab):VS :=
 match g with
 | .func (.func f) ⟨j⟩ ⟨ca⟩=>fM (fL C.P f) (Ak C.P t (call f (j++vs++ca) s))
 | _=>none
def SO (P:Program) (t:TypeId) (v:Xab):Option Xab:=fM (CR (cD P t) v) (some v)
def zC (C:Cx) (b:Builtin) (t:TypeId) (c:Call) (vs:List Xab) (s:CS):VS :=
 match b with
 | .len=>(KC vs).bind fun v=>val s (Tf s ((c.argTypes[0]?).bind C.P.underlying) v)
 | .append=>Du C c.argTypes.toList vs s
 | .min=>val s ((Q7 vs).bind (SO C.P t))
 | _=>none
def O1 (C:Cx) (call:gd) (e:Ev) (s:CS) (t:TypeId) (c:Call):VS :=
 (zQ C e c.args.toList).bind fun vs=>match c.callee with
 | .builtin b=>zC C b t c vs s
 | .value (.func f)=>Hh C call t s f vs
 | .value (.tmp g)=>(e.get g).bind fun g=>Nl C call t s g vs
 | _=>none
def U4 (C:Cx) (call:gd) (o:Oper) (e:Ev) (s:CS):VS :=
 match o.op with
 | .move x=>val s (ko C e x)
 | .assign x=>val s (ko C e x)
 | .pick c a b=>M0 C e s c a b
 | .alloc t=>(zeroOf C.P t).bind (CX s t)
 | .box t x=>XY C e s t x
 | .build t ps=>Th C e s t ps
 | .buildSlice t n ps=>PZ C e s t n ps
 | .load t x=>VB C e s t x
 | .store t x y=>Us C e s t x y
 | .nilCheck x=>X3 C e s x
 | .binOp op t x y _=>XB C e s op t x y
 | .unOp op _ x=>YU C e s op x
 | .convert a d x=>Vh C e s a d x
 | .makeFunc (.func f) j ca=>VG C e s f j ca
 | .makeMap t none=>Hi C t s
 | .makeSlice t l c=>VZ C e s t l c
 | .lookup t m x ok=>W4 C e s t m x ok
 | .mapUpdate t m x v=>Xx C e s t m x v
 | .slice t x u hi G=>TC C e s t x u hi G
 | .fieldAddr t x f=>PM C e s t x f
 | .field t x f=>UN C e s t x f
 | .indexAddr t x i=>V9 C e s t x i
 | .index t x i=>X7 C e s t x i
 | .extract x i=>VF C e s x i
 | .call c=>O1 C call e s o.type c
 | _=>none
def Sp (want:Bool):Xab->Option Bool
 | .bool b=>some (b==want)
 | .tuple _=>some false
 | _=>none
def Cg (ops:Array Oper) (o:Oper) (e:Ev):Option Bool :=
 match guardOf ops o with
 | none=>some true
 | some (none,_)=>some false
 | some (some d,want)=>(e.get d).bind (Sp want)
def forced {α:Type} (v:Xab) (k:Xab->α):α :=
 match v with
 | .int j n=>match n with
  | .ofNat m=>match m with
   | 0=>k (.int j (.ofNat 0))
   | m+1=>k (.int j (.ofNat (m+1)))
  | .negSucc m=>k (.int j (.negSucc m))
 | .bool b=>match b with
  | true=>k (.bool true)
  | false=>k (.bool false)
 | v=>k v
def C0 (n:Nat) (e:Ev) (dst:Option Tmp) (v:Xab):Ev :=
 match dst with
 | none=>e
 | some d=>match Nat.blt d n with
  | true=>forced v (e.put d)
  | false=>e
abbrev ES:=Option (Ev × CS)
def YN (n:Nat) (e:Ev) (dst:Option Tmp) (r:VS) (k:Ev->CS->ES):ES:=r.bind fun (v,s)=>k (C0 n e dst v) s
def Qi (C:Cx) (call:gd) (n:Nat) (ops:Array Oper):List Oper->Ev->CS->ES
 | [],e,s=>some (e,s)
 | o::rest,e,s=>(Cg ops o e).bind fun w=>match w with
  | true=>YN n e o.dst (U4 C call o e s) (Qi C call n ops rest)
  | false=>Qi C call n ops rest (C0 n e o.dst undef) s
end
end Go.Sx.Cr
