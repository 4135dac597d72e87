/- Part of the framework. No condition. -/
import Derived.Test.YthbffkdafjboiaaGreatDoorSxV
set_option linter.all false
set_option maxHeartbeats 4000000
namespace Go.Sx.Cr
noncomputable section
abbrev Ev:=dI ZB
structure CS where
 σ:dI AO
 nx:Nat
abbrev VS:=Option (ZB × CS)
def fG {α:Type} (b:Bool) (k:Option α):Option α :=
 match b with
 | true=>k
 | false=>none
def bq {α:Type} {b:Bool} {k:Option α} {x:α}:fG b k=some x↔b=true/\k=some x:=by
 cases b <;> simp [fG]
def Fm (v:ZB):Option ZB:=fG (fA 9 v) (some v)
def Rk (C:Cx) (g:Nat):Option ZB:=fG (Nat.blt g C.ng) (some (.pointer (some ⟨g,0,none⟩)))
def j4 (C:Cx) (e:Ev):Operand->Option ZB
 | .tmp t=>e.get t
 | .const v=>Fm v
 | .func f=>some (.func (.func f) #[] #[])
 | .global g=>Rk C g
def zm (C:Cx) (e:Ev):List Operand->Option (List ZB)
 | []=>some []
 | x::xs=>(j4 C e x).bind fun v=>(zm C e xs).bind fun l=>some (v::l)
def KA (op:BinOp) (k:IntKind) (m n:Int):Option ZB :=
 match op with
 | .add=>some (.int k (k.wrap (m+n)))
 | .sub=>some (.int k (k.wrap (m-n)))
 | .mul=>some (.int k (k.wrap (m*n)))
 | .quo=>fG (!decide (n=0)) (some (.int k (k.wrap (m.tdiv n))))
 | .rem=>fG (!decide (n=0)) (some (.int k (m.tmod n)))
 | .eql=>some (.bool (m==n))
 | .neq=>some (.bool (m != n))
 | .lss=>some (.bool (decide (m<n)))
 | .leq=>some (.bool (decide (m<=n)))
 | .gtr=>some (.bool (decide (m>n)))
 | .geq=>some (.bool (decide (m>=n)))
 | .and=>some (.int k (C4 .and k m n))
 | .or=>some (.int k (C4 .or k m n))
 | .xor=>some (.int k (C4 .xor k m n))
 | .andNot=>some (.int k (C4 .andNot k m n))
 | _=>none
def Ns (op:BinOp) (x y:ZA):Option ZB :=
 match op with
 | .add=>fG (decide (((x.size+y.size:Nat):Int)<=IntKind.i64.max)) (some (.string (x++y)))
 | .eql=>some (.bool (x.data.toList==y.data.toList))
 | .neq=>some (.bool !(x.data.toList==y.data.toList))
 | .lss=>some (.bool (Op.bytesLess x.data.toList y.data.toList))
 | .leq=>some (.bool (Op.bytesLess x.data.toList y.data.toList || x.data.toList==y.data.toList))
 | .gtr=>some (.bool !(Op.bytesLess x.data.toList y.data.toList || x.data.toList==y.data.toList))
 | .geq=>some (.bool !(Op.bytesLess x.data.toList y.data.toList))
 | _=>none
def pj (op:BinOp) (b:Bool):Option ZB :=
 match op with
 | .eql=>some (.bool b)
 | .neq=>some (.bool !b)
 | _=>none
def KC:Option TypeDesc->Bool
 | some (.pointer _)=>true
 | _=>false
def Ie:Option TypeDesc->Bool
 | some (.slice _)=>true
 | _=>false
def HV:Option TypeDesc->Bool
 | some .bool=>true
 | _=>false
def wJ:Option TypeDesc->Bool
 | some .string=>true
 | _=>false
def N3 (P:Program) (op:BinOp) (t:TypeId) (a b:ZB):Option ZB :=
 match a,b with
 | .int k m,.int k' n=>fG (!ml op && decide (k=k')) (KA op k m n)
 | .string m,.string n=>Ns op m n
 | .bool m,.bool n=>fG (HV (P.underlying t)) (pj op (m==n))
 | .pointer p,.pointer _=>fG (KC (P.underlying t)) (pj op p.isNone)
 | .slice p _ _,.slice _ _ _=>fG (Ie (P.underlying t)) (pj op p.isNone)
 | _,_=>none
def n' (a b:ZA):Bool:=a.data.toList==b.data.toList
def C3:ZB->ZB->Bool
 | .int _ a,.int _ b=>a==b
 | .string a,.string b=>n' a b
 | .bool a,.bool b=>a==b
 | _,_=>false
def R4 (P:Program) (op:BinOp) (t:TypeId) (a b:ZB):Option ZB :=
 match a,b,P.underlying t with
 | .agg xs,.agg ys,some (.struct fs) =>
  fG (!(P.stoodInHeld t) && !(P.eqGuardType P.depth t) && fs.all (okF P xs ys)) (pj op (fs.all fun f=>C3 (xs[f.offset]?.getD .nilIface) (ys[f.offset]?.getD .nilIface)))
 | _,_,_=>none
def Tj (P:Program) (op:BinOp) (t:TypeId) (x y:Operand) (a b:ZB):Option ZB :=
 match q8 P t x y with
 | true=>N3 P op t a b
 | false=>R4 P op t a b
def V4 (op:UnOp) (a:ZB):Option ZB :=
 match op,a with
 | .neg,.int k n=>some (.int k (k.wrap (0-n)))
 | .not,.bool b=>some (.bool !b)
 | _,_=>none
def KP (P:Program) (s d:TypeId) (a:ZB):Option ZB :=
 match P.underlying s,P.underlying d,a with
 | some (.int _),some (.int k),.int _ n=>some (.int k (k.wrap n))
 | some .string,some .string,.string x=>some (.string x)
 | _,_,_=>none
def vc:TypeDesc->ZB->Bool
 | .bool,.bool _=>true
 | .bool,_=>false
 | .int k,.int k' _=>decide (k=k')
 | .int _,_=>false
 | .string,.string _=>true
 | .string,_=>false
 | .pointer _,.pointer _=>true
 | .pointer _,_=>false
 | .slice _,.slice _ _ _=>true
 | .slice _,_=>false
 | .map _ _,.map _=>true
 | .map _ _,_=>false
 | _,_=>true
def fits:List TypeDesc->List ZB->Bool
 | [],[]=>true
 | d::ds,v::vs=>vc d v && fits ds vs
 | _,_=>false
def zL:ZB->Option (List ZB)
 | .agg ⟨l⟩=>some l
 | _=>none
def Cg (c:fE) (v:ZB):Bool :=
 match c with
 | (true,ds)=>(zL v).elim false (fits ds)
 | (false,ds)=>fits ds [v]
def zr:List fE->List ZB->Bool
 | [],[]=>true
 | c::cs,v::vs=>Cg c v && zr cs vs
 | _,_=>false
def Mu:ZB->Option (List ZB)
 | .tuple ⟨l⟩=>some l
 | _=>none
def GJ (q:Bool × List fE) (v:ZB):Bool :=
 match q with
 | (true,cs)=>(Mu v).elim false (zr cs)
 | (false,cs)=>zr cs [v]
def L5 (C:Cx) (b off n:Nat):Option AO->Option (List ZB)
 | some (.row c _ _)=>KN off n c
 | some .gone=>(C.ro b).bind fun c=>KN off n c
 | _=>none
def cells (C:Cx) (s:CS) (b off n:Nat):Option (List ZB):=L5 C b off n (s.σ.get b)
def tY:ZB->Option (Nat × Nat)
 | .pointer (some ⟨b,off,none⟩)=>some (b,off)
 | _=>none
abbrev Ld:=Option (Nat × Nat × List ZB × ZB)
def Ry (C:Cx) (t:TypeId) (b off:Nat) (s:CS):Ld :=
 fG (Nat.beq (eU C.P 9 t).length (C.P.cellsOf t)) ((cells C s b off (eU C.P 9 t).length).bind fun vs=>fG (fits (eU C.P 9 t) vs) (some (b,off,vs,.agg ⟨vs⟩)))
def RI (C:Cx) (t:TypeId) (b off:Nat) (s:CS):Ld :=
 (cells C s b off 1).bind fun vs=>fG (fits (cz C.P t).2 vs) (some (b,off,vs,vs.headD undef))
def A' (C:Cx) (t:TypeId) (v:ZB) (s:CS):Ld :=
 (tY v).bind fun (b,off)=>(cB C.P t).bind fun g=>match g with
  | true=>Ry C t b off s
  | false=>RI C t b off s
def yj (s:CS) (o:AO):Option CS :=
 match s.σ.get s.nx with
 | none=>some ⟨s.σ.put s.nx o,s.nx+1⟩
 | some _=>none
def PF (s:CS) (b off:Nat) (vs:List ZB):Option CS :=
 match s.σ.get b with
 | some (.row c e m)=>fG (!Nat.beq m 2 && vs.all cX && Nat.ble 1 vs.length && Nat.ble (off+vs.length) c.length) (some ⟨s.σ.put b (.row (la c off vs) e m),s.nx⟩)
 | _=>none
def uW (g:Bool) (v:ZB):Option (List ZB) :=
 match g with
 | true=>zL v
 | false=>fG (!eN v) (some [v])
def FZ (P:Program) (t:TypeId) (p v:ZB) (s:CS):Option CS :=
 (tY p).bind fun (b,off)=>(cB P t).bind fun g=>(uW g v).bind fun l=>fG (Nat.beq l.length (P.cellsOf t)) (PF s b off l)
def Cu (agg:Nat->Option Bool):List (Nat × ZB)->Option (List (Nat × List ZB))
 | []=>some []
 | (i,v)::l=>(agg i).bind fun g=>(uW g v).bind fun c=>(Cu agg l).bind fun r=>some ((i,c)::r)
def zeroOf (P:Program) (t:TypeId):Option (List ZB) :=
 ((P.info? t).bind (·.zero)).bind fun z=>fG (z.cells.toList.all (fA 9)) (some z.cells.toList)
def HH (P:Program) (fs:Array Field) (z:List ZB) (ps:List (Nat × ZB)):Option ZB :=
 fG (fs.all fun f=>mV P f.type) ((Cu (fun i=>(fs[i]?).bind fun f=>cB P f.type) ps).bind fun ls=>(ft (((fs.map fun f=>(f.offset,P.cellsOf f.type)))[·]?) z ls).bind fun cs=>some (.agg ⟨cs⟩))
def Hm (P:Program) (el:TypeId) (z:List ZB) (ps:List (Nat × ZB)):Option ZB :=
 fG (mV P el) ((Cu (fun _=>cB P el) ps).bind fun ls=>(ft (fun i=>some (i*P.cellsOf el,P.cellsOf el)) z ls).bind fun cs=>some (.agg ⟨cs⟩))
def Gl (P:Program) (t:TypeId) (ps:List (Nat × ZB)):Option ZB :=
 (zeroOf P t).bind fun z=>match P.underlying t with
  | some (.struct fs)=>HH P fs z ps
  | some (.array _ el)=>Hm P el z ps
  | _=>none
structure El where
 e:TypeId
 sz:Nat
 by_:Nat
 z:List ZB
def LC (P:Program) (e:TypeId):Option El :=
 (P.info? e).bind fun i=>i.zero.bind fun z=>fG (z.cells.toList.all (fA 9) && Nat.beq z.cells.size i.size && Nat.ble 1 i.size) (some ⟨e,i.size,i.bytes,z.cells.toList⟩)
def elemOf:Option TypeDesc->Option TypeId
 | some (.slice e)=>some e
 | _=>none
def Mc (P:Program) (t:TypeId):Option El:=(elemOf (P.underlying t)).bind (LC P)
def A7:List (Nat × ZB)->List (Nat × List ZB)
 | []=>[]
 | (i,v)::l=>(i,match zL v with
  | some c=>c
  | none=>[v])::A7 l
def Gi (sz:Nat):Nat->List (Nat × List ZB)->Option (List ZB)
 | _,[]=>some []
 | i,(k,c)::l=>fG (Nat.beq k i && Nat.beq c.length sz) ((Gi sz (i+1) l).bind fun r=>some (c++r))
def L8 (q:El) (n:Nat) (ps:List (Nat × List ZB)):Option (List ZB):=fG (Nat.beq ps.length n) (Gi q.sz 0 ps)
def Fq (s:CS) (c:List ZB) (e:TypeId) (m l cap:Nat):VS :=
 (yj s (.row c e m)).bind fun s'=>some (.slice (some ⟨s.nx,0,none⟩) l cap,s')
def Lq (P:Program) (t:TypeId) (n:Nat) (ps:List (Nat × ZB)) (s:CS):VS :=
 (Mc P t).bind fun q=>fG (Nat.ble (n*q.sz) 16777216) ((L8 q n (A7 ps)).bind fun cs=>Fq s cs q.e 0 n n)
def F0 (C:Cx) (sz:Nat) (x:ZB) (s:CS):Option (List ZB) :=
 match x with
 | .slice q m _=>match m with
  | 0=>some []
  | m+1=>(tY (.pointer q)).bind fun (b,off)=>cells C s b off ((m+1)*sz)
 | _=>none
def B8 (q:El) (po l c:Nat):Option AO->Option (List ZB)
 | some (.row cs e' m')=>fG (Nat.beq m' 1 && Nat.beq q.e e' && Nat.ble c pB && Nat.beq po ((pB-c)*q.sz) && Nat.ble (po+l*q.sz) cs.length) (some cs)
 | _=>none
def HD (s:CS) (q:El) (pb po l c m:Nat) (ys:List ZB):VS :=
 (B8 q po l c (s.σ.get pb)).bind fun cs=>fG (Nat.beq cs.length (po+l*q.sz))
   (match s.σ.get s.nx with
   | none=>some (.slice (some ⟨s.nx,0,none⟩) (l+m) pB,⟨(s.σ.put pb .gone).put s.nx (.row (cs.drop po++ys) q.e 1),s.nx+1⟩)
   | some _=>none)
def Nh (C:Cx) (s:CS) (q:El) (pb po l c m:Nat) (ys:List ZB):VS :=
 match Nat.ble (l+m) c with
 | true=>(PF s pb (po+l*q.sz) ys).bind fun s=>some (.slice (some ⟨pb,po,none⟩) (l+m) c,s)
 | false=>(cells C s pb po (l*q.sz)).bind fun old=>Fq s (old++ys) q.e 1 (l+m) pB
def Rc (C:Cx) (s:CS) (q:El) (pb po l c m:Nat) (ys:List ZB):VS :=
 match Nat.blt c half with
 | true=>Nh C s q pb po l c m ys
 | false=>HD s q pb po l c m ys
def Ru (C:Cx) (s:CS) (q:El) (p:ZC) (l c m:Nat) (ys:List ZB):VS :=
 match p with
 | none=>fG (Nat.beq l 0 && Nat.beq c 0) (Fq s ys q.e 1 m pB)
 | some a=>(tY (.pointer (some a))).bind fun (b,off)=>Rc C s q b off l c m ys
def SJ (C:Cx) (q:El) (a x:ZB) (s:CS) (ys:List ZB):VS :=
 match a,x with
 | .slice p l c,.slice _ m _=>fG (Nat.ble ((2*(l+m)+1024)*q.by_) 281474976710656 && Nat.ble (l+m) 281474976710656 && ys.all cX)
   (match m with
   | 0=>some (.slice p l c,s)
   | _+1=>Ru C s q p l c m ys)
 | _,_=>none
def CX (C:Cx) (ts:List TypeId) (vs:List ZB) (s:CS):VS :=
 match ts,vs with
 | [t,t'],[a,x]=>fG (Ie (C.P.underlying t')) ((Mc C.P t).bind fun q=>(F0 C q.sz x s).bind fun ys=>SJ C q a x s ys)
 | _,_=>none
def Ul:AO->Option Nat
 | .vL D=>some D.length
 | .xW D=>some D.length
 | .xV D=>some D.length
 | _=>none
def RU (s:CS) (D:Option TypeDesc) (v:ZB):Option ZB :=
 match D with
 | some .string=>(match v with
  | .string s=>some (.int .i64 s.size)
  | _=>none)
 | some (.slice _)=>(match v with
  | .slice _ n _=>some (.int .i64 n)
  | _=>none)
 | some (.map _ _)=>(match v with
  | .map (some b)=>((s.σ.get b).bind Ul).bind fun n=>some (.int .i64 n)
  | _=>none)
 | _=>none
def JT:List ZB->Option ZB
 | [v]=>some v
 | _=>none
def Up (x:ZA) (lo hi:Option ZB):Option ZB :=
 fG (decide (0<=j3 lo/\j3 lo<=kw x.size hi/\kw x.size hi<=x.size)) (some (.string (x.extract (j3 lo).toNat (kw x.size hi).toNat)))
def VZ (P:Program) (e:TypeId) (b off len cap:Nat) (lo hi:Option ZB):Option ZB :=
 fG (mV P e && decide (0<=j3 lo/\j3 lo<=kw len hi/\kw len hi<=len/\j3 lo<len) && (Nat.blt cap half || Nat.ble half (cap-(j3 lo).toNat))) (some (.slice (some ⟨b,off+(j3 lo).toNat*P.cellsOf e,none⟩) ((kw len hi).toNat-(j3 lo).toNat) (cap-(j3 lo).toNat)))
def rj (P:Program) (t:TypeId) (a:ZB) (lo hi:Option ZB):Option ZB :=
 fG (ep lo && ep hi) (match P.underlying t with
  | some .string=>(match a with
   | .string x=>Up x lo hi
   | _=>none)
  | some (.slice e)=>(match a with
   | .slice (some ⟨b,off,none⟩) len cap=>VZ P e b off len cap lo hi
   | _=>none)
  | _=>none)
def VQ (P:Program) (t:TypeId) (lo hi mx:Option Operand) (a:ZB) (vs:List ZB):Option ZB :=
 match mx,lo,hi,vs with
 | none,none,none,[]=>rj P t a none none
 | none,some _,none,[l]=>rj P t a (some l) none
 | none,none,some _,[h]=>rj P t a none (some h)
 | none,some _,some _,[l,h]=>rj P t a (some l) (some h)
 | _,_,_,_=>none
def atIdx (P:Program) (b off len:Nat) (el:TypeId) (n:Int):Option ZB :=
 fG (mV P el && decide (0<=n/\n<len)) (some (.pointer (some ⟨b,off+n.toNat*P.cellsOf el,none⟩)))
def intOf:ZB->Option Int
 | .int _ n=>some n
 | _=>none
def N0 (P:Program) (t:TypeId) (v i:ZB):Option ZB :=
 (intOf i).bind fun n=>match P.underlying t with
 | some (.slice el)=>(match v with
  | .slice (some ⟨b,off,none⟩) len _=>atIdx P b off len el n
  | _=>none)
 | some (.array len el)=>(tY v).bind fun (b,off)=>atIdx P b off len el n
 | _=>none
def To (P:Program) (t:TypeId) (v i:ZB):Option ZB :=
 (intOf i).bind fun n=>match v with
 | .string s=>fG (wJ (P.underlying t) && decide (0<=n/\n<s.size)) (some (.int .u8 (cR s n)))
 | _=>none
def KE (P:Program) (t:TypeId) (off:Nat) (cs:List ZB):Option ZB :=
 (cB P t).bind fun g=>match g with
 | true=>some (.agg ⟨(cs.drop off).take (P.cellsOf t)⟩)
 | false=>cs[off]?
def Ig (P:Program) (t:TypeId) (f:Nat):Option Field :=
 match P.underlying t with
 | some (.struct fs)=>fs[f]?
 | _=>none
def C7 (P:Program) (t:TypeId) (f:Nat) (v:ZB):Option ZB :=
 (tY v).bind fun (b,off)=>(Ig P t f).bind fun fd=>fG (Nat.ble 1 (P.cellsOf fd.type)) (some (.pointer (some ⟨b,off+fd.offset,none⟩)))
def uQ (a b:Nat × ZA):Bool:=Nat.beq a.1 b.1 && n' a.2 b.2
def pn (a b:Nat × Nat):Bool:=Nat.beq a.1 b.1 && Nat.beq a.2 b.2
def kp {α:Type} (q:α->α->Bool) (s:α):List (α × ZB)->Option ZB
 | []=>none
 | p::D=>match q s p.1 with
  | true=>some p.2
  | false=>kp q s D
def x5 {α:Type} (q:α->α->Bool) (s:α) (v:ZB):List (α × ZB)->List (α × ZB)
 | []=>[(s,v)]
 | p::D=>match q s p.1 with
  | true=>(p.1,v)::D
  | false=>p::x5 q s v D
def Ny:Option TypeDesc->Option (TypeId × TypeId)
 | some (.map k e)=>some (k,e)
 | _=>none
def On:ZB->Option (Nat × ZA)
 | .agg ⟨[.int .i64 (.ofNat n),.string y]⟩=>some (n,y)
 | _=>none
def PI:ZB->Option (Nat × Nat)
 | .agg ⟨[.int .i64 (.ofNat n),.int .i64 (.ofNat m)]⟩=>some (n,m)
 | _=>none
def TR (C:Cx) (k:TypeId):Bool:=Nat.beq k C.kt || Nat.beq k C.ku
def TQ (C:Cx) (k:TypeId):Bool:=Nat.blt 0 C.ki && Nat.beq k C.ki
def NV:ZB->Option ZA
 | .string y=>some y
 | _=>none
def WQ (y:ZA):AO->Option (Option ZB)
 | .vL D=>some (kp n' y D)
 | _=>none
def WX (y:Nat × ZA):AO->Option (Option ZB)
 | .xW D=>some (kp uQ y D)
 | _=>none
def WJ (y:Nat × Nat):AO->Option (Option ZB)
 | .xV D=>some (kp pn y D)
 | _=>none
def T4 (x:ZB) (s:CS):ZB->Option (Option ZB)
 | .map (some b)=>(PI x).bind fun y=>(s.σ.get b).bind (WJ y)
 | _=>none
def Vv (x:ZB) (s:CS):ZB->Option (Option ZB)
 | .map (some b)=>(On x).bind fun y=>(s.σ.get b).bind (WX y)
 | _=>none
def Ui (x:ZB) (s:CS):ZB->Option (Option ZB)
 | .map none=>(NV x).bind fun _=>some none
 | .map (some b)=>(NV x).bind fun y=>(s.σ.get b).bind (WQ y)
 | _=>none
def Mp (C:Cx) (k:TypeId) (m x:ZB) (s:CS):Option (Option ZB) :=
 match TR C k with
 | true=>Vv x s m
 | false=>match TQ C k with
  | true=>T4 x s m
  | false=>fG (wJ (C.P.underlying k)) (Ui x s m)
def Ko (P:Program) (el:TypeId):Option ZB:=((P.info? el).bind (·.zero)).bind Fm
def Rv (ok:Bool) (z:ZB) (r:Option ZB):ZB :=
 match ok with
 | true=>.tuple ⟨[r.getD z,.bool r.isSome]⟩
 | false=>r.getD z
def LA (C:Cx) (t:TypeId) (m x:ZB) (ok:Bool) (s:CS):Option ZB :=
 (Ny (C.P.underlying t)).bind fun (k,el)=>(Ko C.P el).bind fun z=>(Mp C k m x s).bind fun r=>fG (Cg (cz C.P el) (r.getD z)) (some (Rv ok z r))
def MV (C:Cx) (k:TypeId) (b:Nat) (x v:ZB) (s:CS):AO->Option CS
 | .vL D=>fG (wJ (C.P.underlying k)) ((NV x).bind fun y=>fG (Nat.ble y.size maxLen) (some ⟨s.σ.put b (.vL (x5 n' y v D)),s.nx⟩))
 | .xW D=>fG (TR C k) ((On x).bind fun y=>some ⟨s.σ.put b (.xW (x5 uQ y v D)),s.nx⟩)
 | .xV D=>fG (TQ C k) ((PI x).bind fun y=>some ⟨s.σ.put b (.xV (x5 pn y v D)),s.nx⟩)
 | _=>none
def TE (C:Cx) (t:TypeId) (m x v:ZB) (s:CS):Option CS :=
 match m with
 | .map (some b)=>(Ny (C.P.underlying t)).bind fun (k,_)=>(s.σ.get b).bind fun o=>MV C k b x v s o
 | _=>none
def GG (C:Cx) (t:TypeId) (s:CS):VS :=
 (Ny (C.P.underlying t)).bind fun q=>match TR C q.1 with
 | true=>(yj s (.xW [])).bind fun s'=>some (.map (some s.nx),s')
 | false=>match TQ C q.1 with
  | true=>(yj s (.xV [])).bind fun s'=>some (.map (some s.nx),s')
  | false=>fG (wJ (C.P.underlying q.1)) ((yj s (.vL [])).bind fun s'=>some (.map (some s.nx),s'))
def HN:ZB->Option Nat
 | .int _ (.ofNat n)=>some n
 | _=>none
def y6 (P:Program) (t:TypeId) (l c:ZB) (s:CS):VS :=
 (HN l).bind fun l=>(HN c).bind fun c=>(Mc P t).bind fun q=>fG (Nat.ble l c && Nat.ble (c*q.by_) 16777216 && Nat.ble c 16777216) (Fq s (List.replicate c q.z).flatten q.e 0 l c)
def C' (x:ZA):List ZA->List ZA
 | []=>[x]
 | y::l=>match Op.bytesLess x.data.toList y.data.toList with
  | true=>x::y::l
  | false=>y::C' x l
def qB:List ZA->List ZA
 | []=>[]
 | x::l=>C' x (qB l)
def NG (D:List (ZA × ZB)) (s:CS):VS :=
 match D with
 | []=>some (.slice none 0 0,s)
 | _::_=>Fq s ((qB (D.map (·.1))).map .string) 9 1 D.length pB
def Ic (s:CS):AO->VS
 | .vL D=>fG (Nat.ble D.length 1024) (NG D s)
 | _=>none
def KY:ZB->Option Nat
 | .map (some b)=>some b
 | _=>none
def Nc (C:Cx):ZB->Option (Nat × Nat)
 | .func (.func f) ⟨[]⟩ ⟨[p]⟩=>fG (Nat.beq f C.seq) (tY p)
 | _=>none
def UR:Option AO->Option (List ZB)
 | some (.row c _ m)=>fG (Nat.beq m 0) (some c)
 | _=>none
def CL (C:Cx) (vs:List ZB) (s:CS):VS :=
 (JT vs).bind fun v=>(Nc C v).bind fun (q,off)=>fG (Nat.beq off 0) ((UR (s.σ.get q)).bind fun l=>(JT l).bind fun m=>(KY m).bind fun b=>(s.σ.get b).bind (Ic s))
def P5 (vs:List ZB):Option ZB :=
 match vs with
 | [.int .i64 (.ofNat a),.int .i64 (.ofNat b)]=>some (.int .i64 (.ofNat (Nat.min a b)))
 | _=>none
def Lg (vs:List ZB):Option ZB :=
 match vs with
 | [.string x,.int .u8 n]=>some (.int .i64 (Lib.indexByte x.data.toList n.toNat.toUInt8))
 | _=>none
abbrev fV:=FuncId->List ZB->CS->VS
def val (s:CS) (v:Option ZB):VS:=v.bind fun v=>some (v,s)
def done (r:Option CS):VS:=r.bind fun s=>some (undef,s)
def Mf (C:Cx) (e:Ev) (s:CS) (c a b:Operand):VS :=
 (j4 C e c).bind fun v=>match v with
 | .bool true=>val s (j4 C e a)
 | .bool false=>val s (j4 C e b)
 | _=>none
def Cm (s:CS) (t:TypeId) (l:List ZB):VS:=(yj s (.row l t 0)).bind fun s'=>some (.pointer (some ⟨s.nx,0,none⟩),s')
def V6 (C:Cx) (e:Ev) (s:CS) (t:TypeId) (x:Operand):VS:=(j4 C e x).bind fun v=>(cB C.P t).bind fun g=>(uW g v).bind fun l=>Cm s t l
def Vf (ps:Array (Nat × Operand)) (vs:List ZB):List (Nat × ZB):=(ps.toList.map (·.1)).zip vs
def RW (C:Cx) (e:Ev) (s:CS) (t:TypeId) (ps:Array (Nat × Operand)):VS:=(zm C e (ps.toList.map (·.2))).bind fun vs=>val s (Gl C.P t (Vf ps vs))
def OZ (C:Cx) (e:Ev) (s:CS) (t:TypeId) (n:Nat) (ps:Array (Nat × Operand)):VS:=(zm C e (ps.toList.map (·.2))).bind fun vs=>Lq C.P t n (Vf ps vs) s
def Ug (C:Cx) (e:Ev) (s:CS) (t:TypeId) (x:Operand):VS:=(j4 C e x).bind fun v=>(A' C t v s).bind fun (_,_,_,v)=>some (v,s)
def Th (C:Cx) (e:Ev) (s:CS) (t:TypeId) (x y:Operand):VS:=(j4 C e x).bind fun p=>(j4 C e y).bind fun v=>done (FZ C.P t p v s)
def notNil:ZB->Option ZB
 | .pointer (some a)=>some (.pointer (some a))
 | _=>none
def V' (C:Cx) (e:Ev) (s:CS) (x:Operand):VS:=(j4 C e x).bind fun v=>val s (notNil v)
def VP (C:Cx) (e:Ev) (s:CS) (op:BinOp) (t:TypeId) (x y:Operand):VS:=(j4 C e x).bind fun a=>(j4 C e y).bind fun b=>val s (Tj C.P op t x y a b)
def WY (C:Cx) (e:Ev) (s:CS) (op:UnOp) (x:Operand):VS:=(j4 C e x).bind fun a=>val s (V4 op a)
def T1 (C:Cx) (e:Ev) (s:CS) (a d:TypeId) (x:Operand):VS:=(j4 C e x).bind fun v=>val s (KP C.P a d v)
def Uk (C:Cx) (e:Ev) (s:CS) (f:FuncId) (fi ca:Array Operand):VS:=(zm C e fi.toList).bind fun fi=>(zm C e ca.toList).bind fun ca=>some (.func (.func f) ⟨fi⟩ ⟨ca⟩,s)
def Uz (C:Cx) (e:Ev) (s:CS) (t:TypeId) (l c:Operand):VS:=(j4 C e l).bind fun l=>(j4 C e c).bind fun c=>y6 C.P t l c s
def Vq (C:Cx) (e:Ev) (s:CS) (t:TypeId) (m x:Operand) (ok:Bool):VS:=(j4 C e m).bind fun m=>(j4 C e x).bind fun x=>val s (LA C t m x ok s)
def VL (C:Cx) (e:Ev) (s:CS) (t:TypeId) (m x v:Operand):VS:=(j4 C e m).bind fun m=>(j4 C e x).bind fun x=>(j4 C e v).bind fun v=>done (TE C t m x v s)
def Sk (C:Cx) (e:Ev) (s:CS) (t:TypeId) (x:Operand) (lo hi mx:Option Operand):VS :=
 (j4 C e x).bind fun a=>(zm C e (lo.toList++hi.toList++mx.toList)).bind fun vs=>val s (VQ C.P t lo hi mx a vs)
def ON (C:Cx) (e:Ev) (s:CS) (t:TypeId) (x:Operand) (f:Nat):VS:=(j4 C e x).bind fun v=>val s (C7 C.P t f v)
def Tz (C:Cx) (e:Ev) (s:CS) (t:TypeId) (x:Operand) (f:Nat):VS:=(j4 C e x).bind fun v=>(zL v).bind fun cs=>(Ig C.P t f).bind fun fd=>val s (KE C.P fd.type fd.offset cs)
def UI (C:Cx) (e:Ev) (s:CS) (t:TypeId) (x i:Operand):VS:=(j4 C e x).bind fun v=>(j4 C e i).bind fun i=>val s (N0 C.P t v i)
def Wd (C:Cx) (e:Ev) (s:CS) (t:TypeId) (x i:Operand):VS:=(j4 C e x).bind fun v=>(j4 C e i).bind fun i=>val s (To C.P t v i)
def Uj (C:Cx) (e:Ev) (s:CS) (x:Operand) (i:Nat):VS:=(j4 C e x).bind fun v=>(Mu v).bind fun vs=>val s vs[i]?
def zK (P:Program) (t:TypeId) (r:VS):VS:=r.bind fun (v,s)=>fG (GJ (kI P t) v) (some (v,s))
def GF (C:Cx) (call:fV) (t:TypeId) (s:CS) (f:FuncId) (vs:List ZB):VS :=
 match fF C.P f with
 | true=>zK C.P t (match Nat.beq f C.Re with
  | true=>CL C vs s
  | false=>call f vs s)
 | false=>fG (Nat.beq f C.idx) (zK C.P t (val s (Lg vs)))
def Mx (C:Cx) (call:fV) (t:TypeId) (s:CS) (g:ZB) (vs:List ZB):VS :=
 match g with
 | .func (.func f) ⟨fi⟩ ⟨ca⟩=>fG (fF C.P f) (zK C.P t (call f (fi++vs++ca) s))
 | _=>none
def Rx (P:Program) (t:TypeId) (v:ZB):Option ZB:=fG (Cg (cz P t) v) (some v)
def yY (C:Cx) (b:Builtin) (t:TypeId) (c:Call) (vs:List ZB) (s:CS):VS :=
 match b with
 | .len=>(JT vs).bind fun v=>val s (RU s ((c.argTypes[0]?).bind C.P.underlying) v)
 | .append=>CX C c.argTypes.toList vs s
 | .min=>val s ((P5 vs).bind (Rx C.P t))
 | _=>none
def N6 (C:Cx) (call:fV) (e:Ev) (s:CS) (t:TypeId) (c:Call):VS :=
 (zm C e c.args.toList).bind fun vs=>match c.callee with
 | .builtin b=>yY C b t c vs s
 | .value (.func f)=>GF C call t s f vs
 | .value (.tmp g)=>(e.get g).bind fun g=>Mx C call t s g vs
 | _=>none
def TO (C:Cx) (call:fV) (o:Oper) (e:Ev) (s:CS):VS :=
 match o.op with
 | .move x=>val s (j4 C e x)
 | .assign x=>val s (j4 C e x)
 | .pick c a b=>Mf C e s c a b
 | .alloc t=>(zeroOf C.P t).bind (Cm s t)
 | .box t x=>V6 C e s t x
 | .build t ps=>RW C e s t ps
 | .buildSlice t n ps=>OZ C e s t n ps
 | .load t x=>Ug C e s t x
 | .store t x y=>Th C e s t x y
 | .nilCheck x=>V' C e s x
 | .binOp op t x y _=>VP C e s op t x y
 | .unOp op _ x=>WY C e s op x
 | .convert a d x=>T1 C e s a d x
 | .makeFunc (.func f) fi ca=>Uk C e s f fi ca
 | .makeMap t none=>GG C t s
 | .makeSlice t l c=>Uz C e s t l c
 | .lookup t m x ok=>Vq C e s t m x ok
 | .mapUpdate t m x v=>VL C e s t m x v
 | .slice t x lo hi mx=>Sk C e s t x lo hi mx
 | .fieldAddr t x f=>ON C e s t x f
 | .field t x f=>Tz C e s t x f
 | .indexAddr t x i=>UI C e s t x i
 | .index t x i=>Wd C e s t x i
 | .extract x i=>Uj C e s x i
 | .call c=>N6 C call e s o.type c
 | _=>none
def Rf (want:Bool):ZB->Option Bool
 | .bool b=>some (b==want)
 | .tuple _=>some false
 | _=>none
def BI (ops:Array Oper) (o:Oper) (e:Ev):Option Bool :=
 match guardOf ops o with
 | none=>some true
 | some (none,_)=>some false
 | some (some d,want)=>(e.get d).bind (Rf want)
def forced {α:Type} (v:ZB) (k:ZB->α):α :=
 match v with
 | .int kd n=>match n with
  | .ofNat m=>match m with
   | 0=>k (.int kd (.ofNat 0))
   | m+1=>k (.int kd (.ofNat (m+1)))
  | .negSucc m=>k (.int kd (.negSucc m))
 | .bool b=>match b with
  | true=>k (.bool true)
  | false=>k (.bool false)
 | v=>k v
def Cp (n:Nat) (e:Ev) (dst:Option Tmp) (v:ZB):Ev :=
 match dst with
 | none=>e
 | some d=>match Nat.blt d n with
  | true=>forced v (e.put d)
  | false=>e
abbrev ES:=Option (Ev × CS)
def WS (n:Nat) (e:Ev) (dst:Option Tmp) (r:VS) (k:Ev->CS->ES):ES:=r.bind fun (v,s)=>k (Cp n e dst v) s
def Pg (C:Cx) (call:fV) (n:Nat) (ops:Array Oper):List Oper->Ev->CS->ES
 | [],e,s=>some (e,s)
 | o::rest,e,s=>(BI ops o e).bind fun w=>match w with
  | true=>WS n e o.dst (TO C call o e s) (Pg C call n ops rest)
  | false=>Pg C call n ops rest (Cp n e o.dst undef) s
end
end Go.Sx.Cr
