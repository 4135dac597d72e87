/- Closed runs, part W: what an operation comes to over a store. No condition. -/
import Derived.Test.YtlpcncdglfjnoaaGreatDoorSxV
set_option linter.all false
set_option maxHeartbeats 4000000
namespace Go.Sx.Cr
noncomputable section
abbrev Ev:=dB ZB
structure CS where
 σ:dB AO
 nx:Nat
abbrev VS:=Option (ZB × CS)
def fw {α:Type} (b:Bool) (k:Option α):Option α :=
 match b with
 | true=>k
 | false=>none
theorem bj {α:Type} {b:Bool} {k:Option α} {x:α}:fw b k=some x↔b=true/\k=some x:=by
 cases b <;> simp [fw]
def D6 (v:ZB):Option ZB:=fw (fk 9 v) (some v)
def Rt (C:Cx) (g:Nat):Option ZB:=fw (Nat.blt g C.ng) (some (.pointer (some ⟨g,0,none⟩)))
def jQ (C:Cx) (e:Ev):Operand->Option ZB
 | .tmp t=>e.get t
 | .const v=>D6 v
 | .func f=>some (.func (.func f) #[] #[])
 | .global g=>Rt C g
def yv (C:Cx) (e:Ev):List Operand->Option (List ZB)
 | []=>some []
 | x::xs=>(jQ C e x).bind fun v=>(yv C e xs).bind fun l=>some (v::l)
def Nj (op:BinOp) (k:IntKind) (m n:Int):Option ZB :=
 match op with
 | .add=>some (.int k (k.wrap (m+n)))
 | .sub=>some (.int k (k.wrap (m-n)))
 | .mul=>some (.int k (k.wrap (m*n)))
 | .quo=>fw (!decide (n=0)) (some (.int k (k.wrap (m.tdiv n))))
 | .rem=>fw (!decide (n=0)) (some (.int k (m.tmod n)))
 | .eql=>some (.bool (m==n))
 | .neq=>some (.bool (m != n))
 | .lss=>some (.bool (decide (m<n)))
 | .leq=>some (.bool (decide (m<=n)))
 | .gtr=>some (.bool (decide (m>n)))
 | .geq=>some (.bool (decide (m>=n)))
 | _=>none
def MH (op:BinOp) (x y:ZA):Option ZB :=
 match op with
 | .add=>fw (decide (((x.size+y.size:Nat):Int)<=IntKind.i64.max)) (some (.string (x++y)))
 | .eql=>some (.bool (x.data.toList==y.data.toList))
 | .neq=>some (.bool !(x.data.toList==y.data.toList))
 | .lss=>some (.bool (Op.bytesLess x.data.toList y.data.toList))
 | .leq=>some (.bool (Op.bytesLess x.data.toList y.data.toList || x.data.toList==y.data.toList))
 | .gtr=>some (.bool !(Op.bytesLess x.data.toList y.data.toList || x.data.toList==y.data.toList))
 | .geq=>some (.bool !(Op.bytesLess x.data.toList y.data.toList))
 | _=>none
def oJ (op:BinOp) (b:Bool):Option ZB :=
 match op with
 | .eql=>some (.bool b)
 | .neq=>some (.bool !b)
 | _=>none
def NJ:Option TypeDesc->Bool
 | some (.pointer _)=>true
 | _=>false
def H4:Option TypeDesc->Bool
 | some (.slice _)=>true
 | _=>false
def Hz:Option TypeDesc->Bool
 | some .bool=>true
 | _=>false
def vZ:Option TypeDesc->Bool
 | some .string=>true
 | _=>false
def Me (P:Program) (op:BinOp) (t:TypeId) (a b:ZB):Option ZB :=
 match a,b with
 | .int k m,.int k' n=>fw (!lZ op && decide (k=k')) (Nj op k m n)
 | .string m,.string n=>MH op m n
 | .bool m,.bool n=>fw (Hz (P.underlying t)) (oJ op (m==n))
 | .pointer p,.pointer _=>fw (NJ (P.underlying t)) (oJ op p.isNone)
 | .slice p _ _,.slice _ _ _=>fw (H4 (P.underlying t)) (oJ op p.isNone)
 | _,_=>none
def oc (a b:ZA):Bool:=a.data.toList==b.data.toList
def Ck:ZB->ZB->Bool
 | .int _ a,.int _ b=>a==b
 | .string a,.string b=>oc a b
 | .bool a,.bool b=>a==b
 | _,_=>false
def R0 (P:Program) (op:BinOp) (t:TypeId) (a b:ZB):Option ZB :=
 match a,b,P.underlying t with
 | .agg xs,.agg ys,some (.struct fs) =>
  fw (!(P.stoodInHeld t) && !(P.eqGuardType P.depth t) && fs.all (okF P xs ys)) (oJ op (fs.all fun f=>Ck (xs[f.offset]?.getD .nilIface) (ys[f.offset]?.getD .nilIface)))
 | _,_,_=>none
def Sy (P:Program) (op:BinOp) (t:TypeId) (x y:Operand) (a b:ZB):Option ZB :=
 match qZ P t x y with
 | true=>Me P op t a b
 | false=>R0 P op t a b
def Vs (op:UnOp) (a:ZB):Option ZB :=
 match op,a with
 | .neg,.int k n=>some (.int k (k.wrap (0-n)))
 | .not,.bool b=>some (.bool !b)
 | _,_=>none
def Ko (P:Program) (s d:TypeId) (a:ZB):Option ZB :=
 match P.underlying s,P.underlying d,a with
 | some (.int _),some (.int k),.int _ n=>some (.int k (k.wrap n))
 | some .string,some .string,.string x=>some (.string x)
 | _,_,_=>none
def tX:TypeDesc->ZB->Bool
 | .bool,.bool _=>true
 | .bool,_=>false
 | .int k,.int k' _=>decide (k=k')
 | .int _,_=>false
 | .string,.string _=>true
 | .string,_=>false
 | .pointer _,.pointer _=>true
 | .pointer _,_=>false
 | .slice _,.slice _ _ _=>true
 | .slice _,_=>false
 | .map _ _,.map _=>true
 | .map _ _,_=>false
 | _,_=>true
def fits:List TypeDesc->List ZB->Bool
 | [],[]=>true
 | d::ds,v::vs=>tX d v && fits ds vs
 | _,_=>false
def yH:ZB->Option (List ZB)
 | .agg ⟨l⟩=>some l
 | _=>none
def CH (c:fq) (v:ZB):Bool :=
 match c with
 | (true,ds)=>(yH v).elim false (fits ds)
 | (false,ds)=>fits ds [v]
def zq:List fq->List ZB->Bool
 | [],[]=>true
 | c::cs,v::vs=>CH c v && zq cs vs
 | _,_=>false
def KQ:ZB->Option (List ZB)
 | .tuple ⟨l⟩=>some l
 | _=>none
def Gi (q:Bool × List fq) (v:ZB):Bool :=
 match q with
 | (true,cs)=>(KQ v).elim false (zq cs)
 | (false,cs)=>zq cs [v]
def Lf (C:Cx) (b off n:Nat):Option AO->Option (List ZB)
 | some (.row c _ _)=>zJ off n c
 | some .gone=>(C.ro b).bind fun c=>zJ off n c
 | _=>none
def cells (C:Cx) (s:CS) (b off n:Nat):Option (List ZB):=Lf C b off n (s.σ.get b)
def tY:ZB->Option (Nat × Nat)
 | .pointer (some ⟨b,off,none⟩)=>some (b,off)
 | _=>none
abbrev Ld:=Option (Nat × Nat × List ZB × ZB)
def Rx (C:Cx) (t:TypeId) (b off:Nat) (s:CS):Ld :=
 fw (Nat.beq (eQ C.P 9 t).length (C.P.cellsOf t)) ((cells C s b off (eQ C.P 9 t).length).bind fun vs=>fw (fits (eQ C.P 9 t) vs) (some (b,off,vs,.agg ⟨vs⟩)))
def Rj (C:Cx) (t:TypeId) (b off:Nat) (s:CS):Ld :=
 (cells C s b off 1).bind fun vs=>fw (fits (ct C.P t).2 vs) (some (b,off,vs,vs.headD undef))
def AW (C:Cx) (t:TypeId) (v:ZB) (s:CS):Ld :=
 (tY v).bind fun (b,off)=>(cv C.P t).bind fun g=>match g with
  | true=>Rx C t b off s
  | false=>Rj C t b off s
def xT (s:CS) (o:AO):Option CS :=
 match s.σ.get s.nx with
 | none=>some ⟨s.σ.put s.nx o,s.nx+1⟩
 | some _=>none
def O2 (s:CS) (b off:Nat) (vs:List ZB):Option CS :=
 match s.σ.get b with
 | some (.row c e m)=>fw (!Nat.beq m 2 && vs.all cP && Nat.ble 1 vs.length && Nat.ble (off+vs.length) c.length) (some ⟨s.σ.put b (.row (kM c off vs) e m),s.nx⟩)
 | _=>none
def uc (g:Bool) (v:ZB):Option (List ZB) :=
 match g with
 | true=>yH v
 | false=>fw (!eM v) (some [v])
def FQ (P:Program) (t:TypeId) (p v:ZB) (s:CS):Option CS :=
 (tY p).bind fun (b,off)=>(cv P t).bind fun g=>(uc g v).bind fun l=>fw (Nat.beq l.length (P.cellsOf t)) (O2 s b off l)
def CB (agg:Nat->Option Bool):List (Nat × ZB)->Option (List (Nat × List ZB))
 | []=>some []
 | (i,v)::l=>(agg i).bind fun g=>(uc g v).bind fun c=>(CB agg l).bind fun r=>some ((i,c)::r)
def zeroOf (P:Program) (t:TypeId):Option (List ZB) :=
 ((P.info? t).bind (·.zero)).bind fun z=>fw (z.cells.toList.all (fk 9)) (some z.cells.toList)
def Ib (P:Program) (fs:Array Field) (z:List ZB) (ps:List (Nat × ZB)):Option ZB :=
 fw (fs.all fun f=>mz P f.type) ((CB (fun i=>(fs[i]?).bind fun f=>cv P f.type) ps).bind fun ls=>(ff (((fs.map fun f=>(f.offset,P.cellsOf f.type)))[·]?) z ls).bind fun cs=>some (.agg ⟨cs⟩))
def HF (P:Program) (el:TypeId) (z:List ZB) (ps:List (Nat × ZB)):Option ZB :=
 fw (mz P el) ((CB (fun _=>cv P el) ps).bind fun ls=>(ff (fun i=>some (i*P.cellsOf el,P.cellsOf el)) z ls).bind fun cs=>some (.agg ⟨cs⟩))
def He (P:Program) (t:TypeId) (ps:List (Nat × ZB)):Option ZB :=
 (zeroOf P t).bind fun z=>match P.underlying t with
  | some (.struct fs)=>Ib P fs z ps
  | some (.array _ el)=>HF P el z ps
  | _=>none
structure El where
 e:TypeId
 sz:Nat
 by_:Nat
 z:List ZB
def LD (P:Program) (e:TypeId):Option El :=
 (P.info? e).bind fun i=>i.zero.bind fun z=>fw (z.cells.toList.all (fk 9) && Nat.beq z.cells.size i.size && Nat.ble 1 i.size) (some ⟨e,i.size,i.bytes,z.cells.toList⟩)
def elemOf:Option TypeDesc->Option TypeId
 | some (.slice e)=>some e
 | _=>none
def Mw (P:Program) (t:TypeId):Option El:=(elemOf (P.underlying t)).bind (LD P)
def Bv:List (Nat × ZB)->List (Nat × List ZB)
 | []=>[]
 | (i,v)::l=>(i,match yH v with
  | some c=>c
  | none=>[v])::Bv l
def GF (sz:Nat):Nat->List (Nat × List ZB)->Option (List ZB)
 | _,[]=>some []
 | i,(k,c)::l=>fw (Nat.beq k i && Nat.beq c.length sz) ((GF sz (i+1) l).bind fun r=>some (c++r))
def Kp (q:El) (n:Nat) (ps:List (Nat × List ZB)):Option (List ZB):=fw (Nat.beq ps.length n) (GF q.sz 0 ps)
def Fp (s:CS) (c:List ZB) (e:TypeId) (m l cap:Nat):VS :=
 (xT s (.row c e m)).bind fun s'=>some (.slice (some ⟨s.nx,0,none⟩) l cap,s')
def Lz (P:Program) (t:TypeId) (n:Nat) (ps:List (Nat × ZB)) (s:CS):VS :=
 (Mw P t).bind fun q=>fw (Nat.ble (n*q.sz) 16777216) ((Kp q n (Bv ps)).bind fun cs=>Fp s cs q.e 0 n n)
def Gk (C:Cx) (sz:Nat) (x:ZB) (s:CS):Option (List ZB) :=
 match x with
 | .slice q m _=>match m with
  | 0=>some []
  | m+1=>(tY (.pointer q)).bind fun (b,off)=>cells C s b off ((m+1)*sz)
 | _=>none
def Db (q:El) (po l c:Nat):Option AO->Option (List ZB)
 | some (.row cs e' m')=>fw (Nat.beq m' 1 && Nat.beq q.e e' && Nat.ble c pH && Nat.beq po ((pH-c)*q.sz) && Nat.ble (po+l*q.sz) cs.length) (some cs)
 | _=>none
def Hl (s:CS) (q:El) (pb po l c m:Nat) (ys:List ZB):VS :=
 (Db q po l c (s.σ.get pb)).bind fun cs=>fw (Nat.beq cs.length (po+l*q.sz))
   (match s.σ.get s.nx with
   | none=>some (.slice (some ⟨s.nx,0,none⟩) (l+m) pH,⟨(s.σ.put pb .gone).put s.nx (.row (cs.drop po++ys) q.e 1),s.nx+1⟩)
   | some _=>none)
def M4 (C:Cx) (s:CS) (q:El) (pb po l c m:Nat) (ys:List ZB):VS :=
 match Nat.ble (l+m) c with
 | true=>(O2 s pb (po+l*q.sz) ys).bind fun s=>some (.slice (some ⟨pb,po,none⟩) (l+m) c,s)
 | false=>(cells C s pb po (l*q.sz)).bind fun old=>Fp s (old++ys) q.e 1 (l+m) pH
def Ro (C:Cx) (s:CS) (q:El) (pb po l c m:Nat) (ys:List ZB):VS :=
 match Nat.blt c half with
 | true=>M4 C s q pb po l c m ys
 | false=>Hl s q pb po l c m ys
def Ry (C:Cx) (s:CS) (q:El) (p:Option ZC) (l c m:Nat) (ys:List ZB):VS :=
 match p with
 | none=>fw (Nat.beq l 0 && Nat.beq c 0) (Fp s ys q.e 1 m pH)
 | some a=>(tY (.pointer (some a))).bind fun (b,off)=>Ro C s q b off l c m ys
def R8 (C:Cx) (q:El) (a x:ZB) (s:CS) (ys:List ZB):VS :=
 match a,x with
 | .slice p l c,.slice _ m _=>fw (Nat.ble ((2*(l+m)+1024)*q.by_) 281474976710656 && Nat.ble (l+m) 281474976710656 && ys.all cP)
   (match m with
   | 0=>some (.slice p l c,s)
   | _+1=>Ry C s q p l c m ys)
 | _,_=>none
def Cm (C:Cx) (ts:List TypeId) (vs:List ZB) (s:CS):VS :=
 match ts,vs with
 | [t,t'],[a,x]=>fw (H4 (C.P.underlying t')) ((Mw C.P t).bind fun q=>(Gk C q.sz x s).bind fun ys=>R8 C q a x s ys)
 | _,_=>none
def U1:AO->Option Nat
 | .wo D=>some D.length
 | .xW D=>some D.length
 | .yd D=>some D.length
 | _=>none
def RS (s:CS) (D:Option TypeDesc) (v:ZB):Option ZB :=
 match D with
 | some .string=>(match v with
  | .string s=>some (.int .i64 s.size)
  | _=>none)
 | some (.slice _)=>(match v with
  | .slice _ n _=>some (.int .i64 n)
  | _=>none)
 | some (.map _ _)=>(match v with
  | .map (some b)=>((s.σ.get b).bind U1).bind fun n=>some (.int .i64 n)
  | _=>none)
 | _=>none
def IV:List ZB->Option ZB
 | [v]=>some v
 | _=>none
def T5 (x:ZA) (lo hi:Option ZB):Option ZB :=
 fw (decide (0<=jR lo/\jR lo<=jU x.size hi/\jU x.size hi<=x.size)) (some (.string (x.extract (jR lo).toNat (jU x.size hi).toNat)))
def VL (P:Program) (e:TypeId) (b off len cap:Nat) (lo hi:Option ZB):Option ZB :=
 fw (mz P e && decide (0<=jR lo/\jR lo<=jU len hi/\jU len hi<=len/\jR lo<len) && (Nat.blt cap half || Nat.ble half (cap-(jR lo).toNat))) (some (.slice (some ⟨b,off+(jR lo).toNat*P.cellsOf e,none⟩) ((jU len hi).toNat-(jR lo).toNat) (cap-(jR lo).toNat)))
def rj (P:Program) (t:TypeId) (a:ZB) (lo hi:Option ZB):Option ZB :=
 fw (eb lo && eb hi) (match P.underlying t with
  | some .string=>(match a with
   | .string x=>T5 x lo hi
   | _=>none)
  | some (.slice e)=>(match a with
   | .slice (some ⟨b,off,none⟩) len cap=>VL P e b off len cap lo hi
   | _=>none)
  | _=>none)
def VX (P:Program) (t:TypeId) (lo hi mx:Option Operand) (a:ZB) (vs:List ZB):Option ZB :=
 match mx,lo,hi,vs with
 | none,none,none,[]=>rj P t a none none
 | none,some _,none,[l]=>rj P t a (some l) none
 | none,none,some _,[h]=>rj P t a none (some h)
 | none,some _,some _,[l,h]=>rj P t a (some l) (some h)
 | _,_,_,_=>none
def atIdx (P:Program) (b off len:Nat) (el:TypeId) (n:Int):Option ZB :=
 fw (mz P el && decide (0<=n/\n<len)) (some (.pointer (some ⟨b,off+n.toNat*P.cellsOf el,none⟩)))
def intOf:ZB->Option Int
 | .int _ n=>some n
 | _=>none
def Ll (P:Program) (t:TypeId) (v i:ZB):Option ZB :=
 (intOf i).bind fun n=>match P.underlying t with
 | some (.slice el)=>(match v with
  | .slice (some ⟨b,off,none⟩) len _=>atIdx P b off len el n
  | _=>none)
 | some (.array len el)=>(tY v).bind fun (b,off)=>atIdx P b off len el n
 | _=>none
def Tj (P:Program) (t:TypeId) (v i:ZB):Option ZB :=
 (intOf i).bind fun n=>match v with
 | .string s=>fw (vZ (P.underlying t) && decide (0<=n/\n<s.size)) (some (.int .u8 (cK s n)))
 | _=>none
def KG (P:Program) (t:TypeId) (off:Nat) (cs:List ZB):Option ZB :=
 (cv P t).bind fun g=>match g with
 | true=>some (.agg ⟨(cs.drop off).take (P.cellsOf t)⟩)
 | false=>cs[off]?
def H5 (P:Program) (t:TypeId) (f:Nat):Option Field :=
 match P.underlying t with
 | some (.struct fs)=>fs[f]?
 | _=>none
def Ct (P:Program) (t:TypeId) (f:Nat) (v:ZB):Option ZB :=
 (tY v).bind fun (b,off)=>(H5 P t f).bind fun fd=>fw (Nat.ble 1 (P.cellsOf fd.type)) (some (.pointer (some ⟨b,off+fd.offset,none⟩)))
def uh (a b:Nat × ZA):Bool:=Nat.beq a.1 b.1 && oc a.2 b.2
def oX (a b:Nat × Nat):Bool:=Nat.beq a.1 b.1 && Nat.beq a.2 b.2
def j9 {α:Type} (q:α->α->Bool) (s:α):List (α × ZB)->Option ZB
 | []=>none
 | p::D=>match q s p.1 with
  | true=>some p.2
  | false=>j9 q s D
def xZ {α:Type} (q:α->α->Bool) (s:α) (v:ZB):List (α × ZB)->List (α × ZB)
 | []=>[(s,v)]
 | p::D=>match q s p.1 with
  | true=>(p.1,v)::D
  | false=>p::xZ q s v D
def KZ:Option TypeDesc->Option (TypeId × TypeId)
 | some (.map k e)=>some (k,e)
 | _=>none
def OQ:ZB->Option (Nat × ZA)
 | .agg ⟨[.int .i64 (.ofNat n),.string y]⟩=>some (n,y)
 | _=>none
def Ox:ZB->Option (Nat × Nat)
 | .agg ⟨[.int .i64 (.ofNat n),.int .i64 (.ofNat m)]⟩=>some (n,m)
 | _=>none
def TP (C:Cx) (k:TypeId):Bool:=Nat.beq k C.kt || Nat.beq k C.ku
def TT (C:Cx) (k:TypeId):Bool:=Nat.blt 0 C.ki && Nat.beq k C.ki
def Ks:ZB->Option ZA
 | .string y=>some y
 | _=>none
def Wz (y:ZA):AO->Option (Option ZB)
 | .wo D=>some (j9 oc y D)
 | _=>none
def WE (y:Nat × ZA):AO->Option (Option ZB)
 | .xW D=>some (j9 uh y D)
 | _=>none
def WD (y:Nat × Nat):AO->Option (Option ZB)
 | .yd D=>some (j9 oX y D)
 | _=>none
def T8 (x:ZB) (s:CS):ZB->Option (Option ZB)
 | .map (some b)=>(Ox x).bind fun y=>(s.σ.get b).bind (WD y)
 | _=>none
def U4 (x:ZB) (s:CS):ZB->Option (Option ZB)
 | .map (some b)=>(OQ x).bind fun y=>(s.σ.get b).bind (WE y)
 | _=>none
def Un (x:ZB) (s:CS):ZB->Option (Option ZB)
 | .map none=>(Ks x).bind fun _=>some none
 | .map (some b)=>(Ks x).bind fun y=>(s.σ.get b).bind (Wz y)
 | _=>none
def No (C:Cx) (k:TypeId) (m x:ZB) (s:CS):Option (Option ZB) :=
 match TP C k with
 | true=>U4 x s m
 | false=>match TT C k with
  | true=>T8 x s m
  | false=>fw (vZ (C.P.underlying k)) (Un x s m)
def Mz (P:Program) (el:TypeId):Option ZB:=((P.info? el).bind (·.zero)).bind D6
def RE (ok:Bool) (z:ZB) (r:Option ZB):ZB :=
 match ok with
 | true=>.tuple ⟨[r.getD z,.bool r.isSome]⟩
 | false=>r.getD z
def Kx (C:Cx) (t:TypeId) (m x:ZB) (ok:Bool) (s:CS):Option ZB :=
 (KZ (C.P.underlying t)).bind fun (k,el)=>(Mz C.P el).bind fun z=>(No C k m x s).bind fun r=>fw (CH (ct C.P el) (r.getD z)) (some (RE ok z r))
def Lr (C:Cx) (k:TypeId) (b:Nat) (x v:ZB) (s:CS):AO->Option CS
 | .wo D=>fw (vZ (C.P.underlying k)) ((Ks x).bind fun y=>fw (Nat.ble y.size maxLen) (some ⟨s.σ.put b (.wo (xZ oc y v D)),s.nx⟩))
 | .xW D=>fw (TP C k) ((OQ x).bind fun y=>some ⟨s.σ.put b (.xW (xZ uh y v D)),s.nx⟩)
 | .yd D=>fw (TT C k) ((Ox x).bind fun y=>some ⟨s.σ.put b (.yd (xZ oX y v D)),s.nx⟩)
 | _=>none
def S9 (C:Cx) (t:TypeId) (m x v:ZB) (s:CS):Option CS :=
 match m with
 | .map (some b)=>(KZ (C.P.underlying t)).bind fun (k,_)=>(s.σ.get b).bind fun o=>Lr C k b x v s o
 | _=>none
def Gl (C:Cx) (t:TypeId) (s:CS):VS :=
 (KZ (C.P.underlying t)).bind fun q=>match TP C q.1 with
 | true=>(xT s (.xW [])).bind fun s'=>some (.map (some s.nx),s')
 | false=>match TT C q.1 with
  | true=>(xT s (.yd [])).bind fun s'=>some (.map (some s.nx),s')
  | false=>fw (vZ (C.P.underlying q.1)) ((xT s (.wo [])).bind fun s'=>some (.map (some s.nx),s'))
def Ie:ZB->Option Nat
 | .int _ (.ofNat n)=>some n
 | _=>none
def zj (P:Program) (t:TypeId) (l c:ZB) (s:CS):VS :=
 (Ie l).bind fun l=>(Ie c).bind fun c=>(Mw P t).bind fun q=>fw (Nat.ble l c && Nat.ble (c*q.by_) 16777216 && Nat.ble c 16777216) (Fp s (List.replicate c q.z).flatten q.e 0 l c)
def B9 (x:ZA):List ZA->List ZA
 | []=>[x]
 | y::l=>match Op.bytesLess x.data.toList y.data.toList with
  | true=>x::y::l
  | false=>y::B9 x l
def qW:List ZA->List ZA
 | []=>[]
 | x::l=>B9 x (qW l)
def K8 (D:List (ZA × ZB)) (s:CS):VS :=
 match D with
 | []=>some (.slice none 0 0,s)
 | _::_=>Fp s ((qW (D.map (·.1))).map .string) 9 1 D.length pH
def HV (s:CS):AO->VS
 | .wo D=>fw (Nat.ble D.length 1024) (K8 D s)
 | _=>none
def Li:ZB->Option Nat
 | .map (some b)=>some b
 | _=>none
def NT (C:Cx):ZB->Option (Nat × Nat)
 | .func (.func f) ⟨[]⟩ ⟨[p]⟩=>fw (Nat.beq f C.seq) (tY p)
 | _=>none
def Vc:Option AO->Option (List ZB)
 | some (.row c _ m)=>fw (Nat.beq m 0) (some c)
 | _=>none
def CU (C:Cx) (vs:List ZB) (s:CS):VS :=
 (IV vs).bind fun v=>(NT C v).bind fun (q,off)=>fw (Nat.beq off 0) ((Vc (s.σ.get q)).bind fun l=>(IV l).bind fun m=>(Li m).bind fun b=>(s.σ.get b).bind (HV s))
def O3 (vs:List ZB):Option ZB :=
 match vs with
 | [.int .i64 (.ofNat a),.int .i64 (.ofNat b)]=>some (.int .i64 (.ofNat (Nat.min a b)))
 | _=>none
def Nz (vs:List ZB):Option ZB :=
 match vs with
 | [.string x,.int .u8 n]=>some (.int .i64 (Lib.indexByte x.data.toList n.toNat.toUInt8))
 | _=>none
abbrev fL:=FuncId->List ZB->CS->VS
def val (s:CS) (v:Option ZB):VS:=v.bind fun v=>some (v,s)
def done (r:Option CS):VS:=r.bind fun s=>some (undef,s)
def L7 (C:Cx) (e:Ev) (s:CS) (c a b:Operand):VS :=
 (jQ C e c).bind fun v=>match v with
 | .bool true=>val s (jQ C e a)
 | .bool false=>val s (jQ C e b)
 | _=>none
def CF (s:CS) (t:TypeId) (l:List ZB):VS:=(xT s (.row l t 0)).bind fun s'=>some (.pointer (some ⟨s.nx,0,none⟩),s')
def VP (C:Cx) (e:Ev) (s:CS) (t:TypeId) (x:Operand):VS:=(jQ C e x).bind fun v=>(cv C.P t).bind fun g=>(uc g v).bind fun l=>CF s t l
def Vj (ps:Array (Nat × Operand)) (vs:List ZB):List (Nat × ZB):=(ps.toList.map (·.1)).zip vs
def RX (C:Cx) (e:Ev) (s:CS) (t:TypeId) (ps:Array (Nat × Operand)):VS:=(yv C e (ps.toList.map (·.2))).bind fun vs=>val s (He C.P t (Vj ps vs))
def QC (C:Cx) (e:Ev) (s:CS) (t:TypeId) (n:Nat) (ps:Array (Nat × Operand)):VS:=(yv C e (ps.toList.map (·.2))).bind fun vs=>Lz C.P t n (Vj ps vs) s
def Vd (C:Cx) (e:Ev) (s:CS) (t:TypeId) (x:Operand):VS:=(jQ C e x).bind fun v=>(AW C t v s).bind fun (_,_,_,v)=>some (v,s)
def SP (C:Cx) (e:Ev) (s:CS) (t:TypeId) (x y:Operand):VS:=(jQ C e x).bind fun p=>(jQ C e y).bind fun v=>done (FQ C.P t p v s)
def notNil:ZB->Option ZB
 | .pointer (some a)=>some (.pointer (some a))
 | _=>none
def V5 (C:Cx) (e:Ev) (s:CS) (x:Operand):VS:=(jQ C e x).bind fun v=>val s (notNil v)
def V2 (C:Cx) (e:Ev) (s:CS) (op:BinOp) (t:TypeId) (x y:Operand):VS:=(jQ C e x).bind fun a=>(jQ C e y).bind fun b=>val s (Sy C.P op t x y a b)
def WA (C:Cx) (e:Ev) (s:CS) (op:UnOp) (x:Operand):VS:=(jQ C e x).bind fun a=>val s (Vs op a)
def Ut (C:Cx) (e:Ev) (s:CS) (a d:TypeId) (x:Operand):VS:=(jQ C e x).bind fun v=>val s (Ko C.P a d v)
def Uo (C:Cx) (e:Ev) (s:CS) (f:FuncId) (fi ca:Array Operand):VS:=(yv C e fi.toList).bind fun fi=>(yv C e ca.toList).bind fun ca=>some (.func (.func f) ⟨fi⟩ ⟨ca⟩,s)
def UT (C:Cx) (e:Ev) (s:CS) (t:TypeId) (l c:Operand):VS:=(jQ C e l).bind fun l=>(jQ C e c).bind fun c=>zj C.P t l c s
def UH (C:Cx) (e:Ev) (s:CS) (t:TypeId) (m x:Operand) (ok:Bool):VS:=(jQ C e m).bind fun m=>(jQ C e x).bind fun x=>val s (Kx C t m x ok s)
def VE (C:Cx) (e:Ev) (s:CS) (t:TypeId) (m x v:Operand):VS:=(jQ C e m).bind fun m=>(jQ C e x).bind fun x=>(jQ C e v).bind fun v=>done (S9 C t m x v s)
def Tf (C:Cx) (e:Ev) (s:CS) (t:TypeId) (x:Operand) (lo hi mx:Option Operand):VS :=
 (jQ C e x).bind fun a=>(yv C e (lo.toList++hi.toList++mx.toList)).bind fun vs=>val s (VX C.P t lo hi mx a vs)
def Qp (C:Cx) (e:Ev) (s:CS) (t:TypeId) (x:Operand) (f:Nat):VS:=(jQ C e x).bind fun v=>val s (Ct C.P t f v)
def Sh (C:Cx) (e:Ev) (s:CS) (t:TypeId) (x:Operand) (f:Nat):VS:=(jQ C e x).bind fun v=>(yH v).bind fun cs=>(H5 C.P t f).bind fun fd=>val s (KG C.P fd.type fd.offset cs)
def T9 (C:Cx) (e:Ev) (s:CS) (t:TypeId) (x i:Operand):VS:=(jQ C e x).bind fun v=>(jQ C e i).bind fun i=>val s (Ll C.P t v i)
def VF (C:Cx) (e:Ev) (s:CS) (t:TypeId) (x i:Operand):VS:=(jQ C e x).bind fun v=>(jQ C e i).bind fun i=>val s (Tj C.P t v i)
def Vi (C:Cx) (e:Ev) (s:CS) (x:Operand) (i:Nat):VS:=(jQ C e x).bind fun v=>(KQ v).bind fun vs=>val s vs[i]?
def zQ (P:Program) (t:TypeId) (r:VS):VS:=r.bind fun (v,s)=>fw (Gi (kq P t) v) (some (v,s))
def FZ (C:Cx) (call:fL) (t:TypeId) (s:CS) (f:FuncId) (vs:List ZB):VS :=
 match ft C.P f with
 | true=>zQ C.P t (match Nat.beq f C.RB with
  | true=>CU C vs s
  | false=>call f vs s)
 | false=>fw (Nat.beq f C.idx) (zQ C.P t (val s (Nz vs)))
def LH (C:Cx) (call:fL) (t:TypeId) (s:CS) (g:ZB) (vs:List ZB):VS :=
 match g with
 | .func (.func f) ⟨fi⟩ ⟨ca⟩=>fw (ft C.P f) (zQ C.P t (call f (fi++vs++ca) s))
 | _=>none
def Rn (P:Program) (t:TypeId) (v:ZB):Option ZB:=fw (CH (ct P t) v) (some v)
def Ae (C:Cx) (b:Builtin) (t:TypeId) (c:Call) (vs:List ZB) (s:CS):VS :=
 match b with
 | .len=>(IV vs).bind fun v=>val s (RS s ((c.argTypes[0]?).bind C.P.underlying) v)
 | .append=>Cm C c.argTypes.toList vs s
 | .min=>val s ((O3 vs).bind (Rn C.P t))
 | _=>none
def Kr (C:Cx) (call:fL) (e:Ev) (s:CS) (t:TypeId) (c:Call):VS :=
 (yv C e c.args.toList).bind fun vs=>match c.callee with
 | .builtin b=>Ae C b t c vs s
 | .value (.func f)=>FZ C call t s f vs
 | .value (.tmp g)=>(e.get g).bind fun g=>LH C call t s g vs
 | _=>none
def TI (C:Cx) (call:fL) (o:Oper) (e:Ev) (s:CS):VS :=
 match o.op with
 | .move x=>val s (jQ C e x)
 | .assign x=>val s (jQ C e x)
 | .pick c a b=>L7 C e s c a b
 | .alloc t=>(zeroOf C.P t).bind (CF s t)
 | .box t x=>VP C e s t x
 | .build t ps=>RX C e s t ps
 | .buildSlice t n ps=>QC C e s t n ps
 | .load t x=>Vd C e s t x
 | .store t x y=>SP C e s t x y
 | .nilCheck x=>V5 C e s x
 | .binOp op t x y _=>V2 C e s op t x y
 | .unOp op _ x=>WA C e s op x
 | .convert a d x=>Ut C e s a d x
 | .makeFunc (.func f) fi ca=>Uo C e s f fi ca
 | .makeMap t none=>Gl C t s
 | .makeSlice t l c=>UT C e s t l c
 | .lookup t m x ok=>UH C e s t m x ok
 | .mapUpdate t m x v=>VE C e s t m x v
 | .slice t x lo hi mx=>Tf C e s t x lo hi mx
 | .fieldAddr t x f=>Qp C e s t x f
 | .field t x f=>Sh C e s t x f
 | .indexAddr t x i=>T9 C e s t x i
 | .index t x i=>VF C e s t x i
 | .extract x i=>Vi C e s x i
 | .call c=>Kr C call e s o.type c
 | _=>none
def Rk (want:Bool):ZB->Option Bool
 | .bool b=>some (b==want)
 | .tuple _=>some false
 | _=>none
def A9 (ops:Array Oper) (o:Oper) (e:Ev):Option Bool :=
 match guardOf ops o with
 | none=>some true
 | some (none,_)=>some false
 | some (some d,want)=>(e.get d).bind (Rk want)
def forced {α:Type} (v:ZB) (k:ZB->α):α :=
 match v with
 | .int kd n=>match n with
  | .ofNat m=>match m with
   | 0=>k (.int kd (.ofNat 0))
   | m+1=>k (.int kd (.ofNat (m+1)))
  | .negSucc m=>k (.int kd (.negSucc m))
 | .bool b=>match b with
  | true=>k (.bool true)
  | false=>k (.bool false)
 | v=>k v
def Dg (n:Nat) (e:Ev) (dst:Option Tmp) (v:ZB):Ev :=
 match dst with
 | none=>e
 | some d=>match Nat.blt d n with
  | true=>forced v (e.put d)
  | false=>e
abbrev ES:=Option (Ev × CS)
def Wv (n:Nat) (e:Ev) (dst:Option Tmp) (r:VS) (k:Ev->CS->ES):ES:=r.bind fun (v,s)=>k (Dg n e dst v) s
def PI (C:Cx) (call:fL) (n:Nat) (ops:Array Oper):List Oper->Ev->CS->ES
 | [],e,s=>some (e,s)
 | o::rest,e,s=>(A9 ops o e).bind fun w=>match w with
  | true=>Wv n e o.dst (TI C call o e s) (PI C call n ops rest)
  | false=>PI C call n ops rest (Dg n e o.dst undef) s
end
end Go.Sx.Cr
