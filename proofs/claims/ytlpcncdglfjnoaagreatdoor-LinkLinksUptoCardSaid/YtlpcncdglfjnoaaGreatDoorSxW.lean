/- Closed runs, part W: what an operation comes to over a store. No condition. -/
import Derived.Test.YtlpcncdglfjnoaaGreatDoorSxV
set_option linter.all false
set_option maxHeartbeats 4000000
namespace Go.Sx.Cr
noncomputable section
abbrev Ev:=dC YB
structure CS where
 σ:dC AO
 nx:Nat
abbrev VS:=Option (YB × CS)
def fz {α:Type} (b:Bool) (k:Option α):Option α :=
 match b with
 | true=>k
 | false=>none
theorem bn {α:Type} {b:Bool} {k:Option α} {x:α}:fz b k=some x↔b=true/\k=some x:=by
 cases b <;> simp [fz]
def E6 (v:YB):Option YB:=fz (fo 9 v) (some v)
def Rm (C:Cx) (g:Nat):Option YB:=fz (Nat.blt g C.ng) (some (.pointer (some ⟨g,0,none⟩)))
def jT (C:Cx) (e:Ev):Operand->Option YB
 | .tmp t=>e.get t
 | .const v=>E6 v
 | .func f=>some (.func (.func f) #[] #[])
 | .global g=>Rm C g
def zK (C:Cx) (e:Ev):List Operand->Option (List YB)
 | []=>some []
 | x::xs=>(jT C e x).bind fun v=>(zK C e xs).bind fun l=>some (v::l)
def NU (op:BinOp) (k:IntKind) (m n:Int):Option YB :=
 match op with
 | .add=>some (.int k (k.wrap (m+n)))
 | .sub=>some (.int k (k.wrap (m-n)))
 | .mul=>some (.int k (k.wrap (m*n)))
 | .quo=>fz (!decide (n=0)) (some (.int k (k.wrap (m.tdiv n))))
 | .rem=>fz (!decide (n=0)) (some (.int k (m.tmod n)))
 | .eql=>some (.bool (m==n))
 | .neq=>some (.bool (m != n))
 | .lss=>some (.bool (decide (m<n)))
 | .leq=>some (.bool (decide (m<=n)))
 | .gtr=>some (.bool (decide (m>n)))
 | .geq=>some (.bool (decide (m>=n)))
 | _=>none
def Ki (op:BinOp) (x y:YA):Option YB :=
 match op with
 | .add=>fz (decide (((x.size+y.size:Nat):Int)<=IntKind.i64.max)) (some (.string (x++y)))
 | .eql=>some (.bool (x.data.toList==y.data.toList))
 | .neq=>some (.bool !(x.data.toList==y.data.toList))
 | .lss=>some (.bool (Op.bytesLess x.data.toList y.data.toList))
 | .leq=>some (.bool (Op.bytesLess x.data.toList y.data.toList || x.data.toList==y.data.toList))
 | .gtr=>some (.bool !(Op.bytesLess x.data.toList y.data.toList || x.data.toList==y.data.toList))
 | .geq=>some (.bool !(Op.bytesLess x.data.toList y.data.toList))
 | _=>none
def pe (op:BinOp) (b:Bool):Option YB :=
 match op with
 | .eql=>some (.bool b)
 | .neq=>some (.bool !b)
 | _=>none
def KE:Option TypeDesc->Bool
 | some (.pointer _)=>true
 | _=>false
def Iw:Option TypeDesc->Bool
 | some (.slice _)=>true
 | _=>false
def HY:Option TypeDesc->Bool
 | some .bool=>true
 | _=>false
def wU:Option TypeDesc->Bool
 | some .string=>true
 | _=>false
def Lq (P:Program) (op:BinOp) (t:TypeId) (a b:YB):Option YB :=
 match a,b with
 | .int k m,.int k' n=>fz (!mh op && decide (k=k')) (NU op k m n)
 | .string m,.string n=>Ki op m n
 | .bool m,.bool n=>fz (HY (P.underlying t)) (pe op (m==n))
 | .pointer p,.pointer _=>fz (KE (P.underlying t)) (pe op p.isNone)
 | .slice p _ _,.slice _ _ _=>fz (Iw (P.underlying t)) (pe op p.isNone)
 | _,_=>none
def nD (a b:YA):Bool:=a.data.toList==b.data.toList
def CE:YB->YB->Bool
 | .int _ a,.int _ b=>a==b
 | .string a,.string b=>nD a b
 | .bool a,.bool b=>a==b
 | _,_=>false
def Rx (P:Program) (op:BinOp) (t:TypeId) (a b:YB):Option YB :=
 match a,b,P.underlying t with
 | .agg xs,.agg ys,some (.struct fs) =>
  fz (!(P.stoodInHeld t) && !(P.eqGuardType P.depth t) && fs.all (okF P xs ys)) (pe op (fs.all fun f=>CE (xs[f.offset]?.getD .nilIface) (ys[f.offset]?.getD .nilIface)))
 | _,_,_=>none
def SY (P:Program) (op:BinOp) (t:TypeId) (x y:Operand) (a b:YB):Option YB :=
 match qU P t x y with
 | true=>Lq P op t a b
 | false=>Rx P op t a b
def Ve (op:UnOp) (a:YB):Option YB :=
 match op,a with
 | .neg,.int k n=>some (.int k (k.wrap (0-n)))
 | .not,.bool b=>some (.bool !b)
 | _,_=>none
def Nv (P:Program) (s d:TypeId) (a:YB):Option YB :=
 match P.underlying s,P.underlying d,a with
 | some (.int _),some (.int k),.int _ n=>some (.int k (k.wrap n))
 | some .string,some .string,.string x=>some (.string x)
 | _,_,_=>none
def uP:TypeDesc->YB->Bool
 | .bool,.bool _=>true
 | .bool,_=>false
 | .int k,.int k' _=>decide (k=k')
 | .int _,_=>false
 | .string,.string _=>true
 | .string,_=>false
 | .pointer _,.pointer _=>true
 | .pointer _,_=>false
 | .slice _,.slice _ _ _=>true
 | .slice _,_=>false
 | .map _ _,.map _=>true
 | .map _ _,_=>false
 | _,_=>true
def fits:List TypeDesc->List YB->Bool
 | [],[]=>true
 | d::ds,v::vs=>uP d v && fits ds vs
 | _,_=>false
def zn:YB->Option (List YB)
 | .agg ⟨l⟩=>some l
 | _=>none
def BT (c:fx) (v:YB):Bool :=
 match c with
 | (true,ds)=>(zn v).elim false (fits ds)
 | (false,ds)=>fits ds [v]
def zF:List fx->List YB->Bool
 | [],[]=>true
 | c::cs,v::vs=>BT c v && zF cs vs
 | _,_=>false
def Nu:YB->Option (List YB)
 | .tuple ⟨l⟩=>some l
 | _=>none
def GC (q:Bool × List fx) (v:YB):Bool :=
 match q with
 | (true,cs)=>(Nu v).elim false (zF cs)
 | (false,cs)=>zF cs [v]
def MP (C:Cx) (b off n:Nat):Option AO->Option (List YB)
 | some (.row c _ _)=>Kh off n c
 | some .gone=>(C.ro b).bind fun c=>Kh off n c
 | _=>none
def cells (C:Cx) (s:CS) (b off n:Nat):Option (List YB):=MP C b off n (s.σ.get b)
def uz:YB->Option (Nat × Nat)
 | .pointer (some ⟨b,off,none⟩)=>some (b,off)
 | _=>none
abbrev Ld:=Option (Nat × Nat × List YB × YB)
def Qv (C:Cx) (t:TypeId) (b off:Nat) (s:CS):Ld :=
 fz (Nat.beq (eO C.P 9 t).length (C.P.cellsOf t)) ((cells C s b off (eO C.P 9 t).length).bind fun vs=>fz (fits (eO C.P 9 t) vs) (some (b,off,vs,.agg ⟨vs⟩)))
def QY (C:Cx) (t:TypeId) (b off:Nat) (s:CS):Ld :=
 (cells C s b off 1).bind fun vs=>fz (fits (cy C.P t).2 vs) (some (b,off,vs,vs.headD undef))
def By (C:Cx) (t:TypeId) (v:YB) (s:CS):Ld :=
 (uz v).bind fun (b,off)=>(cw C.P t).bind fun g=>match g with
  | true=>Qv C t b off s
  | false=>QY C t b off s
def x8 (s:CS) (o:AO):Option CS :=
 match s.σ.get s.nx with
 | none=>some ⟨s.σ.put s.nx o,s.nx+1⟩
 | some _=>none
def OK (s:CS) (b off:Nat) (vs:List YB):Option CS :=
 match s.σ.get b with
 | some (.row c e m)=>fz (!Nat.beq m 2 && vs.all cS && Nat.ble 1 vs.length && Nat.ble (off+vs.length) c.length) (some ⟨s.σ.put b (.row (lG c off vs) e m),s.nx⟩)
 | _=>none
def uv (g:Bool) (v:YB):Option (List YB) :=
 match g with
 | true=>zn v
 | false=>fz (!eR v) (some [v])
def FN (P:Program) (t:TypeId) (p v:YB) (s:CS):Option CS :=
 (uz p).bind fun (b,off)=>(cw P t).bind fun g=>(uv g v).bind fun l=>fz (Nat.beq l.length (P.cellsOf t)) (OK s b off l)
def CH (agg:Nat->Option Bool):List (Nat × YB)->Option (List (Nat × List YB))
 | []=>some []
 | (i,v)::l=>(agg i).bind fun g=>(uv g v).bind fun c=>(CH agg l).bind fun r=>some ((i,c)::r)
def zeroOf (P:Program) (t:TypeId):Option (List YB) :=
 ((P.info? t).bind (·.zero)).bind fun z=>fz (z.cells.toList.all (fo 9)) (some z.cells.toList)
def HX (P:Program) (fs:Array Field) (z:List YB) (ps:List (Nat × YB)):Option YB :=
 fz (fs.all fun f=>mM P f.type) ((CH (fun i=>(fs[i]?).bind fun f=>cw P f.type) ps).bind fun ls=>(fh (((fs.map fun f=>(f.offset,P.cellsOf f.type)))[·]?) z ls).bind fun cs=>some (.agg ⟨cs⟩))
def HJ (P:Program) (el:TypeId) (z:List YB) (ps:List (Nat × YB)):Option YB :=
 fz (mM P el) ((CH (fun _=>cw P el) ps).bind fun ls=>(fh (fun i=>some (i*P.cellsOf el,P.cellsOf el)) z ls).bind fun cs=>some (.agg ⟨cs⟩))
def FV (P:Program) (t:TypeId) (ps:List (Nat × YB)):Option YB :=
 (zeroOf P t).bind fun z=>match P.underlying t with
  | some (.struct fs)=>HX P fs z ps
  | some (.array _ el)=>HJ P el z ps
  | _=>none
structure El where
 e:TypeId
 sz:Nat
 by_:Nat
 z:List YB
def Lm (P:Program) (e:TypeId):Option El :=
 (P.info? e).bind fun i=>i.zero.bind fun z=>fz (z.cells.toList.all (fo 9) && Nat.beq z.cells.size i.size && Nat.ble 1 i.size) (some ⟨e,i.size,i.bytes,z.cells.toList⟩)
def elemOf:Option TypeDesc->Option TypeId
 | some (.slice e)=>some e
 | _=>none
def Ku (P:Program) (t:TypeId):Option El:=(elemOf (P.underlying t)).bind (Lm P)
def Ba:List (Nat × YB)->List (Nat × List YB)
 | []=>[]
 | (i,v)::l=>(i,match zn v with
  | some c=>c
  | none=>[v])::Ba l
def FT (sz:Nat):Nat->List (Nat × List YB)->Option (List YB)
 | _,[]=>some []
 | i,(k,c)::l=>fz (Nat.beq k i && Nat.beq c.length sz) ((FT sz (i+1) l).bind fun r=>some (c++r))
def L6 (q:El) (n:Nat) (ps:List (Nat × List YB)):Option (List YB):=fz (Nat.beq ps.length n) (FT q.sz 0 ps)
def Ds (s:CS) (c:List YB) (e:TypeId) (m l cap:Nat):VS :=
 (x8 s (.row c e m)).bind fun s'=>some (.slice (some ⟨s.nx,0,none⟩) l cap,s')
def M9 (P:Program) (t:TypeId) (n:Nat) (ps:List (Nat × YB)) (s:CS):VS :=
 (Ku P t).bind fun q=>fz (Nat.ble (n*q.sz) 16777216) ((L6 q n (Ba ps)).bind fun cs=>Ds s cs q.e 0 n n)
def G5 (C:Cx) (sz:Nat) (x:YB) (s:CS):Option (List YB) :=
 match x with
 | .slice q m _=>match m with
  | 0=>some []
  | m+1=>(uz (.pointer q)).bind fun (b,off)=>cells C s b off ((m+1)*sz)
 | _=>none
def Cq (q:El) (po l c:Nat):Option AO->Option (List YB)
 | some (.row cs e' m')=>fz (Nat.beq m' 1 && Nat.beq q.e e' && Nat.ble c pF && Nat.beq po ((pF-c)*q.sz) && Nat.ble (po+l*q.sz) cs.length) (some cs)
 | _=>none
def HP (s:CS) (q:El) (pb po l c m:Nat) (ys:List YB):VS :=
 (Cq q po l c (s.σ.get pb)).bind fun cs=>fz (Nat.beq cs.length (po+l*q.sz))
   (match s.σ.get s.nx with
   | none=>some (.slice (some ⟨s.nx,0,none⟩) (l+m) pF,⟨(s.σ.put pb .gone).put s.nx (.row (cs.drop po++ys) q.e 1),s.nx+1⟩)
   | some _=>none)
def MW (C:Cx) (s:CS) (q:El) (pb po l c m:Nat) (ys:List YB):VS :=
 match Nat.ble (l+m) c with
 | true=>(OK s pb (po+l*q.sz) ys).bind fun s=>some (.slice (some ⟨pb,po,none⟩) (l+m) c,s)
 | false=>(cells C s pb po (l*q.sz)).bind fun old=>Ds s (old++ys) q.e 1 (l+m) pF
def QC (C:Cx) (s:CS) (q:El) (pb po l c m:Nat) (ys:List YB):VS :=
 match Nat.blt c half with
 | true=>MW C s q pb po l c m ys
 | false=>HP s q pb po l c m ys
def Rb (C:Cx) (s:CS) (q:El) (p:Option YC) (l c m:Nat) (ys:List YB):VS :=
 match p with
 | none=>fz (Nat.beq l 0 && Nat.beq c 0) (Ds s ys q.e 1 m pF)
 | some a=>(uz (.pointer (some a))).bind fun (b,off)=>QC C s q b off l c m ys
def RC (C:Cx) (q:El) (a x:YB) (s:CS) (ys:List YB):VS :=
 match a,x with
 | .slice p l c,.slice _ m _=>fz (Nat.ble ((2*(l+m)+1024)*q.by_) 281474976710656 && Nat.ble (l+m) 281474976710656 && ys.all cS)
   (match m with
   | 0=>some (.slice p l c,s)
   | _+1=>Rb C s q p l c m ys)
 | _,_=>none
def BX (C:Cx) (ts:List TypeId) (vs:List YB) (s:CS):VS :=
 match ts,vs with
 | [t,t'],[a,x]=>fz (Iw (C.P.underlying t')) ((Ku C.P t).bind fun q=>(G5 C q.sz x s).bind fun ys=>RC C q a x s ys)
 | _,_=>none
def UO:AO->Option Nat
 | .vL D=>some D.length
 | .xY D=>some D.length
 | .xZ D=>some D.length
 | _=>none
def RR (s:CS) (D:Option TypeDesc) (v:YB):Option YB :=
 match D with
 | some .string=>(match v with
  | .string s=>some (.int .i64 s.size)
  | _=>none)
 | some (.slice _)=>(match v with
  | .slice _ n _=>some (.int .i64 n)
  | _=>none)
 | some (.map _ _)=>(match v with
  | .map (some b)=>((s.σ.get b).bind UO).bind fun n=>some (.int .i64 n)
  | _=>none)
 | _=>none
def Jf:List YB->Option YB
 | [v]=>some v
 | _=>none
def Um (x:YA) (lo hi:Option YB):Option YB :=
 fz (decide (0<=jR lo/\jR lo<=j1 x.size hi/\j1 x.size hi<=x.size)) (some (.string (x.extract (jR lo).toNat (j1 x.size hi).toNat)))
def U8 (P:Program) (e:TypeId) (b off len cap:Nat) (lo hi:Option YB):Option YB :=
 fz (mM P e && decide (0<=jR lo/\jR lo<=j1 len hi/\j1 len hi<=len/\jR lo<len) && (Nat.blt cap half || Nat.ble half (cap-(jR lo).toNat))) (some (.slice (some ⟨b,off+(jR lo).toNat*P.cellsOf e,none⟩) ((j1 len hi).toNat-(jR lo).toNat) (cap-(jR lo).toNat)))
def qt (P:Program) (t:TypeId) (a:YB) (lo hi:Option YB):Option YB :=
 fz (ef lo && ef hi) (match P.underlying t with
  | some .string=>(match a with
   | .string x=>Um x lo hi
   | _=>none)
  | some (.slice e)=>(match a with
   | .slice (some ⟨b,off,none⟩) len cap=>U8 P e b off len cap lo hi
   | _=>none)
  | _=>none)
def Vo (P:Program) (t:TypeId) (lo hi mx:Option Operand) (a:YB) (vs:List YB):Option YB :=
 match mx,lo,hi,vs with
 | none,none,none,[]=>qt P t a none none
 | none,some _,none,[l]=>qt P t a (some l) none
 | none,none,some _,[h]=>qt P t a none (some h)
 | none,some _,some _,[l,h]=>qt P t a (some l) (some h)
 | _,_,_,_=>none
def atIdx (P:Program) (b off len:Nat) (el:TypeId) (n:Int):Option YB :=
 fz (mM P el && decide (0<=n/\n<len)) (some (.pointer (some ⟨b,off+n.toNat*P.cellsOf el,none⟩)))
def intOf:YB->Option Int
 | .int _ n=>some n
 | _=>none
def K3 (P:Program) (t:TypeId) (v i:YB):Option YB :=
 (intOf i).bind fun n=>match P.underlying t with
 | some (.slice el)=>(match v with
  | .slice (some ⟨b,off,none⟩) len _=>atIdx P b off len el n
  | _=>none)
 | some (.array len el)=>(uz v).bind fun (b,off)=>atIdx P b off len el n
 | _=>none
def S9 (P:Program) (t:TypeId) (v i:YB):Option YB :=
 (intOf i).bind fun n=>match v with
 | .string s=>fz (wU (P.underlying t) && decide (0<=n/\n<s.size)) (some (.int .u8 (cK s n)))
 | _=>none
def No (P:Program) (t:TypeId) (off:Nat) (cs:List YB):Option YB :=
 (cw P t).bind fun g=>match g with
 | true=>some (.agg ⟨(cs.drop off).take (P.cellsOf t)⟩)
 | false=>cs[off]?
def HO (P:Program) (t:TypeId) (f:Nat):Option Field :=
 match P.underlying t with
 | some (.struct fs)=>fs[f]?
 | _=>none
def CB (P:Program) (t:TypeId) (f:Nat) (v:YB):Option YB :=
 (uz v).bind fun (b,off)=>(HO P t f).bind fun fd=>fz (Nat.ble 1 (P.cellsOf fd.type)) (some (.pointer (some ⟨b,off+fd.offset,none⟩)))
def uD (a b:Nat × YA):Bool:=Nat.beq a.1 b.1 && nD a.2 b.2
def oH (a b:Nat × Nat):Bool:=Nat.beq a.1 b.1 && Nat.beq a.2 b.2
def kb {α:Type} (q:α->α->Bool) (s:α):List (α × YB)->Option YB
 | []=>none
 | p::D=>match q s p.1 with
  | true=>some p.2
  | false=>kb q s D
def xQ {α:Type} (q:α->α->Bool) (s:α) (v:YB):List (α × YB)->List (α × YB)
 | []=>[(s,v)]
 | p::D=>match q s p.1 with
  | true=>(p.1,v)::D
  | false=>p::xQ q s v D
def KK:Option TypeDesc->Option (TypeId × TypeId)
 | some (.map k e)=>some (k,e)
 | _=>none
def Ol:YB->Option (Nat × YA)
 | .agg ⟨[.int .i64 (.ofNat n),.string y]⟩=>some (n,y)
 | _=>none
def OF:YB->Option (Nat × Nat)
 | .agg ⟨[.int .i64 (.ofNat n),.int .i64 (.ofNat m)]⟩=>some (n,m)
 | _=>none
def Tm (C:Cx) (k:TypeId):Bool:=Nat.beq k C.kt || Nat.beq k C.ku
def Tp (C:Cx) (k:TypeId):Bool:=Nat.blt 0 C.ki && Nat.beq k C.ki
def Kk:YB->Option YA
 | .string y=>some y
 | _=>none
def V' (y:YA):AO->Option (Option YB)
 | .vL D=>some (kb nD y D)
 | _=>none
def Wo (y:Nat × YA):AO->Option (Option YB)
 | .xY D=>some (kb uD y D)
 | _=>none
def Wp (y:Nat × Nat):AO->Option (Option YB)
 | .xZ D=>some (kb oH y D)
 | _=>none
def TN (x:YB) (s:CS):YB->Option (Option YB)
 | .map (some b)=>(OF x).bind fun y=>(s.σ.get b).bind (Wp y)
 | _=>none
def T8 (x:YB) (s:CS):YB->Option (Option YB)
 | .map (some b)=>(Ol x).bind fun y=>(s.σ.get b).bind (Wo y)
 | _=>none
def US (x:YB) (s:CS):YB->Option (Option YB)
 | .map none=>(Kk x).bind fun _=>some none
 | .map (some b)=>(Kk x).bind fun y=>(s.σ.get b).bind (V' y)
 | _=>none
def NG (C:Cx) (k:TypeId) (m x:YB) (s:CS):Option (Option YB) :=
 match Tm C k with
 | true=>T8 x s m
 | false=>match Tp C k with
  | true=>TN x s m
  | false=>fz (wU (C.P.underlying k)) (US x s m)
def Lh (P:Program) (el:TypeId):Option YB:=((P.info? el).bind (·.zero)).bind E6
def Rt (ok:Bool) (z:YB) (r:Option YB):YB :=
 match ok with
 | true=>.tuple ⟨[r.getD z,.bool r.isSome]⟩
 | false=>r.getD z
def MN (C:Cx) (t:TypeId) (m x:YB) (ok:Bool) (s:CS):Option YB :=
 (KK (C.P.underlying t)).bind fun (k,el)=>(Lh C.P el).bind fun z=>(NG C k m x s).bind fun r=>fz (BT (cy C.P el) (r.getD z)) (some (Rt ok z r))
def KZ (C:Cx) (k:TypeId) (b:Nat) (x v:YB) (s:CS):AO->Option CS
 | .vL D=>fz (wU (C.P.underlying k)) ((Kk x).bind fun y=>fz (Nat.ble y.size maxLen) (some ⟨s.σ.put b (.vL (xQ nD y v D)),s.nx⟩))
 | .xY D=>fz (Tm C k) ((Ol x).bind fun y=>some ⟨s.σ.put b (.xY (xQ uD y v D)),s.nx⟩)
 | .xZ D=>fz (Tp C k) ((OF x).bind fun y=>some ⟨s.σ.put b (.xZ (xQ oH y v D)),s.nx⟩)
 | _=>none
def Tk (C:Cx) (t:TypeId) (m x v:YB) (s:CS):Option CS :=
 match m with
 | .map (some b)=>(KK (C.P.underlying t)).bind fun (k,_)=>(s.σ.get b).bind fun o=>KZ C k b x v s o
 | _=>none
def G3 (C:Cx) (t:TypeId) (s:CS):VS :=
 (KK (C.P.underlying t)).bind fun q=>match Tm C q.1 with
 | true=>(x8 s (.xY [])).bind fun s'=>some (.map (some s.nx),s')
 | false=>match Tp C q.1 with
  | true=>(x8 s (.xZ [])).bind fun s'=>some (.map (some s.nx),s')
  | false=>fz (wU (C.P.underlying q.1)) ((x8 s (.vL [])).bind fun s'=>some (.map (some s.nx),s'))
def H0:YB->Option Nat
 | .int _ (.ofNat n)=>some n
 | _=>none
def zh (P:Program) (t:TypeId) (l c:YB) (s:CS):VS :=
 (H0 l).bind fun l=>(H0 c).bind fun c=>(Ku P t).bind fun q=>fz (Nat.ble l c && Nat.ble (c*q.by_) 16777216 && Nat.ble c 16777216) (Ds s (List.replicate c q.z).flatten q.e 0 l c)
def Cc (x:YA):List YA->List YA
 | []=>[x]
 | y::l=>match Op.bytesLess x.data.toList y.data.toList with
  | true=>x::y::l
  | false=>y::Cc x l
def qL:List YA->List YA
 | []=>[]
 | x::l=>Cc x (qL l)
def Kw (D:List (YA × YB)) (s:CS):VS :=
 match D with
 | []=>some (.slice none 0 0,s)
 | _::_=>Ds s ((qL (D.map (·.1))).map .string) 9 1 D.length pF
def HV (s:CS):AO->VS
 | .vL D=>fz (Nat.ble D.length 1024) (Kw D s)
 | _=>none
def LO:YB->Option Nat
 | .map (some b)=>some b
 | _=>none
def NL (C:Cx):YB->Option (Nat × Nat)
 | .func (.func f) ⟨[]⟩ ⟨[p]⟩=>fz (Nat.beq f C.seq) (uz p)
 | _=>none
def Uy:Option AO->Option (List YB)
 | some (.row c _ m)=>fz (Nat.beq m 0) (some c)
 | _=>none
def C0 (C:Cx) (vs:List YB) (s:CS):VS :=
 (Jf vs).bind fun v=>(NL C v).bind fun (q,off)=>fz (Nat.beq off 0) ((Uy (s.σ.get q)).bind fun l=>(Jf l).bind fun m=>(LO m).bind fun b=>(s.σ.get b).bind (HV s))
def Qe (vs:List YB):Option YB :=
 match vs with
 | [.int .i64 (.ofNat a),.int .i64 (.ofNat b)]=>some (.int .i64 (.ofNat (Nat.min a b)))
 | _=>none
def MZ (vs:List YB):Option YB :=
 match vs with
 | [.string x,.int .u8 n]=>some (.int .i64 (Lib.indexByte x.data.toList n.toNat.toUInt8))
 | _=>none
abbrev fL:=FuncId->List YB->CS->VS
def val (s:CS) (v:Option YB):VS:=v.bind fun v=>some (v,s)
def done (r:Option CS):VS:=r.bind fun s=>some (undef,s)
def Nr (C:Cx) (e:Ev) (s:CS) (c a b:Operand):VS :=
 (jT C e c).bind fun v=>match v with
 | .bool true=>val s (jT C e a)
 | .bool false=>val s (jT C e b)
 | _=>none
def CP (s:CS) (t:TypeId) (l:List YB):VS:=(x8 s (.row l t 0)).bind fun s'=>some (.pointer (some ⟨s.nx,0,none⟩),s')
def Vw (C:Cx) (e:Ev) (s:CS) (t:TypeId) (x:Operand):VS:=(jT C e x).bind fun v=>(cw C.P t).bind fun g=>(uv g v).bind fun l=>CP s t l
def Tw (ps:Array (Nat × Operand)) (vs:List YB):List (Nat × YB):=(ps.toList.map (·.1)).zip vs
def Rv (C:Cx) (e:Ev) (s:CS) (t:TypeId) (ps:Array (Nat × Operand)):VS:=(zK C e (ps.toList.map (·.2))).bind fun vs=>val s (FV C.P t (Tw ps vs))
def P1 (C:Cx) (e:Ev) (s:CS) (t:TypeId) (n:Nat) (ps:Array (Nat × Operand)):VS:=(zK C e (ps.toList.map (·.2))).bind fun vs=>M9 C.P t n (Tw ps vs) s
def T6 (C:Cx) (e:Ev) (s:CS) (t:TypeId) (x:Operand):VS:=(jT C e x).bind fun v=>(By C t v s).bind fun (_,_,_,v)=>some (v,s)
def Tf (C:Cx) (e:Ev) (s:CS) (t:TypeId) (x y:Operand):VS:=(jT C e x).bind fun p=>(jT C e y).bind fun v=>done (FN C.P t p v s)
def notNil:YB->Option YB
 | .pointer (some a)=>some (.pointer (some a))
 | _=>none
def VI (C:Cx) (e:Ev) (s:CS) (x:Operand):VS:=(jT C e x).bind fun v=>val s (notNil v)
def U9 (C:Cx) (e:Ev) (s:CS) (op:BinOp) (t:TypeId) (x y:Operand):VS:=(jT C e x).bind fun a=>(jT C e y).bind fun b=>val s (SY C.P op t x y a b)
def Wa (C:Cx) (e:Ev) (s:CS) (op:UnOp) (x:Operand):VS:=(jT C e x).bind fun a=>val s (Ve op a)
def UP (C:Cx) (e:Ev) (s:CS) (a d:TypeId) (x:Operand):VS:=(jT C e x).bind fun v=>val s (Nv C.P a d v)
def UB (C:Cx) (e:Ev) (s:CS) (f:FuncId) (fi ca:Array Operand):VS:=(zK C e fi.toList).bind fun fi=>(zK C e ca.toList).bind fun ca=>some (.func (.func f) ⟨fi⟩ ⟨ca⟩,s)
def TT (C:Cx) (e:Ev) (s:CS) (t:TypeId) (l c:Operand):VS:=(jT C e l).bind fun l=>(jT C e c).bind fun c=>zh C.P t l c s
def TE (C:Cx) (e:Ev) (s:CS) (t:TypeId) (m x:Operand) (ok:Bool):VS:=(jT C e m).bind fun m=>(jT C e x).bind fun x=>val s (MN C t m x ok s)
def Vr (C:Cx) (e:Ev) (s:CS) (t:TypeId) (m x v:Operand):VS:=(jT C e m).bind fun m=>(jT C e x).bind fun x=>(jT C e v).bind fun v=>done (Tk C t m x v s)
def Tb (C:Cx) (e:Ev) (s:CS) (t:TypeId) (x:Operand) (lo hi mx:Option Operand):VS :=
 (jT C e x).bind fun a=>(zK C e (lo.toList++hi.toList++mx.toList)).bind fun vs=>val s (Vo C.P t lo hi mx a vs)
def PB (C:Cx) (e:Ev) (s:CS) (t:TypeId) (x:Operand) (f:Nat):VS:=(jT C e x).bind fun v=>val s (CB C.P t f v)
def Sd (C:Cx) (e:Ev) (s:CS) (t:TypeId) (x:Operand) (f:Nat):VS:=(jT C e x).bind fun v=>(zn v).bind fun cs=>(HO C.P t f).bind fun fd=>val s (No C.P fd.type fd.offset cs)
def Uq (C:Cx) (e:Ev) (s:CS) (t:TypeId) (x i:Operand):VS:=(jT C e x).bind fun v=>(jT C e i).bind fun i=>val s (K3 C.P t v i)
def Vs (C:Cx) (e:Ev) (s:CS) (t:TypeId) (x i:Operand):VS:=(jT C e x).bind fun v=>(jT C e i).bind fun i=>val s (S9 C.P t v i)
def Uz (C:Cx) (e:Ev) (s:CS) (x:Operand) (i:Nat):VS:=(jT C e x).bind fun v=>(Nu v).bind fun vs=>val s vs[i]?
def yC (P:Program) (t:TypeId) (r:VS):VS:=r.bind fun (v,s)=>fz (GC (kq P t) v) (some (v,s))
def GD (C:Cx) (call:fL) (t:TypeId) (s:CS) (f:FuncId) (vs:List YB):VS :=
 match fA C.P f with
 | true=>yC C.P t (match Nat.beq f C.Ra with
  | true=>C0 C vs s
  | false=>call f vs s)
 | false=>fz (Nat.beq f C.idx) (yC C.P t (val s (MZ vs)))
def Nl (C:Cx) (call:fL) (t:TypeId) (s:CS) (g:YB) (vs:List YB):VS :=
 match g with
 | .func (.func f) ⟨fi⟩ ⟨ca⟩=>fz (fA C.P f) (yC C.P t (call f (fi++vs++ca) s))
 | _=>none
def Rp (P:Program) (t:TypeId) (v:YB):Option YB:=fz (BT (cy P t) v) (some v)
def zD (C:Cx) (b:Builtin) (t:TypeId) (c:Call) (vs:List YB) (s:CS):VS :=
 match b with
 | .len=>(Jf vs).bind fun v=>val s (RR s ((c.argTypes[0]?).bind C.P.underlying) v)
 | .append=>BX C c.argTypes.toList vs s
 | .min=>val s ((Qe vs).bind (Rp C.P t))
 | _=>none
def K6 (C:Cx) (call:fL) (e:Ev) (s:CS) (t:TypeId) (c:Call):VS :=
 (zK C e c.args.toList).bind fun vs=>match c.callee with
 | .builtin b=>zD C b t c vs s
 | .value (.func f)=>GD C call t s f vs
 | .value (.tmp g)=>(e.get g).bind fun g=>Nl C call t s g vs
 | _=>none
def Ts (C:Cx) (call:fL) (o:Oper) (e:Ev) (s:CS):VS :=
 match o.op with
 | .move x=>val s (jT C e x)
 | .assign x=>val s (jT C e x)
 | .pick c a b=>Nr C e s c a b
 | .alloc t=>(zeroOf C.P t).bind (CP s t)
 | .box t x=>Vw C e s t x
 | .build t ps=>Rv C e s t ps
 | .buildSlice t n ps=>P1 C e s t n ps
 | .load t x=>T6 C e s t x
 | .store t x y=>Tf C e s t x y
 | .nilCheck x=>VI C e s x
 | .binOp op t x y _=>U9 C e s op t x y
 | .unOp op _ x=>Wa C e s op x
 | .convert a d x=>UP C e s a d x
 | .makeFunc (.func f) fi ca=>UB C e s f fi ca
 | .makeMap t none=>G3 C t s
 | .makeSlice t l c=>TT C e s t l c
 | .lookup t m x ok=>TE C e s t m x ok
 | .mapUpdate t m x v=>Vr C e s t m x v
 | .slice t x lo hi mx=>Tb C e s t x lo hi mx
 | .fieldAddr t x f=>PB C e s t x f
 | .field t x f=>Sd C e s t x f
 | .indexAddr t x i=>Uq C e s t x i
 | .index t x i=>Vs C e s t x i
 | .extract x i=>Uz C e s x i
 | .call c=>K6 C call e s o.type c
 | _=>none
def Rr (want:Bool):YB->Option Bool
 | .bool b=>some (b==want)
 | .tuple _=>some false
 | _=>none
def AT (ops:Array Oper) (o:Oper) (e:Ev):Option Bool :=
 match guardOf ops o with
 | none=>some true
 | some (none,_)=>some false
 | some (some d,want)=>(e.get d).bind (Rr want)
def forced {α:Type} (v:YB) (k:YB->α):α :=
 match v with
 | .int kd n=>match n with
  | .ofNat m=>match m with
   | 0=>k (.int kd (.ofNat 0))
   | m+1=>k (.int kd (.ofNat (m+1)))
  | .negSucc m=>k (.int kd (.negSucc m))
 | .bool b=>match b with
  | true=>k (.bool true)
  | false=>k (.bool false)
 | v=>k v
def CG (n:Nat) (e:Ev) (dst:Option Tmp) (v:YB):Ev :=
 match dst with
 | none=>e
 | some d=>match Nat.blt d n with
  | true=>forced v (e.put d)
  | false=>e
abbrev ES:=Option (Ev × CS)
def V7 (n:Nat) (e:Ev) (dst:Option Tmp) (r:VS) (k:Ev->CS->ES):ES:=r.bind fun (v,s)=>k (CG n e dst v) s
def O' (C:Cx) (call:fL) (n:Nat) (ops:Array Oper):List Oper->Ev->CS->ES
 | [],e,s=>some (e,s)
 | o::rest,e,s=>(AT ops o e).bind fun w=>match w with
  | true=>V7 n e o.dst (Ts C call o e s) (O' C call n ops rest)
  | false=>O' C call n ops rest (CG n e o.dst undef) s
end
end Go.Sx.Cr
