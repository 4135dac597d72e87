/- Part of the framework. No condition. -/
import Derived.Test.YthbffkdafjboiaaGreatDoorSxV
set_option linter.all false
set_option maxHeartbeats 4000000
namespace Go.Sx.Cr
noncomputable section
abbrev Ev:=dL Xab
structure CS where
 σ:dL AO
 nx:Nat
abbrev VS:=Option (Xab × CS)
def fF {α:Type} (b:Bool) (k:Option α):Option α :=
 match b with
 | true=>k
 | false=>none
def bF {α:Type} {b:Bool} {k:Option α} {x:α}:fF b k=some x↔b=true/\k=some x:=by
 cases b <;> simp [fF]
def Gf (v:Xab):Option Xab:=fF (fD 9 v) (some v)
def S0 (C:Cx) (g:Nat):Option Xab:=fF (Nat.blt g C.ng) (some (.pointer (some ⟨g,0,none⟩)))
def kA (C:Cx) (e:Ev):Operand->Option Xab
 | .tmp t=>e.get t
 | .const v=>Gf v
 | .func f=>some (.func (.func f) #[] #[])
 | .global g=>S0 C g
def zY (C:Cx) (e:Ev):List Operand->Option (List Xab)
 | []=>some []
 | x::xs=>(kA C e x).bind fun v=>(zY C e xs).bind fun l=>some (v::l)
def LN (op:BinOp) (k:IntKind) (m n:Int):Option Xab :=
 match op with
 | .add=>some (.int k (k.wrap (m+n)))
 | .sub=>some (.int k (k.wrap (m-n)))
 | .mul=>some (.int k (k.wrap (m*n)))
 | .quo=>fF (!decide (n=0)) (some (.int k (k.wrap (m.tdiv n))))
 | .rem=>fF (!decide (n=0)) (some (.int k (m.tmod n)))
 | .eql=>some (.bool (m==n))
 | .neq=>some (.bool (m != n))
 | .lss=>some (.bool (decide (m<n)))
 | .leq=>some (.bool (decide (m<=n)))
 | .gtr=>some (.bool (decide (m>n)))
 | .geq=>some (.bool (decide (m>=n)))
 | .and=>some (.int k (DU .and k m n))
 | .or=>some (.int k (DU .or k m n))
 | .xor=>some (.int k (DU .xor k m n))
 | .andNot=>some (.int k (DU .andNot k m n))
 | _=>none
def OL (op:BinOp) (x y:Xaa):Option Xab :=
 match op with
 | .add=>fF (decide (((x.size+y.size:Nat):Int)<=IntKind.i64.max)) (some (.string (x++y)))
 | .eql=>some (.bool (x.data.toList==y.data.toList))
 | .neq=>some (.bool !(x.data.toList==y.data.toList))
 | .lss=>some (.bool (Op.bytesLess x.data.toList y.data.toList))
 | .leq=>some (.bool (Op.bytesLess x.data.toList y.data.toList || x.data.toList==y.data.toList))
 | .gtr=>some (.bool !(Op.bytesLess x.data.toList y.data.toList || x.data.toList==y.data.toList))
 | .geq=>some (.bool !(Op.bytesLess x.data.toList y.data.toList))
 | _=>none
def qa (op:BinOp) (b:Bool):Option Xab :=
 match op with
 | .eql=>some (.bool b)
 | .neq=>some (.bool !b)
 | _=>none
def LQ:Option TypeDesc->Bool
 | some (.pointer _)=>true
 | _=>false
def Jc:Option TypeDesc->Bool
 | some (.slice _)=>true
 | _=>false
def IP:Option TypeDesc->Bool
 | some .bool=>true
 | _=>false
def xv:Option TypeDesc->Bool
 | some .string=>true
 | _=>false
def Pr (P:Program) (op:BinOp) (t:TypeId) (a b:Xab):Option Xab :=
 match a,b with
 | .int k m,.int k' n=>fF (!mX op && decide (k=k')) (LN op k m n)
 | .string m,.string n=>OL op m n
 | .bool m,.bool n=>fF (IP (P.underlying t)) (qa op (m==n))
 | .pointer p,.pointer _=>fF (LQ (P.underlying t)) (qa op p.isNone)
 | .slice p _ _,.slice _ _ _=>fF (Jc (P.underlying t)) (qa op p.isNone)
 | _,_=>none
def oT (a b:Xaa):Bool:=a.data.toList==b.data.toList
def DT:Xab->Xab->Bool
 | .int _ a,.int _ b=>a==b
 | .string a,.string b=>oT a b
 | .bool a,.bool b=>a==b
 | _,_=>false
def TO (P:Program) (op:BinOp) (t:TypeId) (a b:Xab):Option Xab :=
 match a,b,P.underlying t with
 | .agg xs,.agg ys,some (.struct fs) =>
  fF (!(P.stoodInHeld t) && !(P.eqGuardType P.depth t) && fs.all (okF P xs ys)) (qa op (fs.all fun f=>DT (xs[f.offset]?.getD .nilIface) (ys[f.offset]?.getD .nilIface)))
 | _,_,_=>none
def UR (P:Program) (op:BinOp) (t:TypeId) (x y:Operand) (a b:Xab):Option Xab :=
 match rP P t x y with
 | true=>Pr P op t a b
 | false=>TO P op t a b
def Xy (op:UnOp) (a:Xab):Option Xab :=
 match op,a with
 | .neg,.int k n=>some (.int k (k.wrap (0-n)))
 | .not,.bool b=>some (.bool !b)
 | _,_=>none
def L8 (P:Program) (s d:TypeId) (a:Xab):Option Xab :=
 match P.underlying s,P.underlying d,a with
 | some (.int _),some (.int k),.int _ n=>some (.int k (k.wrap n))
 | some .string,some .string,.string x=>some (.string x)
 | _,_,_=>none
def wj:TypeDesc->Xab->Bool
 | .bool,.bool _=>true
 | .bool,_=>false
 | .int k,.int k' _=>decide (k=k')
 | .int _,_=>false
 | .string,.string _=>true
 | .string,_=>false
 | .pointer _,.pointer _=>true
 | .pointer _,_=>false
 | .slice _,.slice _ _ _=>true
 | .slice _,_=>false
 | .map _ _,.map _=>true
 | .map _ _,_=>false
 | _,_=>true
def fits:List TypeDesc->List Xab->Bool
 | [],[]=>true
 | d::ds,v::vs=>wj d v && fits ds vs
 | _,_=>false
def AB:Xab->Option (List Xab)
 | .agg ⟨l⟩=>some l
 | _=>none
def C' (c:fI) (v:Xab):Bool :=
 match c with
 | (true,ds)=>(AB v).elim false (fits ds)
 | (false,ds)=>fits ds [v]
def Ae:List fI->List Xab->Bool
 | [],[]=>true
 | c::cs,v::vs=>C' c v && Ae cs vs
 | _,_=>false
def NK:Xab->Option (List Xab)
 | .tuple ⟨l⟩=>some l
 | _=>none
def HB (q:Bool × List fI) (v:Xab):Bool :=
 match q with
 | (true,cs)=>(NK v).elim false (Ae cs)
 | (false,cs)=>Ae cs [v]
def Ng (C:Cx) (b off n:Nat):Option AO->Option (List Xab)
 | some (.row c _ _)=>L6 off n c
 | some .gone=>(C.ro b).bind fun c=>L6 off n c
 | _=>none
def cells (C:Cx) (s:CS) (b off n:Nat):Option (List Xab):=Ng C b off n (s.σ.get b)
def uP:Xab->Option (Nat × Nat)
 | .pointer (some ⟨b,off,none⟩)=>some (b,off)
 | _=>none
abbrev Ld:=Option (Nat × Nat × List Xab × Xab)
def Tk (C:Cx) (t:TypeId) (b off:Nat) (s:CS):Ld :=
 fF (Nat.beq (eX C.P 9 t).length (C.P.cellsOf t)) ((cells C s b off (eX C.P 9 t).length).bind fun vs=>fF (fits (eX C.P 9 t) vs) (some (b,off,vs,.agg ⟨vs⟩)))
def Tt (C:Cx) (t:TypeId) (b off:Nat) (s:CS):Ld :=
 (cells C s b off 1).bind fun vs=>fF (fits (cG C.P t).2 vs) (some (b,off,vs,vs.headD undef))
def B1 (C:Cx) (t:TypeId) (v:Xab) (s:CS):Ld :=
 (uP v).bind fun (b,off)=>(cH C.P t).bind fun g=>match g with
  | true=>Tk C t b off s
  | false=>Tt C t b off s
def yX (s:CS) (o:AO):Option CS :=
 match s.σ.get s.nx with
 | none=>some ⟨s.σ.put s.nx o,s.nx+1⟩
 | some _=>none
def Rf (s:CS) (b off:Nat) (vs:List Xab):Option CS :=
 match s.σ.get b with
 | some (.row c e m)=>fF (!Nat.beq m 2 && vs.all cU && Nat.ble 1 vs.length && Nat.ble (off+vs.length) c.length) (some ⟨s.σ.put b (.row (lh c off vs) e m),s.nx⟩)
 | _=>none
def wc (g:Bool) (v:Xab):Option (List Xab) :=
 match g with
 | true=>AB v
 | false=>fF (!eS v) (some [v])
def GQ (P:Program) (t:TypeId) (p v:Xab) (s:CS):Option CS :=
 (uP p).bind fun (b,off)=>(cH P t).bind fun g=>(wc g v).bind fun l=>fF (Nat.beq l.length (P.cellsOf t)) (Rf s b off l)
def Dl (agg:Nat->Option Bool):List (Nat × Xab)->Option (List (Nat × List Xab))
 | []=>some []
 | (i,v)::l=>(agg i).bind fun g=>(wc g v).bind fun c=>(Dl agg l).bind fun r=>some ((i,c)::r)
def zeroOf (P:Program) (t:TypeId):Option (List Xab) :=
 ((P.info? t).bind (·.zero)).bind fun z=>fF (z.cells.toList.all (fD 9)) (some z.cells.toList)
def IB (P:Program) (fs:Array Field) (z:List Xab) (ps:List (Nat × Xab)):Option Xab :=
 fF (fs.all fun f=>nN P f.type) ((Dl (fun i=>(fs[i]?).bind fun f=>cH P f.type) ps).bind fun d=>(fx (((fs.map fun f=>(f.offset,P.cellsOf f.type)))[·]?) z d).bind fun cs=>some (.agg ⟨cs⟩))
def Ig (P:Program) (d:TypeId) (z:List Xab) (ps:List (Nat × Xab)):Option Xab :=
 fF (nN P d) ((Dl (fun _=>cH P d) ps).bind fun j=>(fx (fun i=>some (i*P.cellsOf d,P.cellsOf d)) z j).bind fun cs=>some (.agg ⟨cs⟩))
def He (P:Program) (t:TypeId) (ps:List (Nat × Xab)):Option Xab :=
 (zeroOf P t).bind fun z=>match P.underlying t with
  | some (.struct fs)=>IB P fs z ps
  | some (.array _ d)=>Ig P d z ps
  | _=>none
structure El where
 e:TypeId
 sz:Nat
 by_:Nat
 z:List Xab
def MS (P:Program) (e:TypeId):Option El :=
 (P.info? e).bind fun i=>i.zero.bind fun z=>fF (z.cells.toList.all (fD 9) && Nat.beq z.cells.size i.size && Nat.ble 1 i.size) (some ⟨e,i.size,i.bytes,z.cells.toList⟩)
def elemOf:Option TypeDesc->Option TypeId
 | some (.slice e)=>some e
 | _=>none
def Nq (P:Program) (t:TypeId):Option El:=(elemOf (P.underlying t)).bind (MS P)
def BY:List (Nat × Xab)->List (Nat × List Xab)
 | []=>[]
 | (i,v)::l=>(i,match AB v with
  | some c=>c
  | none=>[v])::BY l
def Hb (sz:Nat):Nat->List (Nat × List Xab)->Option (List Xab)
 | _,[]=>some []
 | i,(k,c)::l=>fF (Nat.beq k i && Nat.beq c.length sz) ((Hb sz (i+1) l).bind fun r=>some (c++r))
def Nl (q:El) (n:Nat) (ps:List (Nat × List Xab)):Option (List Xab):=fF (Nat.beq ps.length n) (Hb q.sz 0 ps)
def Gi (s:CS) (c:List Xab) (e:TypeId) (m l cap:Nat):VS :=
 (yX s (.row c e m)).bind fun s'=>some (.slice (some ⟨s.nx,0,none⟩) l cap,s')
def MF (P:Program) (t:TypeId) (n:Nat) (ps:List (Nat × Xab)) (s:CS):VS :=
 (Nq P t).bind fun q=>fF (Nat.ble (n*q.sz) 16777216) ((Nl q n (BY ps)).bind fun cs=>Gi s cs q.e 0 n n)
def GR (C:Cx) (sz:Nat) (x:Xab) (s:CS):Option (List Xab) :=
 match x with
 | .slice q m _=>match m with
  | 0=>some []
  | m+1=>(uP (.pointer q)).bind fun (b,off)=>cells C s b off ((m+1)*sz)
 | _=>none
def C1 (q:El) (d l c:Nat):Option AO->Option (List Xab)
 | some (.row cs e' m')=>fF (Nat.beq m' 1 && Nat.beq q.e e' && Nat.ble c qh && Nat.beq d ((qh-c)*q.sz) && Nat.ble (d+l*q.sz) cs.length) (some cs)
 | _=>none
def Ix (s:CS) (q:El) (j d l c m:Nat) (ys:List Xab):VS :=
 (C1 q d l c (s.σ.get j)).bind fun cs=>fF (Nat.beq cs.length (d+l*q.sz))
   (match s.σ.get s.nx with
   | none=>some (.slice (some ⟨s.nx,0,none⟩) (l+m) qh,⟨(s.σ.put j .gone).put s.nx (.row (cs.drop d++ys) q.e 1),s.nx+1⟩)
   | some _=>none)
def OA (C:Cx) (s:CS) (q:El) (d j l c m:Nat) (ys:List Xab):VS :=
 match Nat.ble (l+m) c with
 | true=>(Rf s d (j+l*q.sz) ys).bind fun s=>some (.slice (some ⟨d,j,none⟩) (l+m) c,s)
 | false=>(cells C s d j (l*q.sz)).bind fun old=>Gi s (old++ys) q.e 1 (l+m) qh
def SS (C:Cx) (s:CS) (q:El) (d j l c m:Nat) (ys:List Xab):VS :=
 match Nat.blt c half with
 | true=>OA C s q d j l c m ys
 | false=>Ix s q d j l c m ys
def Td (C:Cx) (s:CS) (q:El) (p:Xac) (l c m:Nat) (ys:List Xab):VS :=
 match p with
 | none=>fF (Nat.beq l 0 && Nat.beq c 0) (Gi s ys q.e 1 m qh)
 | some a=>(uP (.pointer (some a))).bind fun (b,off)=>SS C s q b off l c m ys
def Uo (C:Cx) (q:El) (a x:Xab) (s:CS) (ys:List Xab):VS :=
 match a,x with
 | .slice p l c,.slice _ m _=>fF (Nat.ble ((2*(l+m)+1024)*q.by_) 281474976710656 && Nat.ble (l+m) 281474976710656 && ys.all cU)
   (match m with
   | 0=>some (.slice p l c,s)
   | _+1=>Td C s q p l c m ys)
 | _,_=>none
def DL (C:Cx) (ts:List TypeId) (vs:List Xab) (s:CS):VS :=
 match ts,vs with
 | [t,t'],[a,x]=>fF (Jc (C.P.underlying t')) ((Nq C.P t).bind fun q=>(GR C q.sz x s).bind fun ys=>Uo C q a x s ys)
 | _,_=>none
def VO:AO->Option Nat
 | .wJ D=>some D.length
 | .yF D=>some D.length
 | .yE D=>some D.length
 | _=>none
def TD (s:CS) (D:Option TypeDesc) (v:Xab):Option Xab :=
 match D with
 | some .string=>(match v with
  | .string s=>some (.int .i64 s.size)
  | _=>none)
 | some (.slice _)=>(match v with
  | .slice _ n _=>some (.int .i64 n)
  | _=>none)
 | some (.map _ _)=>(match v with
  | .map (some b)=>((s.σ.get b).bind VO).bind fun n=>some (.int .i64 n)
  | _=>none)
 | _=>none
def KS:List Xab->Option Xab
 | [v]=>some v
 | _=>none
def VU (x:Xaa) (d hi:Option Xab):Option Xab :=
 fF (decide (0<=kz d/\kz d<=kS x.size hi/\kS x.size hi<=x.size)) (some (.string (x.extract (kz d).toNat (kS x.size hi).toNat)))
def Xt (P:Program) (e:TypeId) (b off len cap:Nat) (d hi:Option Xab):Option Xab :=
 fF (nN P e && decide (0<=kz d/\kz d<=kS len hi/\kS len hi<=len/\kz d<len) && (Nat.blt cap half || Nat.ble half (cap-(kz d).toNat))) (some (.slice (some ⟨b,off+(kz d).toNat*P.cellsOf e,none⟩) ((kS len hi).toNat-(kz d).toNat) (cap-(kz d).toNat)))
def rW (P:Program) (t:TypeId) (a:Xab) (d hi:Option Xab):Option Xab :=
 fF (eC d && eC hi) (match P.underlying t with
  | some .string=>(match a with
   | .string x=>VU x d hi
   | _=>none)
  | some (.slice e)=>(match a with
   | .slice (some ⟨b,off,none⟩) len cap=>Xt P e b off len cap d hi
   | _=>none)
  | _=>none)
def Xm (P:Program) (t:TypeId) (d hi j:Option Operand) (a:Xab) (vs:List Xab):Option Xab :=
 match j,d,hi,vs with
 | none,none,none,[]=>rW P t a none none
 | none,some _,none,[l]=>rW P t a (some l) none
 | none,none,some _,[h]=>rW P t a none (some h)
 | none,some _,some _,[l,h]=>rW P t a (some l) (some h)
 | _,_,_,_=>none
def atIdx (P:Program) (b off len:Nat) (d:TypeId) (n:Int):Option Xab :=
 fF (nN P d && decide (0<=n/\n<len)) (some (.pointer (some ⟨b,off+n.toNat*P.cellsOf d,none⟩)))
def intOf:Xab->Option Int
 | .int _ n=>some n
 | _=>none
def Pm (P:Program) (t:TypeId) (v i:Xab):Option Xab :=
 (intOf i).bind fun n=>match P.underlying t with
 | some (.slice d)=>(match v with
  | .slice (some ⟨b,off,none⟩) len _=>atIdx P b off len d n
  | _=>none)
 | some (.array len d)=>(uP v).bind fun (b,off)=>atIdx P b off len d n
 | _=>none
def UX (P:Program) (t:TypeId) (v i:Xab):Option Xab :=
 (intOf i).bind fun n=>match v with
 | .string s=>fF (xv (P.underlying t) && decide (0<=n/\n<s.size)) (some (.int .u8 (cw s n)))
 | _=>none
def LS (P:Program) (t:TypeId) (off:Nat) (cs:List Xab):Option Xab :=
 (cH P t).bind fun g=>match g with
 | true=>some (.agg ⟨(cs.drop off).take (P.cellsOf t)⟩)
 | false=>cs[off]?
def Jd (P:Program) (t:TypeId) (f:Nat):Option Field :=
 match P.underlying t with
 | some (.struct fs)=>fs[f]?
 | _=>none
def DW (P:Program) (t:TypeId) (f:Nat) (v:Xab):Option Xab :=
 (uP v).bind fun (b,off)=>(Jd P t f).bind fun fd=>fF (Nat.ble 1 (P.cellsOf fd.type)) (some (.pointer (some ⟨b,off+fd.offset,none⟩)))
def vW (a b:Nat × Xaa):Bool:=Nat.beq a.1 b.1 && oT a.2 b.2
def qb (a b:Nat × Nat):Bool:=Nat.beq a.1 b.1 && Nat.beq a.2 b.2
def kO {α:Type} (q:α->α->Bool) (s:α):List (α × Xab)->Option Xab
 | []=>none
 | p::D=>match q s p.1 with
  | true=>some p.2
  | false=>kO q s D
def yK {α:Type} (q:α->α->Bool) (s:α) (v:Xab):List (α × Xab)->List (α × Xab)
 | []=>[(s,v)]
 | p::D=>match q s p.1 with
  | true=>(p.1,v)::D
  | false=>p::yK q s v D
def OR:Option TypeDesc->Option (TypeId × TypeId)
 | some (.map k e)=>some (k,e)
 | _=>none
def PO:Xab->Option (Nat × Xaa)
 | .agg ⟨[.int .i64 (.ofNat n),.string y]⟩=>some (n,y)
 | _=>none
def Ri:Xab->Option (Nat × Nat)
 | .agg ⟨[.int .i64 (.ofNat n),.int .i64 (.ofNat m)]⟩=>some (n,m)
 | _=>none
def Vl (C:Cx) (k:TypeId):Bool:=Nat.beq k C.kt || Nat.beq k C.ku
def Vk (C:Cx) (k:TypeId):Bool:=Nat.blt 0 C.ki && Nat.beq k C.ki
def Pe:Xab->Option Xaa
 | .string y=>some y
 | _=>none
def Yh (y:Xaa):AO->Option (Option Xab)
 | .wJ D=>some (kO oT y D)
 | _=>none
def Yp (y:Nat × Xaa):AO->Option (Option Xab)
 | .yF D=>some (kO vW y D)
 | _=>none
def Yb (y:Nat × Nat):AO->Option (Option Xab)
 | .yE D=>some (kO qb y D)
 | _=>none
def Vw (x:Xab) (s:CS):Xab->Option (Option Xab)
 | .map (some b)=>(Ri x).bind fun y=>(s.σ.get b).bind (Yb y)
 | _=>none
def WW (x:Xab) (s:CS):Xab->Option (Option Xab)
 | .map (some b)=>(PO x).bind fun y=>(s.σ.get b).bind (Yp y)
 | _=>none
def VL (x:Xab) (s:CS):Xab->Option (Option Xab)
 | .map none=>(Pe x).bind fun _=>some none
 | .map (some b)=>(Pe x).bind fun y=>(s.σ.get b).bind (Yh y)
 | _=>none
def NF (C:Cx) (k:TypeId) (m x:Xab) (s:CS):Option (Option Xab) :=
 match Vl C k with
 | true=>WW x s m
 | false=>match Vk C k with
  | true=>Vw x s m
  | false=>fF (xv (C.P.underlying k)) (VL x s m)
def Lz (P:Program) (d:TypeId):Option Xab:=((P.info? d).bind (·.zero)).bind Gf
def Tf (ok:Bool) (z:Xab) (r:Option Xab):Xab :=
 match ok with
 | true=>.tuple ⟨[r.getD z,.bool r.isSome]⟩
 | false=>r.getD z
def MP (C:Cx) (t:TypeId) (m x:Xab) (ok:Bool) (s:CS):Option Xab :=
 (OR (C.P.underlying t)).bind fun (k,d)=>(Lz C.P d).bind fun z=>(NF C k m x s).bind fun r=>fF (C' (cG C.P d) (r.getD z)) (some (Tf ok z r))
def Oc (C:Cx) (k:TypeId) (b:Nat) (x v:Xab) (s:CS):AO->Option CS
 | .wJ D=>fF (xv (C.P.underlying k)) ((Pe x).bind fun y=>fF (Nat.ble y.size maxLen) (some ⟨s.σ.put b (.wJ (yK oT y v D)),s.nx⟩))
 | .yF D=>fF (Vl C k) ((PO x).bind fun y=>some ⟨s.σ.put b (.yF (yK vW y v D)),s.nx⟩)
 | .yE D=>fF (Vk C k) ((Ri x).bind fun y=>some ⟨s.σ.put b (.yE (yK qb y v D)),s.nx⟩)
 | _=>none
def Va (C:Cx) (t:TypeId) (m x v:Xab) (s:CS):Option CS :=
 match m with
 | .map (some b)=>(OR (C.P.underlying t)).bind fun (k,_)=>(s.σ.get b).bind fun o=>Oc C k b x v s o
 | _=>none
def Hy (C:Cx) (t:TypeId) (s:CS):VS :=
 (OR (C.P.underlying t)).bind fun q=>match Vl C q.1 with
 | true=>(yX s (.yF [])).bind fun s'=>some (.map (some s.nx),s')
 | false=>match Vk C q.1 with
  | true=>(yX s (.yE [])).bind fun s'=>some (.map (some s.nx),s')
  | false=>fF (xv (C.P.underlying q.1)) ((yX s (.wJ [])).bind fun s'=>some (.map (some s.nx),s'))
def IG:Xab->Option Nat
 | .int _ (.ofNat n)=>some n
 | _=>none
def zK (P:Program) (t:TypeId) (l c:Xab) (s:CS):VS :=
 (IG l).bind fun l=>(IG c).bind fun c=>(Nq P t).bind fun q=>fF (Nat.ble l c && Nat.ble (c*q.by_) 16777216 && Nat.ble c 16777216) (Gi s (List.replicate c q.z).flatten q.e 0 l c)
def DZ (x:Xaa):List Xaa->List Xaa
 | []=>[x]
 | y::l=>match Op.bytesLess x.data.toList y.data.toList with
  | true=>x::y::l
  | false=>y::DZ x l
def rm:List Xaa->List Xaa
 | []=>[]
 | x::l=>DZ x (rm l)
def OY (D:List (Xaa × Xab)) (s:CS):VS :=
 match D with
 | []=>some (.slice none 0 0,s)
 | _::_=>Gi s ((rm (D.map (·.1))).map .string) 9 1 D.length qh
def Jb (s:CS):AO->VS
 | .wJ D=>fF (Nat.ble D.length 1024) (OY D s)
 | _=>none
def Mi:Xab->Option Nat
 | .map (some b)=>some b
 | _=>none
def Oy (C:Cx):Xab->Option (Nat × Nat)
 | .func (.func f) ⟨[]⟩ ⟨[p]⟩=>fF (Nat.beq f C.seq) (uP p)
 | _=>none
def Wi:Option AO->Option (List Xab)
 | some (.row c _ m)=>fF (Nat.beq m 0) (some c)
 | _=>none
def DA (C:Cx) (vs:List Xab) (s:CS):VS :=
 (KS vs).bind fun v=>(Oy C v).bind fun (q,off)=>fF (Nat.beq off 0) ((Wi (s.σ.get q)).bind fun l=>(KS l).bind fun m=>(Mi m).bind fun b=>(s.σ.get b).bind (Jb s))
def RD (vs:List Xab):Option Xab :=
 match vs with
 | [.int .i64 (.ofNat a),.int .i64 (.ofNat b)]=>some (.int .i64 (.ofNat (Nat.min a b)))
 | _=>none
def My (vs:List Xab):Option Xab :=
 match vs with
 | [.string x,.int .u8 n]=>some (.int .i64 (Lib.indexByte x.data.toList n.toNat.toUInt8))
 | _=>none
abbrev fY:=FuncId->List Xab->CS->VS
def val (s:CS) (v:Option Xab):VS:=v.bind fun v=>some (v,s)
def done (r:Option CS):VS:=r.bind fun s=>some (undef,s)
def Nt (C:Cx) (e:Ev) (s:CS) (c a b:Operand):VS :=
 (kA C e c).bind fun v=>match v with
 | .bool true=>val s (kA C e a)
 | .bool false=>val s (kA C e b)
 | _=>none
def De (s:CS) (t:TypeId) (l:List Xab):VS:=(yX s (.row l t 0)).bind fun s'=>some (.pointer (some ⟨s.nx,0,none⟩),s')
def XA (C:Cx) (e:Ev) (s:CS) (t:TypeId) (x:Operand):VS:=(kA C e x).bind fun v=>(cH C.P t).bind fun g=>(wc g v).bind fun l=>De s t l
def WG (ps:Array (Nat × Operand)) (vs:List Xab):List (Nat × Xab):=(ps.toList.map (·.1)).zip vs
def TG (C:Cx) (e:Ev) (s:CS) (t:TypeId) (ps:Array (Nat × Operand)):VS:=(zY C e (ps.toList.map (·.2))).bind fun vs=>val s (He C.P t (WG ps vs))
def Qr (C:Cx) (e:Ev) (s:CS) (t:TypeId) (n:Nat) (ps:Array (Nat × Operand)):VS:=(zY C e (ps.toList.map (·.2))).bind fun vs=>MF C.P t n (WG ps vs) s
def VJ (C:Cx) (e:Ev) (s:CS) (t:TypeId) (x:Operand):VS:=(kA C e x).bind fun v=>(B1 C t v s).bind fun (_,_,_,v)=>some (v,s)
def UP (C:Cx) (e:Ev) (s:CS) (t:TypeId) (x y:Operand):VS:=(kA C e x).bind fun p=>(kA C e y).bind fun v=>done (GQ C.P t p v s)
def notNil:Xab->Option Xab
 | .pointer (some a)=>some (.pointer (some a))
 | _=>none
def XD (C:Cx) (e:Ev) (s:CS) (x:Operand):VS:=(kA C e x).bind fun v=>val s (notNil v)
def Xl (C:Cx) (e:Ev) (s:CS) (op:BinOp) (t:TypeId) (x y:Operand):VS:=(kA C e x).bind fun a=>(kA C e y).bind fun b=>val s (UR C.P op t x y a b)
def Yq (C:Cx) (e:Ev) (s:CS) (op:UnOp) (x:Operand):VS:=(kA C e x).bind fun a=>val s (Xy op a)
def Vt (C:Cx) (e:Ev) (s:CS) (a d:TypeId) (x:Operand):VS:=(kA C e x).bind fun v=>val s (L8 C.P a d v)
def VN (C:Cx) (e:Ev) (s:CS) (f:FuncId) (d ca:Array Operand):VS:=(zY C e d.toList).bind fun d=>(zY C e ca.toList).bind fun ca=>some (.func (.func f) ⟨d⟩ ⟨ca⟩,s)
def V2 (C:Cx) (e:Ev) (s:CS) (t:TypeId) (l c:Operand):VS:=(kA C e l).bind fun l=>(kA C e c).bind fun c=>zK C.P t l c s
def WQ (C:Cx) (e:Ev) (s:CS) (t:TypeId) (m x:Operand) (ok:Bool):VS:=(kA C e m).bind fun m=>(kA C e x).bind fun x=>val s (MP C t m x ok s)
def Xh (C:Cx) (e:Ev) (s:CS) (t:TypeId) (m x v:Operand):VS:=(kA C e m).bind fun m=>(kA C e x).bind fun x=>(kA C e v).bind fun v=>done (Va C t m x v s)
def T5 (C:Cx) (e:Ev) (s:CS) (t:TypeId) (x:Operand) (d hi j:Option Operand):VS :=
 (kA C e x).bind fun a=>(zY C e (d.toList++hi.toList++j.toList)).bind fun vs=>val s (Xm C.P t d hi j a vs)
def Qf (C:Cx) (e:Ev) (s:CS) (t:TypeId) (x:Operand) (f:Nat):VS:=(kA C e x).bind fun v=>val s (DW C.P t f v)
def U7 (C:Cx) (e:Ev) (s:CS) (t:TypeId) (x:Operand) (f:Nat):VS:=(kA C e x).bind fun v=>(AB v).bind fun cs=>(Jd C.P t f).bind fun fd=>val s (LS C.P fd.type fd.offset cs)
def V9 (C:Cx) (e:Ev) (s:CS) (t:TypeId) (x i:Operand):VS:=(kA C e x).bind fun v=>(kA C e i).bind fun i=>val s (Pm C.P t v i)
def XH (C:Cx) (e:Ev) (s:CS) (t:TypeId) (x i:Operand):VS:=(kA C e x).bind fun v=>(kA C e i).bind fun i=>val s (UX C.P t v i)
def VM (C:Cx) (e:Ev) (s:CS) (x:Operand) (i:Nat):VS:=(kA C e x).bind fun v=>(NK v).bind fun vs=>val s vs[i]?
def AA (P:Program) (t:TypeId) (r:VS):VS:=r.bind fun (v,s)=>fF (HB (lf P t) v) (some (v,s))
def Hx (C:Cx) (call:fY) (t:TypeId) (s:CS) (f:FuncId) (vs:List Xab):VS :=
 match fK C.P f with
 | true=>AA C.P t (match Nat.beq f C.SU with
  | true=>DA C vs s
  | false=>call f vs s)
 | false=>fF (Nat.beq f C.idx) (AA C.P t (val s (My vs)))
def NN (C:Cx) (call:fY) (t:TypeId) (s:CS) (g:Xab) (vs:List Xab):VS :=
 match g with
 | .func (.func f) ⟨d⟩ ⟨ca⟩=>fF (fK C.P f) (AA C.P t (call f (d++vs++ca) s))
 | _=>none
def Tj (P:Program) (t:TypeId) (v:Xab):Option Xab:=fF (C' (cG P t) v) (some v)
def zG (C:Cx) (b:Builtin) (t:TypeId) (c:Call) (vs:List Xab) (s:CS):VS :=
 match b with
 | .len=>(KS vs).bind fun v=>val s (TD s ((c.argTypes[0]?).bind C.P.underlying) v)
 | .append=>DL C c.argTypes.toList vs s
 | .min=>val s ((RD vs).bind (Tj C.P t))
 | _=>none
def Pw (C:Cx) (call:fY) (e:Ev) (s:CS) (t:TypeId) (c:Call):VS :=
 (zY C e c.args.toList).bind fun vs=>match c.callee with
 | .builtin b=>zG C b t c vs s
 | .value (.func f)=>Hx C call t s f vs
 | .value (.tmp g)=>(e.get g).bind fun g=>NN C call t s g vs
 | _=>none
def Vi (C:Cx) (call:fY) (o:Oper) (e:Ev) (s:CS):VS :=
 match o.op with
 | .move x=>val s (kA C e x)
 | .assign x=>val s (kA C e x)
 | .pick c a b=>Nt C e s c a b
 | .alloc t=>(zeroOf C.P t).bind (De s t)
 | .box t x=>XA C e s t x
 | .build t ps=>TG C e s t ps
 | .buildSlice t n ps=>Qr C e s t n ps
 | .load t x=>VJ C e s t x
 | .store t x y=>UP C e s t x y
 | .nilCheck x=>XD C e s x
 | .binOp op t x y _=>Xl C e s op t x y
 | .unOp op _ x=>Yq C e s op x
 | .convert a d x=>Vt C e s a d x
 | .makeFunc (.func f) j ca=>VN C e s f j ca
 | .makeMap t none=>Hy C t s
 | .makeSlice t l c=>V2 C e s t l c
 | .lookup t m x ok=>WQ C e s t m x ok
 | .mapUpdate t m x v=>Xh C e s t m x v
 | .slice t x u hi F=>T5 C e s t x u hi F
 | .fieldAddr t x f=>Qf C e s t x f
 | .field t x f=>U7 C e s t x f
 | .indexAddr t x i=>V9 C e s t x i
 | .index t x i=>XH C e s t x i
 | .extract x i=>VM C e s x i
 | .call c=>Pw C call e s o.type c
 | _=>none
def SV (want:Bool):Xab->Option Bool
 | .bool b=>some (b==want)
 | .tuple _=>some false
 | _=>none
def CC (ops:Array Oper) (o:Oper) (e:Ev):Option Bool :=
 match guardOf ops o with
 | none=>some true
 | some (none,_)=>some false
 | some (some d,want)=>(e.get d).bind (SV want)
def forced {α:Type} (v:Xab) (k:Xab->α):α :=
 match v with
 | .int d n=>match n with
  | .ofNat m=>match m with
   | 0=>k (.int d (.ofNat 0))
   | m+1=>k (.int d (.ofNat (m+1)))
  | .negSucc m=>k (.int d (.negSucc m))
 | .bool b=>match b with
  | true=>k (.bool true)
  | false=>k (.bool false)
 | v=>k v
def Dh (n:Nat) (e:Ev) (dst:Option Tmp) (v:Xab):Ev :=
 match dst with
 | none=>e
 | some d=>match Nat.blt d n with
  | true=>forced v (e.put d)
  | false=>e
abbrev ES:=Option (Ev × CS)
def Yk (n:Nat) (e:Ev) (dst:Option Tmp) (r:VS) (k:Ev->CS->ES):ES:=r.bind fun (v,s)=>k (Dh n e dst v) s
def QO (C:Cx) (call:fY) (n:Nat) (ops:Array Oper):List Oper->Ev->CS->ES
 | [],e,s=>some (e,s)
 | o::rest,e,s=>(CC ops o e).bind fun w=>match w with
  | true=>Yk n e o.dst (Vi C call o e s) (QO C call n ops rest)
  | false=>QO C call n ops rest (Dh n e o.dst undef) s
end
end Go.Sx.Cr
