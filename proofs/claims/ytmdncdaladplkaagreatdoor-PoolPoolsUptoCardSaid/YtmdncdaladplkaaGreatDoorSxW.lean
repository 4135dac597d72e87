/- Part of the framework. No condition. -/
import Derived.Test.YtmdncdaladplkaaGreatDoorSxV
set_option linter.all false
set_option maxHeartbeats 4000000
namespace Go.Sx.Cr
noncomputable section
abbrev Ev:=dU Xab
structure CS where
 σ:dU AO
 nx:Nat
abbrev VS:=Option (Xab × CS)
def fY {α:Type} (b:Bool) (k:Option α):Option α :=
 match b with
 | true=>k
 | false=>none
def bt {α:Type} {b:Bool} {k:Option α} {x:α}:fY b k=some x↔b=true/\k=some x:=by
 cases b <;> simp [fY]
def HD (v:Xab):Option Xab:=fY (fQ 9 v) (some v)
def U0 (C:Cx) (g:Nat):Option Xab:=fY (Nat.blt g C.ng) (some (.pointer (some ⟨g,0,none⟩)))
def kU (C:Cx) (e:Ev):Operand->Option Xab
 | .tmp t=>e.get t
 | .const v=>HD v
 | .func f=>some (.func (.func f) #[] #[])
 | .global g=>U0 C g
def A' (C:Cx) (e:Ev):List Operand->Option (List Xab)
 | []=>some []
 | x::xs=>(kU C e x).bind fun v=>(A' C e xs).bind fun l=>some (v::l)
def NF (op:BinOp) (k:IntKind) (m n:Int):Option Xab :=
 match op with
 | .add=>some (.int k (k.wrap (m+n)))
 | .sub=>some (.int k (k.wrap (m-n)))
 | .mul=>some (.int k (k.wrap (m*n)))
 | .quo=>fY (!decide (n=0)) (some (.int k (k.wrap (m.tdiv n))))
 | .rem=>fY (!decide (n=0)) (some (.int k (m.tmod n)))
 | .eql=>some (.bool (m==n))
 | .neq=>some (.bool (m != n))
 | .lss=>some (.bool (decide (m<n)))
 | .leq=>some (.bool (decide (m<=n)))
 | .gtr=>some (.bool (decide (m>n)))
 | .geq=>some (.bool (decide (m>=n)))
 | .and=>some (.int k (Fe .and k m n))
 | .or=>some (.int k (Fe .or k m n))
 | .xor=>some (.int k (Fe .xor k m n))
 | .andNot=>some (.int k (Fe .andNot k m n))
 | _=>none
def QV (op:BinOp) (x y:Xaa):Option Xab :=
 match op with
 | .add=>fY (decide (((x.size+y.size:Nat):Int)<=IntKind.i64.max)) (some (.string (x++y)))
 | .eql=>some (.bool (x.data.toList==y.data.toList))
 | .neq=>some (.bool !(x.data.toList==y.data.toList))
 | .lss=>some (.bool (Op.bytesLess x.data.toList y.data.toList))
 | .leq=>some (.bool (Op.bytesLess x.data.toList y.data.toList || x.data.toList==y.data.toList))
 | .gtr=>some (.bool !(Op.bytesLess x.data.toList y.data.toList || x.data.toList==y.data.toList))
 | .geq=>some (.bool !(Op.bytesLess x.data.toList y.data.toList))
 | _=>none
def qL (op:BinOp) (b:Bool):Option Xab :=
 match op with
 | .eql=>some (.bool b)
 | .neq=>some (.bool !b)
 | _=>none
def NH:Option TypeDesc->Bool
 | some (.pointer _)=>true
 | _=>false
def KS:Option TypeDesc->Bool
 | some (.slice _)=>true
 | _=>false
def KA:Option TypeDesc->Bool
 | some .bool=>true
 | _=>false
def yf:Option TypeDesc->Bool
 | some .string=>true
 | _=>false
def Rz (P:Program) (op:BinOp) (t:TypeId) (a b:Xab):Option Xab :=
 match a,b with
 | .int k m,.int k' n=>fY (!nD op && decide (k=k')) (NF op k m n)
 | .string m,.string n=>QV op m n
 | .bool m,.bool n=>fY (KA (P.underlying t)) (qL op (m==n))
 | .pointer p,.pointer _=>fY (NH (P.underlying t)) (qL op p.isNone)
 | .slice p _ _,.slice _ _ _=>fY (KS (P.underlying t)) (qL op p.isNone)
 | _,_=>none
def pH (a b:Xaa):Bool:=a.data.toList==b.data.toList
def Fa:Xab->Xab->Bool
 | .int _ a,.int _ b=>a==b
 | .string a,.string b=>pH a b
 | .bool a,.bool b=>a==b
 | _,_=>false
def VL (P:Program) (op:BinOp) (t:TypeId) (a b:Xab):Option Xab :=
 match a,b,P.underlying t with
 | .agg xs,.agg ys,some (.struct c) =>
  fY (!(P.stoodInHeld t) && !(P.eqGuardType P.depth t) && c.all (okF P xs ys)) (qL op (c.all fun f=>Fa (xs[f.offset]?.getD .nilIface) (ys[f.offset]?.getD .nilIface)))
 | _,_,_=>none
def W1 (P:Program) (op:BinOp) (t:TypeId) (x y:Operand) (a b:Xab):Option Xab :=
 match sP P t x y with
 | true=>Rz P op t a b
 | false=>VL P op t a b
def ZL (op:UnOp) (a:Xab):Option Xab :=
 match op,a with
 | .neg,.int k n=>some (.int k (k.wrap (0-n)))
 | .not,.bool b=>some (.bool !b)
 | _,_=>none
def N2 (P:Program) (s d:TypeId) (a:Xab):Option Xab :=
 match P.underlying s,P.underlying d,a with
 | some (.int _),some (.int k),.int _ n=>some (.int k (k.wrap n))
 | some .string,some .string,.string x=>some (.string x)
 | _,_,_=>none
def xe:TypeDesc->Xab->Bool
 | .bool,.bool _=>true
 | .bool,_=>false
 | .int k,.int k' _=>decide (k=k')
 | .int _,_=>false
 | .string,.string _=>true
 | .string,_=>false
 | .pointer _,.pointer _=>true
 | .pointer _,_=>false
 | .slice _,.slice _ _ _=>true
 | .slice _,_=>false
 | .map _ _,.map _=>true
 | .map _ _,_=>false
 | _,_=>true
def fits:List TypeDesc->List Xab->Bool
 | [],[]=>true
 | d::a,v::b=>xe d v && fits a b
 | _,_=>false
def BA:Xab->Option (List Xab)
 | .agg ⟨l⟩=>some l
 | _=>none
def Ed (c:ee) (v:Xab):Bool :=
 match c with
 | (true,a)=>(BA v).elim false (fits a)
 | (false,a)=>fits a [v]
def Bf:List ee->List Xab->Bool
 | [],[]=>true
 | c::cs,v::a=>Ed c v && Bf cs a
 | _,_=>false
def PI:Xab->Option (List Xab)
 | .tuple ⟨l⟩=>some l
 | _=>none
def Jj (q:Bool × List ee) (v:Xab):Bool :=
 match q with
 | (true,cs)=>(PI v).elim false (Bf cs)
 | (false,cs)=>Bf cs [v]
def Pd (C:Cx) (b off n:Nat):Option AO->Option (List Xab)
 | some (.row c _ _)=>N0 off n c
 | some .gone=>(C.ro b).bind fun c=>N0 off n c
 | _=>none
def cells (C:Cx) (s:CS) (b off n:Nat):Option (List Xab):=Pd C b off n (s.σ.get b)
def vM:Xab->Option (Nat × Nat)
 | .pointer (some ⟨b,off,none⟩)=>some (b,off)
 | _=>none
abbrev Ld:=Option (Nat × Nat × List Xab × Xab)
def Vf (C:Cx) (t:TypeId) (b off:Nat) (s:CS):Ld :=
 fY (Nat.beq (fv C.P 9 t).length (C.P.cellsOf t)) ((cells C s b off (fv C.P 9 t).length).bind fun a=>fY (fits (fv C.P 9 t) a) (some (b,off,a,.agg ⟨a⟩)))
def Vo (C:Cx) (t:TypeId) (b off:Nat) (s:CS):Ld :=
 (cells C s b off 1).bind fun a=>fY (fits (cJ C.P t).2 a) (some (b,off,a,a.headD undef))
def C3 (C:Cx) (t:TypeId) (v:Xab) (s:CS):Ld :=
 (vM v).bind fun (b,off)=>(cK C.P t).bind fun g=>match g with
  | true=>Vf C t b off s
  | false=>Vo C t b off s
def zY (s:CS) (o:AO):Option CS :=
 match s.σ.get s.nx with
 | none=>some ⟨s.σ.put s.nx o,s.nx+1⟩
 | some _=>none
def Tr (s:CS) (b off:Nat) (a:List Xab):Option CS :=
 match s.σ.get b with
 | some (.row c e m)=>fY (!Nat.beq m 2 && a.all dl && Nat.ble 1 a.length && Nat.ble (off+a.length) c.length) (some ⟨s.σ.put b (.row (lN c off a) e m),s.nx⟩)
 | _=>none
def wX (g:Bool) (v:Xab):Option (List Xab) :=
 match g with
 | true=>BA v
 | false=>fY (!fk v) (some [v])
def Ij (P:Program) (t:TypeId) (p v:Xab) (s:CS):Option CS :=
 (vM p).bind fun (b,off)=>(cK P t).bind fun g=>(wX g v).bind fun l=>fY (Nat.beq l.length (P.cellsOf t)) (Tr s b off l)
def Et (agg:Nat->Option Bool):List (Nat × Xab)->Option (List (Nat × List Xab))
 | []=>some []
 | (i,v)::l=>(agg i).bind fun g=>(wX g v).bind fun c=>(Et agg l).bind fun r=>some ((i,c)::r)
def zeroOf (P:Program) (t:TypeId):Option (List Xab) :=
 ((P.info? t).bind (·.zero)).bind fun z=>fY (z.cells.toList.all (fQ 9)) (some z.cells.toList)
def Kk (P:Program) (a:Array Field) (z:List Xab) (ps:List (Nat × Xab)):Option Xab :=
 fY (a.all fun f=>ot P f.type) ((Et (fun i=>(a[i]?).bind fun f=>cK P f.type) ps).bind fun b=>(fM (((a.map fun f=>(f.offset,P.cellsOf f.type)))[·]?) z b).bind fun cs=>some (.agg ⟨cs⟩))
def JZ (P:Program) (a:TypeId) (z:List Xab) (ps:List (Nat × Xab)):Option Xab :=
 fY (ot P a) ((Et (fun _=>cK P a) ps).bind fun b=>(fM (fun i=>some (i*P.cellsOf a,P.cellsOf a)) z b).bind fun cs=>some (.agg ⟨cs⟩))
def IT (P:Program) (t:TypeId) (ps:List (Nat × Xab)):Option Xab :=
 (zeroOf P t).bind fun z=>match P.underlying t with
  | some (.struct a)=>Kk P a z ps
  | some (.array _ b)=>JZ P b z ps
  | _=>none
structure El where
 e:TypeId
 sz:Nat
 by_:Nat
 z:List Xab
def OP (P:Program) (e:TypeId):Option El :=
 (P.info? e).bind fun i=>i.zero.bind fun z=>fY (z.cells.toList.all (fQ 9) && Nat.beq z.cells.size i.size && Nat.ble 1 i.size) (some ⟨e,i.size,i.bytes,z.cells.toList⟩)
def elemOf:Option TypeDesc->Option TypeId
 | some (.slice e)=>some e
 | _=>none
def Pq (P:Program) (t:TypeId):Option El:=(elemOf (P.underlying t)).bind (OP P)
def oQ:List (Nat × Xab)->List (Nat × List Xab)
 | []=>[]
 | (i,v)::l=>(i,match BA v with
  | some c=>c
  | none=>[v])::oQ l
def IP (sz:Nat):Nat->List (Nat × List Xab)->Option (List Xab)
 | _,[]=>some []
 | i,(k,c)::l=>fY (Nat.beq k i && Nat.beq c.length sz) ((IP sz (i+1) l).bind fun r=>some (c++r))
def Pk (q:El) (n:Nat) (ps:List (Nat × List Xab)):Option (List Xab):=fY (Nat.beq ps.length n) (IP q.sz 0 ps)
def HH (s:CS) (c:List Xab) (e:TypeId) (m l cap:Nat):VS :=
 (zY s (.row c e m)).bind fun a=>some (.slice (some ⟨s.nx,0,none⟩) l cap,a)
def OC (P:Program) (t:TypeId) (n:Nat) (ps:List (Nat × Xab)) (s:CS):VS :=
 (Pq P t).bind fun q=>fY (Nat.ble (n*q.sz) 16777216) ((Pk q n (oQ ps)).bind fun cs=>HH s cs q.e 0 n n)
def Ik (C:Cx) (sz:Nat) (x:Xab) (s:CS):Option (List Xab) :=
 match x with
 | .slice q m _=>match m with
  | 0=>some []
  | m+1=>(vM (.pointer q)).bind fun (b,off)=>cells C s b off ((m+1)*sz)
 | _=>none
def D5 (q:El) (a l c:Nat):Option AO->Option (List Xab)
 | some (.row cs b d)=>fY (Nat.beq d 1 && Nat.beq q.e b && Nat.ble c qT && Nat.beq a ((qT-c)*q.sz) && Nat.ble (a+l*q.sz) cs.length) (some cs)
 | _=>none
def Kg (s:CS) (q:El) (b a l c m:Nat) (ys:List Xab):VS :=
 (D5 q a l c (s.σ.get b)).bind fun cs=>fY (Nat.beq cs.length (a+l*q.sz))
   (match s.σ.get s.nx with
   | none=>some (.slice (some ⟨s.nx,0,none⟩) (l+m) qT,⟨(s.σ.put b .gone).put s.nx (.row (cs.drop a++ys) q.e 1),s.nx+1⟩)
   | some _=>none)
def QC (C:Cx) (s:CS) (q:El) (a b l c m:Nat) (ys:List Xab):VS :=
 match Nat.ble (l+m) c with
 | true=>(Tr s a (b+l*q.sz) ys).bind fun s=>some (.slice (some ⟨a,b,none⟩) (l+m) c,s)
 | false=>(cells C s a b (l*q.sz)).bind fun old=>HH s (old++ys) q.e 1 (l+m) qT
def US (C:Cx) (s:CS) (q:El) (a b l c m:Nat) (ys:List Xab):VS :=
 match Nat.blt c half with
 | true=>QC C s q a b l c m ys
 | false=>Kg s q a b l c m ys
def Vb (C:Cx) (s:CS) (q:El) (p:Xac) (l c m:Nat) (ys:List Xab):VS :=
 match p with
 | none=>fY (Nat.beq l 0 && Nat.beq c 0) (HH s ys q.e 1 m qT)
 | some a=>(vM (.pointer (some a))).bind fun (b,off)=>US C s q b off l c m ys
def Wt (C:Cx) (q:El) (a x:Xab) (s:CS) (ys:List Xab):VS :=
 match a,x with
 | .slice p l c,.slice _ m _=>fY (Nat.ble ((2*(l+m)+1024)*q.by_) 281474976710656 && Nat.ble (l+m) 281474976710656 && ys.all dl)
   (match m with
   | 0=>some (.slice p l c,s)
   | _+1=>Vb C s q p l c m ys)
 | _,_=>none
def EX (C:Cx) (ts:List TypeId) (b:List Xab) (s:CS):VS :=
 match ts,b with
 | [t,c],[a,x]=>fY (KS (C.P.underlying c)) ((Pq C.P t).bind fun q=>(Ik C q.sz x s).bind fun ys=>Wt C q a x s ys)
 | _,_=>none
def X6:AO->Option Nat
 | .xC D=>some D.length
 | .zx D=>some D.length
 | .zw D=>some D.length
 | _=>none
def VC (s:CS) (D:Option TypeDesc) (v:Xab):Option Xab :=
 match D with
 | some .string=>(match v with
  | .string s=>some (.int .i64 s.size)
  | _=>none)
 | some (.slice _)=>(match v with
  | .slice _ n _=>some (.int .i64 n)
  | _=>none)
 | some (.map _ _)=>(match v with
  | .map (some b)=>((s.σ.get b).bind X6).bind fun n=>some (.int .i64 n)
  | _=>none)
 | _=>none
def MO:List Xab->Option Xab
 | [v]=>some v
 | _=>none
def X' (x:Xaa) (lo hi:Option Xab):Option Xab :=
 fY (decide (0<=kT lo/\kT lo<=lA x.size hi/\lA x.size hi<=x.size)) (some (.string (x.extract (kT lo).toNat (lA x.size hi).toNat)))
def ZG (P:Program) (e:TypeId) (b off len cap:Nat) (lo hi:Option Xab):Option Xab :=
 fY (ot P e && decide (0<=kT lo/\kT lo<=lA len hi/\lA len hi<=len/\kT lo<len) && (Nat.blt cap half || Nat.ble half (cap-(kT lo).toNat))) (some (.slice (some ⟨b,off+(kT lo).toNat*P.cellsOf e,none⟩) ((lA len hi).toNat-(kT lo).toNat) (cap-(kT lo).toNat)))
def sV (P:Program) (t:TypeId) (a:Xab) (lo hi:Option Xab):Option Xab :=
 fY (eO lo && eO hi) (match P.underlying t with
  | some .string=>(match a with
   | .string x=>X' x lo hi
   | _=>none)
  | some (.slice e)=>(match a with
   | .slice (some ⟨b,off,none⟩) len cap=>ZG P e b off len cap lo hi
   | _=>none)
  | _=>none)
def Zx (P:Program) (t:TypeId) (lo hi b:Option Operand) (a:Xab) (c:List Xab):Option Xab :=
 match b,lo,hi,c with
 | none,none,none,[]=>sV P t a none none
 | none,some _,none,[l]=>sV P t a (some l) none
 | none,none,some _,[h]=>sV P t a none (some h)
 | none,some _,some _,[l,h]=>sV P t a (some l) (some h)
 | _,_,_,_=>none
def atIdx (P:Program) (b off len:Nat) (a:TypeId) (n:Int):Option Xab :=
 fY (ot P a && decide (0<=n/\n<len)) (some (.pointer (some ⟨b,off+n.toNat*P.cellsOf a,none⟩)))
def intOf:Xab->Option Int
 | .int _ n=>some n
 | _=>none
def Rv (P:Program) (t:TypeId) (v i:Xab):Option Xab :=
 (intOf i).bind fun n=>match P.underlying t with
 | some (.slice a)=>(match v with
  | .slice (some ⟨b,off,none⟩) len _=>atIdx P b off len a n
  | _=>none)
 | some (.array len a)=>(vM v).bind fun (b,off)=>atIdx P b off len a n
 | _=>none
def W6 (P:Program) (t:TypeId) (v i:Xab):Option Xab :=
 (intOf i).bind fun n=>match v with
 | .string s=>fY (yf (P.underlying t) && decide (0<=n/\n<s.size)) (some (.int .u8 (db s n)))
 | _=>none
def NM (P:Program) (t:TypeId) (off:Nat) (cs:List Xab):Option Xab :=
 (cK P t).bind fun g=>match g with
 | true=>some (.agg ⟨(cs.drop off).take (P.cellsOf t)⟩)
 | false=>cs[off]?
def KT (P:Program) (t:TypeId) (f:Nat):Option Field :=
 match P.underlying t with
 | some (.struct a)=>a[f]?
 | _=>none
def Fg (P:Program) (t:TypeId) (f:Nat) (v:Xab):Option Xab :=
 (vM v).bind fun (b,off)=>(KT P t f).bind fun a=>fY (Nat.ble 1 (P.cellsOf a.type)) (some (.pointer (some ⟨b,off+a.offset,none⟩)))
def wR (a b:Nat × Xaa):Bool:=Nat.beq a.1 b.1 && pH a.2 b.2
def qM (a b:Nat × Nat):Bool:=Nat.beq a.1 b.1 && Nat.beq a.2 b.2
def lu {α:Type} (q:α->α->Bool) (s:α):List (α × Xab)->Option Xab
 | []=>none
 | p::D=>match q s p.1 with
  | true=>some p.2
  | false=>lu q s D
def zE {α:Type} (q:α->α->Bool) (s:α) (v:Xab):List (α × Xab)->List (α × Xab)
 | []=>[(s,v)]
 | p::D=>match q s p.1 with
  | true=>(p.1,v)::D
  | false=>p::zE q s v D
def Q1:Option TypeDesc->Option (TypeId × TypeId)
 | some (.map k e)=>some (k,e)
 | _=>none
def RV:Xab->Option (Nat × Xaa)
 | .agg ⟨[.int .i64 (.ofNat n),.string y]⟩=>some (n,y)
 | _=>none
def Tu:Xab->Option (Nat × Nat)
 | .agg ⟨[.int .i64 (.ofNat n),.int .i64 (.ofNat m)]⟩=>some (n,m)
 | _=>none
def Xv (C:Cx) (k:TypeId):Bool:=Nat.beq k C.kt || Nat.beq k C.ku
def Xu (C:Cx) (k:TypeId):Bool:=Nat.blt 0 C.ki && Nat.beq k C.ki
def Rq:Xab->Option Xaa
 | .string y=>some y
 | _=>none
def sIn (y:Xaa):AO->Option (Option Xab)
 | .xC D=>some (lu pH y D)
 | _=>none
def kIn (y:Nat × Xaa):AO->Option (Option Xab)
 | .zx D=>some (lu wR y D)
 | _=>none
def iIn (y:Nat × Nat):AO->Option (Option Xab)
 | .zw D=>some (lu qM y D)
 | _=>none
def XJ (x:Xab) (s:CS):Xab->Option (Option Xab)
 | .map (some b)=>(Tu x).bind fun y=>(s.σ.get b).bind (iIn y)
 | _=>none
def Y9 (x:Xab) (s:CS):Xab->Option (Option Xab)
 | .map (some b)=>(RV x).bind fun y=>(s.σ.get b).bind (kIn y)
 | _=>none
def X0 (x:Xab) (s:CS):Xab->Option (Option Xab)
 | .map none=>(Rq x).bind fun _=>some none
 | .map (some b)=>(Rq x).bind fun y=>(s.σ.get b).bind (sIn y)
 | _=>none
def PD (C:Cx) (k:TypeId) (m x:Xab) (s:CS):Option (Option Xab) :=
 match Xv C k with
 | true=>Y9 x s m
 | false=>match Xu C k with
  | true=>XJ x s m
  | false=>fY (yf (C.P.underlying k)) (X0 x s m)
def Np (P:Program) (a:TypeId):Option Xab:=((P.info? a).bind (·.zero)).bind HD
def Vc (ok:Bool) (z:Xab) (r:Option Xab):Xab :=
 match ok with
 | true=>.tuple ⟨[r.getD z,.bool r.isSome]⟩
 | false=>r.getD z
def ON (C:Cx) (t:TypeId) (m x:Xab) (ok:Bool) (s:CS):Option Xab :=
 (Q1 (C.P.underlying t)).bind fun (k,a)=>(Np C.P a).bind fun z=>(PD C k m x s).bind fun r=>fY (Ed (cJ C.P a) (r.getD z)) (some (Vc ok z r))
def Qf (C:Cx) (k:TypeId) (b:Nat) (x v:Xab) (s:CS):AO->Option CS
 | .xC D=>fY (yf (C.P.underlying k)) ((Rq x).bind fun y=>fY (Nat.ble y.size maxLen) (some ⟨s.σ.put b (.xC (zE pH y v D)),s.nx⟩))
 | .zx D=>fY (Xv C k) ((RV x).bind fun y=>some ⟨s.σ.put b (.zx (zE wR y v D)),s.nx⟩)
 | .zw D=>fY (Xu C k) ((Tu x).bind fun y=>some ⟨s.σ.put b (.zw (zE qM y v D)),s.nx⟩)
 | _=>none
def Xk (C:Cx) (t:TypeId) (m x v:Xab) (s:CS):Option CS :=
 match m with
 | .map (some b)=>(Q1 (C.P.underlying t)).bind fun (k,_)=>(s.σ.get b).bind fun o=>Qf C k b x v s o
 | _=>none
def Jg (C:Cx) (t:TypeId) (s:CS):VS :=
 (Q1 (C.P.underlying t)).bind fun q=>match Xv C q.1 with
 | true=>(zY s (.zx [])).bind fun a=>some (.map (some s.nx),a)
 | false=>match Xu C q.1 with
  | true=>(zY s (.zw [])).bind fun a=>some (.map (some s.nx),a)
  | false=>fY (yf (C.P.underlying q.1)) ((zY s (.xC [])).bind fun a=>some (.map (some s.nx),a))
def Kp:Xab->Option Nat
 | .int _ (.ofNat n)=>some n
 | _=>none
def AU (P:Program) (t:TypeId) (l c:Xab) (s:CS):VS :=
 (Kp l).bind fun l=>(Kp c).bind fun c=>(Pq P t).bind fun q=>fY (Nat.ble l c && Nat.ble (c*q.by_) 16777216 && Nat.ble c 16777216) (HH s (List.replicate c q.z).flatten q.e 0 l c)
def Fm (x:Xaa):List Xaa->List Xaa
 | []=>[x]
 | y::l=>match Op.bytesLess x.data.toList y.data.toList with
  | true=>x::y::l
  | false=>y::Fm x l
def r6:List Xaa->List Xaa
 | []=>[]
 | x::l=>Fm x (r6 l)
def Ra (D:List (Xaa × Xab)) (s:CS):VS :=
 match D with
 | []=>some (.slice none 0 0,s)
 | _::_=>HH s ((r6 (D.map (·.1))).map .string) 9 1 D.length qT
def KR (s:CS):AO->VS
 | .xC D=>fY (Nat.ble D.length 1024) (Ra D s)
 | _=>none
def N':Xab->Option Nat
 | .map (some b)=>some b
 | _=>none
def Qz (C:Cx):Xab->Option (Nat × Nat)
 | .func (.func f) ⟨[]⟩ ⟨[p]⟩=>fY (Nat.beq f C.seq) (vM p)
 | _=>none
def YB:Option AO->Option (List Xab)
 | some (.row c _ m)=>fY (Nat.beq m 0) (some c)
 | _=>none
def EG (C:Cx) (a:List Xab) (s:CS):VS :=
 (MO a).bind fun v=>(Qz C v).bind fun (q,off)=>fY (Nat.beq off 0) ((YB (s.σ.get q)).bind fun l=>(MO l).bind fun m=>(N' m).bind fun b=>(s.σ.get b).bind (KR s))
def TN (c:List Xab):Option Xab :=
 match c with
 | [.int .i64 (.ofNat a),.int .i64 (.ofNat b)]=>some (.int .i64 (.ofNat (Nat.min a b)))
 | _=>none
def Ou (a:List Xab):Option Xab :=
 match a with
 | [.string x,.int .u8 n]=>some (.int .i64 (Lib.indexByte x.data.toList n.toNat.toUInt8))
 | _=>none
abbrev gp:=FuncId->List Xab->CS->VS
def val (s:CS) (v:Option Xab):VS:=v.bind fun v=>some (v,s)
def done (r:Option CS):VS:=r.bind fun s=>some (undef,s)
def Pt (C:Cx) (e:Ev) (s:CS) (c a b:Operand):VS :=
 (kU C e c).bind fun v=>match v with
 | .bool true=>val s (kU C e a)
 | .bool false=>val s (kU C e b)
 | _=>none
def Ej (s:CS) (t:TypeId) (l:List Xab):VS:=(zY s (.row l t 0)).bind fun a=>some (.pointer (some ⟨s.nx,0,none⟩),a)
def ZO (C:Cx) (e:Ev) (s:CS) (t:TypeId) (x:Operand):VS:=(kU C e x).bind fun v=>(cK C.P t).bind fun g=>(wX g v).bind fun l=>Ej s t l
def YX (ps:Array (Nat × Operand)) (a:List Xab):List (Nat × Xab):=(ps.toList.map (·.1)).zip a
def VE (C:Cx) (e:Ev) (s:CS) (t:TypeId) (ps:Array (Nat × Operand)):VS:=(A' C e (ps.toList.map (·.2))).bind fun a=>val s (IT C.P t (YX ps a))
def SG (C:Cx) (e:Ev) (s:CS) (t:TypeId) (n:Nat) (ps:Array (Nat × Operand)):VS:=(A' C e (ps.toList.map (·.2))).bind fun a=>OC C.P t n (YX ps a) s
def XY (C:Cx) (e:Ev) (s:CS) (t:TypeId) (x:Operand):VS:=(kU C e x).bind fun v=>(C3 C t v s).bind fun (_,_,_,v)=>some (v,s)
def WX (C:Cx) (e:Ev) (s:CS) (t:TypeId) (x y:Operand):VS:=(kU C e x).bind fun p=>(kU C e y).bind fun v=>done (Ij C.P t p v s)
def notNil:Xab->Option Xab
 | .pointer (some a)=>some (.pointer (some a))
 | _=>none
def ZR (C:Cx) (e:Ev) (s:CS) (x:Operand):VS:=(kU C e x).bind fun v=>val s (notNil v)
def Zv (C:Cx) (e:Ev) (s:CS) (op:BinOp) (t:TypeId) (x y:Operand):VS:=(kU C e x).bind fun a=>(kU C e y).bind fun b=>val s (W1 C.P op t x y a b)
def oUn (C:Cx) (e:Ev) (s:CS) (op:UnOp) (x:Operand):VS:=(kU C e x).bind fun a=>val s (ZL op a)
def XG (C:Cx) (e:Ev) (s:CS) (a d:TypeId) (x:Operand):VS:=(kU C e x).bind fun v=>val s (N2 C.P a d v)
def X5 (C:Cx) (e:Ev) (s:CS) (f:FuncId) (a b:Array Operand):VS:=(A' C e a.toList).bind fun a=>(A' C e b.toList).bind fun b=>some (.func (.func f) ⟨a⟩ ⟨b⟩,s)
def Yk (C:Cx) (e:Ev) (s:CS) (t:TypeId) (l c:Operand):VS:=(kU C e l).bind fun l=>(kU C e c).bind fun c=>AU C.P t l c s
def Y4 (C:Cx) (e:Ev) (s:CS) (t:TypeId) (m x:Operand) (ok:Bool):VS:=(kU C e m).bind fun m=>(kU C e x).bind fun x=>val s (ON C t m x ok s)
def Zr (C:Cx) (e:Ev) (s:CS) (t:TypeId) (m x v:Operand):VS:=(kU C e m).bind fun m=>(kU C e x).bind fun x=>(kU C e v).bind fun v=>done (Xk C t m x v s)
def V5 (C:Cx) (e:Ev) (s:CS) (t:TypeId) (x:Operand) (lo hi b:Option Operand):VS :=
 (kU C e x).bind fun a=>(A' C e (lo.toList++hi.toList++b.toList)).bind fun c=>val s (Zx C.P t lo hi b a c)
def Sl (C:Cx) (e:Ev) (s:CS) (t:TypeId) (x:Operand) (f:Nat):VS:=(kU C e x).bind fun v=>val s (Fg C.P t f v)
def Xg (C:Cx) (e:Ev) (s:CS) (t:TypeId) (x:Operand) (f:Nat):VS:=(kU C e x).bind fun v=>(BA v).bind fun cs=>(KT C.P t f).bind fun a=>val s (NM C.P a.type a.offset cs)
def Yt (C:Cx) (e:Ev) (s:CS) (t:TypeId) (x i:Operand):VS:=(kU C e x).bind fun v=>(kU C e i).bind fun i=>val s (Rv C.P t v i)
def ZV (C:Cx) (e:Ev) (s:CS) (t:TypeId) (x i:Operand):VS:=(kU C e x).bind fun v=>(kU C e i).bind fun i=>val s (W6 C.P t v i)
def X3 (C:Cx) (e:Ev) (s:CS) (x:Operand) (i:Nat):VS:=(kU C e x).bind fun v=>(PI v).bind fun a=>val s a[i]?
def Bz (P:Program) (t:TypeId) (r:VS):VS:=r.bind fun (v,s)=>fY (Jj (lM P t) v) (some (v,s))
def Je (C:Cx) (call:gp) (t:TypeId) (s:CS) (f:FuncId) (a:List Xab):VS :=
 match fX C.P f with
 | true=>Bz C.P t (match Nat.beq f C.UT with
  | true=>EG C a s
  | false=>call f a s)
 | false=>fY (Nat.beq f C.idx) (Bz C.P t (val s (Ou a)))
def PL (C:Cx) (call:gp) (t:TypeId) (s:CS) (g:Xab) (a:List Xab):VS :=
 match g with
 | .func (.func f) ⟨b⟩ ⟨c⟩=>fY (fX C.P f) (Bz C.P t (call f (b++a++c) s))
 | _=>none
def Ve (P:Program) (t:TypeId) (v:Xab):Option Xab:=fY (Ed (cJ P t) v) (some v)
def AR (C:Cx) (b:Builtin) (t:TypeId) (c:Call) (a:List Xab) (s:CS):VS :=
 match b with
 | .len=>(MO a).bind fun v=>val s (VC s ((c.argTypes[0]?).bind C.P.underlying) v)
 | .append=>EX C c.argTypes.toList a s
 | .min=>val s ((TN a).bind (Ve C.P t))
 | _=>none
def RF (C:Cx) (call:gp) (e:Ev) (s:CS) (t:TypeId) (c:Call):VS :=
 (A' C e c.args.toList).bind fun a=>match c.callee with
 | .builtin b=>AR C b t c a s
 | .value (.func f)=>Je C call t s f a
 | .value (.tmp g)=>(e.get g).bind fun g=>PL C call t s g a
 | _=>none
def Xs (C:Cx) (call:gp) (o:Oper) (e:Ev) (s:CS):VS :=
 match o.op with
 | .move x=>val s (kU C e x)
 | .assign x=>val s (kU C e x)
 | .pick c a b=>Pt C e s c a b
 | .alloc t=>(zeroOf C.P t).bind (Ej s t)
 | .box t x=>ZO C e s t x
 | .build t ps=>VE C e s t ps
 | .buildSlice t n ps=>SG C e s t n ps
 | .load t x=>XY C e s t x
 | .store t x y=>WX C e s t x y
 | .nilCheck x=>ZR C e s x
 | .binOp op t x y _=>Zv C e s op t x y
 | .unOp op _ x=>oUn C e s op x
 | .convert a d x=>XG C e s a d x
 | .makeFunc (.func f) g h=>X5 C e s f g h
 | .makeMap t none=>Jg C t s
 | .makeSlice t l c=>Yk C e s t l c
 | .lookup t m x ok=>Y4 C e s t m x ok
 | .mapUpdate t m x v=>Zr C e s t m x v
 | .slice t x lo hi j=>V5 C e s t x lo hi j
 | .fieldAddr t x f=>Sl C e s t x f
 | .field t x f=>Xg C e s t x f
 | .indexAddr t x i=>Yt C e s t x i
 | .index t x i=>ZV C e s t x i
 | .extract x i=>X3 C e s x i
 | .call c=>RF C call e s o.type c
 | _=>none
def UU (a:Bool):Xab->Option Bool
 | .bool b=>some (b==a)
 | .tuple _=>some false
 | _=>none
def DF (ops:Array Oper) (o:Oper) (e:Ev):Option Bool :=
 match guardOf ops o with
 | none=>some true
 | some (none,_)=>some false
 | some (some d,a)=>(e.get d).bind (UU a)
def forced {α:Type} (v:Xab) (k:Xab->α):α :=
 match v with
 | .int a n=>match n with
  | .ofNat m=>match m with
   | 0=>k (.int a (.ofNat 0))
   | m+1=>k (.int a (.ofNat (m+1)))
  | .negSucc m=>k (.int a (.negSucc m))
 | .bool b=>match b with
  | true=>k (.bool true)
  | false=>k (.bool false)
 | v=>k v
def Eo (n:Nat) (e:Ev) (dst:Option Tmp) (v:Xab):Ev :=
 match dst with
 | none=>e
 | some d=>match Nat.blt d n with
  | true=>forced v (e.put d)
  | false=>e
abbrev ES:=Option (Ev × CS)
def did (n:Nat) (e:Ev) (dst:Option Tmp) (r:VS) (k:Ev->CS->ES):ES:=r.bind fun (v,s)=>k (Eo n e dst v) s
def S5 (C:Cx) (call:gp) (n:Nat) (ops:Array Oper):List Oper->Ev->CS->ES
 | [],e,s=>some (e,s)
 | o::rest,e,s=>(DF ops o e).bind fun w=>match w with
  | true=>did n e o.dst (Xs C call o e s) (S5 C call n ops rest)
  | false=>S5 C call n ops rest (Eo n e o.dst undef) s
end
end Go.Sx.Cr
