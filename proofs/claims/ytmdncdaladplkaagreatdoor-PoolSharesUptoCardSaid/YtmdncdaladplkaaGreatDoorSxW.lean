/- Part of the framework. No condition. -/
import Derived.Test.YtmdncdaladplkaaGreatDoorSxV
set_option linter.all false
set_option maxHeartbeats 4000000
namespace Go.Sx.Cr
noncomputable section
abbrev Ev:=dY Xab
structure CS where
 σ:dY AO
 nx:Nat
abbrev VS:=Option (Xab × CS)
def gj {α:Type} (b:Bool) (k:Option α):Option α :=
 match b with
 | true=>k
 | false=>none
def bF {α:Type} {b:Bool} {k:Option α} {x:α}:gj b k=some x↔b=true/\k=some x:=by
 cases b <;> simp [gj]
def HJ (v:Xab):Option Xab:=gj (fU 9 v) (some v)
def Vd (C:Cx) (g:Nat):Option Xab:=gj (Nat.blt g C.ng) (some (.pointer (some ⟨g,0,none⟩)))
def kR (C:Cx) (e:Ev):Operand->Option Xab
 | .tmp t=>e.get t
 | .const v=>HJ v
 | .func f=>some (.func (.func f) #[] #[])
 | .global g=>Vd C g
def Bi (C:Cx) (e:Ev):List Operand->Option (List Xab)
 | []=>some []
 | x::xs=>(kR C e x).bind fun v=>(Bi C e xs).bind fun l=>some (v::l)
def NR (op:BinOp) (k:IntKind) (m n:Int):Option Xab :=
 match op with
 | .add=>some (.int k (k.wrap (m+n)))
 | .sub=>some (.int k (k.wrap (m-n)))
 | .mul=>some (.int k (k.wrap (m*n)))
 | .quo=>gj (!decide (n=0)) (some (.int k (k.wrap (m.tdiv n))))
 | .rem=>gj (!decide (n=0)) (some (.int k (m.tmod n)))
 | .eql=>some (.bool (m==n))
 | .neq=>some (.bool (m != n))
 | .lss=>some (.bool (decide (m<n)))
 | .leq=>some (.bool (decide (m<=n)))
 | .gtr=>some (.bool (decide (m>n)))
 | .geq=>some (.bool (decide (m>=n)))
 | .and=>some (.int k (Fq .and k m n))
 | .or=>some (.int k (Fq .or k m n))
 | .xor=>some (.int k (Fq .xor k m n))
 | .andNot=>some (.int k (Fq .andNot k m n))
 | _=>none
def Q4 (op:BinOp) (x y:Xaa):Option Xab :=
 match op with
 | .add=>gj (decide (((x.size+y.size:Nat):Int)<=IntKind.i64.max)) (some (.string (x++y)))
 | .eql=>some (.bool (x.data.toList==y.data.toList))
 | .neq=>some (.bool !(x.data.toList==y.data.toList))
 | .lss=>some (.bool (Op.bytesLess x.data.toList y.data.toList))
 | .leq=>some (.bool (Op.bytesLess x.data.toList y.data.toList || x.data.toList==y.data.toList))
 | .gtr=>some (.bool !(Op.bytesLess x.data.toList y.data.toList || x.data.toList==y.data.toList))
 | .geq=>some (.bool !(Op.bytesLess x.data.toList y.data.toList))
 | _=>none
def qK (op:BinOp) (b:Bool):Option Xab :=
 match op with
 | .eql=>some (.bool b)
 | .neq=>some (.bool !b)
 | _=>none
def NU:Option TypeDesc->Bool
 | some (.pointer _)=>true
 | _=>false
def KV:Option TypeDesc->Bool
 | some (.slice _)=>true
 | _=>false
def KE:Option TypeDesc->Bool
 | some .bool=>true
 | _=>false
def yx:Option TypeDesc->Bool
 | some .string=>true
 | _=>false
def RL (P:Program) (op:BinOp) (t:TypeId) (a b:Xab):Option Xab :=
 match a,b with
 | .int k m,.int k' n=>gj (!nD op && decide (k=k')) (NR op k m n)
 | .string m,.string n=>Q4 op m n
 | .bool m,.bool n=>gj (KE (P.underlying t)) (qK op (m==n))
 | .pointer p,.pointer _=>gj (NU (P.underlying t)) (qK op p.isNone)
 | .slice p _ _,.slice _ _ _=>gj (KV (P.underlying t)) (qK op p.isNone)
 | _,_=>none
def pF (a b:Xaa):Bool:=a.data.toList==b.data.toList
def Fm:Xab->Xab->Bool
 | .int _ a,.int _ b=>a==b
 | .string a,.string b=>pF a b
 | .bool a,.bool b=>a==b
 | _,_=>false
def V1 (P:Program) (op:BinOp) (t:TypeId) (a b:Xab):Option Xab :=
 match a,b,P.underlying t with
 | .agg xs,.agg ys,some (.struct c) =>
  gj (!(P.stoodInHeld t) && !(P.eqGuardType P.depth t) && c.all (okF P xs ys)) (qK op (c.all fun f=>Fm (xs[f.offset]?.getD .nilIface) (ys[f.offset]?.getD .nilIface)))
 | _,_,_=>none
def Xf (P:Program) (op:BinOp) (t:TypeId) (x y:Operand) (a b:Xab):Option Xab :=
 match sT P t x y with
 | true=>RL P op t a b
 | false=>V1 P op t a b
def Z3 (op:UnOp) (a:Xab):Option Xab :=
 match op,a with
 | .neg,.int k n=>some (.int k (k.wrap (0-n)))
 | .not,.bool b=>some (.bool !b)
 | _,_=>none
def Od (P:Program) (s d:TypeId) (a:Xab):Option Xab :=
 match P.underlying s,P.underlying d,a with
 | some (.int _),some (.int k),.int _ n=>some (.int k (k.wrap n))
 | some .string,some .string,.string x=>some (.string x)
 | _,_,_=>none
def xk:TypeDesc->Xab->Bool
 | .bool,.bool _=>true
 | .bool,_=>false
 | .int k,.int k' _=>decide (k=k')
 | .int _,_=>false
 | .string,.string _=>true
 | .string,_=>false
 | .pointer _,.pointer _=>true
 | .pointer _,_=>false
 | .slice _,.slice _ _ _=>true
 | .slice _,_=>false
 | .map _ _,.map _=>true
 | .map _ _,_=>false
 | _,_=>true
def fits:List TypeDesc->List Xab->Bool
 | [],[]=>true
 | d::a,v::b=>xk d v && fits a b
 | _,_=>false
def BJ:Xab->Option (List Xab)
 | .agg ⟨l⟩=>some l
 | _=>none
def Ep (c:ep) (v:Xab):Bool :=
 match c with
 | (true,a)=>(BJ v).elim false (fits a)
 | (false,a)=>fits a [v]
def Bn:List ep->List Xab->Bool
 | [],[]=>true
 | c::cs,v::a=>Ep c v && Bn cs a
 | _,_=>false
def PT:Xab->Option (List Xab)
 | .tuple ⟨l⟩=>some l
 | _=>none
def Jp (q:Bool × List ep) (v:Xab):Bool :=
 match q with
 | (true,cs)=>(PT v).elim false (Bn cs)
 | (false,cs)=>Bn cs [v]
def Pq (C:Cx) (b off n:Nat):Option AO->Option (List Xab)
 | some (.row c _ _)=>Oa off n c
 | some .gone=>(C.ro b).bind fun c=>Oa off n c
 | _=>none
def cells (C:Cx) (s:CS) (b off n:Nat):Option (List Xab):=Pq C b off n (s.σ.get b)
def vQ:Xab->Option (Nat × Nat)
 | .pointer (some ⟨b,off,none⟩)=>some (b,off)
 | _=>none
abbrev Ld:=Option (Nat × Nat × List Xab × Xab)
def Vt (C:Cx) (t:TypeId) (b off:Nat) (s:CS):Ld :=
 gj (Nat.beq (fA C.P 9 t).length (C.P.cellsOf t)) ((cells C s b off (fA C.P 9 t).length).bind fun a=>gj (fits (fA C.P 9 t) a) (some (b,off,a,.agg ⟨a⟩)))
def VC (C:Cx) (t:TypeId) (b off:Nat) (s:CS):Ld :=
 (cells C s b off 1).bind fun a=>gj (fits (cM C.P t).2 a) (some (b,off,a,a.headD undef))
def Dd (C:Cx) (t:TypeId) (v:Xab) (s:CS):Ld :=
 (vQ v).bind fun (b,off)=>(cH C.P t).bind fun g=>match g with
  | true=>Vt C t b off s
  | false=>VC C t b off s
def Af (s:CS) (o:AO):Option CS :=
 match s.σ.get s.nx with
 | none=>some ⟨s.σ.put s.nx o,s.nx+1⟩
 | some _=>none
def TG (s:CS) (b off:Nat) (a:List Xab):Option CS :=
 match s.σ.get b with
 | some (.row c e m)=>gj (!Nat.beq m 2 && a.all dr && Nat.ble 1 a.length && Nat.ble (off+a.length) c.length) (some ⟨s.σ.put b (.row (lK c off a) e m),s.nx⟩)
 | _=>none
def xc (g:Bool) (v:Xab):Option (List Xab) :=
 match g with
 | true=>BJ v
 | false=>gj (!fp v) (some [v])
def Io (P:Program) (t:TypeId) (p v:Xab) (s:CS):Option CS :=
 (vQ p).bind fun (b,off)=>(cH P t).bind fun g=>(xc g v).bind fun l=>gj (Nat.beq l.length (P.cellsOf t)) (TG s b off l)
def EE (agg:Nat->Option Bool):List (Nat × Xab)->Option (List (Nat × List Xab))
 | []=>some []
 | (i,v)::l=>(agg i).bind fun g=>(xc g v).bind fun c=>(EE agg l).bind fun r=>some ((i,c)::r)
def zeroOf (P:Program) (t:TypeId):Option (List Xab) :=
 ((P.info? t).bind (·.zero)).bind fun z=>gj (z.cells.toList.all (fU 9)) (some z.cells.toList)
def Kn (P:Program) (a:Array Field) (z:List Xab) (ps:List (Nat × Xab)):Option Xab :=
 gj (a.all fun f=>oo P f.type) ((EE (fun i=>(a[i]?).bind fun f=>cH P f.type) ps).bind fun b=>(fQ (((a.map fun f=>(f.offset,P.cellsOf f.type)))[·]?) z b).bind fun cs=>some (.agg ⟨cs⟩))
def J5 (P:Program) (a:TypeId) (z:List Xab) (ps:List (Nat × Xab)):Option Xab :=
 gj (oo P a) ((EE (fun _=>cH P a) ps).bind fun b=>(fQ (fun i=>some (i*P.cellsOf a,P.cellsOf a)) z b).bind fun cs=>some (.agg ⟨cs⟩))
def IY (P:Program) (t:TypeId) (ps:List (Nat × Xab)):Option Xab :=
 (zeroOf P t).bind fun z=>match P.underlying t with
  | some (.struct a)=>Kn P a z ps
  | some (.array _ b)=>J5 P b z ps
  | _=>none
structure El where
 e:TypeId
 sz:Nat
 by_:Nat
 z:List Xab
def OY (P:Program) (e:TypeId):Option El :=
 (P.info? e).bind fun i=>i.zero.bind fun z=>gj (z.cells.toList.all (fU 9) && Nat.beq z.cells.size i.size && Nat.ble 1 i.size) (some ⟨e,i.size,i.bytes,z.cells.toList⟩)
def elemOf:Option TypeDesc->Option TypeId
 | some (.slice e)=>some e
 | _=>none
def Pz (P:Program) (t:TypeId):Option El:=(elemOf (P.underlying t)).bind (OY P)
def oP:List (Nat × Xab)->List (Nat × List Xab)
 | []=>[]
 | (i,v)::l=>(i,match BJ v with
  | some c=>c
  | none=>[v])::oP l
def IT (sz:Nat):Nat->List (Nat × List Xab)->Option (List Xab)
 | _,[]=>some []
 | i,(k,c)::l=>gj (Nat.beq k i && Nat.beq c.length sz) ((IT sz (i+1) l).bind fun r=>some (c++r))
def Pv (q:El) (n:Nat) (ps:List (Nat × List Xab)):Option (List Xab):=gj (Nat.beq ps.length n) (IT q.sz 0 ps)
def HN (s:CS) (c:List Xab) (e:TypeId) (m l cap:Nat):VS :=
 (Af s (.row c e m)).bind fun a=>some (.slice (some ⟨s.nx,0,none⟩) l cap,a)
def OL (P:Program) (t:TypeId) (n:Nat) (ps:List (Nat × Xab)) (s:CS):VS :=
 (Pz P t).bind fun q=>gj (Nat.ble (n*q.sz) 16777216) ((Pv q n (oP ps)).bind fun cs=>HN s cs q.e 0 n n)
def Ip (C:Cx) (sz:Nat) (x:Xab) (s:CS):Option (List Xab) :=
 match x with
 | .slice q m _=>match m with
  | 0=>some []
  | m+1=>(vQ (.pointer q)).bind fun (b,off)=>cells C s b off ((m+1)*sz)
 | _=>none
def Ef (q:El) (a l c:Nat):Option AO->Option (List Xab)
 | some (.row cs b d)=>gj (Nat.beq d 1 && Nat.beq q.e b && Nat.ble c qT && Nat.beq a ((qT-c)*q.sz) && Nat.ble (a+l*q.sz) cs.length) (some cs)
 | _=>none
def Kj (s:CS) (q:El) (b a l c m:Nat) (ys:List Xab):VS :=
 (Ef q a l c (s.σ.get b)).bind fun cs=>gj (Nat.beq cs.length (a+l*q.sz))
   (match s.σ.get s.nx with
   | none=>some (.slice (some ⟨s.nx,0,none⟩) (l+m) qT,⟨(s.σ.put b .gone).put s.nx (.row (cs.drop a++ys) q.e 1),s.nx+1⟩)
   | some _=>none)
def QN (C:Cx) (s:CS) (q:El) (a b l c m:Nat) (ys:List Xab):VS :=
 match Nat.ble (l+m) c with
 | true=>(TG s a (b+l*q.sz) ys).bind fun s=>some (.slice (some ⟨a,b,none⟩) (l+m) c,s)
 | false=>(cells C s a b (l*q.sz)).bind fun old=>HN s (old++ys) q.e 1 (l+m) qT
def U8 (C:Cx) (s:CS) (q:El) (a b l c m:Nat) (ys:List Xab):VS :=
 match Nat.blt c half with
 | true=>QN C s q a b l c m ys
 | false=>Kj s q a b l c m ys
def Vo (C:Cx) (s:CS) (q:El) (p:Xac) (l c m:Nat) (ys:List Xab):VS :=
 match p with
 | none=>gj (Nat.beq l 0 && Nat.beq c 0) (HN s ys q.e 1 m qT)
 | some a=>(vQ (.pointer (some a))).bind fun (b,off)=>U8 C s q b off l c m ys
def WJ (C:Cx) (q:El) (a x:Xab) (s:CS) (ys:List Xab):VS :=
 match a,x with
 | .slice p l c,.slice _ m _=>gj (Nat.ble ((2*(l+m)+1024)*q.by_) 281474976710656 && Nat.ble (l+m) 281474976710656 && ys.all dr)
   (match m with
   | 0=>some (.slice p l c,s)
   | _+1=>Vo C s q p l c m ys)
 | _,_=>none
def Fc (C:Cx) (ts:List TypeId) (b:List Xab) (s:CS):VS :=
 match ts,b with
 | [t,c],[a,x]=>gj (KV (C.P.underlying c)) ((Pz C.P t).bind fun q=>(Ip C q.sz x s).bind fun ys=>WJ C q a x s ys)
 | _,_=>none
def Yj:AO->Option Nat
 | .xK D=>some D.length
 | .zN D=>some D.length
 | .zM D=>some D.length
 | _=>none
def VQ (s:CS) (D:Option TypeDesc) (v:Xab):Option Xab :=
 match D with
 | some .string=>(match v with
  | .string s=>some (.int .i64 s.size)
  | _=>none)
 | some (.slice _)=>(match v with
  | .slice _ n _=>some (.int .i64 n)
  | _=>none)
 | some (.map _ _)=>(match v with
  | .map (some b)=>((s.σ.get b).bind Yj).bind fun n=>some (.int .i64 n)
  | _=>none)
 | _=>none
def MW:List Xab->Option Xab
 | [v]=>some v
 | _=>none
def Yn (x:Xaa) (lo hi:Option Xab):Option Xab :=
 gj (decide (0<=kQ lo/\kQ lo<=lx x.size hi/\lx x.size hi<=x.size)) (some (.string (x.extract (kQ lo).toNat (lx x.size hi).toNat)))
def ZY (P:Program) (e:TypeId) (b off len cap:Nat) (lo hi:Option Xab):Option Xab :=
 gj (oo P e && decide (0<=kQ lo/\kQ lo<=lx len hi/\lx len hi<=len/\kQ lo<len) && (Nat.blt cap half || Nat.ble half (cap-(kQ lo).toNat))) (some (.slice (some ⟨b,off+(kQ lo).toNat*P.cellsOf e,none⟩) ((lx len hi).toNat-(kQ lo).toNat) (cap-(kQ lo).toNat)))
def sZ (P:Program) (t:TypeId) (a:Xab) (lo hi:Option Xab):Option Xab :=
 gj (eU lo && eU hi) (match P.underlying t with
  | some .string=>(match a with
   | .string x=>Yn x lo hi
   | _=>none)
  | some (.slice e)=>(match a with
   | .slice (some ⟨b,off,none⟩) len cap=>ZY P e b off len cap lo hi
   | _=>none)
  | _=>none)
def ZO (P:Program) (t:TypeId) (lo hi b:Option Operand) (a:Xab) (c:List Xab):Option Xab :=
 match b,lo,hi,c with
 | none,none,none,[]=>sZ P t a none none
 | none,some _,none,[l]=>sZ P t a (some l) none
 | none,none,some _,[h]=>sZ P t a none (some h)
 | none,some _,some _,[l,h]=>sZ P t a (some l) (some h)
 | _,_,_,_=>none
def atIdx (P:Program) (b off len:Nat) (a:TypeId) (n:Int):Option Xab :=
 gj (oo P a && decide (0<=n/\n<len)) (some (.pointer (some ⟨b,off+n.toNat*P.cellsOf a,none⟩)))
def intOf:Xab->Option Int
 | .int _ n=>some n
 | _=>none
def RG (P:Program) (t:TypeId) (v i:Xab):Option Xab :=
 (intOf i).bind fun n=>match P.underlying t with
 | some (.slice a)=>(match v with
  | .slice (some ⟨b,off,none⟩) len _=>atIdx P b off len a n
  | _=>none)
 | some (.array len a)=>(vQ v).bind fun (b,off)=>atIdx P b off len a n
 | _=>none
def Xk (P:Program) (t:TypeId) (v i:Xab):Option Xab :=
 (intOf i).bind fun n=>match v with
 | .string s=>gj (yx (P.underlying t) && decide (0<=n/\n<s.size)) (some (.int .u8 (df s n)))
 | _=>none
def N0 (P:Program) (t:TypeId) (off:Nat) (cs:List Xab):Option Xab :=
 (cH P t).bind fun g=>match g with
 | true=>some (.agg ⟨(cs.drop off).take (P.cellsOf t)⟩)
 | false=>cs[off]?
def KW (P:Program) (t:TypeId) (f:Nat):Option Field :=
 match P.underlying t with
 | some (.struct a)=>a[f]?
 | _=>none
def Fs (P:Program) (t:TypeId) (f:Nat) (v:Xab):Option Xab :=
 (vQ v).bind fun (b,off)=>(KW P t f).bind fun a=>gj (Nat.ble 1 (P.cellsOf a.type)) (some (.pointer (some ⟨b,off+a.offset,none⟩)))
def wY (a b:Nat × Xaa):Bool:=Nat.beq a.1 b.1 && pF a.2 b.2
def qL (a b:Nat × Nat):Bool:=Nat.beq a.1 b.1 && Nat.beq a.2 b.2
def lj {α:Type} (q:α->α->Bool) (s:α):List (α × Xab)->Option Xab
 | []=>none
 | p::D=>match q s p.1 with
  | true=>some p.2
  | false=>lj q s D
def zS {α:Type} (q:α->α->Bool) (s:α) (v:Xab):List (α × Xab)->List (α × Xab)
 | []=>[(s,v)]
 | p::D=>match q s p.1 with
  | true=>(p.1,v)::D
  | false=>p::zS q s v D
def Ra:Option TypeDesc->Option (TypeId × TypeId)
 | some (.map k e)=>some (k,e)
 | _=>none
def R8:Xab->Option (Nat × Xaa)
 | .agg ⟨[.int .i64 (.ofNat n),.string y]⟩=>some (n,y)
 | _=>none
def TJ:Xab->Option (Nat × Nat)
 | .agg ⟨[.int .i64 (.ofNat n),.int .i64 (.ofNat m)]⟩=>some (n,m)
 | _=>none
def XJ (C:Cx) (k:TypeId):Bool:=Nat.beq k C.kt || Nat.beq k C.ku
def XI (C:Cx) (k:TypeId):Bool:=Nat.blt 0 C.ki && Nat.beq k C.ki
def RB:Xab->Option Xaa
 | .string y=>some y
 | _=>none
def sIn (y:Xaa):AO->Option (Option Xab)
 | .xK D=>some (lj pF y D)
 | _=>none
def kIn (y:Nat × Xaa):AO->Option (Option Xab)
 | .zN D=>some (lj wY y D)
 | _=>none
def iIn (y:Nat × Nat):AO->Option (Option Xab)
 | .zM D=>some (lj qL y D)
 | _=>none
def XX (x:Xab) (s:CS):Xab->Option (Option Xab)
 | .map (some b)=>(TJ x).bind fun y=>(s.σ.get b).bind (iIn y)
 | _=>none
def Zo (x:Xab) (s:CS):Xab->Option (Option Xab)
 | .map (some b)=>(R8 x).bind fun y=>(s.σ.get b).bind (kIn y)
 | _=>none
def Yd (x:Xab) (s:CS):Xab->Option (Option Xab)
 | .map none=>(RB x).bind fun _=>some none
 | .map (some b)=>(RB x).bind fun y=>(s.σ.get b).bind (sIn y)
 | _=>none
def PN (C:Cx) (k:TypeId) (m x:Xab) (s:CS):Option (Option Xab) :=
 match XJ C k with
 | true=>Zo x s m
 | false=>match XI C k with
  | true=>XX x s m
  | false=>gj (yx (C.P.underlying k)) (Yd x s m)
def NB (P:Program) (a:TypeId):Option Xab:=((P.info? a).bind (·.zero)).bind HJ
def Vp (ok:Bool) (z:Xab) (r:Option Xab):Xab :=
 match ok with
 | true=>.tuple ⟨[r.getD z,.bool r.isSome]⟩
 | false=>r.getD z
def OW (C:Cx) (t:TypeId) (m x:Xab) (ok:Bool) (s:CS):Option Xab :=
 (Ra (C.P.underlying t)).bind fun (k,a)=>(NB C.P a).bind fun z=>(PN C k m x s).bind fun r=>gj (Ep (cM C.P a) (r.getD z)) (some (Vp ok z r))
def Qp (C:Cx) (k:TypeId) (b:Nat) (x v:Xab) (s:CS):AO->Option CS
 | .xK D=>gj (yx (C.P.underlying k)) ((RB x).bind fun y=>gj (Nat.ble y.size maxLen) (some ⟨s.σ.put b (.xK (zS pF y v D)),s.nx⟩))
 | .zN D=>gj (XJ C k) ((R8 x).bind fun y=>some ⟨s.σ.put b (.zN (zS wY y v D)),s.nx⟩)
 | .zM D=>gj (XI C k) ((TJ x).bind fun y=>some ⟨s.σ.put b (.zM (zS qL y v D)),s.nx⟩)
 | _=>none
def Xy (C:Cx) (t:TypeId) (m x v:Xab) (s:CS):Option CS :=
 match m with
 | .map (some b)=>(Ra (C.P.underlying t)).bind fun (k,_)=>(s.σ.get b).bind fun o=>Qp C k b x v s o
 | _=>none
def Jm (C:Cx) (t:TypeId) (s:CS):VS :=
 (Ra (C.P.underlying t)).bind fun q=>match XJ C q.1 with
 | true=>(Af s (.zN [])).bind fun a=>some (.map (some s.nx),a)
 | false=>match XI C q.1 with
  | true=>(Af s (.zM [])).bind fun a=>some (.map (some s.nx),a)
  | false=>gj (yx (C.P.underlying q.1)) ((Af s (.xK [])).bind fun a=>some (.map (some s.nx),a))
def Ks:Xab->Option Nat
 | .int _ (.ofNat n)=>some n
 | _=>none
def A3 (P:Program) (t:TypeId) (l c:Xab) (s:CS):VS :=
 (Ks l).bind fun l=>(Ks c).bind fun c=>(Pz P t).bind fun q=>gj (Nat.ble l c && Nat.ble (c*q.by_) 16777216 && Nat.ble c 16777216) (HN s (List.replicate c q.z).flatten q.e 0 l c)
def Fy (x:Xaa):List Xaa->List Xaa
 | []=>[x]
 | y::l=>match Op.bytesLess x.data.toList y.data.toList with
  | true=>x::y::l
  | false=>y::Fy x l
def sf:List Xaa->List Xaa
 | []=>[]
 | x::l=>Fy x (sf l)
def Rk (D:List (Xaa × Xab)) (s:CS):VS :=
 match D with
 | []=>some (.slice none 0 0,s)
 | _::_=>HN s ((sf (D.map (·.1))).map .string) 9 1 D.length qT
def KU (s:CS):AO->VS
 | .xK D=>gj (Nat.ble D.length 1024) (Rk D s)
 | _=>none
def Om:Xab->Option Nat
 | .map (some b)=>some b
 | _=>none
def QK (C:Cx):Xab->Option (Nat × Nat)
 | .func (.func f) ⟨[]⟩ ⟨[p]⟩=>gj (Nat.beq f C.seq) (vQ p)
 | _=>none
def YR:Option AO->Option (List Xab)
 | some (.row c _ m)=>gj (Nat.beq m 0) (some c)
 | _=>none
def EP (C:Cx) (a:List Xab) (s:CS):VS :=
 (MW a).bind fun v=>(QK C v).bind fun (q,off)=>gj (Nat.beq off 0) ((YR (s.σ.get q)).bind fun l=>(MW l).bind fun m=>(Om m).bind fun b=>(s.σ.get b).bind (KU s))
def T2 (c:List Xab):Option Xab :=
 match c with
 | [.int .i64 (.ofNat a),.int .i64 (.ofNat b)]=>some (.int .i64 (.ofNat (Nat.min a b)))
 | _=>none
def OE (a:List Xab):Option Xab :=
 match a with
 | [.string x,.int .u8 n]=>some (.int .i64 (Lib.indexByte x.data.toList n.toNat.toUInt8))
 | _=>none
abbrev gJ:=FuncId->List Xab->CS->VS
def val (s:CS) (v:Option Xab):VS:=v.bind fun v=>some (v,s)
def done (r:Option CS):VS:=r.bind fun s=>some (undef,s)
def PC (C:Cx) (e:Ev) (s:CS) (c a b:Operand):VS :=
 (kR C e c).bind fun v=>match v with
 | .bool true=>val s (kR C e a)
 | .bool false=>val s (kR C e b)
 | _=>none
def Ew (s:CS) (t:TypeId) (l:List Xab):VS:=(Af s (.row l t 0)).bind fun a=>some (.pointer (some ⟨s.nx,0,none⟩),a)
def Z6 (C:Cx) (e:Ev) (s:CS) (t:TypeId) (x:Operand):VS:=(kR C e x).bind fun v=>(cH C.P t).bind fun g=>(xc g v).bind fun l=>Ew s t l
def Zc (ps:Array (Nat × Operand)) (a:List Xab):List (Nat × Xab):=(ps.toList.map (·.1)).zip a
def VU (C:Cx) (e:Ev) (s:CS) (t:TypeId) (ps:Array (Nat × Operand)):VS:=(Bi C e (ps.toList.map (·.2))).bind fun a=>val s (IY C.P t (Zc ps a))
def SX (C:Cx) (e:Ev) (s:CS) (t:TypeId) (n:Nat) (ps:Array (Nat × Operand)):VS:=(Bi C e (ps.toList.map (·.2))).bind fun a=>OL C.P t n (Zc ps a) s
def Yb (C:Cx) (e:Ev) (s:CS) (t:TypeId) (x:Operand):VS:=(kR C e x).bind fun v=>(Dd C t v s).bind fun (_,_,_,v)=>some (v,s)
def Xc (C:Cx) (e:Ev) (s:CS) (t:TypeId) (x y:Operand):VS:=(kR C e x).bind fun p=>(kR C e y).bind fun v=>done (Io C.P t p v s)
def notNil:Xab->Option Xab
 | .pointer (some a)=>some (.pointer (some a))
 | _=>none
def Z9 (C:Cx) (e:Ev) (s:CS) (x:Operand):VS:=(kR C e x).bind fun v=>val s (notNil v)
def ZL (C:Cx) (e:Ev) (s:CS) (op:BinOp) (t:TypeId) (x y:Operand):VS:=(kR C e x).bind fun a=>(kR C e y).bind fun b=>val s (Xf C.P op t x y a b)
def oUn (C:Cx) (e:Ev) (s:CS) (op:UnOp) (x:Operand):VS:=(kR C e x).bind fun a=>val s (Z3 op a)
def XU (C:Cx) (e:Ev) (s:CS) (a d:TypeId) (x:Operand):VS:=(kR C e x).bind fun v=>val s (Od C.P a d v)
def Yi (C:Cx) (e:Ev) (s:CS) (f:FuncId) (a b:Array Operand):VS:=(Bi C e a.toList).bind fun a=>(Bi C e b.toList).bind fun b=>some (.func (.func f) ⟨a⟩ ⟨b⟩,s)
def Yz (C:Cx) (e:Ev) (s:CS) (t:TypeId) (l c:Operand):VS:=(kR C e l).bind fun l=>(kR C e c).bind fun c=>A3 C.P t l c s
def Zj (C:Cx) (e:Ev) (s:CS) (t:TypeId) (m x:Operand) (ok:Bool):VS:=(kR C e m).bind fun m=>(kR C e x).bind fun x=>val s (OW C t m x ok s)
def ZH (C:Cx) (e:Ev) (s:CS) (t:TypeId) (m x v:Operand):VS:=(kR C e m).bind fun m=>(kR C e x).bind fun x=>(kR C e v).bind fun v=>done (Xy C t m x v s)
def Wl (C:Cx) (e:Ev) (s:CS) (t:TypeId) (x:Operand) (lo hi b:Option Operand):VS :=
 (kR C e x).bind fun a=>(Bi C e (lo.toList++hi.toList++b.toList)).bind fun c=>val s (ZO C.P t lo hi b a c)
def SE (C:Cx) (e:Ev) (s:CS) (t:TypeId) (x:Operand) (f:Nat):VS:=(kR C e x).bind fun v=>val s (Fs C.P t f v)
def Xu (C:Cx) (e:Ev) (s:CS) (t:TypeId) (x:Operand) (f:Nat):VS:=(kR C e x).bind fun v=>(BJ v).bind fun cs=>(KW C.P t f).bind fun a=>val s (N0 C.P a.type a.offset cs)
def YJ (C:Cx) (e:Ev) (s:CS) (t:TypeId) (x i:Operand):VS:=(kR C e x).bind fun v=>(kR C e i).bind fun i=>val s (RG C.P t v i)
def aac (C:Cx) (e:Ev) (s:CS) (t:TypeId) (x i:Operand):VS:=(kR C e x).bind fun v=>(kR C e i).bind fun i=>val s (Xk C.P t v i)
def Yf (C:Cx) (e:Ev) (s:CS) (x:Operand) (i:Nat):VS:=(kR C e x).bind fun v=>(PT v).bind fun a=>val s a[i]?
def BI (P:Program) (t:TypeId) (r:VS):VS:=r.bind fun (v,s)=>gj (Jp (lJ P t) v) (some (v,s))
def Jj (C:Cx) (call:gJ) (t:TypeId) (s:CS) (f:FuncId) (a:List Xab):VS :=
 match gi C.P f with
 | true=>BI C.P t (match Nat.beq f C.U9 with
  | true=>EP C a s
  | false=>call f a s)
 | false=>gj (Nat.beq f C.idx) (BI C.P t (val s (OE a)))
def PW (C:Cx) (call:gJ) (t:TypeId) (s:CS) (g:Xab) (a:List Xab):VS :=
 match g with
 | .func (.func f) ⟨b⟩ ⟨c⟩=>gj (gi C.P f) (BI C.P t (call f (b++a++c) s))
 | _=>none
def Vs (P:Program) (t:TypeId) (v:Xab):Option Xab:=gj (Ep (cM P t) v) (some v)
def AZ (C:Cx) (b:Builtin) (t:TypeId) (c:Call) (a:List Xab) (s:CS):VS :=
 match b with
 | .len=>(MW a).bind fun v=>val s (VQ s ((c.argTypes[0]?).bind C.P.underlying) v)
 | .append=>Fc C c.argTypes.toList a s
 | .min=>val s ((T2 a).bind (Vs C.P t))
 | _=>none
def RS (C:Cx) (call:gJ) (e:Ev) (s:CS) (t:TypeId) (c:Call):VS :=
 (Bi C e c.args.toList).bind fun a=>match c.callee with
 | .builtin b=>AZ C b t c a s
 | .value (.func f)=>Jj C call t s f a
 | .value (.tmp g)=>(e.get g).bind fun g=>PW C call t s g a
 | _=>none
def XG (C:Cx) (call:gJ) (o:Oper) (e:Ev) (s:CS):VS :=
 match o.op with
 | .move x=>val s (kR C e x)
 | .assign x=>val s (kR C e x)
 | .pick c a b=>PC C e s c a b
 | .alloc t=>(zeroOf C.P t).bind (Ew s t)
 | .box t x=>Z6 C e s t x
 | .build t ps=>VU C e s t ps
 | .buildSlice t n ps=>SX C e s t n ps
 | .load t x=>Yb C e s t x
 | .store t x y=>Xc C e s t x y
 | .nilCheck x=>Z9 C e s x
 | .binOp op t x y _=>ZL C e s op t x y
 | .unOp op _ x=>oUn C e s op x
 | .convert a d x=>XU C e s a d x
 | .makeFunc (.func f) g h=>Yi C e s f g h
 | .makeMap t none=>Jm C t s
 | .makeSlice t l c=>Yz C e s t l c
 | .lookup t m x ok=>Zj C e s t m x ok
 | .mapUpdate t m x v=>ZH C e s t m x v
 | .slice t x lo hi j=>Wl C e s t x lo hi j
 | .fieldAddr t x f=>SE C e s t x f
 | .field t x f=>Xu C e s t x f
 | .indexAddr t x i=>YJ C e s t x i
 | .index t x i=>aac C e s t x i
 | .extract x i=>Yf C e s x i
 | .call c=>RS C call e s o.type c
 | _=>none
def U' (a:Bool):Xab->Option Bool
 | .bool b=>some (b==a)
 | .tuple _=>some false
 | _=>none
def DO (ops:Array Oper) (o:Oper) (e:Ev):Option Bool :=
 match guardOf ops o with
 | none=>some true
 | some (none,_)=>some false
 | some (some d,a)=>(e.get d).bind (U' a)
def forced {α:Type} (v:Xab) (k:Xab->α):α :=
 match v with
 | .int a n=>match n with
  | .ofNat m=>match m with
   | 0=>k (.int a (.ofNat 0))
   | m+1=>k (.int a (.ofNat (m+1)))
  | .negSucc m=>k (.int a (.negSucc m))
 | .bool b=>match b with
  | true=>k (.bool true)
  | false=>k (.bool false)
 | v=>k v
def EA (n:Nat) (e:Ev) (dst:Option Tmp) (v:Xab):Ev :=
 match dst with
 | none=>e
 | some d=>match Nat.blt d n with
  | true=>forced v (e.put d)
  | false=>e
abbrev ES:=Option (Ev × CS)
def did (n:Nat) (e:Ev) (dst:Option Tmp) (r:VS) (k:Ev->CS->ES):ES:=r.bind fun (v,s)=>k (EA n e dst v) s
def Tj (C:Cx) (call:gJ) (n:Nat) (ops:Array Oper):List Oper->Ev->CS->ES
 | [],e,s=>some (e,s)
 | o::rest,e,s=>(DO ops o e).bind fun w=>match w with
  | true=>did n e o.dst (XG C call o e s) (Tj C call n ops rest)
  | false=>Tj C call n ops rest (EA n e o.dst undef) s
end
end Go.Sx.Cr
