/- Part of the framework. No condition. -/
import Derived.Test.YtlpcncdglfjnoaaGreatDoorSxV
set_option linter.all false
set_option maxHeartbeats 4000000
namespace Go.Sx.Cr
noncomputable section
abbrev Ev:=eh Xab
structure CS where
 σ:eh AO
 nx:Nat
abbrev VS:=Option (Xab × CS)
def gu {α:Type} (b:Bool) (k:Option α):Option α :=
 match b with
 | true=>k
 | false=>none
def bI {α:Type} {b:Bool} {k:Option α} {x:α}:gu b k=some x↔b=true/\k=some x:=by
 cases b <;> simp [gu]
def Hf (v:Xab):Option Xab:=gu (gd 9 v) (some v)
def TG (C:Cx) (g:Nat):Option Xab:=gu (Nat.blt g C.ng) (some (.pointer (some ⟨g,0,none⟩)))
def kU (C:Cx) (e:Ev):Operand->Option Xab
 | .tmp t=>e.get t
 | .const v=>Hf v
 | .func f=>some (.func (.func f) #[] #[])
 | .global g=>TG C g
def A6 (C:Cx) (e:Ev):List Operand->Option (List Xab)
 | []=>some []
 | x::a=>(kU C e x).bind fun v=>(A6 C e a).bind fun l=>some (v::l)
def MQ (op:BinOp) (k:IntKind) (m n:Int):Option Xab :=
 match op with
 | .add=>some (.int k (k.wrap (m+n)))
 | .sub=>some (.int k (k.wrap (m-n)))
 | .mul=>some (.int k (k.wrap (m*n)))
 | .quo=>gu (!decide (n=0)) (some (.int k (k.wrap (m.tdiv n))))
 | .rem=>gu (!decide (n=0)) (some (.int k (m.tmod n)))
 | .eql=>some (.bool (m==n))
 | .neq=>some (.bool (m != n))
 | .lss=>some (.bool (decide (m<n)))
 | .leq=>some (.bool (decide (m<=n)))
 | .gtr=>some (.bool (decide (m>n)))
 | .geq=>some (.bool (decide (m>=n)))
 | .and=>some (.int k (EU .and k m n))
 | .or=>some (.int k (EU .or k m n))
 | .xor=>some (.int k (EU .xor k m n))
 | .andNot=>some (.int k (EU .andNot k m n))
 | _=>none
def PE (op:BinOp) (x y:Xaa):Option Xab :=
 match op with
 | .add=>gu (decide (((x.size+y.size:Nat):Int)<=IntKind.i64.max)) (some (.string (x++y)))
 | .eql=>some (.bool (x.data.toList==y.data.toList))
 | .neq=>some (.bool !(x.data.toList==y.data.toList))
 | .lss=>some (.bool (Op.bytesLess x.data.toList y.data.toList))
 | .leq=>some (.bool (Op.bytesLess x.data.toList y.data.toList || x.data.toList==y.data.toList))
 | .gtr=>some (.bool !(Op.bytesLess x.data.toList y.data.toList || x.data.toList==y.data.toList))
 | .geq=>some (.bool !(Op.bytesLess x.data.toList y.data.toList))
 | _=>none
def q8 (op:BinOp) (b:Bool):Option Xab :=
 match op with
 | .eql=>some (.bool b)
 | .neq=>some (.bool !b)
 | _=>none
def MT:Option TypeDesc->Bool
 | some (.pointer _)=>true
 | _=>false
def Kh:Option TypeDesc->Bool
 | some (.slice _)=>true
 | _=>false
def JY:Option TypeDesc->Bool
 | some .bool=>true
 | _=>false
def yA:Option TypeDesc->Bool
 | some .string=>true
 | _=>false
def Qg (P:Program) (op:BinOp) (t:TypeId) (a b:Xab):Option Xab :=
 match a,b with
 | .int k m,.int k' n=>gu (!nY op && decide (k=k')) (MQ op k m n)
 | .string m,.string n=>PE op m n
 | .bool m,.bool n=>gu (JY (P.underlying t)) (q8 op (m==n))
 | .pointer p,.pointer _=>gu (MT (P.underlying t)) (q8 op p.isNone)
 | .slice p _ _,.slice _ _ _=>gu (Kh (P.underlying t)) (q8 op p.isNone)
 | _,_=>none
def qb (a b:Xaa):Bool:=a.data.toList==b.data.toList
def EP:Xab->Xab->Bool
 | .int _ a,.int _ b=>a==b
 | .string a,.string b=>qb a b
 | .bool a,.bool b=>a==b
 | _,_=>false
def Up (P:Program) (op:BinOp) (t:TypeId) (a b:Xab):Option Xab :=
 match a,b,P.underlying t with
 | .agg c,.agg d,some (.struct e) =>
  gu (!(P.stoodInHeld t) && !(P.eqGuardType P.depth t) && e.all (okF P c d)) (q8 op (e.all fun f=>EP (c[f.offset]?.getD .nilIface) (d[f.offset]?.getD .nilIface)))
 | _,_,_=>none
def Vp (P:Program) (op:BinOp) (t:TypeId) (x y:Operand) (a b:Xab):Option Xab :=
 match tz P t x y with
 | true=>Qg P op t a b
 | false=>Up P op t a b
def X0 (op:UnOp) (a:Xab):Option Xab :=
 match op,a with
 | .neg,.int k n=>some (.int k (k.wrap (0-n)))
 | .not,.bool b=>some (.bool !b)
 | _,_=>none
def M' (P:Program) (s d:TypeId) (a:Xab):Option Xab :=
 match P.underlying s,P.underlying d,a with
 | some (.int _),some (.int k),.int _ n=>some (.int k (k.wrap n))
 | some .string,some .string,.string x=>some (.string x)
 | _,_,_=>none
def xz:TypeDesc->Xab->Bool
 | .bool,.bool _=>true
 | .bool,_=>false
 | .int k,.int k' _=>decide (k=k')
 | .int _,_=>false
 | .string,.string _=>true
 | .string,_=>false
 | .pointer _,.pointer _=>true
 | .pointer _,_=>false
 | .slice _,.slice _ _ _=>true
 | .slice _,_=>false
 | .map _ _,.map _=>true
 | .map _ _,_=>false
 | _,_=>true
def fits:List TypeDesc->List Xab->Bool
 | [],[]=>true
 | d::a,v::b=>xz d v && fits a b
 | _,_=>false
def Br:Xab->Option (List Xab)
 | .agg ⟨l⟩=>some l
 | _=>none
def D4 (c:ey) (v:Xab):Bool :=
 match c with
 | (true,a)=>(Br v).elim false (fits a)
 | (false,a)=>fits a [v]
def Ba:List ey->List Xab->Bool
 | [],[]=>true
 | c::cs,v::a=>D4 c v && Ba cs a
 | _,_=>false
def OG:Xab->Option (List Xab)
 | .tuple ⟨l⟩=>some l
 | _=>none
def IE (q:Bool × List ey) (v:Xab):Bool :=
 match q with
 | (true,cs)=>(OG v).elim false (Ba cs)
 | (false,cs)=>Ba cs [v]
def Oc (C:Cx) (b off n:Nat):Option AO->Option (List Xab)
 | some (.row c _ _)=>M8 off n c
 | some .gone=>(C.ro b).bind fun c=>M8 off n c
 | _=>none
def cells (C:Cx) (s:CS) (b off n:Nat):Option (List Xab):=Oc C b off n (s.σ.get b)
def wy:Xab->Option (Nat × Nat)
 | .pointer (some ⟨b,off,none⟩)=>some (b,off)
 | _=>none
abbrev Ld:=Option (Nat × Nat × List Xab × Xab)
def TZ (C:Cx) (t:TypeId) (b off:Nat) (s:CS):Ld :=
 gu (Nat.beq (fB C.P 9 t).length (C.P.cellsOf t)) ((cells C s b off (fB C.P 9 t).length).bind fun a=>gu (fits (fB C.P 9 t) a) (some (b,off,a,.agg ⟨a⟩)))
def T8 (C:Cx) (t:TypeId) (b off:Nat) (s:CS):Ld :=
 (cells C s b off 1).bind fun a=>gu (fits (cM C.P t).2 a) (some (b,off,a,a.headD undef))
def CV (C:Cx) (t:TypeId) (v:Xab) (s:CS):Ld :=
 (wy v).bind fun (b,off)=>(cP C.P t).bind fun g=>match g with
  | true=>TZ C t b off s
  | false=>T8 C t b off s
def Ac (s:CS) (o:AO):Option CS :=
 match s.σ.get s.nx with
 | none=>some ⟨s.σ.put s.nx o,s.nx+1⟩
 | some _=>none
def RT (s:CS) (b off:Nat) (a:List Xab):Option CS :=
 match s.σ.get b with
 | some (.row c e m)=>gu (!Nat.beq m 2 && a.all da && Nat.ble 1 a.length && Nat.ble (off+a.length) c.length) (some ⟨s.σ.put b (.row (gK c off a) e m),s.nx⟩)
 | _=>none
def xr (g:Bool) (v:Xab):Option (List Xab) :=
 match g with
 | true=>Br v
 | false=>gu (!fw v) (some [v])
def HR (P:Program) (t:TypeId) (p v:Xab) (s:CS):Option CS :=
 (wy p).bind fun (b,off)=>(cP P t).bind fun g=>(xr g v).bind fun l=>gu (Nat.beq l.length (P.cellsOf t)) (RT s b off l)
def Ei (agg:Nat->Option Bool):List (Nat × Xab)->Option (List (Nat × List Xab))
 | []=>some []
 | (i,v)::l=>(agg i).bind fun g=>(xr g v).bind fun c=>(Ei agg l).bind fun r=>some ((i,c)::r)
def zeroOf (P:Program) (t:TypeId):Option (List Xab) :=
 ((P.info? t).bind (·.zero)).bind fun z=>gu (z.cells.toList.all (gd 9)) (some z.cells.toList)
def JJ (P:Program) (a:Array Field) (z:List Xab) (ps:List (Nat × Xab)):Option Xab :=
 gu (a.all fun f=>oK P f.type) ((Ei (fun i=>(a[i]?).bind fun f=>cP P f.type) ps).bind fun b=>(fV (((a.map fun f=>(f.offset,P.cellsOf f.type)))[·]?) z b).bind fun cs=>some (.agg ⟨cs⟩))
def Jq (P:Program) (a:TypeId) (z:List Xab) (ps:List (Nat × Xab)):Option Xab :=
 gu (oK P a) ((Ei (fun _=>cP P a) ps).bind fun b=>(fV (fun i=>some (i*P.cellsOf a,P.cellsOf a)) z b).bind fun cs=>some (.agg ⟨cs⟩))
def Ih (P:Program) (t:TypeId) (ps:List (Nat × Xab)):Option Xab :=
 (zeroOf P t).bind fun z=>match P.underlying t with
  | some (.struct a)=>JJ P a z ps
  | some (.array _ b)=>Jq P b z ps
  | _=>none
structure El where
 e:TypeId
 sz:Nat
 by_:Nat
 z:List Xab
def NS (P:Program) (e:TypeId):Option El :=
 (P.info? e).bind fun i=>i.zero.bind fun z=>gu (z.cells.toList.all (gd 9) && Nat.beq z.cells.size i.size && Nat.ble 1 i.size) (some ⟨e,i.size,i.bytes,z.cells.toList⟩)
def elemOf:Option TypeDesc->Option TypeId
 | some (.slice e)=>some e
 | _=>none
def Oj (P:Program) (t:TypeId):Option El:=(elemOf (P.underlying t)).bind (NS P)
def CQ:List (Nat × Xab)->List (Nat × List Xab)
 | []=>[]
 | (i,v)::l=>(i,match Br v with
  | some c=>c
  | none=>[v])::CQ l
def Ic (sz:Nat):Nat->List (Nat × List Xab)->Option (List Xab)
 | _,[]=>some []
 | i,(k,c)::l=>gu (Nat.beq k i && Nat.beq c.length sz) ((Ic sz (i+1) l).bind fun r=>some (c++r))
def Of (q:El) (n:Nat) (ps:List (Nat × List Xab)):Option (List Xab):=gu (Nat.beq ps.length n) (Ic q.sz 0 ps)
def Hj (s:CS) (c:List Xab) (e:TypeId) (m l cap:Nat):VS :=
 (Ac s (.row c e m)).bind fun a=>some (.slice (some ⟨s.nx,0,none⟩) l cap,a)
def NI (P:Program) (t:TypeId) (n:Nat) (ps:List (Nat × Xab)) (s:CS):VS :=
 (Oj P t).bind fun q=>gu (Nat.ble (n*q.sz) 16777216) ((Of q n (CQ ps)).bind fun cs=>Hj s cs q.e 0 n n)
def HS (C:Cx) (sz:Nat) (x:Xab) (s:CS):Option (List Xab) :=
 match x with
 | .slice q m _=>match m with
  | 0=>some []
  | m+1=>(wy (.pointer q)).bind fun (b,off)=>cells C s b off ((m+1)*sz)
 | _=>none
def DU (q:El) (a l c:Nat):Option AO->Option (List Xab)
 | some (.row cs b d)=>gu (Nat.beq d 1 && Nat.beq q.e b && Nat.ble c rj && Nat.beq a ((rj-c)*q.sz) && Nat.ble (a+l*q.sz) cs.length) (some cs)
 | _=>none
def JF (s:CS) (q:El) (b a l c m:Nat) (d:List Xab):VS :=
 (DU q a l c (s.σ.get b)).bind fun cs=>gu (Nat.beq cs.length (a+l*q.sz))
   (match s.σ.get s.nx with
   | none=>some (.slice (some ⟨s.nx,0,none⟩) (l+m) rj,⟨(s.σ.put b .gone).put s.nx (.row (cs.drop a++d) q.e 1),s.nx+1⟩)
   | some _=>none)
def Pv (C:Cx) (s:CS) (q:El) (a b l c m:Nat) (d:List Xab):VS :=
 match Nat.ble (l+m) c with
 | true=>(RT s a (b+l*q.sz) d).bind fun s=>some (.slice (some ⟨a,b,none⟩) (l+m) c,s)
 | false=>(cells C s a b (l*q.sz)).bind fun old=>Hj s (old++d) q.e 1 (l+m) rj
def Tz (C:Cx) (s:CS) (q:El) (a b l c m:Nat) (d:List Xab):VS :=
 match Nat.blt c half with
 | true=>Pv C s q a b l c m d
 | false=>JF s q a b l c m d
def TV (C:Cx) (s:CS) (q:El) (p:Xac) (l c m:Nat) (d:List Xab):VS :=
 match p with
 | none=>gu (Nat.beq l 0 && Nat.beq c 0) (Hj s d q.e 1 m rj)
 | some a=>(wy (.pointer (some a))).bind fun (b,off)=>Tz C s q b off l c m d
def UX (C:Cx) (q:El) (a x:Xab) (s:CS) (b:List Xab):VS :=
 match a,x with
 | .slice p l c,.slice _ m _=>gu (Nat.ble ((2*(l+m)+1024)*q.by_) 281474976710656 && Nat.ble (l+m) 281474976710656 && b.all da)
   (match m with
   | 0=>some (.slice p l c,s)
   | _+1=>TV C s q p l c m b)
 | _,_=>none
def EJ (C:Cx) (ts:List TypeId) (b:List Xab) (s:CS):VS :=
 match ts,b with
 | [t,c],[a,x]=>gu (Kh (C.P.underlying c)) ((Oj C.P t).bind fun q=>(HS C q.sz x s).bind fun d=>UX C q a x s d)
 | _,_=>none
def Wm:AO->Option Nat
 | .xU D=>some D.length
 | .zK D=>some D.length
 | .zJ D=>some D.length
 | _=>none
def Ug (s:CS) (D:Option TypeDesc) (v:Xab):Option Xab :=
 match D with
 | some .string=>(match v with
  | .string s=>some (.int .i64 s.size)
  | _=>none)
 | some (.slice _)=>(match v with
  | .slice _ n _=>some (.int .i64 n)
  | _=>none)
 | some (.map _ _)=>(match v with
  | .map (some b)=>((s.σ.get b).bind Wm).bind fun n=>some (.int .i64 n)
  | _=>none)
 | _=>none
def L5:List Xab->Option Xab
 | [v]=>some v
 | _=>none
def Wq (x:Xaa) (lo hi:Option Xab):Option Xab :=
 gu (decide (0<=kT lo/\kT lo<=lz x.size hi/\lz x.size hi<=x.size)) (some (.string (x.extract (kT lo).toNat (lz x.size hi).toNat)))
def XV (P:Program) (e:TypeId) (b off len cap:Nat) (lo hi:Option Xab):Option Xab :=
 gu (oK P e && decide (0<=kT lo/\kT lo<=lz len hi/\lz len hi<=len/\kT lo<len) && (Nat.blt cap half || Nat.ble half (cap-(kT lo).toNat))) (some (.slice (some ⟨b,off+(kT lo).toNat*P.cellsOf e,none⟩) ((lz len hi).toNat-(kT lo).toNat) (cap-(kT lo).toNat)))
def tG (P:Program) (t:TypeId) (a:Xab) (lo hi:Option Xab):Option Xab :=
 gu (eU lo && eU hi) (match P.underlying t with
  | some .string=>(match a with
   | .string x=>Wq x lo hi
   | _=>none)
  | some (.slice e)=>(match a with
   | .slice (some ⟨b,off,none⟩) len cap=>XV P e b off len cap lo hi
   | _=>none)
  | _=>none)
def XL (P:Program) (t:TypeId) (lo hi b:Option Operand) (a:Xab) (c:List Xab):Option Xab :=
 match b,lo,hi,c with
 | none,none,none,[]=>tG P t a none none
 | none,some _,none,[l]=>tG P t a (some l) none
 | none,none,some _,[h]=>tG P t a none (some h)
 | none,some _,some _,[l,h]=>tG P t a (some l) (some h)
 | _,_,_,_=>none
def atIdx (P:Program) (b off len:Nat) (a:TypeId) (n:Int):Option Xab :=
 gu (oK P a && decide (0<=n/\n<len)) (some (.pointer (some ⟨b,off+n.toNat*P.cellsOf a,none⟩)))
def intOf:Xab->Option Int
 | .int _ n=>some n
 | _=>none
def Qd (P:Program) (t:TypeId) (v i:Xab):Option Xab :=
 (intOf i).bind fun n=>match P.underlying t with
 | some (.slice a)=>(match v with
  | .slice (some ⟨b,off,none⟩) len _=>atIdx P b off len a n
  | _=>none)
 | some (.array len a)=>(wy v).bind fun (b,off)=>atIdx P b off len a n
 | _=>none
def Vs (P:Program) (t:TypeId) (v i:Xab):Option Xab :=
 (intOf i).bind fun n=>match v with
 | .string s=>gu (yA (P.underlying t) && decide (0<=n/\n<s.size)) (some (.int .u8 (dm s n)))
 | _=>none
def MV (P:Program) (t:TypeId) (off:Nat) (cs:List Xab):Option Xab :=
 (cP P t).bind fun g=>match g with
 | true=>some (.agg ⟨(cs.drop off).take (P.cellsOf t)⟩)
 | false=>cs[off]?
def Ki (P:Program) (t:TypeId) (f:Nat):Option Field :=
 match P.underlying t with
 | some (.struct a)=>a[f]?
 | _=>none
def EW (P:Program) (t:TypeId) (f:Nat) (v:Xab):Option Xab :=
 (wy v).bind fun (b,off)=>(Ki P t f).bind fun a=>gu (Nat.ble 1 (P.cellsOf a.type)) (some (.pointer (some ⟨b,off+a.offset,none⟩)))
def xj (a b:Nat × Xaa):Bool:=Nat.beq a.1 b.1 && qb a.2 b.2
def rb (a b:Nat × Nat):Bool:=Nat.beq a.1 b.1 && Nat.beq a.2 b.2
def lu {α:Type} (q:α->α->Bool) (s:α):List (α × Xab)->Option Xab
 | []=>none
 | p::D=>match q s p.1 with
  | true=>some p.2
  | false=>lu q s D
def zN {α:Type} (q:α->α->Bool) (s:α) (v:Xab):List (α × Xab)->List (α × Xab)
 | []=>[(s,v)]
 | p::D=>match q s p.1 with
  | true=>(p.1,v)::D
  | false=>p::zN q s v D
def PK:Option TypeDesc->Option (TypeId × TypeId)
 | some (.map k e)=>some (k,e)
 | _=>none
def Qx:Xab->Option (Nat × Xaa)
 | .agg ⟨[.int .i64 (.ofNat n),.string y]⟩=>some (n,y)
 | _=>none
def RW:Xab->Option (Nat × Nat)
 | .agg ⟨[.int .i64 (.ofNat n),.int .i64 (.ofNat m)]⟩=>some (n,m)
 | _=>none
def VW (C:Cx) (k:TypeId):Bool:=Nat.beq k C.kt || Nat.beq k C.ku
def VV (C:Cx) (k:TypeId):Bool:=Nat.blt 0 C.ki && Nat.beq k C.ki
def P9:Xab->Option Xaa
 | .string y=>some y
 | _=>none
def YM (y:Xaa):AO->Option (Option Xab)
 | .xU D=>some (lu qb y D)
 | _=>none
def YU (y:Nat × Xaa):AO->Option (Option Xab)
 | .zK D=>some (lu xj y D)
 | _=>none
def YF (y:Nat × Nat):AO->Option (Option Xab)
 | .zJ D=>some (lu rb y D)
 | _=>none
def V6 (x:Xab) (s:CS):Xab->Option (Option Xab)
 | .map (some b)=>(RW x).bind fun y=>(s.σ.get b).bind (YF y)
 | _=>none
def Xr (x:Xab) (s:CS):Xab->Option (Option Xab)
 | .map (some b)=>(Qx x).bind fun y=>(s.σ.get b).bind (YU y)
 | _=>none
def Wj (x:Xab) (s:CS):Xab->Option (Option Xab)
 | .map none=>(P9 x).bind fun _=>some none
 | .map (some b)=>(P9 x).bind fun y=>(s.σ.get b).bind (YM y)
 | _=>none
def OB (C:Cx) (k:TypeId) (m x:Xab) (s:CS):Option (Option Xab) :=
 match VW C k with
 | true=>Xr x s m
 | false=>match VV C k with
  | true=>V6 x s m
  | false=>gu (yA (C.P.underlying k)) (Wj x s m)
def MD (P:Program) (a:TypeId):Option Xab:=((P.info? a).bind (·.zero)).bind Hf
def TW (ok:Bool) (z:Xab) (r:Option Xab):Xab :=
 match ok with
 | true=>.tuple ⟨[r.getD z,.bool r.isSome]⟩
 | false=>r.getD z
def NR (C:Cx) (t:TypeId) (m x:Xab) (ok:Bool) (s:CS):Option Xab :=
 (PK (C.P.underlying t)).bind fun (k,a)=>(MD C.P a).bind fun z=>(OB C k m x s).bind fun r=>gu (D4 (cM C.P a) (r.getD z)) (some (TW ok z r))
def O8 (C:Cx) (k:TypeId) (b:Nat) (x v:Xab) (s:CS):AO->Option CS
 | .xU D=>gu (yA (C.P.underlying k)) ((P9 x).bind fun y=>gu (Nat.ble y.size maxLen) (some ⟨s.σ.put b (.xU (zN qb y v D)),s.nx⟩))
 | .zK D=>gu (VW C k) ((Qx x).bind fun y=>some ⟨s.σ.put b (.zK (zN xj y v D)),s.nx⟩)
 | .zJ D=>gu (VV C k) ((RW x).bind fun y=>some ⟨s.σ.put b (.zJ (zN rb y v D)),s.nx⟩)
 | _=>none
def VG (C:Cx) (t:TypeId) (m x v:Xab) (s:CS):Option CS :=
 match m with
 | .map (some b)=>(PK (C.P.underlying t)).bind fun (k,_)=>(s.σ.get b).bind fun o=>O8 C k b x v s o
 | _=>none
def IB (C:Cx) (t:TypeId) (s:CS):VS :=
 (PK (C.P.underlying t)).bind fun q=>match VW C q.1 with
 | true=>(Ac s (.zK [])).bind fun a=>some (.map (some s.nx),a)
 | false=>match VV C q.1 with
  | true=>(Ac s (.zJ [])).bind fun a=>some (.map (some s.nx),a)
  | false=>gu (yA (C.P.underlying q.1)) ((Ac s (.xU [])).bind fun a=>some (.map (some s.nx),a))
def JP:Xab->Option Nat
 | .int _ (.ofNat n)=>some n
 | _=>none
def AR (P:Program) (t:TypeId) (l c:Xab) (s:CS):VS :=
 (JP l).bind fun l=>(JP c).bind fun c=>(Oj P t).bind fun q=>gu (Nat.ble l c && Nat.ble (c*q.by_) 16777216 && Nat.ble c 16777216) (Hj s (List.replicate c q.z).flatten q.e 0 l c)
def EZ (x:Xaa):List Xaa->List Xaa
 | []=>[x]
 | y::l=>match Op.bytesLess x.data.toList y.data.toList with
  | true=>x::y::l
  | false=>y::EZ x l
def sO:List Xaa->List Xaa
 | []=>[]
 | x::l=>EZ x (sO l)
def PT (D:List (Xaa × Xab)) (s:CS):VS :=
 match D with
 | []=>some (.slice none 0 0,s)
 | _::_=>Hj s ((sO (D.map (·.1))).map .string) 9 1 D.length rj
def Kg (s:CS):AO->VS
 | .xU D=>gu (Nat.ble D.length 1024) (PT D s)
 | _=>none
def Nk:Xab->Option Nat
 | .map (some b)=>some b
 | _=>none
def Pt (C:Cx):Xab->Option (Nat × Nat)
 | .func (.func f) ⟨[]⟩ ⟨[p]⟩=>gu (Nat.beq f C.seq) (wy p)
 | _=>none
def WT:Option AO->Option (List Xab)
 | some (.row c _ m)=>gu (Nat.beq m 0) (some c)
 | _=>none
def Ez (C:Cx) (a:List Xab) (s:CS):VS :=
 (L5 a).bind fun v=>(Pt C v).bind fun (q,off)=>gu (Nat.beq off 0) ((WT (s.σ.get q)).bind fun l=>(L5 l).bind fun m=>(Nk m).bind fun b=>(s.σ.get b).bind (Kg s))
def Sj (c:List Xab):Option Xab :=
 match c with
 | [.int .i64 (.ofNat a),.int .i64 (.ofNat b)]=>some (.int .i64 (.ofNat (Nat.min a b)))
 | _=>none
def NA (a:List Xab):Option Xab :=
 match a with
 | [.string x,.int .u8 n]=>some (.int .i64 (Lib.indexByte x.data.toList n.toNat.toUInt8))
 | _=>none
abbrev gU:=FuncId->List Xab->CS->VS
def val (s:CS) (v:Option Xab):VS:=v.bind fun v=>some (v,s)
def done (r:Option CS):VS:=r.bind fun s=>some (undef,s)
def On (C:Cx) (e:Ev) (s:CS) (c a b:Operand):VS :=
 (kU C e c).bind fun v=>match v with
 | .bool true=>val s (kU C e a)
 | .bool false=>val s (kU C e b)
 | _=>none
def D9 (s:CS) (t:TypeId) (l:List Xab):VS:=(Ac s (.row l t 0)).bind fun a=>some (.pointer (some ⟨s.nx,0,none⟩),a)
def X3 (C:Cx) (e:Ev) (s:CS) (t:TypeId) (x:Operand):VS:=(kU C e x).bind fun v=>(cP C.P t).bind fun g=>(xr g v).bind fun l=>D9 s t l
def Xf (ps:Array (Nat × Operand)) (a:List Xab):List (Nat × Xab):=(ps.toList.map (·.1)).zip a
def Ui (C:Cx) (e:Ev) (s:CS) (t:TypeId) (ps:Array (Nat × Operand)):VS:=(A6 C e (ps.toList.map (·.2))).bind fun a=>val s (Ih C.P t (Xf ps a))
def Rf (C:Cx) (e:Ev) (s:CS) (t:TypeId) (n:Nat) (ps:Array (Nat × Operand)):VS:=(A6 C e (ps.toList.map (·.2))).bind fun a=>NI C.P t n (Xf ps a) s
def Wh (C:Cx) (e:Ev) (s:CS) (t:TypeId) (x:Operand):VS:=(kU C e x).bind fun v=>(CV C t v s).bind fun (_,_,_,v)=>some (v,s)
def Vn (C:Cx) (e:Ev) (s:CS) (t:TypeId) (x y:Operand):VS:=(kU C e x).bind fun p=>(kU C e y).bind fun v=>done (HR C.P t p v s)
def notNil:Xab->Option Xab
 | .pointer (some a)=>some (.pointer (some a))
 | _=>none
def X6 (C:Cx) (e:Ev) (s:CS) (x:Operand):VS:=(kU C e x).bind fun v=>val s (notNil v)
def XK (C:Cx) (e:Ev) (s:CS) (op:BinOp) (t:TypeId) (x y:Operand):VS:=(kU C e x).bind fun a=>(kU C e y).bind fun b=>val s (Vp C.P op t x y a b)
def YV (C:Cx) (e:Ev) (s:CS) (op:UnOp) (x:Operand):VS:=(kU C e x).bind fun a=>val s (X0 op a)
def V3 (C:Cx) (e:Ev) (s:CS) (a d:TypeId) (x:Operand):VS:=(kU C e x).bind fun v=>val s (M' C.P a d v)
def Wl (C:Cx) (e:Ev) (s:CS) (f:FuncId) (a b:Array Operand):VS:=(A6 C e a.toList).bind fun a=>(A6 C e b.toList).bind fun b=>some (.func (.func f) ⟨a⟩ ⟨b⟩,s)
def WA (C:Cx) (e:Ev) (s:CS) (t:TypeId) (l c:Operand):VS:=(kU C e l).bind fun l=>(kU C e c).bind fun c=>AR C.P t l c s
def Xm (C:Cx) (e:Ev) (s:CS) (t:TypeId) (m x:Operand) (ok:Bool):VS:=(kU C e m).bind fun m=>(kU C e x).bind fun x=>val s (NR C t m x ok s)
def XG (C:Cx) (e:Ev) (s:CS) (t:TypeId) (m x v:Operand):VS:=(kU C e m).bind fun m=>(kU C e x).bind fun x=>(kU C e v).bind fun v=>done (VG C t m x v s)
def UD (C:Cx) (e:Ev) (s:CS) (t:TypeId) (x:Operand) (lo hi b:Option Operand):VS :=
 (kU C e x).bind fun a=>(A6 C e (lo.toList++hi.toList++b.toList)).bind fun c=>val s (XL C.P t lo hi b a c)
def Q2 (C:Cx) (e:Ev) (s:CS) (t:TypeId) (x:Operand) (f:Nat):VS:=(kU C e x).bind fun v=>val s (EW C.P t f v)
def VC (C:Cx) (e:Ev) (s:CS) (t:TypeId) (x:Operand) (f:Nat):VS:=(kU C e x).bind fun v=>(Br v).bind fun cs=>(Ki C.P t f).bind fun a=>val s (MV C.P a.type a.offset cs)
def WJ (C:Cx) (e:Ev) (s:CS) (t:TypeId) (x i:Operand):VS:=(kU C e x).bind fun v=>(kU C e i).bind fun i=>val s (Qd C.P t v i)
def X' (C:Cx) (e:Ev) (s:CS) (t:TypeId) (x i:Operand):VS:=(kU C e x).bind fun v=>(kU C e i).bind fun i=>val s (Vs C.P t v i)
def Wk (C:Cx) (e:Ev) (s:CS) (x:Operand) (i:Nat):VS:=(kU C e x).bind fun v=>(OG v).bind fun a=>val s a[i]?
def Bq (P:Program) (t:TypeId) (r:VS):VS:=r.bind fun (v,s)=>gu (IE (lN P t) v) (some (v,s))
def IA (C:Cx) (call:gU) (t:TypeId) (s:CS) (f:FuncId) (a:List Xab):VS :=
 match gp C.P f with
 | true=>Bq C.P t (match Nat.beq f C.TA with
  | true=>Ez C a s
  | false=>call f a s)
 | false=>gu (Nat.beq f C.idx) (Bq C.P t (val s (NA a)))
def OI (C:Cx) (call:gU) (t:TypeId) (s:CS) (g:Xab) (a:List Xab):VS :=
 match g with
 | .func (.func f) ⟨b⟩ ⟨c⟩=>gu (gp C.P f) (Bq C.P t (call f (b++a++c) s))
 | _=>none
def TY (P:Program) (t:TypeId) (v:Xab):Option Xab:=gu (D4 (cM P t) v) (some v)
def AM (C:Cx) (b:Builtin) (t:TypeId) (c:Call) (a:List Xab) (s:CS):VS :=
 match b with
 | .len=>(L5 a).bind fun v=>val s (Ug s ((c.argTypes[0]?).bind C.P.underlying) v)
 | .append=>EJ C c.argTypes.toList a s
 | .min=>val s ((Sj a).bind (TY C.P t))
 | _=>none
def Qj (C:Cx) (call:gU) (e:Ev) (s:CS) (t:TypeId) (c:Call):VS :=
 (A6 C e c.args.toList).bind fun a=>match c.callee with
 | .builtin b=>AM C b t c a s
 | .value (.func f)=>IA C call t s f a
 | .value (.tmp g)=>(e.get g).bind fun g=>OI C call t s g a
 | _=>none
def VT (C:Cx) (call:gU) (o:Oper) (e:Ev) (s:CS):VS :=
 match o.op with
 | .move x=>val s (kU C e x)
 | .assign x=>val s (kU C e x)
 | .pick c a b=>On C e s c a b
 | .alloc t=>(zeroOf C.P t).bind (D9 s t)
 | .box t x=>X3 C e s t x
 | .build t ps=>Ui C e s t ps
 | .buildSlice t n ps=>Rf C e s t n ps
 | .load t x=>Wh C e s t x
 | .store t x y=>Vn C e s t x y
 | .nilCheck x=>X6 C e s x
 | .binOp op t x y _=>XK C e s op t x y
 | .unOp op _ x=>YV C e s op x
 | .convert a d x=>V3 C e s a d x
 | .makeFunc (.func f) g h=>Wl C e s f g h
 | .makeMap t none=>IB C t s
 | .makeSlice t l c=>WA C e s t l c
 | .lookup t m x ok=>Xm C e s t m x ok
 | .mapUpdate t m x v=>XG C e s t m x v
 | .slice t x lo hi j=>UD C e s t x lo hi j
 | .fieldAddr t x f=>Q2 C e s t x f
 | .field t x f=>VC C e s t x f
 | .indexAddr t x i=>WJ C e s t x i
 | .index t x i=>X' C e s t x i
 | .extract x i=>Wk C e s x i
 | .call c=>Qj C call e s o.type c
 | _=>none
def TB (a:Bool):Xab->Option Bool
 | .bool b=>some (b==a)
 | .tuple _=>some false
 | _=>none
def Dt (ops:Array Oper) (o:Oper) (e:Ev):Option Bool :=
 match guardOf ops o with
 | none=>some true
 | some (none,_)=>some false
 | some (some d,a)=>(e.get d).bind (TB a)
def forced {α:Type} (v:Xab) (k:Xab->α):α :=
 match v with
 | .int a n=>match n with
  | .ofNat m=>match m with
   | 0=>k (.int a (.ofNat 0))
   | m+1=>k (.int a (.ofNat (m+1)))
  | .negSucc m=>k (.int a (.negSucc m))
 | .bool b=>match b with
  | true=>k (.bool true)
  | false=>k (.bool false)
 | v=>k v
def Ec (n:Nat) (e:Ev) (dst:Option Tmp) (v:Xab):Ev :=
 match dst with
 | none=>e
 | some d=>match Nat.blt d n with
  | true=>forced v (e.put d)
  | false=>e
abbrev ES:=Option (Ev × CS)
def YO (n:Nat) (e:Ev) (dst:Option Tmp) (r:VS) (k:Ev->CS->ES):ES:=r.bind fun (v,s)=>k (Ec n e dst v) s
def Ry (C:Cx) (call:gU) (n:Nat) (ops:Array Oper):List Oper->Ev->CS->ES
 | [],e,s=>some (e,s)
 | o::rest,e,s=>(Dt ops o e).bind fun w=>match w with
  | true=>YO n e o.dst (VT C call o e s) (Ry C call n ops rest)
  | false=>Ry C call n ops rest (Ec n e o.dst undef) s
end
end Go.Sx.Cr
