/- Part of the framework. No condition. -/
import Derived.Test.YtlpcncdglfjnoaaGreatDoorSxV
set_option linter.all false
set_option maxHeartbeats 4000000
namespace Go.Sx.Cr
noncomputable section
abbrev Ev:=dF XB
structure CS where
 σ:dF AO
 nx:Nat
abbrev VS:=Option (XB × CS)
def fx {α:Type} (b:Bool) (k:Option α):Option α :=
 match b with
 | true=>k
 | false=>none
def bi {α:Type} {b:Bool} {k:Option α} {x:α}:fx b k=some x↔b=true/\k=some x:=by
 cases b <;> simp [fx]
def EV (v:XB):Option XB:=fx (fm 9 v) (some v)
def P1 (C:Cx) (g:Nat):Option XB:=fx (Nat.blt g C.ng) (some (.pointer (some ⟨g,0,none⟩)))
def jO (C:Cx) (e:Ev):Operand->Option XB
 | .tmp t=>e.get t
 | .const v=>EV v
 | .func f=>some (.func (.func f) #[] #[])
 | .global g=>P1 C g
def zf (C:Cx) (e:Ev):List Operand->Option (List XB)
 | []=>some []
 | x::xs=>(jO C e x).bind fun v=>(zf C e xs).bind fun l=>some (v::l)
def J5 (op:BinOp) (k:IntKind) (m n:Int):Option XB :=
 match op with
 | .add=>some (.int k (k.wrap (m+n)))
 | .sub=>some (.int k (k.wrap (m-n)))
 | .mul=>some (.int k (k.wrap (m*n)))
 | .quo=>fx (!decide (n=0)) (some (.int k (k.wrap (m.tdiv n))))
 | .rem=>fx (!decide (n=0)) (some (.int k (m.tmod n)))
 | .eql=>some (.bool (m==n))
 | .neq=>some (.bool (m != n))
 | .lss=>some (.bool (decide (m<n)))
 | .leq=>some (.bool (decide (m<=n)))
 | .gtr=>some (.bool (decide (m>n)))
 | .geq=>some (.bool (decide (m>=n)))
 | .and=>some (.int k (CP .and k m n))
 | .or=>some (.int k (CP .or k m n))
 | .xor=>some (.int k (CP .xor k m n))
 | .andNot=>some (.int k (CP .andNot k m n))
 | _=>none
def MO (op:BinOp) (x y:XA):Option XB :=
 match op with
 | .add=>fx (decide (((x.size+y.size:Nat):Int)<=IntKind.i64.max)) (some (.string (x++y)))
 | .eql=>some (.bool (x.data.toList==y.data.toList))
 | .neq=>some (.bool !(x.data.toList==y.data.toList))
 | .lss=>some (.bool (Op.bytesLess x.data.toList y.data.toList))
 | .leq=>some (.bool (Op.bytesLess x.data.toList y.data.toList || x.data.toList==y.data.toList))
 | .gtr=>some (.bool !(Op.bytesLess x.data.toList y.data.toList || x.data.toList==y.data.toList))
 | .geq=>some (.bool !(Op.bytesLess x.data.toList y.data.toList))
 | _=>none
def oU (op:BinOp) (b:Bool):Option XB :=
 match op with
 | .eql=>some (.bool b)
 | .neq=>some (.bool !b)
 | _=>none
def J7:Option TypeDesc->Bool
 | some (.pointer _)=>true
 | _=>false
def HS:Option TypeDesc->Bool
 | some (.slice _)=>true
 | _=>false
def HA:Option TypeDesc->Bool
 | some .bool=>true
 | _=>false
def wV:Option TypeDesc->Bool
 | some .string=>true
 | _=>false
def Nt (P:Program) (op:BinOp) (t:TypeId) (a b:XB):Option XB :=
 match a,b with
 | .int k m,.int k' n=>fx (!lP op && decide (k=k')) (J5 op k m n)
 | .string m,.string n=>MO op m n
 | .bool m,.bool n=>fx (HA (P.underlying t)) (oU op (m==n))
 | .pointer p,.pointer _=>fx (J7 (P.underlying t)) (oU op p.isNone)
 | .slice p _ _,.slice _ _ _=>fx (HS (P.underlying t)) (oU op p.isNone)
 | _,_=>none
def nO (a b:XA):Bool:=a.data.toList==b.data.toList
def CK:XB->XB->Bool
 | .int _ a,.int _ b=>a==b
 | .string a,.string b=>nO a b
 | .bool a,.bool b=>a==b
 | _,_=>false
def QG (P:Program) (op:BinOp) (t:TypeId) (a b:XB):Option XB :=
 match a,b,P.underlying t with
 | .agg xs,.agg c,some (.struct d) =>
  fx (!(P.stoodInHeld t) && !(P.eqGuardType P.depth t) && d.all (okF P xs c)) (oU op (d.all fun f=>CK (xs[f.offset]?.getD .nilIface) (c[f.offset]?.getD .nilIface)))
 | _,_,_=>none
def RI (P:Program) (op:BinOp) (t:TypeId) (x y:Operand) (a b:XB):Option XB :=
 match qL P t x y with
 | true=>Nt P op t a b
 | false=>QG P op t a b
def Us (op:UnOp) (a:XB):Option XB :=
 match op,a with
 | .neg,.int k n=>some (.int k (k.wrap (0-n)))
 | .not,.bool b=>some (.bool !b)
 | _,_=>none
def Km (P:Program) (s d:TypeId) (a:XB):Option XB :=
 match P.underlying s,P.underlying d,a with
 | some (.int _),some (.int k),.int _ n=>some (.int k (k.wrap n))
 | some .string,some .string,.string x=>some (.string x)
 | _,_,_=>none
def vq:TypeDesc->XB->Bool
 | .bool,.bool _=>true
 | .bool,_=>false
 | .int k,.int k' _=>decide (k=k')
 | .int _,_=>false
 | .string,.string _=>true
 | .string,_=>false
 | .pointer _,.pointer _=>true
 | .pointer _,_=>false
 | .slice _,.slice _ _ _=>true
 | .slice _,_=>false
 | .map _ _,.map _=>true
 | .map _ _,_=>false
 | _,_=>true
def fits:List TypeDesc->List XB->Bool
 | [],[]=>true
 | d::a,v::b=>vq d v && fits a b
 | _,_=>false
def zH:XB->Option (List XB)
 | .agg ⟨l⟩=>some l
 | _=>none
def B0 (c:ef) (v:XB):Bool :=
 match c with
 | (true,a)=>(zH v).elim false (fits a)
 | (false,a)=>fits a [v]
def zo:List ef->List XB->Bool
 | [],[]=>true
 | c::cs,v::a=>B0 c v && zo cs a
 | _,_=>false
def LX:XB->Option (List XB)
 | .tuple ⟨l⟩=>some l
 | _=>none
def Gs (q:Bool × List ef) (v:XB):Bool :=
 match q with
 | (true,cs)=>(LX v).elim false (zo cs)
 | (false,cs)=>zo cs [v]
def Lu (C:Cx) (b off n:Nat):Option AO->Option (List XB)
 | some (.row c _ _)=>Kk off n c
 | some .gone=>(C.ro b).bind fun c=>Kk off n c
 | _=>none
def cells (C:Cx) (s:CS) (b off n:Nat):Option (List XB):=Lu C b off n (s.σ.get b)
def tS:XB->Option (Nat × Nat)
 | .pointer (some ⟨b,off,none⟩)=>some (b,off)
 | _=>none
abbrev Ld:=Option (Nat × Nat × List XB × XB)
def Qg (C:Cx) (t:TypeId) (b off:Nat) (s:CS):Ld :=
 fx (Nat.beq (eQ C.P 9 t).length (C.P.cellsOf t)) ((cells C s b off (eQ C.P 9 t).length).bind fun a=>fx (fits (eQ C.P 9 t) a) (some (b,off,a,.agg ⟨a⟩)))
def Qp (C:Cx) (t:TypeId) (b off:Nat) (s:CS):Ld :=
 (cells C s b off 1).bind fun a=>fx (fits (cz C.P t).2 a) (some (b,off,a,a.headD undef))
def A0 (C:Cx) (t:TypeId) (v:XB) (s:CS):Ld :=
 (tS v).bind fun (b,off)=>(cB C.P t).bind fun g=>match g with
  | true=>Qg C t b off s
  | false=>Qp C t b off s
def yh (s:CS) (o:AO):Option CS :=
 match s.σ.get s.nx with
 | none=>some ⟨s.σ.put s.nx o,s.nx+1⟩
 | some _=>none
def ON (s:CS) (b off:Nat) (a:List XB):Option CS :=
 match s.σ.get b with
 | some (.row c e m)=>fx (!Nat.beq m 2 && a.all cO && Nat.ble 1 a.length && Nat.ble (off+a.length) c.length) (some ⟨s.σ.put b (.row (gW c off a) e m),s.nx⟩)
 | _=>none
def u7 (g:Bool) (v:XB):Option (List XB) :=
 match g with
 | true=>zH v
 | false=>fx (!eO v) (some [v])
def FJ (P:Program) (t:TypeId) (p v:XB) (s:CS):Option CS :=
 (tS p).bind fun (b,off)=>(cB P t).bind fun g=>(u7 g v).bind fun l=>fx (Nat.beq l.length (P.cellsOf t)) (ON s b off l)
def Ce (agg:Nat->Option Bool):List (Nat × XB)->Option (List (Nat × List XB))
 | []=>some []
 | (i,v)::l=>(agg i).bind fun g=>(u7 g v).bind fun c=>(Ce agg l).bind fun r=>some ((i,c)::r)
def zeroOf (P:Program) (t:TypeId):Option (List XB) :=
 ((P.info? t).bind (·.zero)).bind fun z=>fx (z.cells.toList.all (fm 9)) (some z.cells.toList)
def Hn (P:Program) (a:Array Field) (z:List XB) (ps:List (Nat × XB)):Option XB :=
 fx (a.all fun f=>mG P f.type) ((Ce (fun i=>(a[i]?).bind fun f=>cB P f.type) ps).bind fun b=>(fj (((a.map fun f=>(f.offset,P.cellsOf f.type)))[·]?) z b).bind fun cs=>some (.agg ⟨cs⟩))
def G8 (P:Program) (a:TypeId) (z:List XB) (ps:List (Nat × XB)):Option XB :=
 fx (mG P a) ((Ce (fun _=>cB P a) ps).bind fun b=>(fj (fun i=>some (i*P.cellsOf a,P.cellsOf a)) z b).bind fun cs=>some (.agg ⟨cs⟩))
def F8 (P:Program) (t:TypeId) (ps:List (Nat × XB)):Option XB :=
 (zeroOf P t).bind fun z=>match P.underlying t with
  | some (.struct a)=>Hn P a z ps
  | some (.array _ b)=>G8 P b z ps
  | _=>none
structure El where
 e:TypeId
 sz:Nat
 by_:Nat
 z:List XB
def K4 (P:Program) (e:TypeId):Option El :=
 (P.info? e).bind fun i=>i.zero.bind fun z=>fx (z.cells.toList.all (fm 9) && Nat.beq z.cells.size i.size && Nat.ble 1 i.size) (some ⟨e,i.size,i.bytes,z.cells.toList⟩)
def elemOf:Option TypeDesc->Option TypeId
 | some (.slice e)=>some e
 | _=>none
def LC (P:Program) (t:TypeId):Option El:=(elemOf (P.underlying t)).bind (K4 P)
def AX:List (Nat × XB)->List (Nat × List XB)
 | []=>[]
 | (i,v)::l=>(i,match zH v with
  | some c=>c
  | none=>[v])::AX l
def F5 (sz:Nat):Nat->List (Nat × List XB)->Option (List XB)
 | _,[]=>some []
 | i,(k,c)::l=>fx (Nat.beq k i && Nat.beq c.length sz) ((F5 sz (i+1) l).bind fun r=>some (c++r))
def Lx (q:El) (n:Nat) (ps:List (Nat × List XB)):Option (List XB):=fx (Nat.beq ps.length n) (F5 q.sz 0 ps)
def EY (s:CS) (c:List XB) (e:TypeId) (m l cap:Nat):VS :=
 (yh s (.row c e m)).bind fun a=>some (.slice (some ⟨s.nx,0,none⟩) l cap,a)
def KT (P:Program) (t:TypeId) (n:Nat) (ps:List (Nat × XB)) (s:CS):VS :=
 (LC P t).bind fun q=>fx (Nat.ble (n*q.sz) 16777216) ((Lx q n (AX ps)).bind fun cs=>EY s cs q.e 0 n n)
def FK (C:Cx) (sz:Nat) (x:XB) (s:CS):Option (List XB) :=
 match x with
 | .slice q m _=>match m with
  | 0=>some []
  | m+1=>(tS (.pointer q)).bind fun (b,off)=>cells C s b off ((m+1)*sz)
 | _=>none
def BQ (q:El) (a l c:Nat):Option AO->Option (List XB)
 | some (.row cs b d)=>fx (Nat.beq d 1 && Nat.beq q.e b && Nat.ble c o5 && Nat.beq a ((o5-c)*q.sz) && Nat.ble (a+l*q.sz) cs.length) (some cs)
 | _=>none
def Hj (s:CS) (q:El) (b a l c m:Nat) (d:List XB):VS :=
 (BQ q a l c (s.σ.get b)).bind fun cs=>fx (Nat.beq cs.length (a+l*q.sz))
   (match s.σ.get s.nx with
   | none=>some (.slice (some ⟨s.nx,0,none⟩) (l+m) o5,⟨(s.σ.put b .gone).put s.nx (.row (cs.drop a++d) q.e 1),s.nx+1⟩)
   | some _=>none)
def MG (C:Cx) (s:CS) (q:El) (a b l c m:Nat) (d:List XB):VS :=
 match Nat.ble (l+m) c with
 | true=>(ON s a (b+l*q.sz) d).bind fun s=>some (.slice (some ⟨a,b,none⟩) (l+m) c,s)
 | false=>(cells C s a b (l*q.sz)).bind fun old=>EY s (old++d) q.e 1 (l+m) o5
def PV (C:Cx) (s:CS) (q:El) (a b l c m:Nat) (d:List XB):VS :=
 match Nat.blt c half with
 | true=>MG C s q a b l c m d
 | false=>Hj s q a b l c m d
def Qc (C:Cx) (s:CS) (q:El) (p:XC) (l c m:Nat) (d:List XB):VS :=
 match p with
 | none=>fx (Nat.beq l 0 && Nat.beq c 0) (EY s d q.e 1 m o5)
 | some a=>(tS (.pointer (some a))).bind fun (b,off)=>PV C s q b off l c m d
def Rg (C:Cx) (q:El) (a x:XB) (s:CS) (b:List XB):VS :=
 match a,x with
 | .slice p l c,.slice _ m _=>fx (Nat.ble ((2*(l+m)+1024)*q.by_) 281474976710656 && Nat.ble (l+m) 281474976710656 && b.all cO)
   (match m with
   | 0=>some (.slice p l c,s)
   | _+1=>Qc C s q p l c m b)
 | _,_=>none
def CD (C:Cx) (ts:List TypeId) (b:List XB) (s:CS):VS :=
 match ts,b with
 | [t,c],[a,x]=>fx (HS (C.P.underlying c)) ((LC C.P t).bind fun q=>(FK C q.sz x s).bind fun d=>Rg C q a x s d)
 | _,_=>none
def SY:AO->Option Nat
 | .vW D=>some D.length
 | .xW D=>some D.length
 | .xV D=>some D.length
 | _=>none
def Qx (s:CS) (D:Option TypeDesc) (v:XB):Option XB :=
 match D with
 | some .string=>(match v with
  | .string s=>some (.int .i64 s.size)
  | _=>none)
 | some (.slice _)=>(match v with
  | .slice _ n _=>some (.int .i64 n)
  | _=>none)
 | some (.map _ _)=>(match v with
  | .map (some b)=>((s.σ.get b).bind SY).bind fun n=>some (.int .i64 n)
  | _=>none)
 | _=>none
def Jj:List XB->Option XB
 | [v]=>some v
 | _=>none
def S5 (x:XA) (a hi:Option XB):Option XB :=
 fx (decide (0<=jN a/\jN a<=jZ x.size hi/\jZ x.size hi<=x.size)) (some (.string (x.extract (jN a).toNat (jZ x.size hi).toNat)))
def Um (P:Program) (e:TypeId) (b off len cap:Nat) (a hi:Option XB):Option XB :=
 fx (mG P e && decide (0<=jN a/\jN a<=jZ len hi/\jZ len hi<=len/\jN a<len) && (Nat.blt cap half || Nat.ble half (cap-(jN a).toNat))) (some (.slice (some ⟨b,off+(jN a).toNat*P.cellsOf e,none⟩) ((jZ len hi).toNat-(jN a).toNat) (cap-(jN a).toNat)))
def qU (P:Program) (t:TypeId) (a:XB) (c hi:Option XB):Option XB :=
 fx (ej c && ej hi) (match P.underlying t with
  | some .string=>(match a with
   | .string x=>S5 x c hi
   | _=>none)
  | some (.slice e)=>(match a with
   | .slice (some ⟨b,off,none⟩) len cap=>Um P e b off len cap c hi
   | _=>none)
  | _=>none)
def Uc (P:Program) (t:TypeId) (b hi c:Option Operand) (a:XB) (d:List XB):Option XB :=
 match c,b,hi,d with
 | none,none,none,[]=>qU P t a none none
 | none,some _,none,[l]=>qU P t a (some l) none
 | none,none,some _,[h]=>qU P t a none (some h)
 | none,some _,some _,[l,h]=>qU P t a (some l) (some h)
 | _,_,_,_=>none
def atIdx (P:Program) (b off len:Nat) (a:TypeId) (n:Int):Option XB :=
 fx (mG P a && decide (0<=n/\n<len)) (some (.pointer (some ⟨b,off+n.toNat*P.cellsOf a,none⟩)))
def intOf:XB->Option Int
 | .int _ n=>some n
 | _=>none
def Nr (P:Program) (t:TypeId) (v i:XB):Option XB :=
 (intOf i).bind fun n=>match P.underlying t with
 | some (.slice a)=>(match v with
  | .slice (some ⟨b,off,none⟩) len _=>atIdx P b off len a n
  | _=>none)
 | some (.array len a)=>(tS v).bind fun (b,off)=>atIdx P b off len a n
 | _=>none
def RN (P:Program) (t:TypeId) (v i:XB):Option XB :=
 (intOf i).bind fun n=>match v with
 | .string s=>fx (wV (P.underlying t) && decide (0<=n/\n<s.size)) (some (.int .u8 (cV s n)))
 | _=>none
def J9 (P:Program) (t:TypeId) (off:Nat) (cs:List XB):Option XB :=
 (cB P t).bind fun g=>match g with
 | true=>some (.agg ⟨(cs.drop off).take (P.cellsOf t)⟩)
 | false=>cs[off]?
def HT (P:Program) (t:TypeId) (f:Nat):Option Field :=
 match P.underlying t with
 | some (.struct a)=>a[f]?
 | _=>none
def CR (P:Program) (t:TypeId) (f:Nat) (v:XB):Option XB :=
 (tS v).bind fun (b,off)=>(HT P t f).bind fun a=>fx (Nat.ble 1 (P.cellsOf a.type)) (some (.pointer (some ⟨b,off+a.offset,none⟩)))
def uX (a b:Nat × XA):Bool:=Nat.beq a.1 b.1 && nO a.2 b.2
def oV (a b:Nat × Nat):Bool:=Nat.beq a.1 b.1 && Nat.beq a.2 b.2
def jY {α:Type} (q:α->α->Bool) (s:α):List (α × XB)->Option XB
 | []=>none
 | p::D=>match q s p.1 with
  | true=>some p.2
  | false=>jY q s D
def xZ {α:Type} (q:α->α->Bool) (s:α) (v:XB):List (α × XB)->List (α × XB)
 | []=>[(s,v)]
 | p::D=>match q s p.1 with
  | true=>(p.1,v)::D
  | false=>p::xZ q s v D
def MW:Option TypeDesc->Option (TypeId × TypeId)
 | some (.map k e)=>some (k,e)
 | _=>none
def NL:XB->Option (Nat × XA)
 | .agg ⟨[.int .i64 (.ofNat n),.string y]⟩=>some (n,y)
 | _=>none
def OP:XB->Option (Nat × Nat)
 | .agg ⟨[.int .i64 (.ofNat n),.int .i64 (.ofNat m)]⟩=>some (n,m)
 | _=>none
def Sn (C:Cx) (k:TypeId):Bool:=Nat.beq k C.kt || Nat.beq k C.ku
def Sk (C:Cx) (k:TypeId):Bool:=Nat.blt 0 C.ki && Nat.beq k C.ki
def Nl:XB->Option XA
 | .string y=>some y
 | _=>none
def Vh (y:XA):AO->Option (Option XB)
 | .vW D=>some (jY nO y D)
 | _=>none
def Vn (y:Nat × XA):AO->Option (Option XB)
 | .xW D=>some (jY uX y D)
 | _=>none
def U9 (y:Nat × Nat):AO->Option (Option XB)
 | .xV D=>some (jY oV y D)
 | _=>none
def SE (x:XB) (s:CS):XB->Option (Option XB)
 | .map (some b)=>(OP x).bind fun y=>(s.σ.get b).bind (U9 y)
 | _=>none
def TU (x:XB) (s:CS):XB->Option (Option XB)
 | .map (some b)=>(NL x).bind fun y=>(s.σ.get b).bind (Vn y)
 | _=>none
def SV (x:XB) (s:CS):XB->Option (Option XB)
 | .map none=>(Nl x).bind fun _=>some none
 | .map (some b)=>(Nl x).bind fun y=>(s.σ.get b).bind (Vh y)
 | _=>none
def LR (C:Cx) (k:TypeId) (m x:XB) (s:CS):Option (Option XB) :=
 match Sn C k with
 | true=>TU x s m
 | false=>match Sk C k with
  | true=>SE x s m
  | false=>fx (wV (C.P.underlying k)) (SV x s m)
def JQ (P:Program) (a:TypeId):Option XB:=((P.info? a).bind (·.zero)).bind EV
def Qd (ok:Bool) (z:XB) (r:Option XB):XB :=
 match ok with
 | true=>.tuple ⟨[r.getD z,.bool r.isSome]⟩
 | false=>r.getD z
def K2 (C:Cx) (t:TypeId) (m x:XB) (ok:Bool) (s:CS):Option XB :=
 (MW (C.P.underlying t)).bind fun (k,a)=>(JQ C.P a).bind fun z=>(LR C k m x s).bind fun r=>fx (B0 (cz C.P a) (r.getD z)) (some (Qd ok z r))
def Mn (C:Cx) (k:TypeId) (b:Nat) (x v:XB) (s:CS):AO->Option CS
 | .vW D=>fx (wV (C.P.underlying k)) ((Nl x).bind fun y=>fx (Nat.ble y.size maxLen) (some ⟨s.σ.put b (.vW (xZ nO y v D)),s.nx⟩))
 | .xW D=>fx (Sn C k) ((NL x).bind fun y=>some ⟨s.σ.put b (.xW (xZ uX y v D)),s.nx⟩)
 | .xV D=>fx (Sk C k) ((OP x).bind fun y=>some ⟨s.σ.put b (.xV (xZ oV y v D)),s.nx⟩)
 | _=>none
def R7 (C:Cx) (t:TypeId) (m x v:XB) (s:CS):Option CS :=
 match m with
 | .map (some b)=>(MW (C.P.underlying t)).bind fun (k,_)=>(s.σ.get b).bind fun o=>Mn C k b x v s o
 | _=>none
def Gp (C:Cx) (t:TypeId) (s:CS):VS :=
 (MW (C.P.underlying t)).bind fun q=>match Sn C q.1 with
 | true=>(yh s (.xW [])).bind fun a=>some (.map (some s.nx),a)
 | false=>match Sk C q.1 with
  | true=>(yh s (.xV [])).bind fun a=>some (.map (some s.nx),a)
  | false=>fx (wV (C.P.underlying q.1)) ((yh s (.vW [])).bind fun a=>some (.map (some s.nx),a))
def Hs:XB->Option Nat
 | .int _ (.ofNat n)=>some n
 | _=>none
def yZ (P:Program) (t:TypeId) (l c:XB) (s:CS):VS :=
 (Hs l).bind fun l=>(Hs c).bind fun c=>(LC P t).bind fun q=>fx (Nat.ble l c && Nat.ble (c*q.by_) 16777216 && Nat.ble c 16777216) (EY s (List.replicate c q.z).flatten q.e 0 l c)
def CV (x:XA):List XA->List XA
 | []=>[x]
 | y::l=>match Op.bytesLess x.data.toList y.data.toList with
  | true=>x::y::l
  | false=>y::CV x l
def qm:List XA->List XA
 | []=>[]
 | x::l=>CV x (qm l)
def M3 (D:List (XA × XB)) (s:CS):VS :=
 match D with
 | []=>some (.slice none 0 0,s)
 | _::_=>EY s ((qm (D.map (·.1))).map .string) 9 1 D.length o5
def HQ (s:CS):AO->VS
 | .vW D=>fx (Nat.ble D.length 1024) (M3 D s)
 | _=>none
def Kv:XB->Option Nat
 | .map (some b)=>some b
 | _=>none
def ME (C:Cx):XB->Option (Nat × Nat)
 | .func (.func f) ⟨[]⟩ ⟨[p]⟩=>fx (Nat.beq f C.seq) (tS p)
 | _=>none
def Tn:Option AO->Option (List XB)
 | some (.row c _ m)=>fx (Nat.beq m 0) (some c)
 | _=>none
def Cp (C:Cx) (a:List XB) (s:CS):VS :=
 (Jj a).bind fun v=>(ME C v).bind fun (q,off)=>fx (Nat.beq off 0) ((Tn (s.σ.get q)).bind fun l=>(Jj l).bind fun m=>(Kv m).bind fun b=>(s.σ.get b).bind (HQ s))
def O4 (c:List XB):Option XB :=
 match c with
 | [.int .i64 (.ofNat a),.int .i64 (.ofNat b)]=>some (.int .i64 (.ofNat (Nat.min a b)))
 | _=>none
def KL (a:List XB):Option XB :=
 match a with
 | [.string x,.int .u8 n]=>some (.int .i64 (Lib.indexByte x.data.toList n.toNat.toUInt8))
 | _=>none
abbrev fL:=FuncId->List XB->CS->VS
def val (s:CS) (v:Option XB):VS:=v.bind fun v=>some (v,s)
def done (r:Option CS):VS:=r.bind fun s=>some (undef,s)
def LG (C:Cx) (e:Ev) (s:CS) (c a b:Operand):VS :=
 (jO C e c).bind fun v=>match v with
 | .bool true=>val s (jO C e a)
 | .bool false=>val s (jO C e b)
 | _=>none
def B8 (s:CS) (t:TypeId) (l:List XB):VS:=(yh s (.row l t 0)).bind fun a=>some (.pointer (some ⟨s.nx,0,none⟩),a)
def Uu (C:Cx) (e:Ev) (s:CS) (t:TypeId) (x:Operand):VS:=(jO C e x).bind fun v=>(cB C.P t).bind fun g=>(u7 g v).bind fun l=>B8 s t l
def TI (ps:Array (Nat × Operand)) (a:List XB):List (Nat × XB):=(ps.toList.map (·.1)).zip a
def Qz (C:Cx) (e:Ev) (s:CS) (t:TypeId) (ps:Array (Nat × Operand)):VS:=(zf C e (ps.toList.map (·.2))).bind fun a=>val s (F8 C.P t (TI ps a))
def Oe (C:Cx) (e:Ev) (s:CS) (t:TypeId) (n:Nat) (ps:Array (Nat × Operand)):VS:=(zf C e (ps.toList.map (·.2))).bind fun a=>KT C.P t n (TI ps a) s
def SU (C:Cx) (e:Ev) (s:CS) (t:TypeId) (x:Operand):VS:=(jO C e x).bind fun v=>(A0 C t v s).bind fun (_,_,_,v)=>some (v,s)
def RG (C:Cx) (e:Ev) (s:CS) (t:TypeId) (x y:Operand):VS:=(jO C e x).bind fun p=>(jO C e y).bind fun v=>done (FJ C.P t p v s)
def notNil:XB->Option XB
 | .pointer (some a)=>some (.pointer (some a))
 | _=>none
def Ux (C:Cx) (e:Ev) (s:CS) (x:Operand):VS:=(jO C e x).bind fun v=>val s (notNil v)
def Ub (C:Cx) (e:Ev) (s:CS) (op:BinOp) (t:TypeId) (x y:Operand):VS:=(jO C e x).bind fun a=>(jO C e y).bind fun b=>val s (RI C.P op t x y a b)
def Vo (C:Cx) (e:Ev) (s:CS) (op:UnOp) (x:Operand):VS:=(jO C e x).bind fun a=>val s (Us op a)
def Sz (C:Cx) (e:Ev) (s:CS) (a d:TypeId) (x:Operand):VS:=(jO C e x).bind fun v=>val s (Km C.P a d v)
def SX (C:Cx) (e:Ev) (s:CS) (f:FuncId) (a b:Array Operand):VS:=(zf C e a.toList).bind fun a=>(zf C e b.toList).bind fun b=>some (.func (.func f) ⟨a⟩ ⟨b⟩,s)
def Tb (C:Cx) (e:Ev) (s:CS) (t:TypeId) (l c:Operand):VS:=(jO C e l).bind fun l=>(jO C e c).bind fun c=>yZ C.P t l c s
def TP (C:Cx) (e:Ev) (s:CS) (t:TypeId) (m x:Operand) (ok:Bool):VS:=(jO C e m).bind fun m=>(jO C e x).bind fun x=>val s (K2 C t m x ok s)
def T9 (C:Cx) (e:Ev) (s:CS) (t:TypeId) (m x v:Operand):VS:=(jO C e m).bind fun m=>(jO C e x).bind fun x=>(jO C e v).bind fun v=>done (R7 C t m x v s)
def Q0 (C:Cx) (e:Ev) (s:CS) (t:TypeId) (x:Operand) (b hi c:Option Operand):VS :=
 (jO C e x).bind fun a=>(zf C e (b.toList++hi.toList++c.toList)).bind fun d=>val s (Uc C.P t b hi c a d)
def N3 (C:Cx) (e:Ev) (s:CS) (t:TypeId) (x:Operand) (f:Nat):VS:=(jO C e x).bind fun v=>val s (CR C.P t f v)
def R0 (C:Cx) (e:Ev) (s:CS) (t:TypeId) (x:Operand) (f:Nat):VS:=(jO C e x).bind fun v=>(zH v).bind fun cs=>(HT C.P t f).bind fun a=>val s (J9 C.P a.type a.offset cs)
def Tg (C:Cx) (e:Ev) (s:CS) (t:TypeId) (x i:Operand):VS:=(jO C e x).bind fun v=>(jO C e i).bind fun i=>val s (Nr C.P t v i)
def UB (C:Cx) (e:Ev) (s:CS) (t:TypeId) (x i:Operand):VS:=(jO C e x).bind fun v=>(jO C e i).bind fun i=>val s (RN C.P t v i)
def SW (C:Cx) (e:Ev) (s:CS) (x:Operand) (i:Nat):VS:=(jO C e x).bind fun v=>(LX v).bind fun a=>val s a[i]?
def zG (P:Program) (t:TypeId) (r:VS):VS:=r.bind fun (v,s)=>fx (Gs (ka P t) v) (some (v,s))
def Gn (C:Cx) (call:fL) (t:TypeId) (s:CS) (f:FuncId) (a:List XB):VS :=
 match fv C.P f with
 | true=>zG C.P t (match Nat.beq f C.PW with
  | true=>Cp C a s
  | false=>call f a s)
 | false=>fx (Nat.beq f C.idx) (zG C.P t (val s (KL a)))
def L0 (C:Cx) (call:fL) (t:TypeId) (s:CS) (g:XB) (a:List XB):VS :=
 match g with
 | .func (.func f) ⟨b⟩ ⟨c⟩=>fx (fv C.P f) (zG C.P t (call f (b++a++c) s))
 | _=>none
def Qf (P:Program) (t:TypeId) (v:XB):Option XB:=fx (B0 (cz P t) v) (some v)
def yX (C:Cx) (b:Builtin) (t:TypeId) (c:Call) (a:List XB) (s:CS):VS :=
 match b with
 | .len=>(Jj a).bind fun v=>val s (Qx s ((c.argTypes[0]?).bind C.P.underlying) v)
 | .append=>CD C c.argTypes.toList a s
 | .min=>val s ((O4 a).bind (Qf C.P t))
 | _=>none
def Nw (C:Cx) (call:fL) (e:Ev) (s:CS) (t:TypeId) (c:Call):VS :=
 (zf C e c.args.toList).bind fun a=>match c.callee with
 | .builtin b=>yX C b t c a s
 | .value (.func f)=>Gn C call t s f a
 | .value (.tmp g)=>(e.get g).bind fun g=>L0 C call t s g a
 | _=>none
def Si (C:Cx) (call:fL) (o:Oper) (e:Ev) (s:CS):VS :=
 match o.op with
 | .move x=>val s (jO C e x)
 | .assign x=>val s (jO C e x)
 | .pick c a b=>LG C e s c a b
 | .alloc t=>(zeroOf C.P t).bind (B8 s t)
 | .box t x=>Uu C e s t x
 | .build t ps=>Qz C e s t ps
 | .buildSlice t n ps=>Oe C e s t n ps
 | .load t x=>SU C e s t x
 | .store t x y=>RG C e s t x y
 | .nilCheck x=>Ux C e s x
 | .binOp op t x y _=>Ub C e s op t x y
 | .unOp op _ x=>Vo C e s op x
 | .convert a d x=>Sz C e s a d x
 | .makeFunc (.func f) g h=>SX C e s f g h
 | .makeMap t none=>Gp C t s
 | .makeSlice t l c=>Tb C e s t l c
 | .lookup t m x ok=>TP C e s t m x ok
 | .mapUpdate t m x v=>T9 C e s t m x v
 | .slice t x j hi k=>Q0 C e s t x j hi k
 | .fieldAddr t x f=>N3 C e s t x f
 | .field t x f=>R0 C e s t x f
 | .indexAddr t x i=>Tg C e s t x i
 | .index t x i=>UB C e s t x i
 | .extract x i=>SW C e s x i
 | .call c=>Nw C call e s o.type c
 | _=>none
def PX (a:Bool):XB->Option Bool
 | .bool b=>some (b==a)
 | .tuple _=>some false
 | _=>none
def Bv (ops:Array Oper) (o:Oper) (e:Ev):Option Bool :=
 match guardOf ops o with
 | none=>some true
 | some (none,_)=>some false
 | some (some d,a)=>(e.get d).bind (PX a)
def forced {α:Type} (v:XB) (k:XB->α):α :=
 match v with
 | .int a n=>match n with
  | .ofNat m=>match m with
   | 0=>k (.int a (.ofNat 0))
   | m+1=>k (.int a (.ofNat (m+1)))
  | .negSucc m=>k (.int a (.negSucc m))
 | .bool b=>match b with
  | true=>k (.bool true)
  | false=>k (.bool false)
 | v=>k v
def Ca (n:Nat) (e:Ev) (dst:Option Tmp) (v:XB):Ev :=
 match dst with
 | none=>e
 | some d=>match Nat.blt d n with
  | true=>forced v (e.put d)
  | false=>e
abbrev ES:=Option (Ev × CS)
def Vj (n:Nat) (e:Ev) (dst:Option Tmp) (r:VS) (k:Ev->CS->ES):ES:=r.bind fun (v,s)=>k (Ca n e dst v) s
def Ow (C:Cx) (call:fL) (n:Nat) (ops:Array Oper):List Oper->Ev->CS->ES
 | [],e,s=>some (e,s)
 | o::rest,e,s=>(Bv ops o e).bind fun w=>match w with
  | true=>Vj n e o.dst (Si C call o e s) (Ow C call n ops rest)
  | false=>Ow C call n ops rest (Ca n e o.dst undef) s
end
end Go.Sx.Cr
