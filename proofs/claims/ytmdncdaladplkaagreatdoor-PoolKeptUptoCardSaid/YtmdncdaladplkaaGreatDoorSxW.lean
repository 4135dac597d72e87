/- Part of the framework. No condition. -/
import Derived.Test.YtmdncdaladplkaaGreatDoorSxV
set_option linter.all false
set_option maxHeartbeats 4000000
namespace Go.Sx.Cr
noncomputable section
abbrev Ev:=eb Xab
structure CS where
 σ:eb AO
 nx:Nat
abbrev VS:=Option (Xab × CS)
def gF {α:Type} (b:Bool) (k:Option α):Option α :=
 match b with
 | true=>k
 | false=>none
def bt {α:Type} {b:Bool} {k:Option α} {x:α}:gF b k=some x↔b=true/\k=some x:=by
 cases b <;> simp [gF]
def Ii (v:Xab):Option Xab:=gF (gi 9 v) (some v)
def V3 (C:Cx) (g:Nat):Option Xab:=gF (Nat.blt g C.ng) (some (.pointer (some ⟨g,0,none⟩)))
def lJ (C:Cx) (e:Ev):Operand->Option Xab
 | .tmp t=>e.get t
 | .const v=>Ii v
 | .func f=>some (.func (.func f) #[] #[])
 | .global g=>V3 C g
def BA (C:Cx) (e:Ev):List Operand->Option (List Xab)
 | []=>some []
 | x::xs=>(lJ C e x).bind λv=>(BA C e xs).bind λl=>some (v::l)
def OA (op:BinOp) (k:IntKind) (m n:Int):Option Xab :=
 match op with
 | .add=>some (.int k (k.wrap (m+n)))
 | .sub=>some (.int k (k.wrap (m-n)))
 | .mul=>some (.int k (k.wrap (m*n)))
 | .quo=>gF (!decide (n=0)) (some (.int k (k.wrap (m.tdiv n))))
 | .rem=>gF (!decide (n=0)) (some (.int k (m.tmod n)))
 | .eql=>some (.bool (m==n))
 | .neq=>some (.bool (m != n))
 | .lss=>some (.bool (decide (m<n)))
 | .leq=>some (.bool (decide (m<=n)))
 | .gtr=>some (.bool (decide (m>n)))
 | .geq=>some (.bool (decide (m>=n)))
 | .and=>some (.int k (FU .and k m n))
 | .or=>some (.int k (FU .or k m n))
 | .xor=>some (.int k (FU .xor k m n))
 | .andNot=>some (.int k (FU .andNot k m n))
 | _=>none
def RP (op:BinOp) (x y:Xaa):Option Xab :=
 match op with
 | .add=>gF (decide (((x.size+y.size:Nat):Int)<=IntKind.i64.max)) (some (.string (x++y)))
 | .eql=>some (.bool (x.data.toList==y.data.toList))
 | .neq=>some (.bool !(x.data.toList==y.data.toList))
 | .lss=>some (.bool (Op.bytesLess x.data.toList y.data.toList))
 | .leq=>some (.bool (Op.bytesLess x.data.toList y.data.toList || x.data.toList==y.data.toList))
 | .gtr=>some (.bool !(Op.bytesLess x.data.toList y.data.toList || x.data.toList==y.data.toList))
 | .geq=>some (.bool !(Op.bytesLess x.data.toList y.data.toList))
 | _=>none
def rn (op:BinOp) (b:Bool):Option Xab :=
 match op with
 | .eql=>some (.bool b)
 | .neq=>some (.bool !b)
 | _=>none
def OC:Option TypeDesc->Bool
 | some (.pointer _)=>true
 | _=>false
def LJ:Option TypeDesc->Bool
 | some (.slice _)=>true
 | _=>false
def Ll:Option TypeDesc->Bool
 | some .bool=>true
 | _=>false
def yS:Option TypeDesc->Bool
 | some .string=>true
 | _=>false
def SE (P:Program) (op:BinOp) (t:TypeId) (a b:Xab):Option Xab :=
 match a,b with
 | .int k m,.int k' n=>gF (!oc op && decide (k=k')) (OA op k m n)
 | .string m,.string n=>RP op m n
 | .bool m,.bool n=>gF (Ll (P.underlying t)) (rn op (m==n))
 | .pointer p,.pointer _=>gF (OC (P.underlying t)) (rn op p.isNone)
 | .slice p _ _,.slice _ _ _=>gF (LJ (P.underlying t)) (rn op p.isNone)
 | _,_=>none
def qh (a b:Xaa):Bool:=a.data.toList==b.data.toList
def FQ:Xab->Xab->Bool
 | .int _ a,.int _ b=>a==b
 | .string a,.string b=>qh a b
 | .bool a,.bool b=>a==b
 | _,_=>false
def WR (P:Program) (op:BinOp) (t:TypeId) (a b:Xab):Option Xab :=
 match a,b,P.underlying t with
 | .agg xs,.agg ys,some (.struct c) =>
  gF (!(P.stoodInHeld t) && !(P.eqGuardType P.depth t) && c.all (okF P xs ys)) (rn op (c.all λf=>FQ (xs[f.offset]?.getD .nilIface) (ys[f.offset]?.getD .nilIface)))
 | _,_,_=>none
def X3 (P:Program) (op:BinOp) (t:TypeId) (x y:Operand) (a b:Xab):Option Xab :=
 match tJ P t x y with
 | true=>SE P op t a b
 | false=>WR P op t a b
def cun (op:UnOp) (a:Xab):Option Xab :=
 match op,a with
 | .neg,.int k n=>some (.int k (k.wrap (0-n)))
 | .not,.bool b=>some (.bool !b)
 | _,_=>none
def OU (P:Program) (s d:TypeId) (a:Xab):Option Xab :=
 match P.underlying s,P.underlying d,a with
 | some (.int _),some (.int k),.int _ n=>some (.int k (k.wrap n))
 | some .string,some .string,.string x=>some (.string x)
 | _,_,_=>none
def xN:TypeDesc->Xab->Bool
 | .bool,.bool _=>true
 | .bool,_=>false
 | .int k,.int k' _=>decide (k=k')
 | .int _,_=>false
 | .string,.string _=>true
 | .string,_=>false
 | .pointer _,.pointer _=>true
 | .pointer _,_=>false
 | .slice _,.slice _ _ _=>true
 | .slice _,_=>false
 | .map _ _,.map _=>true
 | .map _ _,_=>false
 | _,_=>true
def fits:List TypeDesc->List Xab->Bool
 | [],[]=>true
 | d::a,v::b=>xN d v && fits a b
 | _,_=>false
def B7:Xab->Option (List Xab)
 | .agg ⟨l⟩=>some l
 | _=>none
def EP (c:ez) (v:Xab):Bool :=
 match c with
 | (true,a)=>(B7 v).elim false (fits a)
 | (false,a)=>fits a [v]
def BI:List ez->List Xab->Bool
 | [],[]=>true
 | c::cs,v::a=>EP c v && BI cs a
 | _,_=>false
def QC:Xab->Option (List Xab)
 | .tuple ⟨l⟩=>some l
 | _=>none
def J2 (q:Bool × List ez) (v:Xab):Bool :=
 match q with
 | (true,cs)=>(QC v).elim false (BI cs)
 | (false,cs)=>BI cs [v]
def P9 (C:Cx) (b off n:Nat):Option AO->Option (List Xab)
 | some (.row c _ _)=>OS off n c
 | some .gone=>(C.ro b).bind λc=>OS off n c
 | _=>none
def cells (C:Cx) (s:CS) (b off n:Nat):Option (List Xab):=P9 C b off n (s.σ.get b)
def wG:Xab->Option (Nat × Nat)
 | .pointer (some ⟨b,off,none⟩)=>some (b,off)
 | _=>none
abbrev Ld:=Option (Nat × Nat × List Xab × Xab)
def Wj (C:Cx) (t:TypeId) (b off:Nat) (s:CS):Ld :=
 gF (Nat.beq (fD C.P 9 t).length (C.P.cellsOf t)) ((cells C s b off (fD C.P 9 t).length).bind λa=>gF (fits (fD C.P 9 t) a) (some (b,off,a,.agg ⟨a⟩)))
def Ws (C:Cx) (t:TypeId) (b off:Nat) (s:CS):Ld :=
 (cells C s b off 1).bind λa=>gF (fits (cM C.P t).2 a) (some (b,off,a,a.headD undef))
def DE (C:Cx) (t:TypeId) (v:Xab) (s:CS):Ld :=
 (wG v).bind λ(b,off)=>(cO C.P t).bind λg=>match g with
  | true=>Wj C t b off s
  | false=>Ws C t b off s
def Ar (s:CS) (o:AO):Option CS :=
 match s.σ.get s.nx with
 | none=>some ⟨s.σ.put s.nx o,s.nx+1⟩
 | some _=>none
def Uu (s:CS) (b off:Nat) (a:List Xab):Option CS :=
 match s.σ.get b with
 | some (.row c e m)=>gF (!Nat.beq m 2 && a.all df && Nat.ble 1 a.length && Nat.ble (off+a.length) c.length) (some ⟨s.σ.put b (.row (iw c off a) e m),s.nx⟩)
 | _=>none
def xF (g:Bool) (v:Xab):Option (List Xab) :=
 match g with
 | true=>B7 v
 | false=>gF (!fx v) (some [v])
def I1 (P:Program) (t:TypeId) (p v:Xab) (s:CS):Option CS :=
 (wG p).bind λ(b,off)=>(cO P t).bind λg=>(xF g v).bind λl=>gF (Nat.beq l.length (P.cellsOf t)) (Uu s b off l)
def Fa (agg:Nat->Option Bool):List (Nat × Xab)->Option (List (Nat × List Xab))
 | []=>some []
 | (i,v)::l=>(agg i).bind λg=>(xF g v).bind λc=>(Fa agg l).bind λr=>some ((i,c)::r)
def zeroOf (P:Program) (t:TypeId):Option (List Xab) :=
 ((P.info? t).bind (·.zero)).bind λz=>gF (z.cells.toList.all (gi 9)) (some z.cells.toList)
def K2 (P:Program) (a:Array Field) (z:List Xab) (ps:List (Nat × Xab)):Option Xab :=
 gF (a.all λf=>oQ P f.type) ((Fa (λi=>(a[i]?).bind λf=>cO P f.type) ps).bind λb=>(fZ (((a.map λf=>(f.offset,P.cellsOf f.type)))[·]?) z b).bind λcs=>some (.agg ⟨cs⟩))
def KJ (P:Program) (a:TypeId) (z:List Xab) (ps:List (Nat × Xab)):Option Xab :=
 gF (oQ P a) ((Fa (λ_=>cO P a) ps).bind λb=>(fZ (λi=>some (i*P.cellsOf a,P.cellsOf a)) z b).bind λcs=>some (.agg ⟨cs⟩))
def JF (P:Program) (t:TypeId) (ps:List (Nat × Xab)):Option Xab :=
 (zeroOf P t).bind λz=>match P.underlying t with
  | some (.struct a)=>K2 P a z ps
  | some (.array _ b)=>KJ P b z ps
  | _=>none
structure El where
 e:TypeId
 sz:Nat
 by_:Nat
 z:List Xab
def PI (P:Program) (e:TypeId):Option El :=
 (P.info? e).bind λi=>i.zero.bind λz=>gF (z.cells.toList.all (gi 9) && Nat.beq z.cells.size i.size && Nat.ble 1 i.size) (some ⟨e,i.size,i.bytes,z.cells.toList⟩)
def elemOf:Option TypeDesc->Option TypeId
 | some (.slice e)=>some e
 | _=>none
def Qi (P:Program) (t:TypeId):Option El:=(elemOf (P.underlying t)).bind (PI P)
def pD:List (Nat × Xab)->List (Nat × List Xab)
 | []=>[]
 | (i,v)::l=>(i,match B7 v with
  | some c=>c
  | none=>[v])::pD l
def JB (sz:Nat):Nat->List (Nat × List Xab)->Option (List Xab)
 | _,[]=>some []
 | i,(k,c)::l=>gF (Nat.beq k i && Nat.beq c.length sz) ((JB sz (i+1) l).bind λr=>some (c++r))
def Qd (q:El) (n:Nat) (ps:List (Nat × List Xab)):Option (List Xab):=gF (Nat.beq ps.length n) (JB q.sz 0 ps)
def Im (s:CS) (c:List Xab) (e:TypeId) (m l cap:Nat):VS :=
 (Ar s (.row c e m)).bind λa=>some (.slice (some ⟨s.nx,0,none⟩) l cap,a)
def Pu (P:Program) (t:TypeId) (n:Nat) (ps:List (Nat × Xab)) (s:CS):VS :=
 (Qi P t).bind λq=>gF (Nat.ble (n*q.sz) 16777216) ((Qd q n (pD ps)).bind λcs=>Im s cs q.e 0 n n)
def I2 (C:Cx) (sz:Nat) (x:Xab) (s:CS):Option (List Xab) :=
 match x with
 | .slice q m _=>match m with
  | 0=>some []
  | m+1=>(wG (.pointer q)).bind λ(b,off)=>cells C s b off ((m+1)*sz)
 | _=>none
def EH (q:El) (a l c:Nat):Option AO->Option (List Xab)
 | some (.row cs b d)=>gF (Nat.beq d 1 && Nat.beq q.e b && Nat.ble c rC && Nat.beq a ((rC-c)*q.sz) && Nat.ble (a+l*q.sz) cs.length) (some cs)
 | _=>none
def KY (s:CS) (q:El) (b a l c m:Nat) (ys:List Xab):VS :=
 (EH q a l c (s.σ.get b)).bind λcs=>gF (Nat.beq cs.length (a+l*q.sz))
   (match s.σ.get s.nx with
   | none=>some (.slice (some ⟨s.nx,0,none⟩) (l+m) rC,⟨(s.σ.put b .gone).put s.nx (.row (cs.drop a++ys) q.e 1),s.nx+1⟩)
   | some _=>none)
def RB (C:Cx) (s:CS) (q:El) (a b l c m:Nat) (ys:List Xab):VS :=
 match Nat.ble (l+m) c with
 | true=>(Uu s a (b+l*q.sz) ys).bind λs=>some (.slice (some ⟨a,b,none⟩) (l+m) c,s)
 | false=>(cells C s a b (l*q.sz)).bind λold=>Im s (old++ys) q.e 1 (l+m) rC
def VX (C:Cx) (s:CS) (q:El) (a b l c m:Nat) (ys:List Xab):VS :=
 match Nat.blt c half with
 | true=>RB C s q a b l c m ys
 | false=>KY s q a b l c m ys
def Wf (C:Cx) (s:CS) (q:El) (p:Xac) (l c m:Nat) (ys:List Xab):VS :=
 match p with
 | none=>gF (Nat.beq l 0 && Nat.beq c 0) (Im s ys q.e 1 m rC)
 | some a=>(wG (.pointer (some a))).bind λ(b,off)=>VX C s q b off l c m ys
def Xx (C:Cx) (q:El) (a x:Xab) (s:CS) (ys:List Xab):VS :=
 match a,x with
 | .slice p l c,.slice _ m _=>gF (Nat.ble ((2*(l+m)+1024)*q.by_) 281474976710656 && Nat.ble (l+m) 281474976710656 && ys.all df)
   (match m with
   | 0=>some (.slice p l c,s)
   | _+1=>Wf C s q p l c m ys)
 | _,_=>none
def FG (C:Cx) (ts:List TypeId) (b:List Xab) (s:CS):VS :=
 match ts,b with
 | [t,c],[a,x]=>gF (LJ (C.P.underlying c)) ((Qi C.P t).bind λq=>(I2 C q.sz x s).bind λys=>Xx C q a x s ys)
 | _,_=>none
def Y9:AO->Option Nat
 | .yh D=>some D.length
 | .Ac D=>some D.length
 | .Ab D=>some D.length
 | _=>none
def WG (s:CS) (D:Option TypeDesc) (v:Xab):Option Xab :=
 match D with
 | some .string=>(match v with
  | .string s=>some (.int .i64 s.size)
  | _=>none)
 | some (.slice _)=>(match v with
  | .slice _ n _=>some (.int .i64 n)
  | _=>none)
 | some (.map _ _)=>(match v with
  | .map (some b)=>((s.σ.get b).bind Y9).bind λn=>some (.int .i64 n)
  | _=>none)
 | _=>none
def NJ:List Xab->Option Xab
 | [v]=>some v
 | _=>none
def Zc (x:Xaa) (lo hi:Option Xab):Option Xab :=
 gF (decide (0<=lI lo/\lI lo<=lX x.size hi/\lX x.size hi<=x.size)) (some (.string (x.extract (lI lo).toNat (lX x.size hi).toNat)))
def aaL (P:Program) (e:TypeId) (b off len cap:Nat) (lo hi:Option Xab):Option Xab :=
 gF (oQ P e && decide (0<=lI lo/\lI lo<=lX len hi/\lX len hi<=len/\lI lo<len) && (Nat.blt cap half || Nat.ble half (cap-(lI lo).toNat))) (some (.slice (some ⟨b,off+(lI lo).toNat*P.cellsOf e,none⟩) ((lX len hi).toNat-(lI lo).toNat) (cap-(lI lo).toNat)))
def tP (P:Program) (t:TypeId) (a:Xab) (lo hi:Option Xab):Option Xab :=
 gF (eV lo && eV hi) (match P.underlying t with
  | some .string=>(match a with
   | .string x=>Zc x lo hi
   | _=>none)
  | some (.slice e)=>(match a with
   | .slice (some ⟨b,off,none⟩) len cap=>aaL P e b off len cap lo hi
   | _=>none)
  | _=>none)
def csl (P:Program) (t:TypeId) (lo hi b:Option Operand) (a:Xab) (c:List Xab):Option Xab :=
 match b,lo,hi,c with
 | none,none,none,[]=>tP P t a none none
 | none,some _,none,[l]=>tP P t a (some l) none
 | none,none,some _,[h]=>tP P t a none (some h)
 | none,some _,some _,[l,h]=>tP P t a (some l) (some h)
 | _,_,_,_=>none
def atIdx (P:Program) (b off len:Nat) (a:TypeId) (n:Int):Option Xab :=
 gF (oQ P a && decide (0<=n/\n<len)) (some (.pointer (some ⟨b,off+n.toNat*P.cellsOf a,none⟩)))
def intOf:Xab->Option Int
 | .int _ n=>some n
 | _=>none
def SA (P:Program) (t:TypeId) (v i:Xab):Option Xab :=
 (intOf i).bind λn=>match P.underlying t with
 | some (.slice a)=>(match v with
  | .slice (some ⟨b,off,none⟩) len _=>atIdx P b off len a n
  | _=>none)
 | some (.array len a)=>(wG v).bind λ(b,off)=>atIdx P b off len a n
 | _=>none
def X9 (P:Program) (t:TypeId) (v i:Xab):Option Xab :=
 (intOf i).bind λn=>match v with
 | .string s=>gF (yS (P.underlying t) && decide (0<=n/\n<s.size)) (some (.int .u8 (dh s n)))
 | _=>none
def OH (P:Program) (t:TypeId) (off:Nat) (cs:List Xab):Option Xab :=
 (cO P t).bind λg=>match g with
 | true=>some (.agg ⟨(cs.drop off).take (P.cellsOf t)⟩)
 | false=>cs[off]?
def LK (P:Program) (t:TypeId) (f:Nat):Option Field :=
 match P.underlying t with
 | some (.struct a)=>a[f]?
 | _=>none
def FW (P:Program) (t:TypeId) (f:Nat) (v:Xab):Option Xab :=
 (wG v).bind λ(b,off)=>(LK P t f).bind λa=>gF (Nat.ble 1 (P.cellsOf a.type)) (some (.pointer (some ⟨b,off+a.offset,none⟩)))
def xA (a b:Nat × Xaa):Bool:=Nat.beq a.1 b.1 && qh a.2 b.2
def rp (a b:Nat × Nat):Bool:=Nat.beq a.1 b.1 && Nat.beq a.2 b.2
def lU {α:Type} (q:α->α->Bool) (s:α):List (α × Xab)->Option Xab
 | []=>none
 | p::D=>match q s p.1 with
  | true=>some p.2
  | false=>lU q s D
def Ag {α:Type} (q:α->α->Bool) (s:α) (v:Xab):List (α × Xab)->List (α × Xab)
 | []=>[(s,v)]
 | p::D=>match q s p.1 with
  | true=>(p.1,v)::D
  | false=>p::Ag q s v D
def RV:Option TypeDesc->Option (TypeId × TypeId)
 | some (.map k e)=>some (k,e)
 | _=>none
def S6:Xab->Option (Nat × Xaa)
 | .agg ⟨[.int .i64 (.ofNat n),.string y]⟩=>some (n,y)
 | _=>none
def Ux:Xab->Option (Nat × Nat)
 | .agg ⟨[.int .i64 (.ofNat n),.int .i64 (.ofNat m)]⟩=>some (n,m)
 | _=>none
def YB (C:Cx) (k:TypeId):Bool:=Nat.beq k C.kt || Nat.beq k C.ku
def Yz (C:Cx) (k:TypeId):Bool:=Nat.blt 0 C.ki && Nat.beq k C.ki
def Ss:Xab->Option Xaa
 | .string y=>some y
 | _=>none
def sIn (y:Xaa):AO->Option (Option Xab)
 | .yh D=>some (lU qh y D)
 | _=>none
def kIn (y:Nat × Xaa):AO->Option (Option Xab)
 | .Ac D=>some (lU xA y D)
 | _=>none
def iIn (y:Nat × Nat):AO->Option (Option Xab)
 | .Ab D=>some (lU rp y D)
 | _=>none
def YP (x:Xab) (s:CS):Xab->Option (Option Xab)
 | .map (some b)=>(Ux x).bind λy=>(s.σ.get b).bind (iIn y)
 | _=>none
def aac (x:Xab) (s:CS):Xab->Option (Option Xab)
 | .map (some b)=>(S6 x).bind λy=>(s.σ.get b).bind (kIn y)
 | _=>none
def Y4 (x:Xab) (s:CS):Xab->Option (Option Xab)
 | .map none=>(Ss x).bind λ_=>some none
 | .map (some b)=>(Ss x).bind λy=>(s.σ.get b).bind (sIn y)
 | _=>none
def Qx (C:Cx) (k:TypeId) (m x:Xab) (s:CS):Option (Option Xab) :=
 match YB C k with
 | true=>aac x s m
 | false=>match Yz C k with
  | true=>YP x s m
  | false=>gF (yS (C.P.underlying k)) (Y4 x s m)
def Oh (P:Program) (a:TypeId):Option Xab:=((P.info? a).bind (·.zero)).bind Ii
def Wg (ok:Bool) (z:Xab) (r:Option Xab):Xab :=
 match ok with
 | true=>.tuple ⟨[r.getD z,.bool r.isSome]⟩
 | false=>r.getD z
def PG (C:Cx) (t:TypeId) (m x:Xab) (ok:Bool) (s:CS):Option Xab :=
 (RV (C.P.underlying t)).bind λ(k,a)=>(Oh C.P a).bind λz=>(Qx C k m x s).bind λr=>gF (EP (cM C.P a) (r.getD z)) (some (Wg ok z r))
def Rf (C:Cx) (k:TypeId) (b:Nat) (x v:Xab) (s:CS):AO->Option CS
 | .yh D=>gF (yS (C.P.underlying k)) ((Ss x).bind λy=>gF (Nat.ble y.size maxLen) (some ⟨s.σ.put b (.yh (Ag qh y v D)),s.nx⟩))
 | .Ac D=>gF (YB C k) ((S6 x).bind λy=>some ⟨s.σ.put b (.Ac (Ag xA y v D)),s.nx⟩)
 | .Ab D=>gF (Yz C k) ((Ux x).bind λy=>some ⟨s.σ.put b (.Ab (Ag rp y v D)),s.nx⟩)
 | _=>none
def Yn (C:Cx) (t:TypeId) (m x v:Xab) (s:CS):Option CS :=
 match m with
 | .map (some b)=>(RV (C.P.underlying t)).bind λ(k,_)=>(s.σ.get b).bind λo=>Rf C k b x v s o
 | _=>none
def JX (C:Cx) (t:TypeId) (s:CS):VS :=
 (RV (C.P.underlying t)).bind λq=>match YB C q.1 with
 | true=>(Ar s (.Ac [])).bind λa=>some (.map (some s.nx),a)
 | false=>match Yz C q.1 with
  | true=>(Ar s (.Ab [])).bind λa=>some (.map (some s.nx),a)
  | false=>gF (yS (C.P.underlying q.1)) ((Ar s (.yh [])).bind λa=>some (.map (some s.nx),a))
def K7:Xab->Option Nat
 | .int _ (.ofNat n)=>some n
 | _=>none
def Bi (P:Program) (t:TypeId) (l c:Xab) (s:CS):VS :=
 (K7 l).bind λl=>(K7 c).bind λc=>(Qi P t).bind λq=>gF (Nat.ble l c && Nat.ble (c*q.by_) 16777216 && Nat.ble c 16777216) (Im s (List.replicate c q.z).flatten q.e 0 l c)
def F2 (x:Xaa):List Xaa->List Xaa
 | []=>[x]
 | y::l=>match Op.bytesLess x.data.toList y.data.toList with
  | true=>x::y::l
  | false=>y::F2 x l
def sU:List Xaa->List Xaa
 | []=>[]
 | x::l=>F2 x (sU l)
def R6 (D:List (Xaa × Xab)) (s:CS):VS :=
 match D with
 | []=>some (.slice none 0 0,s)
 | _::_=>Im s ((sU (D.map (·.1))).map .string) 9 1 D.length rC
def LI (s:CS):AO->VS
 | .yh D=>gF (Nat.ble D.length 1024) (R6 D s)
 | _=>none
def O2:Xab->Option Nat
 | .map (some b)=>some b
 | _=>none
def Ry (C:Cx):Xab->Option (Nat × Nat)
 | .func (.func f) ⟨[]⟩ ⟨[p]⟩=>gF (Nat.beq f C.seq) (wG p)
 | _=>none
def ZF:Option AO->Option (List Xab)
 | some (.row c _ m)=>gF (Nat.beq m 0) (some c)
 | _=>none
def Fo (C:Cx) (a:List Xab) (s:CS):VS :=
 (NJ a).bind λv=>(Ry C v).bind λ(q,off)=>gF (Nat.beq off 0) ((ZF (s.σ.get q)).bind λl=>(NJ l).bind λm=>(O2 m).bind λb=>(s.σ.get b).bind (LI s))
def UP (c:List Xab):Option Xab :=
 match c with
 | [.int .i64 (.ofNat a),.int .i64 (.ofNat b)]=>some (.int .i64 (.ofNat (Nat.min a b)))
 | _=>none
def Pm (a:List Xab):Option Xab :=
 match a with
 | [.string x,.int .u8 n]=>some (.int .i64 (Lib.indexByte x.data.toList n.toNat.toUInt8))
 | _=>none
abbrev gY:=FuncId->List Xab->CS->VS
def val (s:CS) (v:Option Xab):VS:=v.bind λv=>some (v,s)
def done (r:Option CS):VS:=r.bind λs=>some (undef,s)
def Qm (C:Cx) (e:Ev) (s:CS) (c a b:Operand):VS :=
 (lJ C e c).bind λv=>match v with
 | .bool true=>val s (lJ C e a)
 | .bool false=>val s (lJ C e b)
 | _=>none
def EX (s:CS) (t:TypeId) (l:List Xab):VS:=(Ar s (.row l t 0)).bind λa=>some (.pointer (some ⟨s.nx,0,none⟩),a)
def aaT (C:Cx) (e:Ev) (s:CS) (t:TypeId) (x:Operand):VS:=(lJ C e x).bind λv=>(cO C.P t).bind λg=>(xF g v).bind λl=>EX s t l
def Z2 (ps:Array (Nat × Operand)) (a:List Xab):List (Nat × Xab):=(ps.toList.map (·.1)).zip a
def WJ (C:Cx) (e:Ev) (s:CS) (t:TypeId) (ps:Array (Nat × Operand)):VS:=(BA C e (ps.toList.map (·.2))).bind λa=>val s (JF C.P t (Z2 ps a))
def TO (C:Cx) (e:Ev) (s:CS) (t:TypeId) (n:Nat) (ps:Array (Nat × Operand)):VS:=(BA C e (ps.toList.map (·.2))).bind λa=>Pu C.P t n (Z2 ps a) s
def Y2 (C:Cx) (e:Ev) (s:CS) (t:TypeId) (x:Operand):VS:=(lJ C e x).bind λv=>(DE C t v s).bind λ(_,_,_,v)=>some (v,s)
def XZ (C:Cx) (e:Ev) (s:CS) (t:TypeId) (x y:Operand):VS:=(lJ C e x).bind λp=>(lJ C e y).bind λv=>done (I1 C.P t p v s)
def notNil:Xab->Option Xab
 | .pointer (some a)=>some (.pointer (some a))
 | _=>none
def aaW (C:Cx) (e:Ev) (s:CS) (x:Operand):VS:=(lJ C e x).bind λv=>val s (notNil v)
def aaA (C:Cx) (e:Ev) (s:CS) (op:BinOp) (t:TypeId) (x y:Operand):VS:=(lJ C e x).bind λa=>(lJ C e y).bind λb=>val s (X3 C.P op t x y a b)
def oUn (C:Cx) (e:Ev) (s:CS) (op:UnOp) (x:Operand):VS:=(lJ C e x).bind λa=>val s (cun op a)
def YM (C:Cx) (e:Ev) (s:CS) (a d:TypeId) (x:Operand):VS:=(lJ C e x).bind λv=>val s (OU C.P a d v)
def Y8 (C:Cx) (e:Ev) (s:CS) (f:FuncId) (a b:Array Operand):VS:=(BA C e a.toList).bind λa=>(BA C e b.toList).bind λb=>some (.func (.func f) ⟨a⟩ ⟨b⟩,s)
def Zm (C:Cx) (e:Ev) (s:CS) (t:TypeId) (l c:Operand):VS:=(lJ C e l).bind λl=>(lJ C e c).bind λc=>Bi C.P t l c s
def Z8 (C:Cx) (e:Ev) (s:CS) (t:TypeId) (m x:Operand) (ok:Bool):VS:=(lJ C e m).bind λm=>(lJ C e x).bind λx=>val s (PG C t m x ok s)
def aaw (C:Cx) (e:Ev) (s:CS) (t:TypeId) (m x v:Operand):VS:=(lJ C e m).bind λm=>(lJ C e x).bind λx=>(lJ C e v).bind λv=>done (Yn C t m x v s)
def Xa (C:Cx) (e:Ev) (s:CS) (t:TypeId) (x:Operand) (lo hi b:Option Operand):VS :=
 (lJ C e x).bind λa=>(BA C e (lo.toList++hi.toList++b.toList)).bind λc=>val s (csl C.P t lo hi b a c)
def Tw (C:Cx) (e:Ev) (s:CS) (t:TypeId) (x:Operand) (f:Nat):VS:=(lJ C e x).bind λv=>val s (FW C.P t f v)
def Yj (C:Cx) (e:Ev) (s:CS) (t:TypeId) (x:Operand) (f:Nat):VS:=(lJ C e x).bind λv=>(B7 v).bind λcs=>(LK C.P t f).bind λa=>val s (OH C.P a.type a.offset cs)
def Zx (C:Cx) (e:Ev) (s:CS) (t:TypeId) (x i:Operand):VS:=(lJ C e x).bind λv=>(lJ C e i).bind λi=>val s (SA C.P t v i)
def aa0 (C:Cx) (e:Ev) (s:CS) (t:TypeId) (x i:Operand):VS:=(lJ C e x).bind λv=>(lJ C e i).bind λi=>val s (X9 C.P t v i)
def Y6 (C:Cx) (e:Ev) (s:CS) (x:Operand) (i:Nat):VS:=(lJ C e x).bind λv=>(QC v).bind λa=>val s a[i]?
def B5 (P:Program) (t:TypeId) (r:VS):VS:=r.bind λ(v,s)=>gF (J2 (mv P t) v) (some (v,s))
def JV (C:Cx) (call:gY) (t:TypeId) (s:CS) (f:FuncId) (a:List Xab):VS :=
 match gC C.P f with
 | true=>B5 C.P t (match Nat.beq f C.VY with
  | true=>Fo C a s
  | false=>call f a s)
 | false=>gF (Nat.beq f C.idx) (B5 C.P t (val s (Pm a)))
def QG (C:Cx) (call:gY) (t:TypeId) (s:CS) (g:Xab) (a:List Xab):VS :=
 match g with
 | .func (.func f) ⟨b⟩ ⟨c⟩=>gF (gC C.P f) (B5 C.P t (call f (b++a++c) s))
 | _=>none
def Wi (P:Program) (t:TypeId) (v:Xab):Option Xab:=gF (EP (cM P t) v) (some v)
def Bf (C:Cx) (b:Builtin) (t:TypeId) (c:Call) (a:List Xab) (s:CS):VS :=
 match b with
 | .len=>(NJ a).bind λv=>val s (WG s ((c.argTypes[0]?).bind C.P.underlying) v)
 | .append=>FG C c.argTypes.toList a s
 | .min=>val s ((UP a).bind (Wi C.P t))
 | _=>none
def SM (C:Cx) (call:gY) (e:Ev) (s:CS) (t:TypeId) (c:Call):VS :=
 (BA C e c.args.toList).bind λa=>match c.callee with
 | .builtin b=>Bf C b t c a s
 | .value (.func f)=>JV C call t s f a
 | .value (.tmp g)=>(e.get g).bind λg=>QG C call t s g a
 | _=>none
def Yx (C:Cx) (call:gY) (o:Oper) (e:Ev) (s:CS):VS :=
 match o.op with
 | .move x=>val s (lJ C e x)
 | .assign x=>val s (lJ C e x)
 | .pick c a b=>Qm C e s c a b
 | .alloc t=>(zeroOf C.P t).bind (EX s t)
 | .box t x=>aaT C e s t x
 | .build t ps=>WJ C e s t ps
 | .buildSlice t n ps=>TO C e s t n ps
 | .load t x=>Y2 C e s t x
 | .store t x y=>XZ C e s t x y
 | .nilCheck x=>aaW C e s x
 | .binOp op t x y _=>aaA C e s op t x y
 | .unOp op _ x=>oUn C e s op x
 | .convert a d x=>YM C e s a d x
 | .makeFunc (.func f) g h=>Y8 C e s f g h
 | .makeMap t none=>JX C t s
 | .makeSlice t l c=>Zm C e s t l c
 | .lookup t m x ok=>Z8 C e s t m x ok
 | .mapUpdate t m x v=>aaw C e s t m x v
 | .slice t x lo hi j=>Xa C e s t x lo hi j
 | .fieldAddr t x f=>Tw C e s t x f
 | .field t x f=>Yj C e s t x f
 | .indexAddr t x i=>Zx C e s t x i
 | .index t x i=>aa0 C e s t x i
 | .extract x i=>Y6 C e s x i
 | .call c=>SM C call e s o.type c
 | _=>none
def VZ (a:Bool):Xab->Option Bool
 | .bool b=>some (b==a)
 | .tuple _=>some false
 | _=>none
def Eg (ops:Array Oper) (o:Oper) (e:Ev):Option Bool :=
 match guardOf ops o with
 | none=>some true
 | some (none,_)=>some false
 | some (some d,a)=>(e.get d).bind (VZ a)
def forced {α:Type} (v:Xab) (k:Xab->α):α :=
 match v with
 | .int a n=>match n with
  | .ofNat m=>match m with
   | 0=>k (.int a (.ofNat 0))
   | m+1=>k (.int a (.ofNat (m+1)))
  | .negSucc m=>k (.int a (.negSucc m))
 | .bool b=>match b with
  | true=>k (.bool true)
  | false=>k (.bool false)
 | v=>k v
def E1 (n:Nat) (e:Ev) (dst:Option Tmp) (v:Xab):Ev :=
 match dst with
 | none=>e
 | some d=>match Nat.blt d n with
  | true=>forced v (e.put d)
  | false=>e
abbrev ES:=Option (Ev × CS)
def did (n:Nat) (e:Ev) (dst:Option Tmp) (r:VS) (k:Ev->CS->ES):ES:=r.bind λ(v,s)=>k (E1 n e dst v) s
def T' (C:Cx) (call:gY) (n:Nat) (ops:Array Oper):List Oper->Ev->CS->ES
 | [],e,s=>some (e,s)
 | o::rest,e,s=>(Eg ops o e).bind λw=>match w with
  | true=>did n e o.dst (Yx C call o e s) (T' C call n ops rest)
  | false=>T' C call n ops rest (E1 n e o.dst undef) s
end
end Go.Sx.Cr
