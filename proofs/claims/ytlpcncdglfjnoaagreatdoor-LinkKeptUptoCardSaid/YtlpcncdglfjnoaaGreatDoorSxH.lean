/- Part of the framework. No condition. -/
import Derived.Test.YtlpcncdglfjnoaaGreatDoorSxL
set_option linter.all false
set_option maxHeartbeats 4000000
namespace Go.Sx
structure Ch (ws:List Nat) (h h':Hp):Prop where
 size:h.size<=h'.size
 same:∀ i,i<h.size->i∉ws->h'[i]?=h[i]?
abbrev Ext (h h':Hp):Prop:=Ch [] h h'
def Ch.refl (ws:List Nat) (h:Hp):Ch ws h h:=⟨Zc _,fun _ _ _=>rfl⟩
def Ch.trans {ws d:List Nat} {a b c:Hp} (h:Ch ws a b) (k:Ch d b c) (hv:∀ i,i∈d->i<a.size->i∈ws):Ch ws a c :=
 ⟨ZK h.size k.size,fun i hi e=>(k.same i (aw9 hi h.size) fun f=>e (hv i f hi)).trans (h.same i hi e)⟩
variable {Z:List Nat} {H:Hp}
def Ch.mono {ws:List Nat} {b:Hp} (h:Ch ws H b) (hv:∀ i,i∈ws->i<H.size->i∈Z):Ch Z H b:=⟨h.size,fun i hi c=>h.same i hi fun d=>c (hv i d hi)⟩
def Ext.trans {a b c:Hp} (h:Ext a b) (k:Ext b c):Ext a c:=Ch.trans h k aj
def bZ {ws:List Nat} {b c:Hp} (h:Ch ws H b) (k:Ch Z b c) (hv:∀ i,i∈Z->i<H.size->i∈ws:=by intro i hi hl; simp at hi; omega):Ch ws H c:=Ch.trans h k hv
def Ext.push (h:Hp) (o:Obj):Ext h (h.push o):=⟨aj,fun i hi _=>by rw [Array.getElem?_push,Y1 ad]⟩
variable {I Y b:Nat}
def fF {o:Obj} (a:H[I]?=some o):I<H.size:=by
 rcases ZP I H.size with hl | hl
 ·exact hl
 ·rw [ZY hl] at a; cases a
def Ch.get {ws:List Nat} {h':Hp} (k:Ch ws H h') {o:Obj} (a:H[I]?=some o) (b:I∉ws):h'[I]?=some o:=(k.same I (fF a) b).trans a
def bF (h:Hp) (g:Nat) (e:TypeId) (a:List Xab):Prop:=h[g]?=some (.cells a.toArray e (0,0))
variable {O:TypeId} {U:List Xab}
def bF.lt (b:bF H I O U):I<H.size:=fF b
def bF.ai {ws:List Nat} {h':Hp} {xs:List Xab} (b:bF H I O xs) (k:Ch ws H h') (a:I∉ws):bF h' I O xs:=k.get b a
def bF.new (h:Hp) (e:TypeId) (xs:List Xab):bF (h.push (.cells xs.toArray e (0,0))) h.size e xs:=by
 unfold bF; rw [Array.getElem?_push_size]
def sJ {off:Nat} {c:Array Xab} {f:Nat × Nat} (a:H[I]?=some (.cells c O f)):jj H ⟨I,off,none⟩=c[off]?:=by
 unfold jj; simp only [a]; rfl
def bF.cell {off:Nat} (b:bF H I O U):jj H ⟨I,off,none⟩=U[off]?:=by
 rw [sJ b]; simp
def bF.frozen {off:Nat} (b:bF H I O U):xe H ⟨I,off,none⟩=false:=by
 unfold xe; unfold bF at b; simp only [b]; simp
def aC (g off i:Nat):(⟨g,off,none⟩:Xax).add i=⟨g,off+i,none⟩:=by
 unfold Addr.add;split
 ·subst_vars; rfl
 ·rfl
def fv (a:Xax) (i:Nat):(a.add i).block=a.block:=by
 unfold Addr.add;split <;> rfl
variable {c:Xax}
def vu {ws:List Nat} {h':Hp} {v:Xab} (hc:jj H c=some v) (k:Ch ws H h') (d:c.block∉ws):jj h' c=some v:=by
 unfold jj at hc ⊢;split at hc
 ·rename_i b e f g;rw [k.get g d]; exact hc
 ·cases hc
theorem aX {ws:List Nat} {h h':Hp} {a:Xax} (k:Ch ws h h') (c:a.block∉ws):∀ (b:List Xab) (i:Nat),aI h a i b->aI h' a i b
 | [],_,_=>trivial
 | v::b,i,hc=>⟨vu hc.1 k (by rw [fv]; exact c),aX k c b (i+1) hc.2⟩
theorem bF.cells_from {h:Hp} {g off:Nat} {e:TypeId} {c:List Xab} (b:bF h g e c):∀ (a:List Xab) (i:Nat),(∀ j,j<a.length->c[off+(i+j)]?=a[j]?)->aI h ⟨g,off,none⟩ i a
 | [],_,_=>trivial
 | v::a,i,hv=>by
  refine ⟨?_,b.cells_from a (i+1) fun j d=>?_⟩
  ·rw [aC,b.cell];exact hv 0 aj
  ·have:=hv (j+1) (by simpa using d)
   rw [bz9] at this;rw [<- this]; congr 1; omega
def bF.cells {off:Nat} (b:bF H I O U) (vs:List Xab) (hv:(U.drop off).take vs.length=vs):aI H ⟨I,off,none⟩ 0 vs:=by
 refine b.cells_from vs 0 fun j a=>?_
 have:((U.drop off).take vs.length)[j]?=vs[j]?:=by rw [hv]
 rw [bo9,Y8 a,bf9] at this;rw [<- this]; congr 1; omega
def gK (a:List Xab):Nat->List Xab->List Xab
 | _,[]=>a
 | i,v::b=>gK (a.set i v) (i+1) b
theorem gS:∀ (a b:List Xab) (i:Nat),(gK b i a).length=b.length
 | [],_,_=>rfl
 | v::a,b,i=>by simp [gK,gS a]
theorem gZ:∀ (b a:List Xab) (i:Nat),i+b.length<=a.length->gK a i b=a.take i++b++a.drop (i+b.length)
 | [],a,i,_=>by simp [gK]
 | v::b,a,i,h=>by
  simp only [List.length_cons] at h;rw [gK,gZ b (a.set i v) (i+1) (by rw [Z7]; omega)];rw [List.take_set,List.drop_set_of_lt (show i<i+1+b.length from ad)];have c:(a.take (i+1)).set i v=a.take i++[v]:=by
   rw [Y2 ad,List.set_append_right _ _ (by simp; omega)];simp [Nat.min_eq_left (by omega:i<=a.length)]
  rw [c];simp only [List.append_assoc,List.cons_append,List.nil_append,List.length_cons];rw [show i+1+b.length=i+(b.length+1) from ad]
def Qi {off:Nat} (b:bF H I O U) (v:Xab):bF (lI H ⟨I,off,none⟩ v) I O (U.set off v)/\Ch [I] H (lI H ⟨I,off,none⟩ v)/\(lI H ⟨I,off,none⟩ v).size=H.size:=by
 unfold lI;refine ⟨?_,⟨aj,fun i hi a=>?_⟩,aj⟩
 ·unfold bF at b ⊢;rw [Array.getElem?_modify,Y8 rfl,b]
  simp
 ·rw [Array.getElem?_modify,Y1 (by simp at a; exact fun O=>a O.symm)]
theorem mI {g off:Nat} {e:TypeId}:∀ (a:List Xab) (h:Hp) (i:Nat) (c:List Xab),bF h g e c->a.all da=true->off+i+a.length<=c.length ->
  zB h ⟨g,off,none⟩ i a/\bF (tK h ⟨g,off,none⟩ i a) g e (gK c (off+i) a)/\Ch [g] h (tK h ⟨g,off,none⟩ i a)/\(tK h ⟨g,off,none⟩ i a).size=h.size
 | [],h,i,c,b,_,_=>⟨trivial,b,Ch.refl _ _,rfl⟩
 | v::a,h,i,c,b,d,hl=>by
  simp only [List.all_cons,Bool.and_eq_true,List.length_cons] at d hl;obtain ⟨b1,c1,z1⟩:=Qi (off:=off+i) b v;obtain ⟨f,j,k,l⟩:=mI (off:=off) a (lI h ⟨g,off+i,none⟩ v) (i+1) (c.set (off+i) v) b1 d.2 (by rw [Z7]; omega);unfold zB tK;rw [aC];refine ⟨⟨d.1,⟨c[off+i]'ad,?_⟩,b.frozen,f⟩,j,c1.trans k aj,l.trans z1⟩;rw [b.cell,YZ]
section rules
variable {P:Program} {L:Lp} {K:Xab->Hp->Prop} {h:Hp}
variable {H:Nat} {I:TypeId} {O:T}
def ct {off:Nat} {c a:List Xab} (b:bF h H I c) (d:a.all da=true) (hl:off+a.length<=c.length)
  (hk:∀ h',bF h' H I (gK c off a)->Ch [H] h h'->h'.size=h.size->O L K h'):T.ar ⟨H,off,none⟩ a O L K h:=by
 obtain ⟨f,i,j,l⟩:=mI (off:=off) a h 0 c b d hl;exact ⟨f,hk _ i j l⟩
variable {U:List TypeDesc}
def bm {off:Nat} {a:List Xab} {k:Fc U T} (b:bF h H I a) (x:qX U) (hv:(a.drop off).take (eA U x).length=eA U x) (hk:Fe _ k x L K h) :
  T.af ⟨H,off,none⟩ U k L K h:=av x (b.cells _ hv) hk
def az {off:Nat} {a:List Xab} {k:Fc U T} (b:bF h H I a) (x:qX U) (hk:Fe _ k x L K h) (hv:(a.drop off).take (eA U x).length=eA U x:=by first | rfl):T.af ⟨H,off,none⟩ U k L K h:=bm b x hv hk
def bQ {off:Nat} {c a:List Xab} (b:bF h H I c) (hk:∀ h',bF h' H I (gK c off a)->Ch [H] h h'->h'.size=h.size->O L K h') (d:a.all da=true:=by first | rfl) (hl:off+a.length<=c.length:=by first | simp):T.ar ⟨H,off,none⟩ a O L K h:=ct b d hl hk
def fJ {cs:List ey} {first:T} {after:Fc (flat cs) T} (J:qX (flat cs)->Hp->Prop) (a:first (L++[fun b h'=>∃ y,b=parts cs (eA _ y)/\J y h']) K h) (c:∀ y h',J y h'->Fe _ after y L K h'):T.join cs first after L K h:=⟨J,a,c⟩
def dE {a:List Xab} {cs:List ey} {J:qX (flat cs)->Hp->Prop} (y:qX (flat cs)) (b:L[H]?=some (fun a h'=>∃ y,a=parts cs (eA _ y)/\J y h')) (c:a=parts cs (eA _ y)) (d:J y h):T.again H a L K h:=by
 unfold T.again;rw [b];exact ⟨y,c,d⟩
def bG {cells:List Xab} {k:Xax->T} (hk:∀ h',bF h' h.size I cells->Ext h h'->h'.size=h.size+1->k ⟨h.size,0,none⟩ L K h'):T.new cells I k L K h :=
 hk _ (bF.new h I cells) (Ext.push h _) aj
def df {s:Sem Xab} {k:Xac->Nat->Nat->T} (a:aZ P s h fun v h'=>∃ p l c,v=.slice p l c/\k p l c L K h'):T.eN P s false [(false,[.slice 0])] k L K h :=
 ek s _ _ _ (fun v h' ⟨p,l,c,hv,hk⟩=>⟨((p,l,c),()),hv,hk⟩) a
def mU {s:Sem Xab} {b:Bool} {k:Bool->T} (c:∀ a:Xab->Hp->Prop,a (.bool b) h->aZ P s h a) (hk:k b L K h):T.eN P s false [(false,[.bool])] k L K h :=
 c _ ⟨(b,()),rfl,hk⟩
end rules
variable {a:Program}
def jV {z:Xab} {b:Nat} (h:(a.info? O).map (fun i=>(i.zero,i.size,i.bytes))=some (some z,I,b)):∃ i,a.info? O=some i/\i.zero=some z/\i.size=I/\i.bytes=b:=by
 cases hi:a.info? O with
 | none=>rw [hi] at h; cases h
 | some i =>
  rw [hi] at h;simp only [Option.map_some,Option.some.injEq,Prod.mk.injEq] at h;exact ⟨i,rfl,h.1,h.2.1,h.2.2⟩
variable {d:T}
def bi {f:FuncId} {fn:Func} {args:List Xab} {R:Xab->Hp->Prop} (b:a.follows .mixedOrders=true) (c:a.funcs[f]?=some fn) (hl:Nat.ble args.length fn.ntmps=true)
  (e:bS a Z fn args=d) (g:d [] R H):HC a f args.toArray H R:=T0 b c hl (by rw [e]; exact g)
def SL (h:Hp) (b:Nat) (e:TypeId) (sz:Nat) (p:Xac) (l c:Nat) (f:List (List Xab)):Prop :=
 l=f.length/\(∀ x,x∈f->x.length=sz) /\
 match p with
 | none=>c=0/\f=[]
 | some a=>∃ g d rest,a=⟨g,d.length,none⟩/\b<=g/\(l<=c/\c<9223372036854775808)/\bF h g e (d++(f.flatten++rest))/\rest.length=(c-l)*sz
def aF (p:Xac):List Nat :=
 match p with
 | none=>[]
 | some a=>[a.block]
def SL.nil (h:Hp) (b:Nat) (e:TypeId) (sz:Nat):SL h b e sz none 0 0 []:=⟨rfl,aj,rfl,rfl⟩
def SL.ai {ws:List Nat} {h h':Hp} {b:Nat} {e:TypeId} {sz:Nat} {p:Xac} {l c:Nat} {xs:List (List Xab)} (s:SL h b e sz p l c xs) (k:Ch ws h h') (m:∀ a,p=some a->a.block∉ws):SL h' b e sz p l c xs:=by
 refine ⟨s.1,s.2.1,?_⟩;cases p with
 | none=>exact s.2.2
 | some a =>
  obtain ⟨g,f,rest,j,n,i,d,o⟩:=s.2.2;exact ⟨g,f,rest,j,n,i,d.ai k (by have:=m a rfl; rw [j] at this; exact this),o⟩
variable {V:Xac}
def SL.mono {b' sz:Nat} {xs:List (List Xab)} (s:SL H I O sz V Y b xs) (f:b'<=I):SL H b' O sz V Y b xs:=by
 refine ⟨s.1,s.2.1,?_⟩;cases V with
 | none=>exact s.2.2
 | some a =>
  obtain ⟨g,i,rest,k,m,j,d,n⟩:=s.2.2;exact ⟨g,i,rest,k,ZK f m,j,d,n⟩
theorem cU {sz:Nat}:∀ (a:List (List Xab)),(∀ x,x∈a->x.length=sz)->a.flatten.length=a.length*sz
 | [],_=>aj
 | x::a,h=>by
  rw [bj9,Y0,h x aj,cU a (fun y b=>h y (by simp [b])),Z1,Z5];omega
theorem oF {sz:Nat}:∀ (a:List (List Xab)) (i:Nat) (rest:List Xab),(∀ x,x∈a->x.length=sz)->(hi:i<a.length)->((a.flatten++rest).drop (i*sz)).take sz=a[i]
 | [],i,_,_,hi=>by simp at hi
 | x::a,0,rest,h,_=>by
  have b:x.length=sz:=h x aj;simp [<- b]
 | x::a,i+1,rest,h,hi=>by
  have b:x.length=sz:=h x aj
  have:(i+1)*sz=x.length+i*sz:=by rw [Z5,b]; omega
  rw [this,bj9,Zp,<- List.drop_drop,bh9];simpa using oF a i rest (fun y c=>h y (by simp [c])) (by simpa using hi)
variable {e:List (List Xab)}
def SL.cj {b sz:Nat} (s:SL H b O sz V I Y e) {i:Nat} (hi:i∈aF V):b<=i/\i<H.size:=by
 cases V with
 | none=>simp [aF] at hi
 | some a =>
  obtain ⟨g,j,rest,rfl,f,k,d,m⟩:=s.2.2;simp [aF] at hi;subst hi;exact ⟨f,d.lt⟩
def SL.br {ws:List Nat} {h':Hp} {sz:Nat} {xs:List (List Xab)} (s:SL H I O sz V Y b xs) (k:Ch ws H h') (d:∀ i,i∈aF V->i∉ws):SL h' I O sz V Y b xs :=
 s.ai k fun a f=>d _ (by rw [f]; simp [aF])
def SL.cells {h:Hp} {b:Nat} {e:TypeId} {sz:Nat} {p:Xac} {l c:Nat} {f:List (List Xab)} (s:SL h b e sz p l c f) {i:Nat} (hi:i<f.length) :
  ∃ a,p=some a/\aI h (a.add (i*sz)) 0 f[i]:=by
 cases p with
 | none=>have:=s.2.2.2; subst this; simp at hi
 | some a =>
  obtain ⟨g,j,rest,rfl,m,k,d,n⟩:=s.2.2;refine ⟨_,rfl,?_⟩;rw [aC];refine d.cells _ ?_;rw [s.2.1 _ (Y5 hi),<- List.drop_drop,bh9];exact oF f i rest s.2.1 hi
def SL.drop {h:Hp} {b:Nat} {e:TypeId} {sz:Nat} {p:Xac} {l c:Nat} {i:List (List Xab)} (s:SL h b e sz p l c i) {k:Nat} (hk:k<=l) :
  SL h b e sz (p.map fun a=>a.add (k*sz)) (l-k) (c-k) (i.drop k):=by
 refine ⟨by rw [ZI,<- s.1],fun x n=>s.2.1 x (cl9 n),?_⟩;cases p with
 | none =>
  obtain ⟨h1,h2⟩:=s.2.2;subst h1 h2;exact ⟨ad,aj⟩
 | some a =>
  obtain ⟨g,j,rest,rfl,o,q,f,r⟩:=s.2.2;have d:i.flatten=(i.take k).flatten++(i.drop k).flatten:=by rw [<- bv9,ZG]
  have m:(i.take k).flatten.length=k*sz:=by
   rw [cU _ (fun x n=>s.2.1 x (Z0 n)),Zi,ZQ (by have:=s.1; omega)]
  refine ⟨g,j++(i.take k).flatten,rest,?_,o,ad,?_,by rw [r]; congr 1; omega⟩
  ·show Addr.add ⟨g,j.length,none⟩ (k*sz)=_;rw [aC,Y0,m]
  ·rw [d] at f;simpa [List.append_assoc] using f
def rY {X B vs:List Xab} (h:X.length=vs.length):gK (U++(X++B)) U.length vs=U++(vs++B):=by
 rw [gZ _ _ _ (by simp; omega),bp9,Zp,<- List.drop_drop,bh9,<- h,bh9]
def SL.store {P:Program} {L:Lp} {K:Xab->Hp->Prop} {h:Hp} {sz:Nat} (s:SL h I O sz V Y b e) {i:Nat} (hi:i<e.length) {vs:List Xab} (hv:vs.length=sz)
  (u:vs.all da=true) (w:V=some c) (hk:∀ h',SL h' I O sz V Y b (e.set i vs)->Ch (aF V) h h'->h'.size=h.size->d L K h'):T.ar (c.add (i*sz)) vs d L K h:=by
 subst w;obtain ⟨g,f,rest,rfl,q,r,j,y⟩:=s.2.2;have m:(e.take i).flatten.length=i*sz:=by
  rw [cU _ (fun x m=>s.2.1 x (Z0 m)),Zi,ZQ ad]
 have z:f++(e.flatten++rest)=(f++(e.take i).flatten)++(e[i]++((e.drop (i+1)).flatten++rest)):=by
  have e0:e.flatten=(e.take i).flatten++(e[i]++(e.drop (i+1)).flatten):=by
   conv=>lhs; rw [<- ZG i e,Zj hi]
   rw [bv9,bj9]
  rw [e0];simp only [List.append_assoc]
 have A:(e.set i vs).flatten=(e.take i).flatten++(vs++(e.drop (i+1)).flatten):=by
  rw [List.set_eq_take_append_cons_drop,Y8 hi]
  simp
 have t:e[i].length=vs.length:=by rw [hv]; exact s.2.1 _ (Y5 hi)
 rw [z] at j;rw [aC];have n:(f++(e.take i).flatten).length=f.length+i*sz:=by rw [Y0,m]
 rw [<- n];refine ct j u (by simp; omega) ?_;intro h' o k' B;rw [rY t] at o;refine hk h' ⟨by rw [Z7]; exact s.1,fun x m=>?_,g,f,rest,rfl,q,r,?_,y⟩ (by simpa [aF] using k') B
 ·rcases af9 m with m | rfl
  ·exact s.2.1 x m
  ·exact hv
 ·rw [A];simpa [List.append_assoc] using o
def pv {α β:Type} (f:α->β) (s:Sem α) (h:Hp) (K:β->Hp->Prop):aZ a (f <$> s) h K=aZ a s h fun b h'=>K (f b) h':=by
 have:f <$> s=s >>= fun b=>pure (f b):=by rw [<- bind_pure_comp]
 rw [this,an]; rfl
section append
variable {P:Program} {h:Hp} {K:Xab->Hp->Prop}
variable {H I:TypeId} {O U a:Nat} {b:TypeInfo}
def kj {parts:Array (Nat × Xab)} {z:Xab} {cells:Array Xab} (c:P.underlying H=some (.slice I)) (hi:P.info? I=some b) (f:b.zero=some z)
  (hn:O*b.size≠0) (k:O*b.size<=2^24)
  (g:Instr.fill (fun j=>some (j*b.size,b.size)) ((Array.range (O*b.size)).map (z.cells[· % z.cells.size]!)) parts.toList=some cells)
  (hk:∀ h',bF h' h.size I cells.toList->Ext h h'->h'.size=h.size+1->K (.slice (some ⟨h.size,0,none⟩) O O) h'):aZ P (Instr.buildSlice H O parts) h K:=by
 unfold Instr.buildSlice;rw [an,aE c];simp only;rw [an,bR hi,cJ hi];rw [Y1 ad,Y1 hn];rw [an,dL (z:=z) (by rw [hi]; exact f)];show aZ P (match Instr.fill (fun j=>some (j*b.size,b.size)) ((Array.range (O*b.size)).map (z.cells[· % z.cells.size]!)) parts.toList with
  | some cells=>do
   let d <- newRow I cells
   pure (Value.slice (some d) O O)
  | _ => stuck "buildSlice: a part of the wrong size") h K
 rw [g];refine hk _ ?_ (Ext.push h _) aj;exact bF.new h I cells.toList
def Lc (need:Nat):∀ (n c:Nat),c<=2*need+1024->0<n->Builtin.growBy need n c<=2*need+1024:=by
 intro n
 induction n with
 | zero=>intro c h h0; omega
 | succ n a =>
  intro c h _;unfold Builtin.growBy;split
  ·exact h
  ·rename_i b;cases n with
   | zero=>unfold Builtin.growBy; omega
   | succ n=>exact a _ ad ad
def BX {need old:Nat} (h:old<need):Builtin.nextslicecap need old<=2*need+1024:=by
 unfold Builtin.nextslicecap;split
 ·omega
 ·split
  ·omega
  ·exact Lc need 4 old ad ad
def r8 (z:Array Xab) (n:Nat):(Builtin.zeroCells z n).size=n*z.size:=by
 unfold Builtin.zeroCells; simp
def J7 (need old:Nat) (e:TypeId) (t:Nat):need<=(Question.appendCap need old e).cut t/\(need<9223372036854775808->(Question.appendCap need old e).cut t<9223372036854775808):=by
 show need<=need+t % (2^63-need)/\(need<9223372036854775808->need+t % (2^63-need)<9223372036854775808);refine ⟨ad,fun h=>?_⟩
 have:=cu9 t (show 0<2^63-need from ad)
 omega
variable {V:Xac}
def je {ty:TypeId} {z:Xab} (W:P.underlying H=some (.slice I)) (hi:P.info? I=some b) (Z:b.zero=some z) (N:z.cells.size=b.size)
  {j ys:List (List Xab)} (s:SL h O I b.size V U a j) {d:Xax} {m cc:Nat} (X:m=ys.length) (C:∀ y,y∈ys->y.length=b.size)
  (hc:aI h d 0 ys.flatten) (hp:ys.flatten.all da=true) (hby:(2*(U+m)+1024)*b.bytes<=2^48) (hl:U+m<=2^48) (hb:O<=h.size)
  (hk:∀ p' c' h',SL h' O I b.size p' (U+m) c' (j++ys)->Ch (aF V) h h'->(p'=V\/∃ d,p'=some d/\h.size<=d.block)->K (.slice p' (U+m) c') h') :
  aZ P (Builtin.append_ #[H,H] ty #[.slice V U a,.slice (some d) m cc]) h K:=by
 have k:ys.flatten.length=m*b.size:=by rw [cU ys C,X]
 have r:j.flatten.length=U*b.size:=by rw [cU j s.2.1,s.1]
 have w:∀ x,x∈j++ys->x.length=b.size:=fun x hx=>(Zb.1 hx).elim (s.2.1 x) (C x)
 have A:U+m=(j++ys).length:=by rw [Y0,<- s.1,X]
 have Q:(P.info? I).bind (·.zero)=some z:=by rw [hi]; exact Z
 by_cases f:U+m<=a
 ·simp [Builtin.append_,an,aE W,bR hi,cJ hi,Builtin.lenOf,Builtin.firstCells,f];refine ef k hc _ ?_;cases V with
  | none =>
   have h1:a=0:=s.2.2.1;have h2:ys=[]:=Z6 ad;subst h2;rw [Z2] at hk;have R:m=0:=ad
   subst R;exact hk none a h s (Ch.refl _ _) (.inl rfl)
  | some a1 =>
   obtain ⟨g,n,rest,rfl,D,E,o,S⟩:=s.2.2;have F:(j.flatten++rest).length=a*b.size:=by
    rw [Y0,r,S,<- Z5]; congr 1; omega
   have hle:U*b.size+m*b.size<=a*b.size:=by rw [<- Z5]; exact ZT _ f
   simp only;rw [aC,pv];obtain ⟨k1,G,k3,k4⟩:=mI (off:=n.length+U*b.size) ys.flatten h 0 _ o hp (by rw [Y0,F,k]; omega);refine fX _ _ _ _ _ k1 ?_;refine hk _ a _ ⟨A,w,g,n,rest.drop (m*b.size),rfl,D,⟨f,E.2⟩,?_,?_⟩ k3 (.inl rfl)
   ·rw [gZ _ _ _ (by rw [Y0,F,k]; omega),cc9,<- r,<- Zp,<- Y0,bp9,List.drop_append,k] at G;rw [ar9 ad,Z8,show (n++j.flatten).length+m*b.size-(n++j.flatten).length=m*b.size from ad] at G;rw [bv9];rw [Y0,r] at G;simp only [List.append_assoc] at G ⊢;exact G
   ·rw [ZI,S,<- Nat.sub_mul]; congr 1; omega
 ·have J:¬ 281474976710656<Builtin.nextslicecap (U+m) a*b.bytes:=by
   have h1:=BX (need:=U+m) (old:=a) ad;have h2:=ZT b.bytes h1;have R:(2:Nat)^48=281474976710656:=rfl;omega
  have L:¬ (9223372036854775807<(U:Int)+(m:Int)/\b.bytes=0):=by
   have R:(2:Nat)^48=281474976710656:=rfl;omega
  simp [Builtin.append_,an,aE W,bR hi,cJ hi,Builtin.lenOf,Builtin.firstCells,f,iD hi,dL Q,askRoom,L,J];intro Y;have hge:=J7 (U+m) a I Y;generalize (Question.appendCap (U+m) a I).cut Y=B at hge;show aZ P (if roomBytes<B*b.bytes then mark Mark.noRoom else pure ()) h _;have u:∀ K':Unit->Hp->Prop,K' () h->aZ P (if roomBytes<B*b.bytes then mark Mark.noRoom else pure ()) h K':=by
   intro K' q;split
   ·exact q
   ·exact q
  refine u _ ?_
  have M:∀ K':Array Xab->Hp->Prop,K' j.flatten.toArray h->aZ P (match Value.slice V U a with
    | Value.slice (some d) len cap=>loadCells d (U*b.size)
    | Value.slice none len cap=>pure #[]
    | Value.string s=>pure ((Array.map (fun O=>Value.int IntKind.u8 ↑O.toNat) s.data).extract 0 U)
    | x => stuck "slice or string expected") h K' := by
   intro K' q;cases V with
   | none =>
    have:j=[]:=s.2.2.2
    subst this;exact q
   | some a1 =>
    obtain ⟨g,n,rest,rfl,D,E,o,S⟩:=s.2.2;refine ef r (o.cells _ ?_) _ q;rw [bh9,bp9]
  refine M _ ?_;refine ef k hc _ ?_;rw [pv];refine hk (some ⟨h.size,0,none⟩) B _ ⟨A,w,h.size,[],(Builtin.zeroCells z.cells (B-(U+m))).toList,rfl,hb,⟨hge.1,hge.2 ad⟩,?_,?_⟩ ((Ext.push h _).mono aj) (.inr ⟨_,rfl,Zc _⟩)
  ·have e1:j.flatten.toArray++(ys.flatten.toArray++Builtin.zeroCells z.cells (B-(U+m)))=((j++ys).flatten++(Builtin.zeroCells z.cells (B-(U+m))).toList).toArray:=by
    apply ZM.1; simp
   rw [e1];exact bF.new h I _
  ·rw [ab9,r8,N]
variable {Y:Lp} {Z:Xac->Nat->Nat->T}
def gn {K:Xab->Hp->Prop} {e:TypeId} {z:Xab} {sz by':Nat} {st:List (Xax × List Xab)} (y:P.underlying H=some (.slice e)) (g:(P.info? e).map (fun i=>(i.zero,i.size,i.bytes))=some (some z,sz,by'))
  (n:z.cells.size=sz) (B:sz≠0) (C:sz<=4096) {v:Xab} {vs:List Xab} (D:Instr.fill (fun j=>some (j*sz,sz)) ((Array.range (1*sz)).map (z.cells[· % z.cells.size]!)) [(0,v)]=some vs.toArray) (o:vs.length=sz) (r:vs.all da=true)
  {xs:List (List Xab)} (s:SL h O e sz V U a xs) (Q:O<=h.size) (u:(2*(U+1)+1024)*by'<=2^48) (hl:U+1<=2^48) (w:∀ h',Ext h h'->T.BO h' st)
  (hk:∀ p' c' h',SL h' O e sz p' (U+1) c' (xs++[vs])->Ch (aF V) h h'->(p'=V\/∃ d,p'=some d/\h.size<=d.block)->Z p' (U+1) c' Y K h') :
  T.eN P (Instr.buildSlice H 1 #[(0,v)]) false [(false,[.slice 0])] (fun q m E=>T.aD st (T.eN P (Builtin.append_ #[H,H] I #[.slice V U a,.slice q m E]) false [(false,[.slice 0])] Z)) Y K h:=by
 obtain ⟨i,hi,A,rfl,rfl⟩:=jV g;refine df (kj y hi A ad ad D ?_);intro h1 b1 x z1;refine ⟨_,_,_,rfl,w _ x,df ?_⟩;have F:SL h1 O e i.size V U a xs:=s.ai x aj;refine je (ys:=[vs]) y hi A n F rfl (by simpa using o) (b1.cells _ aj) (by simpa using r) (by simpa using u) (by simpa using hl) (by rw [z1]; omega) ?_;intro p' c' h2 G J f;refine ⟨p',U+1,c',rfl,hk p' c' h2 G (Ch.trans (x.mono aj) J (fun i hi _=>hi)) ?_⟩;rcases f with f | ⟨d,M,N⟩
 ·exact .inl f
 ·exact .inr ⟨d,M,ad⟩
def SR {K:Xab->Hp->Prop} {e:TypeId} {z:Xab} {sz by':Nat} (w:P.underlying H=some (.slice e)) (j:(P.info? e).map (fun i=>(i.zero,i.size,i.bytes))=some (some z,sz,by'))
  (n:z.cells.size=sz) {b':Nat} {f:List (List Xab)} (s:SL h O e sz V U a f) (o:f.flatten.all da=true) (y:b'<=h.size) (q:(2*U+1024)*by'<=2^48) (hl:U<=2^48)
  (hk:∀ p' c' h',SL h' b' e sz p' U c' f->Ext h h'->(p'=none\/∃ d,p'=some d/\h.size<=d.block)->Z p' U c' Y K h') :
  T.eN P (Builtin.append_ #[H,H] I #[.slice none 0 0,.slice V U a]) false [(false,[.slice 0])] Z Y K h:=by
 obtain ⟨i,hi,A,rfl,rfl⟩:=jV j;refine df ?_;have G:f.flatten.length=U*i.size:=by rw [cU _ s.2.1,<- s.1]
 cases V with
 | none =>
  have h1:f=[]:=s.2.2.2;have h2:U=0:=by rw [s.1,h1]; rfl
  have B:a=0:=s.2.2.1;subst h1 h2 B;simp [Builtin.append_,an,aE w,bR hi,cJ hi,Builtin.lenOf,Builtin.firstCells];exact ⟨_,_,_,rfl,hk none 0 h (SL.nil _ _ _ _) (Ch.refl _ _) (.inl rfl)⟩
 | some d =>
  have r:aI h d 0 f.flatten:=by
   obtain ⟨g,C,rest,rfl,D,E,m,J⟩:=s.2.2;refine m.cells _ ?_;rw [bh9,bp9]
  have:=je (P:=P) (h:=h) (K:=fun v h'=>∃ V U a,v=.slice V U a/\Z V U a Y K h') (ty:=I) (ys:=f) w hi A n (SL.nil h b' e i.size) s.1 s.2.1 r o (by simpa using q) (by simpa using hl) y (cc:=a) ?_
  ·exact this
  ·intro p' c' h2 x F u;rw [ZH] at x ⊢;exact ⟨p',U,c',rfl,hk p' c' h2 x F u⟩
def mF {K:Xab->Hp->Prop} {parts:Array (Nat × Xab)} {z:Xab} {sz:Nat} (c:P.underlying H=some (.slice I)) (a:(P.info? I).map (fun i=>(i.zero,i.size,i.bytes))=some (some z,sz,U))
  (hn:O*sz≠0) (d:O*sz<=2^24) {cells:List Xab} (f:Instr.fill (fun j=>some (j*sz,sz)) ((Array.range (O*sz)).map (z.cells[· % z.cells.size]!)) parts.toList=some cells.toArray)
  (hk:∀ h',bF h' h.size I cells->Ext h h'->h'.size=h.size+1->Z (some ⟨h.size,0,none⟩) O O Y K h'):T.eN P (Instr.buildSlice H O parts) false [(false,[.slice 0])] Z Y K h:=by
 obtain ⟨i,hi,g,rfl,rfl⟩:=jV a;exact df (kj c hi g hn d f fun h' b I z=>⟨_,_,_,rfl,hk h' b I z⟩)
def kg {K:Xab->Hp->Prop} {e:TypeId} {z:Xab} {sz by':Nat} (y:P.underlying H=some (.slice e)) (f:(P.info? e).map (fun i=>(i.zero,i.size,i.bytes))=some (some z,sz,by'))
  (o:z.cells.size=sz) (C:sz≠0) (D:sz<=4096) {v:Xab} {vs:List Xab} (E:Instr.fill (fun j=>some (j*sz,sz)) ((Array.range (1*sz)).map (z.cells[· % z.cells.size]!)) [(0,v)]=some vs.toArray) (r:vs.length=sz) (u:vs.all da=true)
  {b:Nat} {xs:List (List Xab)} (s:SL h b e sz V O U xs) (X:b<=h.size) (w:(2*(O+1)+1024)*by'<=2^48) (hl:O+1<=2^48)
  (hk:∀ p' c' h',SL h' b e sz p' (O+1) c' (xs++[vs])->Ch (aF V) h h'->(p'=V\/∃ a,p'=some a/\h.size<=a.block)->Z p' (O+1) c' Y K h') :
  T.eN P (Instr.buildSlice H 1 #[(0,v)]) false [(false,[.slice 0])] (fun q m F=>T.eN P (Builtin.append_ #[H,H] I #[.slice V O U,.slice q m F]) false [(false,[.slice 0])] Z) Y K h:=by
 obtain ⟨i,hi,A,rfl,rfl⟩:=jV f;refine df (kj y hi A ad ad E ?_);intro h1 b1 B z1;refine ⟨_,_,_,rfl,df ?_⟩;have G:SL h1 b e i.size V O U xs:=s.ai B aj;have J:∀ a,V=some a->a.block<h.size:=by
  intro a x;subst x;obtain ⟨g,M,rest,rfl,N,Q,n,hr⟩:=s.2.2;exact n.lt
 refine je (ys:=[vs]) y hi A o G rfl (by simpa using r) (b1.cells _ aj) (by simpa using u) (by simpa using w) (by simpa using hl) (by rw [z1]; omega) ?_;intro p' c' h2 R S d;refine ⟨p',O+1,c',rfl,hk p' c' h2 R (Ch.trans (B.mono aj) S (fun i hi _=>hi)) ?_⟩;rcases d with d | ⟨a,x,W⟩
 ·exact .inl d
 ·exact .inr ⟨a,x,ad⟩
end append
end Go.Sx
