/- Part of the framework. No condition. -/
import Derived.Test.YtlpcncdglfjnoaaGreatDoorSxL
set_option linter.all false
set_option maxHeartbeats 4000000
namespace Go.Sx
structure Ch (ws:List Nat) (h h':Hp):Prop where
 size:h.size<=h'.size
 same:∀ i,i<h.size->i∉ws->h'[i]?=h[i]?
abbrev Ext (h h':Hp):Prop:=Ch [] h h'
def Ch.refl (ws:List Nat) (h:Hp):Ch ws h h:=⟨VL _,fun _ _ _=>rfl⟩
def Ch.trans {ws d:List Nat} {a b c:Hp} (h:Ch ws a b) (k:Ch d b c) (hv:∀ i,i∈d->i<a.size->i∈ws):Ch ws a c :=
 ⟨Wi h.size k.size,fun i hi e=>(k.same i (Nat.lt_of_lt_of_le hi h.size) fun f=>e (hv i f hi)).trans (h.same i hi e)⟩
variable {Z:List Nat} {H:Hp}
def Ch.mono {ws:List Nat} {b:Hp} (h:Ch ws H b) (hv:∀ i,i∈ws->i<H.size->i∈Z):Ch Z H b:=⟨h.size,fun i hi c=>h.same i hi fun d=>c (hv i d hi)⟩
def Ext.trans {a b c:Hp} (h:Ext a b) (k:Ext b c):Ext a c:=Ch.trans h k ah
def bZ {ws:List Nat} {b c:Hp} (h:Ch ws H b) (k:Ch Z b c) (hv:∀ i,i∈Z->i<H.size->i∈ws:=by intro i hi hl; simp at hi; omega):Ch ws H c:=Ch.trans h k hv
def Ext.push (h:Hp) (o:Obj):Ext h (h.push o):=⟨ah,fun i hi _=>by rw [Array.getElem?_push,Vu ad]⟩
variable {I V Y:Nat}
def fq {o:Obj} (a:H[I]?=some o):I<H.size:=by
 rcases Wo I H.size with hl | hl
 ·exact hl
 ·rw [Wp hl] at a; cases a
def Ch.get {ws:List Nat} {h':Hp} (k:Ch ws H h') {o:Obj} (a:H[I]?=some o) (b:I∉ws):h'[I]?=some o:=(k.same I (fq a) b).trans a
def bm (h:Hp) (g:Nat) (e:TypeId) (xs:List XB):Prop:=h[g]?=some (.cells xs.toArray e (0,0))
variable {O:TypeId}
def bm.lt {xs:List XB} (b:bm H I O xs):I<H.size:=fq b
def bm.af {ws:List Nat} {h':Hp} {xs:List XB} (b:bm H I O xs) (k:Ch ws H h') (a:I∉ws):bm h' I O xs:=k.get b a
def bm.new (h:Hp) (e:TypeId) (xs:List XB):bm (h.push (.cells xs.toArray e (0,0))) h.size e xs:=by
 unfold bm; rw [Array.getElem?_push_size]
def qg {off:Nat} {c:Array XB} {f:Nat × Nat} (a:H[I]?=some (.cells c O f)):jr H ⟨I,off,none⟩=c[off]?:=by
 unfold jr; simp only [a]; rfl
def bm.cell {off:Nat} {xs:List XB} (b:bm H I O xs):jr H ⟨I,off,none⟩=xs[off]?:=by
 rw [qg b]; simp
def bm.frozen {off:Nat} {xs:List XB} (b:bm H I O xs):uM H ⟨I,off,none⟩=false:=by
 unfold uM; unfold bm at b; simp only [b]; simp
def ax (g off i:Nat):(⟨g,off,none⟩:YA).add i=⟨g,off+i,none⟩:=by
 unfold Addr.add;split
 ·subst_vars; rfl
 ·rfl
def qZ (a:YA) (i:Nat):(a.add i).block=a.block:=by
 unfold Addr.add;split <;> rfl
variable {b:YA}
def FY {ws:List Nat} {h':Hp} {v:XB} (hc:jr H b=some v) (k:Ch ws H h') (d:b.block∉ws):jr h' b=some v:=by
 unfold jr at hc ⊢;split at hc
 ·rename_i c e f g;rw [k.get g d]; exact hc
 ·cases hc
theorem bh {ws:List Nat} {h h':Hp} {a:YA} (k:Ch ws h h') (c:a.block∉ws):∀ (b:List XB) (i:Nat),aE h a i b->aE h' a i b
 | [],_,_=>trivial
 | v::b,i,hc=>⟨FY hc.1 k (by rw [qZ]; exact c),bh k c b (i+1) hc.2⟩
theorem bm.cells_from {h:Hp} {g off:Nat} {e:TypeId} {xs:List XB} (b:bm h g e xs):∀ (a:List XB) (i:Nat),(∀ j,j<a.length->xs[off+(i+j)]?=a[j]?)->aE h ⟨g,off,none⟩ i a
 | [],_,_=>trivial
 | v::a,i,hv=>by
  refine ⟨?_,b.cells_from a (i+1) fun j c=>?_⟩
  ·rw [ax,b.cell];exact hv 0 ah
  ·have:=hv (j+1) (by simpa using c)
   rw [Xe] at this;rw [<- this]; congr 1; omega
def bm.cells {off:Nat} {xs:List XB} (b:bm H I O xs) (vs:List XB) (hv:(xs.drop off).take vs.length=vs):aE H ⟨I,off,none⟩ 0 vs:=by
 refine b.cells_from vs 0 fun j a=>?_
 have:((xs.drop off).take vs.length)[j]?=vs[j]?:=by rw [hv]
 rw [W3,VE a,WW] at this;rw [<- this]; congr 1; omega
def gW (xs:List XB):Nat->List XB->List XB
 | _,[]=>xs
 | i,v::a=>gW (xs.set i v) (i+1) a
theorem lY:∀ (a xs:List XB) (i:Nat),(gW xs i a).length=xs.length
 | [],_,_=>rfl
 | v::a,xs,i=>by simp [gW,lY a]
theorem oR:∀ (a xs:List XB) (i:Nat),i+a.length<=xs.length->gW xs i a=xs.take i++a++xs.drop (i+a.length)
 | [],xs,i,_=>by simp [gW]
 | v::a,xs,i,h=>by
  simp only [List.length_cons] at h;rw [gW,oR a (xs.set i v) (i+1) (by rw [WJ]; omega)];rw [List.take_set,List.drop_set_of_lt (show i<i+1+a.length from ad)];have b:(xs.take (i+1)).set i v=xs.take i++[v]:=by
   rw [Vt ad,WU _ _ (by simp; omega)];simp [Nat.min_eq_left (by omega:i<=xs.length)]
  rw [b];simp only [List.append_assoc,List.cons_append,List.nil_append,List.length_cons];rw [show i+1+a.length=i+(a.length+1) from ad]
def Nv {off:Nat} {xs:List XB} (b:bm H I O xs) (v:XB):bm (iC H ⟨I,off,none⟩ v) I O (xs.set off v)/\Ch [I] H (iC H ⟨I,off,none⟩ v)/\(iC H ⟨I,off,none⟩ v).size=H.size:=by
 unfold iC;refine ⟨?_,⟨ah,fun i hi a=>?_⟩,ah⟩
 ·unfold bm at b ⊢;rw [Array.getElem?_modify,VE rfl,b]
  simp
 ·rw [Array.getElem?_modify,Vu (by simp at a; exact fun O=>a O.symm)]
theorem kO {g off:Nat} {e:TypeId}:∀ (a:List XB) (h:Hp) (i:Nat) (xs:List XB),bm h g e xs->a.all cO=true->off+i+a.length<=xs.length ->
  xO h ⟨g,off,none⟩ i a/\bm (qW h ⟨g,off,none⟩ i a) g e (gW xs (off+i) a)/\Ch [g] h (qW h ⟨g,off,none⟩ i a)/\(qW h ⟨g,off,none⟩ i a).size=h.size
 | [],h,i,xs,b,_,_=>⟨trivial,b,Ch.refl _ _,rfl⟩
 | v::a,h,i,xs,b,c,hl=>by
  simp only [List.all_cons,Bool.and_eq_true,List.length_cons] at c hl;obtain ⟨b1,c1,z1⟩:=Nv (off:=off+i) b v;obtain ⟨d,f,j,k⟩:=kO (off:=off) a (iC h ⟨g,off+i,none⟩ v) (i+1) (xs.set (off+i) v) b1 c.2 (by rw [WJ]; omega);unfold xO qW;rw [ax];refine ⟨⟨c.1,⟨xs[off+i]'ad,?_⟩,b.frozen,d⟩,f,c1.trans j ah,k.trans z1⟩;rw [b.cell,VC]
section rules
variable {P:Program} {L:Lp} {K:XB->Hp->Prop} {h:Hp}
variable {H:Nat} {I:TypeId} {O:T}
def cr {off:Nat} {xs a:List XB} (b:bm h H I xs) (c:a.all cO=true) (hl:off+a.length<=xs.length)
  (hk:∀ h',bm h' H I (gW xs off a)->Ch [H] h h'->h'.size=h.size->O L K h'):T.ao ⟨H,off,none⟩ a O L K h:=by
 obtain ⟨d,f,i,j⟩:=kO (off:=off) a h 0 xs b c hl;exact ⟨d,hk _ f i j⟩
variable {U:List TypeDesc}
def bj {off:Nat} {xs:List XB} {k:C4 U T} (b:bm h H I xs) (x:qK U) (hv:(xs.drop off).take (dS U x).length=dS U x) (hk:C5 _ k x L K h) :
  T.ae ⟨H,off,none⟩ U k L K h:=aC x (b.cells _ hv) hk
def av {off:Nat} {xs:List XB} {k:C4 U T} (b:bm h H I xs) (x:qK U) (hk:C5 _ k x L K h) (hv:(xs.drop off).take (dS U x).length=dS U x:=by first | rfl):T.ae ⟨H,off,none⟩ U k L K h:=bj b x hv hk
def bT {off:Nat} {xs a:List XB} (b:bm h H I xs) (hk:∀ h',bm h' H I (gW xs off a)->Ch [H] h h'->h'.size=h.size->O L K h') (c:a.all cO=true:=by first | rfl) (hl:off+a.length<=xs.length:=by first | simp):T.ao ⟨H,off,none⟩ a O L K h:=cr b c hl hk
def oa {cs:List ef} {first:T} {after:C4 (flat cs) T} (J:qK (flat cs)->Hp->Prop) (a:first (L++[fun b h'=>∃ y,b=parts cs (dS _ y)/\J y h']) K h) (c:∀ y h',J y h'->C5 _ after y L K h'):T.join cs first after L K h:=⟨J,a,c⟩
def gX {a:List XB} {cs:List ef} {J:qK (flat cs)->Hp->Prop} (y:qK (flat cs)) (b:L[H]?=some (fun a h'=>∃ y,a=parts cs (dS _ y)/\J y h')) (c:a=parts cs (dS _ y)) (d:J y h):T.again H a L K h:=by
 unfold T.again;rw [b];exact ⟨y,c,d⟩
def br {cells:List XB} {k:YA->T} (hk:∀ h',bm h' h.size I cells->Ext h h'->h'.size=h.size+1->k ⟨h.size,0,none⟩ L K h'):T.new cells I k L K h :=
 hk _ (bm.new h I cells) (Ext.push h _) ah
def dc {s:Sem XB} {k:XC->Nat->Nat->T} (a:aI P s h fun v h'=>∃ p l c,v=.slice p l c/\k p l c L K h'):T.eK P s false [(false,[.slice 0])] k L K h :=
 dH s _ _ _ (fun v h' ⟨p,l,c,hv,hk⟩=>⟨((p,l,c),()),hv,hk⟩) a
def qv {s:Sem XB} {b:Bool} {k:Bool->T} (c:∀ a:XB->Hp->Prop,a (.bool b) h->aI P s h a) (hk:k b L K h):T.eK P s false [(false,[.bool])] k L K h :=
 c _ ⟨(b,()),rfl,hk⟩
end rules
variable {a:Program}
def kq {z:XB} {b:Nat} (h:(a.info? O).map (fun i=>(i.zero,i.size,i.bytes))=some (some z,I,b)):∃ i,a.info? O=some i/\i.zero=some z/\i.size=I/\i.bytes=b:=by
 cases hi:a.info? O with
 | none=>rw [hi] at h; cases h
 | some i =>
  rw [hi] at h;simp only [Option.map_some,Option.some.injEq,Prod.mk.injEq] at h;exact ⟨i,rfl,h.1,h.2.1,h.2.2⟩
variable {c:T}
def aZ {f:FuncId} {fn:Func} {args:List XB} {R:XB->Hp->Prop} (b:a.follows .mixedOrders=true) (d:a.funcs[f]?=some fn) (hl:Nat.ble args.length fn.ntmps=true)
  (e:bQ a Z fn args=c) (g:c [] R H):HC a f args.toArray H R:=Qh b d hl (by rw [e]; exact g)
def SL (h:Hp) (b:Nat) (e:TypeId) (sz:Nat) (p:XC) (l c:Nat) (xs:List (List XB)):Prop :=
 l=xs.length/\(∀ x,x∈xs->x.length=sz) /\
 match p with
 | none=>c=0/\xs=[]
 | some a=>∃ g d rest,a=⟨g,d.length,none⟩/\b<=g/\(l<=c/\c<9223372036854775808)/\bm h g e (d++(xs.flatten++rest))/\rest.length=(c-l)*sz
def aG (p:XC):List Nat :=
 match p with
 | none=>[]
 | some a=>[a.block]
def SL.nil (h:Hp) (b:Nat) (e:TypeId) (sz:Nat):SL h b e sz none 0 0 []:=⟨rfl,ah,rfl,rfl⟩
def SL.af {ws:List Nat} {h h':Hp} {b:Nat} {e:TypeId} {sz:Nat} {p:XC} {l c:Nat} {xs:List (List XB)} (s:SL h b e sz p l c xs) (k:Ch ws h h') (m:∀ a,p=some a->a.block∉ws):SL h' b e sz p l c xs:=by
 refine ⟨s.1,s.2.1,?_⟩;cases p with
 | none=>exact s.2.2
 | some a =>
  obtain ⟨g,f,rest,j,n,i,d,o⟩:=s.2.2;exact ⟨g,f,rest,j,n,i,d.af k (by have:=m a rfl; rw [j] at this; exact this),o⟩
variable {U:XC}
def SL.mono {b' sz:Nat} {xs:List (List XB)} (s:SL H I O sz U V Y xs) (f:b'<=I):SL H b' O sz U V Y xs:=by
 refine ⟨s.1,s.2.1,?_⟩;cases U with
 | none=>exact s.2.2
 | some a =>
  obtain ⟨g,i,rest,k,m,j,d,n⟩:=s.2.2;exact ⟨g,i,rest,k,Wi f m,j,d,n⟩
theorem dY {sz:Nat}:∀ (xs:List (List XB)),(∀ x,x∈xs->x.length=sz)->xs.flatten.length=xs.length*sz
 | [],_=>ah
 | x::xs,h=>by
  rw [Xm,Vs,h x ah,dY xs (fun y a=>h y (by simp [a])),Wc,Wx];omega
theorem mz {sz:Nat}:∀ (xs:List (List XB)) (i:Nat) (rest:List XB),(∀ x,x∈xs->x.length=sz)->(hi:i<xs.length)->((xs.flatten++rest).drop (i*sz)).take sz=xs[i]
 | [],i,_,_,hi=>by simp at hi
 | x::xs,0,rest,h,_=>by
  have a:x.length=sz:=h x ah;simp [<- a]
 | x::xs,i+1,rest,h,hi=>by
  have a:x.length=sz:=h x ah
  have:(i+1)*sz=x.length+i*sz:=by rw [Wx,a]; omega
  rw [this,Xm,VW,<- List.drop_drop,Xf];simpa using mz xs i rest (fun y b=>h y (by simp [b])) (by simpa using hi)
def SL.cu {sz:Nat} {xs:List (List XB)} (s:SL H I O sz U V Y xs) {i:Nat} (hi:i∈aG U):I<=i/\i<H.size:=by
 cases U with
 | none=>simp [aG] at hi
 | some a =>
  obtain ⟨g,j,rest,rfl,f,k,d,m⟩:=s.2.2;simp [aG] at hi;subst hi;exact ⟨f,d.lt⟩
def SL.bH {ws:List Nat} {h':Hp} {sz:Nat} {xs:List (List XB)} (s:SL H I O sz U V Y xs) (k:Ch ws H h') (d:∀ i,i∈aG U->i∉ws):SL h' I O sz U V Y xs :=
 s.af k fun a f=>d _ (by rw [f]; simp [aG])
def SL.cells {h:Hp} {b:Nat} {e:TypeId} {sz:Nat} {p:XC} {l c:Nat} {xs:List (List XB)} (s:SL h b e sz p l c xs) {i:Nat} (hi:i<xs.length) :
  ∃ a,p=some a/\aE h (a.add (i*sz)) 0 xs[i]:=by
 cases p with
 | none=>have:=s.2.2.2; subst this; simp at hi
 | some a =>
  obtain ⟨g,f,rest,rfl,k,j,d,m⟩:=s.2.2;refine ⟨_,rfl,?_⟩;rw [ax];refine d.cells _ ?_;rw [s.2.1 _ (VA hi),<- List.drop_drop,Xf];exact mz xs i rest s.2.1 hi
def pR {A X B vs:List XB} (h:X.length=vs.length):gW (A++(X++B)) A.length vs=A++(vs++B):=by
 rw [oR _ _ _ (by simp; omega),Xx,VW,<- List.drop_drop,Xf,<- h,Xf]
def SL.store {P:Program} {L:Lp} {K:XB->Hp->Prop} {h:Hp} {sz:Nat} {xs:List (List XB)} (s:SL h I O sz U V Y xs) {i:Nat} (hi:i<xs.length) {vs:List XB} (hv:vs.length=sz)
  (t:vs.all cO=true) (u:U=some b) (hk:∀ h',SL h' I O sz U V Y (xs.set i vs)->Ch (aG U) h h'->h'.size=h.size->c L K h'):T.ao (b.add (i*sz)) vs c L K h:=by
 subst u;obtain ⟨g,d,rest,rfl,o,q,f,w⟩:=s.2.2;have j:(xs.take i).flatten.length=i*sz:=by
  rw [dY _ (fun x j=>s.2.1 x (WO j)),VQ,WD ad]
 have y:d++(xs.flatten++rest)=(d++(xs.take i).flatten)++(xs[i]++((xs.drop (i+1)).flatten++rest)):=by
  have e0:xs.flatten=(xs.take i).flatten++(xs[i]++(xs.drop (i+1)).flatten):=by
   conv=>lhs; rw [<- We i xs,VU hi]
   rw [List.flatten_append,Xm]
  rw [e0];simp only [List.append_assoc]
 have z:(xs.set i vs).flatten=(xs.take i).flatten++(vs++(xs.drop (i+1)).flatten):=by
  rw [List.set_eq_take_append_cons_drop,VE hi]
  simp
 have r:xs[i].length=vs.length:=by rw [hv]; exact s.2.1 _ (VA hi)
 rw [y] at f;rw [ax];have m:(d++(xs.take i).flatten).length=d.length+i*sz:=by rw [Vs,j]
 rw [<- m];refine cr f t (by simp; omega) ?_;intro h' n k' A;rw [pR r] at n;refine hk h' ⟨by rw [WJ]; exact s.1,fun x j=>?_,g,d,rest,rfl,o,q,?_,w⟩ (by simpa [aG] using k') A
 ·rcases List.mem_or_eq_of_mem_set j with j | rfl
  ·exact s.2.1 x j
  ·exact hv
 ·rw [z];simpa [List.append_assoc] using n
def np {α β:Type} (f:α->β) (s:Sem α) (h:Hp) (K:β->Hp->Prop):aI a (f <$> s) h K=aI a s h fun b h'=>K (f b) h':=by
 have:f <$> s=s >>= fun b=>pure (f b):=by rw [<- bind_pure_comp]
 rw [this,al]; rfl
section append
variable {P:Program} {h:Hp} {K:XB->Hp->Prop}
variable {H I:TypeId} {O U Y:Nat} {b:TypeInfo}
def jo {parts:Array (Nat × XB)} {z:XB} {cells:Array XB} (c:P.underlying H=some (.slice I)) (hi:P.info? I=some b) (f:b.zero=some z)
  (hn:O*b.size≠0) (k:O*b.size<=2^24)
  (g:Instr.fill (fun j=>some (j*b.size,b.size)) ((Array.range (O*b.size)).map (z.cells[· % z.cells.size]!)) parts.toList=some cells)
  (hk:∀ h',bm h' h.size I cells.toList->Ext h h'->h'.size=h.size+1->K (.slice (some ⟨h.size,0,none⟩) O O) h'):aI P (Instr.buildSlice H O parts) h K:=by
 unfold Instr.buildSlice;rw [al,au c];simp only;rw [al,bF hi,cH hi];rw [Vu ad,Vu hn];rw [al,dp (z:=z) (by rw [hi]; exact f)];show aI P (match Instr.fill (fun j=>some (j*b.size,b.size)) ((Array.range (O*b.size)).map (z.cells[· % z.cells.size]!)) parts.toList with
  | some cells=>do
   let d <- newRow I cells
   pure (Value.slice (some d) O O)
  | _ => stuck "buildSlice: a part of the wrong size") h K
 rw [g];refine hk _ ?_ (Ext.push h _) ah;exact bm.new h I cells.toList
def IG (need:Nat):∀ (n c:Nat),c<=2*need+1024->0<n->Builtin.growBy need n c<=2*need+1024:=by
 intro n
 induction n with
 | zero=>intro c h h0; omega
 | succ n a =>
  intro c h _;unfold Builtin.growBy;split
  ·exact h
  ·rename_i b;cases n with
   | zero=>unfold Builtin.growBy; omega
   | succ n=>exact a _ ad ad
def Ab {need old:Nat} (h:old<need):Builtin.nextslicecap need old<=2*need+1024:=by
 unfold Builtin.nextslicecap;split
 ·omega
 ·split
  ·omega
  ·exact IG need 4 old ad ad
def pW (z:Array XB) (n:Nat):(Builtin.zeroCells z n).size=n*z.size:=by
 unfold Builtin.zeroCells; simp
def HG (need old:Nat) (e:TypeId) (t:Nat):need<=(Question.appendCap need old e).cut t/\(need<9223372036854775808->(Question.appendCap need old e).cut t<9223372036854775808):=by
 show need<=need+t % (2^63-need)/\(need<9223372036854775808->need+t % (2^63-need)<9223372036854775808);refine ⟨ad,fun h=>?_⟩
 have:=Nat.mod_lt t (show 0<2^63-need from ad)
 omega
variable {V:XC}
def jh {ty:TypeId} {z:XB} (R:P.underlying H=some (.slice I)) (hi:P.info? I=some b) (X:b.zero=some z) (L:z.cells.size=b.size)
  {xs ys:List (List XB)} (s:SL h O I b.size V U Y xs) {a:YA} {m cc:Nat} (S:m=ys.length) (A:∀ y,y∈ys->y.length=b.size)
  (hc:aE h a 0 ys.flatten) (Z:ys.flatten.all cO=true) (hby:(2*(U+m)+1024)*b.bytes<=2^48) (hl:U+m<=2^48) (hb:O<=h.size)
  (hk:∀ p' c' h',SL h' O I b.size p' (U+m) c' (xs++ys)->Ch (aG V) h h'->(p'=V\/∃ a,p'=some a/\h.size<=a.block)->K (.slice p' (U+m) c') h') :
  aI P (Builtin.append_ #[H,H] ty #[.slice V U Y,.slice (some a) m cc]) h K:=by
 have f:ys.flatten.length=m*b.size:=by rw [dY ys A,S]
 have o:xs.flatten.length=U*b.size:=by rw [dY xs s.2.1,s.1]
 have r:∀ x,x∈xs++ys->x.length=b.size:=fun x hx=>(VG.1 hx).elim (s.2.1 x) (A x)
 have u:U+m=(xs++ys).length:=by rw [Vs,<- s.1,S]
 have M:(P.info? I).bind (·.zero)=some z:=by rw [hi]; exact X
 by_cases d:U+m<=Y
 ·simp [Builtin.append_,al,au R,bF hi,cH hi,Builtin.lenOf,Builtin.firstCells,d];refine dZ f hc _ ?_;cases V with
  | none =>
   have h1:Y=0:=s.2.2.1;have h2:ys=[]:=Wk ad;subst h2;rw [Wr] at hk;have N:m=0:=ad
   subst N;exact hk none Y h s (Ch.refl _ _) (.inl rfl)
  | some a1 =>
   obtain ⟨g,j,rest,rfl,B,C,k,Q⟩:=s.2.2;have D:(xs.flatten++rest).length=Y*b.size:=by
    rw [Vs,o,Q,<- Wx]; congr 1; omega
   have hle:U*b.size+m*b.size<=Y*b.size:=by rw [<- Wx]; exact Wq _ d
   simp only;rw [ax,np];obtain ⟨k1,E,k3,k4⟩:=kO (off:=j.length+U*b.size) ys.flatten h 0 _ k Z (by rw [Vs,D,f]; omega);refine fk _ _ _ _ _ k1 ?_;refine hk _ Y _ ⟨u,r,g,j,rest.drop (m*b.size),rfl,B,⟨d,C.2⟩,?_,?_⟩ k3 (.inl rfl)
   ·rw [oR _ _ _ (by rw [Vs,D,f]; omega),Xy,<- o,<- VW,<- Vs,Xx,List.drop_append,f] at E;rw [Xh ad,WM,show (j++xs.flatten).length+m*b.size-(j++xs.flatten).length=m*b.size from ad] at E;rw [List.flatten_append];rw [Vs,o] at E;simp only [List.append_assoc] at E ⊢;exact E
   ·rw [V6,Q,<- Nat.sub_mul]; congr 1; omega
 ·have F:¬ 281474976710656<Builtin.nextslicecap (U+m) Y*b.bytes:=by
   have h1:=Ab (need:=U+m) (old:=Y) ad;have h2:=Wq b.bytes h1;have N:(2:Nat)^48=281474976710656:=rfl;omega
  have G:¬ (9223372036854775807<(U:Int)+(m:Int)/\b.bytes=0):=by
   have N:(2:Nat)^48=281474976710656:=rfl;omega
  simp [Builtin.append_,al,au R,bF hi,cH hi,Builtin.lenOf,Builtin.firstCells,d,gf hi,dp M,askRoom,G,F];intro W;have hge:=HG (U+m) Y I W;generalize (Question.appendCap (U+m) Y I).cut W=w at hge;show aI P (if roomBytes<w*b.bytes then mark Mark.noRoom else pure ()) h _;have q:∀ K':Unit->Hp->Prop,K' () h->aI P (if roomBytes<w*b.bytes then mark Mark.noRoom else pure ()) h K':=by
   intro K' n;split
   ·exact n
   ·exact n
  refine q _ ?_
  have J:∀ K':Array XB->Hp->Prop,K' xs.flatten.toArray h->aI P (match Value.slice V U Y with
    | Value.slice (some a) len cap=>loadCells a (U*b.size)
    | Value.slice none len cap=>pure #[]
    | Value.string s=>pure ((Array.map (fun O=>Value.int IntKind.u8 ↑O.toNat) s.data).extract 0 U)
    | x => stuck "slice or string expected") h K' := by
   intro K' n;cases V with
   | none =>
    have:xs=[]:=s.2.2.2
    subst this;exact n
   | some a1 =>
    obtain ⟨g,j,rest,rfl,B,C,k,Q⟩:=s.2.2;refine dZ o (k.cells _ ?_) _ n;rw [Xf,Xx]
  refine J _ ?_;refine dZ f hc _ ?_;rw [np];refine hk (some ⟨h.size,0,none⟩) w _ ⟨u,r,h.size,[],(Builtin.zeroCells z.cells (w-(U+m))).toList,rfl,hb,⟨hge.1,hge.2 ad⟩,?_,?_⟩ ((Ext.push h _).mono ah) (.inr ⟨_,rfl,VL _⟩)
  ·have e1:xs.flatten.toArray++(ys.flatten.toArray++Builtin.zeroCells z.cells (w-(U+m)))=((xs++ys).flatten++(Builtin.zeroCells z.cells (w-(U+m))).toList).toArray:=by
    apply Wf.1; simp
   rw [e1];exact bm.new h I _
  ·rw [Wy,pW,L]
variable {Z:Lp} {a:XC->Nat->Nat->T}
def re {K:XB->Hp->Prop} {e:TypeId} {z:XB} {sz by':Nat} {st:List (YA × List XB)} (y:P.underlying H=some (.slice e)) (g:(P.info? e).map (fun i=>(i.zero,i.size,i.bytes))=some (some z,sz,by'))
  (n:z.cells.size=sz) (B:sz≠0) (C:sz<=4096) {v:XB} {vs:List XB} (D:Instr.fill (fun j=>some (j*sz,sz)) ((Array.range (1*sz)).map (z.cells[· % z.cells.size]!)) [(0,v)]=some vs.toArray) (o:vs.length=sz) (r:vs.all cO=true)
  {xs:List (List XB)} (s:SL h O e sz V U Y xs) (Q:O<=h.size) (u:(2*(U+1)+1024)*by'<=2^48) (hl:U+1<=2^48) (w:∀ h',Ext h h'->T.EK h' st)
  (hk:∀ p' c' h',SL h' O e sz p' (U+1) c' (xs++[vs])->Ch (aG V) h h'->(p'=V\/∃ d,p'=some d/\h.size<=d.block)->a p' (U+1) c' Z K h') :
  T.eK P (Instr.buildSlice H 1 #[(0,v)]) false [(false,[.slice 0])] (fun q m E=>T.az st (T.eK P (Builtin.append_ #[H,H] I #[.slice V U Y,.slice q m E]) false [(false,[.slice 0])] a)) Z K h:=by
 obtain ⟨i,hi,A,rfl,rfl⟩:=kq g;refine dc (jo y hi A ad ad D ?_);intro h1 b1 x z1;refine ⟨_,_,_,rfl,w _ x,dc ?_⟩;have F:SL h1 O e i.size V U Y xs:=s.af x ah;refine jh (ys:=[vs]) y hi A n F rfl (by simpa using o) (b1.cells _ ah) (by simpa using r) (by simpa using u) (by simpa using hl) (by rw [z1]; omega) ?_;intro p' c' h2 G J f;refine ⟨p',U+1,c',rfl,hk p' c' h2 G (Ch.trans (x.mono ah) J (fun i hi _=>hi)) ?_⟩;rcases f with f | ⟨d,M,N⟩
 ·exact .inl f
 ·exact .inr ⟨d,M,ad⟩
def sW {K:XB->Hp->Prop} {parts:Array (Nat × XB)} {z:XB} {sz:Nat} (d:P.underlying H=some (.slice I)) (c:(P.info? I).map (fun i=>(i.zero,i.size,i.bytes))=some (some z,sz,U))
  (hn:O*sz≠0) (f:O*sz<=2^24) {cells:List XB} (g:Instr.fill (fun j=>some (j*sz,sz)) ((Array.range (O*sz)).map (z.cells[· % z.cells.size]!)) parts.toList=some cells.toArray)
  (hk:∀ h',bm h' h.size I cells->Ext h h'->h'.size=h.size+1->a (some ⟨h.size,0,none⟩) O O Z K h'):T.eK P (Instr.buildSlice H O parts) false [(false,[.slice 0])] a Z K h:=by
 obtain ⟨i,hi,l,rfl,rfl⟩:=kq c;exact dc (jo d hi l hn f g fun h' b I z=>⟨_,_,_,rfl,hk h' b I z⟩)
def lO {K:XB->Hp->Prop} {e:TypeId} {z:XB} {sz:Nat} (A:P.underlying H=some (.slice e)) (n:(P.info? e).map (fun i=>(i.zero,i.size,i.bytes))=some (some z,sz,O))
  (r:z.cells.size=sz) (D:sz≠0) (E:sz<=4096) {v:XB} {vs:List XB} (F:Instr.fill (fun j=>some (j*sz,sz)) ((Array.range (1*sz)).map (z.cells[· % z.cells.size]!)) [(0,v)]=some vs.toArray) (u:vs.length=sz) (w:vs.all cO=true)
  {b:Nat} {xs:List (List XB)} (s:SL h b e sz V U Y xs) (hb:b<=h.size) (x:(2*(U+1)+1024)*O<=2^48) (hl:U+1<=2^48)
  (hk:∀ p' c' h',SL h' b e sz p' (U+1) c' (xs++[vs])->Ch (aG V) h h'->(p'=V\/∃ d,p'=some d/\h.size<=d.block)->a p' (U+1) c' Z K h') :
  T.eK P (Instr.buildSlice H 1 #[(0,v)]) false [(false,[.slice 0])] (fun q m G=>T.eK P (Builtin.append_ #[H,H] I #[.slice V U Y,.slice q m G]) false [(false,[.slice 0])] a) Z K h:=by
 obtain ⟨i,hi,B,rfl,rfl⟩:=kq n;refine dc (jo A hi B ad ad F ?_);intro h1 b1 C z1;refine ⟨_,_,_,rfl,dc ?_⟩;have J:SL h1 b e i.size V U Y xs:=s.af C ah;have M:∀ d,V=some d->d.block<h.size:=by
  intro d y;subst y;obtain ⟨g,N,rest,rfl,Q,R,o,hr⟩:=s.2.2;exact o.lt
 refine jh (ys:=[vs]) A hi B r J rfl (by simpa using u) (b1.cells _ ah) (by simpa using w) (by simpa using x) (by simpa using hl) (by rw [z1]; omega) ?_;intro p' c' h2 S W f;refine ⟨p',U+1,c',rfl,hk p' c' h2 S (Ch.trans (C.mono ah) W (fun i hi _=>hi)) ?_⟩;rcases f with f | ⟨d,y,X⟩
 ·exact .inl f
 ·exact .inr ⟨d,y,ad⟩
end append
end Go.Sx
