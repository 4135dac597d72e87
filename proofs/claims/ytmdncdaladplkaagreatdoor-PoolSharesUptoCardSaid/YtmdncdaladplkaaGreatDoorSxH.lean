/- Part of the framework. No condition. -/
import Derived.Test.YtmdncdaladplkaaGreatDoorSxL
set_option linter.all false
set_option maxHeartbeats 4000000
namespace Go.Sx
structure Ch (ws:List Nat) (h h':Hp):Prop where
 size:h.size<=h'.size
 same:∀ i,i<h.size->i∉ws->h'[i]?=h[i]?
abbrev Ext (h h':Hp):Prop:=Ch [] h h'
def Ch.refl (ws:List Nat) (h:Hp):Ch ws h h:=⟨aq9 _,fun _ _ _=>rfl⟩
def Ch.trans {ws d:List Nat} {a b c:Hp} (h:Ch ws a b) (k:Ch d b c) (hv:∀ i,i∈d->i<a.size->i∈ws):Ch ws a c :=
 ⟨cq9 h.size k.size,fun i hi e=>(k.same i (Nat.lt_of_lt_of_le hi h.size) fun f=>e (hv i f hi)).trans (h.same i hi e)⟩
variable {a:List Nat} {H:Hp}
def Ch.mono {ws:List Nat} {b:Hp} (h:Ch ws H b) (hv:∀ i,i∈ws->i<H.size->i∈a):Ch a H b:=⟨h.size,fun i hi c=>h.same i hi fun d=>c (hv i d hi)⟩
def Ext.trans {a b c:Hp} (h:Ext a b) (k:Ext b c):Ext a c:=Ch.trans h k aj
def bY {ws:List Nat} {b c:Hp} (h:Ch ws H b) (k:Ch a b c) (hv:∀ i,i∈a->i<H.size->i∈ws:=by intro i hi hl; simp at hi; omega):Ch ws H c:=Ch.trans h k hv
def Ext.push (h:Hp) (o:Obj):Ext h (h.push o):=⟨aj,fun i hi _=>by rw [Array.getElem?_push,ac9 ad]⟩
variable {O Y Z:Nat}
def eV {o:Obj} (a:H[O]?=some o):O<H.size:=by
 rcases cm9 O H.size with hl | hl
 ·exact hl
 ·rw [cu9 hl] at a; cases a
def Ch.get {ws:List Nat} {h':Hp} (k:Ch ws H h') {o:Obj} (a:H[O]?=some o) (b:O∉ws):h'[O]?=some o:=(k.same O (eV a) b).trans a
def bC (h:Hp) (g:Nat) (e:TypeId) (xs:List Xab):Prop:=h[g]?=some (.cells xs.toArray e (0,0))
variable {U:TypeId}
def bC.lt {xs:List Xab} (b:bC H O U xs):O<H.size:=eV b
def bC.an {ws:List Nat} {h':Hp} {xs:List Xab} (b:bC H O U xs) (k:Ch ws H h') (a:O∉ws):bC h' O U xs:=k.get b a
def bC.new (h:Hp) (e:TypeId) (xs:List Xab):bC (h.push (.cells xs.toArray e (0,0))) h.size e xs:=by
 unfold bC; rw [Array.getElem?_push_size]
def r5 {off:Nat} {c:Array Xab} {f:Nat × Nat} (a:H[O]?=some (.cells c U f)):ig H ⟨O,off,none⟩=c[off]?:=by
 unfold ig; simp only [a]; rfl
def bC.cell {off:Nat} {xs:List Xab} (b:bC H O U xs):ig H ⟨O,off,none⟩=xs[off]?:=by
 rw [r5 b]; simp
def bC.frozen {off:Nat} {xs:List Xab} (b:bC H O U xs):wN H ⟨O,off,none⟩=false:=by
 unfold wN; unfold bC at b; simp only [b]; simp
def aE (g off i:Nat):(⟨g,off,none⟩:Xax).add i=⟨g,off+i,none⟩:=by
 unfold Addr.add;split
 ·subst_vars; rfl
 ·rfl
def iO (a:Xax) (i:Nat):(a.add i).block=a.block:=by
 unfold Addr.add;split <;> rfl
variable {c:Xax}
def II {ws:List Nat} {h':Hp} {v:Xab} (hc:ig H c=some v) (k:Ch ws H h') (d:c.block∉ws):ig h' c=some v:=by
 unfold ig at hc ⊢;split at hc
 ·rename_i b e f g;rw [k.get g d]; exact hc
 ·cases hc
theorem aM {ws:List Nat} {h h':Hp} {a:Xax} (k:Ch ws h h') (c:a.block∉ws):∀ (b:List Xab) (i:Nat),aH h a i b->aH h' a i b
 | [],_,_=>trivial
 | v::b,i,hc=>⟨II hc.1 k (by rw [iO]; exact c),aM k c b (i+1) hc.2⟩
theorem bC.cells_from {h:Hp} {g off:Nat} {e:TypeId} {xs:List Xab} (b:bC h g e xs):∀ (a:List Xab) (i:Nat),(∀ j,j<a.length->xs[off+(i+j)]?=a[j]?)->aH h ⟨g,off,none⟩ i a
 | [],_,_=>trivial
 | v::a,i,hv=>by
  refine ⟨?_,b.cells_from a (i+1) fun j c=>?_⟩
  ·rw [aE,b.cell];exact hv 0 aj
  ·have:=hv (j+1) (by simpa using c)
   rw [fa9] at this;rw [<- this]; congr 1; omega
def bC.cells {off:Nat} {xs:List Xab} (b:bC H O U xs) (vs:List Xab) (hv:(xs.drop off).take vs.length=vs):aH H ⟨O,off,none⟩ 0 vs:=by
 refine b.cells_from vs 0 fun j a=>?_
 have:((xs.drop off).take vs.length)[j]?=vs[j]?:=by rw [hv]
 rw [ei9,ag9 a,ej9] at this;rw [<- this]; congr 1; omega
def lK (xs:List Xab):Nat->List Xab->List Xab
 | _,[]=>xs
 | i,v::a=>lK (xs.set i v) (i+1) a
theorem nJ:∀ (a xs:List Xab) (i:Nat),(lK xs i a).length=xs.length
 | [],_,_=>rfl
 | v::a,xs,i=>by simp [lK,nJ a]
theorem qE:∀ (a xs:List Xab) (i:Nat),i+a.length<=xs.length->lK xs i a=xs.take i++a++xs.drop (i+a.length)
 | [],xs,i,_=>by simp [lK]
 | v::a,xs,i,h=>by
  simp only [List.length_cons] at h;rw [lK,qE a (xs.set i v) (i+1) (by rw [cy9]; omega)];rw [List.take_set,List.drop_set_of_lt (show i<i+1+a.length from ad)];have b:(xs.take (i+1)).set i v=xs.take i++[v]:=by
   rw [ae9 ad,List.set_append_right _ _ (by simp; omega)];simp [Nat.min_eq_left (by omega:i<=xs.length)]
  rw [b];simp only [List.append_assoc,List.cons_append,List.nil_append,List.length_cons];rw [show i+1+a.length=i+(a.length+1) from ad]
def RN {off:Nat} {xs:List Xab} (b:bC H O U xs) (v:Xab):bC (lG H ⟨O,off,none⟩ v) O U (xs.set off v)/\Ch [O] H (lG H ⟨O,off,none⟩ v)/\(lG H ⟨O,off,none⟩ v).size=H.size:=by
 unfold lG;refine ⟨?_,⟨aj,fun i hi a=>?_⟩,aj⟩
 ·unfold bC at b ⊢;rw [Array.getElem?_modify,ag9 rfl,b]
  simp
 ·rw [Array.getElem?_modify,ac9 (by simp at a; exact fun U=>a U.symm)]
theorem my {g off:Nat} {e:TypeId}:∀ (a:List Xab) (h:Hp) (i:Nat) (xs:List Xab),bC h g e xs->a.all dr=true->off+i+a.length<=xs.length ->
  zB h ⟨g,off,none⟩ i a/\bC (tg h ⟨g,off,none⟩ i a) g e (lK xs (off+i) a)/\Ch [g] h (tg h ⟨g,off,none⟩ i a)/\(tg h ⟨g,off,none⟩ i a).size=h.size
 | [],h,i,xs,b,_,_=>⟨trivial,b,Ch.refl _ _,rfl⟩
 | v::a,h,i,xs,b,c,hl=>by
  simp only [List.all_cons,Bool.and_eq_true,List.length_cons] at c hl;obtain ⟨d,f,z1⟩:=RN (off:=off+i) b v;obtain ⟨j,k,l,m⟩:=my (off:=off) a (lG h ⟨g,off+i,none⟩ v) (i+1) (xs.set (off+i) v) d c.2 (by rw [cy9]; omega);unfold zB tg;rw [aE];refine ⟨⟨c.1,⟨xs[off+i]'ad,?_⟩,b.frozen,j⟩,k,f.trans l aj,m.trans z1⟩;rw [b.cell,ad9]
section rules
variable {P:Program} {L:Lp} {K:Xab->Hp->Prop} {h:Hp}
variable {H:Nat} {O:TypeId} {U:T}
def dc {off:Nat} {xs a:List Xab} (b:bC h H O xs) (c:a.all dr=true) (hl:off+a.length<=xs.length)
  (hk:∀ h',bC h' H O (lK xs off a)->Ch [H] h h'->h'.size=h.size->U L K h'):T.aD ⟨H,off,none⟩ a U L K h:=by
 obtain ⟨d,f,i,j⟩:=my (off:=off) a h 0 xs b c hl;exact ⟨d,hk _ f i j⟩
variable {V:List TypeDesc}
def bI {off:Nat} {xs:List Xab} {k:FI V T} (b:bC h H O xs) (x:qF V) (hv:(xs.drop off).take (et V x).length=et V x) (hk:EC _ k x L K h) :
  T.af ⟨H,off,none⟩ V k L K h:=ay x (b.cells _ hv) hk
def az {off:Nat} {xs:List Xab} {k:FI V T} (b:bC h H O xs) (x:qF V) (hk:EC _ k x L K h) (hv:(xs.drop off).take (et V x).length=et V x:=by first | rfl):T.af ⟨H,off,none⟩ V k L K h:=bI b x hv hk
def bR {off:Nat} {xs a:List Xab} (b:bC h H O xs) (hk:∀ h',bC h' H O (lK xs off a)->Ch [H] h h'->h'.size=h.size->U L K h') (c:a.all dr=true:=by first | rfl) (hl:off+a.length<=xs.length:=by first | simp):T.aD ⟨H,off,none⟩ a U L K h:=dc b c hl hk
def jb {cs:List ep} {first:T} {after:FI (flat cs) T} (J:qF (flat cs)->Hp->Prop) (a:first (L++[fun b h'=>∃ y,b=parts cs (et _ y)/\J y h']) K h) (c:∀ y h',J y h'->EC _ after y L K h'):T.join cs first after L K h:=⟨J,a,c⟩
def dZ {a:List Xab} {cs:List ep} {J:qF (flat cs)->Hp->Prop} (y:qF (flat cs)) (b:L[H]?=some (fun a h'=>∃ y,a=parts cs (et _ y)/\J y h')) (c:a=parts cs (et _ y)) (d:J y h):T.again H a L K h:=by
 unfold T.again;rw [b];exact ⟨y,c,d⟩
def br {cells:List Xab} {k:Xax->T} (hk:∀ h',bC h' h.size O cells->Ext h h'->h'.size=h.size+1->k ⟨h.size,0,none⟩ L K h'):T.new cells O k L K h :=
 hk _ (bC.new h O cells) (Ext.push h _) aj
def dA {s:Sem Xab} {k:Xac->Nat->Nat->T} (a:aS P s h fun v h'=>∃ p l c,v=.slice p l c/\k p l c L K h'):T.eH P s false [(false,[.slice 0])] k L K h :=
 eb s _ _ _ (fun v h' ⟨p,l,c,hv,hk⟩=>⟨((p,l,c),()),hv,hk⟩) a
def wO {s:Sem Xab} {b:Bool} {k:Bool->T} (c:∀ a:Xab->Hp->Prop,a (.bool b) h->aS P s h a) (hk:k b L K h):T.eH P s false [(false,[.bool])] k L K h :=
 c _ ⟨(b,()),rfl,hk⟩
end rules
def pO {P:Program} {t:TypeId} {z:Xab} {s b:Nat} (h:(P.info? t).map (fun i=>(i.zero,i.size,i.bytes))=some (some z,s,b)):∃ i,P.info? t=some i/\i.zero=some z/\i.size=s/\i.bytes=b:=by
 cases hi:P.info? t with
 | none=>rw [hi] at h; cases h
 | some i =>
  rw [hi] at h;simp only [Option.map_some,Option.some.injEq,Prod.mk.injEq] at h;exact ⟨i,rfl,h.1,h.2.1,h.2.2⟩
variable {b:Program} {d:T}
def bd {f:FuncId} {fn:Func} {args:List Xab} {R:Xab->Hp->Prop} (c:b.follows .mixedOrders=true) (e:b.funcs[f]?=some fn) (hl:Nat.ble args.length fn.ntmps=true)
  (g:bZ b a fn args=d) (ht:d [] R H):HC b f args.toArray H R:=Vu c e hl (by rw [g]; exact ht)
def SL (h:Hp) (b:Nat) (e:TypeId) (sz:Nat) (p:Xac) (l c:Nat) (xs:List (List Xab)):Prop :=
 l=xs.length/\(∀ x,x∈xs->x.length=sz) /\
 match p with
 | none=>c=0/\xs=[]
 | some a=>∃ g d rest,a=⟨g,d.length,none⟩/\b<=g/\(l<=c/\c<9223372036854775808)/\bC h g e (d++(xs.flatten++rest))/\rest.length=(c-l)*sz
def aJ (p:Xac):List Nat :=
 match p with
 | none=>[]
 | some a=>[a.block]
def SL.nil (h:Hp) (b:Nat) (e:TypeId) (sz:Nat):SL h b e sz none 0 0 []:=⟨rfl,aj,rfl,rfl⟩
def SL.an {ws:List Nat} {h h':Hp} {b:Nat} {e:TypeId} {sz:Nat} {p:Xac} {l c:Nat} {xs:List (List Xab)} (s:SL h b e sz p l c xs) (k:Ch ws h h') (m:∀ a,p=some a->a.block∉ws):SL h' b e sz p l c xs:=by
 refine ⟨s.1,s.2.1,?_⟩;cases p with
 | none=>exact s.2.2
 | some a =>
  obtain ⟨g,f,rest,j,n,i,d,o⟩:=s.2.2;exact ⟨g,f,rest,j,n,i,d.an k (by have:=m a rfl; rw [j] at this; exact this),o⟩
variable {V:Xac}
def SL.mono {b' sz:Nat} {xs:List (List Xab)} (s:SL H O U sz V Y Z xs) (f:b'<=O):SL H b' U sz V Y Z xs:=by
 refine ⟨s.1,s.2.1,?_⟩;cases V with
 | none=>exact s.2.2
 | some a =>
  obtain ⟨g,i,rest,k,m,j,d,n⟩:=s.2.2;exact ⟨g,i,rest,k,cq9 f m,j,d,n⟩
theorem fy {sz:Nat}:∀ (xs:List (List Xab)),(∀ x,x∈xs->x.length=sz)->xs.flatten.length=xs.length*sz
 | [],_=>aj
 | x::xs,h=>by
  rw [eo9,af9,h x aj,fy xs (fun y a=>h y (by simp [a])),cj9,da9];omega
theorem nZ {sz:Nat}:∀ (xs:List (List Xab)) (i:Nat) (rest:List Xab),(∀ x,x∈xs->x.length=sz)->(hi:i<xs.length)->((xs.flatten++rest).drop (i*sz)).take sz=xs[i]
 | [],i,_,_,hi=>by simp at hi
 | x::xs,0,rest,h,_=>by
  have a:x.length=sz:=h x aj;simp [<- a]
 | x::xs,i+1,rest,h,hi=>by
  have a:x.length=sz:=h x aj
  have:(i+1)*sz=x.length+i*sz:=by rw [da9,a]; omega
  rw [this,eo9,ay9,<- fi9,ed9];simpa using nZ xs i rest (fun y b=>h y (by simp [b])) (by simpa using hi)
def SL.cB {sz:Nat} {xs:List (List Xab)} (s:SL H O U sz V Y Z xs) {i:Nat} (hi:i∈aJ V):O<=i/\i<H.size:=by
 cases V with
 | none=>simp [aJ] at hi
 | some a =>
  obtain ⟨g,j,rest,rfl,f,k,d,m⟩:=s.2.2;simp [aJ] at hi;subst hi;exact ⟨f,d.lt⟩
def SL.bK {ws:List Nat} {h':Hp} {sz:Nat} {xs:List (List Xab)} (s:SL H O U sz V Y Z xs) (k:Ch ws H h') (d:∀ i,i∈aJ V->i∉ws):SL h' O U sz V Y Z xs :=
 s.an k fun a f=>d _ (by rw [f]; simp [aJ])
def SL.cells {h:Hp} {b:Nat} {e:TypeId} {sz:Nat} {p:Xac} {l c:Nat} {xs:List (List Xab)} (s:SL h b e sz p l c xs) {i:Nat} (hi:i<xs.length) :
  ∃ a,p=some a/\aH h (a.add (i*sz)) 0 xs[i]:=by
 cases p with
 | none=>have:=s.2.2.2; subst this; simp at hi
 | some a =>
  obtain ⟨g,f,rest,rfl,k,j,d,m⟩:=s.2.2;refine ⟨_,rfl,?_⟩;rw [aE];refine d.cells _ ?_;rw [s.2.1 _ (al9 hi),<- fi9,ed9];exact nZ xs i rest s.2.1 hi
def Ax {A X B a:List Xab} (h:X.length=a.length):lK (A++(X++B)) A.length a=A++(a++B):=by
 rw [qE _ _ _ (by simp; omega),el9,ay9,<- fi9,ed9,<- h,ed9]
def SL.store {P:Program} {L:Lp} {K:Xab->Hp->Prop} {h:Hp} {sz:Nat} {xs:List (List Xab)} (s:SL h O U sz V Y Z xs) {i:Nat} (hi:i<xs.length) {vs:List Xab} (hv:vs.length=sz)
  (u:vs.all dr=true) (w:V=some c) (hk:∀ h',SL h' O U sz V Y Z (xs.set i vs)->Ch (aJ V) h h'->h'.size=h.size->d L K h'):T.aD (c.add (i*sz)) vs d L K h:=by
 subst w;obtain ⟨g,f,rest,rfl,q,r,j,y⟩:=s.2.2;have m:(xs.take i).flatten.length=i*sz:=by
  rw [fy _ (fun x m=>s.2.1 x (cv9 m)),az9,dc9 ad]
 have z:f++(xs.flatten++rest)=(f++(xs.take i).flatten)++(xs[i]++((xs.drop (i+1)).flatten++rest)):=by
  have e0:xs.flatten=(xs.take i).flatten++(xs[i]++(xs.drop (i+1)).flatten):=by
   conv=>lhs; rw [<- ce9 i xs,aw9 hi]
   rw [List.flatten_append,eo9]
  rw [e0];simp only [List.append_assoc]
 have A:(xs.set i vs).flatten=(xs.take i).flatten++(vs++(xs.drop (i+1)).flatten):=by
  rw [List.set_eq_take_append_cons_drop,ag9 hi]
  simp
 have t:xs[i].length=vs.length:=by rw [hv]; exact s.2.1 _ (al9 hi)
 rw [z] at j;rw [aE];have n:(f++(xs.take i).flatten).length=f.length+i*sz:=by rw [af9,m]
 rw [<- n];refine dc j u (by simp; omega) ?_;intro h' o k' B;rw [Ax t] at o;refine hk h' ⟨by rw [cy9]; exact s.1,fun x m=>?_,g,f,rest,rfl,q,r,?_,y⟩ (by simpa [aJ] using k') B
 ·rcases dh9 m with m | rfl
  ·exact s.2.1 x m
  ·exact hv
 ·rw [A];simpa [List.append_assoc] using o
def oR {α β:Type} (f:α->β) (s:Sem α) (h:Hp) (K:β->Hp->Prop):aS b (f <$> s) h K=aS b s h fun a h'=>K (f a) h':=by
 have:f <$> s=s >>= fun a=>pure (f a):=by rw [<- bind_pure_comp]
 rw [this,av]; rfl
section append
variable {P:Program} {h:Hp} {K:Xab->Hp->Prop}
variable {H O:TypeId} {U V Z:Nat} {c:TypeInfo}
def j9 {parts:Array (Nat × Xab)} {z:Xab} {cells:Array Xab} (ht:P.underlying H=some (.slice O)) (hi:P.info? O=some c) (b:c.zero=some z)
  (hn:U*c.size≠0) (g:U*c.size<=2^24)
  (f:Instr.fill (fun j=>some (j*c.size,c.size)) ((Array.range (U*c.size)).map (z.cells[· % z.cells.size]!)) parts.toList=some cells)
  (hk:∀ h',bC h' h.size O cells.toList->Ext h h'->h'.size=h.size+1->K (.slice (some ⟨h.size,0,none⟩) U U) h'):aS P (Instr.buildSlice H U parts) h K:=by
 unfold Instr.buildSlice;rw [av,aC ht];simp only;rw [av,cd hi,cS hi];rw [ac9 ad,ac9 hn];rw [av,dH (z:=z) (by rw [hi]; exact b)];show aS P (match Instr.fill (fun j=>some (j*c.size,c.size)) ((Array.range (U*c.size)).map (z.cells[· % z.cells.size]!)) parts.toList with
  | some cells=>do
   let d <- newRow O cells
   pure (Value.slice (some d) U U)
  | _ => stuck "buildSlice: a part of the wrong size") h K
 rw [f];refine hk _ ?_ (Ext.push h _) aj;exact bC.new h O cells.toList
def L9 (need:Nat):∀ (n c:Nat),c<=2*need+1024->0<n->Builtin.growBy need n c<=2*need+1024:=by
 intro n
 induction n with
 | zero=>intro c h h0; omega
 | succ n a =>
  intro c h _;unfold Builtin.growBy;split
  ·exact h
  ·rename_i b;cases n with
   | zero=>unfold Builtin.growBy; omega
   | succ n=>exact a _ ad ad
def Ci {need old:Nat} (h:old<need):Builtin.nextslicecap need old<=2*need+1024:=by
 unfold Builtin.nextslicecap;split
 ·omega
 ·split
  ·omega
  ·exact L9 need 4 old ad ad
def rP (z:Array Xab) (n:Nat):(Builtin.zeroCells z n).size=n*z.size:=by
 unfold Builtin.zeroCells; simp
def KL (need old:Nat) (e:TypeId) (t:Nat):need<=(Question.appendCap need old e).cut t/\(need<9223372036854775808->(Question.appendCap need old e).cut t<9223372036854775808):=by
 show need<=need+t % (2^63-need)/\(need<9223372036854775808->need+t % (2^63-need)<9223372036854775808);refine ⟨ad,fun h=>?_⟩
 have:=ft9 t (show 0<2^63-need from ad)
 omega
variable {Y:Xac}
def pD {ty:TypeId} {z:Xab} (ht:P.underlying H=some (.slice O)) (hi:P.info? O=some c) (S:c.zero=some z) (J:z.cells.size=c.size)
  {xs ys:List (List Xab)} (s:SL h U O c.size Y V Z xs) {a:Xax} {m cc:Nat} (Q:m=ys.length) (A:∀ y,y∈ys->y.length=c.size)
  (hc:aH h a 0 ys.flatten) (W:ys.flatten.all dr=true) (X:(2*(V+m)+1024)*c.bytes<=2^48) (hl:V+m<=2^48) (hb:U<=h.size)
  (hk:∀ p' c' h',SL h' U O c.size p' (V+m) c' (xs++ys)->Ch (aJ Y) h h'->(p'=Y\/∃ a,p'=some a/\h.size<=a.block)->K (.slice p' (V+m) c') h') :
  aS P (Builtin.append_ #[H,H] ty #[.slice Y V Z,.slice (some a) m cc]) h K:=by
 have f:ys.flatten.length=m*c.size:=by rw [fy ys A,Q]
 have o:xs.flatten.length=V*c.size:=by rw [fy xs s.2.1,s.1]
 have r:∀ x,x∈xs++ys->x.length=c.size:=fun x hx=>(ar9.1 hx).elim (s.2.1 x) (A x)
 have u:V+m=(xs++ys).length:=by rw [af9,<- s.1,Q]
 have L:(P.info? O).bind (·.zero)=some z:=by rw [hi]; exact S
 by_cases d:V+m<=Z
 ·simp [Builtin.append_,av,aC ht,cd hi,cS hi,Builtin.lenOf,Builtin.firstCells,d];refine dJ f hc _ ?_;cases Y with
  | none =>
   have h1:Z=0:=s.2.2.1;have h2:ys=[]:=bo9 ad;subst h2;rw [bz9] at hk;have M:m=0:=ad
   subst M;exact hk none Z h s (Ch.refl _ _) (.inl rfl)
  | some a1 =>
   obtain ⟨g,j,rest,rfl,B,C,k,N⟩:=s.2.2;have D:(xs.flatten++rest).length=Z*c.size:=by
    rw [af9,o,N,<- da9]; congr 1; omega
   have hle:V*c.size+m*c.size<=Z*c.size:=by rw [<- da9]; exact cl9 _ d
   simp only;rw [aE,oR];obtain ⟨k1,E,k3,k4⟩:=my (off:=j.length+V*c.size) ys.flatten h 0 _ k W (by rw [af9,D,f]; omega);refine fT _ _ _ _ _ k1 ?_;refine hk _ Z _ ⟨u,r,g,j,rest.drop (m*c.size),rfl,B,⟨d,C.2⟩,?_,?_⟩ k3 (.inl rfl)
   ·rw [qE _ _ _ (by rw [af9,D,f]; omega),ek9,<- o,<- ay9,<- af9,el9,List.drop_append,f] at E;rw [eq9 ad,dj9,show (j++xs.flatten).length+m*c.size-(j++xs.flatten).length=m*c.size from ad] at E;rw [List.flatten_append];rw [af9,o] at E;simp only [List.append_assoc] at E ⊢;exact E
   ·rw [bw9,N,<- Nat.sub_mul]; congr 1; omega
 ·have F:¬ 281474976710656<Builtin.nextslicecap (V+m) Z*c.bytes:=by
   have h1:=Ci (need:=V+m) (old:=Z) ad;have h2:=cl9 c.bytes h1;have M:(2:Nat)^48=281474976710656:=rfl;omega
  have G:¬ (9223372036854775807<(V:Int)+(m:Int)/\c.bytes=0):=by
   have M:(2:Nat)^48=281474976710656:=rfl;omega
  simp [Builtin.append_,av,aC ht,cd hi,cS hi,Builtin.lenOf,Builtin.firstCells,d,iy hi,dH L,askRoom,G,F];intro R;have hge:=KL (V+m) Z O R;generalize (Question.appendCap (V+m) Z O).cut R=w at hge;show aS P (if roomBytes<w*c.bytes then mark Mark.noRoom else pure ()) h _;have q:∀ K':Unit->Hp->Prop,K' () h->aS P (if roomBytes<w*c.bytes then mark Mark.noRoom else pure ()) h K':=by
   intro K' n;split
   ·exact n
   ·exact n
  refine q _ ?_
  have I:∀ K':Array Xab->Hp->Prop,K' xs.flatten.toArray h->aS P (match Value.slice Y V Z with
    | Value.slice (some a) len cap=>loadCells a (V*c.size)
    | Value.slice none len cap=>pure #[]
    | Value.string s=>pure ((Array.map (fun U=>Value.int IntKind.u8 ↑U.toNat) s.data).extract 0 V)
    | x => stuck "slice or string expected") h K' := by
   intro K' n;cases Y with
   | none =>
    have:xs=[]:=s.2.2.2
    subst this;exact n
   | some a1 =>
    obtain ⟨g,j,rest,rfl,B,C,k,N⟩:=s.2.2;refine dJ o (k.cells _ ?_) _ n;rw [ed9,el9]
  refine I _ ?_;refine dJ f hc _ ?_;rw [oR];refine hk (some ⟨h.size,0,none⟩) w _ ⟨u,r,h.size,[],(Builtin.zeroCells z.cells (w-(V+m))).toList,rfl,hb,⟨hge.1,hge.2 ad⟩,?_,?_⟩ ((Ext.push h _).mono aj) (.inr ⟨_,rfl,aq9 _⟩)
  ·have e1:xs.flatten.toArray++(ys.flatten.toArray++Builtin.zeroCells z.cells (w-(V+m)))=((xs++ys).flatten++(Builtin.zeroCells z.cells (w-(V+m))).toList).toArray:=by
    apply cb9.1; simp
   rw [e1];exact bC.new h O _
  ·rw [db9,rP,J]
variable {a:Lp} {b:Xac->Nat->Nat->T}
def gR {K:Xab->Hp->Prop} {e:TypeId} {z:Xab} {sz by':Nat} {st:List (Xax × List Xab)} (ht:P.underlying H=some (.slice e)) (g:(P.info? e).map (fun i=>(i.zero,i.size,i.bytes))=some (some z,sz,by'))
  (n:z.cells.size=sz) (A:sz≠0) (B:sz<=4096) {v:Xab} {vs:List Xab} (C:Instr.fill (fun j=>some (j*sz,sz)) ((Array.range (1*sz)).map (z.cells[· % z.cells.size]!)) [(0,v)]=some vs.toArray) (o:vs.length=sz) (r:vs.all dr=true)
  {xs:List (List Xab)} (s:SL h U e sz Y V Z xs) (N:U<=h.size) (u:(2*(V+1)+1024)*by'<=2^48) (hl:V+1<=2^48) (w:∀ h',Ext h h'->T.B7 h' st)
  (hk:∀ p' c' h',SL h' U e sz p' (V+1) c' (xs++[vs])->Ch (aJ Y) h h'->(p'=Y\/∃ d,p'=some d/\h.size<=d.block)->b p' (V+1) c' a K h') :
  T.eH P (Instr.buildSlice H 1 #[(0,v)]) false [(false,[.slice 0])] (fun q m D=>T.bi st (T.eH P (Builtin.append_ #[H,H] O #[.slice Y V Z,.slice q m D]) false [(false,[.slice 0])] b)) a K h:=by
 obtain ⟨i,hi,y,rfl,rfl⟩:=pO g;refine dA (j9 ht hi y ad ad C ?_);intro h1 E x z1;refine ⟨_,_,_,rfl,w _ x,dA ?_⟩;have F:SL h1 U e i.size Y V Z xs:=s.an x aj;refine pD (ys:=[vs]) ht hi y n F rfl (by simpa using o) (E.cells _ aj) (by simpa using r) (by simpa using u) (by simpa using hl) (by rw [z1]; omega) ?_;intro p' c' h2 G I f;refine ⟨p',V+1,c',rfl,hk p' c' h2 G (Ch.trans (x.mono aj) I (fun i hi _=>hi)) ?_⟩;rcases f with f | ⟨d,J,M⟩
 ·exact .inl f
 ·exact .inr ⟨d,J,ad⟩
def nS {K:Xab->Hp->Prop} {parts:Array (Nat × Xab)} {z:Xab} {sz:Nat} (ht:P.underlying H=some (.slice O)) (d:(P.info? O).map (fun i=>(i.zero,i.size,i.bytes))=some (some z,sz,V))
  (hn:U*sz≠0) (f:U*sz<=2^24) {cells:List Xab} (g:Instr.fill (fun j=>some (j*sz,sz)) ((Array.range (U*sz)).map (z.cells[· % z.cells.size]!)) parts.toList=some cells.toArray)
  (hk:∀ h',bC h' h.size O cells->Ext h h'->h'.size=h.size+1->b (some ⟨h.size,0,none⟩) U U a K h'):T.eH P (Instr.buildSlice H U parts) false [(false,[.slice 0])] b a K h:=by
 obtain ⟨i,hi,l,rfl,rfl⟩:=pO d;exact dA (j9 ht hi l hn f g fun h' c O z=>⟨_,_,_,rfl,hk h' c O z⟩)
def gh {L:Lp} {K:Xab->Hp->Prop} {k:Xac->Nat->Nat->T} {t C e:TypeId} {z:Xab} {sz f:Nat} (ht:P.underlying t=some (.slice e)) (n:(P.info? e).map (fun i=>(i.zero,i.size,i.bytes))=some (some z,sz,f))
  (r:z.cells.size=sz) (D:sz≠0) (E:sz<=4096) {v:Xab} {vs:List Xab} (F:Instr.fill (fun j=>some (j*sz,sz)) ((Array.range (1*sz)).map (z.cells[· % z.cells.size]!)) [(0,v)]=some vs.toArray) (u:vs.length=sz) (w:vs.all dr=true)
  {b:Nat} {p:Xac} {l c:Nat} {xs:List (List Xab)} (s:SL h b e sz p l c xs) (U:b<=h.size) (x:(2*(l+1)+1024)*f<=2^48) (hl:l+1<=2^48)
  (hk:∀ p' c' h',SL h' b e sz p' (l+1) c' (xs++[vs])->Ch (aJ p) h h'->(p'=p\/∃ a,p'=some a/\h.size<=a.block)->k p' (l+1) c' L K h') :
  T.eH P (Instr.buildSlice t 1 #[(0,v)]) false [(false,[.slice 0])] (fun q m G=>T.eH P (Builtin.append_ #[t,t] C #[.slice p l c,.slice q m G]) false [(false,[.slice 0])] k) L K h:=by
 obtain ⟨i,hi,A,rfl,rfl⟩:=pO n;refine dA (j9 ht hi A ad ad F ?_);intro h1 H B z1;refine ⟨_,_,_,rfl,dA ?_⟩;have I:SL h1 b e i.size p l c xs:=s.an B aj;have J:∀ a,p=some a->a.block<h.size:=by
  intro a y;subst y;obtain ⟨g,M,rest,rfl,N,O,o,V⟩:=s.2.2;exact o.lt
 refine pD (ys:=[vs]) ht hi A r I rfl (by simpa using u) (H.cells _ aj) (by simpa using w) (by simpa using x) (by simpa using hl) (by rw [z1]; omega) ?_;intro p' c' h2 Q R d;refine ⟨p',l+1,c',rfl,hk p' c' h2 Q (Ch.trans (B.mono aj) R (fun i hi _=>hi)) ?_⟩;rcases d with d | ⟨a,y,S⟩
 ·exact .inl d
 ·exact .inr ⟨a,y,ad⟩
end append
end Go.Sx
