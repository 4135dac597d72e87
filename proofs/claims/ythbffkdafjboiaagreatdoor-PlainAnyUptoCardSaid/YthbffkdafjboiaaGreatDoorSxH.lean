/- Part of the framework. No condition. -/
import Derived.Test.YthbffkdafjboiaaGreatDoorSxL
set_option linter.all false
set_option maxHeartbeats 4000000
namespace Go.Sx
structure Ch (ws:List Nat) (h h':Hp):Prop where
 size:h.size<=h'.size
 same:∀ i,i<h.size->i∉ws->h'[i]?=h[i]?
abbrev Ext (h h':Hp):Prop:=Ch [] h h'
def Ch.refl (ws:List Nat) (h:Hp):Ch ws h h:=⟨YI _,fun _ _ _=>rfl⟩
def Ch.trans {ws vs:List Nat} {a b c:Hp} (h:Ch ws a b) (k:Ch vs b c) (hv:∀ i,i∈vs->i<a.size->i∈ws):Ch ws a c :=
 ⟨Zq h.size k.size,fun i hi hw=>(k.same i (Nat.lt_of_lt_of_le hi h.size) fun hm=>hw (hv i hm hi)).trans (h.same i hi hw)⟩
def Ch.mono {ws vs:List Nat} {a b:Hp} (h:Ch ws a b) (hv:∀ i,i∈ws->i<a.size->i∈vs):Ch vs a b:=⟨h.size,fun i hi hw=>h.same i hi fun hm=>hw (hv i hm hi)⟩
def Ext.trans {a b c:Hp} (h:Ext a b) (k:Ext b c):Ext a c:=Ch.trans h k aj
def bQ {ws vs:List Nat} {a b c:Hp} (h:Ch ws a b) (k:Ch vs b c) (hv:∀ i,i∈vs->i<a.size->i∈ws:=by intro i hi hl; simp at hi; omega):Ch ws a c:=Ch.trans h k hv
def Ext.push (h:Hp) (o:Obj):Ext h (h.push o):=⟨aj,fun i hi _=>by rw [Array.getElem?_push,Yx ad]⟩
def fc {h:Hp} {g:Nat} {o:Obj} (d:h[g]?=some o):g<h.size:=by
 rcases Zn g h.size with hl | hl
 ·exact hl
 ·rw [Zt hl] at d; cases d
def Ch.get {ws:List Nat} {h h':Hp} (k:Ch ws h h') {g:Nat} {o:Obj} (d:h[g]?=some o) (hw:g∉ws):h'[g]?=some o:=(k.same g (fc d) hw).trans d
def bI (h:Hp) (g:Nat) (e:TypeId) (xs:List Xab):Prop:=h[g]?=some (.cells xs.toArray e (0,0))
def bI.lt {h:Hp} {g:Nat} {e:TypeId} {xs:List Xab} (b:bI h g e xs):g<h.size:=fc b
def bI.an {ws:List Nat} {h h':Hp} {g:Nat} {e:TypeId} {xs:List Xab} (b:bI h g e xs) (k:Ch ws h h') (hw:g∉ws):bI h' g e xs:=k.get b hw
def bI.new (h:Hp) (e:TypeId) (xs:List Xab):bI (h.push (.cells xs.toArray e (0,0))) h.size e xs:=by
 unfold bI; rw [Array.getElem?_push_size]
def jW {h:Hp} {g off:Nat} {c:Array Xab} {e:TypeId} {f:Nat × Nat} (d:h[g]?=some (.cells c e f)):iD h ⟨g,off,none⟩=c[off]?:=by
 unfold iD; simp only [d]; rfl
def bI.cell {h:Hp} {g off:Nat} {e:TypeId} {xs:List Xab} (b:bI h g e xs):iD h ⟨g,off,none⟩=xs[off]?:=by
 rw [jW b]; simp
def bI.frozen {h:Hp} {g off:Nat} {e:TypeId} {xs:List Xab} (b:bI h g e xs):vN h ⟨g,off,none⟩=false:=by
 unfold vN; unfold bI at b; simp only [b]; simp
def aE (g off i:Nat):(⟨g,off,none⟩:Xax).add i=⟨g,off+i,none⟩:=by
 unfold Addr.add;split
 ·subst_vars; rfl
 ·rfl
def ic (a:Xax) (i:Nat):(a.add i).block=a.block:=by
 unfold Addr.add;split <;> rfl
def G3 {ws:List Nat} {h h':Hp} {a:Xax} {v:Xab} (hc:iD h a=some v) (k:Ch ws h h') (hw:a.block∉ws):iD h' a=some v:=by
 unfold iD at hc ⊢;split at hc
 ·rename_i c e f d;rw [k.get d hw]; exact hc
 ·cases hc
theorem aT {ws:List Nat} {h h':Hp} {a:Xax} (k:Ch ws h h') (hw:a.block∉ws):∀ (vs:List Xab) (i:Nat),aJ h a i vs->aJ h' a i vs
 | [],_,_=>trivial
 | v::vs,i,hc=>⟨G3 hc.1 k (by rw [ic]; exact hw),aT k hw vs (i+1) hc.2⟩
theorem bI.cells_from {h:Hp} {g off:Nat} {e:TypeId} {xs:List Xab} (b:bI h g e xs):∀ (vs:List Xab) (i:Nat),(∀ j,j<vs.length->xs[off+(i+j)]?=vs[j]?)->aJ h ⟨g,off,none⟩ i vs
 | [],_,_=>trivial
 | v::vs,i,hv=>by
  refine ⟨?_,b.cells_from vs (i+1) fun j d=>?_⟩
  ·rw [aE,b.cell];exact hv 0 aj
  ·have:=hv (j+1) (by simpa using d)
   rw [as9] at this;rw [<- this]; congr 1; omega
def bI.cells {h:Hp} {g off:Nat} {e:TypeId} {xs:List Xab} (b:bI h g e xs) (vs:List Xab) (hv:(xs.drop off).take vs.length=vs):aJ h ⟨g,off,none⟩ 0 vs:=by
 refine b.cells_from vs 0 fun j d=>?_
 have:((xs.drop off).take vs.length)[j]?=vs[j]?:=by rw [hv]
 rw [ah9,YC d,Z6] at this;rw [<- this]; congr 1; omega
def lh (xs:List Xab):Nat->List Xab->List Xab
 | _,[]=>xs
 | i,v::vs=>lh (xs.set i v) (i+1) vs
theorem nj:∀ (vs xs:List Xab) (i:Nat),(lh xs i vs).length=xs.length
 | [],_,_=>rfl
 | v::vs,xs,i=>by simp [lh,nj vs]
theorem nk:∀ (vs xs:List Xab) (i:Nat),i+vs.length<=xs.length->lh xs i vs=xs.take i++vs++xs.drop (i+vs.length)
 | [],xs,i,_=>by simp [lh]
 | v::vs,xs,i,h=>by
  simp only [List.length_cons] at h;rw [lh,nk vs (xs.set i v) (i+1) (by rw [Zy]; omega)];rw [List.take_set,List.drop_set_of_lt (show i<i+1+vs.length from ad)];have e1:(xs.take (i+1)).set i v=xs.take i++[v]:=by
   rw [Yw ad,be9 _ _ (by simp; omega)];simp [Nat.min_eq_left (by omega:i<=xs.length)]
  rw [e1];simp only [List.append_assoc,List.cons_append,List.nil_append,List.length_cons];rw [show i+1+vs.length=i+(vs.length+1) from ad]
def Pt {h:Hp} {g off:Nat} {e:TypeId} {xs:List Xab} (b:bI h g e xs) (v:Xab):bI (la h ⟨g,off,none⟩ v) g e (xs.set off v)/\Ch [g] h (la h ⟨g,off,none⟩ v)/\(la h ⟨g,off,none⟩ v).size=h.size:=by
 unfold la;refine ⟨?_,⟨aj,fun i hi hw=>?_⟩,aj⟩
 ·unfold bI at b ⊢;rw [Array.getElem?_modify,YC rfl,b]
  simp
 ·rw [Array.getElem?_modify,Yx (by simp at hw; exact fun e=>hw e.symm)]
theorem jE {g off:Nat} {e:TypeId}:∀ (vs:List Xab) (h:Hp) (i:Nat) (xs:List Xab),bI h g e xs->vs.all cU=true->off+i+vs.length<=xs.length ->
  yq h ⟨g,off,none⟩ i vs/\bI (r5 h ⟨g,off,none⟩ i vs) g e (lh xs (off+i) vs)/\Ch [g] h (r5 h ⟨g,off,none⟩ i vs)/\(r5 h ⟨g,off,none⟩ i vs).size=h.size
 | [],h,i,xs,b,_,_=>⟨trivial,b,Ch.refl _ _,rfl⟩
 | v::vs,h,i,xs,b,d,hl=>by
  simp only [List.all_cons,Bool.and_eq_true,List.length_cons] at d hl;obtain ⟨b1,j,z1⟩:=Pt (off:=off+i) b v;obtain ⟨u,F,G,J⟩:=jE (off:=off) vs (la h ⟨g,off+i,none⟩ v) (i+1) (xs.set (off+i) v) b1 d.2 (by rw [Zy]; omega);unfold yq r5;rw [aE];refine ⟨⟨d.1,⟨xs[off+i]'ad,?_⟩,b.frozen,u⟩,F,j.trans G aj,J.trans z1⟩;rw [b.cell,Yv]
section rules
variable {P:Program} {L:Lp} {K:Xab->Hp->Prop} {h:Hp}
def aw {g off:Nat} {e:TypeId} {xs vs:List Xab} {k:T} (b:bI h g e xs) (d:vs.all cU=true) (hl:off+vs.length<=xs.length)
  (hk:∀ h',bI h' g e (lh xs off vs)->Ch [g] h h'->h'.size=h.size->k L K h'):T.aC ⟨g,off,none⟩ vs k L K h:=by
 obtain ⟨j,u,F,G⟩:=jE (off:=off) vs h 0 xs b d hl;exact ⟨j,hk _ u F G⟩
def af {g off:Nat} {e:TypeId} {xs:List Xab} {ds:List TypeDesc} {k:Eo ds T} (b:bI h g e xs) (x:qK ds) (hv:(xs.drop off).take (ec ds x).length=ec ds x) (hk:EQ _ k x L K h) :
  T.ah ⟨g,off,none⟩ ds k L K h:=ay x (b.cells _ hv) hk
def fJ {cs:List fI} {first:T} {after:Eo (flat cs) T} (J:qK (flat cs)->Hp->Prop) (d:first (L++[fun vs h'=>∃ y,vs=parts cs (ec _ y)/\J y h']) K h) (j:∀ y h',J y h'->EQ _ after y L K h'):T.join cs first after L K h:=⟨J,d,j⟩
def cT {lv:Nat} {vs:List Xab} {cs:List fI} {J:qK (flat cs)->Hp->Prop} (y:qK (flat cs)) (d:L[lv]?=some (fun vs h'=>∃ y,vs=parts cs (ec _ y)/\J y h')) (j:vs=parts cs (ec _ y)) (u:J y h):T.again lv vs L K h:=by
 unfold T.again;rw [d];exact ⟨y,j,u⟩
def br {cells:List Xab} {e:TypeId} {k:Xax->T} (hk:∀ h',bI h' h.size e cells->Ext h h'->h'.size=h.size+1->k ⟨h.size,0,none⟩ L K h'):T.new cells e k L K h :=
 hk _ (bI.new h e cells) (Ext.push h _) aj
def du {s:Sem Xab} {k:Xac->Nat->Nat->T} (hs:aU P s h fun v h'=>∃ p l c,v=.slice p l c/\k p l c L K h'):T.ek P s false [(false,[.slice 0])] k L K h :=
 dA s _ _ _ (fun v h' ⟨p,l,c,hv,hk⟩=>⟨((p,l,c),()),hv,hk⟩) hs
def Al {s:Sem Xab} {b:Bool} {k:Bool->T} (hs:∀ K':Xab->Hp->Prop,K' (.bool b) h->aU P s h K') (hk:k b L K h):T.ek P s false [(false,[.bool])] k L K h :=
 hs _ ⟨(b,()),rfl,hk⟩
end rules
def nu {P:Program} {t:TypeId} {z:Xab} {s b:Nat} (h:(P.info? t).map (fun i=>(i.zero,i.size,i.bytes))=some (some z,s,b)):∃ i,P.info? t=some i/\i.zero=some z/\i.size=s/\i.bytes=b:=by
 cases hi:P.info? t with
 | none=>rw [hi] at h; cases h
 | some i =>
  rw [hi] at h;simp only [Option.map_some,Option.some.injEq,Prod.mk.injEq] at h;exact ⟨i,rfl,h.1,h.2.1,h.2.2⟩
def aY {P:Program} {f:FuncId} {fn:Func} {cuts:List Nat} {args:List Xab} {h:Hp} {R:Xab->Hp->Prop} {t:T} (hm:P.follows .mixedOrders=true) (d:P.funcs[f]?=some fn) (hl:Nat.ble args.length fn.ntmps=true)
  (j:bM P cuts fn args=t) (u:t [] R h):HC P f args.toArray h R:=Tl hm d hl (by rw [j]; exact u)
def SL (h:Hp) (b:Nat) (e:TypeId) (sz:Nat) (p:Xac) (l c:Nat) (xs:List (List Xab)):Prop :=
 l=xs.length/\(∀ x,x∈xs->x.length=sz) /\
 match p with
 | none=>c=0/\xs=[]
 | some a=>∃ g d rest,a=⟨g,d.length,none⟩/\b<=g/\(l<=c/\c<9223372036854775808)/\bI h g e (d++(xs.flatten++rest))/\rest.length=(c-l)*sz
def aR (p:Xac):List Nat :=
 match p with
 | none=>[]
 | some a=>[a.block]
def SL.nil (h:Hp) (b:Nat) (e:TypeId) (sz:Nat):SL h b e sz none 0 0 []:=⟨rfl,aj,rfl,rfl⟩
def SL.an {ws:List Nat} {h h':Hp} {b:Nat} {e:TypeId} {sz:Nat} {p:Xac} {l c:Nat} {xs:List (List Xab)} (s:SL h b e sz p l c xs) (k:Ch ws h h') (hw:∀ a,p=some a->a.block∉ws):SL h' b e sz p l c xs:=by
 refine ⟨s.1,s.2.1,?_⟩;cases p with
 | none=>exact s.2.2
 | some a =>
  obtain ⟨g,j,rest,F,G,u,d,J⟩:=s.2.2;exact ⟨g,j,rest,F,G,u,d.an k (by have:=hw a rfl; rw [F] at this; exact this),J⟩
def SL.mono {h:Hp} {b b':Nat} {e:TypeId} {sz:Nat} {p:Xac} {l c:Nat} {xs:List (List Xab)} (s:SL h b e sz p l c xs) (j:b'<=b):SL h b' e sz p l c xs:=by
 refine ⟨s.1,s.2.1,?_⟩;cases p with
 | none=>exact s.2.2
 | some a =>
  obtain ⟨g,u,rest,G,J,F,d,O⟩:=s.2.2;exact ⟨g,u,rest,G,Zq j J,F,d,O⟩
theorem ep {sz:Nat}:∀ (xs:List (List Xab)),(∀ x,x∈xs->x.length=sz)->xs.flatten.length=xs.length*sz
 | [],_=>aj
 | x::xs,h=>by
  rw [Z0,Yy,h x aj,ep xs (fun y d=>h y (by simp [d])),Zi,ZA];omega
theorem nI {sz:Nat}:∀ (xs:List (List Xab)) (i:Nat) (rest:List Xab),(∀ x,x∈xs->x.length=sz)->(hi:i<xs.length)->((xs.flatten++rest).drop (i*sz)).take sz=xs[i]
 | [],i,_,_,hi=>by simp at hi
 | x::xs,0,rest,h,_=>by
  have hx:x.length=sz:=h x aj;simp [<- hx]
 | x::xs,i+1,rest,h,hi=>by
  have hx:x.length=sz:=h x aj
  have:(i+1)*sz=x.length+i*sz:=by rw [ZA,hx]; omega
  rw [this,Z0,YV,<- List.drop_drop,ai9];simpa using nI xs i rest (fun y d=>h y (by simp [d])) (by simpa using hi)
def SL.cv {h:Hp} {b:Nat} {e:TypeId} {sz:Nat} {p:Xac} {l c:Nat} {xs:List (List Xab)} (s:SL h b e sz p l c xs) {i:Nat} (hi:i∈aR p):b<=i/\i<h.size:=by
 cases p with
 | none=>simp [aR] at hi
 | some a =>
  obtain ⟨g,u,rest,rfl,j,F,d,G⟩:=s.2.2;simp [aR] at hi;subst hi;exact ⟨j,d.lt⟩
def SL.bP {ws:List Nat} {h h':Hp} {b:Nat} {e:TypeId} {sz:Nat} {p:Xac} {l c:Nat} {xs:List (List Xab)} (s:SL h b e sz p l c xs) (k:Ch ws h h') (hw:∀ i,i∈aR p->i∉ws):SL h' b e sz p l c xs :=
 s.an k fun a d=>hw _ (by rw [d]; simp [aR])
def SL.cells {h:Hp} {b:Nat} {e:TypeId} {sz:Nat} {p:Xac} {l c:Nat} {xs:List (List Xab)} (s:SL h b e sz p l c xs) {i:Nat} (hi:i<xs.length) :
  ∃ a,p=some a/\aJ h (a.add (i*sz)) 0 xs[i]:=by
 cases p with
 | none=>have:=s.2.2.2; subst this; simp at hi
 | some a =>
  obtain ⟨g,j,rest,rfl,F,u,d,G⟩:=s.2.2;refine ⟨_,rfl,?_⟩;rw [aE];refine d.cells _ ?_;rw [s.2.1 _ (YD hi),<- List.drop_drop,ai9];exact nI xs i rest s.2.1 hi
def zi {A X B vs:List Xab} (h:X.length=vs.length):lh (A++(X++B)) A.length vs=A++(vs++B):=by
 rw [nk _ _ _ (by simp; omega),au9,YV,<- List.drop_drop,ai9,<- h,ai9]
def SL.store {P:Program} {L:Lp} {K:Xab->Hp->Prop} {k:T} {h:Hp} {b:Nat} {e:TypeId} {sz:Nat} {p:Xac} {l c:Nat} {xs:List (List Xab)} (s:SL h b e sz p l c xs) {i:Nat} (hi:i<xs.length) {vs:List Xab} (hv:vs.length=sz)
  (U:vs.all cU=true) {a:Xax} (V:p=some a) (hk:∀ h',SL h' b e sz p l c (xs.set i vs)->Ch (aR p) h h'->h'.size=h.size->k L K h'):T.aC (a.add (i*sz)) vs k L K h:=by
 subst V;obtain ⟨g,d,rest,rfl,G,J,j,X⟩:=s.2.2;have hx:(xs.take i).flatten.length=i*sz:=by
  rw [ep _ (fun x hx=>s.2.1 x (ZB hx)),YQ,Zz ad]
 have e1:d++(xs.flatten++rest)=(d++(xs.take i).flatten)++(xs[i]++((xs.drop (i+1)).flatten++rest)):=by
  have e0:xs.flatten=(xs.take i).flatten++(xs[i]++(xs.drop (i+1)).flatten):=by
   conv=>lhs; rw [<- Zc i xs,YK hi]
   rw [aq9,Z0]
  rw [e0];simp only [List.append_assoc]
 have e2:(xs.set i vs).flatten=(xs.take i).flatten++(vs++(xs.drop (i+1)).flatten):=by
  rw [List.set_eq_take_append_cons_drop,YC hi]
  simp
 have O:xs[i].length=vs.length:=by rw [hv]; exact s.2.1 _ (YD hi)
 rw [e1] at j;rw [aE];have u:(d++(xs.take i).flatten).length=d.length+i*sz:=by rw [Yy,hx]
 rw [<- u];refine aw j U (by simp; omega) ?_;intro h' F k' Y;rw [zi O] at F;refine hk h' ⟨by rw [Zy]; exact s.1,fun x hx=>?_,g,d,rest,rfl,G,J,?_,X⟩ (by simpa [aR] using k') Y
 ·rcases ZH hx with hx | rfl
  ·exact s.2.1 x hx
  ·exact hv
 ·rw [e2];simpa [List.append_assoc] using F
def j0 {P:Program} {α β:Type} (f:α->β) (s:Sem α) (h:Hp) (K:β->Hp->Prop):aU P (f <$> s) h K=aU P s h fun a h'=>K (f a) h':=by
 have:f <$> s=s >>= fun a=>pure (f a):=by rw [<- bind_pure_comp]
 rw [this,ao]; rfl
section append
variable {P:Program} {h:Hp} {K:Xab->Hp->Prop}
def jQ {t e:TypeId} {n:Nat} {parts:Array (Nat × Xab)} {i:TypeInfo} {z:Xab} {cells:Array Xab} (u:P.underlying t=some (.slice e)) (hi:P.info? e=some i) (F:i.zero=some z)
  (hn:n*i.size≠0) (J:n*i.size<=2^24)
  (G:Instr.fill (fun j=>some (j*i.size,i.size)) ((Array.range (n*i.size)).map (z.cells[· % z.cells.size]!)) parts.toList=some cells)
  (hk:∀ h',bI h' h.size e cells.toList->Ext h h'->h'.size=h.size+1->K (.slice (some ⟨h.size,0,none⟩) n n) h'):aU P (Instr.buildSlice t n parts) h K:=by
 unfold Instr.buildSlice;rw [ao,aF u];simp only;rw [ao,bT hi,cE hi];rw [Yx ad,Yx hn];rw [ao,dr (z:=z) (by rw [hi]; exact F)];show aU P (match Instr.fill (fun j=>some (j*i.size,i.size)) ((Array.range (n*i.size)).map (z.cells[· % z.cells.size]!)) parts.toList with
  | some cells=>do
   let d <- newRow e cells
   pure (Value.slice (some d) n n)
  | _ => stuck "buildSlice: a part of the wrong size") h K
 rw [G];refine hk _ ?_ (Ext.push h _) aj;exact bI.new h e cells.toList
def Kb (need:Nat):∀ (n c:Nat),c<=2*need+1024->0<n->Builtin.growBy need n c<=2*need+1024:=by
 intro n
 induction n with
 | zero=>intro c h h0; omega
 | succ n d =>
  intro c h _;unfold Builtin.growBy;split
  ·exact h
  ·rename_i j;cases n with
   | zero=>unfold Builtin.growBy; omega
   | succ n=>exact d _ ad ad
def A6 {need old:Nat} (h:old<need):Builtin.nextslicecap need old<=2*need+1024:=by
 unfold Builtin.nextslicecap;split
 ·omega
 ·split
  ·omega
  ·exact Kb need 4 old ad ad
def qT (z:Array Xab) (n:Nat):(Builtin.zeroCells z n).size=n*z.size:=by
 unfold Builtin.zeroCells; simp
def IW (need old:Nat) (e:TypeId) (t:Nat):need<=(Question.appendCap need old e).cut t/\(need<9223372036854775808->(Question.appendCap need old e).cut t<9223372036854775808):=by
 show need<=need+t % (2^63-need)/\(need<9223372036854775808->need+t % (2^63-need)<9223372036854775808);refine ⟨ad,fun h=>?_⟩
 have:=bs9 t (show 0<2^63-need from ad)
 omega
def oR {t ty e:TypeId} {i:TypeInfo} {z:Xab} (ht:P.underlying t=some (.slice e)) (hi:P.info? e=some i) (hz:i.zero=some z) (hzs:z.cells.size=i.size)
  {b:Nat} {p:Xac} {l c:Nat} {xs ys:List (List Xab)} (s:SL h b e i.size p l c xs) {a:Xax} {m cc:Nat} (hm:m=ys.length) (Z:∀ y,y∈ys->y.length=i.size)
  (hc:aJ h a 0 ys.flatten) (hp:ys.flatten.all cU=true) (hby:(2*(l+m)+1024)*i.bytes<=2^48) (hl:l+m<=2^48) (hb:b<=h.size)
  (hk:∀ p' c' h',SL h' b e i.size p' (l+m) c' (xs++ys)->Ch (aR p) h h'->(p'=p\/∃ a,p'=some a/\h.size<=a.block)->K (.slice p' (l+m) c') h') :
  aU P (Builtin.append_ #[t,t] ty #[.slice p l c,.slice (some a) m cc]) h K:=by
 have j:ys.flatten.length=m*i.size:=by rw [ep ys Z,hm]
 have J:xs.flatten.length=l*i.size:=by rw [ep xs s.2.1,s.1]
 have U:∀ x,x∈xs++ys->x.length=i.size:=fun x hx=>(YN.1 hx).elim (s.2.1 x) (Z x)
 have V:l+m=(xs++ys).length:=by rw [Yy,<- s.1,hm]
 have hz':(P.info? e).bind (·.zero)=some z:=by rw [hi]; exact hz
 by_cases d:l+m<=c
 ·simp [Builtin.append_,ao,aF ht,bT hi,cE hi,Builtin.lenOf,Builtin.firstCells,d];refine dt j hc _ ?_;cases p with
  | none =>
   have h1:c=0:=s.2.2.1;have h2:ys=[]:=Zf ad;subst h2;rw [Zs] at hk;have h3:m=0:=ad
   subst h3;exact hk none c h s (Ch.refl _ _) (.inl rfl)
  | some a1 =>
   obtain ⟨g,u,rest,rfl,hbg,hlc,F,hr⟩:=s.2.2;have hfl:(xs.flatten++rest).length=c*i.size:=by
    rw [Yy,J,hr,<- ZA]; congr 1; omega
   have hle:l*i.size+m*i.size<=c*i.size:=by rw [<- ZA]; exact ZC _ d
   simp only;rw [aE,j0];obtain ⟨k1,k2,k3,k4⟩:=jE (off:=u.length+l*i.size) ys.flatten h 0 _ F hp (by rw [Yy,hfl,j]; omega);refine dN _ _ _ _ _ k1 ?_;refine hk _ c _ ⟨V,U,g,u,rest.drop (m*i.size),rfl,hbg,⟨d,hlc.2⟩,?_,?_⟩ k3 (.inl rfl)
   ·rw [nk _ _ _ (by rw [Yy,hfl,j]; omega),bm9,<- J,<- YV,<- Yy,au9,List.drop_append,j] at k2;rw [ZU ad,ZT,show (u++xs.flatten).length+m*i.size-(u++xs.flatten).length=m*i.size from ad] at k2;rw [aq9];rw [Yy,J] at k2;simp only [List.append_assoc] at k2 ⊢;exact k2
   ·rw [Zl,hr,<- Nat.sub_mul]; congr 1; omega
 ·have hcap:¬ 281474976710656<Builtin.nextslicecap (l+m) c*i.bytes:=by
   have h1:=A6 (need:=l+m) (old:=c) ad;have h2:=ZC i.bytes h1;have h3:(2:Nat)^48=281474976710656:=rfl;omega
  have hbig:¬ (9223372036854775807<(l:Int)+(m:Int)/\i.bytes=0):=by
   have h3:(2:Nat)^48=281474976710656:=rfl;omega
  simp [Builtin.append_,ao,aF ht,bT hi,cE hi,Builtin.lenOf,Builtin.firstCells,d,gM hi,dr hz',askRoom,hbig,hcap];intro tt;have X:=IW (l+m) c e tt;generalize (Question.appendCap (l+m) c e).cut tt=Y at X;show aU P (if roomBytes<Y*i.bytes then mark Mark.noRoom else pure ()) h _;have O:∀ K':Unit->Hp->Prop,K' () h->aU P (if roomBytes<Y*i.bytes then mark Mark.noRoom else pure ()) h K':=by
   intro K' G;split
   ·exact G
   ·exact G
  refine O _ ?_
  have hold:∀ K':Array Xab->Hp->Prop,K' xs.flatten.toArray h->aU P (match Value.slice p l c with
    | Value.slice (some a) len cap=>loadCells a (l*i.size)
    | Value.slice none len cap=>pure #[]
    | Value.string s=>pure ((Array.map (fun b=>Value.int IntKind.u8 ↑b.toNat) s.data).extract 0 l)
    | x => stuck "slice or string expected") h K' := by
   intro K' G;cases p with
   | none =>
    have:xs=[]:=s.2.2.2
    subst this;exact G
   | some a1 =>
    obtain ⟨g,u,rest,rfl,hbg,hlc,F,hr⟩:=s.2.2;refine dt J (F.cells _ ?_) _ G;rw [ai9,au9]
  refine hold _ ?_;refine dt j hc _ ?_;rw [j0];refine hk (some ⟨h.size,0,none⟩) Y _ ⟨V,U,h.size,[],(Builtin.zeroCells z.cells (Y-(l+m))).toList,rfl,hb,⟨X.1,X.2 ad⟩,?_,?_⟩ ((Ext.push h _).mono aj) (.inr ⟨_,rfl,YI _⟩)
  ·have e1:xs.flatten.toArray++(ys.flatten.toArray++Builtin.zeroCells z.cells (Y-(l+m)))=((xs++ys).flatten++(Builtin.zeroCells z.cells (Y-(l+m))).toList).toArray:=by
    apply Zg.1; simp
   rw [e1];exact bI.new h e _
  ·rw [ZE,qT,hzs]
def gU {L:Lp} {K:Xab->Hp->Prop} {k:Xac->Nat->Nat->T} {t ty e:TypeId} {z:Xab} {sz by':Nat} {st:List (Xax × List Xab)} (V:P.underlying t=some (.slice e)) (u:(P.info? e).map (fun i=>(i.zero,i.size,i.bytes))=some (some z,sz,by'))
  (F:z.cells.size=sz) (Y:sz≠0) (Z:sz<=4096) {v:Xab} {vs:List Xab} (hf:Instr.fill (fun j=>some (j*sz,sz)) ((Array.range (1*sz)).map (z.cells[· % z.cells.size]!)) [(0,v)]=some vs.toArray) (G:vs.length=sz) (J:vs.all cU=true)
  {b:Nat} {p:Xac} {l c:Nat} {xs:List (List Xab)} (s:SL h b e sz p l c xs) (hb:b<=h.size) (O:(2*(l+1)+1024)*by'<=2^48) (hl:l+1<=2^48) (U:∀ h',Ext h h'->T.BC h' st)
  (hk:∀ p' c' h',SL h' b e sz p' (l+1) c' (xs++[vs])->Ch (aR p) h h'->(p'=p\/∃ a,p'=some a/\h.size<=a.block)->k p' (l+1) c' L K h') :
  T.ek P (Instr.buildSlice t 1 #[(0,v)]) false [(false,[.slice 0])] (fun q m cc=>T.bj st (T.ek P (Builtin.append_ #[t,t] ty #[.slice p l c,.slice q m cc]) false [(false,[.slice 0])] k)) L K h:=by
 obtain ⟨i,hi,X,rfl,rfl⟩:=nu u;refine du (jQ V hi X ad ad hf ?_);intro h1 b1 e1 z1;refine ⟨_,_,_,rfl,U _ e1,du ?_⟩;have s1:SL h1 b e i.size p l c xs:=s.an e1 aj;refine oR (ys:=[vs]) V hi X F s1 rfl (by simpa using G) (b1.cells _ aj) (by simpa using J) (by simpa using O) (by simpa using hl) (by rw [z1]; omega) ?_;intro p' c' h2 s2 c2 d;refine ⟨p',l+1,c',rfl,hk p' c' h2 s2 (Ch.trans (e1.mono aj) c2 (fun i hi _=>hi)) ?_⟩;rcases d with d | ⟨a,ha,hge⟩
 ·exact .inl d
 ·exact .inr ⟨a,ha,ad⟩
def jC {L:Lp} {K:Xab->Hp->Prop} {k:Xac->Nat->Nat->T} {t e:TypeId} {n:Nat} {parts:Array (Nat × Xab)} {z:Xab} {sz by':Nat} (u:P.underlying t=some (.slice e)) (d:(P.info? e).map (fun i=>(i.zero,i.size,i.bytes))=some (some z,sz,by'))
  (hn:n*sz≠0) (F:n*sz<=2^24) {cells:List Xab} (G:Instr.fill (fun j=>some (j*sz,sz)) ((Array.range (n*sz)).map (z.cells[· % z.cells.size]!)) parts.toList=some cells.toArray)
  (hk:∀ h',bI h' h.size e cells->Ext h h'->h'.size=h.size+1->k (some ⟨h.size,0,none⟩) n n L K h'):T.ek P (Instr.buildSlice t n parts) false [(false,[.slice 0])] k L K h:=by
 obtain ⟨i,hi,J,rfl,rfl⟩:=nu d;exact du (jQ u hi J hn F G fun h' b e z=>⟨_,_,_,rfl,hk h' b e z⟩)
def mV {L:Lp} {K:Xab->Hp->Prop} {k:Xac->Nat->Nat->T} {t ty e:TypeId} {z:Xab} {sz by':Nat} (X:P.underlying t=some (.slice e)) (u:(P.info? e).map (fun i=>(i.zero,i.size,i.bytes))=some (some z,sz,by'))
  (G:z.cells.size=sz) (Z:sz≠0) (hsm:sz<=4096) {v:Xab} {vs:List Xab} (hf:Instr.fill (fun j=>some (j*sz,sz)) ((Array.range (1*sz)).map (z.cells[· % z.cells.size]!)) [(0,v)]=some vs.toArray) (J:vs.length=sz) (O:vs.all cU=true)
  {b:Nat} {p:Xac} {l c:Nat} {xs:List (List Xab)} (s:SL h b e sz p l c xs) (hb:b<=h.size) (U:(2*(l+1)+1024)*by'<=2^48) (hl:l+1<=2^48)
  (hk:∀ p' c' h',SL h' b e sz p' (l+1) c' (xs++[vs])->Ch (aR p) h h'->(p'=p\/∃ a,p'=some a/\h.size<=a.block)->k p' (l+1) c' L K h') :
  T.ek P (Instr.buildSlice t 1 #[(0,v)]) false [(false,[.slice 0])] (fun q m cc=>T.ek P (Builtin.append_ #[t,t] ty #[.slice p l c,.slice q m cc]) false [(false,[.slice 0])] k) L K h:=by
 obtain ⟨i,hi,Y,rfl,rfl⟩:=nu u;refine du (jQ X hi Y ad ad hf ?_);intro h1 b1 e1 z1;refine ⟨_,_,_,rfl,du ?_⟩;have s1:SL h1 b e i.size p l c xs:=s.an e1 aj;have hpb:∀ a,p=some a->a.block<h.size:=by
  intro a V;subst V;obtain ⟨g,pre,rest,rfl,hbg,hlc,F,hr⟩:=s.2.2;exact F.lt
 refine oR (ys:=[vs]) X hi Y G s1 rfl (by simpa using J) (b1.cells _ aj) (by simpa using O) (by simpa using U) (by simpa using hl) (by rw [z1]; omega) ?_;intro p' c' h2 s2 c2 d;refine ⟨p',l+1,c',rfl,hk p' c' h2 s2 (Ch.trans (e1.mono aj) c2 (fun i hi _=>hi)) ?_⟩;rcases d with d | ⟨a,V,hge⟩
 ·exact .inl d
 ·exact .inr ⟨a,V,ad⟩
end append
end Go.Sx
