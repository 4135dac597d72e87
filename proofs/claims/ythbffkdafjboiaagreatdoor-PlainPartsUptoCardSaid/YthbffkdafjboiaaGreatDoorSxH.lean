/- Part of the framework. No condition. -/
import Derived.Test.YthbffkdafjboiaaGreatDoorSxL
set_option linter.all false
set_option maxHeartbeats 4000000
namespace Go.Sx
structure Ch (ws:List Nat) (h h':Hp):Prop where
 size:h.size<=h'.size
 same:∀ i,i<h.size->i∉ws->h'[i]?=h[i]?
abbrev Ext (h h':Hp):Prop:=Ch [] h h'
def Ch.refl (ws:List Nat) (h:Hp):Ch ws h h:=⟨Xk _,fun _ _ _=>rfl⟩
def Ch.trans {ws vs:List Nat} {a b c:Hp} (h:Ch ws a b) (k:Ch vs b c) (hv:∀ i,i∈vs->i<a.size->i∈ws):Ch ws a c :=
 ⟨XV h.size k.size,fun i hi hw=>(k.same i (Nat.lt_of_lt_of_le hi h.size) fun hm=>hw (hv i hm hi)).trans (h.same i hi hw)⟩
def Ch.mono {ws vs:List Nat} {a b:Hp} (h:Ch ws a b) (hv:∀ i,i∈ws->i<a.size->i∈vs):Ch vs a b:=⟨h.size,fun i hi hw=>h.same i hi fun hm=>hw (hv i hm hi)⟩
def Ext.trans {a b c:Hp} (h:Ext a b) (k:Ext b c):Ext a c:=Ch.trans h k aj
def Ext.push (h:Hp) (o:Obj):Ext h (h.push o):=⟨aj,fun i hi _=>by rw [Array.getElem?_push,W6 ad]⟩
def eX {h:Hp} {g:Nat} {o:Obj} (hg:h[g]?=some o):g<h.size:=by
 rcases XR g h.size with hl | hl
 ·exact hl
 ·rw [XY hl] at hg; cases hg
def Ch.get {ws:List Nat} {h h':Hp} (k:Ch ws h h') {g:Nat} {o:Obj} (hg:h[g]?=some o) (hw:g∉ws):h'[g]?=some o:=(k.same g (eX hg) hw).trans hg
def bH (h:Hp) (g:Nat) (e:TypeId) (xs:List ZB):Prop:=h[g]?=some (.cells xs.toArray e (0,0))
def bH.lt {h:Hp} {g:Nat} {e:TypeId} {xs:List ZB} (b:bH h g e xs):g<h.size:=eX b
def bH.an {ws:List Nat} {h h':Hp} {g:Nat} {e:TypeId} {xs:List ZB} (b:bH h g e xs) (k:Ch ws h h') (hw:g∉ws):bH h' g e xs:=k.get b hw
def bH.new (h:Hp) (e:TypeId) (xs:List ZB):bH (h.push (.cells xs.toArray e (0,0))) h.size e xs:=by
 unfold bH; rw [Array.getElem?_push_size]
def jI {h:Hp} {g off:Nat} {c:Array ZB} {e:TypeId} {f:Nat × Nat} (hg:h[g]?=some (.cells c e f)):iq h ⟨g,off,none⟩=c[off]?:=by
 unfold iq; simp only [hg]; rfl
def bH.cell {h:Hp} {g off:Nat} {e:TypeId} {xs:List ZB} (b:bH h g e xs):iq h ⟨g,off,none⟩=xs[off]?:=by
 rw [jI b]; simp
def bH.frozen {h:Hp} {g off:Nat} {e:TypeId} {xs:List ZB} (b:bH h g e xs):uK h ⟨g,off,none⟩=false:=by
 unfold uK; unfold bH at b; simp only [b]; simp
def aG (g off i:Nat):(⟨g,off,none⟩:Zx).add i=⟨g,off+i,none⟩:=by
 unfold Addr.add;split
 ·subst_vars; rfl
 ·rfl
def gU (a:Zx) (i:Nat):(a.add i).block=a.block:=by
 unfold Addr.add;split <;> rfl
def Gb {ws:List Nat} {h h':Hp} {a:Zx} {v:ZB} (hc:iq h a=some v) (k:Ch ws h h') (hw:a.block∉ws):iq h' a=some v:=by
 unfold iq at hc ⊢;split at hc
 ·rename_i c e f hg;rw [k.get hg hw]; exact hc
 ·cases hc
theorem aX {ws:List Nat} {h h':Hp} {a:Zx} (k:Ch ws h h') (hw:a.block∉ws):∀ (vs:List ZB) (i:Nat),aJ h a i vs->aJ h' a i vs
 | [],_,_=>trivial
 | v::vs,i,hc=>⟨Gb hc.1 k (by rw [gU]; exact hw),aX k hw vs (i+1) hc.2⟩
theorem bH.cells_from {h:Hp} {g off:Nat} {e:TypeId} {xs:List ZB} (b:bH h g e xs):∀ (vs:List ZB) (i:Nat),(∀ j,j<vs.length->xs[off+(i+j)]?=vs[j]?)->aJ h ⟨g,off,none⟩ i vs
 | [],_,_=>trivial
 | v::vs,i,hv=>by
  refine ⟨?_,b.cells_from vs (i+1) fun j hj=>?_⟩
  ·rw [aG,b.cell];exact hv 0 aj
  ·have:=hv (j+1) (by simpa using hj)
   rw [YV] at this;rw [<- this]; congr 1; omega
def bH.cells {h:Hp} {g off:Nat} {e:TypeId} {xs:List ZB} (b:bH h g e xs) (vs:List ZB) (hv:(xs.drop off).take vs.length=vs):aJ h ⟨g,off,none⟩ 0 vs:=by
 refine b.cells_from vs 0 fun j hj=>?_
 have:((xs.drop off).take vs.length)[j]?=vs[j]?:=by rw [hv]
 rw [YN,Xb hj,YC] at this;rw [<- this]; congr 1; omega
def la (xs:List ZB):Nat->List ZB->List ZB
 | _,[]=>xs
 | i,v::vs=>la (xs.set i v) (i+1) vs
theorem my:∀ (vs xs:List ZB) (i:Nat),(la xs i vs).length=xs.length
 | [],_,_=>rfl
 | v::vs,xs,i=>by simp [la,my vs]
theorem pd:∀ (vs xs:List ZB) (i:Nat),i+vs.length<=xs.length->la xs i vs=xs.take i++vs++xs.drop (i+vs.length)
 | [],xs,i,_=>by simp [la]
 | v::vs,xs,i,h=>by
  simp only [List.length_cons] at h;rw [la,pd vs (xs.set i v) (i+1) (by rw [X8]; omega)];rw [List.take_set,List.drop_set_of_lt (show i<i+1+vs.length from ad)];have e1:(xs.take (i+1)).set i v=xs.take i++[v]:=by
   rw [W7 ad,List.set_append_right _ _ (by simp; omega)];simp [Nat.min_eq_left (by omega:i<=xs.length)]
  rw [e1];simp only [List.append_assoc,List.cons_append,List.nil_append,List.length_cons];rw [show i+1+vs.length=i+(vs.length+1) from ad]
def N5 {h:Hp} {g off:Nat} {e:TypeId} {xs:List ZB} (b:bH h g e xs) (v:ZB):bH (kG h ⟨g,off,none⟩ v) g e (xs.set off v)/\Ch [g] h (kG h ⟨g,off,none⟩ v)/\(kG h ⟨g,off,none⟩ v).size=h.size:=by
 unfold kG;refine ⟨?_,⟨aj,fun i hi hw=>?_⟩,aj⟩
 ·unfold bH at b ⊢;rw [Array.getElem?_modify,Xb rfl,b]
  simp
 ·rw [Array.getElem?_modify,W6 (by simp at hw; exact fun e=>hw e.symm)]
theorem lf {g off:Nat} {e:TypeId}:∀ (vs:List ZB) (h:Hp) (i:Nat) (xs:List ZB),bH h g e xs->vs.all cX=true->off+i+vs.length<=xs.length ->
  xK h ⟨g,off,none⟩ i vs/\bH (rp h ⟨g,off,none⟩ i vs) g e (la xs (off+i) vs)/\Ch [g] h (rp h ⟨g,off,none⟩ i vs)/\(rp h ⟨g,off,none⟩ i vs).size=h.size
 | [],h,i,xs,b,_,_=>⟨trivial,b,Ch.refl _ _,rfl⟩
 | v::vs,h,i,xs,b,hp,hl=>by
  simp only [List.all_cons,Bool.and_eq_true,List.length_cons] at hp hl;obtain ⟨b1,c1,z1⟩:=N5 (off:=off+i) b v;obtain ⟨k1,k2,k3,k4⟩:=lf (off:=off) vs (kG h ⟨g,off+i,none⟩ v) (i+1) (xs.set (off+i) v) b1 hp.2 (by rw [X8]; omega);unfold xK rp;rw [aG];refine ⟨⟨hp.1,⟨xs[off+i]'ad,?_⟩,b.frozen,k1⟩,k2,c1.trans k3 aj,k4.trans z1⟩;rw [b.cell,W5]
section rules
variable {P:Program} {L:Lp} {K:ZB->Hp->Prop} {h:Hp}
def aw {g off:Nat} {e:TypeId} {xs vs:List ZB} {k:T} (b:bH h g e xs) (hp:vs.all cX=true) (hl:off+vs.length<=xs.length)
  (hk:∀ h',bH h' g e (la xs off vs)->Ch [g] h h'->h'.size=h.size->k L K h'):T.aE ⟨g,off,none⟩ vs k L K h:=by
 obtain ⟨k1,k2,k3,k4⟩:=lf (off:=off) vs h 0 xs b hp hl;exact ⟨k1,hk _ k2 k3 k4⟩
def af {g off:Nat} {e:TypeId} {xs:List ZB} {ds:List TypeDesc} {k:DA ds T} (b:bH h g e xs) (x:qb ds) (hv:(xs.drop off).take (dZ ds x).length=dZ ds x) (hk:DZ _ k x L K h) :
  T.ah ⟨g,off,none⟩ ds k L K h:=aC x (b.cells _ hv) hk
def iv {cs:List fE} {first:T} {after:DA (flat cs) T} (J:qb (flat cs)->Hp->Prop) (hf:first (L++[fun vs h'=>∃ y,vs=parts cs (dZ _ y)/\J y h']) K h) (ha:∀ y h',J y h'->DZ _ after y L K h'):T.join cs first after L K h:=⟨J,hf,ha⟩
def dJ {lv:Nat} {vs:List ZB} {cs:List fE} {J:qb (flat cs)->Hp->Prop} (y:qb (flat cs)) (hL:L[lv]?=some (fun vs h'=>∃ y,vs=parts cs (dZ _ y)/\J y h')) (hy:vs=parts cs (dZ _ y)) (hJ:J y h):T.again lv vs L K h:=by
 unfold T.again;rw [hL];exact ⟨y,hy,hJ⟩
def bk {cells:List ZB} {e:TypeId} {k:Zx->T} (hk:∀ h',bH h' h.size e cells->Ext h h'->h'.size=h.size+1->k ⟨h.size,0,none⟩ L K h'):T.new cells e k L K h :=
 hk _ (bH.new h e cells) (Ext.push h _) aj
def dt {s:Sem ZB} {k:ZC->Nat->Nat->T} (hs:aS P s h fun v h'=>∃ p l c,v=.slice p l c/\k p l c L K h'):T.ek P s false [(false,[.slice 0])] k L K h :=
 dK s _ _ _ (fun v h' ⟨p,l,c,hv,hk⟩=>⟨((p,l,c),()),hv,hk⟩) hs
def lz {s:Sem ZB} {b:Bool} {k:Bool->T} (hs:∀ K':ZB->Hp->Prop,K' (.bool b) h->aS P s h K') (hk:k b L K h):T.ek P s false [(false,[.bool])] k L K h :=
 hs _ ⟨(b,()),rfl,hk⟩
end rules
def ou {P:Program} {t:TypeId} {z:ZB} {s b:Nat} (h:(P.info? t).map (fun i=>(i.zero,i.size,i.bytes))=some (some z,s,b)):∃ i,P.info? t=some i/\i.zero=some z/\i.size=s/\i.bytes=b:=by
 cases hi:P.info? t with
 | none=>rw [hi] at h; cases h
 | some i =>
  rw [hi] at h;simp only [Option.map_some,Option.some.injEq,Prod.mk.injEq] at h;exact ⟨i,rfl,h.1,h.2.1,h.2.2⟩
def bd {P:Program} {f:FuncId} {fn:Func} {cuts:List Nat} {args:List ZB} {h:Hp} {R:ZB->Hp->Prop} {t:T} (hm:P.follows .mixedOrders=true) (hf:P.funcs[f]?=some fn) (hl:Nat.ble args.length fn.ntmps=true)
  (he:bQ P cuts fn args=t) (ht:t [] R h):HC P f args.toArray h R:=Rz hm hf hl (by rw [he]; exact ht)
def SL (h:Hp) (b:Nat) (e:TypeId) (sz:Nat) (p:ZC) (l c:Nat) (xs:List (List ZB)):Prop :=
 l=xs.length/\(∀ x,x∈xs->x.length=sz) /\
 match p with
 | none=>c=0/\xs=[]
 | some a=>∃ g pre rest,a=⟨g,pre.length,none⟩/\b<=g/\(l<=c/\c<9223372036854775808)/\bH h g e (pre++(xs.flatten++rest))/\rest.length=(c-l)*sz
def aP (p:ZC):List Nat :=
 match p with
 | none=>[]
 | some a=>[a.block]
def SL.nil (h:Hp) (b:Nat) (e:TypeId) (sz:Nat):SL h b e sz none 0 0 []:=⟨rfl,aj,rfl,rfl⟩
def SL.an {ws:List Nat} {h h':Hp} {b:Nat} {e:TypeId} {sz:Nat} {p:ZC} {l c:Nat} {xs:List (List ZB)} (s:SL h b e sz p l c xs) (k:Ch ws h h') (hw:∀ a,p=some a->a.block∉ws):SL h' b e sz p l c xs:=by
 refine ⟨s.1,s.2.1,?_⟩;cases p with
 | none=>exact s.2.2
 | some a =>
  obtain ⟨g,pre,rest,ha,hb,hlc,hbox,hr⟩:=s.2.2;exact ⟨g,pre,rest,ha,hb,hlc,hbox.an k (by have:=hw a rfl; rw [ha] at this; exact this),hr⟩
def SL.mono {h:Hp} {b b':Nat} {e:TypeId} {sz:Nat} {p:ZC} {l c:Nat} {xs:List (List ZB)} (s:SL h b e sz p l c xs) (hb':b'<=b):SL h b' e sz p l c xs:=by
 refine ⟨s.1,s.2.1,?_⟩;cases p with
 | none=>exact s.2.2
 | some a =>
  obtain ⟨g,pre,rest,ha,hb,hlc,hbox,hr⟩:=s.2.2;exact ⟨g,pre,rest,ha,XV hb' hb,hlc,hbox,hr⟩
theorem eR {sz:Nat}:∀ (xs:List (List ZB)),(∀ x,x∈xs->x.length=sz)->xs.flatten.length=xs.length*sz
 | [],_=>aj
 | x::xs,h=>by
  rw [YF,W8,h x aj,eR xs (fun y hy=>h y (by simp [hy])),XP,Ya];omega
theorem mR {sz:Nat}:∀ (xs:List (List ZB)) (i:Nat) (rest:List ZB),(∀ x,x∈xs->x.length=sz)->(hi:i<xs.length)->((xs.flatten++rest).drop (i*sz)).take sz=xs[i]
 | [],i,_,_,hi=>by simp at hi
 | x::xs,0,rest,h,_=>by
  have hx:x.length=sz:=h x aj;simp [<- hx]
 | x::xs,i+1,rest,h,hi=>by
  have hx:x.length=sz:=h x aj
  have:(i+1)*sz=x.length+i*sz:=by rw [Ya,hx]; omega
  rw [this,YF,Xs,<- List.drop_drop,YO];simpa using mR xs i rest (fun y hy=>h y (by simp [hy])) (by simpa using hi)
def SL.cj {h:Hp} {b:Nat} {e:TypeId} {sz:Nat} {p:ZC} {l c:Nat} {xs:List (List ZB)} (s:SL h b e sz p l c xs) {i:Nat} (hi:i∈aP p):b<=i/\i<h.size:=by
 cases p with
 | none=>simp [aP] at hi
 | some a =>
  obtain ⟨g,pre,rest,rfl,hbg,hlc,hbox,hr⟩:=s.2.2;simp [aP] at hi;subst hi;exact ⟨hbg,hbox.lt⟩
def SL.bM {ws:List Nat} {h h':Hp} {b:Nat} {e:TypeId} {sz:Nat} {p:ZC} {l c:Nat} {xs:List (List ZB)} (s:SL h b e sz p l c xs) (k:Ch ws h h') (hw:∀ i,i∈aP p->i∉ws):SL h' b e sz p l c xs :=
 s.an k fun a ha=>hw _ (by rw [ha]; simp [aP])
def SL.cells {h:Hp} {b:Nat} {e:TypeId} {sz:Nat} {p:ZC} {l c:Nat} {xs:List (List ZB)} (s:SL h b e sz p l c xs) {i:Nat} (hi:i<xs.length) :
  ∃ a,p=some a/\aJ h (a.add (i*sz)) 0 xs[i]:=by
 cases p with
 | none=>have:=s.2.2.2; subst this; simp at hi
 | some a =>
  obtain ⟨g,pre,rest,rfl,hb,hlc,hbox,hr⟩:=s.2.2;refine ⟨_,rfl,?_⟩;rw [aG];refine hbox.cells _ ?_;rw [s.2.1 _ (Xe hi),<- List.drop_drop,YO];exact mR xs i rest s.2.1 hi
def yz {A X B vs:List ZB} (h:X.length=vs.length):la (A++(X++B)) A.length vs=A++(vs++B):=by
 rw [pd _ _ _ (by simp; omega),YW,Xs,<- List.drop_drop,YO,<- h,YO]
def SL.store {P:Program} {L:Lp} {K:ZB->Hp->Prop} {k:T} {h:Hp} {b:Nat} {e:TypeId} {sz:Nat} {p:ZC} {l c:Nat} {xs:List (List ZB)} (s:SL h b e sz p l c xs) {i:Nat} (hi:i<xs.length) {vs:List ZB} (hv:vs.length=sz)
  (hp:vs.all cX=true) {a:Zx} (ha:p=some a) (hk:∀ h',SL h' b e sz p l c (xs.set i vs)->Ch (aP p) h h'->h'.size=h.size->k L K h'):T.aE (a.add (i*sz)) vs k L K h:=by
 subst ha;obtain ⟨g,pre,rest,rfl,hbg,hlc,hbox,hr⟩:=s.2.2;have hx:(xs.take i).flatten.length=i*sz:=by
  rw [eR _ (fun x hx=>s.2.1 x (X9 hx)),Xr,Yc ad]
 have e1:pre++(xs.flatten++rest)=(pre++(xs.take i).flatten)++(xs[i]++((xs.drop (i+1)).flatten++rest)):=by
  have e0:xs.flatten=(xs.take i).flatten++(xs[i]++(xs.drop (i+1)).flatten):=by
   conv=>lhs; rw [<- XN i xs,Xi hi]
   rw [List.flatten_append,YF]
  rw [e0];simp only [List.append_assoc]
 have e2:(xs.set i vs).flatten=(xs.take i).flatten++(vs++(xs.drop (i+1)).flatten):=by
  rw [List.set_eq_take_append_cons_drop,Xb hi]
  simp
 have hxi:xs[i].length=vs.length:=by rw [hv]; exact s.2.1 _ (Xe hi)
 rw [e1] at hbox;rw [aG];have hlen:(pre++(xs.take i).flatten).length=pre.length+i*sz:=by rw [W8,hx]
 rw [<- hlen];refine aw hbox hp (by simp; omega) ?_;intro h' hb' k' z';rw [yz hxi] at hb';refine hk h' ⟨by rw [X8]; exact s.1,fun x hx=>?_,g,pre,rest,rfl,hbg,hlc,?_,hr⟩ (by simpa [aP] using k') z'
 ·rcases Yg hx with hx | rfl
  ·exact s.2.1 x hx
  ·exact hv
 ·rw [e2];simpa [List.append_assoc] using hb'
def nE {P:Program} {α β:Type} (f:α->β) (s:Sem α) (h:Hp) (K:β->Hp->Prop):aS P (f <$> s) h K=aS P s h fun a h'=>K (f a) h':=by
 have:f <$> s=s >>= fun a=>pure (f a):=by rw [<- bind_pure_comp]
 rw [this,ar]; rfl
section append
variable {P:Program} {h:Hp} {K:ZB->Hp->Prop}
def jB {t e:TypeId} {n:Nat} {parts:Array (Nat × ZB)} {i:TypeInfo} {z:ZB} {cells:Array ZB} (ht:P.underlying t=some (.slice e)) (hi:P.info? e=some i) (hz:i.zero=some z)
  (hn:n*i.size≠0) (hb:n*i.size<=2^24)
  (hf:Instr.fill (fun j=>some (j*i.size,i.size)) ((Array.range (n*i.size)).map (z.cells[· % z.cells.size]!)) parts.toList=some cells)
  (hk:∀ h',bH h' h.size e cells.toList->Ext h h'->h'.size=h.size+1->K (.slice (some ⟨h.size,0,none⟩) n n) h'):aS P (Instr.buildSlice t n parts) h K:=by
 unfold Instr.buildSlice;rw [ar,aF ht];simp only;rw [ar,bS hi,cE hi];rw [W6 ad,W6 hn];rw [ar,dp (z:=z) (by rw [hi]; exact hz)];show aS P (match Instr.fill (fun j=>some (j*i.size,i.size)) ((Array.range (n*i.size)).map (z.cells[· % z.cells.size]!)) parts.toList with
  | some cells=>do
   let d <- newRow e cells
   pure (Value.slice (some d) n n)
  | _ => stuck "buildSlice: a part of the wrong size") h K
 rw [hf];refine hk _ ?_ (Ext.push h _) aj;exact bH.new h e cells.toList
def Ja (need:Nat):∀ (n c:Nat),c<=2*need+1024->0<n->Builtin.growBy need n c<=2*need+1024:=by
 intro n
 induction n with
 | zero=>intro c h h0; omega
 | succ n ih =>
  intro c h _;unfold Builtin.growBy;split
  ·exact h
  ·rename_i hh;cases n with
   | zero=>unfold Builtin.growBy; omega
   | succ n=>exact ih _ ad ad
def Aj {need old:Nat} (h:old<need):Builtin.nextslicecap need old<=2*need+1024:=by
 unfold Builtin.nextslicecap;split
 ·omega
 ·split
  ·omega
  ·exact Ja need 4 old ad ad
def qj (z:Array ZB) (n:Nat):(Builtin.zeroCells z n).size=n*z.size:=by
 unfold Builtin.zeroCells; simp
def H3 (need old:Nat) (e:TypeId) (t:Nat):need<=(Question.appendCap need old e).cut t/\(need<9223372036854775808->(Question.appendCap need old e).cut t<9223372036854775808):=by
 show need<=need+t % (2^63-need)/\(need<9223372036854775808->need+t % (2^63-need)<9223372036854775808);refine ⟨ad,fun h=>?_⟩
 have:=Zg t (show 0<2^63-need from ad)
 omega
def nZ {t ty e:TypeId} {i:TypeInfo} {z:ZB} (ht:P.underlying t=some (.slice e)) (hi:P.info? e=some i) (hz:i.zero=some z) (hzs:z.cells.size=i.size)
  {b:Nat} {p:ZC} {l c:Nat} {xs ys:List (List ZB)} (s:SL h b e i.size p l c xs) {a:Zx} {m cc:Nat} (hm:m=ys.length) (hys:∀ y,y∈ys->y.length=i.size)
  (hc:aJ h a 0 ys.flatten) (hp:ys.flatten.all cX=true) (hby:(2*(l+m)+1024)*i.bytes<=2^48) (hl:l+m<=2^48) (hb:b<=h.size)
  (hk:∀ p' c' h',SL h' b e i.size p' (l+m) c' (xs++ys)->Ch (aP p) h h'->(p'=p\/∃ a,p'=some a/\h.size<=a.block)->K (.slice p' (l+m) c') h') :
  aS P (Builtin.append_ #[t,t] ty #[.slice p l c,.slice (some a) m cc]) h K:=by
 have hyl:ys.flatten.length=m*i.size:=by rw [eR ys hys,hm]
 have hxl:xs.flatten.length=l*i.size:=by rw [eR xs s.2.1,s.1]
 have hall:∀ x,x∈xs++ys->x.length=i.size:=fun x hx=>(Xl.1 hx).elim (s.2.1 x) (hys x)
 have hlen:l+m=(xs++ys).length:=by rw [W8,<- s.1,hm]
 have hz':(P.info? e).bind (·.zero)=some z:=by rw [hi]; exact hz
 by_cases hroom:l+m<=c
 ·simp [Builtin.append_,ar,aF ht,bS hi,cE hi,Builtin.lenOf,Builtin.firstCells,hroom];refine dH hyl hc _ ?_;cases p with
  | none =>
   have h1:c=0:=s.2.2.1;have h2:ys=[]:=X7 ad;subst h2;rw [X4] at hk;have h3:m=0:=ad
   subst h3;exact hk none c h s (Ch.refl _ _) (.inl rfl)
  | some a1 =>
   obtain ⟨g,pre,rest,rfl,hbg,hlc,hbox,hr⟩:=s.2.2;have hfl:(xs.flatten++rest).length=c*i.size:=by
    rw [W8,hxl,hr,<- Ya]; congr 1; omega
   have hle:l*i.size+m*i.size<=c*i.size:=by rw [<- Ya]; exact Ye _ hroom
   simp only;rw [aG,nE];obtain ⟨k1,k2,k3,k4⟩:=lf (off:=pre.length+l*i.size) ys.flatten h 0 _ hbox hp (by rw [W8,hfl,hyl]; omega);refine fx _ _ _ _ _ k1 ?_;refine hk _ c _ ⟨hlen,hall,g,pre,rest.drop (m*i.size),rfl,hbg,⟨hroom,hlc.2⟩,?_,?_⟩ k3 (.inl rfl)
   ·rw [pd _ _ _ (by rw [W8,hfl,hyl]; omega),Zi,<- hxl,<- Xs,<- W8,YW,List.drop_append,hyl] at k2;rw [Ys ad,Yr,show (pre++xs.flatten).length+m*i.size-(pre++xs.flatten).length=m*i.size from ad] at k2;rw [List.flatten_append];rw [W8,hxl] at k2;simp only [List.append_assoc] at k2 ⊢;exact k2
   ·rw [X3,hr,<- Nat.sub_mul]; congr 1; omega
 ·have hcap:¬ 281474976710656<Builtin.nextslicecap (l+m) c*i.bytes:=by
   have h1:=Aj (need:=l+m) (old:=c) ad;have h2:=Ye i.bytes h1;have h3:(2:Nat)^48=281474976710656:=rfl;omega
  have hbig:¬ (9223372036854775807<(l:Int)+(m:Int)/\i.bytes=0):=by
   have h3:(2:Nat)^48=281474976710656:=rfl;omega
  simp [Builtin.append_,ar,aF ht,bS hi,cE hi,Builtin.lenOf,Builtin.firstCells,hroom,gw hi,dp hz',askRoom,hbig,hcap];intro tt;have hge:=H3 (l+m) c e tt;generalize (Question.appendCap (l+m) c e).cut tt=nc at hge;show aS P (if roomBytes<nc*i.bytes then mark Mark.noRoom else pure ()) h _;have hroomy:∀ K':Unit->Hp->Prop,K' () h->aS P (if roomBytes<nc*i.bytes then mark Mark.noRoom else pure ()) h K':=by
   intro K' hk';split
   ·exact hk'
   ·exact hk'
  refine hroomy _ ?_
  have hold:∀ K':Array ZB->Hp->Prop,K' xs.flatten.toArray h->aS P (match Value.slice p l c with
    | Value.slice (some a) len cap=>loadCells a (l*i.size)
    | Value.slice none len cap=>pure #[]
    | Value.string s=>pure ((Array.map (fun b=>Value.int IntKind.u8 ↑b.toNat) s.data).extract 0 l)
    | x => stuck "slice or string expected") h K' := by
   intro K' hk';cases p with
   | none =>
    have:xs=[]:=s.2.2.2
    subst this;exact hk'
   | some a1 =>
    obtain ⟨g,pre,rest,rfl,hbg,hlc,hbox,hr⟩:=s.2.2;refine dH hxl (hbox.cells _ ?_) _ hk';rw [YO,YW]
  refine hold _ ?_;refine dH hyl hc _ ?_;rw [nE];refine hk (some ⟨h.size,0,none⟩) nc _ ⟨hlen,hall,h.size,[],(Builtin.zeroCells z.cells (nc-(l+m))).toList,rfl,hb,⟨hge.1,hge.2 ad⟩,?_,?_⟩ ((Ext.push h _).mono aj) (.inr ⟨_,rfl,Xk _⟩)
  ·have e1:xs.flatten.toArray++(ys.flatten.toArray++Builtin.zeroCells z.cells (nc-(l+m)))=((xs++ys).flatten++(Builtin.zeroCells z.cells (nc-(l+m))).toList).toArray:=by
    apply XM.1; simp
   rw [e1];exact bH.new h e _
  ·rw [Yb,qj,hzs]
def gI {L:Lp} {K:ZB->Hp->Prop} {k:ZC->Nat->Nat->T} {t ty e:TypeId} {z:ZB} {sz by':Nat} {st:List (Zx × List ZB)} (ht:P.underlying t=some (.slice e)) (hinf:(P.info? e).map (fun i=>(i.zero,i.size,i.bytes))=some (some z,sz,by'))
  (hzs:z.cells.size=sz) (hs0:sz≠0) (hsm:sz<=4096) {v:ZB} {vs:List ZB} (hf:Instr.fill (fun j=>some (j*sz,sz)) ((Array.range (1*sz)).map (z.cells[· % z.cells.size]!)) [(0,v)]=some vs.toArray) (hvl:vs.length=sz) (hpl:vs.all cX=true)
  {b:Nat} {p:ZC} {l c:Nat} {xs:List (List ZB)} (s:SL h b e sz p l c xs) (hb:b<=h.size) (hby:(2*(l+1)+1024)*by'<=2^48) (hl:l+1<=2^48) (hst:∀ h',Ext h h'->T.C6 h' st)
  (hk:∀ p' c' h',SL h' b e sz p' (l+1) c' (xs++[vs])->Ch (aP p) h h'->(p'=p\/∃ a,p'=some a/\h.size<=a.block)->k p' (l+1) c' L K h') :
  T.ek P (Instr.buildSlice t 1 #[(0,v)]) false [(false,[.slice 0])] (fun q m cc=>T.bj st (T.ek P (Builtin.append_ #[t,t] ty #[.slice p l c,.slice q m cc]) false [(false,[.slice 0])] k)) L K h:=by
 obtain ⟨i,hi,hz,rfl,rfl⟩:=ou hinf;refine dt (jB ht hi hz ad ad hf ?_);intro h1 b1 e1 z1;refine ⟨_,_,_,rfl,hst _ e1,dt ?_⟩;have s1:SL h1 b e i.size p l c xs:=s.an e1 aj;refine nZ (ys:=[vs]) ht hi hz hzs s1 rfl (by simpa using hvl) (b1.cells _ aj) (by simpa using hpl) (by simpa using hby) (by simpa using hl) (by rw [z1]; omega) ?_;intro p' c' h2 s2 c2 hp';refine ⟨p',l+1,c',rfl,hk p' c' h2 s2 (Ch.trans (e1.mono aj) c2 (fun i hi _=>hi)) ?_⟩;rcases hp' with hp' | ⟨a,ha,hge⟩
 ·exact .inl hp'
 ·exact .inr ⟨a,ha,ad⟩
def mH {L:Lp} {K:ZB->Hp->Prop} {k:ZC->Nat->Nat->T} {t e:TypeId} {n:Nat} {parts:Array (Nat × ZB)} {z:ZB} {sz by':Nat} (ht:P.underlying t=some (.slice e)) (hinf:(P.info? e).map (fun i=>(i.zero,i.size,i.bytes))=some (some z,sz,by'))
  (hn:n*sz≠0) (hb:n*sz<=2^24) {cells:List ZB} (hf:Instr.fill (fun j=>some (j*sz,sz)) ((Array.range (n*sz)).map (z.cells[· % z.cells.size]!)) parts.toList=some cells.toArray)
  (hk:∀ h',bH h' h.size e cells->Ext h h'->h'.size=h.size+1->k (some ⟨h.size,0,none⟩) n n L K h'):T.ek P (Instr.buildSlice t n parts) false [(false,[.slice 0])] k L K h:=by
 obtain ⟨i,hi,hz,rfl,rfl⟩:=ou hinf;exact dt (jB ht hi hz hn hb hf fun h' b e z=>⟨_,_,_,rfl,hk h' b e z⟩)
def mi {L:Lp} {K:ZB->Hp->Prop} {k:ZC->Nat->Nat->T} {t ty e:TypeId} {z:ZB} {sz by':Nat} (ht:P.underlying t=some (.slice e)) (hinf:(P.info? e).map (fun i=>(i.zero,i.size,i.bytes))=some (some z,sz,by'))
  (hzs:z.cells.size=sz) (hs0:sz≠0) (hsm:sz<=4096) {v:ZB} {vs:List ZB} (hf:Instr.fill (fun j=>some (j*sz,sz)) ((Array.range (1*sz)).map (z.cells[· % z.cells.size]!)) [(0,v)]=some vs.toArray) (hvl:vs.length=sz) (hpl:vs.all cX=true)
  {b:Nat} {p:ZC} {l c:Nat} {xs:List (List ZB)} (s:SL h b e sz p l c xs) (hb:b<=h.size) (hby:(2*(l+1)+1024)*by'<=2^48) (hl:l+1<=2^48)
  (hk:∀ p' c' h',SL h' b e sz p' (l+1) c' (xs++[vs])->Ch (aP p) h h'->(p'=p\/∃ a,p'=some a/\h.size<=a.block)->k p' (l+1) c' L K h') :
  T.ek P (Instr.buildSlice t 1 #[(0,v)]) false [(false,[.slice 0])] (fun q m cc=>T.ek P (Builtin.append_ #[t,t] ty #[.slice p l c,.slice q m cc]) false [(false,[.slice 0])] k) L K h:=by
 obtain ⟨i,hi,hz,rfl,rfl⟩:=ou hinf;refine dt (jB ht hi hz ad ad hf ?_);intro h1 b1 e1 z1;refine ⟨_,_,_,rfl,dt ?_⟩;have s1:SL h1 b e i.size p l c xs:=s.an e1 aj;have hpb:∀ a,p=some a->a.block<h.size:=by
  intro a ha;subst ha;obtain ⟨g,pre,rest,rfl,hbg,hlc,hbox,hr⟩:=s.2.2;exact hbox.lt
 refine nZ (ys:=[vs]) ht hi hz hzs s1 rfl (by simpa using hvl) (b1.cells _ aj) (by simpa using hpl) (by simpa using hby) (by simpa using hl) (by rw [z1]; omega) ?_;intro p' c' h2 s2 c2 hp';refine ⟨p',l+1,c',rfl,hk p' c' h2 s2 (Ch.trans (e1.mono aj) c2 (fun i hi _=>hi)) ?_⟩;rcases hp' with hp' | ⟨a,ha,hge⟩
 ·exact .inl hp'
 ·exact .inr ⟨a,ha,ad⟩
end append
end Go.Sx
