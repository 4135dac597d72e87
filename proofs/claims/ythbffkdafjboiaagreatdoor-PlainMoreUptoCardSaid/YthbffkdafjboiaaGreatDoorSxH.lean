/- Part of the framework. No condition. -/
import Derived.Test.YthbffkdafjboiaaGreatDoorSxL
set_option linter.all false
set_option maxHeartbeats 4000000
namespace Go.Sx
structure Ch (ws:List Nat) (h h':Hp):Prop where
 size:h.size<=h'.size
 same:∀ i,i<h.size->i∉ws->h'[i]?=h[i]?
abbrev Ext (h h':Hp):Prop:=Ch [] h h'
def Ch.refl (ws:List Nat) (h:Hp):Ch ws h h:=⟨Zh _,fun _ _ _=>rfl⟩
def Ch.trans {ws vs:List Nat} {a b c:Hp} (h:Ch ws a b) (k:Ch vs b c) (hv:∀ i,i∈vs->i<a.size->i∈ws):Ch ws a c :=
 ⟨ZW h.size k.size,fun i hi hw=>(k.same i (Nat.lt_of_lt_of_le hi h.size) fun hm=>hw (hv i hm hi)).trans (h.same i hi hw)⟩
def Ch.mono {ws vs:List Nat} {a b:Hp} (h:Ch ws a b) (hv:∀ i,i∈ws->i<a.size->i∈vs):Ch vs a b:=⟨h.size,fun i hi hw=>h.same i hi fun hm=>hw (hv i hm hi)⟩
def Ext.trans {a b c:Hp} (h:Ext a b) (k:Ext b c):Ext a c:=Ch.trans h k aj
def bR {ws vs:List Nat} {a b c:Hp} (h:Ch ws a b) (k:Ch vs b c) (hv:∀ i,i∈vs->i<a.size->i∈ws:=by intro i hi hl; simp at hi; omega):Ch ws a c:=Ch.trans h k hv
def Ext.push (h:Hp) (o:Obj):Ext h (h.push o):=⟨aj,fun i hi _=>by rw [Array.getElem?_push,Y2 ad]⟩
def fj {h:Hp} {g:Nat} {o:Obj} (j:h[g]?=some o):g<h.size:=by
 rcases ZS g h.size with hl | hl
 ·exact hl
 ·rw [ZT hl] at j; cases j
def Ch.get {ws:List Nat} {h h':Hp} (k:Ch ws h h') {g:Nat} {o:Obj} (j:h[g]?=some o) (hw:g∉ws):h'[g]?=some o:=(k.same g (fj j) hw).trans j
def bF (h:Hp) (g:Nat) (e:TypeId) (xs:List Xab):Prop:=h[g]?=some (.cells xs.toArray e (0,0))
def bF.lt {h:Hp} {g:Nat} {e:TypeId} {xs:List Xab} (b:bF h g e xs):g<h.size:=fj b
def bF.ak {ws:List Nat} {h h':Hp} {g:Nat} {e:TypeId} {xs:List Xab} (b:bF h g e xs) (k:Ch ws h h') (hw:g∉ws):bF h' g e xs:=k.get b hw
def bF.new (h:Hp) (e:TypeId) (xs:List Xab):bF (h.push (.cells xs.toArray e (0,0))) h.size e xs:=by
 unfold bF; rw [Array.getElem?_push_size]
def iN {h:Hp} {g off:Nat} {c:Array Xab} {e:TypeId} {f:Nat × Nat} (j:h[g]?=some (.cells c e f)):ij h ⟨g,off,none⟩=c[off]?:=by
 unfold ij; simp only [j]; rfl
def bF.cell {h:Hp} {g off:Nat} {e:TypeId} {xs:List Xab} (b:bF h g e xs):ij h ⟨g,off,none⟩=xs[off]?:=by
 rw [iN b]; simp
def bF.frozen {h:Hp} {g off:Nat} {e:TypeId} {xs:List Xab} (b:bF h g e xs):vu h ⟨g,off,none⟩=false:=by
 unfold vu; unfold bF at b; simp only [b]; simp
def aE (g off i:Nat):(⟨g,off,none⟩:Xax).add i=⟨g,off+i,none⟩:=by
 unfold Addr.add;split
 ·subst_vars; rfl
 ·rfl
def ig (a:Xax) (i:Nat):(a.add i).block=a.block:=by
 unfold Addr.add;split <;> rfl
def GO {ws:List Nat} {h h':Hp} {a:Xax} {v:Xab} (hc:ij h a=some v) (k:Ch ws h h') (hw:a.block∉ws):ij h' a=some v:=by
 unfold ij at hc ⊢;split at hc
 ·rename_i c e f j;rw [k.get j hw]; exact hc
 ·cases hc
theorem aT {ws:List Nat} {h h':Hp} {a:Xax} (k:Ch ws h h') (hw:a.block∉ws):∀ (vs:List Xab) (i:Nat),aI h a i vs->aI h' a i vs
 | [],_,_=>trivial
 | v::vs,i,hc=>⟨GO hc.1 k (by rw [ig]; exact hw),aT k hw vs (i+1) hc.2⟩
theorem bF.cells_from {h:Hp} {g off:Nat} {e:TypeId} {xs:List Xab} (b:bF h g e xs):∀ (vs:List Xab) (i:Nat),(∀ j,j<vs.length->xs[off+(i+j)]?=vs[j]?)->aI h ⟨g,off,none⟩ i vs
 | [],_,_=>trivial
 | v::vs,i,hv=>by
  refine ⟨?_,b.cells_from vs (i+1) fun j u=>?_⟩
  ·rw [aE,b.cell];exact hv 0 aj
  ·have:=hv (j+1) (by simpa using u)
   rw [bv9] at this;rw [<- this]; congr 1; omega
def bF.cells {h:Hp} {g off:Nat} {e:TypeId} {xs:List Xab} (b:bF h g e xs) (vs:List Xab) (hv:(xs.drop off).take vs.length=vs):aI h ⟨g,off,none⟩ 0 vs:=by
 refine b.cells_from vs 0 fun j u=>?_
 have:((xs.drop off).take vs.length)[j]?=vs[j]?:=by rw [hv]
 rw [bp9,Y8 u,bc9] at this;rw [<- this]; congr 1; omega
def lz (xs:List Xab):Nat->List Xab->List Xab
 | _,[]=>xs
 | i,v::vs=>lz (xs.set i v) (i+1) vs
theorem mK:∀ (vs xs:List Xab) (i:Nat),(lz xs i vs).length=xs.length
 | [],_,_=>rfl
 | v::vs,xs,i=>by simp [lz,mK vs]
theorem pH:∀ (vs xs:List Xab) (i:Nat),i+vs.length<=xs.length->lz xs i vs=xs.take i++vs++xs.drop (i+vs.length)
 | [],xs,i,_=>by simp [lz]
 | v::vs,xs,i,h=>by
  simp only [List.length_cons] at h;rw [lz,pH vs (xs.set i v) (i+1) (by rw [Z5]; omega)];rw [List.take_set,List.drop_set_of_lt (show i<i+1+vs.length from ad)];have e1:(xs.take (i+1)).set i v=xs.take i++[v]:=by
   rw [Y3 ad,List.set_append_right _ _ (by simp; omega)];simp [Nat.min_eq_left (by omega:i<=xs.length)]
  rw [e1];simp only [List.append_assoc,List.cons_append,List.nil_append,List.length_cons];rw [show i+1+vs.length=i+(vs.length+1) from ad]
def O0 {h:Hp} {g off:Nat} {e:TypeId} {xs:List Xab} (b:bF h g e xs) (v:Xab):bF (kR h ⟨g,off,none⟩ v) g e (xs.set off v)/\Ch [g] h (kR h ⟨g,off,none⟩ v)/\(kR h ⟨g,off,none⟩ v).size=h.size:=by
 unfold kR;refine ⟨?_,⟨aj,fun i hi hw=>?_⟩,aj⟩
 ·unfold bF at b ⊢;rw [Array.getElem?_modify,Y8 rfl,b]
  simp
 ·rw [Array.getElem?_modify,Y2 (by simp at hw; exact fun e=>hw e.symm)]
theorem lB {g off:Nat} {e:TypeId}:∀ (vs:List Xab) (h:Hp) (i:Nat) (xs:List Xab),bF h g e xs->vs.all cO=true->off+i+vs.length<=xs.length ->
  yb h ⟨g,off,none⟩ i vs/\bF (rN h ⟨g,off,none⟩ i vs) g e (lz xs (off+i) vs)/\Ch [g] h (rN h ⟨g,off,none⟩ i vs)/\(rN h ⟨g,off,none⟩ i vs).size=h.size
 | [],h,i,xs,b,_,_=>⟨trivial,b,Ch.refl _ _,rfl⟩
 | v::vs,h,i,xs,b,j,hl=>by
  simp only [List.all_cons,Bool.and_eq_true,List.length_cons] at j hl;obtain ⟨b1,u,z1⟩:=O0 (off:=off+i) b v;obtain ⟨G,J,O,U⟩:=lB (off:=off) vs (kR h ⟨g,off+i,none⟩ v) (i+1) (xs.set (off+i) v) b1 j.2 (by rw [Z5]; omega);unfold yb rN;rw [aE];refine ⟨⟨j.1,⟨xs[off+i]'ad,?_⟩,b.frozen,G⟩,J,u.trans O aj,U.trans z1⟩;rw [b.cell,Y1]
section rules
variable {P:Program} {L:Lp} {K:Xab->Hp->Prop} {h:Hp}
def ar {g off:Nat} {e:TypeId} {xs vs:List Xab} {k:T} (b:bF h g e xs) (j:vs.all cO=true) (hl:off+vs.length<=xs.length)
  (hk:∀ h',bF h' g e (lz xs off vs)->Ch [g] h h'->h'.size=h.size->k L K h'):T.aC ⟨g,off,none⟩ vs k L K h:=by
 obtain ⟨u,G,J,O⟩:=lB (off:=off) vs h 0 xs b j hl;exact ⟨u,hk _ G J O⟩
def af {g off:Nat} {e:TypeId} {xs:List Xab} {ds:List TypeDesc} {k:Ea ds T} (b:bF h g e xs) (x:qt ds) (hv:(xs.drop off).take (ef ds x).length=ef ds x) (hk:EA _ k x L K h) :
  T.ah ⟨g,off,none⟩ ds k L K h:=az x (b.cells _ hv) hk
def iF {cs:List fJ} {first:T} {after:Ea (flat cs) T} (J:qt (flat cs)->Hp->Prop) (j:first (L++[fun vs h'=>∃ y,vs=parts cs (ef _ y)/\J y h']) K h) (u:∀ y h',J y h'->EA _ after y L K h'):T.join cs first after L K h:=⟨J,j,u⟩
def dM {lv:Nat} {vs:List Xab} {cs:List fJ} {J:qt (flat cs)->Hp->Prop} (y:qt (flat cs)) (j:L[lv]?=some (fun vs h'=>∃ y,vs=parts cs (ef _ y)/\J y h')) (hy:vs=parts cs (ef _ y)) (u:J y h):T.again lv vs L K h:=by
 unfold T.again;rw [j];exact ⟨y,hy,u⟩
def bm {cells:List Xab} {e:TypeId} {k:Xax->T} (hk:∀ h',bF h' h.size e cells->Ext h h'->h'.size=h.size+1->k ⟨h.size,0,none⟩ L K h'):T.new cells e k L K h :=
 hk _ (bF.new h e cells) (Ext.push h _) aj
def dz {s:Sem Xab} {k:Xac->Nat->Nat->T} (hs:aS P s h fun v h'=>∃ p l c,v=.slice p l c/\k p l c L K h'):T.eh P s false [(false,[.slice 0])] k L K h :=
 dO s _ _ _ (fun v h' ⟨p,l,c,hv,hk⟩=>⟨((p,l,c),()),hv,hk⟩) hs
def nX {s:Sem Xab} {b:Bool} {k:Bool->T} (hs:∀ K':Xab->Hp->Prop,K' (.bool b) h->aS P s h K') (hk:k b L K h):T.eh P s false [(false,[.bool])] k L K h :=
 hs _ ⟨(b,()),rfl,hk⟩
end rules
def oK {P:Program} {t:TypeId} {z:Xab} {s b:Nat} (h:(P.info? t).map (fun i=>(i.zero,i.size,i.bytes))=some (some z,s,b)):∃ i,P.info? t=some i/\i.zero=some z/\i.size=s/\i.bytes=b:=by
 cases hi:P.info? t with
 | none=>rw [hi] at h; cases h
 | some i =>
  rw [hi] at h;simp only [Option.map_some,Option.some.injEq,Prod.mk.injEq] at h;exact ⟨i,rfl,h.1,h.2.1,h.2.2⟩
def bd {P:Program} {f:FuncId} {fn:Func} {cuts:List Nat} {args:List Xab} {h:Hp} {R:Xab->Hp->Prop} {t:T} (hm:P.follows .mixedOrders=true) (j:P.funcs[f]?=some fn) (hl:Nat.ble args.length fn.ntmps=true)
  (u:bT P cuts fn args=t) (G:t [] R h):HC P f args.toArray h R:=SQ hm j hl (by rw [u]; exact G)
def SL (h:Hp) (b:Nat) (e:TypeId) (sz:Nat) (p:Xac) (l c:Nat) (xs:List (List Xab)):Prop :=
 l=xs.length/\(∀ x,x∈xs->x.length=sz) /\
 match p with
 | none=>c=0/\xs=[]
 | some a=>∃ g j rest,a=⟨g,j.length,none⟩/\b<=g/\(l<=c/\c<9223372036854775808)/\bF h g e (j++(xs.flatten++rest))/\rest.length=(c-l)*sz
def aM (p:Xac):List Nat :=
 match p with
 | none=>[]
 | some a=>[a.block]
def SL.nil (h:Hp) (b:Nat) (e:TypeId) (sz:Nat):SL h b e sz none 0 0 []:=⟨rfl,aj,rfl,rfl⟩
def SL.ak {ws:List Nat} {h h':Hp} {b:Nat} {e:TypeId} {sz:Nat} {p:Xac} {l c:Nat} {xs:List (List Xab)} (s:SL h b e sz p l c xs) (k:Ch ws h h') (hw:∀ a,p=some a->a.block∉ws):SL h' b e sz p l c xs:=by
 refine ⟨s.1,s.2.1,?_⟩;cases p with
 | none=>exact s.2.2
 | some a =>
  obtain ⟨g,u,rest,J,hb,G,j,O⟩:=s.2.2;exact ⟨g,u,rest,J,hb,G,j.ak k (by have:=hw a rfl; rw [J] at this; exact this),O⟩
def SL.mono {h:Hp} {b b':Nat} {e:TypeId} {sz:Nat} {p:Xac} {l c:Nat} {xs:List (List Xab)} (s:SL h b e sz p l c xs) (u:b'<=b):SL h b' e sz p l c xs:=by
 refine ⟨s.1,s.2.1,?_⟩;cases p with
 | none=>exact s.2.2
 | some a =>
  obtain ⟨g,G,rest,O,hb,J,j,U⟩:=s.2.2;exact ⟨g,G,rest,O,ZW u hb,J,j,U⟩
theorem fe {sz:Nat}:∀ (xs:List (List Xab)),(∀ x,x∈xs->x.length=sz)->xs.flatten.length=xs.length*sz
 | [],_=>aj
 | x::xs,h=>by
  rw [bg9,Y4,h x aj,fe xs (fun y hy=>h y (by simp [hy])),ZP,Z9];omega
theorem ni {sz:Nat}:∀ (xs:List (List Xab)) (i:Nat) (rest:List Xab),(∀ x,x∈xs->x.length=sz)->(hi:i<xs.length)->((xs.flatten++rest).drop (i*sz)).take sz=xs[i]
 | [],i,_,_,hi=>by simp at hi
 | x::xs,0,rest,h,_=>by
  have hx:x.length=sz:=h x aj;simp [<- hx]
 | x::xs,i+1,rest,h,hi=>by
  have hx:x.length=sz:=h x aj
  have:(i+1)*sz=x.length+i*sz:=by rw [Z9,hx]; omega
  rw [this,bg9,Zr,<- List.drop_drop,bq9];simpa using ni xs i rest (fun y hy=>h y (by simp [hy])) (by simpa using hi)
def SL.cr {h:Hp} {b:Nat} {e:TypeId} {sz:Nat} {p:Xac} {l c:Nat} {xs:List (List Xab)} (s:SL h b e sz p l c xs) {i:Nat} (hi:i∈aM p):b<=i/\i<h.size:=by
 cases p with
 | none=>simp [aM] at hi
 | some a =>
  obtain ⟨g,G,rest,rfl,u,J,j,O⟩:=s.2.2;simp [aM] at hi;subst hi;exact ⟨u,j.lt⟩
def SL.bM {ws:List Nat} {h h':Hp} {b:Nat} {e:TypeId} {sz:Nat} {p:Xac} {l c:Nat} {xs:List (List Xab)} (s:SL h b e sz p l c xs) (k:Ch ws h h') (hw:∀ i,i∈aM p->i∉ws):SL h' b e sz p l c xs :=
 s.ak k fun a j=>hw _ (by rw [j]; simp [aM])
def SL.cells {h:Hp} {b:Nat} {e:TypeId} {sz:Nat} {p:Xac} {l c:Nat} {xs:List (List Xab)} (s:SL h b e sz p l c xs) {i:Nat} (hi:i<xs.length) :
  ∃ a,p=some a/\aI h (a.add (i*sz)) 0 xs[i]:=by
 cases p with
 | none=>have:=s.2.2.2; subst this; simp at hi
 | some a =>
  obtain ⟨g,u,rest,rfl,hb,G,j,J⟩:=s.2.2;refine ⟨_,rfl,?_⟩;rw [aE];refine j.cells _ ?_;rw [s.2.1 _ (Y9 hi),<- List.drop_drop,bq9];exact ni xs i rest s.2.1 hi
def zc {A X B vs:List Xab} (h:X.length=vs.length):lz (A++(X++B)) A.length vs=A++(vs++B):=by
 rw [pH _ _ _ (by simp; omega),bw9,Zr,<- List.drop_drop,bq9,<- h,bq9]
def SL.store {P:Program} {L:Lp} {K:Xab->Hp->Prop} {k:T} {h:Hp} {b:Nat} {e:TypeId} {sz:Nat} {p:Xac} {l c:Nat} {xs:List (List Xab)} (s:SL h b e sz p l c xs) {i:Nat} (hi:i<xs.length) {vs:List Xab} (hv:vs.length=sz)
  (X:vs.all cO=true) {a:Xax} (Y:p=some a) (hk:∀ h',SL h' b e sz p l c (xs.set i vs)->Ch (aM p) h h'->h'.size=h.size->k L K h'):T.aC (a.add (i*sz)) vs k L K h:=by
 subst Y;obtain ⟨g,j,rest,rfl,O,U,u,Z⟩:=s.2.2;have hx:(xs.take i).flatten.length=i*sz:=by
  rw [fe _ (fun x hx=>s.2.1 x (Z7 hx)),Zp,ac9 ad]
 have e1:j++(xs.flatten++rest)=(j++(xs.take i).flatten)++(xs[i]++((xs.drop (i+1)).flatten++rest)):=by
  have e0:xs.flatten=(xs.take i).flatten++(xs[i]++(xs.drop (i+1)).flatten):=by
   conv=>lhs; rw [<- ZL i xs,Zg hi]
   rw [List.flatten_append,bg9]
  rw [e0];simp only [List.append_assoc]
 have e2:(xs.set i vs).flatten=(xs.take i).flatten++(vs++(xs.drop (i+1)).flatten):=by
  rw [List.set_eq_take_append_cons_drop,Y8 hi]
  simp
 have V:xs[i].length=vs.length:=by rw [hv]; exact s.2.1 _ (Y9 hi)
 rw [e1] at u;rw [aE];have G:(j++(xs.take i).flatten).length=j.length+i*sz:=by rw [Y4,hx]
 rw [<- G];refine ar u X (by simp; omega) ?_;intro h' J k' z';rw [zc V] at J;refine hk h' ⟨by rw [Z5]; exact s.1,fun x hx=>?_,g,j,rest,rfl,O,U,?_,Z⟩ (by simpa [aM] using k') z'
 ·rcases ai9 hx with hx | rfl
  ·exact s.2.1 x hx
  ·exact hv
 ·rw [e2];simpa [List.append_assoc] using J
def nS {P:Program} {α β:Type} (f:α->β) (s:Sem α) (h:Hp) (K:β->Hp->Prop):aS P (f <$> s) h K=aS P s h fun a h'=>K (f a) h':=by
 have:f <$> s=s >>= fun a=>pure (f a):=by rw [<- bind_pure_comp]
 rw [this,ao]; rfl
section append
variable {P:Program} {h:Hp} {K:Xab->Hp->Prop}
def jN {t e:TypeId} {n:Nat} {parts:Array (Nat × Xab)} {i:TypeInfo} {z:Xab} {cells:Array Xab} (u:P.underlying t=some (.slice e)) (hi:P.info? e=some i) (G:i.zero=some z)
  (hn:n*i.size≠0) (hb:n*i.size<=2^24)
  (J:Instr.fill (fun j=>some (j*i.size,i.size)) ((Array.range (n*i.size)).map (z.cells[· % z.cells.size]!)) parts.toList=some cells)
  (hk:∀ h',bF h' h.size e cells.toList->Ext h h'->h'.size=h.size+1->K (.slice (some ⟨h.size,0,none⟩) n n) h'):aS P (Instr.buildSlice t n parts) h K:=by
 unfold Instr.buildSlice;rw [ao,aF u];simp only;rw [ao,cd hi,cI hi];rw [Y2 ad,Y2 hn];rw [ao,dt (z:=z) (by rw [hi]; exact G)];show aS P (match Instr.fill (fun j=>some (j*i.size,i.size)) ((Array.range (n*i.size)).map (z.cells[· % z.cells.size]!)) parts.toList with
  | some cells=>do
   let d <- newRow e cells
   pure (Value.slice (some d) n n)
  | _ => stuck "buildSlice: a part of the wrong size") h K
 rw [J];refine hk _ ?_ (Ext.push h _) aj;exact bF.new h e cells.toList
def JO (need:Nat):∀ (n c:Nat),c<=2*need+1024->0<n->Builtin.growBy need n c<=2*need+1024:=by
 intro n
 induction n with
 | zero=>intro c h h0; omega
 | succ n j =>
  intro c h _;unfold Builtin.growBy;split
  ·exact h
  ·rename_i u;cases n with
   | zero=>unfold Builtin.growBy; omega
   | succ n=>exact j _ ad ad
def AN {need old:Nat} (h:old<need):Builtin.nextslicecap need old<=2*need+1024:=by
 unfold Builtin.nextslicecap;split
 ·omega
 ·split
  ·omega
  ·exact JO need 4 old ad ad
def qC (z:Array Xab) (n:Nat):(Builtin.zeroCells z n).size=n*z.size:=by
 unfold Builtin.zeroCells; simp
def IG (need old:Nat) (e:TypeId) (t:Nat):need<=(Question.appendCap need old e).cut t/\(need<9223372036854775808->(Question.appendCap need old e).cut t<9223372036854775808):=by
 show need<=need+t % (2^63-need)/\(need<9223372036854775808->need+t % (2^63-need)<9223372036854775808);refine ⟨ad,fun h=>?_⟩
 have:=ct9 t (show 0<2^63-need from ad)
 omega
def ox {t ty e:TypeId} {i:TypeInfo} {z:Xab} (ht:P.underlying t=some (.slice e)) (hi:P.info? e=some i) (hz:i.zero=some z) (hzs:z.cells.size=i.size)
  {b:Nat} {p:Xac} {l c:Nat} {xs ys:List (List Xab)} (s:SL h b e i.size p l c xs) {a:Xax} {m cc:Nat} (hm:m=ys.length) (hys:∀ y,y∈ys->y.length=i.size)
  (hc:aI h a 0 ys.flatten) (hp:ys.flatten.all cO=true) (hby:(2*(l+m)+1024)*i.bytes<=2^48) (hl:l+m<=2^48) (hb:b<=h.size)
  (hk:∀ p' c' h',SL h' b e i.size p' (l+m) c' (xs++ys)->Ch (aM p) h h'->(p'=p\/∃ a,p'=some a/\h.size<=a.block)->K (.slice p' (l+m) c') h') :
  aS P (Builtin.append_ #[t,t] ty #[.slice p l c,.slice (some a) m cc]) h K:=by
 have u:ys.flatten.length=m*i.size:=by rw [fe ys hys,hm]
 have U:xs.flatten.length=l*i.size:=by rw [fe xs s.2.1,s.1]
 have X:∀ x,x∈xs++ys->x.length=i.size:=fun x hx=>(Zk.1 hx).elim (s.2.1 x) (hys x)
 have Y:l+m=(xs++ys).length:=by rw [Y4,<- s.1,hm]
 have hz':(P.info? e).bind (·.zero)=some z:=by rw [hi]; exact hz
 by_cases j:l+m<=c
 ·simp [Builtin.append_,ao,aF ht,cd hi,cI hi,Builtin.lenOf,Builtin.firstCells,j];refine dJ u hc _ ?_;cases p with
  | none =>
   have h1:c=0:=s.2.2.1;have h2:ys=[]:=Z4 ad;subst h2;rw [ZQ] at hk;have h3:m=0:=ad
   subst h3;exact hk none c h s (Ch.refl _ _) (.inl rfl)
  | some a1 =>
   obtain ⟨g,G,rest,rfl,hbg,hlc,J,hr⟩:=s.2.2;have hfl:(xs.flatten++rest).length=c*i.size:=by
    rw [Y4,U,hr,<- Z9]; congr 1; omega
   have hle:l*i.size+m*i.size<=c*i.size:=by rw [<- Z9]; exact ag9 _ j
   simp only;rw [aE,nS];obtain ⟨k1,k2,k3,k4⟩:=lB (off:=G.length+l*i.size) ys.flatten h 0 _ J hp (by rw [Y4,hfl,u]; omega);refine fB _ _ _ _ _ k1 ?_;refine hk _ c _ ⟨Y,X,g,G,rest.drop (m*i.size),rfl,hbg,⟨j,hlc.2⟩,?_,?_⟩ k3 (.inl rfl)
   ·rw [pH _ _ _ (by rw [Y4,hfl,u]; omega),cv9,<- U,<- Zr,<- Y4,bw9,List.drop_append,u] at k2;rw [ar9 ad,aq9,show (G++xs.flatten).length+m*i.size-(G++xs.flatten).length=m*i.size from ad] at k2;rw [List.flatten_append];rw [Y4,U] at k2;simp only [List.append_assoc] at k2 ⊢;exact k2
   ·rw [Z2,hr,<- Nat.sub_mul]; congr 1; omega
 ·have hcap:¬ 281474976710656<Builtin.nextslicecap (l+m) c*i.bytes:=by
   have h1:=AN (need:=l+m) (old:=c) ad;have h2:=ag9 i.bytes h1;have h3:(2:Nat)^48=281474976710656:=rfl;omega
  have hbig:¬ (9223372036854775807<(l:Int)+(m:Int)/\i.bytes=0):=by
   have h3:(2:Nat)^48=281474976710656:=rfl;omega
  simp [Builtin.append_,ao,aF ht,cd hi,cI hi,Builtin.lenOf,Builtin.firstCells,j,gM hi,dt hz',askRoom,hbig,hcap];intro tt;have Z:=IG (l+m) c e tt;generalize (Question.appendCap (l+m) c e).cut tt=nc at Z;show aS P (if roomBytes<nc*i.bytes then mark Mark.noRoom else pure ()) h _;have V:∀ K':Unit->Hp->Prop,K' () h->aS P (if roomBytes<nc*i.bytes then mark Mark.noRoom else pure ()) h K':=by
   intro K' O;split
   ·exact O
   ·exact O
  refine V _ ?_
  have hold:∀ K':Array Xab->Hp->Prop,K' xs.flatten.toArray h->aS P (match Value.slice p l c with
    | Value.slice (some a) len cap=>loadCells a (l*i.size)
    | Value.slice none len cap=>pure #[]
    | Value.string s=>pure ((Array.map (fun b=>Value.int IntKind.u8 ↑b.toNat) s.data).extract 0 l)
    | x => stuck "slice or string expected") h K' := by
   intro K' O;cases p with
   | none =>
    have:xs=[]:=s.2.2.2
    subst this;exact O
   | some a1 =>
    obtain ⟨g,G,rest,rfl,hbg,hlc,J,hr⟩:=s.2.2;refine dJ U (J.cells _ ?_) _ O;rw [bq9,bw9]
  refine hold _ ?_;refine dJ u hc _ ?_;rw [nS];refine hk (some ⟨h.size,0,none⟩) nc _ ⟨Y,X,h.size,[],(Builtin.zeroCells z.cells (nc-(l+m))).toList,rfl,hb,⟨Z.1,Z.2 ad⟩,?_,?_⟩ ((Ext.push h _).mono aj) (.inr ⟨_,rfl,Zh _⟩)
  ·have e1:xs.flatten.toArray++(ys.flatten.toArray++Builtin.zeroCells z.cells (nc-(l+m)))=((xs++ys).flatten++(Builtin.zeroCells z.cells (nc-(l+m))).toList).toArray:=by
    apply ZK.1; simp
   rw [e1];exact bF.new h e _
  ·rw [aa9,qC,hzs]
def gU {L:Lp} {K:Xab->Hp->Prop} {k:Xac->Nat->Nat->T} {t ty e:TypeId} {z:Xab} {sz by':Nat} {st:List (Xax × List Xab)} (Y:P.underlying t=some (.slice e)) (G:(P.info? e).map (fun i=>(i.zero,i.size,i.bytes))=some (some z,sz,by'))
  (J:z.cells.size=sz) (hs0:sz≠0) (hsm:sz<=4096) {v:Xab} {vs:List Xab} (hf:Instr.fill (fun j=>some (j*sz,sz)) ((Array.range (1*sz)).map (z.cells[· % z.cells.size]!)) [(0,v)]=some vs.toArray) (O:vs.length=sz) (U:vs.all cO=true)
  {b:Nat} {p:Xac} {l c:Nat} {xs:List (List Xab)} (s:SL h b e sz p l c xs) (hb:b<=h.size) (V:(2*(l+1)+1024)*by'<=2^48) (hl:l+1<=2^48) (X:∀ h',Ext h h'->T.DF h' st)
  (hk:∀ p' c' h',SL h' b e sz p' (l+1) c' (xs++[vs])->Ch (aM p) h h'->(p'=p\/∃ a,p'=some a/\h.size<=a.block)->k p' (l+1) c' L K h') :
  T.eh P (Instr.buildSlice t 1 #[(0,v)]) false [(false,[.slice 0])] (fun q m cc=>T.bi st (T.eh P (Builtin.append_ #[t,t] ty #[.slice p l c,.slice q m cc]) false [(false,[.slice 0])] k)) L K h:=by
 obtain ⟨i,hi,Z,rfl,rfl⟩:=oK G;refine dz (jN Y hi Z ad ad hf ?_);intro h1 b1 e1 z1;refine ⟨_,_,_,rfl,X _ e1,dz ?_⟩;have s1:SL h1 b e i.size p l c xs:=s.ak e1 aj;refine ox (ys:=[vs]) Y hi Z J s1 rfl (by simpa using O) (b1.cells _ aj) (by simpa using U) (by simpa using V) (by simpa using hl) (by rw [z1]; omega) ?_;intro p' c' h2 s2 c2 u;refine ⟨p',l+1,c',rfl,hk p' c' h2 s2 (Ch.trans (e1.mono aj) c2 (fun i hi _=>hi)) ?_⟩;rcases u with u | ⟨a,ha,hge⟩
 ·exact .inl u
 ·exact .inr ⟨a,ha,ad⟩
def km {L:Lp} {K:Xab->Hp->Prop} {k:Xac->Nat->Nat->T} {t e:TypeId} {n:Nat} {parts:Array (Nat × Xab)} {z:Xab} {sz by':Nat} (G:P.underlying t=some (.slice e)) (u:(P.info? e).map (fun i=>(i.zero,i.size,i.bytes))=some (some z,sz,by'))
  (hn:n*sz≠0) (hb:n*sz<=2^24) {cells:List Xab} (J:Instr.fill (fun j=>some (j*sz,sz)) ((Array.range (n*sz)).map (z.cells[· % z.cells.size]!)) parts.toList=some cells.toArray)
  (hk:∀ h',bF h' h.size e cells->Ext h h'->h'.size=h.size+1->k (some ⟨h.size,0,none⟩) n n L K h'):T.eh P (Instr.buildSlice t n parts) false [(false,[.slice 0])] k L K h:=by
 obtain ⟨i,hi,O,rfl,rfl⟩:=oK u;exact dz (jN G hi O hn hb J fun h' b e z=>⟨_,_,_,rfl,hk h' b e z⟩)
def mz {L:Lp} {K:Xab->Hp->Prop} {k:Xac->Nat->Nat->T} {t ty e:TypeId} {z:Xab} {sz by':Nat} (Z:P.underlying t=some (.slice e)) (G:(P.info? e).map (fun i=>(i.zero,i.size,i.bytes))=some (some z,sz,by'))
  (O:z.cells.size=sz) (hs0:sz≠0) (hsm:sz<=4096) {v:Xab} {vs:List Xab} (hf:Instr.fill (fun j=>some (j*sz,sz)) ((Array.range (1*sz)).map (z.cells[· % z.cells.size]!)) [(0,v)]=some vs.toArray) (U:vs.length=sz) (V:vs.all cO=true)
  {b:Nat} {p:Xac} {l c:Nat} {xs:List (List Xab)} (s:SL h b e sz p l c xs) (hb:b<=h.size) (X:(2*(l+1)+1024)*by'<=2^48) (hl:l+1<=2^48)
  (hk:∀ p' c' h',SL h' b e sz p' (l+1) c' (xs++[vs])->Ch (aM p) h h'->(p'=p\/∃ a,p'=some a/\h.size<=a.block)->k p' (l+1) c' L K h') :
  T.eh P (Instr.buildSlice t 1 #[(0,v)]) false [(false,[.slice 0])] (fun q m cc=>T.eh P (Builtin.append_ #[t,t] ty #[.slice p l c,.slice q m cc]) false [(false,[.slice 0])] k) L K h:=by
 obtain ⟨i,hi,hz,rfl,rfl⟩:=oK G;refine dz (jN Z hi hz ad ad hf ?_);intro h1 b1 e1 z1;refine ⟨_,_,_,rfl,dz ?_⟩;have s1:SL h1 b e i.size p l c xs:=s.ak e1 aj;have hpb:∀ a,p=some a->a.block<h.size:=by
  intro a Y;subst Y;obtain ⟨g,pre,rest,rfl,hbg,hlc,J,hr⟩:=s.2.2;exact J.lt
 refine ox (ys:=[vs]) Z hi hz O s1 rfl (by simpa using U) (b1.cells _ aj) (by simpa using V) (by simpa using X) (by simpa using hl) (by rw [z1]; omega) ?_;intro p' c' h2 s2 c2 u;refine ⟨p',l+1,c',rfl,hk p' c' h2 s2 (Ch.trans (e1.mono aj) c2 (fun i hi _=>hi)) ?_⟩;rcases u with u | ⟨a,Y,hge⟩
 ·exact .inl u
 ·exact .inr ⟨a,Y,ad⟩
end append
end Go.Sx
