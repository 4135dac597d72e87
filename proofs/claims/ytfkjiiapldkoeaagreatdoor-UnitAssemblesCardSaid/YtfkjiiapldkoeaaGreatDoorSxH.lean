/- Part of the framework. No condition. -/
import Derived.Test.YtfkjiiapldkoeaaGreatDoorSxL
set_option linter.all false
set_option maxHeartbeats 4000000
namespace Go.Sx
structure Ch (ws:List Nat) (h h':Hp):Prop where
 size:h.size<=h'.size
 same:∀ i,i<h.size->i∉ws->h'[i]?=h[i]?
abbrev Ext (h h':Hp):Prop:=Ch [] h h'
def Ch.refl (ws:List Nat) (h:Hp):Ch ws h h:=⟨OP _,fun _ _ _=>rfl⟩
def Ch.trans {ws vs:List Nat} {a b c:Hp} (h:Ch ws a b) (k:Ch vs b c) (hv:∀ i,i∈vs->i<a.size->i∈ws):Ch ws a c :=
 ⟨Pb h.size k.size,fun i hi hw=>(k.same i (PE hi h.size) fun hm=>hw (hv i hm hi)).trans (h.same i hi hw)⟩
def Ch.mono {ws vs:List Nat} {a b:Hp} (h:Ch ws a b) (hv:∀ i,i∈ws->i<a.size->i∈vs):Ch vs a b:=⟨h.size,fun i hi hw=>h.same i hi fun hm=>hw (hv i hm hi)⟩
def Ext.trans {a b c:Hp} (h:Ext a b) (k:Ext b c):Ext a c:=Ch.trans h k aj
def Ext.push (h:Hp) (o:Obj):Ext h (h.push o):=⟨aj,fun i hi _=>by rw [Array.getElem?_push,OG ae]⟩
def q9 {h:Hp} {g:Nat} {o:Obj} (hg:h[g]?=some o):g<h.size:=by
 rcases Po g h.size with hl | hl
 ·exact hl
 ·rw [Pv hl] at hg; cases hg
def Ch.get {ws:List Nat} {h h':Hp} (k:Ch ws h h') {g:Nat} {o:Obj} (hg:h[g]?=some o) (hw:g∉ws):h'[g]?=some o:=(k.same g (q9 hg) hw).trans hg
def bf (h:Hp) (g:Nat) (e:TypeId) (xs:List XB):Prop:=h[g]?=some (.cells xs.toArray e (0,0))
def bf.lt {h:Hp} {g:Nat} {e:TypeId} {xs:List XB} (b:bf h g e xs):g<h.size:=q9 b
def bf.an {ws:List Nat} {h h':Hp} {g:Nat} {e:TypeId} {xs:List XB} (b:bf h g e xs) (k:Ch ws h h') (hw:g∉ws):bf h' g e xs:=k.get b hw
def bf.new (h:Hp) (e:TypeId) (xs:List XB):bf (h.push (.cells xs.toArray e (0,0))) h.size e xs:=by
 unfold bf; rw [PS]
def mJ {h:Hp} {g off:Nat} {c:Array XB} {e:TypeId} {f:Nat × Nat} (hg:h[g]?=some (.cells c e f)):fC h ⟨g,off,none⟩=c[off]?:=by
 unfold fC; simp only [hg]; rfl
def bf.cell {h:Hp} {g off:Nat} {e:TypeId} {xs:List XB} (b:bf h g e xs):fC h ⟨g,off,none⟩=xs[off]?:=by
 rw [mJ b]; simp
def bf.frozen {h:Hp} {g off:Nat} {e:TypeId} {xs:List XB} (b:bf h g e xs):ua h ⟨g,off,none⟩=false:=by
 unfold ua; unfold bf at b; simp only [b]; simp
def az (g off i:Nat):(⟨g,off,none⟩:XC).add i=⟨g,off+i,none⟩:=by
 unfold Addr.add;split
 ·subst_vars; rfl
 ·rfl
def fh (a:XC) (i:Nat):(a.add i).block=a.block:=by
 unfold Addr.add;split <;> rfl
def dZ {ws:List Nat} {h h':Hp} {a:XC} {v:XB} (hc:fC h a=some v) (k:Ch ws h h') (hw:a.block∉ws):fC h' a=some v:=by
 unfold fC at hc ⊢;split at hc
 ·rename_i c e f hg;rw [k.get hg hw]; exact hc
 ·cases hc
theorem bF {ws:List Nat} {h h':Hp} {a:XC} (k:Ch ws h h') (hw:a.block∉ws):∀ (vs:List XB) (i:Nat),bk h a i vs->bk h' a i vs
 | [],_,_=>trivial
 | v::vs,i,hc=>⟨dZ hc.1 k (by rw [fh]; exact hw),bF k hw vs (i+1) hc.2⟩
theorem bf.cells_from {h:Hp} {g off:Nat} {e:TypeId} {xs:List XB} (b:bf h g e xs):∀ (vs:List XB) (i:Nat),(∀ j,j<vs.length->xs[off+(i+j)]?=vs[j]?)->bk h ⟨g,off,none⟩ i vs
 | [],_,_=>trivial
 | v::vs,i,hv=>by
  refine ⟨?_,b.cells_from vs (i+1) fun j hj=>?_⟩
  ·rw [az,b.cell];exact hv 0 aj
  ·have:=hv (j+1) (by simpa using hj)
   rw [List.getElem?_cons_succ] at this;rw [<- this]; congr 1; omega
def bf.cells {h:Hp} {g off:Nat} {e:TypeId} {xs:List XB} (b:bf h g e xs) (vs:List XB) (hv:(xs.drop off).take vs.length=vs):bk h ⟨g,off,none⟩ 0 vs:=by
 refine b.cells_from vs 0 fun j hj=>?_
 have:((xs.drop off).take vs.length)[j]?=vs[j]?:=by rw [hv]
 rw [List.getElem?_take,OH hj,List.getElem?_drop] at this;rw [<- this]; congr 1; omega
def j8 (xs:List XB):Nat->List XB->List XB
 | _,[]=>xs
 | i,v::vs=>j8 (xs.set i v) (i+1) vs
theorem jD:∀ (vs xs:List XB) (i:Nat),(j8 xs i vs).length=xs.length
 | [],_,_=>rfl
 | v::vs,xs,i=>by simp [j8,jD vs]
theorem qZ:∀ (vs xs:List XB) (i:Nat),i+vs.length<=xs.length->j8 xs i vs=xs.take i++vs++xs.drop (i+vs.length)
 | [],xs,i,_=>by simp [j8]
 | v::vs,xs,i,h=>by
  simp only [List.length_cons] at h;rw [j8,qZ vs (xs.set i v) (i+1) (by rw [P8]; omega)];rw [List.take_set,List.drop_set_of_lt (show i<i+1+vs.length from ae)];have e1:(xs.take (i+1)).set i v=xs.take i++[v]:=by
   rw [OT ae,List.set_append_right _ _ (by simp; omega)];simp [Nat.min_eq_left (by omega:i<=xs.length)]
  rw [e1];simp only [List.append_assoc,List.cons_append,List.nil_append,List.length_cons];rw [show i+1+vs.length=i+(vs.length+1) from ae]
def Di {h:Hp} {g off:Nat} {e:TypeId} {xs:List XB} (b:bf h g e xs) (v:XB):bf (kl h ⟨g,off,none⟩ v) g e (xs.set off v)/\Ch [g] h (kl h ⟨g,off,none⟩ v)/\(kl h ⟨g,off,none⟩ v).size=h.size:=by
 unfold kl;refine ⟨?_,⟨aj,fun i hi hw=>?_⟩,aj⟩
 ·unfold bf at b ⊢;rw [PD,OH rfl,b]
  simp
 ·rw [PD,OG (by simp at hw; exact fun e=>hw e.symm)]
theorem nX {g off:Nat} {e:TypeId}:∀ (vs:List XB) (h:Hp) (i:Nat) (xs:List XB),bf h g e xs->vs.all fI=true->off+i+vs.length<=xs.length ->
  CI h ⟨g,off,none⟩ i vs/\bf (yS h ⟨g,off,none⟩ i vs) g e (j8 xs (off+i) vs)/\Ch [g] h (yS h ⟨g,off,none⟩ i vs)/\(yS h ⟨g,off,none⟩ i vs).size=h.size
 | [],h,i,xs,b,_,_=>⟨trivial,b,Ch.refl _ _,rfl⟩
 | v::vs,h,i,xs,b,hp,hl=>by
  simp only [List.all_cons,Bool.and_eq_true,List.length_cons] at hp hl;obtain ⟨b1,c1,z1⟩:=Di (off:=off+i) b v;obtain ⟨k1,k2,k3,k4⟩:=nX (off:=off) vs (kl h ⟨g,off+i,none⟩ v) (i+1) (xs.set (off+i) v) b1 hp.2 (by rw [P8]; omega);unfold CI yS;rw [az];refine ⟨⟨hp.1,⟨xs[off+i]'ae,?_⟩,b.frozen,k1⟩,k2,c1.trans k3 aj,k4.trans z1⟩;rw [b.cell,OO]
section rules
variable {P:Program} {L:Lp} {K:XB->Hp->Prop} {h:Hp}
def ap {g off:Nat} {e:TypeId} {xs vs:List XB} {k:T} (b:bf h g e xs) (hp:vs.all fI=true) (hl:off+vs.length<=xs.length)
  (hk:∀ h',bf h' g e (j8 xs off vs)->Ch [g] h h'->h'.size=h.size->k L K h'):T.ak ⟨g,off,none⟩ vs k L K h:=by
 obtain ⟨k1,k2,k3,k4⟩:=nX (off:=off) vs h 0 xs b hp hl;exact ⟨k1,hk _ k2 k3 k4⟩
def af {g off:Nat} {e:TypeId} {xs:List XB} {ds:List TypeDesc} {k:BD ds T} (b:bf h g e xs) (x:qu ds) (hv:(xs.drop off).take (gb ds x).length=gb ds x) (hk:lW _ k x L K h) :
  T.ah ⟨g,off,none⟩ ds k L K h:=aG x (b.cells _ hv) hk
def bG {cs:List fX} {first:T} {after:BD (flat cs) T} (J:qu (flat cs)->Hp->Prop) (hf:first (L++[fun vs h'=>∃ y,vs=parts cs (gb _ y)/\J y h']) K h) (ha:∀ y h',J y h'->lW _ after y L K h'):T.join cs first after L K h:=⟨J,hf,ha⟩
def aO {lv:Nat} {vs:List XB} {cs:List fX} {J:qu (flat cs)->Hp->Prop} (y:qu (flat cs)) (hL:L[lv]?=some (fun vs h'=>∃ y,vs=parts cs (gb _ y)/\J y h')) (hy:vs=parts cs (gb _ y)) (hJ:J y h):T.again lv vs L K h:=by
 unfold T.again;rw [hL];exact ⟨y,hy,hJ⟩
def bm {cells:List XB} {e:TypeId} {k:XC->T} (hk:∀ h',bf h' h.size e cells->Ext h h'->h'.size=h.size+1->k ⟨h.size,0,none⟩ L K h'):T.new cells e k L K h :=
 hk _ (bf.new h e cells) (Ext.push h _) aj
def dE {s:Sem XB} {k:Option XC->Nat->Nat->T} (hs:aV P s h fun v h'=>∃ p l c,v=.slice p l c/\k p l c L K h'):T.fb P s false [(false,[.slice 0])] k L K h :=
 dP s _ _ _ (fun v h' ⟨p,l,c,hv,hk⟩=>⟨((p,l,c),()),hv,hk⟩) hs
def cI {s:Sem XB} {b:Bool} {k:Bool->T} (hs:∀ K':XB->Hp->Prop,K' (.bool b) h->aV P s h K') (hk:k b L K h):T.fb P s false [(false,[.bool])] k L K h :=
 hs _ ⟨(b,()),rfl,hk⟩
end rules
def nI {P:Program} {t:TypeId} {z:XB} {s b:Nat} (h:(P.info? t).map (fun i=>(i.zero,i.size,i.bytes))=some (some z,s,b)):∃ i,P.info? t=some i/\i.zero=some z/\i.size=s/\i.bytes=b:=by
 cases hi:P.info? t with
 | none=>rw [hi] at h; cases h
 | some i =>
  rw [hi] at h;simp only [Option.map_some,Option.some.injEq,Prod.mk.injEq] at h;exact ⟨i,rfl,h.1,h.2.1,h.2.2⟩
def ba {P:Program} {f:FuncId} {fn:Func} {cuts:List Nat} {args:List XB} {h:Hp} {R:XB->Hp->Prop} {t:T} (hm:P.follows .mixedOrders=true) (hf:P.funcs[f]?=some fn) (hl:Nat.ble args.length fn.ntmps=true)
  (he:bD P cuts fn args=t) (ht:t [] R h):HC P f args.toArray h R:=K9 hm hf hl (by rw [he]; exact ht)
def SL (h:Hp) (b:Nat) (e:TypeId) (sz:Nat) (p:Option XC) (l c:Nat) (xs:List (List XB)):Prop :=
 l=xs.length/\(∀ x,x∈xs->x.length=sz) /\
 match p with
 | none=>c=0/\xs=[]
 | some a=>∃ g pre rest,a=⟨g,pre.length,none⟩/\b<=g/\(l<=c/\c<9223372036854775808)/\bf h g e (pre++(xs.flatten++rest))/\rest.length=(c-l)*sz
def aE (p:Option XC):List Nat :=
 match p with
 | none=>[]
 | some a=>[a.block]
def SL.nil (h:Hp) (b:Nat) (e:TypeId) (sz:Nat):SL h b e sz none 0 0 []:=⟨rfl,aj,rfl,rfl⟩
def SL.an {ws:List Nat} {h h':Hp} {b:Nat} {e:TypeId} {sz:Nat} {p:Option XC} {l c:Nat} {xs:List (List XB)} (s:SL h b e sz p l c xs) (k:Ch ws h h') (hw:∀ a,p=some a->a.block∉ws):SL h' b e sz p l c xs:=by
 refine ⟨s.1,s.2.1,?_⟩;cases p with
 | none=>exact s.2.2
 | some a =>
  obtain ⟨g,pre,rest,ha,hb,hlc,hbox,hr⟩:=s.2.2;exact ⟨g,pre,rest,ha,hb,hlc,hbox.an k (by have:=hw a rfl; rw [ha] at this; exact this),hr⟩
def SL.mono {h:Hp} {b b':Nat} {e:TypeId} {sz:Nat} {p:Option XC} {l c:Nat} {xs:List (List XB)} (s:SL h b e sz p l c xs) (hb':b'<=b):SL h b' e sz p l c xs:=by
 refine ⟨s.1,s.2.1,?_⟩;cases p with
 | none=>exact s.2.2
 | some a =>
  obtain ⟨g,pre,rest,ha,hb,hlc,hbox,hr⟩:=s.2.2;exact ⟨g,pre,rest,ha,Pb hb' hb,hlc,hbox,hr⟩
theorem ik {sz:Nat}:∀ (xs:List (List XB)),(∀ x,x∈xs->x.length=sz)->xs.flatten.length=xs.length*sz
 | [],_=>aj
 | x::xs,h=>by
  rw [List.flatten_cons,OX,h x aj,ik xs (fun y hy=>h y (by simp [hy])),Pg,PP];omega
theorem sd {sz:Nat}:∀ (xs:List (List XB)) (i:Nat) (rest:List XB),(∀ x,x∈xs->x.length=sz)->(hi:i<xs.length)->((xs.flatten++rest).drop (i*sz)).take sz=xs[i]
 | [],i,_,_,hi=>by simp at hi
 | x::xs,0,rest,h,_=>by
  have hx:x.length=sz:=h x aj;simp [<- hx]
 | x::xs,i+1,rest,h,hi=>by
  have hx:x.length=sz:=h x aj
  have:(i+1)*sz=x.length+i*sz:=by rw [PP,hx]; omega
  rw [this,List.flatten_cons,Px,<- P2,PV];simpa using sd xs i rest (fun y hy=>h y (by simp [hy])) (by simpa using hi)
def SL.bH {h:Hp} {b:Nat} {e:TypeId} {sz:Nat} {p:Option XC} {l c:Nat} {xs:List (List XB)} (s:SL h b e sz p l c xs) {i:Nat} (hi:i∈aE p):b<=i/\i<h.size:=by
 cases p with
 | none=>simp [aE] at hi
 | some a =>
  obtain ⟨g,pre,rest,rfl,hbg,hlc,hbox,hr⟩:=s.2.2;simp [aE] at hi;subst hi;exact ⟨hbg,hbox.lt⟩
def SL.bd {ws:List Nat} {h h':Hp} {b:Nat} {e:TypeId} {sz:Nat} {p:Option XC} {l c:Nat} {xs:List (List XB)} (s:SL h b e sz p l c xs) (k:Ch ws h h') (hw:∀ i,i∈aE p->i∉ws):SL h' b e sz p l c xs :=
 s.an k fun a ha=>hw _ (by rw [ha]; simp [aE])
def SL.cells {h:Hp} {b:Nat} {e:TypeId} {sz:Nat} {p:Option XC} {l c:Nat} {xs:List (List XB)} (s:SL h b e sz p l c xs) {i:Nat} (hi:i<xs.length) :
  ∃ a,p=some a/\bk h (a.add (i*sz)) 0 xs[i]:=by
 cases p with
 | none=>have:=s.2.2.2; subst this; simp at hi
 | some a =>
  obtain ⟨g,pre,rest,rfl,hb,hlc,hbox,hr⟩:=s.2.2;refine ⟨_,rfl,?_⟩;rw [az];refine hbox.cells _ ?_;rw [s.2.1 _ (O2 hi),<- P2,PV];exact sd xs i rest s.2.1 hi
def GJ {A X B vs:List XB} (h:X.length=vs.length):j8 (A++(X++B)) A.length vs=A++(vs++B):=by
 rw [qZ _ _ _ (by simp; omega),Qc,Px,<- P2,PV,<- h,PV]
def SL.store {P:Program} {L:Lp} {K:XB->Hp->Prop} {k:T} {h:Hp} {b:Nat} {e:TypeId} {sz:Nat} {p:Option XC} {l c:Nat} {xs:List (List XB)} (s:SL h b e sz p l c xs) {i:Nat} (hi:i<xs.length) {vs:List XB} (hv:vs.length=sz)
  (hp:vs.all fI=true) {a:XC} (ha:p=some a) (hk:∀ h',SL h' b e sz p l c (xs.set i vs)->Ch (aE p) h h'->h'.size=h.size->k L K h'):T.ak (a.add (i*sz)) vs k L K h:=by
 subst ha;obtain ⟨g,pre,rest,rfl,hbg,hlc,hbox,hr⟩:=s.2.2;have hx:(xs.take i).flatten.length=i*sz:=by
  rw [ik _ (fun x hx=>s.2.1 x (List.mem_of_mem_take hx)),O0,PX ae]
 have e1:pre++(xs.flatten++rest)=(pre++(xs.take i).flatten)++(xs[i]++((xs.drop (i+1)).flatten++rest)):=by
  have e0:xs.flatten=(xs.take i).flatten++(xs[i]++(xs.drop (i+1)).flatten):=by
   conv=>lhs; rw [<- List.take_append_drop i xs,OM hi]
   rw [List.flatten_append,List.flatten_cons]
  rw [e0];simp only [List.append_assoc]
 have e2:(xs.set i vs).flatten=(xs.take i).flatten++(vs++(xs.drop (i+1)).flatten):=by
  rw [List.set_eq_take_append_cons_drop,OH hi]
  simp
 have hxi:xs[i].length=vs.length:=by rw [hv]; exact s.2.1 _ (O2 hi)
 rw [e1] at hbox;rw [az];have hlen:(pre++(xs.take i).flatten).length=pre.length+i*sz:=by rw [OX,hx]
 rw [<- hlen];refine ap hbox hp (by simp; omega) ?_;intro h' hb' k' z';rw [GJ hxi] at hb';refine hk h' ⟨by rw [P8]; exact s.1,fun x hx=>?_,g,pre,rest,rfl,hbg,hlc,?_,hr⟩ (by simpa [aE] using k') z'
 ·rcases List.mem_or_eq_of_mem_set hx with hx | rfl
  ·exact s.2.1 x hx
  ·exact hv
 ·rw [e2];simpa [List.append_assoc] using hb'
def kH {P:Program} {α β:Type} (f:α->β) (s:Sem α) (h:Hp) (K:β->Hp->Prop):aV P (f <$> s) h K=aV P s h fun a h'=>K (f a) h':=by
 have:f <$> s=s >>= fun a=>pure (f a):=by rw [<- bind_pure_comp]
 rw [this,aD]; rfl
section append
variable {P:Program} {h:Hp} {K:XB->Hp->Prop}
def mj {t e:TypeId} {n:Nat} {parts:Array (Nat × XB)} {i:TypeInfo} {z:XB} {cells:Array XB} (ht:P.underlying t=some (.slice e)) (hi:P.info? e=some i) (hz:i.zero=some z)
  (hn:n*i.size≠0) (hb:n*i.size<=2^24)
  (hf:Instr.fill (fun j=>some (j*i.size,i.size)) ((Array.range (n*i.size)).map (z.cells[· % z.cells.size]!)) parts.toList=some cells)
  (hk:∀ h',bf h' h.size e cells.toList->Ext h h'->h'.size=h.size+1->K (.slice (some ⟨h.size,0,none⟩) n n) h'):aV P (Instr.buildSlice t n parts) h K:=by
 unfold Instr.buildSlice;rw [aD,aL ht];simp only;rw [aD,bV hi,eC hi];rw [OG ae,OG hn];rw [aD,eO (z:=z) (by rw [hi]; exact hz)];show aV P (match Instr.fill (fun j=>some (j*i.size,i.size)) ((Array.range (n*i.size)).map (z.cells[· % z.cells.size]!)) parts.toList with
  | some cells=>do
   let d <- newRow e cells
   pure (Value.slice (some d) n n)
  | _ => stuck "buildSlice: a part of the wrong size") h K
 rw [hf];refine hk _ ?_ (Ext.push h _) aj;exact bf.new h e cells.toList
def FD (need:Nat):∀ (n c:Nat),c<=2*need+1024->0<n->Builtin.growBy need n c<=2*need+1024:=by
 intro n
 induction n with
 | zero=>intro c h h0; omega
 | succ n ih =>
  intro c h _;unfold Builtin.growBy;split
  ·exact h
  ·rename_i hh;cases n with
   | zero=>unfold Builtin.growBy; omega
   | succ n=>exact ih _ ae ae
def Ek {need old:Nat} (h:old<need):Builtin.nextslicecap need old<=2*need+1024:=by
 unfold Builtin.nextslicecap;split
 ·omega
 ·split
  ·omega
  ·exact FD need 4 old ae ae
def xk (z:Array XB) (n:Nat):(Builtin.zeroCells z n).size=n*z.size:=by
 unfold Builtin.zeroCells; simp
def ET (need old:Nat) (e:TypeId) (t:Nat):need<=(Question.appendCap need old e).cut t/\(need<9223372036854775808->(Question.appendCap need old e).cut t<9223372036854775808):=by
 show need<=need+t % (2^63-need)/\(need<9223372036854775808->need+t % (2^63-need)<9223372036854775808);refine ⟨ae,fun h=>?_⟩
 have:=Nat.mod_lt t (show 0<2^63-need from ae)
 omega
def rc {t ty e:TypeId} {i:TypeInfo} {z:XB} (ht:P.underlying t=some (.slice e)) (hi:P.info? e=some i) (hz:i.zero=some z) (hzs:z.cells.size=i.size)
  {b:Nat} {p:Option XC} {l c:Nat} {xs ys:List (List XB)} (s:SL h b e i.size p l c xs) {a:XC} {m cc:Nat} (hm:m=ys.length) (hys:∀ y,y∈ys->y.length=i.size)
  (hc:bk h a 0 ys.flatten) (hp:ys.flatten.all fI=true) (hby:(2*(l+m)+1024)*i.bytes<=2^48) (hl:l+m<=2^48) (hb:b<=h.size)
  (hk:∀ p' c' h',SL h' b e i.size p' (l+m) c' (xs++ys)->Ch (aE p) h h'->(p'=p\/∃ a,p'=some a/\h.size<=a.block)->K (.slice p' (l+m) c') h') :
  aV P (Builtin.append_ #[t,t] ty #[.slice p l c,.slice (some a) m cc]) h K:=by
 have hyl:ys.flatten.length=m*i.size:=by rw [ik ys hys,hm]
 have hxl:xs.flatten.length=l*i.size:=by rw [ik xs s.2.1,s.1]
 have hall:∀ x,x∈xs++ys->x.length=i.size:=fun x hx=>(OS.1 hx).elim (s.2.1 x) (hys x)
 have hlen:l+m=(xs++ys).length:=by rw [OX,<- s.1,hm]
 have hz':(P.info? e).bind (·.zero)=some z:=by rw [hi]; exact hz
 by_cases hroom:l+m<=c
 ·simp [Builtin.append_,aD,aL ht,bV hi,eC hi,Builtin.lenOf,Builtin.firstCells,hroom];refine fM hyl hc _ ?_;cases p with
  | none =>
   have h1:c=0:=s.2.2.1;have h2:ys=[]:=OQ ae;subst h2;rw [Pr] at hk;have h3:m=0:=ae
   subst h3;exact hk none c h s (Ch.refl _ _) (.inl rfl)
  | some a1 =>
   obtain ⟨g,pre,rest,rfl,hbg,hlc,hbox,hr⟩:=s.2.2;have hfl:(xs.flatten++rest).length=c*i.size:=by
    rw [OX,hxl,hr,<- PP]; congr 1; omega
   have hle:l*i.size+m*i.size<=c*i.size:=by rw [<- PP]; exact PH _ hroom
   simp only;rw [az,kH];obtain ⟨k1,k2,k3,k4⟩:=nX (off:=pre.length+l*i.size) ys.flatten h 0 _ hbox hp (by rw [OX,hfl,hyl]; omega);refine fc _ _ _ _ _ k1 ?_;refine hk _ c _ ⟨hlen,hall,g,pre,rest.drop (m*i.size),rfl,hbg,⟨hroom,hlc.2⟩,?_,?_⟩ k3 (.inl rfl)
   ·rw [qZ _ _ _ (by rw [OX,hfl,hyl]; omega),P4,<- hxl,<- Px,<- OX,Qc,List.drop_append,hyl] at k2;rw [Pp ae,PW,show (pre++xs.flatten).length+m*i.size-(pre++xs.flatten).length=m*i.size from ae] at k2;rw [List.flatten_append];rw [OX,hxl] at k2;simp only [List.append_assoc] at k2 ⊢;exact k2
   ·rw [OR,hr,<- Nat.sub_mul]; congr 1; omega
 ·have hcap:¬ 281474976710656<Builtin.nextslicecap (l+m) c*i.bytes:=by
   have h1:=Ek (need:=l+m) (old:=c) ae;have h2:=PH i.bytes h1;have h3:(2:Nat)^48=281474976710656:=rfl;omega
  have hbig:¬ (9223372036854775807<(l:Int)+(m:Int)/\i.bytes=0):=by
   have h3:(2:Nat)^48=281474976710656:=rfl;omega
  simp [Builtin.append_,aD,aL ht,bV hi,eC hi,Builtin.lenOf,Builtin.firstCells,hroom,jg hi,eO hz',askRoom,hbig,hcap];intro tt;have hge:=ET (l+m) c e tt;generalize (Question.appendCap (l+m) c e).cut tt=nc at hge;show aV P (if roomBytes<nc*i.bytes then mark Mark.noRoom else pure ()) h _;have hroomy:∀ K':Unit->Hp->Prop,K' () h->aV P (if roomBytes<nc*i.bytes then mark Mark.noRoom else pure ()) h K':=by
   intro K' hk';split
   ·exact hk'
   ·exact hk'
  refine hroomy _ ?_
  have hold:∀ K':Array XB->Hp->Prop,K' xs.flatten.toArray h->aV P (match Value.slice p l c with
    | Value.slice (some a) len cap=>loadCells a (l*i.size)
    | Value.slice none len cap=>pure #[]
    | Value.string s=>pure ((Array.map (fun b=>Value.int IntKind.u8 ↑b.toNat) s.data).extract 0 l)
    | x => stuck "slice or string expected") h K' := by
   intro K' hk';cases p with
   | none =>
    have:xs=[]:=s.2.2.2
    subst this;exact hk'
   | some a1 =>
    obtain ⟨g,pre,rest,rfl,hbg,hlc,hbox,hr⟩:=s.2.2;refine fM hxl (hbox.cells _ ?_) _ hk';rw [PV,Qc]
  refine hold _ ?_;refine fM hyl hc _ ?_;rw [kH];refine hk (some ⟨h.size,0,none⟩) nc _ ⟨hlen,hall,h.size,[],(Builtin.zeroCells z.cells (nc-(l+m))).toList,rfl,hb,⟨hge.1,hge.2 ae⟩,?_,?_⟩ ((Ext.push h _).mono aj) (.inr ⟨_,rfl,OP _⟩)
  ·have e1:xs.flatten.toArray++(ys.flatten.toArray++Builtin.zeroCells z.cells (nc-(l+m)))=((xs++ys).flatten++(Builtin.zeroCells z.cells (nc-(l+m))).toList).toArray:=by
    apply O5.1; simp
   rw [e1];exact bf.new h e _
  ·rw [Array.length_toList,xk,hzs]
def lL {L:Lp} {K:XB->Hp->Prop} {k:Option XC->Nat->Nat->T} {t ty e:TypeId} {z:XB} {sz by':Nat} {st:List (XC × List XB)} (ht:P.underlying t=some (.slice e)) (hinf:(P.info? e).map (fun i=>(i.zero,i.size,i.bytes))=some (some z,sz,by'))
  (hzs:z.cells.size=sz) (hs0:sz≠0) (hsm:sz<=4096) {v:XB} {vs:List XB} (hf:Instr.fill (fun j=>some (j*sz,sz)) ((Array.range (1*sz)).map (z.cells[· % z.cells.size]!)) [(0,v)]=some vs.toArray) (hvl:vs.length=sz) (hpl:vs.all fI=true)
  {b:Nat} {p:Option XC} {l c:Nat} {xs:List (List XB)} (s:SL h b e sz p l c xs) (hb:b<=h.size) (hby:(2*(l+1)+1024)*by'<=2^48) (hl:l+1<=2^48) (hst:∀ h',Ext h h'->T.Gg h' st)
  (hk:∀ p' c' h',SL h' b e sz p' (l+1) c' (xs++[vs])->Ch (aE p) h h'->(p'=p\/∃ a,p'=some a/\h.size<=a.block)->k p' (l+1) c' L K h') :
  T.fb P (Instr.buildSlice t 1 #[(0,v)]) false [(false,[.slice 0])] (fun q m cc=>T.aT st (T.fb P (Builtin.append_ #[t,t] ty #[.slice p l c,.slice q m cc]) false [(false,[.slice 0])] k)) L K h:=by
 obtain ⟨i,hi,hz,rfl,rfl⟩:=nI hinf;refine dE (mj ht hi hz ae ae hf ?_);intro h1 b1 e1 z1;refine ⟨_,_,_,rfl,hst _ e1,dE ?_⟩;have s1:SL h1 b e i.size p l c xs:=s.an e1 aj;refine rc (ys:=[vs]) ht hi hz hzs s1 rfl (by simpa using hvl) (b1.cells _ aj) (by simpa using hpl) (by simpa using hby) (by simpa using hl) (by rw [z1]; omega) ?_;intro p' c' h2 s2 c2 hp';refine ⟨p',l+1,c',rfl,hk p' c' h2 s2 (Ch.trans (e1.mono aj) c2 (fun i hi _=>hi)) ?_⟩;rcases hp' with hp' | ⟨a,ha,hge⟩
 ·exact .inl hp'
 ·exact .inr ⟨a,ha,ae⟩
def eM {L:Lp} {K:XB->Hp->Prop} {k:Option XC->Nat->Nat->T} {t e:TypeId} {n:Nat} {parts:Array (Nat × XB)} {z:XB} {sz by':Nat} (ht:P.underlying t=some (.slice e)) (hinf:(P.info? e).map (fun i=>(i.zero,i.size,i.bytes))=some (some z,sz,by'))
  (hn:n*sz≠0) (hb:n*sz<=2^24) {cells:List XB} (hf:Instr.fill (fun j=>some (j*sz,sz)) ((Array.range (n*sz)).map (z.cells[· % z.cells.size]!)) parts.toList=some cells.toArray)
  (hk:∀ h',bf h' h.size e cells->Ext h h'->h'.size=h.size+1->k (some ⟨h.size,0,none⟩) n n L K h'):T.fb P (Instr.buildSlice t n parts) false [(false,[.slice 0])] k L K h:=by
 obtain ⟨i,hi,hz,rfl,rfl⟩:=nI hinf;exact dE (mj ht hi hz hn hb hf fun h' b e z=>⟨_,_,_,rfl,hk h' b e z⟩)
def fp {L:Lp} {K:XB->Hp->Prop} {k:Option XC->Nat->Nat->T} {t ty e:TypeId} {z:XB} {sz by':Nat} (ht:P.underlying t=some (.slice e)) (hinf:(P.info? e).map (fun i=>(i.zero,i.size,i.bytes))=some (some z,sz,by'))
  (hzs:z.cells.size=sz) (hs0:sz≠0) (hsm:sz<=4096) {v:XB} {vs:List XB} (hf:Instr.fill (fun j=>some (j*sz,sz)) ((Array.range (1*sz)).map (z.cells[· % z.cells.size]!)) [(0,v)]=some vs.toArray) (hvl:vs.length=sz) (hpl:vs.all fI=true)
  {b:Nat} {p:Option XC} {l c:Nat} {xs:List (List XB)} (s:SL h b e sz p l c xs) (hb:b<=h.size) (hby:(2*(l+1)+1024)*by'<=2^48) (hl:l+1<=2^48)
  (hk:∀ p' c' h',SL h' b e sz p' (l+1) c' (xs++[vs])->Ch (aE p) h h'->(p'=p\/∃ a,p'=some a/\h.size<=a.block)->k p' (l+1) c' L K h') :
  T.fb P (Instr.buildSlice t 1 #[(0,v)]) false [(false,[.slice 0])] (fun q m cc=>T.fb P (Builtin.append_ #[t,t] ty #[.slice p l c,.slice q m cc]) false [(false,[.slice 0])] k) L K h:=by
 obtain ⟨i,hi,hz,rfl,rfl⟩:=nI hinf;refine dE (mj ht hi hz ae ae hf ?_);intro h1 b1 e1 z1;refine ⟨_,_,_,rfl,dE ?_⟩;have s1:SL h1 b e i.size p l c xs:=s.an e1 aj;have hpb:∀ a,p=some a->a.block<h.size:=by
  intro a ha;subst ha;obtain ⟨g,pre,rest,rfl,hbg,hlc,hbox,hr⟩:=s.2.2;exact hbox.lt
 refine rc (ys:=[vs]) ht hi hz hzs s1 rfl (by simpa using hvl) (b1.cells _ aj) (by simpa using hpl) (by simpa using hby) (by simpa using hl) (by rw [z1]; omega) ?_;intro p' c' h2 s2 c2 hp';refine ⟨p',l+1,c',rfl,hk p' c' h2 s2 (Ch.trans (e1.mono aj) c2 (fun i hi _=>hi)) ?_⟩;rcases hp' with hp' | ⟨a,ha,hge⟩
 ·exact .inl hp'
 ·exact .inr ⟨a,ha,ae⟩
end append
end Go.Sx
