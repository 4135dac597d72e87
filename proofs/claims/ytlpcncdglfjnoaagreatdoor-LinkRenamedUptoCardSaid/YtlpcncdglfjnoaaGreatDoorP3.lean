/- Contracts over heaps, part 3. Condition: as each statement says. -/
import Derived.Test.YtlpcncdglfjnoaaGreatDoorP2
import Derived.Test.YtlpcncdglfjnoaaGreatDoorSxK
import Derived.Test.YtlpcncdglfjnoaaGreatDoorBtF
set_option linter.all false
set_option maxRecDepth 100000
set_option maxHeartbeats 4000000
namespace Go.Sx
open Go.Proofs
def add_zero' (a:YA):a.add 0=a:=by unfold Addr.add; rw [VE rfl]
def SQ (a b:XA):(ByteArray.toList a==ByteArray.toList b)=decide (a=b):=by
 rw [ByteArray.toList_eq,ByteArray.toList_eq]
 by_cases h:a=b
 ·subst h; simp
 ·rw [Vx h];exact beq_eq_false_iff_ne.2 fun e=>h (DW e)
def SL.take {h:Hp} {b:Nat} {e:TypeId} {sz:Nat} {p:XC} {l c:Nat} {xs:List (List XB)} (s:SL h b e sz p l c xs) {k:Nat} (hk:k<=l):SL h b e sz p k c (xs.take k):=by
 refine ⟨by rw [VQ,<- s.1]; omega,fun x i=>s.2.1 x (WO i),?_⟩;cases p with
 | none =>
  obtain ⟨h1,h2⟩:=s.2.2;subst h2;exact ⟨h1,ah⟩
 | some a =>
  obtain ⟨g,j,rest,rfl,m,n,f,o⟩:=s.2.2;have d:xs.flatten=(xs.take k).flatten++(xs.drop k).flatten:=by rw [<- List.flatten_append,We]
  refine ⟨g,j,(xs.drop k).flatten++rest,rfl,m,ad,?_,?_⟩
  ·rw [d] at f;simpa [List.append_assoc] using f
  ·rw [Vs,dY _ (fun x i=>s.2.1 x (List.mem_of_mem_drop i)),V6,o,<- s.1,<- Wx]
   congr 1; omega
abbrev TZ (x:XA):List XB:=[.string x]
def TK:Tryz.prog.underlying 28=some (.slice 9):=aw
def TL:(Tryz.prog.info? 9).map (fun i=>(i.zero,i.size,i.bytes))=some (some (.string ⟨#[]⟩),1,16):=aw
variable {I:Hp} {H U V:Nat} {O:XC}
def Kj {xs:List XA} (s:SL I H 9 1 O U V (xs.map TZ)) (v:XA) (hv:v∈xs) (hl:U<=2^40) :
  wA YC 107 [.slice O U V,.string v] I (vI ((xs.findIdx fun x=>decide (v=x):Nat):Int)):=by
 refine eC mixed Tryz.func107 aw (gF O U V v) ?_;unfold eG aT bo bC ay aK;have o:U=xs.length:=by rw [s.1,Vr]
 refine aY (cs:=jc) (fun x w h'=>h'=I/\∃ i:Nat,x.2.1=(i:Int)/\i<=xs.length/\w=xs.length-i/\∀ j,j<i->∀ f:j<xs.length,v≠xs[j]) ((0:Int),(0:Int),()) xs.length rfl ⟨rfl,0,rfl,ad,ad,fun j f=>ad⟩ ?_;rintro ⟨q,t,⟨⟩⟩ w h2 ⟨rfl,i,hi,n,rfl,g⟩;simp only at hi;subst hi;refine ak ?_;refine aQ ?_ ?_<;>intro r
 ·have d:i<xs.length:=ad
  refine fJ ?_;obtain ⟨a,rfl,hc⟩:=s.cells (i:=i) (by simpa using d);rw [VD] at hc;refine bk rfl ?_;rw [cX i];refine aC (xs[i],()) hc (ak ?_);rw [SQ];refine aQ ?_ ?_<;>intro k
  ·have:xs.findIdx (fun x=>decide (v=x))=i:=by
    rw [List.findIdx_eq d];exact ⟨by simpa using k,fun j f=>by simpa using g j f ad⟩
   exact ⟨by rw [this],rfl⟩
  ·have hw:=lC i;refine aD (cs:=jc) (q,((i+1:Nat):Int),()) (xs.length-(i+1)) rfl ad (by rw [hw]; rfl) ⟨rfl,i+1,rfl,ad,rfl,fun j f m=>?_⟩
   by_cases e:j=i
   ·subst e; exact k
   ·exact g j ad m
 ·have hi:i=xs.length:=ad
  subst hi;obtain ⟨j,f,e⟩:=VV hv;exact (g j f f e.symm).elim
def dE (es:List ei) (s:XA):cL:=(((xP es s).bind fun k=>es[k]?).map (·.x)).getD tv
def da (es:List ei) (s:XA):Bool:=(xP es s).isSome
def aU (es:List ei):List XA:=es.map (·.name)
def eP (es:List ei) (s:XA):da es s=true↔s∈aU es:=by
 unfold da xP aU;rw [List.findIdx?_isSome,WX]
 simp
variable {Y:XA}
def nI {es:List ei} (h:xP es Y=some H):∃ hk:H<es.length,es[H].name=Y/\dE es Y=es[H].x:=by
 have h':=h;unfold xP at h';rw [Wj] at h';obtain ⟨hk,h1,h2⟩:=h';refine ⟨hk,Vv h1,?_⟩;unfold dE;rw [h,WY,VC hk] <;> rfl
def CZ {es:List ei} (h:Y∈aU es):∃ k,xP es Y=some k:=by
 have:=(eP es Y).2 h
 unfold da at this;exact Ww.1 this
structure TF where
 E:Nat
 gA:Nat
 A:Nat
 gB:Nat
 B:Nat
 gN:Nat
 gL:Nat
 N:Nat
 L:Nat
 W:Nat
 gO:Nat
 O:Nat
 V:Nat
def TF.ord (r:TF):Prop:=r.E<r.gA/\r.gA<r.A/\r.A<r.gB/\r.gB<r.B/\r.B<r.gN/\r.gN<r.gL/\r.gL<r.N/\r.N<r.L/\r.L<r.W/\r.W<r.gO/\r.gO<r.O/\r.O<r.V
abbrev bx (g:Nat):YA:=⟨g,0,none⟩
def TF.sQ (r:TF):List XB:=[.pointer (some (bx r.N)),.pointer (some (bx r.L)),.pointer (some (bx r.W)),.pointer (some (bx r.O)),.pointer (some (bx r.E)),.pointer (some (bx r.A)),.pointer (some (bx r.B)),.pointer (some (bx r.V))]
structure Ny (r:TF) (h:Hp) (es:List ei) (p0:XC) (l0 c0:Nat):Prop where
 bE:bm h r.E 27 [.slice p0 l0 c0]
 bA:bm h r.A 97 [.map (some r.gA)]
 mA:∃ n,dN eI h r.gA (xP es) n
 bV:bm h r.V 168 [.func (.func 106) #[] r.sQ.toArray]
 bN:bm h r.N 97 [.map (some r.gN)]
 bL:bm h r.L 97 [.map (some r.gL)]
 bO:bm h r.O 142 [.map (some r.gO)]
 bB:bm h r.B 142 [.map (some r.gB)]
 vw:Ah h p0 l0 es
structure Il (r:TF) (es:List ei) (p0:XC):Prop where
 ord:r.ord
 l0:∀ i,i∈aG p0->i<r.E
 li:∀ e,e∈es->e.x.ai≠[]->∀ i,i∈aG e.p->i<r.E
def iW.vJ {ws:List Nat} {h':Hp} {us:dt} (v:iW I O H us) (k:Ch ws I h') (a:us≠[]->∀ i,i∈aG O->i∉ws):iW h' O H us:=by
 by_cases hn:us=[]
 ·subst hn;exact ⟨v.len,fun i hi=>by simp at hi⟩
 ·exact v.af k (a hn)
def Ah.ig {ws:List Nat} {h':Hp} {es:List ei} (v:Ah I O H es) (k:Ch ws I h') (d:∀ i,i∈aG O->i∉ws) (hi:∀ e,e∈es->e.x.ai≠[]->∀ i,i∈aG e.p->i∉ws):Ah h' O H es :=
 ⟨v.len,fun i hi=>by
  obtain ⟨a,b,hc⟩:=v.cells i hi;exact ⟨a,b,bh k (by rw [qZ]; exact d _ (by rw [b]; simp [aG])) _ _ hc⟩,fun e c=>(v.j4 e c).vJ k (hi e c)⟩
def Uy (r:TF) (p:XC):List Nat:=r.gN::r.gL::r.gO::r.gB::r.W::aG p
structure mj (r:TF) (h:Hp) (st:TS) (p:XC) (l c:Nat):Prop where
 mN:dN eI h r.gN st.num st.jd
 mL:∃ n,dN eI h r.gL st.low n
 mO:∃ n,dN eB h r.gO st.on n
 mB:∃ n,dN eB h r.gB st.back n
 bW:bm h r.W 28 [.slice p l c]
 w:SL h (r.V+1) 9 1 p l c (st.cZ.map TZ)
def Ny.ig {r:TF} {h h':Hp} {es:List ei} {p0:XC} {l0 c0:Nat} {ws:List Nat} (m:Ny r h es p0 l0 c0) (b:Il r es p0) (k:Ch ws h h') (f:∀ i,i∈ws->i=r.gN\/i=r.gL\/i=r.gO\/i=r.gB\/i=r.W\/r.V<i):Ny r h' es p0 l0 c0:=by
 have o:=b.ord;unfold TF.ord at o;have a:∀ i,i≠r.gN->i≠r.gL->i≠r.gO->i≠r.gB->i≠r.W->i<=r.V->i∉ws:=by
  intro i h1 h2 g j l p hi
  have:=f i hi
  omega
 obtain ⟨n,mA⟩:=m.mA;exact ⟨m.bE.af k (a _ ad ad ad ad ad ad),m.bA.af k (a _ ad ad ad ad ad ad),⟨n,mA.af k (a _ ad ad ad ad ad ad)⟩,
  m.bV.af k (a _ ad ad ad ad ad ad),m.bN.af k (a _ ad ad ad ad ad ad),m.bL.af k (a _ ad ad ad ad ad ad),
  m.bO.af k (a _ ad ad ad ad ad ad),m.bB.af k (a _ ad ad ad ad ad ad),
  m.vw.ig k (fun i hi=>a _ (by have:=b.l0 i hi; omega) (by have:=b.l0 i hi; omega) (by have:=b.l0 i hi; omega) (by have:=b.l0 i hi; omega) (by have:=b.l0 i hi; omega) (by have:=b.l0 i hi; omega))
   (fun e d c i hi=>a _ (by have:=b.li e d c i hi; omega) (by have:=b.li e d c i hi; omega) (by have:=b.li e d c i hi; omega) (by have:=b.li e d c i hi; omega) (by have:=b.li e d c i hi; omega) (by have:=b.li e d c i hi; omega))⟩
def mj.af {r:TF} {h h':Hp} {st:TS} {p:XC} {l c:Nat} (m:mj r h st p l c) (k:Ext h h'):mj r h' st p l c:=by
 obtain ⟨a,mL⟩:=m.mL;obtain ⟨b,mO⟩:=m.mO;obtain ⟨d,mB⟩:=m.mB;exact ⟨m.mN.af k ah,⟨a,mL.af k ah⟩,⟨b,mO.af k ah⟩,⟨d,mB.af k ah⟩,m.bW.af k ah,m.w.af k ah⟩
structure pq (r:TF) (p:XC) (h:Hp) (p':XC) (h':Hp):Prop where
 ch:Ch (Uy r p) h h'
 cu:∀ i,i∈aG p'->i∈aG p\/h.size<=i
def pq.refl (r:TF) (p:XC) (h:Hp):pq r p h p h:=⟨Ch.refl _ _,fun i hi=>.inl hi⟩
variable {Z:TF}
def oL {p:XC} :H∈Uy Z p↔H=Z.gN\/H=Z.gL\/H=Z.gO\/H=Z.gB\/H=Z.W\/H∈aG p:=by
 unfold Uy; simp
def pq.trans {r:TF} {p q s:XC} {a b c:Hp} (x:pq r p a q b) (y:pq r q b s c):pq r p a s c:=by
 have hz:=x.ch.size;refine ⟨Ch.trans x.ch y.ch fun i hi hl=>?_,fun i hi=>?_⟩
 ·rw [oL] at hi ⊢;rcases hi with h | h | h | h | h | h
  ·exact .inl h
  ·exact .inr (.inl h)
  ·exact .inr (.inr (.inl h))
  ·exact .inr (.inr (.inr (.inl h)))
  ·exact .inr (.inr (.inr (.inr (.inl h))))
  ·rcases x.cu i h with h | h
   ·exact .inr (.inr (.inr (.inr (.inr h))))
   ·omega
 ·rcases y.cu i hi with h | h
  ·exact x.cu i h
  ·exact .inr ad
def pq.ext {h':Hp} (k:Ext I h'):pq Z O I O h':=⟨k.mono ah,fun i hi=>.inl hi⟩
def pq.of {h':Hp} (k:Ch [H] I h') (a:H=Z.gN\/H=Z.gL\/H=Z.gO\/H=Z.gB\/H=Z.W):pq Z O I O h' :=
 ⟨k.mono fun i hi hl=>by simp at hi; subst hi; rw [oL]; rcases a with I | I | I | I | I <;> simp [I],fun i hi=>.inl hi⟩
def pq.co {r:TF} {p p':XC} {l c:Nat} {h h':Hp} {st:TS} {es:List ei} {p0:XC} {l0 c0:Nat} (x:pq r p h p' h') (a:Il r es p0) (m:mj r h st p l c) (co:Ny r h es p0 l0 c0):Ny r h' es p0 l0 c0:=by
 refine co.ig a x.ch fun i hi=>?_
 rw [oL] at hi;rcases hi with h | h | h | h | h | h
 ·exact .inl h
 ·exact .inr (.inl h)
 ·exact .inr (.inr (.inl h))
 ·exact .inr (.inr (.inr (.inl h)))
 ·exact .inr (.inr (.inr (.inr (.inl h))))
 ·exact .inr (.inr (.inr (.inr (.inr (by have:=(m.w.cu h).1; omega)))))
variable {a:TypeId}
def pq.box {p':XC} {l c:Nat} {h':Hp} {st:TS} {xs:List XB} (x:pq Z O I p' h') (o:Z.ord) (f:Z.V<H) (d:H∉aG O) (b:bm I H a xs):bm h' H a xs:=by
 unfold TF.ord at o;refine b.af x.ch fun hi=>?_
 rw [oL] at hi;rcases hi with I | I | I | I | I | I <;> first | omega | exact d I
section
variable {L:Lp} {K:XB->Hp->Prop} {h:Hp} {r:TF} {st:TS} {p:XC} {l c:Nat}
def mj.Ni (m:mj r h st p l c) {i:Nat} (hi:i∈aG p):r.V<i:=by have:=(m.w.cu hi).1; omega
variable {H:XA} {I:T}
def mj.uf (m:mj r h st p l c) (o:r.ord) (a:H.size<=maxLen) {v:Int} {w:Nat} (hv:v=(w:Int)) (hk:∀ h',mj r h' { st with num:=dB st.num H w,jd:=if (st.num H).isSome then st.jd else st.jd+1 } p l c->pq r p h p h'->h'.size=h.size->I L K h') :
  T.ek YC (Instr.mapUpdate 97 (.map (some r.gN)) (.string H) (vI v)) I L K h:=by
 unfold TF.ord at o;obtain ⟨b,mL⟩:=m.mL;obtain ⟨d,mO⟩:=m.mO;obtain ⟨e,mB⟩:=m.mB;refine pZ m.mN a hv ?_;intro h' f c' g;exact hk h' ⟨f,⟨b,mL.af c' (by simp; omega)⟩,⟨d,mO.af c' (by simp; omega)⟩,⟨e,mB.af c' (by simp; omega)⟩,m.bW.af c' (by simp; omega),m.w.bH c' (fun i hi=>by have:=m.Ni hi; simp; omega)⟩ (pq.of c' (.inl rfl)) g
def mj.rV (m:mj r h st p l c) (o:r.ord) (a:H.size<=maxLen) {v:Int} {w:Nat} (hv:v=(w:Int)) (hk:∀ h',mj r h' { st with low:=dB st.low H w } p l c->pq r p h p h'->h'.size=h.size->I L K h') :
  T.ek YC (Instr.mapUpdate 97 (.map (some r.gL)) (.string H) (vI v)) I L K h:=by
 unfold TF.ord at o;obtain ⟨g,mL⟩:=m.mL;obtain ⟨b,mO⟩:=m.mO;obtain ⟨d,mB⟩:=m.mB;refine pZ mL a hv ?_;intro h' e c' f;exact hk h' ⟨m.mN.af c' (by simp; omega),⟨_,e⟩,⟨b,mO.af c' (by simp; omega)⟩,⟨d,mB.af c' (by simp; omega)⟩,m.bW.af c' (by simp; omega),m.w.bH c' (fun i hi=>by have:=m.Ni hi; simp; omega)⟩ (pq.of c' (.inr (.inl rfl))) f
variable {O:Bool}
def mj.SS (m:mj r h st p l c) (o:r.ord) (a:H.size<=maxLen) (hk:∀ h',mj r h' { st with on:=dB st.on H O } p l c->pq r p h p h'->h'.size=h.size->I L K h') :
  T.ek YC (Instr.mapUpdate 142 (.map (some r.gO)) (.string H) (.bool O)) I L K h:=by
 unfold TF.ord at o;obtain ⟨d,mL⟩:=m.mL;obtain ⟨j,mO⟩:=m.mO;obtain ⟨e,mB⟩:=m.mB;refine SC mO a ?_;intro h' f c' g;exact hk h' ⟨m.mN.af c' (by simp; omega),⟨d,mL.af c' (by simp; omega)⟩,⟨_,f⟩,⟨e,mB.af c' (by simp; omega)⟩,m.bW.af c' (by simp; omega),m.w.bH c' (fun i hi=>by have:=m.Ni hi; simp; omega)⟩ (pq.of c' (.inr (.inr (.inl rfl)))) g
def mj.RP (m:mj r h st p l c) (o:r.ord) (a:H.size<=maxLen) (hk:∀ h',mj r h' { st with back:=dB st.back H O } p l c->pq r p h p h'->h'.size=h.size->I L K h') :
  T.ek YC (Instr.mapUpdate 142 (.map (some r.gB)) (.string H) (.bool O)) I L K h:=by
 unfold TF.ord at o;obtain ⟨d,mL⟩:=m.mL;obtain ⟨e,mO⟩:=m.mO;obtain ⟨j,mB⟩:=m.mB;refine SC mB a ?_;intro h' f c' g;exact hk h' ⟨m.mN.af c' (by simp; omega),⟨d,mL.af c' (by simp; omega)⟩,⟨e,mO.af c' (by simp; omega)⟩,⟨_,f⟩,m.bW.af c' (by simp; omega),m.w.bH c' (fun i hi=>by have:=m.Ni hi; simp; omega)⟩ (pq.of c' (.inr (.inr (.inr (.inl rfl))))) g
variable {U:Int->T}
def mj.Dt (m:mj r h st p l c) (s:XA) (hk:U (((st.num s).getD 0:Nat):Int) L K h):T.eK YC (Instr.lookup 97 (.map (some r.gN)) (.string s) false) false [(false,[.int .i64])] U L K h:=Hx m.mN s hk
def mj.zT (m:mj r h st p l c) (s:XA) (hk:U (((st.low s).getD 0:Nat):Int) L K h):T.eK YC (Instr.lookup 97 (.map (some r.gL)) (.string s) false) false [(false,[.int .i64])] U L K h:=by
 obtain ⟨a,mL⟩:=m.mL;exact Hx mL s hk
variable {V:Bool->T}
def mj.Tq (m:mj r h st p l c) (s:XA) (hk:V ((st.on s).getD false) L K h):T.eK YC (Instr.lookup 142 (.map (some r.gO)) (.string s) false) false [(false,[.bool])] V L K h:=by
 obtain ⟨a,mL⟩:=m.mO;exact Lw mL s hk
def mj.ep (m:mj r h st p l c) (s:XA) (hk:V ((st.back s).getD false) L K h):T.eK YC (Instr.lookup 142 (.map (some r.gB)) (.string s) false) false [(false,[.bool])] V L K h:=by
 obtain ⟨a,mL⟩:=m.mB;exact Lw mL s hk
end
def PU (y f z A a:YA) (s:XA) (b:Int):T :=
 T.ae y [.map 9 3] <| fun (g:Option Nat) =>
 T.ae a [.string] <| fun (h:XA) =>
 bR (Instr.lookup 97 (.map g) (.string h) false) false [aK] <| fun (i:Int) =>
 cond (i==(0:Int))
  (T.ae A [.func #[9] #[] false] <| fun (j:XB) =>
  T.ae a [.string] <| fun (c:XA) =>
  T.uG YC j [.string c] true [] <| T.ae f [.map 9 3] <| fun (k:Option Nat) =>
  T.ae f [.map 9 3] <| fun (d:Option Nat) =>
  bR (Instr.lookup 97 (.map d) (.string s) false) false [aK] <| fun (l:Int) =>
  T.ae f [.map 9 3] <| fun (m:Option Nat) =>
  T.ae a [.string] <| fun (n:XA) =>
  bR (Instr.lookup 97 (.map m) (.string n) false) false [aK] <| fun (o:Int) =>
  bR (Builtin.min_ #[3,3] 3 #[vI l,vI o]) false [aK] <| fun (e:Int) =>
  T.ek YC (Instr.mapUpdate 97 (.map k) (.string s) (vI e)) <|
  T.again 0 [vI (bf (b+(1:Int)))])
  (T.ae z [.map 9 4] <| fun (p:Option Nat) =>
  T.ae a [.string] <| fun (c:XA) =>
  bR (Instr.lookup 142 (.map p) (.string c) false) false [cj] <| fun (q:Bool) =>
  cond q
  (T.ae f [.map 9 3] <| fun (d:Option Nat) =>
  T.ae f [.map 9 3] <| fun (r:Option Nat) =>
  bR (Instr.lookup 97 (.map r) (.string s) false) false [aK] <| fun (t:Int) =>
  T.ae y [.map 9 3] <| fun (u:Option Nat) =>
  T.ae a [.string] <| fun (w:XA) =>
  bR (Instr.lookup 97 (.map u) (.string w) false) false [aK] <| fun (e:Int) =>
  bR (Builtin.min_ #[3,3] 3 #[vI t,vI e]) false [aK] <| fun (x:Int) =>
  T.ek YC (Instr.mapUpdate 97 (.map d) (.string s) (vI x)) <|
  T.again 0 [vI (bf (b+(1:Int)))])
  (T.again 0 [vI (bf (b+(1:Int)))]))
def oo (names:List XA) (st:TS):Prop:=∀ s,st.num s≠none->s∈names
def H4 (es:List ei) (r:TF) (p0:XC) (l0 c0 f:Nat):Prop :=
 ∀ (v:XA) (st:TS) (h:Hp) (p:XC) (l c:Nat),mj r h st p l c->Ny r h es p0 l0 c0->dz (aU es) st->v∈aU es->st.num v=none->pQ (aU es) st<=f->oo (aU es) st ->
  HC YC 106 (.string v::r.sQ).toArray h fun w h'=>w=.tuple #[]/\∃ p' l' c',mj r h' (cP (da es) (cK (dE es)) f v st) p' l' c'/\pq r p h p' h'
def TO:fv YC 106=true:=aw
section
variable {L:Lp} {K:XB->Hp->Prop} {h:Hp} {r:TF} {st:TS} {p:XC} {l c:Nat} {es:List ei} {p0:XC} {l0 c0:Nat}
def H' {f:Nat} (i:H4 es r p0 l0 c0 f) (k:Il r es p0) (A:∀ s,s∈aU es->s.size<=maxLen) (m:mj r h st p l c) (co:Ny r h es p0 l0 c0) (g:dz (aU es) st) (B:pQ (aU es) st<=f) (hi:oo (aU es) st) {v w:XA} (hv:v∈aU es) (C:w∈aU es) {a q:Nat} (D:r.V<a) (o:a∉aG p) (b:bm h a 66 [.string w,.int .u32 (q:Int)]) (j:Int)
  (hk:∀ h' p' l' c',mj r h' (sE (cP (da es) (cK (dE es)) f) v w st) p' l' c'->pq r p h p' h'->T.again 0 [vI (IntKind.wrap .i64 (j+(1:Int)))] L K h') :
  PU (bx r.N) (bx r.L) (bx r.O) (bx r.V) (bx a) v j L K h:=by
 unfold PU bR bf aK cj;refine av co.bN (some r.gN,()) (ak ?_);refine av b (w,()) (ak ?_);refine m.Dt w ?_;unfold sE at hk;have hsv:=A v hv;refine an ?_ ?_<;>intro d
 ·have d:(st.num w).getD 0=0:=by have:=Vv d; omega
  rw [VE d] at hk;refine av co.bV (.func (.func 106) #[] r.sQ.toArray,()) (ak ?_);refine av b (w,()) (ak ?_);refine uO (cap:=r.sQ) TO rfl (i w st h p l c m co g C (g.none d) B hi) ?_;rintro _ h2 ⟨rfl,E,F,G,n,t⟩;refine ⟨(),rfl,ak ?_⟩;have co2:=t.co k m co;have b2:=t.box (st:=st) (l:=l) (c:=c) k.ord D o b;generalize cP (da es) (cK (dE es)) f w st=H at n hk;refine av co2.bL (some r.gL,()) (ak ?_);refine av co2.bL (some r.gL,()) (ak ?_);refine n.zT v ?_;refine av co2.bL (some r.gL,()) (ak ?_);refine av b2 (w,()) (ak ?_);refine n.zT w ?_;refine SI ?_;refine n.rV k.ord hsv rfl ?_;intro u x y z3;exact hk u E F G x (t.trans y)
 ·have d:¬ (st.num w).getD 0=0:=by
   intro e;rw [e] at d;simp at d
  rw [Vu d] at hk;refine av co.bO (some r.gO,()) (ak ?_);refine av b (w,()) (ak ?_);refine m.Tq w ?_;refine an ?_ ?_<;>intro z
  ·rw [VE z] at hk;refine av co.bL (some r.gL,()) (ak ?_);refine av co.bL (some r.gL,()) (ak ?_);refine m.zT v ?_;refine av co.bN (some r.gN,()) (ak ?_);refine av b (w,()) (ak ?_);refine m.Dt w ?_;refine SI ?_;refine m.rV k.ord hsv rfl ?_;intro u x y z3;exact hk u p l c x y
  ·rw [Vu (by simp [z])] at hk;exact hk h p l c m (pq.refl _ _ _)
end
def oo.rest {names:List XA} {lx:XA->TS->TS} (a:∀ Y st,oo names st->Y∈names->oo names (lx Y st)) {v:XA} {st:TS} (hi:oo names st) (b:Y∈names):oo names (sE lx v Y st):=by
 unfold sE;split
 ·exact a Y st hi b
 ·split <;> exact hi
def oo.step {names:List XA} {own:XA->Bool} (a:∀ s,own s=true->s∈names) {lx:XA->TS->TS} (b:∀ Y st,oo names st->Y∈names->oo names (lx Y st)) {v:XA} {st:TS} (hi:oo names st):oo names (ew own lx v st Y):=by
 unfold ew;split
 ·rename_i d;refine oo.rest b ?_ (a Y d);intro s c;rw [(gS v Y st).1] at c;exact hi s c
 ·exact hi
theorem oo.fold {names:List XA} {own:XA->Bool} (a:∀ s,own s=true->s∈names) {lx:XA->TS->TS} (b:∀ w st,oo names st->w∈names->oo names (lx w st)) {v:XA}:∀ (l:List XA) (st:TS),oo names st->oo names (l.foldl (ew own lx v) st)
 | [],st,hi=>hi
 | w::l,st,hi=>by
  rw [V2];exact oo.fold a b l _ (oo.step a b hi)
def oo.open {names:List XA} {st:TS} (hi:oo names st) {v:XA} (hv:v∈names):oo names (ey v st):=by
 intro s a;have a:dB st.num v (st.jd+1) s≠none:=a
 by_cases e:s=v
 ·rw [e]; exact hv
 ·rw [bM _ _ e] at a;exact hi s a
theorem oo.visit {names:List XA} {own:XA->Bool} (a:∀ s,own s=true->s∈names) (succ:XA->List XA):∀ (f:Nat) (v:XA) (st:TS),oo names st->v∈names->oo names (cP own succ f v st)
 | 0,v,st,hi,hv=>hi
 | f+1,v,st,hi,hv=>by
  have h:=oo.fold a (fun w st hi c=>oo.visit a succ f w st hi c) (v:=v) (succ v) _ (hi.open hv);unfold cP;split
  ·exact h
  ·intro s b;rw [nh] at b;exact h s b
def SL.FL {sz c:Nat} {xs:List (List XB)} (s:SL I H a sz O U c xs):U<=c:=by
 cases O with
 | none =>
  obtain ⟨h1,h2⟩:=s.2.2;rw [s.1,h1,h2]; simp
 | some d =>
  obtain ⟨g,j,rest,rfl,k,f,i,m⟩:=s.2.2;exact f.1
section
variable {L:Lp} {K:XB->Hp->Prop} {h:Hp} {r:TF} {st:TS} {p:XC} {l c:Nat} {es:List ei} {p0:XC} {l0 c0:Nat}
variable {H:T}
def mj.SG (m:mj r h st p l c) (o:r.ord) {p':XC} {l' c':Nat} {h1:Hp} {way':List XA} (a:Ch (aG p) h h1) (e:SL h1 (r.V+1) 9 1 p' l' c' (way'.map TZ)) (f:∀ i,i∈aG p'->i∈aG p\/h.size<=i) 
  (hk:∀ h',mj r h' { st with cZ:=way' } p' l' c'->pq r p h p' h'->H L K h'):T.ao (bx r.W) [.slice p' l' c'] H L K h1:=by
 have o':=o;unfold TF.ord at o;obtain ⟨j,mL⟩:=m.mL;obtain ⟨n,mO⟩:=m.mO;obtain ⟨q,mB⟩:=m.mB;have d:∀ g,g<=r.V->g∉aG p:=fun g s hi=>by have:=m.Ni hi; omega
 refine bT (m.bW.af a (d _ ad)) ?_;intro h2 b2 b z2;have b2:bm h2 r.W 28 [.slice p' l' c']:=b2;refine hk h2 ⟨(m.mN.af a (d _ ad)).af b (by simp; omega),⟨j,(mL.af a (d _ ad)).af b (by simp; omega)⟩,⟨n,(mO.af a (d _ ad)).af b (by simp; omega)⟩,⟨q,(mB.af a (d _ ad)).af b (by simp; omega)⟩,b2,e.bH b (fun i hi=>by have:=(e.cu hi).1; simp; omega)⟩
  ⟨Ch.trans (a.mono fun i hi _=>by rw [oL]; simp [hi]) b (fun i hi hl=>by simp at hi; rw [oL]; simp [hi]),f⟩
def mj.TV (m:mj r h st p l c) (o:r.ord) (x:r.V<h.size) (hl:l<=2^40) {v:XA} (hk:∀ h' p' c',mj r h' { st with cZ:=st.cZ++[v] } p' (l+1) c'->pq r p h p' h'->H L K h') :
  T.eK YC (Instr.buildSlice 28 1 #[(0,.string v)]) false [(false,[.slice 0])] (fun q b g=>T.eK YC (Builtin.append_ #[28,28] 28 #[.slice p l c,.slice q b g]) false [(false,[.slice 0])] (fun d e f=>T.ao (bx r.W) [.slice d e f] H)) L K h:=by
 refine lO (vs:=TZ v) TK TL rfl ad ad aw rfl rfl m.w ad ad ad ?_;intro p' c' h1 j n s;refine m.SG o n (way':=st.cZ++[v]) (by simpa using j) (fun i hi=>?_) (fun h' b t=>hk h' p' c' b t);rcases s with rfl | ⟨a,rfl,u⟩
 ·exact .inl hi
 ·simp [aG] at hi; subst hi; exact .inr u
def S7 (x w m:YA) (g:XC) (i n:Nat) (b:Int):T :=
  T.loop [aK] [vI (0:Int)] <| fun (d:Int) =>
  cond (decide (d<((((Int.toNat (i:Int))-(Int.toNat b)):Nat):Int)))
  (T.need (((0:Int)<=d)/\(d<((((Int.toNat (i:Int))-(Int.toNat b)):Nat):Int))) <|
  T.bd (if (n=(Int.toNat b)) then g else (Option.map (fun a=>Addr.add a (ay b 1)) g)) <| fun (o:YA) =>
  T.ae (o.add (ay d 1)) [.string] <| fun (e:XA) =>
  T.ae x [.map 9 4] <| fun (q:Option Nat) =>
  T.ek YC (Instr.mapUpdate 142 (.map q) (.string e) (.bool false)) <|
  T.ae w [.map 9 4] <| fun (j:Option Nat) =>
  T.ae w [.map 9 4] <| fun (s:Option Nat) =>
  bR (Instr.lookup 142 (.map s) (.string e) false) false [cj] <| fun (t:Bool) =>
  cond t
   (T.ek YC (Instr.mapUpdate 142 (.map j) (.string e) (.bool true)) <|
   T.again 1 [vI (bf (d+(1:Int)))])
   (T.ae m [.slice 9] <| fun (y:XC) (u z:Nat) =>
   T.ek YC (Instr.mapUpdate 142 (.map j) (.string e) (.bool (decide ((bf ((u:Int)-b))>(1:Int))))) <|
   T.again 1 [vI (bf (d+(1:Int)))]))
  (T.ae m [.slice 9] <| fun (k:XC) (A f:Nat) =>
  T.need (((0:Int)<=(0:Int))/\(((0:Int)<=b)/\(b<=(f:Int)))) <|
  T.ao m [.slice (if (f=0) then k else (Option.map (fun a=>Addr.add a 0) k)) ((Int.toNat b)-0) (f-0)] <|
  bI #[])
def Q9 {R:List XB->Hp->Prop} (u:Il r es p0) (S:∀ s,s∈aU es->s.size<=maxLen) (m:mj r h st p l c) (co:Ny r h es p0 l0 c0) (hi:oo (aU es) st) (g:dz (aU es) st) (hl:l<=2^40) {v:XA} (U:qz v st<=st.cZ.length)
  (hk:∀ h' p' l' c',mj r h' (qk v st) p' l' c'->pq r p h p' h'->K (.tuple #[]) h'):S7 (bx r.O) (bx r.B) (bx r.W) p l c ((qz v st:Nat):Int) [R] K h:=by
 unfold S7 ay bR bf bI aK cj;have A:l=st.cZ.length:=by rw [m.w.1,Vr]
 have hcap:=m.w.FL;rw [show Int.toNat ((qz v st:Nat):Int)=qz v st from ad,cX l];generalize C:qz v st=k at *;have D:decide (1<st.cZ.length-qz v st)=decide (1<l-k):=by rw [C,A]
 unfold qk at hk;rw [D,C] at hk;refine aY (cs:=cU) (fun x w h'=>∃ i:Nat,x.1=(i:Int)/\i<=l-k/\w=l-k-i/\mj r h' (((st.cZ.drop k).take i).foldl (oG (decide (1<l-k))) st) p l c/\pq r p h p h') ((0:Int),()) (l-k) rfl ⟨0,rfl,ad,ad,by simpa using m,pq.refl _ _ _⟩ ?_;rintro ⟨V,⟨⟩⟩ w h2 ⟨i,E,Q,rfl,d,H⟩;simp only at E;subst E;refine ak ?_;have co2:=H.co u m co;have f:∀ (w:List XA) (st:TS),(w.foldl (oG (decide (1<l-k))) st).cZ=st.cZ:=by
  intro w
  induction w with
  | nil=>intro st; rfl
  | cons x w X=>intro st; rw [V2,X]; rfl
 refine aQ ?_ ?_<;>intro Y
 ·have j:k+i<st.cZ.length:=ad
  refine fJ ?_;rw [Vu ad];have hsl:=d.w;rw [f] at hsl;obtain ⟨a,rfl,hc⟩:=hsl.cells (i:=k+i) (by simpa using j);rw [VD] at hc;refine bk rfl ?_;rw [cX i,add_add,<- Wx];have n:st.cZ[k+i]∈aU es:=hi _ (g.j4 _ (VA j));have b:(st.cZ.drop k).take (i+1)=(st.cZ.drop k).take i++[st.cZ[k+i]]:=by
   rw [Vt (by rw [V6]; omega),List.getElem_drop]
  generalize st.cZ[k+i]=x at hc n b;refine aC (x,()) hc (ak ?_);have hsz:=S x n;generalize F:((st.cZ.drop k).take i).foldl (oG (decide (1<l-k))) st=q at d;have o:((st.cZ.drop k).take (i+1)).foldl (oG (decide (1<l-k))) st=oG (decide (1<l-k)) q x:=by rw [b,Ws,F]; rfl
  refine av co2.bO (some r.gO,()) (ak ?_);refine d.SS u.ord hsz ?_;intro Z I J z3;have co3:=J.co u d co2;refine av co3.bB (some r.gB,()) (ak ?_);refine av co3.bB (some r.gB,()) (ak ?_);refine I.ep x ?_;have hw:=lC i;refine an ?_ ?_<;>intro t
  ·have t:(q.back x).getD false=true:=t;refine I.RP u.ord hsz ?_;intro M y G z4;refine aD (cs:=cU) (((i+1:Nat):Int),()) (l-k-(i+1)) rfl ad (VO (fun z=>[Value.int .i64 z]) hw) ⟨i+1,rfl,ad,rfl,?_,(H.trans J).trans G⟩;rw [o];unfold oG;rw [t];exact y
  ·have t:(q.back x).getD false=false:=t;refine av I.bW ((_,_,_),()) (ak ?_);refine I.RP u.ord hsz ?_;intro M y G z4;refine aD (cs:=cU) (((i+1:Nat):Int),()) (l-k-(i+1)) rfl ad (VO (fun z=>[Value.int .i64 z]) hw) ⟨i+1,rfl,ad,rfl,?_,(H.trans J).trans G⟩;rw [o];unfold oG;rw [t,Xj];have e:decide ((IntKind.wrap .i64 ((l:Int)-(k:Int)))>(1:Int))=decide (1<l-k):=by
    rw [wrap_i64 ad ad];exact Xs.2 ad
   rw [e] at y;exact y
 ·have N:i=l-k:=ad
  subst N;have b:(st.cZ.drop k).take (l-k)=st.cZ.drop k:=V0 (by rw [V6]; omega);rw [b] at d;have P:(if c=0 then p else (Option.map (fun a=>Addr.add a 0) p))=p:=by
   split
   ·rfl
   ·cases p with
    | none=>rfl
    | some a=>simp only [Option.map_some,add_zero']
  refine av d.bW ((p,l,c),()) (ak ?_);refine jl ⟨ad,ad,ad⟩ ?_;rw [P,Nat.sub_zero,Nat.sub_zero];have hsl:=d.w;rw [f] at hsl;have hsk:=hsl.take (k:=k) ad;rw [<- List.map_take] at hsk;refine d.SG u.ord (Ch.refl _ _) hsk (fun i hi=>.inl hi) ?_;intro M y G;exact hk M p k c y (H.trans G)
end
structure EqsOk (es:List ei):Prop where
 nodup:(aU es).Nodup
 len:es.length<=2^40
 sz:∀ e,e∈es->e.name.size<=maxLen
 tl:∀ e,e∈es->e.x.ai.length<=2^40
 ts:∀ e,e∈es->∀ t,t∈e.x.ai->t.1.size<=maxLen
def EqsOk.names {es:List ei} (o:EqsOk es):∀ s,s∈aU es->s.size<=maxLen:=by
 intro s a;obtain ⟨e,b,rfl⟩:=Vy.1 a;exact o.sz e b
section
variable {r:TF} {es:List ei} {p0:XC} {l0 c0:Nat}
def Kp (K:EqsOk es) (y:Il r es p0):∀ f,H4 es r p0 l0 c0 f:=by
 intro f;have n:∀ s,da es s=true->s∈aU es:=fun s=>(eP es s).1
 have hs:=K.names;have hnl:(aU es).length=es.length:=by unfold aU; rw [Vr]
 induction f with
 | zero =>
  intro v st h p l c m co g hv h0 hu hi
  have:=(g.open K.nodup hv h0).2
  omega
 | succ f ih =>
  intro v st h p l c m co g hv h0 hu hi;have o:=y.ord;have o':=o;unfold TF.ord at o';have hlen:=K.len;refine aZ (args:=.string v::r.sQ) mixed Tryz.func106 aw (mP v (bx r.N) (bx r.L) (bx r.W) (bx r.O) (bx r.E) (bx r.A) (bx r.B) (bx r.V)) ?_;unfold iT aT bo bC ay dh eh aR bR bf ar bI ct aK cj;have hsv:=hs v hv;have hcnt:st.jd<=es.length:=by have:=g.sum; omega
  have hway:=g.cZ;have hll:l=st.cZ.length:=by rw [m.w.1,Vr]
  have hV:=co.bV.lt;refine av co.bN (some r.gN,()) (ak ?_);refine av co.bN (some r.gN,()) (ak ?_);refine Ut (en:=eI) m.mN ?_;refine m.uf o hsv (w:=st.jd+1) (by rw [wrap_i64 ad ad]; omega) ?_;intro h1 R s1 z1;have F:(st.num v).isSome=false:=by rw [h0]; rfl
  rw [F] at R;simp only [Bool.false_eq_true,if_false] at R;have co1:=s1.co y m co;refine av co1.bL (some r.gL,()) (ak ?_);refine av co1.bN (some r.gN,()) (ak ?_);refine R.Dt v ?_;refine R.rV o hsv rfl ?_;intro h2 m2 s2 z2;simp only [cw,Option.getD_some] at m2;have co2:=s2.co y R co1;refine av m2.bW ((p,l,c),()) (ak ?_);refine m2.TV o ad ad ?_;intro h3 p3 c3 m3 s3;have co3:=s3.co y m2 co2;refine av co3.bO (some r.gO,()) (ak ?_);refine m3.SS o hsv ?_;intro h4 m4 s4 z4;have co4:=s4.co y m3 co3;have s04:pq r p h p3 h4:=((s1.trans s2).trans s3).trans s4
  replace m4:mj r h4 (ey v st) p3 (l+1) c3:=m4
  refine av co4.bE ((p0,l0,c0),()) (ak ?_);refine av co4.bA (some r.gA,()) (ak ?_);obtain ⟨nA,mA⟩:=co4.mA;refine Hx mA v ?_;obtain ⟨k,hk⟩:=CZ hv;obtain ⟨u,hkn,hkx⟩:=nI hk;have hl0:=co4.vw.len;rw [hk];simp only [Option.getD_some];refine fJ ?_;obtain ⟨a,ha,hc⟩:=co4.vw.cells k u;refine bk ha ?_;rw [cX k];have hin:=co4.vw.j4 es[k] (VA u);have D:∀ h',Ny r h' es p0 l0 c0->iW h' es[k].p es[k].l es[k].x.ai:=fun h' co'=>co'.vw.j4 es[k] (VA u)
  have htl:=K.tl es[k] (VA u);have hts:=K.ts es[k] (VA u);have hli:=y.li es[k] (VA u);have S:cK (dE es) v=es[k].x.ai.map (·.1):=by unfold cK; rw [hkx]
  generalize es[k]=e at hc hin D htl hts hli S;refine aC ((e.p,e.l,e.c),()) ⟨by rw [add_zero']; exact hc.2.1,trivial⟩ ?_;refine ak ?_;have hel:=hin.len;have hgood:=fun l=>Jt K.nodup n (cK (dE es)) g hv h0 hu l
  have U:∀ l:List XA,oo (aU es) (l.foldl (ew (da es) (cP (da es) (cK (dE es)) f) v) (ey v st)):=fun l=>oo.fold n (fun w st hi hw=>oo.visit n (cK (dE es)) f w st hi hw) l _ (hi.open hv)
  refine aY (cs:=cU) (fun x w h'=>∃ (i:Nat) (p':XC) (l' c':Nat),x.1=(i:Int)/\i<=e.x.ai.length/\w=e.x.ai.length-i/\mj r h' (((e.x.ai.map (·.1)).take i).foldl (ew (da es) (cP (da es) (cK (dE es)) f) v) (ey v st)) p' l' c'/\pq r p h p' h')
   ((0:Int),()) e.x.ai.length rfl ⟨0,p3,l+1,c3,rfl,ad,ad,m4,s04⟩ ?_
  rintro ⟨n26,⟨⟩⟩ w X ⟨i,p5,M,c5,Y,hile,rfl,q,P⟩;simp only at Y;subst Y;refine ak ?_;have co5:=P.co y m co;obtain ⟨G,Z,j,n5,hn5⟩:=hgood ((e.x.ai.map (·.1)).take i);have hi5:=U ((e.x.ai.map (·.1)).take i);have hk5:=fun hi:i<e.x.ai.length=>(show (e.x.ai.map (·.1)).take (i+1)=(e.x.ai.map (·.1)).take i++[e.x.ai[i].1] by
   rw [Vt (by rw [Vr]; exact hi),VD])
  have hfin:i=e.x.ai.length->(e.x.ai.map (·.1)).take i=cK (dE es) v:=by
   intro hh;rw [S];exact V0 (by rw [Vr]; omega)
  have hfold:∀ hi:i<e.x.ai.length,((e.x.ai.map (·.1)).take (i+1)).foldl (ew (da es) (cP (da es) (cK (dE es)) f) v) (ey v st)=ew (da es) (cP (da es) (cK (dE es)) f) v (((e.x.ai.map (·.1)).take i).foldl (ew (da es) (cP (da es) (cK (dE es)) f) v) (ey v st)) e.x.ai[i].1:=by
   intro hi;rw [hk5 hi,Ws]; rfl
  have d:cP (da es) (cK (dE es)) (f+1) v st=(if tP ((cK (dE es) v).foldl (ew (da es) (cP (da es) (cK (dE es)) f) v) (ey v st)) v<ry ((cK (dE es) v).foldl (ew (da es) (cP (da es) (cK (dE es)) f) v) (ey v st)) v then (cK (dE es) v).foldl (ew (da es) (cP (da es) (cK (dE es)) f) v) (ey v st) else qk v ((cK (dE es) v).foldl (ew (da es) (cP (da es) (cK (dE es)) f) v) (ey v st))):=rfl;refine aQ ?_ ?_<;>intro g1
  ·have C:i<e.x.ai.length:=ad
   have hfold:=hfold C;refine fJ ?_;obtain ⟨a2,ha2,hc2⟩:=(D X co5).cells i C;refine bk ha2 ?_;rw [cX i];have htsi:=hts e.x.ai[i] (VA C);generalize e.x.ai[i]=t at hc2 htsi hfold;generalize hst5:((e.x.ai.map (·.1)).take i).foldl (ew (da es) (cP (da es) (cK (dE es)) f) v) (ey v st)=st5 at q G Z hi5 hfold;refine aC (t.1,(t.2:Int),()) hc2 (ak ?_);refine br ?_;intro h6 b6 e6 z6;refine bT b6 ?_;intro h7 Q k7 z7;have Q:bm h7 X.size 66 [.string t.1,.int .u32 (t.2:Int)]:=Q;have H:Ext X h7:=bZ e6 k7;have co7:=co5.ig y H ah;have m7:=q.af H;have Sr:pq r p5 X p5 h7:=pq.ext H;have ha7:=co5.bV.lt;have I:X.size∉aG p5:=fun hb=>by have:=(q.w.cu hb).2; omega
   have hw:=lC i;refine av co7.bA (some r.gA,()) (ak ?_);refine av Q (t.1,()) (ak ?_);obtain ⟨nA7,mA7⟩:=co7.mA;refine Ck mA7 t.1 ?_;refine an ?_ ?_<;>intro b
   ·have b:¬ da es t.1=true:=by
     unfold da;intro hh;rw [hh] at b;cases b
    have J:ew (da es) (cP (da es) (cK (dE es)) f) v st5 t.1=st5:=Vu b;refine aD (cs:=cU) (((i+1:Nat):Int),()) (e.x.ai.length-(i+1)) rfl ad (VO (fun z=>[Value.int .i64 z]) hw) ⟨i+1,p5,M,c5,rfl,ad,rfl,?_,P.trans Sr⟩;rw [hfold,J];exact m7
   ·have b:da es t.1=true:=by
     unfold da;cases hh:(xP es t.1).isSome with
     | true=>rfl
     | false=>rw [hh] at b; cases b
    have hwn:=n _ b;have J:ew (da es) (cP (da es) (cK (dE es)) f) v st5 t.1=sE (cP (da es) (cK (dE es)) f) v t.1 (fh v t.1 st5):=VE b;rw [J] at hfold;have g8:=G.self v t.1;have hu8:pQ (aU es) (fh v t.1 st5)<=f:=by unfold pQ; rw [(gS v t.1 st5).1]; exact Z
    have hi8:oo (aU es) (fh v t.1 st5):=by intro s hs; rw [(gS v t.1 st5).1] at hs; exact hi5 s hs
    refine av Q (t.1,()) (ak ?_);rw [SQ];refine aQ ?_ ?_<;>intro g3
    ·refine av co7.bB (some r.gB,()) (ak ?_);refine m7.RP o hsv ?_;intro h8 m8 s8 z8;have e8:fh v t.1 st5={ st5 with back:=dB st5.back v true }:=VE g3;rw [<- e8] at m8;have co8:=s8.co y m7 co7;have b8:=s8.box (st:=st5) (l:=M) (c:=c5) o ha7 I Q;refine H' ih y hs m8 co8 g8 hu8 hi8 hv hwn ha7 I b8 (i:Int) ?_;intro h9 p9 l9 c9 m9 s9;refine aD (cs:=cU) (((i+1:Nat):Int),()) (e.x.ai.length-(i+1)) rfl ad (VO (fun z=>[Value.int .i64 z]) hw) ⟨i+1,p9,l9,c9,rfl,ad,rfl,?_,((P.trans Sr).trans s8).trans s9⟩;rw [hfold];exact m9
    ·have e8:fh v t.1 st5=st5:=Vu g3;rw [<- e8] at m7;refine H' ih y hs m7 co7 g8 hu8 hi8 hv hwn ha7 I Q (i:Int) ?_;intro h9 p9 l9 c9 m9 s9;refine aD (cs:=cU) (((i+1:Nat):Int),()) (e.x.ai.length-(i+1)) rfl ad (VO (fun z=>[Value.int .i64 z]) hw) ⟨i+1,p9,l9,c9,rfl,ad,rfl,?_,(P.trans Sr).trans s9⟩;rw [hfold];exact m9
  ·have hii:=hfin ad;rw [hii] at q G j hi5 hn5;generalize hst5:(cK (dE es) v).foldl (ew (da es) (cP (da es) (cK (dE es)) f) v) (ey v st)=st5 at q G j hi5 hn5 d;refine av co5.bL (some r.gL,()) (ak ?_);refine q.zT v ?_;refine av co5.bN (some r.gN,()) (ak ?_);refine q.Dt v ?_;refine an ?_ ?_<;>intro b
   ·have b:tP st5 v<ry st5 v:=by have:=Vv b; unfold tP ry; omega
    rw [VE b] at d;refine ⟨rfl,p5,M,c5,?_,P⟩;rw [d];exact q
   ·have b:¬ tP st5 v<ry st5 v:=by have:=VI b; unfold tP ry; omega
    rw [Vu b] at d;have hl5:M=st5.cZ.length:=by rw [q.w.1,Vr]
    have hw5:=G.cZ;have hc5:st5.jd<=es.length:=by have:=G.sum; omega
    have hvw:v∈st5.cZ:=j.subset ah;have hpk:qz v st5<st5.cZ.length:=by
     unfold qz;rw [List.findIdx_lt_length];exact ⟨v,hvw,ah⟩
    refine av q.bW ((p5,M,c5),()) (ak ?_);refine lj (Kj q.w v hvw ad) ?_;refine av q.bW ((p5,M,c5),()) (ak ?_);have hcap:=q.w.FL;have hpk':(st5.cZ.findIdx fun x=>decide (v=x))=qz v st5:=rfl;rw [hpk'];refine jl ⟨ad,ad,ad⟩ ?_;refine Q9 y hs q co5 hi5 G ad ad ?_;intro h6 p6 l6 c6 m6 s6;refine ⟨rfl,p6,l6,c6,?_,P.trans s6⟩;rw [d];exact m6
end
theorem oo.top {names:List XA} {own:XA->Bool} (a:∀ s,own s=true->s∈names) (succ:XA->List XA) (f:Nat):∀ (l:List XA) (st:TS),(∀ s,s∈l->s∈names)->oo names st->oo names (l.foldl (vY own succ f) st)
 | [],st,hl,hi=>hi
 | w::l,st,hl,hi=>by
  rw [V2];refine oo.top a succ f l _ (fun s b=>hl s (Vz _ b)) ?_;unfold vY;split
  ·exact oo.visit a succ f w st hi (hl w ah)
  ·exact hi
def GN {p:XC} {c:Nat} {es:List ei} (v:Ah I p H es) (U:EqsOk es) (hp:∀ i,i∈aG p->i<I.size) :
  HC YC 83 #[.slice p H c] I fun w h'=>(∃ g n,w=.map (some g)/\dN eB h' g (Fm (da es) (cK (dE es)) (aU es)).back n/\I.size<=g)/\Ext I h':=by
 refine aZ (args:=[.slice p H c]) mixed Tryz.func83 aw (xh p H c) ?_;unfold sG aT bo bC ay bq bR ar aM ct aK;have A:∀ s,da es s=true->s∈aU es:=fun s=>(eP es s).1
 have hnl:(aU es).length=es.length:=by unfold aU; rw [Vr]
 have hll:=v.len;have hlen:=U.len;refine br ?_;intro h1 b1 e1 z1;refine av b1 ((p,H,c),()) (ak ?_);refine aH (zc (v.af e1) U.len U.nodup U.sz) ?_;rintro _ h2 ⟨⟨gA,rfl,mA,hgA⟩,e2⟩;refine ⟨(some gA,()),rfl,ak ?_⟩;have b2:=b1.af e2 ah;have hgA2:=mA.lt;refine br ?_;intro h3 b3 e3 z3;refine bT b3 ?_;intro h4 b4 k4 z4;have b4:bm h4 h2.size 97 [.map (some gA)]:=b4;have e24:Ext h2 h4:=bZ e3 k4;refine xT (en:=eB) ?_;intro W m5 e5 z5;refine br ?_;intro h6 b6 e6 z6;refine bT b6 ?_;intro h7 b7 k7 z7;have b7:bm h7 W.size 142 [.map (some h4.size)]:=b7;have X:Ext W h7:=bZ e6 k7;refine xT (en:=eI) ?_;intro h8 m8 e8 z8;refine xT (en:=eI) ?_;intro C m9 e9 z9;refine br ?_;intro Y b10 e10 z10;refine br ?_;intro h11 b11 Z z11;refine bT (b10.af Z ah) ?_;intro h12 L k12 z12;have L:bm h12 C.size 97 [.map (some h7.size)]:=L;refine bT (b11.af k12 (by simp; omega)) ?_;intro h13 M k13 z13;have M:bm h13 Y.size 97 [.map (some h8.size)]:=M;have e913:Ext C h13:=Ch.trans ((bZ (Ext.trans e10 Z) k12):Ext C h12) k13 (fun j hj hl=>by simp at hj; omega);refine br ?_;intro h14 b14 e14 z14;refine xT (en:=eB) ?_;intro O m15 e15 z15;refine br ?_;intro h16 b16 e16 z16;refine bT b16 ?_;intro h17 P k17 z17;have P:bm h17 O.size 142 [.map (some h14.size)]:=P;have Q:Ext O h17:=bZ e16 k17;refine br ?_;intro h18 b18 e18 z18;refine bT b18 ?_;intro h19 b19 k19 z19;have f:Ext h17 h19:=bZ e18 k19;have e1519:=Q.trans f;have a:Ext h13 h19:=(e14.trans e15).trans e1519;have e919:=e913.trans a;have m:Ext h7 h19:=(e8.trans e9).trans e919;have D:Ext h4 h19:=(e5.trans X).trans m;have e219:=e24.trans D;have F:Ext I h19:=(e1.trans e2).trans e219;have hz13:h13.size=C.size+2:=ad
 have hz9:C.size=h7.size+2:=ad
 have hz7:h7.size=h4.size+2:=ad
 have hz4:h4.size=h2.size+1:=ad
 generalize G:(⟨I.size,gA,h2.size,h4.size,W.size,h7.size,h8.size,C.size,Y.size,h13.size,h14.size,O.size,h17.size⟩:TF)=r;have ho:r.ord:=by
  subst G;unfold TF.ord;dsimp only;omega
 have co:Ny r h19 es p H c:=by
  subst G;refine ⟨(b2.af e219 ah),b4.af D ah,⟨_,mA.af e219 ah⟩,?_,(L.af k13 (by simp; omega)).af a ah,M.af a ah,P.af f ah,b7.af m ah,v.af F⟩;exact b19
 have st:mj r h19 Bg none 0 0:=by
  subst G;exact ⟨m8.af (e9.trans e919) ah,⟨0,m9.af e919 ah⟩,⟨0,m15.af e1519 ah⟩,⟨0,m5.af ((X.trans m)) ah⟩,b14.af (e15.trans e1519) ah,SL.nil _ _ _ _⟩
 have lo:Il r es p:=by
  subst G;exact ⟨ho,hp,fun e he hne i hi=>(v.j4 e he).RV hne i hi⟩
 have hrE:r.E=I.size:=by subst G; rfl
 have hbN:r.N=C.size:=by subst G; rfl
 have hbV:r.V=h17.size:=by subst G; rfl
 have hbB:r.B=W.size:=by subst G; rfl
 rw [show (⟨C.size,0,none⟩:YA)=bx r.N by rw [hbN],show (⟨h17.size,0,none⟩:YA)=bx r.V by rw [hbV],show (⟨W.size,0,none⟩:YA)=bx r.B by rw [hbB],show (⟨I.size,0,none⟩:YA)=bx r.E by rw [hrE]];refine av co.bE ((p,H,c),()) (ak ?_);refine aY (cs:=cU) (fun x w h'=>∃ (i:Nat) (p':XC) (l' c':Nat),x.1=(i:Int)/\i<=es.length/\w=es.length-i/\mj r h' (((aU es).take i).foldl (vY (da es) (cK (dE es)) (aU es).length) Bg) p' l' c'/\pq r none h19 p' h')
  ((0:Int),()) es.length rfl ⟨0,none,0,0,rfl,ad,ad,st,pq.refl _ _ _⟩ ?_
 rintro ⟨n20,⟨⟩⟩ w h20 ⟨i,R,l20,c20,hi0,hile,rfl,q,S⟩;simp only at hi0;subst hi0;refine ak ?_;have co20:=S.co lo st co;refine aQ ?_ ?_<;>intro g1
 ·have J:i<es.length:=ad
  refine fJ ?_;obtain ⟨a2,ha2,hc2⟩:=co20.vw.cells i J;refine bk ha2 ?_;rw [cX i];have t20:=BM (own:=da es) (succ:=cK (dE es)) U.nodup A ((aU es).take i) [] Bg (fun s hs=>WO hs) (TB _);have i20:=oo.top A (cK (dE es)) (aU es).length ((aU es).take i) Bg (fun s hs=>WO hs) (fun s hs=>(hs rfl).elim);have t:(aU es).take (i+1)=(aU es).take i++[es[i].name]:=by
   rw [Vt ad];unfold aU;rw [VD]
  have K:es[i].name∈aU es:=VM (VA J);generalize es[i]=e at hc2 t K;have b:((aU es).take (i+1)).foldl (vY (da es) (cK (dE es)) (aU es).length) Bg=vY (da es) (cK (dE es)) (aU es).length (((aU es).take i).foldl (vY (da es) (cK (dE es)) (aU es).length) Bg) e.name:=by
   rw [t,Ws]; rfl
  generalize ((aU es).take i).foldl (vY (da es) (cK (dE es)) (aU es).length) Bg=o at q t20 i20 b;refine aC (e.name,(e.p,e.l,e.c),(e.x.num:Int),()) hc2 (ak ?_);refine br ?_;intro h21 b21 e21 z21;refine bT b21 ?_;intro h22 u k22 z22;have u:bm h22 h20.size 88 [.string e.name,.slice e.p e.l e.c,.int .u32 e.x.num]:=u;have d:Ext h20 h22:=bZ e21 k22;have co22:=co20.ig lo d ah;have m22:=q.af d;have s22:pq r none h19 R h22:=S.trans (pq.ext d);have hw:=lC i;refine av co22.bN (some r.gN,()) (ak ?_);refine av u (e.name,()) (ak ?_);refine m22.Dt e.name ?_;refine an ?_ ?_<;>intro y
  ·have y:(o.num e.name).getD 0=0:=by have:=Vv y; omega
   refine av co22.bV (.func (.func 106) #[] r.sQ.toArray,()) (ak ?_);refine av u (e.name,()) (ak ?_);refine uO (cap:=r.sQ) TO rfl (Kp U lo (aU es).length e.name o h22 R l20 c20 m22 co22 t20.BS K (t20.BS.none y) (WT _ _) i20) ?_;rintro _ h23 ⟨rfl,p23,l23,c23,m23,s23⟩;refine ⟨(),rfl,?_⟩;refine aD (cs:=cU) (((i+1:Nat):Int),()) (es.length-(i+1)) rfl ad (VO (fun z=>[Value.int .i64 z]) hw) ⟨i+1,p23,l23,c23,rfl,ad,rfl,?_,s22.trans s23⟩;rw [b];unfold vY;rw [VE y];exact m23
  ·have y:¬ (o.num e.name).getD 0=0:=by
    intro k;rw [k] at y;simp at y
   refine aD (cs:=cU) (((i+1:Nat):Int),()) (es.length-(i+1)) rfl ad (VO (fun z=>[Value.int .i64 z]) hw) ⟨i+1,R,l20,c20,rfl,ad,rfl,?_,s22⟩;rw [b];unfold vY;rw [Vu y];exact m22
 ·have t:(aU es).take i=aU es:=V0 ad;rw [t] at q;refine av co20.bB (some r.gB,()) (ak ?_);obtain ⟨n3,mB⟩:=q.mB;have o':=ho;unfold TF.ord at o';refine ⟨⟨r.gB,n3,rfl,mB,ad⟩,Ch.trans F S.ch fun j hj hl=>?_⟩;rw [oL] at hj;simp [aG] at hj;omega
def vZ {us:dt} (s:SL I H a 2 O U V (us.map cg)):iW I O U us :=
 ⟨by rw [s.1,Vr],fun i hi=>by
  obtain ⟨d,f,hc⟩:=s.cells (i:=i) (by simpa using hi);rw [VD] at hc;exact ⟨d,f,hc⟩⟩
structure sJ (es:List ei):Prop extends EqsOk es where
 Sp:(es.flatMap (·.x.ai)).length<=2^20
abbrev iD (es:List ei) (v:XA):cL:=Oa (da es) (dE es) (aU es) v
abbrev eZ (es:List ei):XA->XA->Prop:=Edge (da es) (cK (dE es))
def kV {es:List ei} {v:XA} (hv:v∈aU es):∃ e,e∈es/\e.name=v/\dE es v=e.x:=by
 obtain ⟨k,hk⟩:=CZ hv;obtain ⟨a,b,c⟩:=nI hk;exact ⟨_,VA a,b,c⟩
def gu {α β:Type} (f:α->List β) {l:List α} {a:α} (h:a∈l):(f a).length<=(l.flatMap f).length:=by
 induction l with
 | nil=>simp at h
 | cons b l c =>
  rw [Wh,Vs];rcases VK.1 h with e | e
  ·subst e; omega
  ·have:=c e; omega
def sJ.yu {es:List ei} (o:sJ es) {v:XA} (hv:v∈aU es):(dE es v).ai.length<=2^20:=by
 obtain ⟨e,a,_,b⟩:=kV hv;rw [b];exact Wi (gu (fun e:ei=>e.x.ai) a) o.Sp
def sJ.CW {es:List ei} (o:sJ es) (hc:∀ v,¬ oM (eZ es) v) {v:XA} (hv:v∈aU es):(iD es v).ai.length<=2^20:=by
 have hnf:=RQ (eP es) hc hv;have hnm:=A6 (eP es) hc hv;have h1:((iD es v).ai.map (·.1)).Nodup:=Wl.2 (hnf.1.imp fun h=>jP h);have h2:=mQ ((iD es v).ai.map (·.1)) ((es.flatMap (·.x.ai)).map (·.1)) h1 (fun s b=>by
  obtain ⟨t,c,rfl⟩:=Vy.1 b;obtain ⟨_,w,u,f,a,e⟩:=hnm t c;obtain ⟨d,g,_,i⟩:=kV f;rw [i] at a;rw [<- e];exact VM (List.mem_flatMap.2 ⟨d,g,a⟩))
 rw [Vr,Vr] at h2;exact Wi h2 o.Sp
def sJ.JZ {es:List ei} (o:sJ es) (hc:∀ v,¬ oM (eZ es) v) {v:XA} (hv:v∈aU es):∀ t,t∈(iD es v).ai->t.1.size<=maxLen:=by
 intro t b;obtain ⟨_,w,u,c,a,e⟩:=A6 (eP es) hc hv t b;obtain ⟨d,f,_,g⟩:=kV c;rw [g] at a;rw [<- e];exact o.ts d f u a
theorem oZ {of:XA->Option cL} {B:Nat} (b:1<=B) (a:∀ s y,of s=some y->y.ai.length<=B):∀ l:dt,(l.flatMap (tp of)).length<=l.length*B
 | []=>ah
 | t::l=>by
  rw [Wh,Vs,Wc,Wx];have ih:=oZ b a l
  have:(tp of t).length<=B:=by
   unfold tp;cases h:of t.1 with
   | none=>simpa using b
   | some y=>simpa using a _ _ h
  omega
structure SF where
 E:Nat
 gA:Nat
 A:Nat
 gD:Nat
 D:Nat
 V:Nat
def SF.ord (r:SF):Prop:=r.E<r.gA/\r.gA<r.A/\r.A<r.gD/\r.gD<r.D/\r.D<r.V
def SF.sQ (r:SF):List XB:=[.pointer (some (bx r.D)),.pointer (some (bx r.E)),.pointer (some (bx r.A)),.pointer (some (bx r.V))]
structure Se (r:SF) (h:Hp) (es:List ei) (p0:XC) (l0 c0:Nat):Prop where
 bE:bm h r.E 27 [.slice p0 l0 c0]
 bA:bm h r.A 97 [.map (some r.gA)]
 mA:∃ n,dN eI h r.gA (xP es) n
 bV:bm h r.V 148 [.func (.func 85) #[] r.sQ.toArray]
 bD:bm h r.D 147 [.map (some r.gD)]
 vw:Ah h p0 l0 es
structure UC (r:SF) (es:List ei) (p0:XC):Prop where
 ord:r.ord
 l0:∀ i,i∈aG p0->i<r.E
 li:∀ e,e∈es->e.x.ai≠[]->∀ i,i∈aG e.p->i<r.E
def Se.af {r:SF} {h h':Hp} {es:List ei} {p0:XC} {l0 c0:Nat} (m:Se r h es p0 l0 c0) (a:UC r es p0) (k:Ch [r.gD] h h'):Se r h' es p0 l0 c0:=by
 have o:=a.ord;unfold SF.ord at o;obtain ⟨n,mA⟩:=m.mA;exact ⟨m.bE.af k (by simp; omega),m.bA.af k (by simp; omega),⟨n,mA.af k (by simp; omega)⟩,m.bV.af k (by simp; omega),m.bD.af k (by simp; omega),m.vw.ig k (fun i hi=>by have:=a.l0 i hi; simp; omega) (fun e c b i hi=>by have:=a.li e c b i hi; simp; omega)⟩
structure Qm (r:SF) (h:Hp) (es:List ei) (f:XA->Option qF):Prop where
 map:∃ n,F4 h r.gD f n
 of:∀ s y,f s=some y->s∈aU es/\y.x=iD es s/\∀ i,i∈aG y.p->r.V<i/\i<h.size
variable {b:SF}
def Qm.ext {h':Hp} {es:List ei} {f:XA->Option qF} (d:Qm b I es f) (k:Ext I h'):Qm b h' es f:=by
 obtain ⟨n,m⟩:=d.map;exact ⟨⟨n,m.af k ah (fun s y g i hi=>ah)⟩,fun s y g=>by
  obtain ⟨a,e,c⟩:=d.of s y g;exact ⟨a,e,fun i hi=>⟨(c i hi).1,Nat.lt_of_lt_of_le (c i hi).2 k.size⟩⟩⟩
def Tp (f a:XA->Option qF):Prop:=∀ s y,f s=some y->a s=some y
def PK (b:Nat) (f a:XA->Option qF):Prop:=∀ s y,a s=some y->f s=some y\/∀ i,i∈aG y.p->b<=i
def QC:fv YC 85=true:=aw
def KY {es:List ei} {p0:XC} {l0 c0:Nat} (eo:sJ es) (Z:UC b es p0) (hc:∀ v,¬ oM (eZ es) v):∀ (k:Nat) (v:XA),Hg (eZ es) k v->v∈aU es->∀ (h:Hp) (f:XA->Option qF),Se b h es p0 l0 c0->Qm b h es f ->
  HC YC 85 (.string v::b.sQ).toArray h fun w h'=>∃ y N,w=eL y/\y.x=iD es v/\Qm b h' es N/\N v=some y/\Tp f N/\PK h.size f N/\Ch [b.gD] h h':=by
 intro k;have o:=Z.ord;have o':=o;unfold SF.ord at o';have hown:=eP es
 induction k with
 | zero=>intro v hg; exact hg.elim
 | succ k ih =>
  intro v hg hv h f co dn;refine aZ (args:=.string v::b.sQ) mixed Tryz.func85 aw (oH v (bx b.D) (bx b.E) (bx b.A) (bx b.V)) ?_;unfold jX aT bo bC ay bq bR ar aM ct aK cj;have hV:=co.bV.lt;have hsv:=eo.toEqsOk.names v hv;refine br ?_;intro h1 b1 e1 z1;have co1:=co.af Z (e1.mono ah);have dn1:=dn.ext e1;refine av co1.bD (some b.gD,()) (ak ?_);obtain ⟨n1,m1⟩:=dn1.map;refine zT m1.map v (fun y hy1=>?_) (fun hy0=>?_)
  ·refine br ?_;intro h2 b2 e2 z2;refine bT b2 ?_;intro h3 b3 k3 z3;have b3:bm h3 h1.size 60 [.slice y.p y.l y.c,.int .u32 (y.x.num:Int)]:=b3;have F:Ext h1 h3:=bZ e2 k3;refine cy rfl ?_;refine av b3 ((y.p,y.l,y.c),(y.x.num:Int),()) (ak ?_);refine bT (b1.af F ah) ?_;intro h4 b4 k4 z4;have b4:bm h4 h.size 60 [.slice y.p y.l y.c,.int .u32 (y.x.num:Int)]:=b4;refine av b4 ((y.p,y.l,y.c),(y.x.num:Int),()) ?_;have e04:Ext h h4:=bZ (e1.trans F) k4;exact ⟨y,f,rfl,(dn.of v y hy1).2.1,dn.ext e04,hy1,fun s y hy=>hy,fun s y hy=>.inl hy,e04.mono ah⟩
  ·refine br ?_;intro h2 b2 e2 z2;refine bT b2 ?_;intro h3 b3 k3 z3;have F:Ext h1 h3:=bZ e2 k3;refine bX rfl ?_;have e03:=e1.trans F;have co3:=co.af Z (e03.mono ah);have dn3:=dn.ext e03;refine av co3.bE ((p0,l0,c0),()) (ak ?_);refine av co3.bA (some b.gA,()) (ak ?_);obtain ⟨nA,mA⟩:=co3.mA;refine Hx mA v ?_;obtain ⟨q,hq⟩:=CZ hv;obtain ⟨O,hqn,hqx⟩:=nI hq;have hl0:=co3.vw.len;have hlen:=eo.len;rw [hq];simp only [Option.getD_some];refine fJ ?_;obtain ⟨a,ha,hcc⟩:=co3.vw.cells q O;refine bk ha ?_;rw [cX q];have n:∀ h',Se b h' es p0 l0 c0->iW h' es[q].p es[q].l es[q].x.ai:=fun h' co'=>co'.vw.j4 es[q] (VA O)
   have hts:=eo.ts es[q] (VA O);have hli:=Z.li es[q] (VA O);have hll:=eo.yu hv;have hsol:=GU hown hc hv;rw [hqx] at hll hsol;have G:∀ t,t∈es[q].x.ai->da es t.1=true->eZ es v t.1:=fun t ht C=>⟨rk.2 ⟨t,by rw [hqx]; exact ht,rfl⟩,C⟩
   generalize es[q]=e at hcc n hts hli hll hsol G;refine aC ((e.p,e.l,e.c),(e.x.num:Int),()) ⟨by rw [add_zero']; exact hcc.2.1,by rw [add_add]; exact hcc.2.2.1,trivial⟩ ?_;refine ak ?_;refine br ?_;intro h5 b5 e5 z5;refine bT b5 ?_;intro h6 b6 k6 z6;have b6:bm h6 h3.size 60 [.slice e.p e.l e.c,.int .u32 (e.x.num:Int)]:=b6;have e36:Ext h3 h6:=bZ e5 k6;have e06:=e03.trans e36;have hz3:=e03.size;refine av b6 ((e.p,e.l,e.c),()) (ak ?_);refine aY (cs:=cU) (fun x w h'=>∃ (i:Nat) (N:XA->Option qF),x.1=(i:Int)/\i<=e.x.ai.length/\w=e.x.ai.length-i/\Qm b h' es N/\Tp f N/\PK h6.size f N/\(∀ t,t∈e.x.ai.take i->da es t.1=true->∃ y,N t.1=some y)/\Ch [b.gD] h6 h')
    ((0:Int),()) e.x.ai.length rfl ⟨0,f,rfl,ad,ad,dn.ext e06,fun s y hy=>hy,fun s y hy=>.inl hy,ah,Ch.refl _ _⟩ ?_
   rintro ⟨n23,⟨⟩⟩ w h7 ⟨i,H,hi0,hile,rfl,g,sb7,P,Q,k7⟩;simp only at hi0;subst hi0;refine ak ?_;have R:Ch [b.gD] h h7:=Ch.trans (e06.mono ah) k7 (fun j I _=>I);have co7:=co.af Z R;have hel:=(n h7 co7).len;refine aQ ?_ ?_<;>intro g1
   ·have J:i<e.x.ai.length:=ad
    refine fJ ?_;obtain ⟨a2,ha2,hc2⟩:=(n h7 co7).cells i J;refine bk ha2 ?_;rw [cX i];have htk:e.x.ai.take (i+1)=e.x.ai.take i++[e.x.ai[i]]:=Vt J;have hed:=G e.x.ai[i] (VA J);generalize e.x.ai[i]=t at hc2 htk hed;refine aC (t.1,(t.2:Int),()) hc2 (ak ?_);refine br ?_;intro h8 b8 e8 z8;refine bT b8 ?_;intro h9 S k9 z9;have S:bm h9 h7.size 66 [.string t.1,.int .u32 (t.2:Int)]:=S;have K:Ext h7 h9:=bZ e8 k9;have U:Ch [b.gD] h h9:=Ch.trans R K ah;have co9:=co.af Z U;have dn9:=g.ext K;have hw:=lC i;refine av co9.bA (some b.gA,()) (ak ?_);refine av S (t.1,()) (ak ?_);obtain ⟨nA9,mA9⟩:=co9.mA;refine Ck mA9 t.1 ?_;refine an ?_ ?_<;>intro W
    ·have W:da es t.1=true:=W;refine av co9.bV (.func (.func 85) #[] b.sQ.toArray,()) (ak ?_);refine av S (t.1,()) (ak ?_);refine uO (cap:=b.sQ) QC rfl (ih t.1 (hg t.1 (hed W)) ((hown _).1 W) h9 H co9 dn9) ?_;rintro _ h10 ⟨y,f10,rfl,hyx,dn10,hfy,Y,na10,m⟩;refine ⟨((y.p,y.l,y.c),(y.x.num:Int),()),rfl,ak ?_⟩;refine aD (cs:=cU) (((i+1:Nat):Int),()) (e.x.ai.length-(i+1)) rfl ad (VO (fun z=>[Value.int .i64 z]) hw) ⟨i+1,f10,rfl,ad,rfl,dn10,fun s y hy=>Y s y (sb7 s y hy),fun s y hy=>?_,fun u hu C=>?_,?_⟩
     ·rcases na10 s y hy with h | h
      ·exact P s y h
      ·refine .inr fun i hi=>?_
       have:=h i hi
       have:=k7.size
       have:=K.size
       omega
     ·rw [htk] at hu;rcases VG.1 hu with h | h
      ·obtain ⟨y,hy⟩:=Q u h C;exact ⟨y,Y _ _ hy⟩
      ·rw [VH.1 h]; exact ⟨y,hfy⟩
     ·exact Ch.trans (Ch.trans k7 K ah) m (fun j I _=>I)
    ·have W:¬ da es t.1=true:=by
      unfold da;intro k;rw [k] at W;cases W
     refine aD (cs:=cU) (((i+1:Nat):Int),()) (e.x.ai.length-(i+1)) rfl ad (VO (fun z=>[Value.int .i64 z]) hw) ⟨i+1,H,rfl,ad,rfl,dn9,sb7,P,fun u hu C=>?_,Ch.trans k7 K ah⟩;rw [htk] at hu;rcases VG.1 hu with h | h
     ·exact Q u h C
     ·rw [VH.1 h] at C; exact (W C).elim
   ·have hii:e.x.ai.take i=e.x.ai:=V0 ad;rw [hii] at Q;have b7:=b6.af k7 (by simp; omega);refine av b7 ((e.p,e.l,e.c),(e.x.num:Int),()) (ak ?_);refine av co7.bD (some b.gD,()) (ak ?_);obtain ⟨n7,m7⟩:=g.map;have hz7:=R.size;have hput:fg (fun s=>(H s).map (·.x)) e.x=iD es v:=by
     show _=Oa (da es) (dE es) (aU es) v;rw [hsol];refine oO fun t ht=>?_
     show (H t.1).map (·.x)=Is (da es) (dE es) (aU es) t.1;unfold Is
     by_cases C:da es t.1=true
     ·obtain ⟨y,hy⟩:=Q t ht C;rw [hy,VE C,Option.map_some,(g.of _ _ hy).2.1]
     ·rw [Vu C];cases hy:H t.1 with
      | none=>rfl
      | some y=>exact (C ((hown _).2 (g.of _ _ hy).1)).elim
    have L:∀ s y,H s=some y->y.x.ai.length<=2^20:=fun s y hy=>by
     obtain ⟨a,d,_⟩:=g.of s y hy;rw [d]; exact eo.CW hc a
    refine aH (Dy (c:=e.c) (n h7 co7) m7 ad hts (fun s y hy=>⟨by have:=L s y hy; omega,by
      obtain ⟨a,d,_⟩:=g.of s y hy;rw [d]; exact eo.JZ hc a⟩) ?_) ?_
    ·have:=oZ (of:=fun s=>(H s).map (·.x)) (B:=2^20) ad (fun s y hy=>by
      cases hh:H s with
      | none=>simp only [hh] at hy; cases hy
      | some z =>
       simp only [hh,Option.map_some,Option.some.injEq] at hy;rw [<- hy]; exact L s z hh) e.x.ai
     exact Wi this (Wi (Wq _ hll) bJ)
    ·rintro _ h8 ⟨⟨p',l',c',rfl,s8⟩,e8⟩;rw [hput] at s8 ⊢;refine ⟨((p',l',c'),((iD es v).num:Int),()),rfl,ak ?_⟩;have b8:=b7.af e8 ah;refine bT b8 ?_;intro h9 S k9 z9;have S:bm h9 h3.size 60 [.slice p' l' c',.int .u32 ((iD es v).num:Int)]:=S;have hz8:=e8.size;have k79:Ch [h3.size] h7 h9:=Ch.trans (e8.mono ah) k9 (fun j I _=>I);have U:Ch [b.gD] h h9:=Ch.trans (Ch.trans R e8 ah) k9 (fun j I hl=>by simp at I; omega);have co9:=co.af Z U;have hk7:=k7.size;have hz36:h3.size<h6.size:=ad
     have M:∀ s y,H s=some y->∀ i,i∈aG y.p->i≠h3.size/\i≠h.size/\i≠b.gD:=by
      intro s y hy i hi;have h1:=(g.of s y hy).2.2 i hi;rcases P s y hy with h | h
      ·have:=((dn.of s y h).2.2 i hi).2
       omega
      ·have:=h i hi
       omega
     have m9:F4 h9 b.gD H n7:=m7.af k79 (by simp; omega) (fun s y hy i hi=>by
      have:=(M s y hy i hi).1
      simpa using this)
     have s9:=s8.bH k9 (fun i hi=>by have:=(s8.cu hi).1; simp; omega);refine av co9.bD (some b.gD,()) (ak ?_);refine av S ((p',l',c'),((iD es v).num:Int),()) (ak ?_);refine KF m9.map hsv ⟨p',l',c',iD es v⟩ ?_;intro h10 m10 m z10;have b10:=S.af m (by simp; omega);refine av b10 ((p',l',c'),((iD es v).num:Int),()) (ak ?_);have b110:bm h10 h.size 60 [.slice none 0 0,.int .u32 0]:=((((b1.af F ah).af e36 ah).af k7 (by simp; omega)).af k79 (by simp; omega)).af m (by simp; omega);refine bT b110 ?_;intro h11 b11 X z11;have b11:bm h11 h.size 60 [.slice p' l' c',.int .u32 ((iD es v).num:Int)]:=b11;refine av b11 ((p',l',c'),((iD es v).num:Int),()) ?_;have k011:Ch [b.gD] h h11:=Ch.trans (Ch.trans U m (fun j I _=>I)) X (fun j I hl=>by simp at I; omega);have hz9:=k79.size;refine ⟨⟨p',l',c',iD es v⟩,dB H v ⟨p',l',c',iD es v⟩,rfl,rfl,⟨⟨_,m10.af X (by simp; omega),fun s y hy=>?_⟩,fun s y hy=>?_⟩,cw _ _ _,fun s y hy=>?_,fun s y hy=>?_,k011⟩
     ·by_cases hsv:s=v
      ·subst hsv;rw [cw] at hy;have hy:=VP hy;subst hy;exact vZ ((s9.bH m (fun i hi=>by have:=(s9.cu hi).1; simp; omega)).bH X (fun i hi=>by have:=(s9.cu hi).1; simp; omega))
      ·rw [bM _ _ hsv] at hy;exact ((m9.j4 s y hy).af m (fun i hi=>by have:=(M s y hy i hi).2.2; simpa using this)).af X (fun i hi=>by have:=(M s y hy i hi).2.1; simpa using this)
     ·by_cases hsv:s=v
      ·subst hsv;rw [cw] at hy;have hy:=VP hy;subst hy;refine ⟨hv,rfl,fun i hi=>?_⟩
       have:=s9.cu hi
       omega
      ·rw [bM _ _ hsv] at hy;obtain ⟨a,d,c⟩:=g.of s y hy;refine ⟨a,d,fun i hi=>?_⟩
       have:=c i hi
       omega
     ·have hne:s≠v:=fun e=>by rw [e,hy0] at hy; cases hy
      rw [bM _ _ hne];exact sb7 s y hy
     ·by_cases hsv:s=v
      ·subst hsv;rw [cw] at hy;have hy:=VP hy;subst hy;refine .inr fun i hi=>?_
       have:=s9.cu hi
       omega
      ·rw [bM _ _ hsv] at hy;rcases P s y hy with h | h
       ·exact .inl h
       ·refine .inr fun i hi=>?_
        have:=h i hi
        omega
def tC {P:Program} {h:Hp} {L:Lp} {K:XB->Hp->Prop} {k:XC->Nat->Nat->T} {r e:TypeId} {z:XB} {sz by':Nat} (s:P.underlying a=some (.slice e)) (n:(P.info? e).map (fun i=>(i.zero,i.size,i.bytes))=some (some z,sz,by'))
  (u:z.cells.size=sz) {g:List (List XB)} (o:(O=none/\g=[])\/∃ d,O=some d/\aE h d 0 g.flatten) (hl:H=g.length) (w:∀ y,y∈g->y.length=sz) (A:g.flatten.all cO=true) (B:(2*H+1024)*by'<=2^48) (C:H<=2^48)
  (hk:∀ p' c' h',SL h' h.size e sz p' H c' g->Ext h h'->k p' H c' L K h') :
  T.eK P (Instr.buildSlice a 0 #[]) false [(false,[.slice 0])] (fun q m F=>T.eK P (Builtin.append_ #[a,a] r #[.slice q m F,.slice O H U]) false [(false,[.slice 0])] k) L K h:=by
 obtain ⟨i,hi,I,rfl,rfl⟩:=kq n;refine dc ?_;unfold Instr.buildSlice;rw [al,au s];simp only;rw [al,bF hi,cH hi];rw [Vu ad,VE ad];simp only [Nat.zero_mul,pure_bind];have J:∀ (f:Nat->Option (Nat × Nat)) (b:Array XB),Instr.fill f b []=some b:=fun f b=>rfl
 have M:Array.map (fun x=>(#[]:Array XB)[x % (#[]:Array XB).size]!) (Array.range 0)=#[]:=ah
 rw [J,M];show ∃ V W c1,_/\_
 refine ⟨_,_,_,rfl,?_⟩;have G:SL (h.push (.cells #[] e)) h.size e i.size (some ⟨h.size,0,none⟩) 0 0 []:=⟨rfl,ah,h.size,[],[],rfl,VL _,ad,bm.new h e [],ah⟩
 have D:Ext h (h.push (.cells #[] e)):=Ext.push _ _;refine dc ?_;rcases o with ⟨rfl,rfl⟩ | ⟨d,rfl,hc⟩
 ·have E:H=0:=hl;subst E;simp [Builtin.append_,al,au s,bF hi,Builtin.lenOf,Builtin.firstCells,storeCells];exact ⟨_,_,_,rfl,hk _ _ _ G D⟩
 ·have:=jh (P:=P) (h:=h.push (.cells #[] e)) (K:=fun v h'=>∃ O H U,v=.slice O H U/\k O H U L K h') (ty:=r) (ys:=g) s hi I u G hl w (bh D ah _ _ hc) A (by simpa using B) (by simpa using C) ah (cc:=U) ?_
  ·exact this
  ·intro p' c' h2 N Q R;rw [V9,WM] at *;exact ⟨p',H,c',rfl,hk p' c' h2 N (Ch.trans D Q fun j S hl=>by simp [aG] at S; omega)⟩
def yi {us:dt} (v:iW I O H us):(O=none/\us.map cg=[])\/∃ a,O=some a/\aE I a 0 (us.map cg).flatten:=by
 cases O with
 | none =>
  left
  refine ⟨rfl,?_⟩;cases us with
  | nil=>rfl
  | cons u us =>
   obtain ⟨a,b,_⟩:=v.cells 0 ah;cases b
 | some a=>exact .inr ⟨a,rfl,v.flat⟩
def zC (us:dt):∀ y,y∈us.map cg->y.length=2:=by
 intro y a;obtain ⟨u,_,rfl⟩:=Vy.1 a;rfl
def Fe {c:Nat} {us:dt} (v:iW I O H us) (hl:us.length<=2^40) :
  HC YC 54 #[.slice O H c] I fun w h'=>(∃ p' l' c',w=.slice p' l' c'/\SL h' I.size 66 2 p' l' c' (us.map cg))/\Ext I h':=by
 refine aZ (args:=[.slice O H c]) mixed Tryz.func54 aw (fB O H c) ?_;unfold dV aR aM;have hll:=v.len;cases O with
 | none =>
  rcases yi v with ⟨_,h2⟩ | ⟨a,b,_⟩
  ·refine cy rfl ?_;refine ⟨⟨none,0,0,rfl,?_⟩,Ch.refl _ _⟩;rw [h2];exact SL.nil _ _ _ _
  ·cases b
 | some a =>
  refine bX rfl ?_;refine tC (e:=66) (z:=.agg #[.string ⟨#[]⟩,.int .u32 0]) (sz:=2) (by':=24) AJ za rfl (yi v) (by simpa using hll) (zC us) (yY us) ad ad ?_;intro p' c' h' f g;exact ⟨⟨p',H,c',rfl,f⟩,g⟩
structure qc (h:Hp) (b:Nat) (p:XC) (l c:Nat) (ms:List ei):Prop where
 out:SL h b 88 3 p l c (ms.map Sd)
 j4:∀ m,m∈ms->SL h b 66 2 m.p m.l m.c (m.x.ai.map cg)
 ap:ms.Pairwise fun x y=>∀ i,i∈aG x.p->∀ j,j∈aG y.p->i<j
 dj:∀ m,m∈ms->∀ j,j∈aG m.p->j∉aG p
def qc.af {ws:List Nat} {h':Hp} {ms:List ei} (o:qc I H O U V ms) (k:Ch ws I h') (a:∀ i,i∈ws->i<H\/I.size<=i):qc h' H O U V ms :=
 ⟨o.out.bH k (fun i hi I=>by have:=o.out.cu hi; have:=a i I; omega),fun m d=>(o.j4 m d).bH k (fun i hi I=>by have:=(o.j4 m d).cu hi; have:=a i I; omega),o.ap,o.dj⟩
def BN {ms:List ei} (o:qc I H O U V ms):Ah I O U ms :=
 ⟨by rw [o.out.1,Vr],fun i hi=>by
  obtain ⟨a,d,hc⟩:=o.out.cells (i:=i) (by simpa using hi);rw [VD] at hc;exact ⟨a,d,hc⟩,fun m e=>vZ (o.j4 m e)⟩
def HH:Tryz.prog.underlying 27=some (.slice 88):=aw
def Jc:(Tryz.prog.info? 88).map (fun i=>(i.zero,i.size,i.bytes))=some (some (.agg #[.string ⟨#[]⟩,.slice none 0 0,.int .u32 0]),3,48):=aw
def qc.push {h h1:Hp} {p':XC} {l' c':Nat} {ms:List ei} (o:qc h H O U V ms) {m:ei} (n:SL h H 66 2 m.p m.l m.c (m.x.ai.map cg)) (d:∀ i,i∈aG m.p->(∀ y,y∈ms->∀ j,j∈aG y.p->j<i)/\i∉aG O)
  (q:SL h1 H 88 3 p' l' c' ((ms++[m]).map Sd)) (k:Ch (aG O) h h1) (r:∀ i,i∈aG p'->i∈aG O\/h.size<=i):qc h1 H p' l' c' (ms++[m]):=by
 have f:∀ y,y∈ms++[m]->∀ j,j∈aG y.p->j∉aG O/\j<h.size:=by
  intro y e j a;rcases VG.1 e with h | h
  ·exact ⟨o.dj y h j a,((o.j4 y h).cu a).2⟩
  ·rw [VH.1 h] at a;exact ⟨(d j a).2,(n.cu a).2⟩
 refine ⟨q,fun y e=>?_,?_,fun y e j a g=>?_⟩
 ·have hb:=f y e;rcases VG.1 e with h | h
  ·exact (o.j4 y h).bH k fun i hi=>(hb i hi).1
  ·have h:=VH.1 h;subst h;exact n.bH k fun i hi=>(hb i hi).1
 ·rw [List.pairwise_append];refine ⟨o.ap,List.pairwise_singleton _ _,fun y e z s i hi j a=>?_⟩;rw [VH.1 s] at a;exact (d j a).1 y e i hi
 ·have:=f y e j a
  rcases r j g with h | h
  ·exact this.1 h
  ·omega
structure UA (r:SF) (es:List ei) (i:Nat) (p:XC) (l c:Nat) (f:XA->Option qF) (ms:List ei) (h:Hp):Prop where
 dn:Qm r h es f
 own:qc h (r.V+1) p l c ms
 ms:ms.map (fun m=>(m.name,m.x))=(es.take i).map (fun e=>(e.name,iD es e.name))
 dd:∀ s y,f s=some y->∀ j,j∈aG y.p->j∉aG p
def Qu (es:List ei) (h:Hp) (w:XB) (h':Hp):Prop :=
 (∃ i,∃ hi:i<es.length,oM (eZ es) es[i].name/\(∀ j,(a:j<i)->¬ oM (eZ es) es[j].name)/\w=.tuple #[.slice none 0 0,vI (i:Int),vI 24]) \/
 ((∀ v,¬ oM (eZ es) v)/\∃ p' l' c' ms,w=.tuple #[.slice p' l' c',vI 0,vI 0]/\qc h' h.size p' l' c' ms/\ms.map (fun m=>(m.name,m.x))=es.map (fun e=>(e.name,iD es e.name)))
abbrev To:List ef:=[(false,[.slice 0]),(false,[.int .i64]),(false,[.int .i64]),(false,[.int .i64])]
def Ei {p:XC} {c:Nat} {es:List ei} (v:Ah I p H es) (Y:sJ es) (hp:∀ i,i∈aG p->i<I.size) (hlen:es.length<=2^20) :
  HC YC 49 #[.slice p H c] I fun w h'=>Qu es I w h'/\Ext I h':=by
 refine aZ (args:=[.slice p H c]) mixed Tryz.func49 aw (Ac p H c) ?_;unfold xm aT bo bC ay bq eh aR bR ar bI aM ct aK eb;have hown:=eP es;have hll:=v.len;refine br ?_;intro h1 b1 e1 z1;refine av b1 ((p,H,c),()) (ak ?_);refine aH (GN (c:=c) (v.af e1) Y.toEqsOk (fun i hi=>by have:=hp i hi; omega)) ?_;rintro _ h2 ⟨⟨g,n,rfl,mB,hg⟩,e2⟩;refine ⟨(some g,()),rfl,ak ?_⟩;have hback:=Gu (succ:=cK (dE es)) Y.nodup (fun s=>(hown s).1);generalize (Fm (da es) (cK (dE es)) (aU es)).back=back at mB hback;have b2:=b1.af e2 ah;have e02:=e1.trans e2;refine av b2 ((p,H,c),()) (ak ?_);refine aY (cs:=To) (fun x w h'=>∃ i:Nat,x.2.2.2.1=(i:Int)/\i<=es.length/\w=es.length-i/\(∀ j,(d:j<i)->∀ hl:j<es.length,¬ oM (eZ es) es[j].name)/\Ext h2 h') ((none,0,0),(0:Int),(0:Int),(0:Int),()) es.length rfl ⟨0,rfl,ad,ad,fun j d=>ad,Ch.refl _ _⟩ ?_;rintro ⟨⟨p9,l10,l11⟩,n12,n13,n14,⟨⟩⟩ w h3 ⟨i,hi,hile,rfl,Z,e3⟩;simp only at hi;subst hi;refine ak ?_;have e03:=e02.trans e3;refine aQ ?_ ?_<;>intro g1
 ·have q:i<es.length:=ad
  refine fJ ?_;obtain ⟨a,ha,hc⟩:=(v.af e03).cells i q;refine bk ha ?_;rw [cX i];have hes:∀ s,oM (eZ es) es[i].name↔oM (eZ es) es[i].name:=fun s=>Iff.rfl
  generalize hee:es[i]=e at hc hes;refine aC (e.name,(e.p,e.l,e.c),(e.x.num:Int),()) hc (ak ?_);refine br ?_;intro h4 b4 e4 z4;refine bT b4 ?_;intro h5 b5 k5 z5;have b5:bm h5 h3.size 88 [.string e.name,.slice e.p e.l e.c,.int .u32 e.x.num]:=b5;have e35:Ext h3 h5:=bZ e4 k5;refine av b5 (e.name,()) (ak ?_);refine Lw ((mB.af e3 ah).af e35 ah) e.name ?_;refine an ?_ ?_<;>intro M
  ·have M:(back e.name).getD false=true:=M;refine ⟨.inl ⟨i,q,?_,fun j d=>Z j d ad,rfl⟩,e03.trans e35⟩;rw [hee];exact (hback _).1 M
  ·have M:(back e.name).getD false=false:=M;have hw:=lC i;refine aD (cs:=To) ((p9,l10,l11),n12,n13,((i+1:Nat):Int),()) (es.length-(i+1)) rfl ad (by rw [hw]; rfl) ⟨i+1,rfl,ad,rfl,fun j d hl=>?_,e3.trans e35⟩
   by_cases hji:j=i
   ·subst hji;rw [hee];intro hc
    have:=(hback _).2 hc
    rw [M] at this; cases this
   ·exact Z j ad hl
 ·have hc:∀ v,¬ oM (eZ es) v:=by
   intro s hs;obtain ⟨j,d,hjs⟩:=VV ((hown s).1 hs.PF);have hj':j<es.length:=by simpa [aU] using d
   have:es[j].name=s:=by rw [<- hjs]; simp [aU]
   exact Z j ad hj' (by rw [this]; exact hs)
  have b3:=b2.af e3 ah;refine av b3 ((p,H,c),()) (ak ?_);refine aH (zc (v.af e03) Y.len Y.nodup Y.sz) ?_;rintro _ h4 ⟨⟨gA,rfl,mA,hgA⟩,e4⟩;refine ⟨(some gA,()),rfl,ak ?_⟩;have hgA4:=mA.lt;refine br ?_;intro h5 b5 e5 z5;refine bT b5 ?_;intro h6 b6 k6 z6;have b6:bm h6 h4.size 97 [.map (some gA)]:=b6;have e46:Ext h4 h6:=bZ e5 k6;refine xT (en:=eL) ?_;intro h7 m7 e7 z7;refine br ?_;intro h8 b8 e8 z8;refine bT b8 ?_;intro h9 b9 k9 z9;have b9:bm h9 h7.size 147 [.map (some h6.size)]:=b9;have e79:Ext h7 h9:=bZ e8 k9;refine br ?_;intro h10 b10 e10 z10;refine bT b10 ?_;intro h11 b11 k11 z11;have S:Ext h9 h11:=bZ e10 k11;have e711:=e79.trans S;have e611:=e7.trans e711;have e411:=e46.trans e611;have e011:=(e03.trans e4).trans e411;have hz4:=e4.size;have hz3:=e3.size;have hz2:=e2.size;generalize hr:(⟨I.size,gA,h4.size,h6.size,h7.size,h9.size⟩:SF)=r;have ho:r.ord:=by
   subst hr;unfold SF.ord;dsimp only;omega
  have hrE:r.E=I.size:=by subst hr; rfl
  have hrV:r.V+1=h11.size:=by subst hr; dsimp only; omega
  have hrV':r.V=h9.size:=by subst hr; rfl
  have hrD:r.gD=h6.size:=by subst hr; rfl
  have co:Se r h11 es p H c:=by
   subst hr;exact ⟨(b3.af (e4.trans e411) ah),b6.af e611 ah,⟨_,mA.af e411 ah⟩,b11,b9.af S ah,v.af e011⟩
  have dn:Qm r h11 es (fun _=>none):=⟨⟨0,(by rw [hrD]; exact m7.af e711 ah),fun s y hy=>by cases hy⟩,fun s y hy=>by cases hy⟩
  have lo:UC r es p:=⟨ho,fun i hi=>by rw [hrE]; exact hp i hi,fun e he hne i hi=>by rw [hrE]; exact (v.j4 e he).RV hne i hi⟩
  have o':=ho;unfold SF.ord at o';rw [show (⟨I.size,0,none⟩:YA)=bx r.E by rw [hrE],show (⟨h9.size,0,none⟩:YA)=bx r.V by rw [hrV']];refine av co.bE ((p,H,c),()) (ak ?_);refine aY (cs:=wG) (fun x w h'=>∃ (i:Nat) (p':XC) (l' c':Nat) (f:XA->Option qF) (ms:List ei),x.1=(p',l',c')/\x.2.1=(i:Int)/\i<=es.length/\w=es.length-i/\UA r es i p' l' c' f ms h'/\Ch [r.gD] h11 h')
   ((none,0,0),(0:Int),()) es.length rfl ⟨0,none,0,0,_,[],rfl,rfl,ad,ad,⟨dn,⟨SL.nil _ _ _ _,ah,List.Pairwise.nil,ah⟩,rfl,fun s y hy=>by cases hy⟩,Ch.refl _ _⟩ ?_
  rintro ⟨⟨p26,N,l28⟩,n29,⟨⟩⟩ w D ⟨i,p',l',c',f,ms,hx,hi,hile,rfl,u,O⟩;simp only at hx hi;obtain ⟨rfl,rfl,rfl⟩:=hx;subst hi;refine ak ?_;have co12:=co.af lo O;have hz12:=O.size;have hmsl:ms.length=i:=by have:=VO List.length u.ms; simp at this; omega
  refine aQ ?_ ?_<;>intro M
  ·have q:i<es.length:=ad
   refine fJ ?_;obtain ⟨a,ha,hcc⟩:=co12.vw.cells i q;refine bk ha ?_;rw [cX i];have P:es.take (i+1)=es.take i++[es[i]]:=Vt q;have A:es[i].name∈aU es:=VM (VA q);generalize es[i]=e at hcc P A;refine aC (e.name,(e.p,e.l,e.c),(e.x.num:Int),()) hcc (ak ?_);refine br ?_;intro h13 b13 e13 z13;refine bT b13 ?_;intro h14 Q k14 z14;have Q:bm h14 D.size 88 [.string e.name,.slice e.p e.l e.c,.int .u32 e.x.num]:=Q;have o:Ext D h14:=bZ e13 k14;have co14:=co12.af lo (o.mono ah);have dn14:=u.dn.ext o;have own14:=u.own.af o ah;refine av co14.bV (.func (.func 85) #[] r.sQ.toArray,()) (ak ?_);refine av Q (e.name,()) (ak ?_);refine uO (cap:=r.sQ) QC rfl (KY Y lo hc (aU es).length e.name (GA hown hc A) A h14 f co14 dn14) ?_;rintro _ F ⟨y,f15,rfl,hyx,U,hfy,sb15,W,G⟩;refine ⟨((y.p,y.l,y.c),(y.x.num:Int),()),rfl,ak ?_⟩;have own15:=own14.af G (fun i hi=>.inl (by simp at hi; omega));have co15:=co14.af lo G;have hz15:=G.size;have b15:=Q.af G (by simp; omega);obtain ⟨n15,m15⟩:=U.map;have hyv:=m15.j4 _ y hfy;refine br ?_;intro h16 b16 e16 z16;refine bT b16 ?_;intro h17 J k17 z17;have J:bm h17 F.size 60 [.slice y.p y.l y.c,.int .u32 (y.x.num:Int)]:=J;have t:Ext F h17:=bZ e16 k17;have b1417:=b15.af t ah;refine av b1417 (e.name,()) (ak ?_);refine av J ((y.p,y.l,y.c),()) (ak ?_);rw [ax];refine av J ((y.x.num:Int),()) (ak ?_);have hyl:y.x.ai.length<=2^20:=by rw [hyx]; exact Y.CW hc A
   refine aH (Fe (c:=y.c) (hyv.af t ah) ad) ?_;rintro _ h18 ⟨⟨pc,lc,cc,rfl,sc⟩,R⟩;refine ⟨((pc,lc,cc),()),rfl,ak ?_⟩;have e1518:=t.trans R;have own18:=own15.af e1518 ah;have b1418:=b1417.af R ah;have b1718:=J.af R ah;have dn18:=U.ext e1518;have hz17:=t.size;have hz18:=R.size;have stB:∀ h',bm h' D.size 88 [.string e.name,.slice e.p e.l e.c,.int .u32 e.x.num]->bm h' F.size 60 [.slice y.p y.l y.c,.int .u32 (y.x.num:Int)]->T.EK h' [(⟨F.size,0+1,none⟩,[.int .u32 (y.x.num:Int)]),(⟨F.size,0,none⟩,[.slice y.p y.l y.c]),(⟨D.size,0,none⟩,[.string e.name])] :=
    fun h' b1 b2=>⟨b2.cells _ rfl,b2.cells _ rfl,b1.cells _ rfl,trivial⟩
   refine ⟨⟨b1718.cells _ rfl,b1418.cells _ rfl,trivial⟩,?_⟩;have hol:N=ms.length:=by rw [u.own.out.1,Vr]
   refine re (vs:=Sd ⟨e.name,pc,lc,cc,y.x⟩) HH Jc rfl ad ad aw rfl rfl own18.out ad ad ad (fun h' ex=>stB h' (b1418.af ex ah) (b1718.af ex ah)) ?_;intro p' c' h19 s19 B hp19;have C:∀ j,j∈aG p26->r.V<j/\j<D.size:=fun j d=>by have:=u.own.out.cu d; omega
   refine ⟨stB h19 (b1418.af B (fun d=>by have:=C _ d; omega)) (b1718.af B (fun d=>by have:=C _ d; omega)),?_⟩;have hw:=lC i;have K:∀ j,j∈aG p'->j∈aG p26\/h18.size<=j:=by
    intro j d;rcases hp19 with I | ⟨a,I,hle⟩
    ·rw [I] at d; exact .inl d
    ·rw [I] at d; simp [aG] at d; subst d; exact .inr hle
   refine aD (cs:=wG) ((p',N+1,c'),((i+1:Nat):Int),()) (es.length-(i+1)) rfl ad (by rw [hw]; rfl)
    ⟨i+1,p',N+1,c',f15,ms++[⟨e.name,pc,lc,cc,y.x⟩],rfl,rfl,ad,rfl,⟨?_,?_,?_,fun s z X j d L=>?_⟩,?_⟩
   ·obtain ⟨n18,m18⟩:=dn18.map;refine ⟨⟨n18,m18.af B (fun d=>by have:=C _ d; omega) (fun s z X j d=>?_)⟩,fun s z X=>?_⟩
    ·rcases W s z X with I | I
     ·exact u.dd s z I j d
     ·intro L
      have:=I j d
      have:=C j L
      have:=o.size
      omega
    ·obtain ⟨a,b,c⟩:=dn18.of s z X;refine ⟨a,b,fun i hi=>?_⟩
     have:=c i hi
     have:=B.size
     omega
   ·refine own18.push (m:=⟨e.name,pc,lc,cc,y.x⟩) (sc.mono ad) (fun j d=>?_) (by simpa using s19) B K;have hj2:=sc.cu d;refine ⟨fun z X k hk=>?_,fun L=>?_⟩
    ·have:=((own15.j4 z X).cu hk).2
     omega
    ·have:=C j L
     have:=o.size
     omega
   ·rw [VB,u.ms,P,VB];show _++[(e.name,y.x)]=_;rw [hyx] <;> rfl
   ·rcases K j L with I | I
    ·rcases W s z X with k | k
     ·exact u.dd s z k j d I
     ·have:=k j d
      have:=C j I
      have:=o.size
      omega
    ·have:=((dn18.of s z X).2.2 j d).2
     omega
   ·refine Ch.trans (Ch.trans (Ch.trans (Ch.trans O o ah) G (fun j d _=>d)) e1518 ah) B (fun j d hl=>?_)
    have:=(u.own.out.cu d).1
    omega
  ·have P:es.take i=es:=V0 ad;have hms:=u.ms;rw [P] at hms;have hr11:=e011.size;refine ⟨.inr ⟨hc,p26,N,l28,ms,rfl,⟨u.own.out.mono ad,fun m hm=>(u.own.j4 m hm).mono ad,u.own.ap,u.own.dj⟩,hms⟩,Ch.trans e011 O (fun j d hl=>?_)⟩;simp at d;omega
def wQ (es:List ei) (s:XA):Option qF:=((xP es s).bind fun k=>es[k]?).map fun e=>⟨e.p,e.l,e.c,e.x⟩
def wZ {es:List ei} {y:qF} (h:wQ es Y=some y):∃ e,e∈es/\e.name=Y/\y=⟨e.p,e.l,e.c,e.x⟩/\dE es Y=e.x:=by
 unfold wQ at h;cases a:xP es Y with
 | none=>rw [a] at h; cases h
 | some k =>
  obtain ⟨hk,h1,h2⟩:=nI a;rw [a,WY,VC hk] at h;exact ⟨_,VA hk,h1,(VP h).symm,h2⟩
def IC {es:List ei} {e:ei} (hn:∀ d,d∈es->d.name≠e.name):wQ (es++[e])=dB (wQ es) e.name ⟨e.p,e.l,e.c,e.x⟩:=by
 funext s
 unfold wQ;rw [Eu hn]
 by_cases h:s=e.name
 ·subst h;rw [cw,cw,WY,V8 ad]
  simp
 ·rw [bM _ _ h,bM _ _ h];cases a:xP es s with
  | none=>rfl
  | some k =>
   obtain ⟨hk,_,_⟩:=nI a;rw [WY,WY,Wb hk]
def dW (es:List ei) (s:XA):Option cL:=if da es s=true then some (dE es s) else none
def Rc (es:List ei):(fun s=>(wQ es s).map (·.x))=dW es:=by
 funext s
 unfold dW da;cases a:xP es s with
 | none=>simp [wQ,a]
 | some k =>
  obtain ⟨hk,_,h2⟩:=nI a;simp only [Option.isSome_some,if_true];rw [h2];unfold wQ;rw [a,WY,VC hk] <;> rfl
def KZ {c:Nat} {x:cL} (v:iW I O H x.ai) {q:XC} {d:Nat} {es:List ei} (u:Ah I q U es) (P:EqsOk es) (het:∀ e,e∈es->e.x.ai.length<=2^20) (htot:(es.flatMap (·.x.ai)).length<=2^39) (hlen:es.length<=2^20) (W:x.ai.length<=2^20) (r:∀ t,t∈x.ai->t.1.size<=maxLen) :
  HC YC 50 #[iX O H c x,.slice q U d] I fun w h'=>(∃ p' l' c',w=iX p' l' c' (lu (fg (dW es) x) tv)/\SL h' I.size 66 2 p' l' c' ((lu (fg (dW es) x) tv).ai.map cg))/\Ext I h':=by
 refine aZ (args:=[iX O H c x,.slice q U d]) mixed Tryz.func50 aw (CA O H c x.num q U d) ?_;unfold By aT bo bC ay bq bR ar aM ct aK;have hll:=u.len;refine br ?_;intro h1 b1 e1 z1;refine br ?_;intro h2 b2 e2 z2;refine xT (en:=eL) ?_;intro h3 m3 X z3;have b13:=(b1.af e2 ah).af X ah;have b23:=b2.af X ah;have e03:=(e1.trans e2).trans X;refine aY (cs:=cU) (fun y w h'=>∃ (i n:Nat),y.1=(i:Int)/\i<=es.length/\w=es.length-i/\dN eL h' h2.size (wQ (es.take i)) n/\Ch [h2.size] h3 h') ((0:Int),()) es.length rfl
  ⟨0,0,rfl,ad,ad,m3,Ch.refl _ _⟩ ?_
 rintro ⟨n5,⟨⟩⟩ w h4 ⟨i,n,hi,hile,rfl,Y,A⟩;simp only at hi;subst hi;refine ak ?_;have b:Ext I h4:=bZ e03 A;have hz4:=A.size;refine aQ ?_ ?_<;>intro g1
 ·have f:i<es.length:=ad
  refine fJ ?_;obtain ⟨a,ha,hc⟩:=(u.af b).cells i f;refine bk ha ?_;rw [cX i];have C:es.take (i+1)=es.take i++[es[i]]:=Vt f;have hsz:=P.sz es[i] (VA f);have D:∀ d,d∈es.take i->d.name≠es[i].name:=by
   intro d E o;obtain ⟨j,F,rfl⟩:=VV E;rw [VQ] at F;rw [List.getElem_take] at o;have hn:(es.map (·.name)).Nodup:=P.nodup;exact W5.1 hn j i (by rw [Vr]; omega) (by rw [Vr]; omega) ad (by simpa using o)
  generalize es[i]=e at hc C hsz D;refine aC (e.name,(e.p,e.l,e.c),(e.x.num:Int),()) hc (ak ?_);refine br ?_;intro h5 b5 G z5;refine bT b5 ?_;intro h6 b6 k6 z6;have b6:bm h6 h4.size 88 [.string e.name,.slice e.p e.l e.c,.int .u32 e.x.num]:=b6;have J:Ext h4 h6:=bZ G k6;refine av b6 (e.name,()) (ak ?_);rw [ax];refine av b6 ((e.p,e.l,e.c),(e.x.num:Int),()) (ak ?_);refine KF (Y.af J ah) hsz ⟨e.p,e.l,e.c,e.x⟩ ?_;intro h7 m7 Q z7;have hw:=lC i;refine aD (cs:=cU) (((i+1:Nat):Int),()) (es.length-(i+1)) rfl ad (VO (fun z=>[Value.int .i64 z]) hw) ⟨i+1,_,rfl,ad,rfl,by rw [C,IC D]; exact m7,Ch.trans (Ch.trans A J ah) Q (fun j F _=>F)⟩
 ·have Z:es.take i=es:=V0 ad;rw [Z] at Y;have b14:=b13.af A (by simp; omega);have b24:=b23.af A (by simp; omega);refine av b14 ((O,H,c),(x.num:Int),()) (ak ?_);have mL:F4 h4 h2.size (wQ es) n:=⟨Y,fun s y g=>by
   obtain ⟨e,o,_,rfl,_⟩:=wZ g;exact (u.j4 e o).af b ah⟩
  have k:∀ s y,wQ es s=some y->y.x.ai.length<=2^20:=fun s y g=>by
   obtain ⟨e,o,_,rfl,_⟩:=wZ g;exact het e o
  have hz0:=b.size
  refine aH (Dy (c:=c) (v.af b ah) mL ad r (fun s y g=>⟨by have:=k s y g; omega,by
    obtain ⟨e,o,_,rfl,_⟩:=wZ g;exact P.ts e o⟩) ?_) ?_
  ·have:=oZ (of:=fun s=>(wQ es s).map (·.x)) (B:=2^20) ad (fun s y g=>by
    cases hh:wQ es s with
    | none=>simp only [hh] at g; cases g
    | some z =>
     simp only [hh,Option.map_some,Option.some.injEq] at g;rw [<- g]; exact k s z hh) x.ai
   exact Wi this (Wi (Wq _ W) bJ)
  ·rintro _ h5 ⟨⟨p5,l5,c5,rfl,s5⟩,G⟩;rw [Rc] at s5 ⊢;have hlp:(fg (dW es) x).ai.length<=2^40:=by
    have hn:=jq (dW es) x;have h1:((fg (dW es) x).ai.map (·.1)).Nodup:=Wl.2 (hn.1.imp fun I=>jP I);have h2:=mQ ((fg (dW es) x).ai.map (·.1)) ((x.ai++es.flatMap (·.x.ai)).map (·.1)) h1 (fun s hs=>by
     obtain ⟨t,K,rfl⟩:=Vy.1 hs;rcases ue K with ⟨O,L,e,_⟩ | ⟨O,y,u,L,ho,M,e⟩
     ·rw [<- e]; exact VM (V7 _ L)
     ·rw [<- e];refine VM (Wd _ ?_);unfold dW at ho
      by_cases hw:da es O.1=true
      ·rw [VE hw] at ho;obtain ⟨d,E,_,hx⟩:=kV ((eP es _).1 hw);have ho:=VP ho;rw [<- ho,hx] at M;exact List.mem_flatMap.2 ⟨d,E,M⟩
      ·rw [Vu hw] at ho; cases ho)
    rw [Vr,Vr,Vs] at h2;omega
   refine ⟨((p5,l5,c5),((fg (dW es) x).num:Int),()),rfl,ak ?_⟩;have N:∀ t,t∈(fg (dW es) x).ai->t.1.size<=maxLen:=by
    intro t K;rcases ue K with ⟨O,L,e,_⟩ | ⟨O,y,u,L,ho,M,e⟩
    ·rw [<- e]; exact r O L
    ·unfold dW at ho
     by_cases hw:da es O.1=true
     ·rw [VE hw] at ho;obtain ⟨d,E,_,hx⟩:=kV ((eP es _).1 hw);have ho:=VP ho;rw [<- ho,hx] at M;rw [<- e]; exact P.ts d E u M
     ·rw [Vu hw] at ho; cases ho
   have ha:=QF (h:=h5) (p:=p5) (q:=none) (l:=l5) (c:=c5) (m:=0) (d:=0) (x:=fg (dW es) x) (y:=tv) (vZ s5) ⟨rfl,fun i hi=>by simp [tv] at hi⟩ (fun i hi=>(s5.cu hi).2) (fun i hi=>by simp [aG] at hi) (by simpa [tv] using hlp) N (fun t K=>by simp [tv] at K);refine aH ha ?_;rintro _ h6 ⟨e6,R,S,V,rfl,s6⟩;refine ⟨((R,S,V),((lu (fg (dW es) x) tv).num:Int),()),rfl,ak ?_⟩;have b6:=(b24.af G ah).af e6 ah;have hz5:=G.size;refine bT b6 ?_;intro h7 b7 Q z7;have b7:bm h7 h1.size 60 [.slice R S V,.int .u32 ((lu (fg (dW es) x) tv).num:Int)]:=b7;refine av b7 ((R,S,V),((lu (fg (dW es) x) tv).num:Int),()) ?_;have e06:=(b.trans G).trans e6;exact ⟨⟨R,S,V,rfl,(s6.bH Q (fun j F=>by have:=(s6.cu F).1; simp; omega)).mono ad⟩,bZ e06 Q⟩
def xC {x:cL} (h:Nf x.ai) (hn:x.num<4294967296):lu x tv=x:=by
 unfold lu tv;simp only [List.append_nil,Nat.add_zero,K3 h,Nat.mod_eq_of_lt hn]
end Go.Sx
namespace Go.Sx.Ob
open Go.Proofs
abbrev Ky:=Nat × XA
def NE (k:Ky):XB:=.agg #[vI (k.1:Int),.string k.2]
def KV (b:Bool) (n:Int) (s:XA) (h:Hp) (K:Unit->Hp->Prop):aI YC (Instr.checkKey b 10000 110 (.agg #[vI n,.string s])) h K=K () h:=aw
def KI:Tryz.prog.underlying 110=some (.struct (Di YC 110)):=aw
def QL:Tryz.prog.stoodInHeld 110=false:=aw
def SM (n m:Int) (s t:XA):(Di YC 110).all (okF YC #[vI n,.string s] #[vI m,.string t])=true:=aw
def RM (n m:Int) (s t:XA):(Di YC 110).all (GX #[vI n,.string s] #[vI m,.string t])=(n==m && (s==t && true)):=by
 rw [<- WK]
 kernel_rfl
def TW:As YC 110 NE where
 check b a h K hk:=by rw [show NE a=.agg #[vI (a.1:Int),.string a.2] from rfl,KV]; exact hk
 kind:=⟨_,KI,fun a b=>rfl⟩
 eqv a b h K hk:=by
  show aI YC (Op.equal 110 (.agg #[vI (a.1:Int),.string a.2]) (.agg #[vI (b.1:Int),.string b.2])) h K;rw [oS KI QL (SM _ _ _ _),RM];have e:decide (a=b)=(((a.1:Nat):Int)==((b.1:Nat):Int) && (a.2==b.2 && true)):=by
   obtain ⟨c,d⟩:=a;obtain ⟨b1,b2⟩:=b;show decide ((c,d)=(b1,b2))=(((c:Nat):Int)==((b1:Nat):Int) && (d==b2 && true));rw [wB,WL];simp only [Prod.mk.injEq]
   by_cases h1:c=b1
   ·by_cases h2:d=b2
    ·simp [h1,h2]
    ·simp [h1,h2]
   ·have:¬ ((c:Nat):Int)=b1:=ad
    simp only [h1,false_and,decide_false]
    have:(((c:Nat):Int)==((b1:Nat):Int))=false:=by simpa using this
    rw [this,Bool.false_and]
  rw [<- e];exact hk
 bits a:=by
  show ((2:Nat)==2 && _)=true;simp [Instr.sameBits,NE,wB]
 inj a b h:=by
  obtain ⟨c,d⟩:=a;obtain ⟨b1,b2⟩:=b;simp only [NE,Value.agg.injEq,Array.mk.injEq,List.cons.injEq,Value.int.injEq,Value.string.injEq,and_true,true_and] at h;rw [Prod.mk.injEq];exact ⟨ad,h.2⟩
def SL.part {P:Program} {L:Lp} {K:XB->Hp->Prop} {k:T} {h:Hp} {b:Nat} {e:TypeId} {sz:Nat} {p:XC} {l c:Nat} {xs:List (List XB)} (s:SL h b e sz p l c xs) {i:Nat} (hi:i<xs.length) {vs:List XB} {o:Nat} (D:o+vs.length<=sz)
  (u:vs.all cO=true) {a:YA} (w:p=some a) (hk:∀ h',SL h' b e sz p l c (xs.set i (gW xs[i] o vs))->Ch (aG p) h h'->h'.size=h.size->k L K h'):T.ao ((a.add (i*sz)).add o) vs k L K h:=by
 subst w;obtain ⟨g,d,rest,rfl,q,r,f,y⟩:=s.2.2;have t:xs[i].length=sz:=s.2.1 _ (VA hi);have j:(xs.take i).flatten.length=i*sz:=by
  rw [dY _ (fun x j=>s.2.1 x (WO j)),VQ,WD ad]
 have z:xs[i]=xs[i].take o++((xs[i].drop o).take vs.length++xs[i].drop (o+vs.length)):=by
  rw [<- List.drop_drop,We,We]
 have e0:xs.flatten=(xs.take i).flatten++(xs[i]++(xs.drop (i+1)).flatten):=by
  conv=>lhs; rw [<- We i xs,VU hi]
  rw [List.flatten_append,Xm]
 have A:d++(xs.flatten++rest)=(d++(xs.take i).flatten++xs[i].take o)++((xs[i].drop o).take vs.length++(xs[i].drop (o+vs.length)++((xs.drop (i+1)).flatten++rest))):=by
  rw [e0]
  conv=>lhs; rw [z]
  simp only [List.append_assoc]
 have iC:gW xs[i] o vs=xs[i].take o++(vs++xs[i].drop (o+vs.length)):=by rw [oR _ _ _ ad,VW]
 have B:(xs.set i (gW xs[i] o vs)).flatten=(xs.take i).flatten++((gW xs[i] o vs)++(xs.drop (i+1)).flatten):=by
  rw [List.set_eq_take_append_cons_drop,VE hi]
  simp
 rw [A] at f;rw [ax,ax];have m:(d++(xs.take i).flatten++xs[i].take o).length=d.length+i*sz+o:=by rw [Vs,Vs,j,VQ,WD ad]
 rw [<- m];refine cr f u (by simp; omega) ?_;intro h' n k' C;rw [pR (by rw [VQ,V6]; omega)] at n;refine hk h' ⟨by rw [WJ]; exact s.1,fun x j=>?_,g,d,rest,rfl,q,r,?_,y⟩ (by simpa [aG] using k') C
 ·rcases List.mem_or_eq_of_mem_set j with j | rfl
  ·exact s.2.1 x j
  ·rw [lY]; exact t
 ·rw [B,iC];simpa [List.append_assoc] using n
def H9:Tryz.prog.underlying 96=some (.map 110 3):=aw
def PO:(Tryz.prog.info? 3).bind (·.zero)=some (vI 0):=aw
abbrev Fu (h:Hp) (g:Nat) (f:Ky->Option Nat) (n:Nat):Prop:=zk NE eI h g f n
section
variable {L:Lp} {K:XB->Hp->Prop} {h:Hp} {g n:Nat} {f:Ky->Option Nat}
def Fz (m:Fu h g f n) (u:Nat) (s:XA) {k:Int->Bool->T} (hk:k (((f (u,s)).getD 0:Nat):Int) (f (u,s)).isSome L K h):T.eK YC (Instr.lookup 96 (.map (some g)) (.agg #[vI (u:Int),.string s]) true) true [(false,[.int .i64]),(false,[.bool])] k L K h:=by
 obtain ⟨D,m,a,hn⟩:=m;show aI YC (Instr.lookup 96 (.map (some g)) (NE (u,s)) true) h _;refine uE TW H9 PO m (u,s) true _ ?_;refine ⟨((((f (u,s)).getD 0:Nat):Int),(f (u,s)).isSome,()),?_,hk⟩;rw [VE rfl,we,a (u,s)]
 all_goals (cases f (u,s) <;> rfl)
variable {H:Int->T}
def Ro (m:Fu h g f n) (u:Nat) (s:XA) (hk:H (((f (u,s)).getD 0:Nat):Int) L K h):T.eK YC (Instr.lookup 96 (.map (some g)) (.agg #[vI (u:Int),.string s]) false) false [(false,[.int .i64])] H L K h:=by
 obtain ⟨D,m,a,hn⟩:=m;show aI YC (Instr.lookup 96 (.map (some g)) (NE (u,s)) false) h _;refine uE TW H9 PO m (u,s) false _ ?_;refine ⟨((((f (u,s)).getD 0:Nat):Int),()),?_,hk⟩;simp only [Bool.false_eq_true,if_false];rw [we,a (u,s)]
 all_goals (cases f (u,s) <;> rfl)
def PM (m:Fu h g f n) (u:Nat) (s:XA) {v:Int} {w:Nat} (hv:v=(w:Int)) {k:T} (hk:∀ h',Fu h' g (xU f (u,s) w) (if (f (u,s)).isSome then n else n+1)->Ch [g] h h'->h'.size=h.size->k L K h') :
  T.ek YC (Instr.mapUpdate 96 (.map (some g)) (.agg #[vI (u:Int),.string s]) (vI v)) k L K h:=by
 subst hv;exact TJ (en:=eI) TW H9 m (u,s) w hk
def SZ (m:Fu h g f n) (hk:H (n:Int) L K h):T.eK YC (Builtin.len_ #[96] 3 #[.map (some g)]) false [(false,[.int .i64])] H L K h:=by
 obtain ⟨D,m,e,hn⟩:=m;obtain ⟨es,clock,b,c,d⟩:=m;have a:es.size=n:=by
  have:=VO List.length c
  simp only [List.length_map,Array.length_toList] at this;omega
 show aI _ _ _ _;unfold Builtin.len_;simp only [List.getElem?_toArray,List.getElem?_cons_zero];rw [al,au H9];simp only [pure_bind];rw [al];refine fG b ah _ ?_;simp only [pure_bind];exact ⟨((n:Int),()),by rw [a]; rfl,hk⟩
end
def me (n:Nat):XA:=⟨(Lib.itoa (n:Int)).toArray⟩
def Dg {h:Hp} (p:iN h) (n:Nat) (hn:n<=2^60):HC YC 81 #[vI n] h fun v h'=>v=.string (me n)/\Ext h h':=by
 intro W a;subst a;refine (Tryz.strconv_Itoa n ad ad W (R5 aw p)).mono ?_;rintro e w' ⟨b,k,os,rfl⟩;refine ⟨_,b,⟨rfl,rfl,rfl⟩,rfl,?_⟩;refine ⟨by show W.heap.size<=(W.heap++os).size; simp,fun i hi _=>?_⟩;show (W.heap++os)[i]?=_;rw [Array.getElem?_append_left hi]
def kB {n:Nat} (hn:n<=2^60):(me n).size<=1000:=by
 show (Lib.itoa (n:Int)).toArray.size<=1000
 have:=Lib.itoa_length_le (n:Int) ad ad
 simp
 omega
structure Lb where
 u:Nat
 s:Nat
 i:Nat
 n:XA
deriving DecidableEq
def CM (x:Lb):List XB:=[vI (x.u:Int),vI (x.s:Int),vI (x.i:Int),.string x.n]
structure LW where
 lb:List Lb
 num:Ky->Option Nat
 nn:Nat
 pP:Ky->Option Nat
 ne:Nat
 gl:XA->Option Nat
 ng:Nat
def FR:LW:=⟨[],fun _=>none,0,fun _=>none,0,fun _=>none,0⟩
def LW.has (w:LW) (k:Ky):Bool:=(w.num k).isSome || (w.pP k).isSome
def LW.own (w:LW) (u:Nat) (s:XA):Option Ky:=if w.has (u,s) then some (u,s) else (w.gl s).map fun o=>(o,s)
def LW.word (w:LW) (k:Ky):XA:=match w.num k with
 | some n=>(⟨#[76]⟩:XA)++me n
 | none=>(⟨#[69]⟩:XA)++me ((w.pP k).getD 0)
structure LM (h:Hp) (gN gE gG:Nat) (w:LW):Prop where
 n:Fu h gN w.num w.nn
 e:Fu h gE w.pP w.ne
 g:dN eI h gG w.gl w.ng
def LM.af {ws:List Nat} {h h':Hp} {gN gE gG:Nat} {w:LW} (m:LM h gN gE gG w) (k:Ch ws h h') (h1:gN∉ws) (h2:gE∉ws) (a:gG∉ws):LM h' gN gE gG w :=
 ⟨m.n.af k h1,m.e.af k h2,m.g.af k a⟩
structure ND (w:LW):Prop where
 n:∀ k i,w.num k=some i->i<=2^50
 e:∀ k i,w.pP k=some i->i<=2^50
abbrev Nx (h:Hp) (g:Nat) (us lb:cm) (gN gE gG:Nat) (sp:Int):Prop:=bm h g 99 [us.v,lb.v,.map (some gN),.map (some gE),.map (some gG),.slice none 0 0,vI sp]
section
variable {h:Hp} {g gN gE gG:Nat} {us lb:cm} {sp:Int} {w:LW}
def JP (b:Nx h g us lb gN gE gG sp) (m:LM h gN gE gG w) (u:Nat) (s:XA):HC YC 95 #[ptr g,.agg #[vI (u:Int),.string s]] h fun v h'=>v=.bool (w.has (u,s))/\Ext h h':=by
 refine aZ (args:=[ptr g,.agg #[vI (u:Int),.string s]]) mixed Tryz.func95 aw (oY (some ⟨g,0,none⟩) u s) ?_;unfold jR bR dI aK cj;refine br ?_;intro h1 b1 a z1;have b':=b.af a ah;have m':=m.af a ah ah ah;refine bk rfl ?_;rw [ax];refine av b' (some gN,()) (ak ?_);refine av b1 ((u:Int),s,()) (ak ?_);refine Fz m'.n u s ?_;refine bk rfl ?_;rw [ax];refine av b' (some gE,()) (ak ?_);refine av b1 ((u:Int),s,()) (ak ?_);refine Fz m'.e u s ?_;unfold LW.has;refine an ?_ ?_<;>intro q
 ·exact ⟨by rw [q]; rfl,a⟩
 ·exact ⟨by rw [q]; rfl,a⟩
def ML (b:Nx h g us lb gN gE gG sp) (m:LM h gN gE gG w) (u:Nat) (s:XA):HC YC 67 #[ptr g,vI (u:Int),.string s] h fun v h'=>v=.tuple #[NE ((w.own u s).getD (0,s)),.bool (w.own u s).isSome]/\Ext h h':=by
 refine aZ (args:=[ptr g,vI (u:Int),.string s]) mixed Tryz.func67 aw (oW (some ⟨g,0,none⟩) u s) ?_;unfold j1 aP bR bI ct aK cj;refine br ?_;intro h1 b1 l z1;refine br ?_;intro h2 b2 j z2;have b12:=b1.af j ah;refine bT b2 ?_;intro h3 b3 k z3;have b3:bm h3 h1.size 110 [vI (u:Int),.string s]:=b3;have d:Ext h h3:=bZ (l.trans j) k;have b13:=b12.af k (by simp; omega);refine av b3 ((u:Int),s,()) (ak ?_);refine aH (JP (b.af d ah) (m.af d ah ah ah) u s) ?_;rintro _ p ⟨rfl,c⟩;refine ⟨(w.has (u,s),()),rfl,ak ?_⟩;have e04:=d.trans c;have q3:=b3.lt;refine an ?_ ?_<;>intro q
 ·have e:w.own u s=some (u,s):=by unfold LW.own; rw [VE q]
  rw [e];refine av (b3.af c ah) ((u:Int),s,()) (ak ?_);refine bT (b13.af c ah) ?_;intro f a i n;have a:bm f h.size 110 [vI (u:Int),.string s]:=a;refine av a ((u:Int),s,()) ?_;exact ⟨rfl,bZ e04 i⟩
 ·have e:w.own u s=(w.gl s).map fun o=>(o,s):=by unfold LW.own; rw [Vu (by rw [q]; simp)]
  rw [e];refine bk rfl ?_;rw [ax];refine av (b.af e04 ah) (some gG,()) (ak ?_);refine Ck (m.af e04 ah ah ah).g s ?_;refine bT (b13.af c ah) ?_;intro f a i n;have a:bm f h.size 110 [vI (((w.gl s).getD 0:Nat):Int),.string s]:=a;refine av a ((((w.gl s).getD 0:Nat):Int),s,()) ?_;refine ⟨?_,bZ e04 i⟩
  all_goals (cases w.gl s <;> rfl)
def A4 (f:iN h) (b:Nx h g us lb gN gE gG sp) (m:LM h gN gE gG w) (a:ND w) (u:Nat) (s:XA):HC YC 47 #[ptr g,.agg #[vI (u:Int),.string s]] h fun v h'=>v=.string (w.word (u,s))/\Ext h h':=by
 refine aZ (args:=[ptr g,.agg #[vI (u:Int),.string s]]) mixed Tryz.func47 aw (nz (some ⟨g,0,none⟩) u s) ?_;unfold jH nU bR aK cj;refine br ?_;intro h1 b1 c z1;have b':=b.af c ah;have m':=m.af c ah ah ah;have pw1:=f.af c ah;refine bk rfl ?_;rw [ax];refine av b' (some gN,()) (ak ?_);refine av b1 ((u:Int),s,()) (ak ?_);refine Fz m'.n u s ?_;unfold LW.word;cases hn:w.num (u,s) with
 | some n =>
  refine cy rfl ?_;have hs:=a.n _ _ hn;refine aH (Dg pw1 n ad) ?_;rintro _ h2 ⟨rfl,d⟩;refine ⟨(me n,()),rfl,ak ?_⟩
  have:=kB (n:=n) ad
  refine jl ad ?_;exact ⟨rfl,c.trans d⟩
 | none =>
  refine bX rfl ?_;have hs:(w.pP (u,s)).getD 0<=2^50:=by
   cases j:w.pP (u,s) with
   | none=>simp
   | some i=>exact a.e _ _ j
  refine bk rfl ?_;rw [ax];refine av b' (some gE,()) (ak ?_);refine av b1 ((u:Int),s,()) (ak ?_);refine Ro m'.e u s ?_;refine aH (Dg pw1 _ ad) ?_;rintro _ h2 ⟨rfl,d⟩;refine ⟨(me ((w.pP (u,s)).getD 0),()),rfl,ak ?_⟩;refine ⟨⟨(b1.af d ah).cells _ rfl,(b'.af d ah).cells _ rfl,trivial⟩,?_⟩
  have:=kB (n:=(w.pP (u,s)).getD 0) ad
  refine jl ad ?_;exact ⟨rfl,c.trans d⟩
end
end Go.Sx.Ob
namespace Go.Sx.Lk
open Go.Proofs Go.Sx.Ob
def Ic {es:List ei} (hn:(aU es).Nodup) {e:ei} (c:e∈es):dE es e.name=e.x:=by
 obtain ⟨d,f,h1,h2⟩:=kV (show e.name∈aU es from VM c);rw [h2]
 have:∀ l:List ei,(l.map (·.name)).Nodup->d∈l->e∈l->d=e:=by
  intro l
  induction l with
  | nil=>intro _ h; simp at h
  | cons x l g =>
   intro hn f c;rw [VY,WN] at hn;rcases VK.1 f with a | a <;> rcases VK.1 c with b | b
   ·rw [a,b]
   ·exact (hn.1 (by rw [<- a,h1]; exact VM b)).elim
   ·exact (hn.1 (by rw [<- b,<- h1]; exact VM a)).elim
   ·exact g hn.2 a b
 rw [this es hn f c]
def _root_.Go.Sx.Ob.LW.bad (w:LW) (u:Nat) (x:cL):Option XA:=(x.ai.find? fun t=>(w.own u t.1).isNone).map (·.1)
def qn (s:XA):cL:=⟨[(s,1)],0⟩
def _root_.Go.Sx.Ob.LW.di (w:LW) (u:Nat) (x:cL):cL:=fg (fun s=>(w.own u s).map fun k=>qn (w.word k)) x
structure DB (x:cL):Prop where
 nf:Nf x.ai
 num:x.num<4294967296
 len:x.ai.length<=2^20
 sz:∀ t,t∈x.ai->t.1.size<=maxLen
def jP {a b:XA} (h:iB a b):a≠b:=fun e=>by subst e; exact absurd h (by unfold iB; simp)
def DB.nodup {x:cL} (g:DB x):(x.ai.map (·.1)).Nodup:=by
 rw [Wu,Wl];exact g.nf.Qq.imp fun h=>jP h
def Pc (w:LW) (u:Nat) (x:cL) (h:Hp) (v:XB) (h':Hp):Prop :=
 Ext h h'/\match w.bad u x with
 | some s=>v=.tuple #[iX none 0 0 D9,.string s,.bool false]
 | none=>∃ p l c,v=.tuple #[iX p l c (w.di u x),.string ⟨#[]⟩,.bool true]/\SL h' h.size 66 2 p l c ((w.di u x).ai.map cg)
def LK:Tryz.prog.underlying 57=some (.slice 66):=aw
def Q6 (s:XA) (n:Int):Instr.fill (fun j=>some (j*2,2)) ((Array.range (1*2)).map ((Value.agg #[.string ⟨#[]⟩,.int .u32 0]).cells[· % (Value.agg #[.string ⟨#[]⟩,.int .u32 0]).cells.size]!)) [(0,.agg #[.string s,.int .u32 n])]=some ([.string s,.int .u32 n]:List XB).toArray:=aw
def Lf (s:XA) (p:XC) (l c:Nat) (n:Int):Instr.fill (fun j=>some (j*3,3)) ((Array.range (1*3)).map ((Value.agg #[.string ⟨#[]⟩,.slice none 0 0,.int .u32 0]).cells[· % (Value.agg #[.string ⟨#[]⟩,.slice none 0 0,.int .u32 0]).cells.size]!)) [(0,.agg #[.string s,.slice p l c,.int .u32 n])]=some ([.string s,.slice p l c,.int .u32 n]:List XB).toArray:=aw
theorem wJ {α:Type} (f:α->Bool):∀ (l:List α) (i:Nat) (hi:i<l.length),(∀ j,(b:j<i)->f (l[j]'ad)=false)->f l[i]=true->l.find? f=some l[i]
 | [],i,hi,_,_=>by simp at hi
 | a::l,0,hi,_,h=>by simp at h; simp [h]
 | a::l,i+1,hi,h0,h=>by
  have c:f a=false:=h0 0 ad;rw [Xi,c];simp only [List.getElem_cons_succ] at h ⊢;exact wJ f l i (by simpa using hi) (fun j b=>h0 (j+1) ad) h
def AW {α:Type} (f:α->Bool) (l:List α) (h:∀ j,(a:j<l.length)->f l[j]=false):l.find? f=none:=by
 rw [List.find?_eq_none];intro x b;obtain ⟨j,a,rfl⟩:=VV b;rw [h j a]
 simp
section
variable {h:Hp} {g gN gE gG:Nat} {us lb:cm} {sp:Int} {w:LW}
def xr (pw:iN h) (b:Nx h g us lb gN gE gG sp) (m:LM h gN gE gG w) (H:ND w) (u:Nat) {p:XC} {l c:Nat} {x:cL} (v:iW h p l x.ai) (P:DB x) :
  HC YC 46 #[ptr g,vI (u:Int),iX p l c x] h (Pc w u x h):=by
 refine aZ (args:=[ptr g,vI (u:Int),iX p l c x]) mixed Tryz.func46 aw (lK (some ⟨g,0,none⟩) u p l c x.num) ?_;unfold iw aT bo bC ay nU bq aR ar bI aM ct aK cj eb;have hll:=v.len;have hxl:=P.len;refine br ?_;intro h1 b1 e1 z1;refine br ?_;intro h2 b2 e2 z2;have b12:=b1.af e2 ah;have e02:=e1.trans e2;refine av b12 ((p,l,c),()) (ak ?_);obtain ⟨ie,hie,hze,hse,hbe⟩:=kq Jc;refine dc (oT (l:=0) (c:=l) HH hie hze ad (by rw [hbe]; omega) ad ?_);intro h3 b3 e3 z3;refine ⟨_,_,_,rfl,?_⟩;have e03:=e02.trans e3;have b13:=b12.af e3 ah;have b23:=b2.af e3 ah;have s3:SL h3 h2.size 88 3 (some ⟨h2.size,0,none⟩) 0 l (([]:List ei).map Sd):=by
  refine ⟨rfl,ah,h2.size,[],_,rfl,VL _,⟨ad,ad⟩,b3,?_⟩;rw [Vr,List.length_range,hse];omega
 refine av b13 ((p,l,c),()) (ak ?_)
 refine aY (cs:=Tv) (fun y m' h'=>∃ (i:Nat) (es:List ei),y.2.2.2.1=(i:Int)/\i<=l/\m'=l-i/\Ch [h2.size] h3 h'/\y.2.2.1.2.1=i/\qc h' h2.size y.2.2.1.1 i y.2.2.1.2.2 es/\(∀ j,(A:j<i)->(hl:j<x.ai.length)->(w.own u x.ai[j].1).isSome=true) /\
   es.map (fun e=>(e.name,e.x))=(x.ai.take i).map (fun t=>(t.1,qn (w.word ((w.own u t.1).getD (0,t.1)))))) ((⟨#[]⟩:XA),false,(some ⟨h2.size,0,none⟩,0,l),(0:Int),()) l rfl
  ⟨0,[],rfl,ad,ad,Ch.refl _ _,rfl,⟨s3,ah,List.Pairwise.nil,ah⟩,by intro j A; omega,rfl⟩ ?_
 rintro ⟨s14,b15,⟨p16,l17,l18⟩,n19,⟨⟩⟩ m' h4 ⟨i,es,hi,hil,rfl,o,Q,R,D,s⟩;simp only at hi Q R;subst hi Q;refine ak ?_;have B:Ext h h4:=Ch.trans e03 o (fun i hi hl=>by simp at hi; have:=e1.size; omega);have hel:es.length=l17:=by
  have:=VO List.length s
  rw [Vr,Vr,VQ] at this;omega
 have z4:=o.size;have q3:=b3.lt;have q2:=b2.lt;have q1:=b1.lt;refine aQ ?_ ?_<;>intro q
 ·have I:l17<x.ai.length:=ad
  obtain ⟨a,ha,hc⟩:=v.cells l17 I;have S:x.ai.take (l17+1)=x.ai.take l17++[x.ai[l17]]:=Vt I;have hgt:x.ai[l17]=x.ai[l17]:=rfl;generalize J:x.ai[l17]=t at hc S;refine cC ha ?_;rw [cX l17];refine aC (t.1,(t.2:Int),()) (bh B ah _ _ hc) (ak ?_);refine br ?_;intro h5 b5 U z5;refine bT b5 ?_;intro h6 E k6 z6;have E:bm h6 h4.size 66 [.string t.1,.int .u32 (t.2:Int)]:=E;have V:Ext h4 h6:=bZ U k6;have e06:=B.trans V;refine av E (t.1,()) (ak ?_);refine aH (ML (b.af e06 ah) (m.af e06 ah ah ah) u t.1) ?_;rintro _ h7 ⟨rfl,e7⟩;generalize hk:(w.own u t.1).getD (0,t.1)=ky;refine ⟨((ky.1:Int),ky.2,(w.own u t.1).isSome,()),rfl,ak ?_⟩;refine br ?_;intro h8 b8 e8 z8;refine bT b8 ?_;intro h9 W k9 z9;have W:bm h9 h7.size 110 [vI (ky.1:Int),.string ky.2]:=W;have e79:Ext h7 h9:=bZ e8 k9;have e69:=e7.trans e79;have e49:=V.trans e69;have e09:=B.trans e49;have b69:=E.af e69 ah;have q6:=E.lt;have q7:=e7.size;have q9:=W.lt;refine an ?_ ?_<;>intro r
  ·have r:(w.own u t.1).isSome=false:=by simpa using r
   refine av b69 (t.1,()) (ak ?_);refine bT ((b23.af o (by simp; omega)).af e49 ah) ?_;intro k K X z10;have K:bm k h1.size 60 [.slice none 0 0,.int .u32 0]:=K;refine ⟨⟨(b69.af X (by simp; omega)).cells _ rfl,trivial⟩,?_⟩;refine av K ((none,0,0),(0:Int),()) ?_;refine ⟨bZ e09 X,?_⟩;have hb:w.bad u x=some t.1:=by
    unfold Ob.LW.bad;rw [wJ _ x.ai l17 I (fun j A=>by simpa using D j A ad) (by rw [J]; simpa using r),J] <;> rfl
   rw [hb] <;> rfl
  ·have r:(w.own u t.1).isSome=true:=by simpa using r
   refine av b69 (t.1,()) (ak ?_);refine av W ((ky.1:Int),ky.2,()) (ak ?_);refine aH (A4 (pw.af e09 ah) (b.af e09 ah) (m.af e09 ah ah ah) H ky.1 ky.2) ?_;rintro _ k ⟨rfl,F⟩;refine ⟨(w.word (ky.1,ky.2),()),rfl,ak ?_⟩;have b6a:=b69.af F ah;have b9a:=W.af F ah;have q10:=F.size;refine ⟨⟨b6a.cells _ rfl,trivial⟩,?_⟩;refine sW LK za ad ad (Q6 _ _) ?_;intro h11 b11 L z11;have b6b:=b6a.af L ah;have b9b:=b9a.af L ah;refine ⟨⟨b9b.cells _ rfl,b6b.cells _ rfl,trivial⟩,?_⟩;have e411:=(e49.trans F).trans L;have o11:=R.af e411 ah;have q11:=e411.size;refine re (e:=88) (z:=.agg #[.string ⟨#[]⟩,.slice none 0 0,.int .u32 0]) (sz:=3) (by':=48) HH Jc rfl ad ad (Lf _ _ _ _ _) rfl rfl o11.out ad ad ad (fun h' e=>⟨(b9b.af e ah).cells _ rfl,(b6b.af e ah).cells _ rfl,trivial⟩) ?_;intro p' c' h12 s12 G Y;have hq:∀ i,i∈aG p16->(i=h2.size\/h3.size<=i)/\i<h4.size:=fun i hi=>by have:=R.out.cu hi; omega
   have Z:Ch [h2.size] h3 h12:=Ch.trans (o.trans (e411.mono ah) (fun i hi hl=>hi)) G (fun i hi hl=>by have:=hq i hi; simp; omega);have M:∀ i,h4.size<=i->i∉aG p16:=fun i h1 h2=>by have:=hq i h2; omega
   refine ⟨⟨(b9b.af G (M _ ad)).cells _ rfl,(b6b.af G (M _ ad)).cells _ rfl,trivial⟩,?_⟩;have hm:SL h11 h2.size 66 2 (some ⟨k.size,0,none⟩) 1 1 ((qn (w.word ky)).ai.map cg) :=
    ⟨rfl,fun y hy=>by rw [VH.1 hy]; rfl,k.size,[],[],rfl,ad,⟨ad,ad⟩,b11,by simp [qn]⟩
   have o12:qc h12 h2.size p' (l17+1) c' (es++[⟨t.1,some ⟨k.size,0,none⟩,1,1,qn (w.word ky)⟩]):=by
    refine o11.push (m:=⟨t.1,some ⟨k.size,0,none⟩,1,1,qn (w.word ky)⟩) hm (fun i hi=>?_) (by rw [VB]; exact s12) G (fun i hi=>?_)
    ·have hi:i=k.size:=by simpa [aG] using hi
     subst hi;refine ⟨fun y hy j A=>?_,M _ ad⟩
     have:=((R.j4 y hy).cu A).2
     omega
    ·rcases Y with rfl | ⟨a',rfl,ha'⟩
     ·exact .inl hi
     ·simp [aG] at hi; right; omega
   have hw:=lC l17;rw [hw];refine aD (cs:=Tv) (s14,b15,(p',l17+1,c'),((l17+1:Nat):Int),()) (l-(l17+1)) rfl ad rfl
    ⟨l17+1,_,rfl,ad,rfl,Z,rfl,o12,fun j A hjl=>?_,?_⟩
   ·by_cases hjl':j<l17
    ·exact D j hjl' hjl
    ·have:j=l17:=ad
     subst this;rw [J]; exact r
   ·rw [VB,s,S,VB];simp only [List.map_cons,List.map_nil];rw [hk]
 ·have hi:l17=x.ai.length:=ad
  subst hi;have s:es.map (fun e=>(e.name,e.x))=x.ai.map (fun t=>(t.1,qn (w.word ((w.own u t.1).getD (0,t.1))))):=by rw [s,V0 (VL _)]
  have hnm:aU es=x.ai.map (·.1):=by
   have:=VO (List.map (·.1)) s
   rw [VN,VN] at this;exact this
  have d:∀ e,e∈es->∃ t,t∈x.ai/\e.name=t.1/\e.x=qn (w.word ((w.own u t.1).getD (0,t.1))):=by
   intro e f
   have:(e.name,e.x)∈es.map (fun e=>(e.name,e.x)):=VM f
   rw [s] at this;obtain ⟨t,C,N⟩:=Vy.1 this;rw [Prod.mk.injEq] at N;exact ⟨t,C,N.1.symm,N.2.symm⟩
  have hwsz:∀ ky:Ky,(w.word ky).size<=maxLen:=by
   intro ky;unfold LW.word;have hsz:∀ (a:XA) n,n<=2^50->a.size=1->(a++me n).size<=maxLen:=fun a n hn ha=>by
    rw [ByteArray.size_append,ha]
    have:=kB (n:=n) ad
    unfold maxLen;omega
   split
   ·rename_i n hn;exact hsz _ _ (H.n _ _ hn) rfl
   ·refine hsz _ _ ?_ rfl;cases f:w.pP ky with
    | none=>simp
    | some i=>exact H.e _ _ f
  have eo:EqsOk es:=⟨by rw [hnm]; exact P.nodup,ad,fun e f=>by obtain ⟨t,C,h1,_⟩:=d e f; rw [h1]; exact P.sz t C,
   fun e f=>by obtain ⟨t,C,_,h1⟩:=d e f; rw [h1]; show 1<=2^40; decide,
   fun e f t' O=>by
    obtain ⟨t,C,_,h1⟩:=d e f;rw [h1] at O;rw [VH.1 O];exact hwsz _⟩
  refine av ((b13).af o (by simp; omega)) ((p,l,c),(x.num:Int),()) ?_;refine ak ?_;have ve:=BN R;have htot:(es.flatMap (·.x.ai)).length<=2^39:=by
   have:∀ l:List ei,(∀ e,e∈l->e.x.ai.length=1)->(l.flatMap (·.x.ai)).length=l.length:=by
    intro l
    induction l with
    | nil=>intro _; rfl
    | cons a l ih=>intro hl; rw [Wh,Vs,ih (fun e f=>hl e (by simp [f])),hl a ah,Wc,Nat.add_comm]
   rw [this es (fun e f=>by obtain ⟨t,C,_,h1⟩:=d e f; rw [h1]; rfl)];omega
  refine aH (KZ (v.af B ah) ve eo (fun e f=>by obtain ⟨t,C,_,h1⟩:=d e f; rw [h1]; show 1<=2^20; decide) htot ad hxl P.sz) ?_;rintro _ h5 ⟨⟨p',l',c',rfl,s5⟩,U⟩;have hlin:lu (fg (dW es) x) tv=w.di u x:=by
   rw [xC (jq _ _) (qy P.num)];unfold Ob.LW.di;refine oO (fun t C=>?_);have hin:t.1∈aU es:=by rw [hnm]; exact VM C
   obtain ⟨j,A,rfl⟩:=VV C;have hoj:=D j ad A;obtain ⟨ky,hky⟩:=Ww.1 hoj;unfold dW;rw [VE ((eP es _).2 hin),hky];obtain ⟨e,f,hen⟩:=Vy.1 hin;obtain ⟨t',O,h1,h2⟩:=d e f;rw [<- hen,Ic eo.nodup f,h2,<- h1,hen,hky] <;> rfl
  rw [hlin] at s5 ⊢;refine ⟨((p',l',c'),((w.di u x).num:Int),()),rfl,ak ?_⟩;have q5:=U.size;refine bT ((b23.af o (by simp; omega)).af U ah) ?_;intro h6 E k6 z6;have E:bm h6 h1.size 60 [.slice p' l' c',.int .u32 ((w.di u x).num:Int)]:=E;refine av E ((p',l',c'),((w.di u x).num:Int),()) ?_;refine ⟨bZ (B.trans U) k6,?_⟩;have hb:w.bad u x=none:=by
   unfold Ob.LW.bad;rw [AW _ x.ai (fun j A=>by simpa using D j ad A)] <;> rfl
  rw [hb];exact ⟨p',l',c',rfl,(s5.bH k6 (fun j A=>by have:=(s5.cu A).1; simp; omega)).mono ad⟩
end
theorem xB {h:Hp} {a:YA}:∀ (b us:List XB) (i:Nat),aE h a i b->aE h a (i+b.length) us->aE h a i (b++us)
 | [],us,i,_,h2=>by simpa using h2
 | v::b,us,i,h1,h2=>⟨h1.1,xB b us (i+1) h1.2 (by rw [Wc] at h2; rw [show i+1+b.length=i+(b.length+1) from ad]; exact h2)⟩
theorem yF {h:Hp} {a:YA}:∀ (b:List XB) (o i:Nat),aE h (a.add o) i b->aE h a (o+i) b
 | [],_,_,_=>trivial
 | v::b,o,i,h1=>⟨by have:=h1.1; rw [add_add] at this; exact this,yF b o (i+1) h1.2⟩
theorem kK {h:Hp} {a:YA} {sz:Nat}:∀ (xs:List (List XB)) (k:Nat),(∀ x,x∈xs->x.length=sz)->(∀ i,(hi:i<xs.length)->aE h (a.add ((k+i)*sz)) 0 xs[i])->aE h a (k*sz) xs.flatten
 | [],_,_,_=>trivial
 | x::xs,k,hl,hc=>by
  rw [Xm];refine xB _ _ _ ?_ ?_
  ·have:=hc 0 ah
   rw [Xy] at this;exact yF _ _ 0 this
  ·rw [hl x ah,<- Nat.succ_mul];exact kK xs (k+1) (fun y b=>hl y (by simp [b])) (fun i hi=>by
    have:=hc (i+1) (by simpa using hi)
    rw [show k+1+i=k+(i+1) from ad];exact this)
structure R6 (h:Hp) (p:XC) (l:Nat) (ws:List (cm × cv)):Prop where
 len:l=ws.length
 cells:∀ i,(hi:i<ws.length)->∃ a,p=some a/\aE h (a.add (i*10)) 0 (fQ ws[i])
theorem xF {α β:Type} (R:α->β->Prop):∀ (us:List α),(∀ i,(hi:i<us.length)->∃ b,R us[i] b)->∃ a:List β,a.length=us.length/\∀ i,(hi:i<us.length)->(d:i<a.length)->R us[i] a[i]
 | [],_=>⟨[],rfl,fun i hi=>by simp at hi⟩
 | u::us,h=>by
  obtain ⟨b,d⟩:=h 0 ah;obtain ⟨a,hl,e⟩:=xF R us (fun i hi=>h (i+1) (by simpa using hi));refine ⟨b::a,by simp [hl],fun i hi c=>?_⟩
  match i with
  | 0=>exact d
  | i+1=>exact e i (by simpa using hi) (by simpa using c)
variable {H:Hp} {I:XC} {O:Nat}
def FW {us:List cv} (v:Ai H I O us):∃ ws:List (cm × cv),ws.map (·.2)=us/\R6 H I O ws/\∀ u,u∈ws->lZ H u.1.p u.1.l u.2:=by
 have d:∀ i,(hi:i<(List.range us.length).length)->∃ s:cm,∀ o:(List.range us.length)[i]<us.length,∃ a,I=some a/\aE H (a.add ((List.range us.length)[i]*10)) 0 (Ob.encI s.p s.l s.c us[(List.range us.length)[i]])/\lZ H s.p s.l us[(List.range us.length)[i]]:=by
  intro i hi;have f:i<us.length:=by simpa using hi
  obtain ⟨a,q,m,c,e,hc,hv⟩:=v.cells i f;refine ⟨⟨q,m,c⟩,fun o=>⟨a,e,?_,?_⟩⟩
  ·simp only [List.getElem_range]; exact hc
  ·simp only [List.getElem_range]; exact hv
 obtain ⟨g,k,r⟩:=xF (fun (j:Nat) (s:cm)=>∀ o:j<us.length,∃ a,I=some a/\aE H (a.add (j*10)) 0 (Ob.encI s.p s.l s.c us[j])/\lZ H s.p s.l us[j]) (List.range us.length) d;rw [List.length_range] at k;have n:(g.zip us).map (·.2)=us:=by rw [List.map_snd_zip ad]
 have b:(g.zip us).length=us.length:=by rw [List.length_zip]; omega
 refine ⟨g.zip us,n,⟨by rw [b]; exact v.len,fun i hi=>?_⟩,fun u t=>?_⟩
 ·rw [b] at hi;have h1:=r i (by simpa using hi) ad;simp only [List.getElem_range] at h1;obtain ⟨a,e,hc,_⟩:=h1 hi;refine ⟨a,e,?_⟩;rw [List.getElem_zip];exact hc
 ·obtain ⟨i,hi,rfl⟩:=VV t;rw [b] at hi;have h1:=r i (by simpa using hi) ad;simp only [List.getElem_range] at h1;obtain ⟨a,e,_,hv⟩:=h1 hi;rw [List.getElem_zip];exact hv
def sO (ws:List (cm × cv)):(ws.map fQ).flatten.all cO=true:=by
 rw [VT];intro v hv;obtain ⟨x,a,hv⟩:=Xt.1 hv;obtain ⟨t,_,rfl⟩:=Vy.1 a;simp only [fQ,Ob.encI,List.mem_cons,List.not_mem_nil,or_false] at hv;rcases hv with rfl | rfl | rfl | rfl | rfl | rfl | rfl | rfl | rfl | rfl <;> rfl
def rA (ws:List (cm × cv)):∀ y,y∈ws.map fQ->y.length=10:=by
 intro y a;obtain ⟨u,_,rfl⟩:=Vy.1 a;rfl
def R6.src {ws:List (cm × cv)} (v:R6 H I O ws):(I=none/\ws.map fQ=[])\/∃ a,I=some a/\aE H a 0 (ws.map fQ).flatten:=by
 cases I with
 | none =>
  left
  refine ⟨rfl,?_⟩;cases ws with
  | nil=>rfl
  | cons u us =>
   obtain ⟨a,b,_⟩:=v.cells 0 ah;cases b
 | some a =>
  refine .inr ⟨a,rfl,?_⟩
  have:=kK (h:=H) (a:=a) (sz:=10) (ws.map fQ) 0 (rA ws) (fun i hi=>by
   rw [Vr] at hi;obtain ⟨a',b,hc⟩:=v.cells i hi;cases b;rw [VD,V9];exact hc)
  rwa [Nat.zero_mul] at this
def BE {c:Nat} {ws:List (cm × cv)} (v:R6 H I O ws) (hl:ws.length<=2^30) :
  HC YC 53 #[.slice I O c] H fun w h'=>(∃ p' c',w=.slice p' O c'/\SL h' H.size 64 10 p' O c' (ws.map fQ))/\Ext H h':=by
 refine aZ (args:=[.slice I O c]) mixed Tryz.func53 aw (fE I O c) ?_;unfold dT aR aM;have hll:=v.len;cases I with
 | none =>
  rcases v.src with ⟨_,h2⟩ | ⟨a,b,_⟩
  ·refine cy rfl ?_
   have:ws=[]:=by simpa using h2
   subst this;subst hll;exact ⟨⟨none,0,rfl,SL.nil _ _ _ _⟩,Ch.refl _ _⟩
  ·cases b
 | some a =>
  refine bX rfl ?_;refine tC (e:=64) (z:=.agg iz.toArray) (sz:=10) (by':=104) xi AT rfl v.src (by simpa using hll) (rA ws) (sO ws) ad ad ?_;intro p' c' h' f g;exact ⟨⟨p',c',rfl,f⟩,g⟩
structure Vd (h:Hp) (b B:Nat) (p:XC) (l c:Nat) (ws:List (cm × cv)):Prop where
 out:SL h b 64 10 p l c (ws.map fQ)
 lt:∀ i,i∈aG p->i<B
 j4:∀ u,u∈ws->SL h B 66 2 u.1.p u.1.l u.1.c (u.2.e.ai.map cg)
def _root_.Go.Sx.Ob.LW.ya (w:LW) (u:Nat) (us:List cv):Option XA:=us.findSome? fun x=>w.bad u x.e
def _root_.Go.Sx.Ob.LW.ez (w:LW) (u:Nat) (x:cv):cv:={ x with e:=w.di u x.e }
def Sa (w:LW) (u:Nat) (us:List cv) (l:Nat) (h:Hp) (v:XB) (h':Hp):Prop :=
 Ext h h'/\match w.ya u us with
 | some s=>v=.tuple #[.slice none 0 0,.string s,.bool false]
 | none=>∃ p c B ws,v=.tuple #[.slice p l c,.string ⟨#[]⟩,.bool true]/\Vd h' h.size B p l c ws/\h.size<=B/\ws.map (·.2)=us.map (w.ez u)
theorem HK (w:LW) (u:Nat):∀ (us:List cv) (i:Nat) (hi:i<us.length) (s:XA),(∀ j,(b:j<i)->w.bad u (us[j]'ad).e=none)->w.bad u us[i].e=some s->w.ya u us=some s
 | [],i,hi,_,_,_=>by simp at hi
 | a::l,0,hi,s,_,h=>by unfold Ob.LW.ya; simp at h; simp [h]
 | a::l,i+1,hi,s,h0,h=>by
  have c:w.bad u a.e=none:=h0 0 ad;have ih:=HK w u l i (by simpa using hi) s (fun j b=>h0 (j+1) ad) (by simpa using h);unfold Ob.LW.ya at ih ⊢;rw [List.findSome?_cons,c];exact ih
def Jv (w:LW) (u:Nat) (us:List cv) (h:∀ j,(a:j<us.length)->w.bad u us[j].e=none):w.ya u us=none:=by
 unfold Ob.LW.ya;rw [Wz];intro x b;obtain ⟨j,a,rfl⟩:=VV b;exact h j a
section
variable {h:Hp} {g gN gE gG:Nat} {us lb:cm} {sp:Int} {w:LW}
def yy (pw:iN h) (b:Nx h g us lb gN gE gG sp) (m:LM h gN gE gG w) (lb':ND w) (u:Nat) {p:XC} {l c:Nat} {xs:List cv} (v:Ai h p l xs) (hn:xs.length<=2^20) (gx:∀ x,x∈xs->DB x.e) :
  HC YC 45 #[ptr g,vI (u:Int),.slice p l c] h (Sa w u xs l h):=by
 refine aZ (args:=[ptr g,vI (u:Int),.slice p l c]) mixed Tryz.func45 aw (mv (some ⟨g,0,none⟩) u p l c) ?_;unfold iG aT bo bC ay bq ar bI aM ct aK cj eb;have hll:=v.len;obtain ⟨ws,H,vd,hit⟩:=FW v;have hwl:ws.length=xs.length:=by rw [<- H,Vr]
 refine aH (BE (c:=c) vd ad) ?_;rintro _ h1 ⟨⟨p3,c3,rfl,s3⟩,e1⟩;refine ⟨((p3,l,c3),()),rfl,ak ?_⟩;have f:∀ i,i∈aG p3->h.size<=i/\i<h1.size:=fun i hi=>s3.cu hi
 refine aY (cs:=SO) (fun y m' h'=>∃ (i:Nat) (d:List (cm × cv)),y.2.2.2.1=(i:Int)/\i<=l/\m'=l-i/\Ch (aG p3) h1 h'/\d.length=l/\SL h' h.size 64 10 p3 l c3 (d.map fQ) /\
   (∀ j,(k:j<i)->(hv:j<d.length)->SL h' h1.size 66 2 d[j].1.p d[j].1.l d[j].1.c (d[j].2.e.ai.map cg))/\d.map (·.2)=(xs.take i).map (w.ez u)++xs.drop i/\∀ j,(k:j<i)->(U:j<xs.length)->w.bad u xs[j].e=none)
  ((none,0,0),(⟨#[]⟩:XA),false,(0:Int),()) l rfl ⟨0,ws,rfl,ad,ad,Ch.refl _ _,ad,s3,by intro j k; omega,by simpa using H,by intro j k; omega⟩ ?_
 rintro ⟨p6,s9,b10,n11,⟨⟩⟩ m' h2 ⟨i,d,hi,hil,rfl,k2,hvl,s2,own,dS,A⟩;simp only at hi;subst hi;refine ak ?_;have B:Ext h h2:=Ch.trans e1 k2 (fun i hi hl=>by have:=f i hi; omega);have z1:=e1.size;have z2:=k2.size;refine aQ ?_ ?_<;>intro q
 ·have r:i<xs.length:=ad
  obtain ⟨aa,pp,ll,V,ha,I,J⟩:=v.cells i r;have gxi:=gx xs[i] (VA r);have K:xs.take (i+1)=xs.take i++[xs[i]]:=Vt r;have C:xs.drop i=xs[i]::xs.drop (i+1):=VU r;generalize L:xs[i]=x at I J K gxi C;refine cC ha ?_;rw [cX i];refine aC (x.kind,x.name,x.inst.op,x.inst.a,x.inst.b,x.inst.n,x.inst.form,(pp,ll,V),(x.e.num:Int),x.n,()) (bh B ah _ _ I) (ak ?_);refine br ?_;intro h3 b3 e3 z3;refine bT b3 ?_;intro h4 W k4 z4;have W:bm h4 h2.size 64 (Ob.encI pp ll V x):=W;have D:Ext h2 h4:=bZ e3 k4;have e04:=B.trans D;rw [ax];refine av W ((pp,ll,V),(x.e.num:Int),()) (ak ?_);refine aH (xr (c:=V) (pw.af e04 ah) (b.af e04 ah) (m.af e04 ah ah ah) lb' u (J.af e04).di.vw gxi) ?_;rintro _ h5 ⟨e5,X⟩;have z4':=W.lt;have z5:=e5.size;cases Y:w.bad u x.e with
  | some s =>
   rw [Y] at X;subst X;refine ⟨((none,0,0),(0:Int),s,false,()),rfl,ak ?_⟩;refine br ?_;intro h6 b6 e6 z6;refine bT b6 ?_;intro h7 Z k7 z7;refine cy rfl ?_;refine ⟨bZ ((e04.trans e5).trans e6) k7,?_⟩;rw [HK w u xs i r s (fun j k=>A j k ad) (by rw [L]; exact Y)]
  | none =>
   rw [Y] at X;obtain ⟨E,F,G,rfl,s7⟩:=X;refine ⟨((E,F,G),((w.di u x.e).num:Int),(⟨#[]⟩:XA),true,()),rfl,ak ?_⟩;refine br ?_;intro h6 b6 e6 z6;refine bT b6 ?_;intro h7 Z k7 z7;have Z:bm h7 h5.size 60 [.slice E F G,.int .u32 ((w.di u x.e).num:Int)]:=Z;have M:Ext h5 h7:=bZ e6 k7;have e27:=(D.trans e5).trans M;refine bX rfl ?_;refine av Z ((E,F,G),((w.di u x.e).num:Int),()) (ak ?_);have s27:=s2.af e27 ah;have t:i<d.length:=ad
   obtain ⟨a3,N⟩:∃ a3,p3=some a3:=by
    cases hp3:p3 with
    | some a=>exact ⟨a,rfl⟩
    | none =>
     rw [hp3] at s27;have h1:=s27.2.2.2;have h2:d=[]:=by simpa using h1
     rw [h2] at t;simp at t
   refine cC N ?_;refine SL.part (P:=YC) s27 (i:=i) (by rw [Vr]; exact t) (o:=7) ah (by simp [cO]) N ?_;intro h8 s8 k8 z8;have hvi:d[i].2=x:=by
    have h1:(d.map (·.2))[i]?=some d[i].2:=by rw [Wa,VC t]; rfl
    rw [dS,V8 (by rw [Vr,VQ]; omega),C] at h1;rw [Vr,VQ,show i-min i xs.length=0 from ad] at h1;simpa using h1.symm
   have O:(d.map fQ).set i (gW ((d.map fQ)[i]'(by rw [Vr]; exact t)) 7 [.slice E F G,.int .u32 ((w.di u x.e).num:Int)])=(d.set i (⟨E,F,G⟩,w.ez u x)).map fQ:=by
    rw [WR,VD]
    congr 1
    rcases hvv:d[i] with ⟨⟨v1,v2,v3⟩,v4⟩
    have:v4=x:=by rw [<- hvi,hvv]
    subst this;rfl
   rw [O] at s8;have z7':h2.size<=h7.size:=e27.size;have hw:=lC i;rw [hw];refine aD (cs:=SO) (p6,s9,b10,((i+1:Nat):Int),()) (l-(i+1)) rfl ad rfl
    ⟨i+1,d.set i (⟨E,F,G⟩,w.ez u x),rfl,ad,rfl,Ch.trans (k2.trans (e27.mono ah) (fun i hi _=>hi)) k8 (fun i hi _=>hi),by rw [WJ]; exact hvl,s8,fun j k Q=>?_,?_,fun j k hjx=>?_⟩
   ·have R:∀ x,h1.size<=x->x∉aG p3:=fun x h1 h2=>by have:=f x h2; omega
    by_cases z:j=i
    ·subst z;simp only [List.getElem_set_self]
     have:SL h7 h1.size 66 2 E F G ((w.ez u x).e.ai.map cg):=Sx.SL.mono (s7.af M ah) (by have:=D.size; omega)
     exact this.bH k8 (fun x U=>R x (this.cu U).1)
    ·have S:j<i:=ad
     rw [WJ] at Q;simp only [List.getElem_set_ne (Ne.symm z)]
     have:=(own j S Q).af e27 ah
     exact this.bH k8 (fun x U=>R x (this.cu U).1)
   ·rw [WR,dS,K,VB,C];have hl1:((xs.take i).map (w.ez u)).length=i:=by rw [Vr,VQ]; omega
    rw [WU _ _ ad,hl1,W1,List.set_cons_zero]
    simp
   ·by_cases z:j=i
    ·subst z;rw [L]; exact Y
    ·exact A j ad hjx
 ·have hi:i=l:=ad
  subst hi;refine ⟨B,?_⟩;rw [Jv w u xs (fun j k=>A j ad k)];refine ⟨p3,c3,h1.size,d,rfl,⟨s2,fun i hi=>(f i hi).2,fun u hu=>?_⟩,z1,?_⟩
  ·obtain ⟨j,k,rfl⟩:=VV hu;exact own j ad k
  ·rw [dS,V0 ad,Xh ad,Wr]
end
def hY (n sec i:Nat) (x:cv) (w:LW):LW :=
 if x.kind=1 then { w with num:=xU w.num (n,x.name) w.lb.length,nn:=if (w.num (n,x.name)).isSome then w.nn else w.nn+1,lb:=w.lb++[⟨n,sec,i,x.name⟩] } else w
def gp (n sec:Nat):Nat->List cv->LW->LW
 | _,[],w=>w
 | i,x::l,w=>gp n sec (i+1) l (hY n sec i x w)
def r7 (n:Nat) (w:LW) (e:jn):LW:={ w with pP:=xU w.pP (n,e.1) w.ne,ne:=if (w.pP (n,e.1)).isSome then w.ne else w.ne+1 }
def CF (n:Nat) (u:bS) (w:LW):LW:=u.aS.foldl (r7 n) (gp n 1 0 u.data (gp n 0 0 u.text w))
def gV:Nat->List bS->LW->LW
 | _,[],w=>w
 | n,u::us,w=>gV (n+1) us (CF n u w)
theorem A2 (n sec:Nat) (x:cv):∀ (l:List cv) (i:Nat) (w:LW),gp n sec i (l++[x]) w=hY n sec (i+l.length) x (gp n sec i l w)
 | [],i,w=>rfl
 | y::l,i,w=>by
  simp only [List.cons_append,gp,List.length_cons];rw [A2 n sec x l (i+1) _,show i+1+l.length=i+(l.length+1) from ad]
theorem AY (u:bS):∀ (l:List bS) (n:Nat) (w:LW),gV n (l++[u]) w=CF (n+l.length) u (gV n l w)
 | [],n,w=>rfl
 | y::l,n,w=>by
  simp only [List.cons_append,gV,List.length_cons];rw [AY u l (n+1) _,show n+1+l.length=n+(l.length+1) from ad]
def Fw (n sec i:Nat) (x:cv) (w:LW):(hY n sec i x w).lb.length<=w.lb.length+1:=by
 unfold hY;split
 ·simp
 ·omega
theorem kT (n sec:Nat):∀ (l:List cv) (i:Nat) (w:LW),(gp n sec i l w).lb.length<=w.lb.length+l.length
 | [],i,w=>by simp [gp]
 | x::l,i,w=>by
  have h1:=kT n sec l (i+1) (hY n sec i x w);have h2:=Fw n sec i x w;simp only [gp,List.length_cons];omega
theorem L6 (n:Nat):∀ (l:List jn) (w:LW),(l.foldl (r7 n) w).lb=w.lb
 | [],w=>rfl
 | e::l,w=>by rw [V2,L6 n l]; rfl
def K6 (n:Nat) (u:bS) (w:LW):(CF n u w).lb.length<=w.lb.length+(u.text.length+u.data.length):=by
 unfold CF;rw [L6];have h1:=kT n 1 u.data 0 (gp n 0 0 u.text w);have h2:=kT n 0 u.text 0 w;omega
def ob (us:List bS):Nat:=(us.map fun u=>u.text.length+u.data.length+u.aS.length+u.aJ.length).sum
theorem ED:∀ (l:List bS) (n:Nat) (w:LW),(gV n l w).lb.length<=w.lb.length+ob l
 | [],n,w=>by simp [gV,ob]
 | u::l,n,w=>by
  have h1:=ED l (n+1) (CF n u w);have h2:=K6 n u w;simp only [gV,ob,List.map_cons,List.sum_cons] at *;omega
def Jb (us:List bS) (i:Nat) (hi:i<us.length):ob (us.take i)+(us[i].text.length+us[i].data.length+us[i].aS.length+us[i].aJ.length)+ob (us.drop (i+1))=ob us:=by
 have:us=us.take i++us[i]::us.drop (i+1):=by rw [<- VU hi,We]
 conv=>rhs; rw [this]
 unfold ob;rw [VB,List.sum_append,VY,Wg];omega
structure C8 (h:Hp) (B:Nat) (us lb:cm) (sp:Int) (w:LW):Prop where
 box:Nx h (B+3) us lb B (B+1) (B+2) sp
 maps:LM h B (B+1) (B+2) w
 vN:SL h (B+4) 76 4 lb.p lb.l lb.c (w.lb.map CM)
def C8.af {h h':Hp} {B:Nat} {us lb:cm} {sp:Int} {w:LW} (s:C8 h B us lb sp w) (e:Ext h h'):C8 h' B us lb sp w :=
 ⟨s.box.af e ah,s.maps.af e ah ah ah,s.vN.af e ah⟩
def C8.lt {h:Hp} {B:Nat} {us lb:cm} {sp:Int} {w:LW} (s:C8 h B us lb sp w):B+4<=h.size:=by have:=s.box.lt; omega
def PP:Tryz.prog.underlying 43=some (.slice 76):=aw
def SP:(Tryz.prog.info? 76).map (fun i=>(i.zero,i.size,i.bytes))=some (some (.agg #[vI 0,vI 0,vI 0,.string ⟨#[]⟩]),4,40):=aw
def QW (a b c:Int) (s:XA):Instr.fill (fun j=>some (j*4,4)) ((Array.range (1*4)).map ((Value.agg #[vI 0,vI 0,vI 0,.string ⟨#[]⟩]).cells[· % (Value.agg #[vI 0,vI 0,vI 0,.string ⟨#[]⟩]).cells.size]!)) [(0,.agg #[vI a,vI b,vI c,.string s])]=some ([vI a,vI b,vI c,.string s]:List XB).toArray:=aw
section
variable {h0:Hp} {B:Nat} {us:cm} {sp:Int}
def FI {h:Hp} {lb:cm} {w:LW} (hB:h0.size=B) (e0:Ext h0 h) (s:C8 h B us lb sp w) {p:XC} {l c:Nat} {wU:List bS} (v:Fp h0 p l wU) (hlen:w.lb.length+ob wU<=2^30) (hnu:wU.length<=2^20) (hwl:lb.l=w.lb.length) :
  HC YC 43 #[ptr (B+3),.slice p l c] h fun x h'=>x=.tuple #[]/\∃ f,C8 h' B us f sp (gV 0 wU w)/\Ext h0 h':=by
 refine aZ (args:=[ptr (B+3),.slice p l c]) mixed Tryz.func43 aw (mC (some ⟨B+3,0,none⟩) p l c) ?_;unfold iQ aT bo bC ay aR bR ar bI aM ct aK;have hll:=v.len;refine aY (cs:=cU) (fun y H h'=>∃ (n:Nat) (f:cm),y.1=(n:Int)/\n<=l/\H=l-n/\Ext h0 h'/\C8 h' B us f sp (gV 0 (wU.take n) w)) ((0:Int),()) l rfl ⟨0,lb,rfl,ad,ad,e0,s⟩ ?_;clear s e0;rintro ⟨n2,⟨⟩⟩ H h1 ⟨n,lb1,hn,hnl,rfl,e1,s1⟩;simp only at hn;subst hn;refine ak ?_;refine aQ ?_ ?_<;>intro q
 ·have R:n<wU.length:=ad
  obtain ⟨a,m,o,F,td,ha,hc,hu⟩:=v.cells n R;have htk:wU.take (n+1)=wU.take n++[wU[n]]:=Vt R;have hL:=Jb wU n R;have hwn:=ED (wU.take n) 0 w;generalize wU[n]=u at hc hu htk hL;generalize hw1:gV 0 (wU.take n) w=L at *;refine cC ha ?_;rw [cX n];refine aC ((m.p,m.l,m.c),(o.p,o.l,o.c),(F.p,F.l,F.c),(td.p,td.l,td.c),()) (bh e1 ah _ _ hc) (ak ?_);refine br ?_;intro h2 b2 e2 z2;refine bT b2 ?_;intro h3 b3 k3 z3;have b3:bm h3 h1.size 30 [m.v,o.v,F.v,td.v]:=b3;have e13:Ext h1 h3:=bZ e2 k3;refine av b3 ((m.p,m.l,m.c),()) (ak ?_);rw [ax];refine av b3 ((o.p,o.l,o.c),()) (ak ?_);refine sW Ih TX ad ad (H6 m.p m.l m.c o.p o.l o.c) ?_;intro h4 b4 e4 z4;have b4:bm h4 h3.size 26 [m.v,o.v]:=b4;have e14:=e13.trans e4;have b34:=b3.af e4 ah;have l1:=s1.lt;have q3:=b3.lt;have hsec:∀ k,k<2->∃ s:cm,([m.v,o.v]:List XB).drop k=s.v::([m.v,o.v]:List XB).drop (k+1)/\Ai h0 s.p s.l (yf u k):=by
   intro k hk
   have:k=0\/k=1:=ad
   rcases this with rfl | rfl
   ·exact ⟨m,rfl,hu.text⟩
   ·exact ⟨o,rfl,hu.data⟩
  let I:Nat->LW:=fun k=>if k=0 then L else if k=1 then gp n 0 0 u.text L else gp n 1 0 u.data (gp n 0 0 u.text L)
  have hwS:∀ k,k<2->I (k+1)=gp n k 0 (yf u k) (I k):=by
   intro k hk
   have:k=0\/k=1:=ad
   rcases this with rfl | rfl <;> rfl
  have hwSl:∀ k,k<=2->(I k).lb.length<=L.lb.length+(if k=0 then 0 else if k=1 then u.text.length else u.text.length+u.data.length):=by
   intro k hk
   have:k=0\/k=1\/k=2:=ad
   rcases this with rfl | rfl | rfl
   ·simp [I]
   ·exact kT n 0 u.text 0 L
   ·have h1:=kT n 0 u.text 0 L;have h2:=kT n 1 u.data 0 (gp n 0 0 u.text L);show (gp n 1 0 u.data (gp n 0 0 u.text L)).lb.length<=L.lb.length+(u.text.length+u.data.length);omega
  refine aY (cs:=cU) (fun y H h'=>∃ (k:Nat) (f:cm),y.1=(k:Int)/\k<=2/\H=2-k/\Ext h0 h'/\C8 h' B us f sp (I k)/\(h1.size∉aG f.p/\h3.size∉aG f.p)/\bm h' h1.size 30 [m.v,o.v,F.v,td.v]/\bm h' h3.size 26 [m.v,o.v]) ((0:Int),()) 2 rfl
   ⟨0,lb1,rfl,ad,ad,e1.trans e14,s1.af e14,⟨fun hm=>by have:=(s1.vN.cu hm).2; omega,fun hm=>by have:=(s1.vN.cu hm).2; omega⟩,b34,b4⟩ ?_
  clear b4 b34 e4 e14 b3 z4;rintro ⟨n26,⟨⟩⟩ H h5 ⟨k,S,hk,hk2,rfl,e5,s5,d2,U,P⟩;simp only at hk;subst hk;refine ak ?_;refine aQ ?_ ?_<;>intro q
  ·have hk:k<2:=ad
   obtain ⟨sl,hsl,vs⟩:=hsec k hk;have hwk:=hwS k hk;have hwkl:=hwSl k ad;have V:(yf u k).length+(if k=0 then 0 else if k=1 then u.text.length else u.text.length+u.data.length)<=u.text.length+u.data.length:=by
    have:k=0\/k=1:=ad
    rcases this with rfl | rfl
    ·simp [yf]
    ·simp [yf]; omega
   refine cC rfl ?_;rw [ax];refine bj P ((sl.p,sl.l,sl.c),()) (by rw [show 0+(k:Int).toNat*1=k from ad,hsl]; rfl) ?_;refine ak ?_;generalize hxs:yf u k=xs at vs hwk V;generalize hwkk:I k=W at *;have lk:=vs.len;refine aY (cs:=cU) (fun y H h'=>∃ (i:Nat) (f:cm),y.1=(i:Int)/\i<=sl.l/\H=sl.l-i/\Ext h0 h'/\C8 h' B us f sp (gp n k 0 (xs.take i) W)/\(h1.size∉aG f.p/\h3.size∉aG f.p)/\bm h' h1.size 30 [m.v,o.v,F.v,td.v]/\bm h' h3.size 26 [m.v,o.v]) ((0:Int),()) sl.l rfl
    ⟨0,S,rfl,ad,ad,e5,s5,d2,U,P⟩ ?_
   clear e5 s5 U P;rintro ⟨n31,⟨⟩⟩ H X ⟨i,d,hi,hil,rfl,Q,M,d3,U,P⟩;simp only at hi;subst hi;refine ak ?_;refine aQ ?_ ?_<;>intro q
   ·have J:i<xs.length:=ad
    obtain ⟨aa,pp,ll,cc,Y,K,Z⟩:=vs.cells i J;have htk2:xs.take (i+1)=xs.take i++[xs[i]]:=Vt J;have hli:(gp n k 0 (xs.take i) W).lb.length<=W.lb.length+i:=by
     have:=kT n k (xs.take i) 0 W
     rw [VQ] at this;omega
    have C:gp n k 0 (xs.take (i+1)) W=hY n k i xs[i] (gp n k 0 (xs.take i) W):=by
     rw [htk2,A2,VQ,V9,WD ad]
    generalize xs[i]=x at K Z C;generalize hwi:gp n k 0 (xs.take i) W=wi at *;refine cC Y ?_;rw [cX i];refine aC (x.kind,x.name,x.inst.op,x.inst.a,x.inst.b,x.inst.n,x.inst.form,(pp,ll,cc),(x.e.num:Int),x.n,()) (bh Q ah _ _ K) (ak ?_);refine br ?_;intro h7 b7 e7 z7;refine bT b7 ?_;intro h8 G k8 z8;have G:bm h8 X.size 64 (Ob.encI pp ll cc x):=G;have t:Ext X h8:=bZ e7 k8;have bu8:=U.af t ah;have bs8:=P.af t ah;have s8:=M.af t;have hw:=lC i;have l6:=M.lt;have q6:=G.lt;refine av G (x.kind,()) (ak ?_);refine an ?_ ?_<;>intro r
    ·have r:x.kind=1:=by simpa using r
     have hp:hY n k i x wi={ wi with num:=xU wi.num (n,x.name) wi.lb.length,nn:=if (wi.num (n,x.name)).isSome then wi.nn else wi.nn+1,lb:=wi.lb++[⟨n,k,i,x.name⟩] }:=by unfold hY; rw [VE r]
     refine bk rfl ?_;rw [ax];refine av s8.box (some B,()) (ak ?_);rw [ax];refine av G (x.name,()) (ak ?_);refine bk rfl ?_;rw [ax];refine av s8.box ((d.p,d.l,d.c),()) (ak ?_);have hlb3:d.l=wi.lb.length:=by rw [s8.vN.1,Vr]
     refine PM s8.maps.n n x.name (w:=wi.lb.length) ad ?_;intro h9 m9 E z9;have x9:=s8.box.af E ah;have me9:=s8.maps.e.af E ah;have mg9:=s8.maps.g.af E ah;have ls9:=s8.vN.bH E (fun j N=>by have:=(s8.vN.cu N).1; simp; omega);have b9:=G.af E (by simp; omega);refine bk rfl ?_;rw [ax];refine av x9 ((d.p,d.l,d.c),()) (ak ?_);refine av b9 (x.name,()) (ak ?_);refine re (e:=76) (z:=.agg #[vI 0,vI 0,vI 0,.string ⟨#[]⟩]) (sz:=4) (by':=40) PP SP rfl ad ad (QW _ _ _ _) rfl rfl ls9 ad ad ad (fun h' e=>⟨(b9.af e ah).cells _ rfl,(x9.af e ah).cells _ rfl,trivial⟩) ?_;intro p' c' h10 s10 A hp10;have O:∀ j,j<B+4->j∉aG d.p:=fun j h1 h2=>by have:=(s8.vN.cu h2).1; omega
     have nin2:∀ j,X.size<=j->j∉aG d.p:=fun j h1 h2=>by have:=(M.vN.cu h2).2; omega
     have b10:=b9.af A (nin2 _ ad);have x10:=x9.af A (O _ ad);refine ⟨⟨b10.cells _ rfl,trivial⟩,?_⟩;refine bk rfl ?_;rw [ax];refine bT x10 ?_;intro h11 x11 D z11;have x11:Nx h11 (B+3) us ⟨p',d.l+1,c'⟩ B (B+1) (B+2) sp:=x11;rw [hw];have e611:Ext h0 h11:=Ch.trans (Ch.trans (bZ (Q.trans t) E) A (fun j N hl=>by have:=(s8.vN.cu N).1; omega)) D (fun j N hl=>by simp at N; omega);have q56:h1.size<h3.size:=q3;have q36:h3.size<X.size:=P.lt;have d4:h1.size∉aG p'/\h3.size∉aG p':=by
      rcases hp10 with rfl | ⟨a',rfl,ha'⟩
      ·exact d3
      ·simp only [aG,List.mem_singleton]; omega
     refine aD (cs:=cU) (((i+1:Nat):Int),()) (sl.l-(i+1)) rfl ad rfl ⟨i+1,⟨p',d.l+1,c'⟩,rfl,ad,rfl,e611,?_,d4,?_,?_⟩
     ·rw [C,hp];refine ⟨x11,⟨(m9.af A (O _ ad)).af D ah,(me9.af A (O _ ad)).af D ah,(mg9.af A (O _ ad)).af D ah⟩,?_⟩;show SL h11 (B+4) 76 4 p' (d.l+1) c' ((wi.lb++[(⟨n,k,i,x.name⟩:Lb)]).map CM);rw [VB];exact s10.bH D (fun j N=>by have:=(s10.cu N).1; simp; omega)
     ·exact ((bu8.af E (by simp; omega)).af A d3.1).af D (by simp; omega)
     ·exact ((bs8.af E (by simp; omega)).af A d3.2).af D (by simp; omega)
    ·have r:¬ x.kind=1:=by simpa using r
     have hp:hY n k i x wi=wi:=by unfold hY; rw [Vu r]
     rw [hw];refine aD (cs:=cU) (((i+1:Nat):Int),()) (sl.l-(i+1)) rfl ad rfl ⟨i+1,d,rfl,ad,rfl,Q.trans t,by rw [C,hp]; exact s8,d3,bu8,bs8⟩
   ·have hi:i=xs.length:=ad
    subst hi;rw [V0 (VL _)] at M;have hw:=lC k;rw [hw];refine aD (cs:=cU) (((k+1:Nat):Int),()) (2-(k+1)) rfl ad rfl ⟨k+1,d,rfl,ad,rfl,Q,by rw [hwk]; exact M,d3,U,P⟩
  ·have hk:k=2:=ad
   subst hk;clear P;rw [ax];refine av U ((F.p,F.l,F.c),()) (ak ?_);have ve:=hu.aS;have le:=ve.len;have hw2:I 2=gp n 1 0 u.data (gp n 0 0 u.text L):=rfl;have hne:∀ (i:Nat),(hi:i<u.aS.length)->(u.aS.take (i+1)).foldl (r7 n) (I 2)=r7 n ((u.aS.take i).foldl (r7 n) (I 2)) (u.aS[i]'ad):=by
    intro i hi;rw [Vt hi,Ws] <;> rfl
   refine aY (cs:=cU) (fun y H h'=>∃ (i:Nat),y.1=(i:Int)/\i<=F.l/\H=F.l-i/\Ext h0 h'/\C8 h' B us S sp ((u.aS.take i).foldl (r7 n) (I 2))) ((0:Int),()) F.l rfl
    ⟨0,rfl,ad,ad,e5,s5⟩ ?_
   clear e5 s5 U;rintro ⟨n30,⟨⟩⟩ H X ⟨i,hi,hil,rfl,Q,M⟩;simp only at hi;subst hi;refine ak ?_;refine aQ ?_ ?_<;>intro q
   ·have J:i<u.aS.length:=ad
    obtain ⟨aa,pp,ll,cc,Y,K,Z,hsz⟩:=ve.cells i J;have hne:=hne i J;generalize u.aS[i]=x at K Z hsz hne;generalize hwi:(u.aS.take i).foldl (r7 n) (I 2)=wi at *;refine cC Y ?_;rw [cX i];refine aC (x.1,(pp,ll,cc),(x.2.num:Int),()) (bh Q ah _ _ K) (ak ?_);refine br ?_;intro h7 b7 e7 z7;refine bT b7 ?_;intro h8 G k8 z8;have G:bm h8 X.size 88 [.string x.1,.slice pp ll cc,.int .u32 (x.2.num:Int)]:=G;have t:Ext X h8:=bZ e7 k8;have s8:=M.af t;have l6:=M.lt;have q6:=G.lt;refine bk rfl ?_;rw [ax];refine av s8.box (some (B+1),()) (ak ?_);refine av G (x.1,()) (ak ?_);refine bk rfl ?_;rw [ax];refine av s8.box (some (B+1),()) (ak ?_);refine SZ s8.maps.e ?_;refine ⟨⟨G.cells _ rfl,s8.box.cells _ rfl,trivial⟩,?_⟩;refine PM s8.maps.e n x.1 (w:=wi.ne) rfl ?_;intro h9 m9 E z9;have hw:=lC i;rw [hw];refine aD (cs:=cU) (((i+1:Nat):Int),()) (F.l-(i+1)) rfl ad rfl ⟨i+1,rfl,ad,rfl,bZ (Q.trans t) E,?_⟩;rw [hne];exact ⟨s8.box.af E ah,⟨s8.maps.n.af E ah,m9,s8.maps.g.af E ah⟩,s8.vN.bH E (fun j N=>by have:=(s8.vN.cu N).1; simp; omega)⟩
   ·have hi:i=u.aS.length:=ad
    subst hi;rw [V0 (VL _)] at M;have hw:=lC n;rw [hw];refine aD (cs:=cU) (((n+1:Nat):Int),()) (l-(n+1)) rfl ad rfl ⟨n+1,S,rfl,ad,rfl,Q,?_⟩;rw [htk,AY,VQ,V9,WD ad,hw1];exact M
 ·have hn:n=wU.length:=ad
  subst hn;rw [V0 (VL _)] at s1;exact ⟨rfl,lb1,s1,e1⟩
end
def ul (n:Nat) (w:LW) (s:XA):LW:={ w with gl:=dB w.gl s n,ng:=if (w.gl s).isSome then w.ng else w.ng+1 }
def Eo (n:Nat) (u:bS) (w:LW):LW:=u.aJ.foldl (ul n) w
def fZ:Nat->List bS->LW->Except (Nat × XA) LW
 | _,[],w=>.ok w
 | n,u::us,w=>match u.aJ.find? fun g=>(w.gl g).isSome with
  | some g=>.error (n,g)
  | none=>fZ (n+1) us (Eo n u w)
theorem MI (n:Nat):∀ (l:List XA) (w:LW),(l.foldl (ul n) w).lb=w.lb/\(l.foldl (ul n) w).num=w.num/\(l.foldl (ul n) w).nn=w.nn/\(l.foldl (ul n) w).pP=w.pP/\(l.foldl (ul n) w).ne=w.ne
 | [],w=>⟨rfl,rfl,rfl,rfl,rfl⟩
 | e::l,w=>by rw [V2]; exact MI n l _
section
variable {h0:Hp} {B:Nat} {us lb:cm} {sp:Int}
def Im {h:Hp} {w:LW} (hB:h0.size=B) (e0:Ext h0 h) (s:C8 h B us lb sp w) {p:XC} {l c:Nat} {wU:List bS} (v:Fp h0 p l wU) (hnu:wU.length<=2^20) :
  HC YC 44 #[ptr (B+3),.slice p l c] h fun x h'=>Ext h0 h'/\match fZ 0 wU w with
   | .error q=>x=.tuple #[.agg #[vI 22,vI (q.1:Int),.string q.2],.bool true]
   | .ok w'=>x=.tuple #[.agg #[vI 0,vI 0,.string ⟨#[]⟩],.bool false]/\C8 h' B us lb sp w':=by
 refine aZ (args:=[ptr (B+3),.slice p l c]) mixed Tryz.func44 aw (mY (some ⟨B+3,0,none⟩) p l c) ?_;unfold jG aT bo bC ay bR bI aM ct aK cj;have hll:=v.len;generalize o:fZ 0 wU w=M;refine br ?_;intro h1 b1 X z1;have l0:=s.lt;refine aY (cs:=fK) (fun y z h'=>∃ (n:Nat) (w':LW),y.2.1=(n:Int)/\n<=l/\z=l-n/\Ext h0 h'/\C8 h' B us lb sp w'/\bm h' h.size 37 [vI 0,vI 0,.string ⟨#[]⟩]/\fZ n (wU.drop n) w'=M) (false,(0:Int),()) l rfl
  ⟨0,w,rfl,ad,ad,e0.trans X,s.af X,b1,o⟩ ?_
 have z0:=e0.size;have Q:∀ i,i∈aG lb.p->i<h.size:=fun i hi=>(s.vN.cu hi).2
 clear o s b1;rintro ⟨b3,n4,⟨⟩⟩ z h2 ⟨n,w,hn,hnl,rfl,R,s,b1,o⟩;simp only at hn;subst hn;refine ak ?_;have q1:=b1.lt;refine aQ ?_ ?_<;>intro q
 ·have G:n<wU.length:=ad
  obtain ⟨a,L,N,O,b,ha,hc,Y⟩:=v.cells n G;rw [VU G] at o;generalize wU[n]=u at hc Y o;refine cC ha ?_;rw [cX n];refine aC ((L.p,L.l,L.c),(N.p,N.l,N.c),(O.p,O.l,O.c),(b.p,b.l,b.c),()) (bh R ah _ _ hc) (ak ?_);refine br ?_;intro Z d e3 z3;refine bT d ?_;intro h4 H k4 z4;have H:bm h4 h2.size 30 [L.v,N.v,O.v,b.v]:=H;have A:Ext h2 h4:=bZ e3 k4;have e04:=R.trans A;have s4:=s.af A;have b14:=b1.af A ah;have vg:=Y.aJ;have lg:=vg.len;have mg:=vg.many;have q4:=H.lt;have l2:=s.lt;rw [ax];refine av H ((b.p,b.l,b.c),()) (ak ?_);refine aY (cs:=fK) (fun y z h'=>∃ (i:Nat),y.2.1=(i:Int)/\i<=b.l/\z=b.l-i/\h'=h4/\∀ j,(f:j<i)->(hx:j<u.aJ.length)->(w.gl u.aJ[j]).isSome=false) (b3,(0:Int),()) b.l rfl
   ⟨0,rfl,ad,ad,rfl,by intro j f; omega⟩ ?_
  rintro ⟨I,n23,⟨⟩⟩ z h5 ⟨i,hi,hil,rfl,rfl,C⟩;simp only at hi;subst hi;refine ak ?_;refine aQ ?_ ?_<;>intro q
  ·have k:i<u.aJ.length:=ad
   obtain ⟨aa,D,t,E⟩:=vg.cells i k;refine cC D ?_;rw [cX i];refine aC (u.aJ[i],()) (bh e04 ah _ _ t) (ak ?_);refine bk rfl ?_;rw [ax];refine av s4.box (some (B+2),()) (ak ?_);refine Ck s4.maps.g u.aJ[i] ?_;refine an ?_ ?_<;>intro r
   ·refine bT b14 ?_;intro h6 S k6 z6;have S:bm h6 h.size 37 [vI 22,vI (n:Int),.string u.aJ[i]]:=S;refine av S ((22:Int),(n:Int),u.aJ[i],()) ?_;have hf:M=.error (n,u.aJ[i]):=by
     rw [<- o,fZ,wJ _ u.aJ i k (fun j f=>C j f ad) r]
    subst hf;exact ⟨bZ e04 k6,rfl⟩
   ·have hw:=lC i;rw [hw];refine aD (cs:=fK) (I,((i+1:Nat):Int),()) (b.l-(i+1)) rfl ad rfl ⟨i+1,rfl,ad,rfl,rfl,fun j f hx=>?_⟩
    by_cases U:j=i
    ·subst U; exact r
    ·exact C j ad hx
  ·have hi:i=u.aJ.length:=ad
   subst hi;have V:fZ (n+1) (wU.drop (n+1)) (Eo n u w)=M:=by
    rw [<- o,fZ,AW _ u.aJ (fun j f=>C j f f)]
   refine av H ((b.p,b.l,b.c),()) (ak ?_);refine aY (cs:=cU) (fun y z h'=>∃ (i:Nat),y.1=(i:Int)/\i<=b.l/\z=b.l-i/\Ext h0 h'/\C8 h' B us lb sp ((u.aJ.take i).foldl (ul n) w)/\bm h' h.size 37 [vI 0,vI 0,.string ⟨#[]⟩]) ((0:Int),()) b.l rfl
    ⟨0,rfl,ad,ad,e04,s4,b14⟩ ?_
   clear s4 b14;rintro ⟨n27,⟨⟩⟩ z h6 ⟨i,hi,hil',rfl,W,m,J⟩;simp only at hi;subst hi;refine ak ?_;refine aQ ?_ ?_<;>intro q
   ·have k:i<u.aJ.length:=ad
    obtain ⟨aa,D,t,E⟩:=vg.cells i k;have K:(u.aJ.take (i+1)).foldl (ul n) w=ul n ((u.aJ.take i).foldl (ul n) w) u.aJ[i]:=by
     rw [Vt k,Ws] <;> rfl
    generalize u.aJ[i]=x at t E K;generalize (u.aJ.take i).foldl (ul n) w=wi at *;refine cC D ?_;rw [cX i];refine aC (x,()) (bh W ah _ _ t) (ak ?_);refine bk rfl ?_;rw [ax];refine av m.box (some (B+2),()) (ak ?_);have l6:=m.lt;refine pZ m.maps.g E (w:=n) rfl ?_;intro h7 m7 F z7;have hw:=lC i;rw [hw];refine aD (cs:=cU) (((i+1:Nat):Int),()) (b.l-(i+1)) rfl ad rfl ⟨i+1,rfl,ad,rfl,bZ W F,?_,J.af F (by simp; omega)⟩;rw [K];exact ⟨m.box.af F ah,⟨m.maps.n.af F ah,m.maps.e.af F ah,m7⟩,m.vN.bH F (fun j f=>by have:=(m.vN.cu f).1; simp; omega)⟩
   ·have hi:i=u.aJ.length:=ad
    subst hi;rw [V0 (VL _)] at m;have hw:=lC n;rw [hw];exact aD (cs:=fK) (I,((n+1:Nat):Int),()) (l-(n+1)) rfl ad rfl ⟨n+1,_,rfl,ad,rfl,W,m,J,V⟩
 ·have hn:n=wU.length:=ad
  subst hn;rw [Xh (VL _)] at o;subst o;refine bT b1 ?_;intro Z d P z3;have d:bm Z h.size 37 [vI 0,vI 0,.string ⟨#[]⟩]:=d;refine av d ((0:Int),(0:Int),(⟨#[]⟩:XA),()) ?_;refine ⟨bZ R P,rfl,?_⟩;exact ⟨s.box.af P (by simp; omega),s.maps.af P (by simp; omega) (by simp; omega) (by simp; omega),s.vN.bH P (fun j f=>by have:=Q j f; simp; omega)⟩
end
end Go.Sx.Lk
namespace Go.Sx.Ob
open Go.Proofs
def Sh (x:cv):Bool:=decide (x.kind=2) && rL x.inst.op
def gK (l:List cv):Nat:=(l.filter Sh).length
def Gz (l:List cv) (i:Nat) (hi:i<l.length):gK (l.take (i+1))=gK (l.take i)+if Sh l[i]=true then 1 else 0:=by
 unfold gK;rw [Vt hi,List.filter_append,Vs]
 congr 1
 by_cases hk:Sh l[i]=true <;> simp [hk]
def yH (l:List cv):gK l<=l.length:=WT _ _
def Iw {h:Hp} (t:AE h) {a b c d:cm} {u:bS} (v:jI h a b c d u):HC YC 48 #[rU a b c d] h fun w h'=>w=vI ((if ee u=0 then gK u.text else 0:Nat):Int)/\Ext h h':=by
 refine aZ (args:=[rU a b c d]) mixed Tryz.func48 aw (yc a.p a.l a.c b.p b.l b.c c.p c.l c.c d.p d.l d.c) ?_;unfold vo aT bo bC ay aP dh ar aM ct aK;refine br ?_;intro h1 b1 k z1;have b1:bm h1 h.size 30 [a.v,b.v,c.v,d.v]:=b1;refine av b1 ((a.p,a.l,a.c),(b.p,b.l,b.c),(c.p,c.l,c.c),(d.p,d.l,d.c),()) (ak ?_);refine aH (u6 (t.af k ah) (v.af k)) ?_;rintro _ h2 ⟨rfl,A⟩;refine ⟨((ee u:Int),()),rfl,ak ?_⟩;have e02:=k.trans A;refine an ?_ ?_<;>intro r
 ·have r:¬ ee u=0:=by simpa using r
  rw [Vu r];exact ⟨rfl,e02⟩
 have r:ee u=0:=by simpa using r
 rw [VE r];have b2:=b1.af A ah;refine av b2 ((a.p,a.l,a.c),()) (ak ?_);have n:=v.text.len;have m1:=v.text.many;refine aY (cs:=jc) (fun y m h'=>∃ i:Nat,y.2.1=(i:Int)/\y.1=(gK (u.text.take i):Int)/\m=u.text.length-i/\i<=u.text.length/\Ext h h') ((0:Int),(0:Int),()) u.text.length rfl
  ⟨0,rfl,rfl,rfl,ad,e02⟩ ?_
 rintro ⟨J,K,⟨⟩⟩ m g ⟨i,hi,hn,rfl,E,o⟩;simp only at hi hn;subst hi hn;refine ak ?_;refine aQ ?_ ?_<;>intro q
 ·have f:i<u.text.length:=ad
  obtain ⟨L,pp,B,C,rfl',hc,z⟩:=(v.text.af o).cells i f;have ht:=Gz u.text i f;have F:gK (u.text.take i)<=i:=by have:=yH (u.text.take i); rw [VQ] at this; omega
  generalize u.text[i]=x at hc z ht;refine fJ (bk rfl' ?_);rw [cX i];refine aC (x.kind,x.name,x.inst.op,x.inst.a,x.inst.b,x.inst.n,x.inst.form,(pp,B,C),(x.e.num:Int),x.n,()) hc (ak ?_);refine br ?_;intro M c1 G N;refine bT c1 ?_;intro g2 j H O;have j:bm g2 g.size 64 (encI pp B C x):=j;have I:Ext g g2:=bZ G H;have eg2:=o.trans I;refine av j (x.kind,()) (ak ?_);refine an ?_ ?_<;>intro r
  ·have r:x.kind=2:=by simpa using r
   rw [ax];refine av j (x.inst.op,()) (ak ?_);refine aH (Eg (t.af eg2 ah) x.inst.op z.op.1 z.op.2) ?_;rintro _ P ⟨rfl,D⟩;refine ⟨(rL x.inst.op,()),rfl,ak ?_⟩;refine an ?_ ?_<;>intro s
   ·rw [VE (by unfold Sh; rw [Vw r,s]; rfl)] at ht;refine aD (cs:=jc) (((gK (u.text.take i)+1:Nat):Int),((i+1:Nat):Int),()) (u.text.length-(i+1)) rfl ad (by rw [wrap_i64 ad ad,wrap_i64 ad ad]; rfl) ?_;exact ⟨i+1,rfl,by rw [ht],rfl,ad,eg2.trans D⟩
   ·rw [Vu (by unfold Sh; rw [Vw r,s]; decide)] at ht;refine aD (cs:=jc) ((gK (u.text.take i):Int),((i+1:Nat):Int),()) (u.text.length-(i+1)) rfl ad (by rw [wrap_i64 ad ad]; rfl) ?_;exact ⟨i+1,rfl,by rw [ht]; rfl,rfl,ad,eg2.trans D⟩
  ·have r:¬ x.kind=2:=by simpa using r
   rw [Vu (by unfold Sh; rw [Vx r]; simp)] at ht;refine aD (cs:=jc) ((gK (u.text.take i):Int),((i+1:Nat):Int),()) (u.text.length-(i+1)) rfl ad (by rw [wrap_i64 ad ad]; rfl) ?_;exact ⟨i+1,rfl,by rw [ht]; rfl,rfl,ad,eg2⟩
 ·have:i=u.text.length:=ad
  subst this;rw [V1];exact ⟨rfl,o⟩
end Go.Sx.Ob
namespace Go.Sx.Lk
open Go.Proofs Go.Sx.Ob
variable {fs:List ei}
structure km where
 s:cm
 ws:List (cm × cv)
def Ts:km:=⟨nZ,[]⟩
structure lN (h:Hp) (b:Nat) (x:km):Prop where
 out:SL h b 64 10 x.s.p x.s.l x.s.c (x.ws.map fQ)
 j4:∀ u,u∈x.ws->SL h b 66 2 u.1.p u.1.l u.1.c (u.2.e.ai.map cg)
variable {I:Hp} {H O Y:Nat}
def lN.af {h':Hp} {x:km} {ws:List Nat} (s:lN I H x) (k:Ch ws I h') (h1:∀ i,i∈aG x.s.p->i∉ws) (h2:∀ u,u∈x.ws->∀ i,i∈aG u.1.p->i∉ws):lN h' H x :=
 ⟨s.out.bH k h1,fun u a=>(s.j4 u a).bH k (h2 u a)⟩
def lN.ext {h':Hp} {x:km} (s:lN I H x) (k:Ext I h'):lN h' H x:=s.af k ah ah
def lN.mono {h:Hp} {b b':Nat} {x:km} (s:lN h b x) (a:b'<=b):lN h b' x:=⟨s.out.mono a,fun u c=>(s.j4 u c).mono a⟩
structure kw (h:Hp) (b N:Nat) (S:Nat->km):Prop where
 sec:∀ k,k<N->lN h b (S k)
 ap:∀ k j,k<N->j<N->k≠j->∀ x,x∈aG (S k).s.p->x∉aG (S j).s.p
def kw.ext {h h':Hp} {b N:Nat} {S:Nat->km} (s:kw h b N S) (k:Ext h h'):kw h' b N S:=⟨fun j a=>(s.sec j a).ext k,s.ap⟩
def kw.ig {h':Hp} {S:Nat->km} {ws:List Nat} (s:kw I H O S) (k:Ch ws I h') (d:∀ i,i∈ws->i<H):kw h' H O S :=
 ⟨fun j a=>(s.sec j a).af k (fun i hi c=>by have:=((s.sec j a).out.cu hi).1; have:=d i c; omega) (fun u e i hi c=>by have:=(((s.sec j a).j4 u e).cu hi).1; have:=d i c; omega),s.ap⟩
def kw.qI {h':Hp} {S:Nat->km} {b2:Nat} {e:TypeId} {sz:Nat} {p:XC} {c:Nat} {xs:List (List XB)} (s:kw I H O S) (t:SL I b2 e sz p Y c xs) (k:Ch (aG p) I h') (h1:e≠64) (h2:e≠66):kw h' H O S :=
 ⟨fun j a=>(s.sec j a).af k (fun i hi d=>uy t (s.sec j a).out h1 i d hi) (fun u f i hi d=>uy t ((s.sec j a).j4 u f) h2 i d hi),s.ap⟩
def kg (S:Nat->km) (k:Nat) (x:km):Nat->km:=fun j=>if j=k then x else S j
def kw.nil (h:Hp) (b:Nat) (S:Nat->km):kw h b 0 S:=⟨fun k hk=>absurd hk ad,fun k j hk=>absurd hk ad⟩
variable {Z:Nat->km}
def kw.add {h':Hp} (s:kw I H O Z) (e:Ext I h') (l:H<=I.size) {x:km} (g:lN h' I.size x):kw h' H (O+1) (kg Z O x):=by
 have s':=s.ext e;refine ⟨fun k hk=>?_,fun k j hk m i y d a=>?_⟩
 ·unfold kg
  by_cases c:k=O
  ·rw [VE c]; exact g.mono l
  ·rw [Vu c]; exact s'.sec k ad
 ·unfold kg at d a
  by_cases c:k=O <;> by_cases f:j=O
  ·omega
  ·rw [VE c] at d;rw [Vu f] at a;have h1:=(g.out.cu d).1;have h2:=((s.sec j ad).out.cu a).2;omega
  ·rw [Vu c] at d;rw [VE f] at a;have h1:=(g.out.cu a).1;have h2:=((s.sec k ad).out.cu d).2;omega
  ·rw [Vu c] at d;rw [Vu f] at a;exact s.ap k j ad ad i y d a
def kw.put {h':Hp} (s:kw I H O Z) (hk:Y<O) {i:Nat} (hi:i<(Z Y).ws.length) {q:cm × cv} (A:SL I H 66 2 q.1.p q.1.l q.1.c (q.2.e.ai.map cg))
  (B:SL h' H 64 10 (Z Y).s.p (Z Y).s.l (Z Y).s.c (((Z Y).ws.set i q).map fQ)) (c:Ch (aG (Z Y).s.p) I h'):kw h' H O (kg Z Y ⟨(Z Y).s,(Z Y).ws.set i q⟩):=by
 have d:∀ {p:XC} {l c:Nat} {ts:dt},SL I H 66 2 p l c (ts.map cg)->SL h' H 66 2 p l c (ts.map cg):=fun t=>t.bH c (fun x r f=>uy t (s.sec Y hk).out bJ x r f)
 refine ⟨fun j g=>?_,fun j m g f w y z n=>?_⟩
 ·unfold kg
  by_cases a:j=Y
  ·rw [VE a];refine ⟨B,fun u o=>?_⟩;rcases List.mem_or_eq_of_mem_set o with o | rfl
   ·exact d ((s.sec Y hk).j4 u o)
   ·exact d A
  ·rw [Vu a];exact ⟨(s.sec j g).out.bH c (fun x r f=>s.ap j Y g hk a x r f),fun u o=>d ((s.sec j g).j4 u o)⟩
 ·have C:∀ j,(kg Z Y ⟨(Z Y).s,(Z Y).ws.set i q⟩ j).s=(Z j).s:=by
   intro j;unfold kg
   by_cases a:j=Y
   ·rw [VE a,a]
   ·rw [Vu a]
  rw [C] at z n;exact s.ap j m g f w y z n
def xt (S:Nat->km) (n:Nat):List XB:=[(S (2*n)).s.v,(S (2*n+1)).s.v,nZ.v,nZ.v]
def lQ (S:Nat->km) (n:Nat):List (List XB):=(List.range n).map (xt S)
def Gq (S:Nat->km) (n:Nat) (a b:km):lQ (kg (kg S (2*n) a) (2*n+1) b) (n+1)=lQ S n++[[a.s.v,b.s.v,nZ.v,nZ.v]]:=by
 unfold lQ;rw [List.range_succ,VB]
 congr 1
 ·apply V4;intro i hi;have hi:i<n:=Xd.1 hi;unfold xt kg;rw [Vu ad,Vu ad,Vu ad,Vu ad]
 ·show [xt _ n]=_;unfold xt kg;rw [Vu ad,VE rfl,VE rfl]
def ko (S:Nat->km) (n:Nat):(lQ S n).length=n:=by unfold lQ; simp
def BA (S:Nat->km) (n i:Nat) (hi:i<(lQ S n).length):(lQ S n)[i]=xt S i:=by
 have:i<n:=by simpa [ko] using hi
 show ((List.range n).map (xt S))[i]'(by simpa using this)=_;rw [VD,List.getElem_range]
def rK (D:List (XA × cL)):List ei:=D.map fun q=>⟨q.1,none,0,0,q.2⟩
def jM (e:ei):XA × cL:=(e.name,e.x)
def uP (D:List (XA × cL)):(rK D).map jM=D:=by
 unfold rK;rw [VN];exact List.map_id _
def IV {es:List ei} (h:es.map jM=fs.map jM):aU es=aU fs:=by
 have:=VO (List.map (·.1)) h
 rw [VN,VN] at this;exact this
def Hl {es:List ei} (h:es.map jM=fs.map jM) (s:XA):xP es s=xP fs s:=by
 unfold xP;have a:∀ l:List ei,l.findIdx? (fun e=>decide (e.name=s))=(l.map jM).findIdx? fun q=>decide (q.1=s):=by
  intro l;rw [List.findIdx?_map] <;> rfl
 rw [a,a,h]
def BU {es:List ei} (h:es.map jM=fs.map jM):da es=da fs:=by
 funext s
 unfold da;rw [Hl h]
def BT {es:List ei} (h:es.map jM=fs.map jM):dE es=dE fs:=by
 funext s
 unfold dE;rw [Hl h];cases xP fs s with
 | none=>rfl
 | some k =>
  have a:es[k]?.map (·.x)=fs[k]?.map (·.x):=by
   have h1:(es.map jM)[k]?=(fs.map jM)[k]?:=by rw [h]
   rw [Wa,Wa] at h1;have h2:=VO (Option.map (·.2)) h1;rw [Option.map_map,Option.map_map] at h2;exact h2
  show (es[k]?.map (·.x)).getD tv=(fs[k]?.map (·.x)).getD tv;rw [a]
def OR {es:List ei} (h:es.map jM=fs.map jM):iD es=iD fs:=by
 funext s
 unfold iD;rw [BU h,BT h,IV h]
def Fk {es:List ei} (h:es.map jM=fs.map jM):eZ es=eZ fs:=by
 unfold eZ;rw [BU h,BT h]
def MU (D:List (XA × cL)):List (XA × cL):=D.map fun q=>(q.1,iD (rK D) q.1)
def Ry (D:List (XA × cL)) (x:cL):cL:=fg (dW (rK D)) x
def Mx {es:List ei} (h:es.map jM=fs.map jM):dW es=dW fs:=by
 funext s
 unfold dW;rw [BU h,BT h]
def eF:Nat->List bS->List (Nat × jn)
 | _,[]=>[]
 | n,u::us=>u.aS.map (fun e=>(n,e))++eF (n+1) us
theorem zj (u:bS):∀ (l:List bS) (n:Nat),eF n (l++[u])=eF n l++u.aS.map fun e=>(n+l.length,e)
 | [],n=>by simp [eF]
 | y::l,n=>by
  simp only [List.cons_append,eF,List.length_cons];rw [zj u l (n+1),show n+1+l.length=n+(l.length+1) from ad,VW]
def rZ (w:LW) (us:List bS):List (XA × cL):=(eF 0 us).map fun q=>(w.word (q.1,q.2.1),w.di q.1 q.2.2)
def my (w:LW) (n:Nat) (u:bS):Option XA:=(w.ya n u.text).or ((w.ya n u.data).or (u.aS.findSome? fun e=>w.bad n e.2))
def eS (w:LW):Nat->List bS->Option (Nat × XA)
 | _,[]=>none
 | n,u::us=>match my w n u with
  | some s=>some (n,s)
  | none=>eS w (n+1) us
def oN (w:LW) (us:List bS) (n:Nat) (hn:n<us.length):eS w n (us.drop n)=match my w n us[n] with
  | some s=>some (n,s)
  | none=>eS w (n+1) (us.drop (n+1)):=by
 rw [VU hn,eS]
noncomputable def rR (D:List (XA × cL)):Option Nat:=by
 classical
 exact D.findIdx? fun q=>decide (oM (eZ (rK D)) q.1)
structure Fl where
 Ar:Nat
 unit:Nat
 name:XA
structure LP where
 w:LW
 us:List bS
 D:List (XA × cL)
def LP.ez (P:LP) (n:Nat) (x:cv):cv:={ x with e:=Ry (MU P.D) (P.w.di n x.e) }
noncomputable def jD (us:List bS):Except Fl LP :=
 if us.length=0 then .error ⟨25,0,dA⟩
 else if 64<us.length then .error ⟨4,0,dA⟩
 else match us.findIdx? fun u=>decide (ee u≠0) with
 | some n=>.error ⟨31,n,dA⟩
 | none=>match fZ 0 us (gV 0 us FR) with
  | .error q=>.error ⟨22,q.1,q.2⟩
  | .ok w=>match eS w 0 us with
   | some q=>.error ⟨23,q.1,q.2⟩
   | none=>match rR (rZ w us) with
    | some i=>.error ⟨24,((eF 0 us).map fun q=>(q.1,q.2.1)).getD i (0,dA) |>.1,((eF 0 us).map fun q=>(q.1,q.2.1)).getD i (0,dA) |>.2⟩
    | none=>.ok ⟨w,us,rZ w us⟩
def bU (u:bS):List cL:=u.text.map (·.e)++u.data.map (·.e)++u.aS.map (·.2)
def EX {x:cL} (h:Io x=true):Good x:=by
 unfold Io at h;simp only [Bool.and_eq_true,decide_eq_true_eq] at h;obtain ⟨t,n⟩:=x;obtain ⟨rfl,rfl⟩:=h;exact ⟨⟨List.Pairwise.nil,ah⟩,ah,bJ⟩
def EN {x:cv} (h:bY x H=true) (hc:∀ t,t∈x.e.ai->t.2<4294967296) (hn:x.e.num<4294967296):Good x.e:=by
 have z:z3 x=true->Good x.e:=EX;unfold bY at h
 repeat' split at h
 all_goals try simp only [Bool.and_eq_true] at h
 ·exact z h.1.2
 ·have h1:=h.1.1.2;unfold tV at h1;simp only [Bool.and_eq_true] at h1;have h2:=h1.2;split at h2
  ·simp only [Bool.and_eq_true] at h2;exact CG h2.2 hc hn
  ·simp only [Bool.and_eq_true] at h2;exact EX h2.2
 ·exact z h.2
 ·exact z h.1.2
 ·exact z h.2
 ·exact CG h.1.1.1.2 hc hn
 ·exact z h.2
 ·cases h
theorem qA {sec:Nat}:∀ {l:List cv} {D:List XA},eN sec D l=true->∀ x,x∈l->bY x sec=true
 | [],_,_,x,a=>by simp at a
 | y::l,D,h,x,a=>by
  unfold eN at h;rw [VJ] at h;rcases VK.1 a with rfl | a
  ·have:=h.1
   unfold xy at this;rw [VJ] at this;exact this.1
  ·exact qA h.2 x a
theorem y7:∀ {l:List jn} {D:List XA},fR D l=true->∀ e,e∈l->cn e.1.data.toList=true/\lB none e.2.ai=true
 | [],_,_,x,a=>by simp at a
 | y::l,D,h,x,a=>by
  unfold fR at h;rw [VJ] at h;rcases VK.1 a with rfl | a
  ·have:=h.1
   unfold BD at this;simp only [Bool.and_eq_true] at this;exact ⟨this.1.2,this.2⟩
  ·exact y7 h.2 x a
variable {U:bS}
def zO (h:ee U=0) (hc:∀ x,x∈bU U->x.num<4294967296/\∀ t,t∈x.ai->t.2<4294967296):∀ x,x∈bU U->Good x:=by
 have h1:=(wv h).2;unfold xS at h1;simp only [Bool.and_eq_true] at h1;obtain ⟨⟨⟨h1,h2⟩,c⟩,d⟩:=h1;intro x a;have hcx:=hc x a;unfold bU at a;rcases VG.1 a with a | a
 ·rcases VG.1 a with a | a
  ·obtain ⟨y,b,rfl⟩:=Vy.1 a;exact EN (qA h1 y b) hcx.2 hcx.1
  ·obtain ⟨y,b,rfl⟩:=Vy.1 a;exact EN (qA h2 y b) hcx.2 hcx.1
 ·obtain ⟨y,b,rfl⟩:=Vy.1 a;exact CG (y7 c y b).2 hcx.2 hcx.1
structure Fs (us:List bS):Prop where
 many:us.length<=2^20
 items:ob us<=2^20
 num:∀ u,u∈us->∀ x,x∈bU u->x.num<4294967296/\∀ t,t∈x.ai->t.2<4294967296
 ai:((us.flatMap bU).flatMap (·.ai)).length<=2^20
variable {a:cL}
def Fs.len {us:List bS} (s:Fs us) (b:U∈us) (c:a∈bU U):a.ai.length<=2^20:=by
 have h1:a∈us.flatMap bU:=List.mem_flatMap.2 ⟨U,b,c⟩;exact Wi (gu (·.ai) h1) s.ai
noncomputable def tY (es:List ei):Option Nat:=by
 classical
 exact es.findIdx? fun e=>decide (oM (eZ es) e.name)
theorem qe (s:XA):∀ l:dt,fe (fun r=>if r=s then 1 else 0) l=cf l s
 | []=>rfl
 | p::l=>by
  rw [dq,kb,qe s l]
  congr 1
  split <;> simp
theorem nG:∀ l:dt,fe (fun _=>0) l=0
 | []=>rfl
 | p::l=>by rw [dq,nG l]; simp
def Oj {y:cL} (i:Nf a.ai) (j:Nf y.ai) (nx:a.num<4294967296) (k:y.num<4294967296) (h:∀ f,mw f a=mw f y):a=y:=by
 have h0:=h fun _=>0
 unfold mw at h0;rw [nG,nG] at h0;have hn:a.num=y.num:=ad
 have g:a.ai=y.ai:=i.Rk j fun s=>by
  have h1:=h fun r=>if r=s then 1 else 0
  unfold mw at h1;rw [qe,qe] at h1;omega
 obtain ⟨e,b⟩:=a;obtain ⟨c,d⟩:=y;simp only at hn g;rw [hn,g]
def O9 (of:XA->Option cL) (f:XA->Nat) (s:XA):Nat:=match of s with
 | none=>f s
 | some y=>mw f y
def rE (of:XA->Option cL) (f:XA->Nat) (x:cL):mw f (fg of x)=mw (O9 of f) x:=Kt (fun s=>by unfold O9; rfl) x
theorem zr {f g:XA->Nat}:∀ {l:dt},(∀ t,t∈l->f t.1=g t.1)->fe f l=fe g l
 | [],_=>rfl
 | p::l,h=>by rw [dq,dq,h p ah,zr fun t a=>h t (Vz _ a)]
def FF {f g:XA->Nat} {x:cL} (h:∀ t,t∈x.ai->f t.1=g t.1):mw f x=mw g x:=by
 unfold mw;rw [zr h]
section
variable {own:XA->Bool} {di:XA->cL}
end
def Gt (K:Ky->Prop) (a b:Ky->XA) (x y:cL):Prop:=∀ f g:XA->Nat,(∀ k,K k->f (a k)=g (b k))->mw f x=mw g y
def Gt.symm {K:Ky->Prop} {a b:Ky->XA} {x y:cL} (h:Gt K a b x y):Gt K b a y x:=fun f g c=>(h g f fun k hk=>(c k hk).symm).symm
structure Ag {δ:Type} (Q:List δ) (ky:δ->Ky) (K:Ky->Prop) (a b:Ky->XA) (xa xb:δ->cL):Prop where
 nd:(Q.map ky).Nodup
 NA:∀ q,q∈Q->K (ky q)
 ia:∀ k k',K k->K k'->a k=a k'->k=k'
 ib:∀ k k',K k->K k'->b k=b k'->k=k'
 Iv:∀ k,K k->k∉Q.map ky->a k=b k
 rel:∀ q,q∈Q->Gt K a b (xa q) (xb q)
 fa:∀ q,q∈Q->Nf (xa q).ai
 fb:∀ q,q∈Q->Nf (xb q).ai
def Ag.symm {δ:Type} {Q:List δ} {ky:δ->Ky} {K:Ky->Prop} {a b:Ky->XA} {xa xb:δ->cL} (t:Ag Q ky K a b xa xb):Ag Q ky K b a xb xa :=
 ⟨t.nd,t.NA,t.ib,t.ia,fun k hk hn=>(t.Iv k hk hn).symm,fun q c=>(t.rel q c).symm,t.fb,t.fa⟩
def wD {δ:Type} (Q:List δ) (ky:δ->Ky) (a:Ky->XA) (xa:δ->cL):List (XA × cL):=Q.map fun q=>(a (ky q),xa q)
def Ez (D:List (XA × cL)):Sx.aU (rK D)=D.map (·.1):=by
 have:=VO (List.map (·.1)) (uP D)
 rw [VN] at this;exact this
variable {b:XA}
def HP {D:List (XA × cL)} :da (rK D) b=true↔b∈D.map (·.1):=by rw [eP,Ez]
theorem P4:∀ {l:dt} {t:XA × Nat},Nf l->t∈l->cf l t.1=t.2
 | [],t,_,h=>by simp at h
 | p::l,t,n,h=>by
  rcases VK.1 h with h | h
  ·subst h;exact n.ma
  ·rw [kb,Vu (jP (n.head t h)),V9];exact P4 n.tail h
def LF {l:dt} (n:Nf l) :b∈l.map (·.1)↔cf l b % 4294967296≠0:=by
 constructor
 ·intro h;obtain ⟨t,a,rfl⟩:=Vy.1 h;rw [P4 n a]
  have:=n.2 t a
  omega
 ·intro h;apply W6;intro k;exact h (by rw [yk fun p c e=>k (Vy.2 ⟨p,c,e⟩)])
section
variable {δ:Type} {Q:List δ} {ky:δ->Ky} {K:Ky->Prop} {a b:Ky->XA} {xa xb:δ->cL}
def zi:(wD Q ky a xa).map (·.1)=(Q.map ky).map a:=by
 unfold wD;rw [VN,VN] <;> rfl
def Ag.Vg (t:Ag Q ky K a b xa xb):((wD Q ky a xa).map (·.1)).Nodup:=by
 rw [zi];have h:=t.nd;rw [Wu] at h ⊢;rw [Wl];refine W9 ?_ h;intro k k' hk c d e;obtain ⟨q,f,rfl⟩:=Vy.1 hk;obtain ⟨r,g,rfl⟩:=Vy.1 c;exact d (t.ia _ _ (t.NA q f) (t.NA r g) e)
def Ag.own (t:Ag Q ky K a b xa xb) {k:Ky} (hk:K k):da (rK (wD Q ky a xa)) (a k)=true↔k∈Q.map ky:=by
 rw [HP,zi,Vy];constructor
 ·rintro ⟨k',c,e⟩;obtain ⟨q,d,rfl⟩:=Vy.1 c;rw [<- t.ia _ _ (t.NA q d) hk e];exact c
 ·intro h;exact ⟨k,h,rfl⟩
def Ag.di (t:Ag Q ky K a b xa xb) {q:δ} (c:q∈Q):dE (rK (wD Q ky a xa)) (a (ky q))=xa q:=by
 have h2:(⟨a (ky q),none,0,0,xa q⟩:ei)∈rK (wD Q ky a xa):=Vy.2 ⟨(a (ky q),xa q),Vy.2 ⟨q,c,rfl⟩,rfl⟩;exact Ic (by rw [Ez]; exact t.Vg) h2
def Gt.cf {x y:cL} (h:Gt K a b x y) {k:Ky} (d:∀ k',K k'->a k'=a k->k'=k) (f:∀ k',K k'->b k'=b k->k'=k):cf x.ai (a k) % 4294967296=cf y.ai (b k) % 4294967296:=by
 have h0:=h (fun _=>0) (fun _=>0) fun _ _=>rfl
 have h1:=h (fun r=>if r=a k then 1 else 0) (fun r=>if r=b k then 1 else 0) fun k' c=>by
  by_cases e:k'=k
  ·subst e
   simp
  ·rw [Vu fun x=>e (d k' c x),Vu fun x=>e (f k' c x)]
 unfold mw at h0 h1;rw [nG,nG] at h0;rw [qe,qe] at h1;omega
def Ag.S0 (t:Ag Q ky K a b xa xb) {q r:δ} (d:q∈Q) (f:r∈Q) (h:eZ (rK (wD Q ky a xa)) (a (ky q)) (a (ky r))):eZ (rK (wD Q ky b xb)) (b (ky q)) (b (ky r)):=by
 obtain ⟨h1,h2⟩:=h;refine ⟨?_,(t.symm.own (t.NA r f)).2 (VM f)⟩;unfold cK at h1 ⊢;rw [t.di d,LF (t.fa q d)] at h1;rw [t.symm.di d,LF (t.fb q d)];rw [(t.rel q d).cf (fun k' c e=>t.ia _ _ c (t.NA r f) e) (fun k' c e=>t.ib _ _ c (t.NA r f) e)] at h1;exact h1
def Ag.UN (t:Ag Q ky K a b xa xb) {s u:XA} (h:eZ (rK (wD Q ky a xa)) s u):∃ r,r∈Q/\u=a (ky r):=by
 have h2:=h.2;rw [HP,zi] at h2;obtain ⟨k,hk,rfl⟩:=Vy.1 h2;obtain ⟨r,c,rfl⟩:=Vy.1 hk;exact ⟨r,c,rfl⟩
def Ag.Vi (t:Ag Q ky K a b xa xb) {u v:XA} (h:rY (eZ (rK (wD Q ky a xa))) u v):∀ q r,q∈Q->r∈Q->u=a (ky q)->v=a (ky r)->rY (eZ (rK (wD Q ky b xb))) (b (ky q)) (b (ky r)):=by
 induction h with
 | refl u =>
  intro q r c d f g;rw [t.ia _ _ (t.NA q c) (t.NA r d) (f.symm.trans g)];exact .refl _
 | head e _ j =>
  intro q r c d f g;subst f;obtain ⟨m,i,rfl⟩:=t.UN e;exact .head (t.S0 c i e) (j m r i d rfl g)
def Ag.Tj (t:Ag Q ky K a b xa xb) {q:δ} (c:q∈Q) (h:oM (eZ (rK (wD Q ky a xa))) (a (ky q))):oM (eZ (rK (wD Q ky b xb))) (b (ky q)):=by
 obtain ⟨y,h1,h2⟩:=h;obtain ⟨m,d,rfl⟩:=t.UN h1;exact ⟨_,t.S0 c d h1,t.Vi h2 m q d c rfl rfl⟩
def Ag.U2 (t:Ag Q ky K a b xa xb) {q:δ} (c:q∈Q):oM (eZ (rK (wD Q ky a xa))) (a (ky q))↔oM (eZ (rK (wD Q ky b xb))) (b (ky q)):=⟨t.Tj c,t.symm.Tj c⟩
def Ag.T6 (t:Ag Q ky K a b xa xb):rR (wD Q ky a xa)=tY (rK (wD Q ky b xb)):=by
 classical
 unfold rR tY;have h2:∀ D:List (XA × cL),∀ P:XA->Bool,(rK D).findIdx? (fun e=>P e.name)=D.findIdx? fun y=>P y.1:=by
  intro D P;unfold rK;rw [List.findIdx?_map] <;> rfl
 have h3:=h2 (wD Q ky b xb) (fun s=>decide (oM (eZ (rK (wD Q ky b xb))) s));rw [h3];have c:∀ l:List δ,(∀ q,q∈l->q∈Q)->(l.map fun q=>(a (ky q),xa q)).findIdx? (fun y=>decide (oM (eZ (rK (wD Q ky a xa))) y.1))=(l.map fun q=>(b (ky q),xb q)).findIdx? (fun y=>decide (oM (eZ (rK (wD Q ky b xb))) y.1)):=by
  intro l
  induction l with
  | nil=>intro _; rfl
  | cons q l d =>
   intro hl;rw [VY,VY,List.findIdx?_cons,List.findIdx?_cons,d fun r f=>hl r (Vz _ f)];have g:decide (oM (eZ (rK (wD Q ky a xa))) (a (ky q)))=decide (oM (eZ (rK (wD Q ky b xb))) (b (ky q))):=Xs.2 (t.U2 (hl q (WH ..)));simp only [g]
 exact c Q fun q h=>h
end
def pv (us:List bS) (n:Nat) (s:XA):Option Nat :=
 if (us[n]?.map fun u=>fH (cd u) s)=some true then some n else us.findIdx? fun u=>fH u.aJ s
def wX (n sec:Nat):Nat->List cv->List Lb
 | _,[]=>[]
 | i,x::l=>(if x.kind=1 then [⟨n,sec,i,x.name⟩] else [])++wX n sec (i+1) l
def GD (n:Nat) (u:bS):List Lb:=wX n 0 0 u.text++wX n 1 0 u.data
def df:Nat->List bS->List Lb
 | _,[]=>[]
 | n,u::us=>GD n u++df (n+1) us
def wR (x:Lb):Ky:=(x.u,x.n)
def iY (q:Nat × jn):Ky:=(q.1,q.2.1)
def kf (l:List Ky) (k:Ky):Option Nat:=l.findIdx? fun x=>decide (x=k)
variable {V:Ky}
def nw {l:List Ky} :kf l V=none↔V∉l:=by
 unfold kf;rw [Wv];constructor
 ·intro h hk
  have:=h V hk
  simp at this
 ·intro h x a;exact Vx fun e=>h (e▸a)
def ja {l:List Ky} {k:Ky} (h:kf l k=some H):∃ hi:H<l.length,l[H]=k:=by
 unfold kf at h;rw [Wj] at h;obtain ⟨h1,h2,_⟩:=h;exact ⟨h1,Vv h2⟩
def Af {l:List Ky} (h:V∈l):∃ i,kf l V=some i:=by
 cases hk:kf l V with
 | some i=>exact ⟨i,rfl⟩
 | none=>exact absurd h (nw.1 hk)
def Bp {l:List Ky} (hn:V∉l):kf (l++[V])=xU (kf l) V l.length:=by
 funext k
 unfold xU
 by_cases hk:k=V
 ·subst hk;rw [VE rfl];have h0:=nw.2 hn;unfold kf at h0 ⊢;rw [Xq,h0]
  simp
 ·rw [Vu hk];unfold kf;rw [Xq]
  have:decide (V=k)=false:=Vx fun e=>hk e.symm
  simp [List.findIdx?_cons,this]
structure WI (w:LW) (L:List Lb) (E:List Ky):Prop where
 lb:w.lb=L
 num:w.num=kf (L.map wR)
 pP:w.pP=kf E
 ne:w.ne=E.length
theorem WI.Iv {w:LW} {L:List Lb} {E:List Ky} (a:WI w L E) {n sec:Nat}:∀ (l:List cv) (i:Nat) {w:LW} {L:List Lb} (a:WI w L E) (hn:(dM l).Nodup) (b:∀ s,s∈dM l->(n,s)∉L.map wR),WI (gp n sec i l w) (L++wX n sec i l) E
 | [],i,w,L,a,hn,b=>by simpa [gp,wX] using a
 | x::l,i,w,L,a,hn,b=>by
  rw [rO] at hn b;rw [gp,wX,<- VW]
  by_cases hk:x.kind=1
  ·simp only [hk,if_true,List.singleton_append,List.nodup_cons,List.mem_cons] at hn b;have hx:=b x.name (.inl rfl);refine WI.Iv a l (i+1) ?_ hn.2 (fun s c=>?_)
   ·unfold hY;rw [VE hk,VE hk];refine ⟨by show w.lb++_=_; rw [a.lb],?_,a.pP,a.ne⟩;show xU w.num (n,x.name) w.lb.length=_;rw [VB,List.map_singleton];show _=kf (L.map wR++[(n,x.name)]);rw [Bp hx,a.num,a.lb,Vr]
   ·rw [VE hk,VB,VG];rintro (h | h)
    ·exact b s (.inr c) h
    ·have:(n,s)=(n,x.name):=by simpa [wR] using h
     have:s=x.name:=(Xg this).2
     exact hn.1 (this▸c)
  ·simp only [hk,if_false,List.nil_append] at hn b;rw [Vu hk,Wr];refine WI.Iv a l (i+1) ?_ hn b;unfold hY;rw [Vu hk];exact a
theorem WI.eqs {L:List Lb} {n:Nat}:∀ (l:List jn) {w:LW} {E:List Ky} (a:WI w L E) (hn:(l.map (·.1)).Nodup) (b:∀ s,s∈l.map (·.1)->(n,s)∉E),WI (l.foldl (r7 n) w) L (E++l.map fun e=>(n,e.1))
 | [],w,E,a,hn,b=>by simpa using a
 | x::l,w,E,a,hn,b=>by
  simp only [List.map_cons,List.nodup_cons,List.mem_cons] at hn b;have hx:=b x.1 (.inl rfl);rw [V2,VY,show E++(n,x.1)::l.map (fun e=>(n,e.1))=(E++[(n,x.1)])++l.map fun e=>(n,e.1) from ah];refine WI.eqs l ?_ hn.2 (fun s c=>?_)
  ·refine ⟨a.lb,a.num,?_,?_⟩
   ·show xU w.pP (n,x.1) w.ne=_;rw [Bp hx,a.pP,a.ne]
   ·show (if (w.pP (n,x.1)).isSome then w.ne else w.ne+1)=_;rw [a.pP,nw.2 hx,Vs,a.ne] <;> rfl
  ·rw [VG];rintro (h | h)
   ·exact b s (.inr c) h
   ·have:(n,s)=(n,x.1):=by simpa using h
    have:s=x.1:=(Xg this).2
    exact hn.1 (this▸c)
theorem ml (n sec:Nat):∀ (l:List cv) (i:Nat),(wX n sec i l).map wR=(dM l).map fun s=>(n,s)
 | [],i=>rfl
 | x::l,i=>by
  rw [wX,rO,VB,VB,ml n sec l (i+1)]
  by_cases hk:x.kind=1 <;> simp [hk,wR]
variable {c:LW}
def WI.U8 {L:List Lb} {E:List Ky} (a:WI c L E) (hn:(cd U).Nodup) (h1:∀ k,k∈L.map wR->k.1<H) (h2:∀ k,k∈E->k.1<H):WI (CF H U c) (L++GD H U) (E++U.aS.map fun e=>(H,e.1)):=by
 unfold cd at hn;rw [Wm,Wm] at hn;obtain ⟨⟨d,f,g⟩,i,m⟩:=hn;unfold CF GD;rw [<- VW];refine WI.eqs _ (WI.Iv a _ _ (WI.Iv a _ _ a d (fun s b h=>by have:=h1 _ h; simp at this)) f (fun s b h=>?_)) i (fun s b h=>by have:=h2 _ h; simp at this);rw [VB,VG] at h;rcases h with h | h
 ·have:=h1 _ h; simp at this
 ·rw [ml] at h;obtain ⟨t,j,l⟩:=Vy.1 h
  have:t=s:=(Xg l).2
  exact g t j s b this
theorem WI.wU:∀ (us:List bS) (n:Nat) {w:LW} {L:List Lb} {E:List Ky} (a:WI w L E) (hn:∀ u,u∈us->(cd u).Nodup) (h1:∀ k,k∈L.map wR->k.1<n) (h2:∀ k,k∈E->k.1<n),WI (gV n us w) (L++df n us) (E++(eF n us).map iY)
 | [],n,w,L,E,a,hn,h1,h2=>by simpa [gV,df,eF] using a
 | u::us,n,w,L,E,a,hn,h1,h2=>by
  rw [gV,df,eF,VB,<- VW,<- VW];have b:(u.aS.map fun e=>(n,e)).map iY=u.aS.map fun e=>(n,e.1):=by rw [VN]; rfl
  rw [b];refine WI.wU us (n+1) (WI.U8 a (hn u ah) h1 h2) (fun v hv=>hn v (by simp [hv])) (fun k hk=>?_) (fun k hk=>?_)
  ·rw [VB,VG] at hk;rcases hk with hk | hk
   ·have:=h1 _ hk; omega
   ·unfold GD at hk;rw [VB,ml,ml,<- VB] at hk;obtain ⟨s,_,rfl⟩:=Vy.1 hk;show n<n+1;omega
  ·rcases VG.1 hk with hk | hk
   ·have:=h2 _ hk; omega
   ·obtain ⟨s,_,rfl⟩:=Vy.1 hk;show n<n+1;omega
def wj (h:ee U=0):(cd U).Nodup:=by
 have h1:=(wv h).2;rw [nJ] at h1;unfold qG at h1;simp only [Bool.and_eq_true,decide_eq_true_eq] at h1;exact h1.2.2.2.1
def K8 {us:List bS} (a:∀ u,u∈us->ee u=0):WI (gV 0 us FR) (df 0 us) ((eF 0 us).map iY):=by
 have:=WI.wU us 0 (w:=FR) (L:=[]) (E:=[]) ⟨rfl,rfl,rfl,rfl⟩ (fun u b=>wj (a u b)) ah ah
 simpa using this
def K1 {n:Nat} {u:bS} {w:LW}:(Eo n u w).lb=w.lb/\(Eo n u w).num=w.num/\(Eo n u w).pP=w.pP/\(Eo n u w).ne=w.ne:=by
 have h:=MI n u.aJ w;exact ⟨h.1,h.2.1,h.2.2.2.1,h.2.2.2.2⟩
theorem AP:∀ (us:List bS) (n:Nat) (w w':LW),fZ n us w=.ok w'->w'.lb=w.lb/\w'.num=w.num/\w'.pP=w.pP/\w'.ne=w.ne
 | [],n,w,w',h=>by
  unfold fZ at h;cases h;exact ⟨rfl,rfl,rfl,rfl⟩
 | u::us,n,w,w',h=>by
  rw [fZ] at h;split at h
  ·cases h
  ·have h1:=AP us (n+1) _ w' h;have h2:=K1 (n:=n) (u:=u) (w:=w);exact ⟨h1.1.trans h2.1,h1.2.1.trans h2.2.1,h1.2.2.1.trans h2.2.2.1,h1.2.2.2.trans h2.2.2.2⟩
def WI.meet {us:List bS} {w':LW} {L:List Lb} {E:List Ky} (a:WI c L E) (h:fZ H us c=.ok w'):WI w' L E:=by
 have:=AP us H c w' h
 exact ⟨this.1.trans a.lb,this.2.1.trans a.num,this.2.2.1.trans a.pP,this.2.2.2.trans a.ne⟩
def WI.IQ {w:LW} {L:List Lb} {E:List Ky} (a:WI w L E) (h1:L.length<=2^50) (h2:E.length<=2^50):ND w:=by
 refine ⟨fun k i h=>?_,fun k i h=>?_⟩
 ·rw [a.num] at h;obtain ⟨hi,_⟩:=ja h;rw [Vr] at hi;omega
 ·rw [a.pP] at h;obtain ⟨hi,_⟩:=ja h;omega
end Go.Sx.Lk
