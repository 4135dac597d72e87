/- Contracts over heaps, and plain laws, for the functions that the laws of chapter 9 call, part 3: equ.turning over heaps: its map has just the marks of the plain walk. equ.turnin Condition: as each statement says. -/
import Derived.Test.YtlpcncdglfjnoaaGreatDoorP2
import Derived.Test.YtlpcncdglfjnoaaGreatDoorSxK
import Derived.Test.YtlpcncdglfjnoaaGreatDoorBtK
set_option linter.all false
set_option maxRecDepth 100000
set_option maxHeartbeats 4000000
namespace Go.Sx
open Go.Proofs
theorem add_zero' (a:ZC):a.add 0=a:=by unfold Addr.add; rw [W2 rfl]
theorem UR (a b:ZA):(ByteArray.toList a==ByteArray.toList b)=decide (a=b):=by
 rw [ByteArray.toList_eq,ByteArray.toList_eq]
 by_cases h:a=b
 ·subst h; simp
 ·rw [W4 h];exact beq_eq_false_iff_ne.2 fun e=>h (xE e)
theorem SL.take {h:Hp} {b:Nat} {e:TypeId} {sz:Nat} {p:Option ZC} {l c:Nat} {xs:List (List ZB)} (s:SL h b e sz p l c xs) {k:Nat} (hk:k<=l):SL h b e sz p k c (xs.take k):=by
 refine ⟨by rw [Xe,<- s.1]; omega,fun x hx=>s.2.1 x (XY hx),?_⟩;cases p with
 | none =>
  obtain ⟨h1,h2⟩:=s.2.2;subst h2;exact ⟨h1,aj⟩
 | some a =>
  obtain ⟨g,pre,rest,rfl,hbg,hlc,hbox,hr⟩:=s.2.2;have hsplit:xs.flatten=(xs.take k).flatten++(xs.drop k).flatten:=by rw [<- List.flatten_append,Xw]
  refine ⟨g,pre,(xs.drop k).flatten++rest,rfl,hbg,ad,?_,?_⟩
  ·rw [hsplit] at hbox;simpa [List.append_assoc] using hbox
  ·rw [WU,eR _ (fun x hx=>s.2.1 x (List.mem_of_mem_drop hx)),XQ,hr,<- s.1,<- XX]
   congr 1; omega
abbrev Vr (x:ZA):List ZB:=[.string x]
theorem Vk:Tryz.prog.underlying 28=some (.slice 9):=ax
theorem Uu:(Tryz.prog.info? 9).map (fun i=>(i.zero,i.size,i.bytes))=some (some (.string ⟨#[]⟩),1,16):=ax
theorem Np {h:Hp} {b:Nat} {p:Option ZC} {l c:Nat} {xs:List ZA} (s:SL h b 9 1 p l c (xs.map Vr)) (v:ZA) (hv:v∈xs) (hl:l<=2^40) :
  vM Tryz.prog 107 [.slice p l c,.string v] h (.int .i64 ((xs.findIdx fun x=>decide (v=x):Nat):Int)):=by
 refine ee mixed Tryz.func107 ax (gI p l c v) ?_;unfold ez aZ bg bq aK aM;have hll:l=xs.length:=by rw [s.1,WQ]
 refine aR (cs:=[(false,[.int .i64]),(false,[.int .i64])]) (fun x w h'=>h'=h/\∃ i:Nat,x.2.1=(i:Int)/\i<=xs.length/\w=xs.length-i/\∀ j,j<i->∀ hj:j<xs.length,v≠xs[j]) ((0:Int),(0:Int),()) xs.length rfl ⟨rfl,0,rfl,ad,ad,fun j hj=>ad⟩ ?_;rintro ⟨n2,n3,⟨⟩⟩ w h2 ⟨rfl,i,hi,hile,rfl,hno⟩;simp only at hi;subst hi;refine an ?_;refine ak (fun g1=>?_) (fun g1=>?_)
 ·have g1:=WR g1;have hilt:i<xs.length:=ad
  refine ay ⟨ad,ad⟩ ?_;obtain ⟨a,rfl,hc⟩:=s.cells (i:=i) (by simpa using hilt);rw [WY] at hc;refine av rfl ?_;rw [show Int.toNat (i:Int)=i from ad];refine az (xs[i],()) hc ?_;refine an ?_;rw [UR];refine ak (fun g2=>?_) (fun g2=>?_)
  ·have g2:=WR g2
   have:xs.findIdx (fun x=>decide (v=x))=i:=by
    rw [List.findIdx_eq hilt];exact ⟨by simpa using g2,fun j hj=>by simpa using hno j hj ad⟩
   exact ⟨by rw [this],rfl⟩
  ·have g2:=WS g2;have hw:IntKind.wrap .i64 ((i:Int)+1)=((i+1:Nat):Int):=by rw [wrap_i64 ad ad]; omega
   refine aF (cs:=[(false,[.int .i64]),(false,[.int .i64])]) (n2,((i+1:Nat):Int),()) (xs.length-(i+1)) rfl ad (by rw [hw]; rfl) ⟨rfl,i+1,rfl,ad,rfl,fun j hj hjl=>?_⟩
   by_cases e:j=i
   ·subst e; exact g2
   ·exact hno j ad hjl
 ·have g1:=WS g1;have hi:i=xs.length:=ad
  subst hi;obtain ⟨j,hj,e⟩:=Xg hv;exact (hno j hj hj e.symm).elim
def cY (es:List cE) (s:ZA):bX:=(((jO es s).bind fun k=>es[k]?).map (·.x)).getD tg
def cm (es:List cE) (s:ZA):Bool:=(jO es s).isSome
def aS (es:List cE):List ZA:=es.map (·.name)
theorem dV (es:List cE) (s:ZA):cm es s=true↔s∈aS es:=by
 unfold cm jO aS;rw [List.findIdx?_isSome,YB]
 simp
theorem nO {es:List cE} {s:ZA} {k:Nat} (h:jO es s=some k):∃ hk:k<es.length,es[k].name=s/\cY es s=es[k].x:=by
 have h':=h;unfold jO at h';rw [Xd] at h';obtain ⟨hk,h1,h2⟩:=h';refine ⟨hk,WR h1,?_⟩;unfold cY;rw [h,XR,WT hk] <;> rfl
theorem Cv {es:List cE} {s:ZA} (h:s∈aS es):∃ k,jO es s=some k:=by
 have:=(dV es s).2 h
 unfold cm at this;exact XJ.1 this
structure TF where
 E:Nat
 gA:Nat
 A:Nat
 gB:Nat
 B:Nat
 gN:Nat
 gL:Nat
 N:Nat
 L:Nat
 W:Nat
 gO:Nat
 O:Nat
 V:Nat
def TF.ord (r:TF):Prop:=r.E<r.gA/\r.gA<r.A/\r.A<r.gB/\r.gB<r.B/\r.B<r.gN/\r.gN<r.gL/\r.gL<r.N/\r.N<r.L/\r.L<r.W/\r.W<r.gO/\r.gO<r.O/\r.O<r.V
abbrev bx (g:Nat):ZC:=⟨g,0,none⟩
def TF.tK (r:TF):List ZB:=[.pointer (some (bx r.N)),.pointer (some (bx r.L)),.pointer (some (bx r.W)),.pointer (some (bx r.O)),.pointer (some (bx r.E)),.pointer (some (bx r.A)),.pointer (some (bx r.B)),.pointer (some (bx r.V))]
structure Ol (r:TF) (h:Hp) (es:List cE) (p0:Option ZC) (l0 c0:Nat):Prop where
 bE:bz h r.E 27 [.slice p0 l0 c0]
 bA:bz h r.A 97 [.map (some r.gA)]
 mA:∃ n,dK eI h r.gA (jO es) n
 bV:bz h r.V 168 [.func (.func 106) #[] r.tK.toArray]
 bN:bz h r.N 97 [.map (some r.gN)]
 bL:bz h r.L 97 [.map (some r.gL)]
 bO:bz h r.O 142 [.map (some r.gO)]
 bB:bz h r.B 142 [.map (some r.gB)]
 vw:tH h p0 l0 es
structure Jw (r:TF) (es:List cE) (p0:Option ZC):Prop where
 ord:r.ord
 l0:∀ i,i∈aJ p0->i<r.E
 li:∀ e,e∈es->e.x.ai≠[]->∀ i,i∈aJ e.p->i<r.E
theorem gn.T0 {ws:List Nat} {h h':Hp} {p:Option ZC} {l:Nat} {us:cU} (v:gn h p l us) (k:Ch ws h h') (hw:us≠[]->∀ i,i∈aJ p->i∉ws):gn h' p l us:=by
 by_cases hn:us=[]
 ·subst hn;exact ⟨v.len,fun i hi=>by simp at hi⟩
 ·exact v.ao k (hw hn)
theorem tH.lS {ws:List Nat} {h h':Hp} {p:Option ZC} {l:Nat} {es:List cE} (v:tH h p l es) (k:Ch ws h h') (hp:∀ i,i∈aJ p->i∉ws) (hi:∀ e,e∈es->e.x.ai≠[]->∀ i,i∈aJ e.p->i∉ws):tH h' p l es :=
 ⟨v.len,fun i hi=>by
  obtain ⟨a,ha,hc⟩:=v.cells i hi;exact ⟨a,ha,aT k (by rw [gV]; exact hp _ (by rw [ha]; simp [aJ])) _ _ hc⟩,fun e he=>(v.fe e he).T0 k (hi e he)⟩
def Vy (r:TF) (p:Option ZC):List Nat:=r.gN::r.gL::r.gO::r.gB::r.W::aJ p
structure mi (r:TF) (h:Hp) (st:TS) (p:Option ZC) (l c:Nat):Prop where
 mN:dK eI h r.gN st.num st.jg
 mL:∃ n,dK eI h r.gL st.low n
 mO:∃ n,dK eB h r.gO st.on n
 mB:∃ n,dK eB h r.gB st.back n
 bW:bz h r.W 28 [.slice p l c]
 w:SL h (r.V+1) 9 1 p l c (st.cS.map Vr)
theorem Ol.lS {r:TF} {h h':Hp} {es:List cE} {p0:Option ZC} {l0 c0:Nat} {ws:List Nat} (m:Ol r h es p0 l0 c0) (lo:Jw r es p0) (k:Ch ws h h') (hw:∀ i,i∈ws->i=r.gN\/i=r.gL\/i=r.gO\/i=r.gB\/i=r.W\/r.V<i):Ol r h' es p0 l0 c0:=by
 have o:=lo.ord;unfold TF.ord at o;have nin:∀ i,i≠r.gN->i≠r.gL->i≠r.gO->i≠r.gB->i≠r.W->i<=r.V->i∉ws:=by
  intro i h1 h2 h3 h4 h5 h6 hi
  have:=hw i hi
  omega
 obtain ⟨n,mA⟩:=m.mA;exact ⟨m.bE.ao k (nin _ ad ad ad ad ad ad),m.bA.ao k (nin _ ad ad ad ad ad ad),⟨n,mA.ao k (nin _ ad ad ad ad ad ad)⟩,
  m.bV.ao k (nin _ ad ad ad ad ad ad),m.bN.ao k (nin _ ad ad ad ad ad ad),m.bL.ao k (nin _ ad ad ad ad ad ad),
  m.bO.ao k (nin _ ad ad ad ad ad ad),m.bB.ao k (nin _ ad ad ad ad ad ad),
  m.vw.lS k (fun i hi=>nin _ (by have:=lo.l0 i hi; omega) (by have:=lo.l0 i hi; omega) (by have:=lo.l0 i hi; omega) (by have:=lo.l0 i hi; omega) (by have:=lo.l0 i hi; omega) (by have:=lo.l0 i hi; omega))
   (fun e he hne i hi=>nin _ (by have:=lo.li e he hne i hi; omega) (by have:=lo.li e he hne i hi; omega) (by have:=lo.li e he hne i hi; omega) (by have:=lo.li e he hne i hi; omega) (by have:=lo.li e he hne i hi; omega) (by have:=lo.li e he hne i hi; omega))⟩
theorem mi.ao {r:TF} {h h':Hp} {st:TS} {p:Option ZC} {l c:Nat} (m:mi r h st p l c) (k:Ext h h'):mi r h' st p l c:=by
 obtain ⟨n1,mL⟩:=m.mL;obtain ⟨n2,mO⟩:=m.mO;obtain ⟨n3,mB⟩:=m.mB;exact ⟨m.mN.ao k aj,⟨n1,mL.ao k aj⟩,⟨n2,mO.ao k aj⟩,⟨n3,mB.ao k aj⟩,m.bW.ao k aj,m.w.ao k aj⟩
structure pF (r:TF) (p:Option ZC) (h:Hp) (p':Option ZC) (h':Hp):Prop where
 ch:Ch (Vy r p) h h'
 bY:∀ i,i∈aJ p'->i∈aJ p\/h.size<=i
theorem pF.refl (r:TF) (p:Option ZC) (h:Hp):pF r p h p h:=⟨Ch.refl _ _,fun i hi=>.inl hi⟩
theorem pv {r:TF} {p:Option ZC} {i:Nat}:i∈Vy r p↔i=r.gN\/i=r.gL\/i=r.gO\/i=r.gB\/i=r.W\/i∈aJ p:=by
 unfold Vy; simp
theorem pF.trans {r:TF} {p q s:Option ZC} {a b c:Hp} (x:pF r p a q b) (y:pF r q b s c):pF r p a s c:=by
 have hz:=x.ch.size;refine ⟨Ch.trans x.ch y.ch fun i hi hl=>?_,fun i hi=>?_⟩
 ·rw [pv] at hi ⊢;rcases hi with h | h | h | h | h | h
  ·exact .inl h
  ·exact .inr (.inl h)
  ·exact .inr (.inr (.inl h))
  ·exact .inr (.inr (.inr (.inl h)))
  ·exact .inr (.inr (.inr (.inr (.inl h))))
  ·rcases x.bY i h with h | h
   ·exact .inr (.inr (.inr (.inr (.inr h))))
   ·omega
 ·rcases y.bY i hi with h | h
  ·exact x.bY i h
  ·exact .inr ad
theorem pF.ext {r:TF} {p:Option ZC} {h h':Hp} (k:Ext h h'):pF r p h p h':=⟨k.mono aj,fun i hi=>.inl hi⟩
theorem pF.of {r:TF} {p:Option ZC} {h h':Hp} {g:Nat} (k:Ch [g] h h') (hg:g=r.gN\/g=r.gL\/g=r.gO\/g=r.gB\/g=r.W):pF r p h p h' :=
 ⟨k.mono fun i hi hl=>by simp at hi; subst hi; rw [pv]; rcases hg with h | h | h | h | h <;> simp [h],fun i hi=>.inl hi⟩
theorem pF.co {r:TF} {p p':Option ZC} {l c:Nat} {h h':Hp} {st:TS} {es:List cE} {p0:Option ZC} {l0 c0:Nat} (x:pF r p h p' h') (lo:Jw r es p0) (m:mi r h st p l c) (co:Ol r h es p0 l0 c0):Ol r h' es p0 l0 c0:=by
 refine co.lS lo x.ch fun i hi=>?_
 rw [pv] at hi;rcases hi with h | h | h | h | h | h
 ·exact .inl h
 ·exact .inr (.inl h)
 ·exact .inr (.inr (.inl h))
 ·exact .inr (.inr (.inr (.inl h)))
 ·exact .inr (.inr (.inr (.inr (.inl h))))
 ·exact .inr (.inr (.inr (.inr (.inr (by have:=(m.w.bY h).1; omega)))))
theorem pF.box {r:TF} {p p':Option ZC} {l c:Nat} {h h':Hp} {st:TS} {g:Nat} {e:TypeId} {xs:List ZB} (x:pF r p h p' h') (o:r.ord) (hg:r.V<g) (hp:g∉aJ p) (b:bz h g e xs):bz h' g e xs:=by
 unfold TF.ord at o;refine b.ao x.ch fun hi=>?_
 rw [pv] at hi;rcases hi with h | h | h | h | h | h <;> first | omega | exact hp h
section
variable {L:Lp} {K:ZB->Hp->Prop} {h:Hp} {r:TF} {st:TS} {p:Option ZC} {l c:Nat}
theorem mi.K9 (m:mi r h st p l c) {i:Nat} (hi:i∈aJ p):r.V<i:=by have:=(m.w.bY hi).1; omega
theorem mi.uH (m:mi r h st p l c) (o:r.ord) {s:ZA} (hs:s.size<=maxLen) {v:Int} {w:Nat} (hv:v=(w:Int)) {k:T} (hk:∀ h',mi r h' { st with num:=dy st.num s w,jg:=if (st.num s).isSome then st.jg else st.jg+1 } p l c->pF r p h p h'->h'.size=h.size->k L K h') :
  T.ec Tryz.prog (Instr.mapUpdate 97 (.map (some r.gN)) (.string s) (.int .i64 v)) k L K h:=by
 unfold TF.ord at o;obtain ⟨n1,mL⟩:=m.mL;obtain ⟨n2,mO⟩:=m.mO;obtain ⟨n3,mB⟩:=m.mB;refine qO m.mN hs hv ?_;intro h' m' c' z';exact hk h' ⟨m',⟨n1,mL.ao c' (by simp; omega)⟩,⟨n2,mO.ao c' (by simp; omega)⟩,⟨n3,mB.ao c' (by simp; omega)⟩,m.bW.ao c' (by simp; omega),m.w.bF c' (fun i hi=>by have:=m.K9 hi; simp; omega)⟩ (pF.of c' (.inl rfl)) z'
theorem mi.rZ (m:mi r h st p l c) (o:r.ord) {s:ZA} (hs:s.size<=maxLen) {v:Int} {w:Nat} (hv:v=(w:Int)) {k:T} (hk:∀ h',mi r h' { st with low:=dy st.low s w } p l c->pF r p h p h'->h'.size=h.size->k L K h') :
  T.ec Tryz.prog (Instr.mapUpdate 97 (.map (some r.gL)) (.string s) (.int .i64 v)) k L K h:=by
 unfold TF.ord at o;obtain ⟨n1,mL⟩:=m.mL;obtain ⟨n2,mO⟩:=m.mO;obtain ⟨n3,mB⟩:=m.mB;refine qO mL hs hv ?_;intro h' m' c' z';exact hk h' ⟨m.mN.ao c' (by simp; omega),⟨_,m'⟩,⟨n2,mO.ao c' (by simp; omega)⟩,⟨n3,mB.ao c' (by simp; omega)⟩,m.bW.ao c' (by simp; omega),m.w.bF c' (fun i hi=>by have:=m.K9 hi; simp; omega)⟩ (pF.of c' (.inr (.inl rfl))) z'
theorem mi.Ui (m:mi r h st p l c) (o:r.ord) {s:ZA} (hs:s.size<=maxLen) {b:Bool} {k:T} (hk:∀ h',mi r h' { st with on:=dy st.on s b } p l c->pF r p h p h'->h'.size=h.size->k L K h') :
  T.ec Tryz.prog (Instr.mapUpdate 142 (.map (some r.gO)) (.string s) (.bool b)) k L K h:=by
 unfold TF.ord at o;obtain ⟨n1,mL⟩:=m.mL;obtain ⟨n2,mO⟩:=m.mO;obtain ⟨n3,mB⟩:=m.mB;refine Ul mO hs ?_;intro h' m' c' z';exact hk h' ⟨m.mN.ao c' (by simp; omega),⟨n1,mL.ao c' (by simp; omega)⟩,⟨_,m'⟩,⟨n3,mB.ao c' (by simp; omega)⟩,m.bW.ao c' (by simp; omega),m.w.bF c' (fun i hi=>by have:=m.K9 hi; simp; omega)⟩ (pF.of c' (.inr (.inr (.inl rfl)))) z'
theorem mi.SJ (m:mi r h st p l c) (o:r.ord) {s:ZA} (hs:s.size<=maxLen) {b:Bool} {k:T} (hk:∀ h',mi r h' { st with back:=dy st.back s b } p l c->pF r p h p h'->h'.size=h.size->k L K h') :
  T.ec Tryz.prog (Instr.mapUpdate 142 (.map (some r.gB)) (.string s) (.bool b)) k L K h:=by
 unfold TF.ord at o;obtain ⟨n1,mL⟩:=m.mL;obtain ⟨n2,mO⟩:=m.mO;obtain ⟨n3,mB⟩:=m.mB;refine Ul mB hs ?_;intro h' m' c' z';exact hk h' ⟨m.mN.ao c' (by simp; omega),⟨n1,mL.ao c' (by simp; omega)⟩,⟨n2,mO.ao c' (by simp; omega)⟩,⟨_,m'⟩,m.bW.ao c' (by simp; omega),m.w.bF c' (fun i hi=>by have:=m.K9 hi; simp; omega)⟩ (pF.of c' (.inr (.inr (.inr (.inl rfl))))) z'
theorem mi.DN (m:mi r h st p l c) (s:ZA) {k:Int->T} (hk:k (((st.num s).getD 0:Nat):Int) L K h):T.dY Tryz.prog (Instr.lookup 97 (.map (some r.gN)) (.string s) false) false [(false,[.int .i64])] k L K h:=Hj m.mN s hk
theorem mi.zP (m:mi r h st p l c) (s:ZA) {k:Int->T} (hk:k (((st.low s).getD 0:Nat):Int) L K h):T.dY Tryz.prog (Instr.lookup 97 (.map (some r.gL)) (.string s) false) false [(false,[.int .i64])] k L K h:=by
 obtain ⟨n1,mL⟩:=m.mL;exact Hj mL s hk
theorem mi.Uj (m:mi r h st p l c) (s:ZA) {k:Bool->T} (hk:k ((st.on s).getD false) L K h):T.dY Tryz.prog (Instr.lookup 142 (.map (some r.gO)) (.string s) false) false [(false,[.bool])] k L K h:=by
 obtain ⟨n1,mL⟩:=m.mO;exact Mf mL s hk
theorem mi.eu (m:mi r h st p l c) (s:ZA) {k:Bool->T} (hk:k ((st.back s).getD false) L K h):T.dY Tryz.prog (Instr.lookup 142 (.map (some r.gB)) (.string s) false) false [(false,[.bool])] k L K h:=by
 obtain ⟨n1,mL⟩:=m.mB;exact Mf mL s hk
end
def Q6 (aN aL aO aV a30:ZC) (s:ZA) (n26:Int):T :=
 T.ah aN [.map 9 3] <| fun (r36:Option Nat) =>
 T.ah a30 [.string] <| fun (s37:ZA) =>
 bK (Instr.lookup 97 (.map r36) (.string s37) false) false [aM] <| fun (n38:Int) =>
 cond (n38==(0:Int))
  (T.ah aV [.func #[9] #[] false] <| fun (v39:ZB) =>
  T.ah a30 [.string] <| fun (s40:ZA) =>
  T.vA Tryz.prog v39 [.string s40] true [] <| T.ah aL [.map 9 3] <| fun (r41:Option Nat) =>
  T.ah aL [.map 9 3] <| fun (r42:Option Nat) =>
  bK (Instr.lookup 97 (.map r42) (.string s) false) false [aM] <| fun (n43:Int) =>
  T.ah aL [.map 9 3] <| fun (r44:Option Nat) =>
  T.ah a30 [.string] <| fun (s45:ZA) =>
  bK (Instr.lookup 97 (.map r44) (.string s45) false) false [aM] <| fun (n46:Int) =>
  bK (Builtin.min_ #[3,3] 3 #[.int .i64 n43,.int .i64 n46]) false [aM] <| fun (n47:Int) =>
  T.ec Tryz.prog (Instr.mapUpdate 97 (.map r41) (.string s) (.int .i64 n47)) <|
  T.again 0 [.int .i64 (bi (n26+(1:Int)))])
  (T.ah aO [.map 9 4] <| fun (r39:Option Nat) =>
  T.ah a30 [.string] <| fun (s40:ZA) =>
  bK (Instr.lookup 142 (.map r39) (.string s40) false) false [cd] <| fun (b41:Bool) =>
  cond b41
  (T.ah aL [.map 9 3] <| fun (r42:Option Nat) =>
  T.ah aL [.map 9 3] <| fun (r43:Option Nat) =>
  bK (Instr.lookup 97 (.map r43) (.string s) false) false [aM] <| fun (n44:Int) =>
  T.ah aN [.map 9 3] <| fun (r45:Option Nat) =>
  T.ah a30 [.string] <| fun (s46:ZA) =>
  bK (Instr.lookup 97 (.map r45) (.string s46) false) false [aM] <| fun (n47:Int) =>
  bK (Builtin.min_ #[3,3] 3 #[.int .i64 n44,.int .i64 n47]) false [aM] <| fun (n48:Int) =>
  T.ec Tryz.prog (Instr.mapUpdate 97 (.map r42) (.string s) (.int .i64 n48)) <|
  T.again 0 [.int .i64 (bi (n26+(1:Int)))])
  (T.again 0 [.int .i64 (bi (n26+(1:Int)))]))
def oT (names:List ZA) (st:TS):Prop:=∀ s,st.num s≠none->s∈names
def HN (es:List cE) (r:TF) (p0:Option ZC) (l0 c0 f:Nat):Prop :=
 ∀ (v:ZA) (st:TS) (h:Hp) (p:Option ZC) (l c:Nat),mi r h st p l c->Ol r h es p0 l0 c0->dq (aS es) st->v∈aS es->st.num v=none->qj (aS es) st<=f->oT (aS es) st ->
  HC Tryz.prog 106 (.string v::r.tK).toArray h fun w h'=>w=.tuple #[]/\∃ p' l' c',mi r h' (cH (cm es) (cF (cY es)) f v st) p' l' c'/\pF r p h p' h'
theorem UW:ft Tryz.prog 106=true:=ax
section
variable {L:Lp} {K:ZB->Hp->Prop} {h:Hp} {r:TF} {st:TS} {p:Option ZC} {l c:Nat} {es:List cE} {p0:Option ZC} {l0 c0:Nat}
theorem HQ {f:Nat} (hvis:HN es r p0 l0 c0 f) (lo:Jw r es p0) (hs:∀ s,s∈aS es->s.size<=maxLen) (m:mi r h st p l c) (co:Ol r h es p0 l0 c0) (g:dq (aS es) st) (hu:qj (aS es) st<=f) (hi:oT (aS es) st) {v w:ZA} (hv:v∈aS es) (hw:w∈aS es) {a:Nat} {q:Nat} (ha:r.V<a) (hap:a∉aJ p) (b:bz h a 66 [.string w,.int .u32 (q:Int)]) (n26:Int)
  (hk:∀ h' p' l' c',mi r h' (sN (cH (cm es) (cF (cY es)) f) v w st) p' l' c'->pF r p h p' h'->T.again 0 [.int .i64 (IntKind.wrap .i64 (n26+(1:Int)))] L K h') :
  Q6 (bx r.N) (bx r.L) (bx r.O) (bx r.V) (bx a) v n26 L K h:=by
 unfold Q6 bK bi aM cd;refine af co.bN (some r.gN,()) rfl ?_;refine an ?_;refine af b (w,()) rfl ?_;refine an ?_;refine m.DN w ?_;unfold sN at hk;have hsv:=hs v hv;refine ak (fun g1=>?_) (fun g1=>?_)
 ·have g1:(st.num w).getD 0=0:=by have:=WR g1; omega
  rw [W2 g1] at hk;refine af co.bV (.func (.func 106) #[] r.tK.toArray,()) rfl ?_;refine an ?_;refine af b (w,()) rfl ?_;refine an ?_;refine uA (cap:=r.tK) UW rfl (hvis w st h p l c m co g hw (g.none g1) hu hi) ?_;rintro _ h2 ⟨rfl,p2,l2,c2,m2,s2⟩;refine ⟨(),rfl,?_⟩;refine an ?_;have co2:=s2.co lo m co;have b2:=s2.box (st:=st) (l:=l) (c:=c) lo.ord ha hap b;generalize cH (cm es) (cF (cY es)) f w st=st2 at m2 hk;refine af co2.bL (some r.gL,()) rfl ?_;refine an ?_;refine af co2.bL (some r.gL,()) rfl ?_;refine an ?_;refine m2.zP v ?_;refine af co2.bL (some r.gL,()) rfl ?_;refine an ?_;refine af b2 (w,()) rfl ?_;refine an ?_;refine m2.zP w ?_;refine TY ?_;refine m2.rZ lo.ord hsv rfl ?_;intro h3 m3 s3 z3;exact hk h3 p2 l2 c2 m3 (s2.trans s3)
 ·have g1:¬ (st.num w).getD 0=0:=by
   intro e;rw [e] at g1;simp at g1
  rw [WV g1] at hk;refine af co.bO (some r.gO,()) rfl ?_;refine an ?_;refine af b (w,()) rfl ?_;refine an ?_;refine m.Uj w ?_;refine ak (fun g2=>?_) (fun g2=>?_)
  ·rw [W2 g2] at hk;refine af co.bL (some r.gL,()) rfl ?_;refine an ?_;refine af co.bL (some r.gL,()) rfl ?_;refine an ?_;refine m.zP v ?_;refine af co.bN (some r.gN,()) rfl ?_;refine an ?_;refine af b (w,()) rfl ?_;refine an ?_;refine m.DN w ?_;refine TY ?_;refine m.rZ lo.ord hsv rfl ?_;intro h3 m3 s3 z3;exact hk h3 p l c m3 s3
  ·rw [WV (by simp [g2])] at hk;exact hk h p l c m (pF.refl _ _ _)
end
theorem oT.rest {names:List ZA} {kW:ZA->TS->TS} (hvis:∀ w st,oT names st->w∈names->oT names (kW w st)) {v w:ZA} {st:TS} (hi:oT names st) (hw:w∈names):oT names (sN kW v w st):=by
 unfold sN;split
 ·exact hvis w st hi hw
 ·split <;> exact hi
theorem oT.step {names:List ZA} {own:ZA->Bool} (hown:∀ s,own s=true->s∈names) {kW:ZA->TS->TS} (hvis:∀ w st,oT names st->w∈names->oT names (kW w st)) {v w:ZA} {st:TS} (hi:oT names st):oT names (ef own kW v st w):=by
 unfold ef;split
 ·rename_i ho;refine oT.rest hvis ?_ (hown w ho);intro s hs;rw [(gR v w st).1] at hs;exact hi s hs
 ·exact hi
theorem oT.fold {names:List ZA} {own:ZA->Bool} (hown:∀ s,own s=true->s∈names) {kW:ZA->TS->TS} (hvis:∀ w st,oT names st->w∈names->oT names (kW w st)) {v:ZA}:∀ (l:List ZA) (st:TS),oT names st->oT names (l.foldl (ef own kW v) st)
 | [],st,hi=>hi
 | w::l,st,hi=>by
  rw [XI];exact oT.fold hown hvis l _ (oT.step hown hvis hi)
theorem oT.open {names:List ZA} {st:TS} (hi:oT names st) {v:ZA} (hv:v∈names):oT names (ei v st):=by
 intro s hs;have hs:dy st.num v (st.jg+1) s≠none:=hs
 by_cases e:s=v
 ·rw [e]; exact hv
 ·rw [bQ _ _ e] at hs;exact hi s hs
theorem oT.visit {names:List ZA} {own:ZA->Bool} (hown:∀ s,own s=true->s∈names) (succ:ZA->List ZA):∀ (f:Nat) (v:ZA) (st:TS),oT names st->v∈names->oT names (cH own succ f v st)
 | 0,v,st,hi,hv=>hi
 | f+1,v,st,hi,hv=>by
  have h:=oT.fold hown (fun w st hi hw=>oT.visit hown succ f w st hi hw) (v:=v) (succ v) _ (hi.open hv);unfold cH;split
  ·exact h
  ·intro s hs;rw [nk] at hs;exact h s hs
theorem SL.GN {h:Hp} {b:Nat} {e:TypeId} {sz:Nat} {p:Option ZC} {l c:Nat} {xs:List (List ZB)} (s:SL h b e sz p l c xs):l<=c:=by
 cases p with
 | none =>
  obtain ⟨h1,h2⟩:=s.2.2;rw [s.1,h1,h2]; simp
 | some a =>
  obtain ⟨g,pre,rest,rfl,hbg,hlc,hbox,hr⟩:=s.2.2;exact hlc.1
section
variable {L:Lp} {K:ZB->Hp->Prop} {h:Hp} {r:TF} {st:TS} {p:Option ZC} {l c:Nat} {es:List cE} {p0:Option ZC} {l0 c0:Nat}
theorem mi.Vf (m:mi r h st p l c) (o:r.ord) {p':Option ZC} {l' c':Nat} {h1:Hp} {way':List ZA} (k1:Ch (aJ p) h h1) (s1:SL h1 (r.V+1) 9 1 p' l' c' (way'.map Vr)) (hb:∀ i,i∈aJ p'->i∈aJ p\/h.size<=i) {k:T}
  (hk:∀ h',mi r h' { st with cS:=way' } p' l' c'->pF r p h p' h'->k L K h'):T.aC (bx r.W) [.slice p' l' c'] k L K h1:=by
 have o':=o;unfold TF.ord at o;obtain ⟨n1,mL⟩:=m.mL;obtain ⟨n2,mO⟩:=m.mO;obtain ⟨n3,mB⟩:=m.mB;have nb:∀ g,g<=r.V->g∉aJ p:=fun g hg hi=>by have:=m.K9 hi; omega
 refine aw (m.bW.ao k1 (nb _ ad)) rfl aj ?_;intro h2 b2 k2 z2;have b2:bz h2 r.W 28 [.slice p' l' c']:=b2;refine hk h2 ⟨(m.mN.ao k1 (nb _ ad)).ao k2 (by simp; omega),⟨n1,(mL.ao k1 (nb _ ad)).ao k2 (by simp; omega)⟩,⟨n2,(mO.ao k1 (nb _ ad)).ao k2 (by simp; omega)⟩,⟨n3,(mB.ao k1 (nb _ ad)).ao k2 (by simp; omega)⟩,b2,s1.bF k2 (fun i hi=>by have:=(s1.bY hi).1; simp; omega)⟩
  ⟨Ch.trans (k1.mono fun i hi _=>by rw [pv]; simp [hi]) k2 (fun i hi hl=>by simp at hi; rw [pv]; simp [hi]),hb⟩
theorem mi.Ug (m:mi r h st p l c) (o:r.ord) (hV:r.V<h.size) (hl:l<=2^40) {v:ZA} {k:T} (hk:∀ h' p' c',mi r h' { st with cS:=st.cS++[v] } p' (l+1) c'->pF r p h p' h'->k L K h') :
  T.dY Tryz.prog (Instr.buildSlice 28 1 #[(0,.string v)]) false [(false,[.slice 0])] (fun q m' cc=>T.dY Tryz.prog (Builtin.append_ #[28,28] 28 #[.slice p l c,.slice q m' cc]) false [(false,[.slice 0])] (fun p13 l14 l15=>T.aC (bx r.W) [.slice p13 l14 l15] k)) L K h:=by
 refine kh (vs:=Vr v) Vk Uu rfl ad ad ax rfl rfl m.w ad ad ad ?_;intro p' c' h1 s1 k1 hp;refine m.Vf o k1 (way':=st.cS++[v]) (by simpa using s1) (fun i hi=>?_) (fun h' m' s'=>hk h' p' c' m' s');rcases hp with rfl | ⟨a,rfl,ha⟩
 ·exact .inl hi
 ·simp [aJ] at hi; subst hi; exact .inr ha
def UL (aO aB aW:ZC) (p35:Option ZC) (l36 l37:Nat) (n34:Int):T :=
  T.loop [aM] [.int .i64 (0:Int)] <| fun (n38:Int) =>
  cond (decide (n38<((((Int.toNat (l36:Int))-(Int.toNat n34)):Nat):Int)))
  (T.need (((0:Int)<=n38)/\(n38<((((Int.toNat (l36:Int))-(Int.toNat n34)):Nat):Int))) <|
  T.bk (if (l37=(Int.toNat n34)) then p35 else (Option.map (fun a=>Addr.add a (aK n34 1)) p35)) <| fun (a39:ZC) =>
  T.ah (a39.add (aK n38 1)) [.string] <| fun (s40:ZA) =>
  T.ah aO [.map 9 4] <| fun (r41:Option Nat) =>
  T.ec Tryz.prog (Instr.mapUpdate 142 (.map r41) (.string s40) (.bool false)) <|
  T.ah aB [.map 9 4] <| fun (r42:Option Nat) =>
  T.ah aB [.map 9 4] <| fun (r43:Option Nat) =>
  bK (Instr.lookup 142 (.map r43) (.string s40) false) false [cd] <| fun (b44:Bool) =>
  cond b44
   (T.ec Tryz.prog (Instr.mapUpdate 142 (.map r42) (.string s40) (.bool true)) <|
   T.again 1 [.int .i64 (bi (n38+(1:Int)))])
   (T.ah aW [.slice 9] <| fun (p45:Option ZC) (l46:Nat) (l47:Nat) =>
   T.ec Tryz.prog (Instr.mapUpdate 142 (.map r42) (.string s40) (.bool (decide ((bi ((l46:Int)-n34))>(1:Int))))) <|
   T.again 1 [.int .i64 (bi (n38+(1:Int)))]))
  (T.ah aW [.slice 9] <| fun (p39:Option ZC) (l40:Nat) (l41:Nat) =>
  T.need (((0:Int)<=(0:Int))/\(((0:Int)<=n34)/\(n34<=(l41:Int)))) <|
  T.aC aW [.slice (if (l41=0) then p39 else (Option.map (fun a=>Addr.add a 0) p39)) ((Int.toNat n34)-0) (l41-0)] <|
  T.ret (.tuple #[]))
theorem Tc {lv:List ZB->Hp->Prop} (lo:Jw r es p0) (hs:∀ s,s∈aS es->s.size<=maxLen) (m:mi r h st p l c) (co:Ol r h es p0 l0 c0) (hi:oT (aS es) st) (g:dq (aS es) st) (hl:l<=2^40) {v:ZA} (hk0:qp v st<=st.cS.length)
  (hk:∀ h' p' l' c',mi r h' (qw v st) p' l' c'->pF r p h p' h'->K (.tuple #[]) h'):UL (bx r.O) (bx r.B) (bx r.W) p l c ((qp v st:Nat):Int) [lv] K h:=by
 unfold UL aK bK bi aM cd;have hlen:l=st.cS.length:=by rw [m.w.1,WQ]
 have hcap:=m.w.GN;rw [show Int.toNat ((qp v st:Nat):Int)=qp v st from ad,show Int.toNat (l:Int)=l from ad];generalize hkk:qp v st=k at *;have hbig:decide (1<st.cS.length-qp v st)=decide (1<l-k):=by rw [hkk,hlen]
 unfold qw at hk;rw [hbig,hkk] at hk;refine aR (cs:=[(false,[.int .i64])]) (fun x w h'=>∃ i:Nat,x.1=(i:Int)/\i<=l-k/\w=l-k-i/\mi r h' (((st.cS.drop k).take i).foldl (ox (decide (1<l-k))) st) p l c/\pF r p h p h') ((0:Int),()) (l-k) rfl ⟨0,rfl,ad,ad,by simpa using m,pF.refl _ _ _⟩ ?_;rintro ⟨n38,⟨⟩⟩ w h2 ⟨i,hi0,hile,rfl,m2,s2⟩;simp only at hi0;subst hi0;refine an ?_;have co2:=s2.co lo m co;have hway:∀ (w:List ZA) (st:TS),(w.foldl (ox (decide (1<l-k))) st).cS=st.cS:=by
  intro w
  induction w with
  | nil=>intro st; rfl
  | cons x w ih=>intro st; rw [XI,ih]; rfl
 refine ak (fun g1=>?_) (fun g1=>?_)
 ·have g1:=WR g1;have hilt:k+i<st.cS.length:=ad
  refine ay ⟨ad,ad⟩ ?_;rw [WV ad];have hsl:=m2.w;rw [hway] at hsl;obtain ⟨a,rfl,hc⟩:=hsl.cells (i:=k+i) (by simpa using hilt);rw [WY] at hc;refine av rfl ?_;rw [show Int.toNat (i:Int)=i from ad,add_add,<- XX];have hmem:st.cS[k+i]∈aS es:=hi _ (g.fe _ (WZ hilt));have htk:(st.cS.drop k).take (i+1)=(st.cS.drop k).take i++[st.cS[k+i]]:=by
   rw [WW (by rw [XQ]; omega),List.getElem_drop]
  generalize st.cS[k+i]=x at hc hmem htk;refine az (x,()) hc ?_;refine an ?_;have hsz:=hs x hmem;generalize hst2:((st.cS.drop k).take i).foldl (ox (decide (1<l-k))) st=st2 at m2;have hst3:((st.cS.drop k).take (i+1)).foldl (ox (decide (1<l-k))) st=ox (decide (1<l-k)) st2 x:=by rw [htk,XV,hst2]; rfl
  refine af co2.bO (some r.gO,()) rfl ?_;refine an ?_;refine m2.Ui lo.ord hsz ?_;intro h3 m3 s3 z3;have co3:=s3.co lo m2 co2;refine af co3.bB (some r.gB,()) rfl ?_;refine an ?_;refine af co3.bB (some r.gB,()) rfl ?_;refine an ?_;refine m3.eu x ?_;have hw:IntKind.wrap .i64 ((i:Int)+1)=((i+1:Nat):Int):=by rw [wrap_i64 ad ad]; omega
  refine ak (fun g2=>?_) (fun g2=>?_)
  ·have g2:(st2.back x).getD false=true:=g2;refine m3.SJ lo.ord hsz ?_;intro h4 m4 s4 z4;refine aF (cs:=[(false,[.int .i64])]) (((i+1:Nat):Int),()) (l-k-(i+1)) rfl ad (Xa (fun z=>[Value.int .i64 z]) hw) ⟨i+1,rfl,ad,rfl,?_,(s2.trans s3).trans s4⟩;rw [hst3];unfold ox;rw [g2];exact m4
  ·have g2:(st2.back x).getD false=false:=g2;refine af m3.bW ((_,_,_),()) rfl ?_;refine an ?_;refine m3.SJ lo.ord hsz ?_;intro h4 m4 s4 z4;refine aF (cs:=[(false,[.int .i64])]) (((i+1:Nat):Int),()) (l-k-(i+1)) rfl ad (Xa (fun z=>[Value.int .i64 z]) hw) ⟨i+1,rfl,ad,rfl,?_,(s2.trans s3).trans s4⟩;rw [hst3];unfold ox;rw [g2,Bool.false_or];have e:decide ((IntKind.wrap .i64 ((l:Int)-(k:Int)))>(1:Int))=decide (1<l-k):=by
    rw [wrap_i64 ad ad];exact YL.2 ad
   rw [e] at m4;exact m4
 ·have g1:=WS g1;have hii:i=l-k:=ad
  subst hii;have htk:(st.cS.drop k).take (l-k)=st.cS.drop k:=Xt (by rw [XQ]; omega);rw [htk] at m2;have hpp:(if c=0 then p else (Option.map (fun a=>Addr.add a 0) p))=p:=by
   split
   ·rfl
   ·cases p with
    | none=>rfl
    | some a=>simp only [Option.map_some,add_zero']
  refine af m2.bW ((p,l,c),()) rfl ?_;refine an ?_;refine ay ⟨ad,ad,ad⟩ ?_;rw [hpp,YW,YW];have hsl:=m2.w;rw [hway] at hsl;have hsk:=hsl.take (k:=k) ad;rw [<- List.map_take] at hsk;refine m2.Vf lo.ord (Ch.refl _ _) hsk (fun i hi=>.inl hi) ?_;intro h4 m4 s4;exact hk h4 p k c m4 (s2.trans s4)
end
structure EqsOk (es:List cE):Prop where
 nodup:(aS es).Nodup
 len:es.length<=2^40
 sz:∀ e,e∈es->e.name.size<=maxLen
 tl:∀ e,e∈es->e.x.ai.length<=2^40
 ts:∀ e,e∈es->∀ t,t∈e.x.ai->t.1.size<=maxLen
theorem EqsOk.names {es:List cE} (o:EqsOk es):∀ s,s∈aS es->s.size<=maxLen:=by
 intro s hs;obtain ⟨e,he,rfl⟩:=WX.1 hs;exact o.sz e he
section
variable {r:TF} {es:List cE} {p0:Option ZC} {l0 c0:Nat}
theorem Nt (eo:EqsOk es) (lo:Jw r es p0):∀ f,HN es r p0 l0 c0 f:=by
 intro f;have hown:∀ s,cm es s=true->s∈aS es:=fun s=>(dV es s).1
 have hs:=eo.names;have hnl:(aS es).length=es.length:=by unfold aS; rw [WQ]
 induction f with
 | zero =>
  intro v st h p l c m co g hv h0 hu hi
  have:=(g.open eo.nodup hv h0).2
  omega
 | succ f ih =>
  intro v st h p l c m co g hv h0 hu hi;have o:=lo.ord;have o':=o;unfold TF.ord at o';have hlen:=eo.len;refine aX (args:=.string v::r.tK) mixed Tryz.func106 ax (mw v (bx r.N) (bx r.L) (bx r.W) (bx r.O) (bx r.E) (bx r.A) (bx r.B) (bx r.V)) ?_;unfold iH aZ bg bq aK cD dQ bh bK bi bS aM cd;have hsv:=hs v hv;have hcnt:st.jg<=es.length:=by have:=g.sum; omega
  have hway:=g.cS;have hll:l=st.cS.length:=by rw [m.w.1,WQ]
  have hV:=co.bV.lt;refine af co.bN (some r.gN,()) rfl ?_;refine an ?_;refine af co.bN (some r.gN,()) rfl ?_;refine an ?_;refine VI (en:=eI) m.mN ?_;refine m.uH o hsv (w:=st.jg+1) (by rw [wrap_i64 ad ad]; omega) ?_;intro h1 m1 s1 z1;have hnone:(st.num v).isSome=false:=by rw [h0]; rfl
  rw [hnone] at m1;simp only [Bool.false_eq_true,if_false] at m1;have co1:=s1.co lo m co;refine af co1.bL (some r.gL,()) rfl ?_;refine an ?_;refine af co1.bN (some r.gN,()) rfl ?_;refine an ?_;refine m1.DN v ?_;refine m1.rZ o hsv rfl ?_;intro h2 m2 s2 z2;simp only [cw,Option.getD_some] at m2;have co2:=s2.co lo m1 co1;refine af m2.bW ((p,l,c),()) rfl ?_;refine an ?_;refine m2.Ug o ad ad ?_;intro h3 p3 c3 m3 s3;have co3:=s3.co lo m2 co2;refine af co3.bO (some r.gO,()) rfl ?_;refine an ?_;refine m3.Ui o hsv ?_;intro h4 m4 s4 z4;have co4:=s4.co lo m3 co3;have s04:pF r p h p3 h4:=((s1.trans s2).trans s3).trans s4
  replace m4:mi r h4 (ei v st) p3 (l+1) c3:=m4
  refine af co4.bE ((p0,l0,c0),()) rfl ?_;refine an ?_;refine af co4.bA (some r.gA,()) rfl ?_;refine an ?_;obtain ⟨nA,mA⟩:=co4.mA;refine Hj mA v ?_;obtain ⟨k,hk⟩:=Cv hv;obtain ⟨hkl,hkn,hkx⟩:=nO hk;have hl0:=co4.vw.len;rw [hk];simp only [Option.getD_some];refine ay ⟨ad,ad⟩ ?_;obtain ⟨a,ha,hc⟩:=co4.vw.cells k hkl;refine av ha ?_;rw [show Int.toNat (k:Int)=k from ad];have hin:=co4.vw.fe es[k] (WZ hkl);have hinW:∀ h',Ol r h' es p0 l0 c0->gn h' es[k].p es[k].l es[k].x.ai:=fun h' co'=>co'.vw.fe es[k] (WZ hkl)
  have htl:=eo.tl es[k] (WZ hkl);have hts:=eo.ts es[k] (WZ hkl);have hli:=lo.li es[k] (WZ hkl);have hsu:cF (cY es) v=es[k].x.ai.map (·.1):=by unfold cF; rw [hkx]
  generalize es[k]=e at hc hin hinW htl hts hli hsu;refine az ((e.p,e.l,e.c),()) ⟨by rw [add_zero']; exact hc.2.1,trivial⟩ ?_;refine an ?_;have hel:=hin.len;have hgood:=fun l=>I1 eo.nodup hown (cF (cY es)) g hv h0 hu l
  have hinn:∀ l:List ZA,oT (aS es) (l.foldl (ef (cm es) (cH (cm es) (cF (cY es)) f) v) (ei v st)):=fun l=>oT.fold hown (fun w st hi hw=>oT.visit hown (cF (cY es)) f w st hi hw) l _ (hi.open hv)
  refine aR (cs:=[(false,[.int .i64])]) (fun x w h'=>∃ (i:Nat) (p':Option ZC) (l' c':Nat),x.1=(i:Int)/\i<=e.x.ai.length/\w=e.x.ai.length-i/\mi r h' (((e.x.ai.map (·.1)).take i).foldl (ef (cm es) (cH (cm es) (cF (cY es)) f) v) (ei v st)) p' l' c'/\pF r p h p' h')
   ((0:Int),()) e.x.ai.length rfl ⟨0,p3,l+1,c3,rfl,ad,ad,m4,s04⟩ ?_
  rintro ⟨n26,⟨⟩⟩ w h5 ⟨i,p5,l5,c5,hi0,hile,rfl,m5,s5⟩;simp only at hi0;subst hi0;refine an ?_;have co5:=s5.co lo m co;obtain ⟨g5,hu5,hpre5,n5,hn5⟩:=hgood ((e.x.ai.map (·.1)).take i);have hi5:=hinn ((e.x.ai.map (·.1)).take i);have hk5:=fun hi:i<e.x.ai.length=>(show (e.x.ai.map (·.1)).take (i+1)=(e.x.ai.map (·.1)).take i++[e.x.ai[i].1] by
   rw [WW (by rw [WQ]; exact hi),WY])
  have hfin:i=e.x.ai.length->(e.x.ai.map (·.1)).take i=cF (cY es) v:=by
   intro hh;rw [hsu];exact Xt (by rw [WQ]; omega)
  have hfold:∀ hi:i<e.x.ai.length,((e.x.ai.map (·.1)).take (i+1)).foldl (ef (cm es) (cH (cm es) (cF (cY es)) f) v) (ei v st)=ef (cm es) (cH (cm es) (cF (cY es)) f) v (((e.x.ai.map (·.1)).take i).foldl (ef (cm es) (cH (cm es) (cF (cY es)) f) v) (ei v st)) e.x.ai[i].1:=by
   intro hi;rw [hk5 hi,XV]; rfl
  have hvis:cH (cm es) (cF (cY es)) (f+1) v st=(if tP ((cF (cY es) v).foldl (ef (cm es) (cH (cm es) (cF (cY es)) f) v) (ei v st)) v<rH ((cF (cY es) v).foldl (ef (cm es) (cH (cm es) (cF (cY es)) f) v) (ei v st)) v then (cF (cY es) v).foldl (ef (cm es) (cH (cm es) (cF (cY es)) f) v) (ei v st) else qw v ((cF (cY es) v).foldl (ef (cm es) (cH (cm es) (cF (cY es)) f) v) (ei v st))):=rfl;refine ak (fun g1=>?_) (fun g1=>?_)
  ·have g1:=WR g1;have hilt:i<e.x.ai.length:=ad
   have hfold:=hfold hilt;refine ay ⟨ad,ad⟩ ?_;obtain ⟨a2,ha2,hc2⟩:=(hinW h5 co5).cells i hilt;refine av ha2 ?_;rw [show Int.toNat (i:Int)=i from ad];have htsi:=hts e.x.ai[i] (WZ hilt);generalize e.x.ai[i]=t at hc2 htsi hfold;generalize hst5:((e.x.ai.map (·.1)).take i).foldl (ef (cm es) (cH (cm es) (cF (cY es)) f) v) (ei v st)=st5 at m5 g5 hu5 hi5 hfold;refine az (t.1,(t.2:Int),()) hc2 ?_;refine an ?_;refine bm ?_;intro h6 b6 e6 z6;refine aw b6 rfl aj ?_;intro h7 b7 k7 z7;have b7:bz h7 h5.size 66 [.string t.1,.int .u32 (t.2:Int)]:=b7;have e57:Ext h5 h7:=Ch.trans e6 k7 (fun j hj hl=>by simp at hj; omega);have co7:=co5.lS lo e57 aj;have m7:=m5.ao e57;have Vg:pF r p5 h5 p5 h7:=pF.ext e57;have ha7:=co5.bV.lt;have hap:h5.size∉aJ p5:=fun hb=>by have:=(m5.w.bY hb).2; omega
   have hw:IntKind.wrap .i64 ((i:Int)+1)=((i+1:Nat):Int):=by rw [wrap_i64 ad ad]; omega
   refine af co7.bA (some r.gA,()) rfl ?_;refine an ?_;refine af b7 (t.1,()) rfl ?_;refine an ?_;obtain ⟨nA7,mA7⟩:=co7.mA;refine C' mA7 t.1 ?_;refine ak (fun g2=>?_) (fun g2=>?_)
   ·have g2:¬ cm es t.1=true:=by
     unfold cm;intro hh;rw [hh] at g2;cases g2
    have hst:ef (cm es) (cH (cm es) (cF (cY es)) f) v st5 t.1=st5:=WV g2;refine aF (cs:=[(false,[.int .i64])]) (((i+1:Nat):Int),()) (e.x.ai.length-(i+1)) rfl ad (Xa (fun z=>[Value.int .i64 z]) hw) ⟨i+1,p5,l5,c5,rfl,ad,rfl,?_,s5.trans Vg⟩;rw [hfold,hst];exact m7
   ·have g2:cm es t.1=true:=by
     unfold cm;cases hh:(jO es t.1).isSome with
     | true=>rfl
     | false=>rw [hh] at g2; cases g2
    have hwn:=hown _ g2;have hst:ef (cm es) (cH (cm es) (cF (cY es)) f) v st5 t.1=sN (cH (cm es) (cF (cY es)) f) v t.1 (fh v t.1 st5):=W2 g2;rw [hst] at hfold;have g8:=g5.self v t.1;have hu8:qj (aS es) (fh v t.1 st5)<=f:=by unfold qj; rw [(gR v t.1 st5).1]; exact hu5
    have hi8:oT (aS es) (fh v t.1 st5):=by intro s hs; rw [(gR v t.1 st5).1] at hs; exact hi5 s hs
    refine af b7 (t.1,()) rfl ?_;refine an ?_;rw [UR];refine ak (fun g3=>?_) (fun g3=>?_)
    ·have g3:=WR g3;refine af co7.bB (some r.gB,()) rfl ?_;refine an ?_;refine m7.SJ o hsv ?_;intro h8 m8 s8 z8;have e8:fh v t.1 st5={ st5 with back:=dy st5.back v true }:=W2 g3;rw [<- e8] at m8;have co8:=s8.co lo m7 co7;have b8:=s8.box (st:=st5) (l:=l5) (c:=c5) o ha7 hap b7;refine HQ ih lo hs m8 co8 g8 hu8 hi8 hv hwn ha7 hap b8 (i:Int) ?_;intro h9 p9 l9 c9 m9 s9;refine aF (cs:=[(false,[.int .i64])]) (((i+1:Nat):Int),()) (e.x.ai.length-(i+1)) rfl ad (Xa (fun z=>[Value.int .i64 z]) hw) ⟨i+1,p9,l9,c9,rfl,ad,rfl,?_,((s5.trans Vg).trans s8).trans s9⟩;rw [hfold];exact m9
    ·have g3:=WS g3;have e8:fh v t.1 st5=st5:=WV g3;rw [<- e8] at m7;refine HQ ih lo hs m7 co7 g8 hu8 hi8 hv hwn ha7 hap b7 (i:Int) ?_;intro h9 p9 l9 c9 m9 s9;refine aF (cs:=[(false,[.int .i64])]) (((i+1:Nat):Int),()) (e.x.ai.length-(i+1)) rfl ad (Xa (fun z=>[Value.int .i64 z]) hw) ⟨i+1,p9,l9,c9,rfl,ad,rfl,?_,(s5.trans Vg).trans s9⟩;rw [hfold];exact m9
  ·have g1:=WS g1;have hii:=hfin ad;rw [hii] at m5 g5 hpre5 hi5 hn5;generalize hst5:(cF (cY es) v).foldl (ef (cm es) (cH (cm es) (cF (cY es)) f) v) (ei v st)=st5 at m5 g5 hpre5 hi5 hn5 hvis;refine af co5.bL (some r.gL,()) rfl ?_;refine an ?_;refine m5.zP v ?_;refine af co5.bN (some r.gN,()) rfl ?_;refine an ?_;refine m5.DN v ?_;refine ak (fun g2=>?_) (fun g2=>?_)
   ·have g2:tP st5 v<rH st5 v:=by have:=WR g2; unfold tP rH; omega
    rw [W2 g2] at hvis;refine ⟨rfl,p5,l5,c5,?_,s5⟩;rw [hvis];exact m5
   ·have g2:¬ tP st5 v<rH st5 v:=by have:=WS g2; unfold tP rH; omega
    rw [WV g2] at hvis;have hl5:l5=st5.cS.length:=by rw [m5.w.1,WQ]
    have hw5:=g5.cS;have hc5:st5.jg<=es.length:=by have:=g5.sum; omega
    have hvw:v∈st5.cS:=hpre5.subset aj;have hpk:qp v st5<st5.cS.length:=by
     unfold qp;rw [List.findIdx_lt_length];exact ⟨v,hvw,aj⟩
    refine af m5.bW ((p5,l5,c5),()) rfl ?_;refine an ?_;refine gi (Np m5.w v hvw ad) ?_;refine af m5.bW ((p5,l5,c5),()) rfl ?_;refine an ?_;have hcap:=m5.w.GN;have hpk':(st5.cS.findIdx fun x=>decide (v=x))=qp v st5:=rfl;rw [hpk'];refine ay ⟨ad,ad,ad⟩ ?_;refine Tc lo hs m5 co5 hi5 g5 ad ad ?_;intro h6 p6 l6 c6 m6 s6;refine ⟨rfl,p6,l6,c6,?_,s5.trans s6⟩;rw [hvis];exact m6
end
theorem oT.top {names:List ZA} {own:ZA->Bool} (hown:∀ s,own s=true->s∈names) (succ:ZA->List ZA) (f:Nat):∀ (l:List ZA) (st:TS),(∀ s,s∈l->s∈names)->oT names st->oT names (l.foldl (wP own succ f) st)
 | [],st,hl,hi=>hi
 | w::l,st,hl,hi=>by
  rw [XI];refine oT.top hown succ f l _ (fun s hs=>hl s (Xb _ hs)) ?_;unfold wP;split
  ·exact oT.visit hown succ f w st hi (hl w aj)
  ·exact hi
theorem FR {h:Hp} {p:Option ZC} {l c:Nat} {es:List cE} (v:tH h p l es) (eo:EqsOk es) (hp:∀ i,i∈aJ p->i<h.size) :
  HC Tryz.prog 83 #[.slice p l c] h fun w h'=>(∃ g n,w=.map (some g)/\dK eB h' g (Em (cm es) (cF (cY es)) (aS es)).back n/\h.size<=g)/\Ext h h':=by
 refine aX (args:=[.slice p l c]) mixed Tryz.func83 ax (vY p l c) ?_;unfold sL aZ bg bq aK bG bK bd bS aM;have hown:∀ s,cm es s=true->s∈aS es:=fun s=>(dV es s).1
 have hnl:(aS es).length=es.length:=by unfold aS; rw [WQ]
 have hll:=v.len;have hlen:=eo.len;refine bm ?_;intro h1 b1 e1 z1;refine af b1 ((p,l,c),()) rfl ?_;refine an ?_;refine aH (za (v.ao e1) eo.len eo.nodup eo.sz) ?_;rintro _ h2 ⟨⟨gA,rfl,mA,hgA⟩,e2⟩;refine ⟨(some gA,()),rfl,?_⟩;refine an ?_;have b2:=b1.ao e2 aj;have hgA2:=mA.lt;refine bm ?_;intro h3 b3 e3 z3;refine aw b3 rfl aj ?_;intro h4 b4 k4 z4;have b4:bz h4 h2.size 97 [.map (some gA)]:=b4;have e24:Ext h2 h4:=Ch.trans e3 k4 (fun j hj hl=>by simp at hj; omega);refine xv (en:=eB) ?_;intro h5 m5 e5 z5;refine bm ?_;intro h6 b6 e6 z6;refine aw b6 rfl aj ?_;intro h7 b7 k7 z7;have b7:bz h7 h5.size 142 [.map (some h4.size)]:=b7;have e57:Ext h5 h7:=Ch.trans e6 k7 (fun j hj hl=>by simp at hj; omega);refine xv (en:=eI) ?_;intro h8 m8 e8 z8;refine xv (en:=eI) ?_;intro h9 m9 e9 z9;refine bm ?_;intro h10 b10 e10 z10;refine bm ?_;intro h11 b11 e11 z11;refine aw (b10.ao e11 aj) rfl aj ?_;intro h12 b12 k12 z12;have b12:bz h12 h9.size 97 [.map (some h7.size)]:=b12;refine aw (b11.ao k12 (by simp; omega)) rfl aj ?_;intro h13 b13 k13 z13;have b13:bz h13 h10.size 97 [.map (some h8.size)]:=b13;have e913:Ext h9 h13:=Ch.trans ((Ch.trans (Ext.trans e10 e11) k12 (fun j hj hl=>by simp at hj; omega)):Ext h9 h12) k13 (fun j hj hl=>by simp at hj; omega);refine bm ?_;intro h14 b14 e14 z14;refine xv (en:=eB) ?_;intro h15 m15 e15 z15;refine bm ?_;intro h16 b16 e16 z16;refine aw b16 rfl aj ?_;intro h17 b17 k17 z17;have b17:bz h17 h15.size 142 [.map (some h14.size)]:=b17;have e1517:Ext h15 h17:=Ch.trans e16 k17 (fun j hj hl=>by simp at hj; omega);refine bm ?_;intro h18 b18 e18 z18;refine aw b18 rfl aj ?_;intro h19 b19 k19 z19;have e1719:Ext h17 h19:=Ch.trans e18 k19 (fun j hj hl=>by simp at hj; omega);have e1519:=e1517.trans e1719;have e1319:Ext h13 h19:=(e14.trans e15).trans e1519;have e919:=e913.trans e1319;have e719:Ext h7 h19:=(e8.trans e9).trans e919;have e419:Ext h4 h19:=(e5.trans e57).trans e719;have e219:=e24.trans e419;have e019:Ext h h19:=(e1.trans e2).trans e219;have hz13:h13.size=h9.size+2:=ad
 have hz9:h9.size=h7.size+2:=ad
 have hz7:h7.size=h4.size+2:=ad
 have hz4:h4.size=h2.size+1:=ad
 generalize hr:(⟨h.size,gA,h2.size,h4.size,h5.size,h7.size,h8.size,h9.size,h10.size,h13.size,h14.size,h15.size,h17.size⟩:TF)=r;have ho:r.ord:=by
  subst hr;unfold TF.ord;dsimp only;omega
 have co:Ol r h19 es p l c:=by
  subst hr;refine ⟨(b2.ao e219 aj),b4.ao e419 aj,⟨_,mA.ao e219 aj⟩,?_,(b12.ao k13 (by simp; omega)).ao e1319 aj,b13.ao e1319 aj,b17.ao e1719 aj,b7.ao e719 aj,v.ao e019⟩;exact b19
 have st:mi r h19 AM none 0 0:=by
  subst hr;exact ⟨m8.ao (e9.trans e919) aj,⟨0,m9.ao e919 aj⟩,⟨0,m15.ao e1519 aj⟩,⟨0,m5.ao ((e57.trans e719)) aj⟩,b14.ao (e15.trans e1519) aj,SL.nil _ _ _ _⟩
 have lo:Jw r es p:=by
  subst hr;exact ⟨ho,hp,fun e he hne i hi=>(v.fe e he).Tb hne i hi⟩
 have hrE:r.E=h.size:=by subst hr; rfl
 have hbN:r.N=h9.size:=by subst hr; rfl
 have hbV:r.V=h17.size:=by subst hr; rfl
 have hbB:r.B=h5.size:=by subst hr; rfl
 rw [show (⟨h9.size,0,none⟩:ZC)=bx r.N by rw [hbN],show (⟨h17.size,0,none⟩:ZC)=bx r.V by rw [hbV],show (⟨h5.size,0,none⟩:ZC)=bx r.B by rw [hbB],show (⟨h.size,0,none⟩:ZC)=bx r.E by rw [hrE]];refine af co.bE ((p,l,c),()) rfl ?_;refine an ?_;refine aR (cs:=[(false,[.int .i64])]) (fun x w h'=>∃ (i:Nat) (p':Option ZC) (l' c':Nat),x.1=(i:Int)/\i<=es.length/\w=es.length-i/\mi r h' (((aS es).take i).foldl (wP (cm es) (cF (cY es)) (aS es).length) AM) p' l' c'/\pF r none h19 p' h')
  ((0:Int),()) es.length rfl ⟨0,none,0,0,rfl,ad,ad,st,pF.refl _ _ _⟩ ?_
 rintro ⟨n20,⟨⟩⟩ w h20 ⟨i,p20,l20,c20,hi0,hile,rfl,m20,s20⟩;simp only at hi0;subst hi0;refine an ?_;have co20:=s20.co lo st co;refine ak (fun g1=>?_) (fun g1=>?_)
 ·have g1:=WR g1;have hilt:i<es.length:=ad
  refine ay ⟨ad,ad⟩ ?_;obtain ⟨a2,ha2,hc2⟩:=co20.vw.cells i hilt;refine av ha2 ?_;rw [show Int.toNat (i:Int)=i from ad];have t20:=Cz (own:=cm es) (succ:=cF (cY es)) eo.nodup hown ((aS es).take i) [] AM (fun s hs=>XY hs) (Uc _);have i20:=oT.top hown (cF (cY es)) (aS es).length ((aS es).take i) AM (fun s hs=>XY hs) (fun s hs=>(hs rfl).elim);have htk:(aS es).take (i+1)=(aS es).take i++[es[i].name]:=by
   rw [WW ad];unfold aS;rw [WY]
  have hmem:es[i].name∈aS es:=W7 (WZ hilt);generalize es[i]=e at hc2 htk hmem;have hfold:((aS es).take (i+1)).foldl (wP (cm es) (cF (cY es)) (aS es).length) AM=wP (cm es) (cF (cY es)) (aS es).length (((aS es).take i).foldl (wP (cm es) (cF (cY es)) (aS es).length) AM) e.name:=by
   rw [htk,XV]; rfl
  generalize ((aS es).take i).foldl (wP (cm es) (cF (cY es)) (aS es).length) AM=st20 at m20 t20 i20 hfold;refine az (e.name,(e.p,e.l,e.c),(e.x.num:Int),()) hc2 ?_;refine an ?_;refine bm ?_;intro h21 b21 e21 z21;refine aw b21 rfl aj ?_;intro h22 b22 k22 z22;have b22:bz h22 h20.size 88 [.string e.name,.slice e.p e.l e.c,.int .u32 e.x.num]:=b22;have e2022:Ext h20 h22:=Ch.trans e21 k22 (fun j hj hl=>by simp at hj; omega);have co22:=co20.lS lo e2022 aj;have m22:=m20.ao e2022;have s22:pF r none h19 p20 h22:=s20.trans (pF.ext e2022);have hw:IntKind.wrap .i64 ((i:Int)+1)=((i+1:Nat):Int):=by rw [wrap_i64 ad ad]; omega
  refine af co22.bN (some r.gN,()) rfl ?_;refine an ?_;refine af b22 (e.name,()) rfl ?_;refine an ?_;refine m22.DN e.name ?_;refine ak (fun g2=>?_) (fun g2=>?_)
  ·have g2:(st20.num e.name).getD 0=0:=by have:=WR g2; omega
   refine af co22.bV (.func (.func 106) #[] r.tK.toArray,()) rfl ?_;refine an ?_;refine af b22 (e.name,()) rfl ?_;refine an ?_;refine uA (cap:=r.tK) UW rfl (Nt eo lo (aS es).length e.name st20 h22 p20 l20 c20 m22 co22 t20.Cb hmem (t20.Cb.none g2) (Yd _ _) i20) ?_;rintro _ h23 ⟨rfl,p23,l23,c23,m23,s23⟩;refine ⟨(),rfl,?_⟩;refine aF (cs:=[(false,[.int .i64])]) (((i+1:Nat):Int),()) (es.length-(i+1)) rfl ad (Xa (fun z=>[Value.int .i64 z]) hw) ⟨i+1,p23,l23,c23,rfl,ad,rfl,?_,s22.trans s23⟩;rw [hfold];unfold wP;rw [W2 g2];exact m23
  ·have g2:¬ (st20.num e.name).getD 0=0:=by
    intro k;rw [k] at g2;simp at g2
   refine aF (cs:=[(false,[.int .i64])]) (((i+1:Nat):Int),()) (es.length-(i+1)) rfl ad (Xa (fun z=>[Value.int .i64 z]) hw) ⟨i+1,p20,l20,c20,rfl,ad,rfl,?_,s22⟩;rw [hfold];unfold wP;rw [WV g2];exact m22
 ·have g1:=WS g1;have htk:(aS es).take i=aS es:=Xt ad;rw [htk] at m20;refine af co20.bB (some r.gB,()) rfl ?_;refine an ?_;obtain ⟨n3,mB⟩:=m20.mB;have o':=ho;unfold TF.ord at o';refine ⟨⟨r.gB,n3,rfl,mB,ad⟩,Ch.trans e019 s20.ch fun j hj hl=>?_⟩;rw [pv] at hj;simp [aJ] at hj;omega
theorem wF {h:Hp} {b:Nat} {e:TypeId} {p:Option ZC} {l c:Nat} {us:cU} (s:SL h b e 2 p l c (us.map cR)):gn h p l us :=
 ⟨by rw [s.1,WQ],fun i hi=>by
  obtain ⟨a,ha,hc⟩:=s.cells (i:=i) (by simpa using hi);rw [WY] at hc;exact ⟨a,ha,hc⟩⟩
structure sK (es:List cE):Prop extends EqsOk es where
 TJ:(es.flatMap (·.x.ai)).length<=2^20
abbrev eC (es:List cE) (v:ZA):bX:=H7 (cm es) (cY es) (aS es) v
abbrev da (es:List cE):ZA->ZA->Prop:=Edge (cm es) (cF (cY es))
theorem kF {es:List cE} {v:ZA} (hv:v∈aS es):∃ e,e∈es/\e.name=v/\cY es v=e.x:=by
 obtain ⟨k,hk⟩:=Cv hv;obtain ⟨hkl,hkn,hkx⟩:=nO hk;exact ⟨_,WZ hkl,hkn,hkx⟩
theorem gC {α β:Type} (f:α->List β) {l:List α} {a:α} (h:a∈l):(f a).length<=(l.flatMap f).length:=by
 induction l with
 | nil=>simp at h
 | cons b l ih =>
  rw [XH,WU];rcases Xo.1 h with e | e
  ·subst e; omega
  ·have:=ih e; omega
theorem sK.yh {es:List cE} (o:sK es) {v:ZA} (hv:v∈aS es):(cY es v).ai.length<=2^20:=by
 obtain ⟨e,he,_,hx⟩:=kF hv;rw [hx];exact XU (gC (fun e:cE=>e.x.ai) he) o.TJ
theorem sK.Dd {es:List cE} (o:sK es) (hc:∀ v,¬ jT (da es) v) {v:ZA} (hv:v∈aS es):(eC es v).ai.length<=2^20:=by
 have hnf:=Sq (dV es) hc hv;have hnm:=wZ (dV es) hc hv;have h1:((eC es v).ai.map (·.1)).Nodup:=XM.2 (hnf.1.imp fun h=>jk h);have h2:=jy ((eC es v).ai.map (·.1)) ((es.flatMap (·.x.ai)).map (·.1)) h1 (fun s hs=>by
  obtain ⟨t,ht,rfl⟩:=WX.1 hs;obtain ⟨_,w,u,hw,hu,e⟩:=hnm t ht;obtain ⟨d,hd,_,hx⟩:=kF hw;rw [hx] at hu;rw [<- e];exact W7 (List.mem_flatMap.2 ⟨d,hd,hu⟩))
 rw [WQ,WQ] at h2;exact XU h2 o.TJ
theorem sK.L6 {es:List cE} (o:sK es) (hc:∀ v,¬ jT (da es) v) {v:ZA} (hv:v∈aS es):∀ t,t∈(eC es v).ai->t.1.size<=maxLen:=by
 intro t ht;obtain ⟨_,w,u,hw,hu,e⟩:=wZ (dV es) hc hv t ht;obtain ⟨d,hd,_,hx⟩:=kF hw;rw [hx] at hu;rw [<- e];exact o.ts d hd u hu
theorem oP {of:ZA->Option bX} {B:Nat} (hB:1<=B) (hof:∀ s y,of s=some y->y.ai.length<=B):∀ l:cU,(l.flatMap (qA of)).length<=l.length*B
 | []=>aj
 | t::l=>by
  rw [XH,WU,XL,XX];have ih:=oP hB hof l
  have:(qA of t).length<=B:=by
   unfold qA;cases h:of t.1 with
   | none=>simpa using hB
   | some y=>simpa using hof _ _ h
  omega
structure SF where
 E:Nat
 gA:Nat
 A:Nat
 gD:Nat
 D:Nat
 V:Nat
def SF.ord (r:SF):Prop:=r.E<r.gA/\r.gA<r.A/\r.A<r.gD/\r.gD<r.D/\r.D<r.V
def SF.tK (r:SF):List ZB:=[.pointer (some (bx r.D)),.pointer (some (bx r.E)),.pointer (some (bx r.A)),.pointer (some (bx r.V))]
structure TQ (r:SF) (h:Hp) (es:List cE) (p0:Option ZC) (l0 c0:Nat):Prop where
 bE:bz h r.E 27 [.slice p0 l0 c0]
 bA:bz h r.A 97 [.map (some r.gA)]
 mA:∃ n,dK eI h r.gA (jO es) n
 bV:bz h r.V 148 [.func (.func 85) #[] r.tK.toArray]
 bD:bz h r.D 147 [.map (some r.gD)]
 vw:tH h p0 l0 es
structure VY (r:SF) (es:List cE) (p0:Option ZC):Prop where
 ord:r.ord
 l0:∀ i,i∈aJ p0->i<r.E
 li:∀ e,e∈es->e.x.ai≠[]->∀ i,i∈aJ e.p->i<r.E
theorem TQ.ao {r:SF} {h h':Hp} {es:List cE} {p0:Option ZC} {l0 c0:Nat} (m:TQ r h es p0 l0 c0) (lo:VY r es p0) (k:Ch [r.gD] h h'):TQ r h' es p0 l0 c0:=by
 have o:=lo.ord;unfold SF.ord at o;obtain ⟨n,mA⟩:=m.mA;exact ⟨m.bE.ao k (by simp; omega),m.bA.ao k (by simp; omega),⟨n,mA.ao k (by simp; omega)⟩,m.bV.ao k (by simp; omega),m.bD.ao k (by simp; omega),m.vw.lS k (fun i hi=>by have:=lo.l0 i hi; simp; omega) (fun e he hne i hi=>by have:=lo.li e he hne i hi; simp; omega)⟩
structure Q3 (r:SF) (h:Hp) (es:List cE) (f:ZA->Option qY):Prop where
 map:∃ n,F5 h r.gD f n
 of:∀ s y,f s=some y->s∈aS es/\y.x=eC es s/\∀ i,i∈aJ y.p->r.V<i/\i<h.size
theorem Q3.ext {r:SF} {h h':Hp} {es:List cE} {f:ZA->Option qY} (d:Q3 r h es f) (k:Ext h h'):Q3 r h' es f:=by
 obtain ⟨n,m⟩:=d.map;exact ⟨⟨n,m.ao k aj (fun s y hy i hi=>aj)⟩,fun s y hy=>by
  obtain ⟨a,b,c⟩:=d.of s y hy;exact ⟨a,b,fun i hi=>⟨(c i hi).1,Nat.lt_of_lt_of_le (c i hi).2 k.size⟩⟩⟩
def UM (f f':ZA->Option qY):Prop:=∀ s y,f s=some y->f' s=some y
def RC (b:Nat) (f f':ZA->Option qY):Prop:=∀ s y,f' s=some y->f s=some y\/∀ i,i∈aJ y.p->b<=i
theorem S8:ft Tryz.prog 85=true:=ax
theorem KI {r:SF} {es:List cE} {p0:Option ZC} {l0 c0:Nat} (eo:sK es) (lo:VY r es p0) (hc:∀ v,¬ jT (da es) v):∀ (k:Nat) (v:ZA),Hg (da es) k v->v∈aS es->∀ (h:Hp) (f:ZA->Option qY),TQ r h es p0 l0 c0->Q3 r h es f ->
  HC Tryz.prog 85 (.string v::r.tK).toArray h fun w h'=>∃ y f',w=eL y/\y.x=eC es v/\Q3 r h' es f'/\f' v=some y/\UM f f'/\RC h.size f f'/\Ch [r.gD] h h':=by
 intro k;have o:=lo.ord;have o':=o;unfold SF.ord at o';have hown:=dV es
 induction k with
 | zero=>intro v hg; exact hg.elim
 | succ k ih =>
  intro v hg hv h f co dn;refine aX (args:=.string v::r.tK) mixed Tryz.func85 ax (oC v (bx r.D) (bx r.E) (bx r.A) (bx r.V)) ?_;unfold j0 aZ bg bq aK bG bK bd bS aM cd;have hV:=co.bV.lt;have hsv:=eo.toEqsOk.names v hv;refine bm ?_;intro h1 b1 e1 z1;have co1:=co.ao lo (e1.mono aj);have dn1:=dn.ext e1;refine af co1.bD (some r.gD,()) rfl ?_;refine an ?_;obtain ⟨n1,m1⟩:=dn1.map;refine zP m1.map v (fun y hy1=>?_) (fun hy0=>?_)
  ·refine bm ?_;intro h2 b2 e2 z2;refine aw b2 rfl aj ?_;intro h3 b3 k3 z3;have b3:bz h3 h1.size 60 [.slice y.p y.l y.c,.int .u32 (y.x.num:Int)]:=b3;have e13:Ext h1 h3:=Ch.trans e2 k3 (fun j hj hl=>by simp at hj; omega);refine bT rfl ?_;refine af b3 ((y.p,y.l,y.c),(y.x.num:Int),()) rfl ?_;refine an ?_;refine aw (b1.ao e13 aj) rfl aj ?_;intro h4 b4 k4 z4;have b4:bz h4 h.size 60 [.slice y.p y.l y.c,.int .u32 (y.x.num:Int)]:=b4;refine af b4 ((y.p,y.l,y.c),(y.x.num:Int),()) rfl ?_;have e04:Ext h h4:=Ch.trans (e1.trans e13) k4 (fun j hj hl=>by simp at hj; omega);exact ⟨y,f,rfl,(dn.of v y hy1).2.1,dn.ext e04,hy1,fun s y hy=>hy,fun s y hy=>.inl hy,e04.mono aj⟩
  ·refine bm ?_;intro h2 b2 e2 z2;refine aw b2 rfl aj ?_;intro h3 b3 k3 z3;have e13:Ext h1 h3:=Ch.trans e2 k3 (fun j hj hl=>by simp at hj; omega);refine bZ rfl ?_;have e03:=e1.trans e13;have co3:=co.ao lo (e03.mono aj);have dn3:=dn.ext e03;refine af co3.bE ((p0,l0,c0),()) rfl ?_;refine an ?_;refine af co3.bA (some r.gA,()) rfl ?_;refine an ?_;obtain ⟨nA,mA⟩:=co3.mA;refine Hj mA v ?_;obtain ⟨q,hq⟩:=Cv hv;obtain ⟨hql,hqn,hqx⟩:=nO hq;have hl0:=co3.vw.len;have hlen:=eo.len;rw [hq];simp only [Option.getD_some];refine ay ⟨ad,ad⟩ ?_;obtain ⟨a,ha,hcc⟩:=co3.vw.cells q hql;refine av ha ?_;rw [show Int.toNat (q:Int)=q from ad];have hinW:∀ h',TQ r h' es p0 l0 c0->gn h' es[q].p es[q].l es[q].x.ai:=fun h' co'=>co'.vw.fe es[q] (WZ hql)
   have hts:=eo.ts es[q] (WZ hql);have hli:=lo.li es[q] (WZ hql);have hll:=eo.yh hv;have hsol:=Gn hown hc hv;rw [hqx] at hll hsol;have hedge:∀ t,t∈es[q].x.ai->cm es t.1=true->da es v t.1:=fun t ht ho=>⟨kx.2 ⟨t,by rw [hqx]; exact ht,rfl⟩,ho⟩
   generalize es[q]=e at hcc hinW hts hli hll hsol hedge;refine az ((e.p,e.l,e.c),(e.x.num:Int),()) ⟨by rw [add_zero']; exact hcc.2.1,by rw [add_add]; exact hcc.2.2.1,trivial⟩ ?_;refine an ?_;refine bm ?_;intro h5 b5 e5 z5;refine aw b5 rfl aj ?_;intro h6 b6 k6 z6;have b6:bz h6 h3.size 60 [.slice e.p e.l e.c,.int .u32 (e.x.num:Int)]:=b6;have e36:Ext h3 h6:=Ch.trans e5 k6 (fun j hj hl=>by simp at hj; omega);have e06:=e03.trans e36;have hz3:=e03.size;refine af b6 ((e.p,e.l,e.c),()) rfl ?_;refine an ?_;refine aR (cs:=[(false,[.int .i64])]) (fun x w h'=>∃ (i:Nat) (f':ZA->Option qY),x.1=(i:Int)/\i<=e.x.ai.length/\w=e.x.ai.length-i/\Q3 r h' es f'/\UM f f'/\RC h6.size f f'/\(∀ t,t∈e.x.ai.take i->cm es t.1=true->∃ y,f' t.1=some y)/\Ch [r.gD] h6 h')
    ((0:Int),()) e.x.ai.length rfl ⟨0,f,rfl,ad,ad,dn.ext e06,fun s y hy=>hy,fun s y hy=>.inl hy,aj,Ch.refl _ _⟩ ?_
   rintro ⟨n23,⟨⟩⟩ w h7 ⟨i,f7,hi0,hile,rfl,dn7,sb7,na7,dd7,k7⟩;simp only at hi0;subst hi0;refine an ?_;have k07:Ch [r.gD] h h7:=Ch.trans (e06.mono aj) k7 (fun j hj _=>hj);have co7:=co.ao lo k07;have hel:=(hinW h7 co7).len;refine ak (fun g1=>?_) (fun g1=>?_)
   ·have g1:=WR g1;have hilt:i<e.x.ai.length:=ad
    refine ay ⟨ad,ad⟩ ?_;obtain ⟨a2,ha2,hc2⟩:=(hinW h7 co7).cells i hilt;refine av ha2 ?_;rw [show Int.toNat (i:Int)=i from ad];have htk:e.x.ai.take (i+1)=e.x.ai.take i++[e.x.ai[i]]:=WW hilt;have hed:=hedge e.x.ai[i] (WZ hilt);generalize e.x.ai[i]=t at hc2 htk hed;refine az (t.1,(t.2:Int),()) hc2 ?_;refine an ?_;refine bm ?_;intro h8 b8 e8 z8;refine aw b8 rfl aj ?_;intro h9 b9 k9 z9;have b9:bz h9 h7.size 66 [.string t.1,.int .u32 (t.2:Int)]:=b9;have e79:Ext h7 h9:=Ch.trans e8 k9 (fun j hj hl=>by simp at hj; omega);have k09:Ch [r.gD] h h9:=Ch.trans k07 e79 aj;have co9:=co.ao lo k09;have dn9:=dn7.ext e79;have hw:IntKind.wrap .i64 ((i:Int)+1)=((i+1:Nat):Int):=by rw [wrap_i64 ad ad]; omega
    refine af co9.bA (some r.gA,()) rfl ?_;refine an ?_;refine af b9 (t.1,()) rfl ?_;refine an ?_;obtain ⟨nA9,mA9⟩:=co9.mA;refine C' mA9 t.1 ?_;refine ak (fun g2=>?_) (fun g2=>?_)
    ·have g2:cm es t.1=true:=g2;refine af co9.bV (.func (.func 85) #[] r.tK.toArray,()) rfl ?_;refine an ?_;refine af b9 (t.1,()) rfl ?_;refine an ?_;refine uA (cap:=r.tK) S8 rfl (ih t.1 (hg t.1 (hed g2)) ((hown _).1 g2) h9 f7 co9 dn9) ?_;rintro _ h10 ⟨y,f10,rfl,hyx,dn10,hfy,sb10,na10,k10⟩;refine ⟨((y.p,y.l,y.c),(y.x.num:Int),()),rfl,?_⟩;refine an ?_;refine aF (cs:=[(false,[.int .i64])]) (((i+1:Nat):Int),()) (e.x.ai.length-(i+1)) rfl ad (Xa (fun z=>[Value.int .i64 z]) hw) ⟨i+1,f10,rfl,ad,rfl,dn10,fun s y hy=>sb10 s y (sb7 s y hy),fun s y hy=>?_,fun u hu ho=>?_,?_⟩
     ·rcases na10 s y hy with h | h
      ·exact na7 s y h
      ·refine .inr fun i hi=>?_
       have:=h i hi
       have:=k7.size
       have:=e79.size
       omega
     ·rw [htk] at hu;rcases Xj.1 hu with h | h
      ·obtain ⟨y,hy⟩:=dd7 u h ho;exact ⟨y,sb10 _ _ hy⟩
      ·rw [Xu.1 h]; exact ⟨y,hfy⟩
     ·exact Ch.trans (Ch.trans k7 e79 aj) k10 (fun j hj _=>hj)
    ·have g2:¬ cm es t.1=true:=by
      unfold cm;intro k;rw [k] at g2;cases g2
     refine aF (cs:=[(false,[.int .i64])]) (((i+1:Nat):Int),()) (e.x.ai.length-(i+1)) rfl ad (Xa (fun z=>[Value.int .i64 z]) hw) ⟨i+1,f7,rfl,ad,rfl,dn9,sb7,na7,fun u hu ho=>?_,Ch.trans k7 e79 aj⟩;rw [htk] at hu;rcases Xj.1 hu with h | h
     ·exact dd7 u h ho
     ·rw [Xu.1 h] at ho; exact (g2 ho).elim
   ·have g1:=WS g1;have hii:e.x.ai.take i=e.x.ai:=Xt ad;rw [hii] at dd7;have b7:=b6.ao k7 (by simp; omega);refine af b7 ((e.p,e.l,e.c),(e.x.num:Int),()) rfl ?_;refine an ?_;refine af co7.bD (some r.gD,()) rfl ?_;refine an ?_;obtain ⟨n7,m7⟩:=dn7.map;have hz7:=k07.size;have hput:cV (fun s=>(f7 s).map (·.x)) e.x=eC es v:=by
     show _=H7 (cm es) (cY es) (aS es) v;rw [hsol];refine oH fun t ht=>?_
     show (f7 t.1).map (·.x)=Js (cm es) (cY es) (aS es) t.1;unfold Js
     by_cases ho:cm es t.1=true
     ·obtain ⟨y,hy⟩:=dd7 t ht ho;rw [hy,W2 ho,YQ,(dn7.of _ _ hy).2.1]
     ·rw [WV ho];cases hy:f7 t.1 with
      | none=>rfl
      | some y=>exact (ho ((hown _).2 (dn7.of _ _ hy).1)).elim
    have hlens:∀ s y,f7 s=some y->y.x.ai.length<=2^20:=fun s y hy=>by
     obtain ⟨a,b,_⟩:=dn7.of s y hy;rw [b]; exact eo.Dd hc a
    refine aH (D3 (c:=e.c) (hinW h7 co7) m7 ad hts (fun s y hy=>⟨by have:=hlens s y hy; omega,by
      obtain ⟨a,b,_⟩:=dn7.of s y hy;rw [b]; exact eo.L6 hc a⟩) ?_) ?_
    ·have:=oP (of:=fun s=>(f7 s).map (·.x)) (B:=2^20) ad (fun s y hy=>by
      cases hh:f7 s with
      | none=>simp only [hh] at hy; cases hy
      | some z =>
       simp only [hh,Option.map_some,Option.some.injEq] at hy;rw [<- hy]; exact hlens s z hh) e.x.ai
     exact XU this (XU (XZ _ hll) bU)
    ·rintro _ h8 ⟨⟨p',l',c',rfl,s8⟩,e8⟩;rw [hput] at s8 ⊢;refine ⟨((p',l',c'),((eC es v).num:Int),()),rfl,?_⟩;refine an ?_;have b8:=b7.ao e8 aj;refine aw b8 rfl aj ?_;intro h9 b9 k9 z9;have b9:bz h9 h3.size 60 [.slice p' l' c',.int .u32 ((eC es v).num:Int)]:=b9;have hz8:=e8.size;have k79:Ch [h3.size] h7 h9:=Ch.trans (e8.mono aj) k9 (fun j hj _=>hj);have k09:Ch [r.gD] h h9:=Ch.trans (Ch.trans k07 e8 aj) k9 (fun j hj hl=>by simp at hj; omega);have co9:=co.ao lo k09;have hk7:=k7.size;have hz36:h3.size<h6.size:=ad
     have hblk:∀ s y,f7 s=some y->∀ i,i∈aJ y.p->i≠h3.size/\i≠h.size/\i≠r.gD:=by
      intro s y hy i hi;have h1:=(dn7.of s y hy).2.2 i hi;rcases na7 s y hy with h | h
      ·have:=((dn.of s y h).2.2 i hi).2
       omega
      ·have:=h i hi
       omega
     have m9:F5 h9 r.gD f7 n7:=m7.ao k79 (by simp; omega) (fun s y hy i hi=>by
      have:=(hblk s y hy i hi).1
      simpa using this)
     have s9:=s8.bF k9 (fun i hi=>by have:=(s8.bY hi).1; simp; omega);refine af co9.bD (some r.gD,()) rfl ?_;refine an ?_;refine af b9 ((p',l',c'),((eC es v).num:Int),()) rfl ?_;refine an ?_;refine Ly m9.map hsv ⟨p',l',c',eC es v⟩ ?_;intro h10 m10 k10 z10;have b10:=b9.ao k10 (by simp; omega);refine af b10 ((p',l',c'),((eC es v).num:Int),()) rfl ?_;refine an ?_;have b110:bz h10 h.size 60 [.slice none 0 0,.int .u32 0]:=((((b1.ao e13 aj).ao e36 aj).ao k7 (by simp; omega)).ao k79 (by simp; omega)).ao k10 (by simp; omega);refine aw b110 rfl aj ?_;intro h11 b11 k11 z11;have b11:bz h11 h.size 60 [.slice p' l' c',.int .u32 ((eC es v).num:Int)]:=b11;refine af b11 ((p',l',c'),((eC es v).num:Int),()) rfl ?_;have k011:Ch [r.gD] h h11:=Ch.trans (Ch.trans k09 k10 (fun j hj _=>hj)) k11 (fun j hj hl=>by simp at hj; omega);have hz9:=k79.size;refine ⟨⟨p',l',c',eC es v⟩,dy f7 v ⟨p',l',c',eC es v⟩,rfl,rfl,⟨⟨_,m10.ao k11 (by simp; omega),fun s y hy=>?_⟩,fun s y hy=>?_⟩,cw _ _ _,fun s y hy=>?_,fun s y hy=>?_,k011⟩
     ·by_cases hsv:s=v
      ·subst hsv;rw [cw] at hy;have hy:=Xc hy;subst hy;exact wF ((s9.bF k10 (fun i hi=>by have:=(s9.bY hi).1; simp; omega)).bF k11 (fun i hi=>by have:=(s9.bY hi).1; simp; omega))
      ·rw [bQ _ _ hsv] at hy;exact ((m9.fe s y hy).ao k10 (fun i hi=>by have:=(hblk s y hy i hi).2.2; simpa using this)).ao k11 (fun i hi=>by have:=(hblk s y hy i hi).2.1; simpa using this)
     ·by_cases hsv:s=v
      ·subst hsv;rw [cw] at hy;have hy:=Xc hy;subst hy;refine ⟨hv,rfl,fun i hi=>?_⟩
       have:=s9.bY hi
       omega
      ·rw [bQ _ _ hsv] at hy;obtain ⟨a,b,c⟩:=dn7.of s y hy;refine ⟨a,b,fun i hi=>?_⟩
       have:=c i hi
       omega
     ·have hne:s≠v:=fun e=>by rw [e,hy0] at hy; cases hy
      rw [bQ _ _ hne];exact sb7 s y hy
     ·by_cases hsv:s=v
      ·subst hsv;rw [cw] at hy;have hy:=Xc hy;subst hy;refine .inr fun i hi=>?_
       have:=s9.bY hi
       omega
      ·rw [bQ _ _ hsv] at hy;rcases na7 s y hy with h | h
       ·exact .inl h
       ·refine .inr fun i hi=>?_
        have:=h i hi
        omega
theorem lf {P:Program} {h:Hp} {L:Lp} {K:ZB->Hp->Prop} {k:Option ZC->Nat->Nat->T} {t ty e:TypeId} {z:ZB} {sz by':Nat} (ht:P.underlying t=some (.slice e)) (hinf:(P.info? e).map (fun i=>(i.zero,i.size,i.bytes))=some (some z,sz,by'))
  (hzs:z.cells.size=sz) {p:Option ZC} {l c:Nat} {ys:List (List ZB)} (hsrc:(p=none/\ys=[])\/∃ a,p=some a/\aG h a 0 ys.flatten) (hl:l=ys.length) (hys:∀ y,y∈ys->y.length=sz) (hpl:ys.flatten.all cP=true) (hby:(2*l+1024)*by'<=2^48) (hlm:l<=2^48)
  (hk:∀ p' c' h',SL h' h.size e sz p' l c' ys->Ext h h'->k p' l c' L K h') :
  T.dY P (Instr.buildSlice t 0 #[]) false [(false,[.slice 0])] (fun q m cc=>T.dY P (Builtin.append_ #[t,t] ty #[.slice q m cc,.slice p l c]) false [(false,[.slice 0])] k) L K h:=by
 obtain ⟨i,hi,hz,rfl,rfl⟩:=oW hinf;refine dm ?_;unfold Instr.buildSlice;rw [ar,aD ht];simp only;rw [ar,bM hi,cz hi];rw [WV ad,W2 ad];simp only [Nat.zero_mul,pure_bind];have hf:∀ (f:Nat->Option (Nat × Nat)) (b:Array ZB),Instr.fill f b []=some b:=fun f b=>rfl
 have hb:Array.map (fun x=>(#[]:Array ZB)[x % (#[]:Array ZB).size]!) (Array.range 0)=#[]:=aj
 rw [hf,hb];show ∃ p1 l1 c1,_/\_
 refine ⟨_,_,_,rfl,?_⟩;have s1:SL (h.push (.cells #[] e)) h.size e i.size (some ⟨h.size,0,none⟩) 0 0 []:=⟨rfl,aj,h.size,[],[],rfl,W9 _,ad,bz.new h e [],aj⟩
 have e1:Ext h (h.push (.cells #[] e)):=Ext.push _ _;refine dm ?_;rcases hsrc with ⟨rfl,rfl⟩ | ⟨a,rfl,hc⟩
 ·have hl0:l=0:=hl;subst hl0;simp [Builtin.append_,ar,aD ht,bM hi,Builtin.lenOf,Builtin.firstCells,storeCells];exact ⟨_,_,_,rfl,hk _ _ _ s1 e1⟩
 ·have:=oh (P:=P) (h:=h.push (.cells #[] e)) (K:=fun v h'=>∃ p l c,v=.slice p l c/\k p l c L K h') (ty:=ty) (ys:=ys) ht hi hz hzs s1 hl hys (aT e1 aj _ _ hc) hpl (by simpa using hby) (by simpa using hlm) aj (cc:=c) ?_
  ·exact this
  ·intro p' c' h2 s2 c2 hp';rw [Xq,Yj] at *;exact ⟨p',l,c',rfl,hk p' c' h2 s2 (Ch.trans e1 c2 fun j hj hl=>by simp [aJ] at hj; omega)⟩
theorem HH {h:Hp} {p:Option ZC} {l:Nat} {us:cU} (v:gn h p l us):(p=none/\us.map cR=[])\/∃ a,p=some a/\aG h a 0 (us.map cR).flatten:=by
 cases p with
 | none =>
  left
  refine ⟨rfl,?_⟩;cases us with
  | nil=>rfl
  | cons u us =>
   obtain ⟨a,ha,_⟩:=v.cells 0 aj;cases ha
 | some a=>exact .inr ⟨a,rfl,v.flat⟩
theorem Mu (us:cU):∀ y,y∈us.map cR->y.length=2:=by
 intro y hy;obtain ⟨u,_,rfl⟩:=WX.1 hy;rfl
theorem DE {h:Hp} {p:Option ZC} {l c:Nat} {us:cU} (v:gn h p l us) (hl:us.length<=2^40) :
  HC Tryz.prog 54 #[.slice p l c] h fun w h'=>(∃ p' l' c',w=.slice p' l' c'/\SL h' h.size 66 2 p' l' c' (us.map cR))/\Ext h h':=by
 refine aX (args:=[.slice p l c]) mixed Tryz.func54 ax (fJ p l c) ?_;unfold dT bh bd;have hll:=v.len;cases p with
 | none =>
  rcases HH v with ⟨_,h2⟩ | ⟨a,ha,_⟩
  ·refine bT rfl ?_;refine ⟨⟨none,0,0,rfl,?_⟩,Ch.refl _ _⟩;rw [h2];exact SL.nil _ _ _ _
  ·cases ha
 | some a =>
  refine bZ rfl ?_;refine lf (e:=66) (z:=.agg #[.string ⟨#[]⟩,.int .u32 0]) (sz:=2) (by':=24) zy sC rfl (HH v) (by simpa using hll) (Mu us) (G9 us) ad ad ?_;intro p' c' h' s' e';exact ⟨⟨p',l,c',rfl,s'⟩,e'⟩
structure rb (h:Hp) (b:Nat) (p:Option ZC) (l c:Nat) (ms:List cE):Prop where
 out:SL h b 88 3 p l c (ms.map zi)
 fe:∀ m,m∈ms->SL h b 66 2 m.p m.l m.c (m.x.ai.map cR)
 ap:ms.Pairwise fun x y=>∀ i,i∈aJ x.p->∀ j,j∈aJ y.p->i<j
 dj:∀ m,m∈ms->∀ j,j∈aJ m.p->j∉aJ p
theorem rb.ao {ws:List Nat} {h h':Hp} {b:Nat} {p:Option ZC} {l c:Nat} {ms:List cE} (o:rb h b p l c ms) (k:Ch ws h h') (hw:∀ i,i∈ws->i<b\/h.size<=i):rb h' b p l c ms :=
 ⟨o.out.bF k (fun i hi h=>by have:=o.out.bY hi; have:=hw i h; omega),fun m hm=>(o.fe m hm).bF k (fun i hi h=>by have:=(o.fe m hm).bY hi; have:=hw i h; omega),o.ap,o.dj⟩
theorem Co {h:Hp} {b:Nat} {p:Option ZC} {l c:Nat} {ms:List cE} (o:rb h b p l c ms):tH h p l ms :=
 ⟨by rw [o.out.1,WQ],fun i hi=>by
  obtain ⟨a,ha,hc⟩:=o.out.cells (i:=i) (by simpa using hi);rw [WY] at hc;exact ⟨a,ha,hc⟩,fun m hm=>wF (o.fe m hm)⟩
theorem A6:Tryz.prog.underlying 27=some (.slice 88):=ax
theorem Jf:(Tryz.prog.info? 88).map (fun i=>(i.zero,i.size,i.bytes))=some (some (.agg #[.string ⟨#[]⟩,.slice none 0 0,.int .u32 0]),3,48):=ax
theorem rb.push {h h1:Hp} {b:Nat} {p p':Option ZC} {l l' c c':Nat} {ms:List cE} (o:rb h b p l c ms) {m:cE} (hm:SL h b 66 2 m.p m.l m.c (m.x.ai.map cR)) (hnew:∀ i,i∈aJ m.p->(∀ y,y∈ms->∀ j,j∈aJ y.p->j<i)/\i∉aJ p)
  (s':SL h1 b 88 3 p' l' c' ((ms++[m]).map zi)) (k:Ch (aJ p) h h1) (hp:∀ i,i∈aJ p'->i∈aJ p\/h.size<=i):rb h1 b p' l' c' (ms++[m]):=by
 have hdj:∀ y,y∈ms++[m]->∀ j,j∈aJ y.p->j∉aJ p/\j<h.size:=by
  intro y hy j hj;rcases Xj.1 hy with h | h
  ·exact ⟨o.dj y h j hj,((o.fe y h).bY hj).2⟩
  ·rw [Xu.1 h] at hj;exact ⟨(hnew j hj).2,(hm.bY hj).2⟩
 refine ⟨s',fun y hy=>?_,?_,fun y hy j hj hp'=>?_⟩
 ·have hb:=hdj y hy;rcases Xj.1 hy with h | h
  ·exact (o.fe y h).bF k fun i hi=>(hb i hi).1
  ·have h:=Xu.1 h;subst h;exact hm.bF k fun i hi=>(hb i hi).1
 ·rw [List.pairwise_append];refine ⟨o.ap,List.pairwise_singleton _ _,fun y hy z hz i hi j hj=>?_⟩;rw [Xu.1 hz] at hj;exact (hnew j hj).1 y hy i hi
 ·have:=hdj y hy j hj
  rcases hp j hp' with h | h
  ·exact this.1 h
  ·omega
structure Vz (r:SF) (es:List cE) (i:Nat) (p:Option ZC) (l c:Nat) (f:ZA->Option qY) (ms:List cE) (h:Hp):Prop where
 dn:Q3 r h es f
 own:rb h (r.V+1) p l c ms
 ms:ms.map (fun m=>(m.name,m.x))=(es.take i).map (fun e=>(e.name,eC es e.name))
 dd:∀ s y,f s=some y->∀ j,j∈aJ y.p->j∉aJ p
def Tt (es:List cE) (h:Hp) (w:ZB) (h':Hp):Prop :=
 (∃ i,∃ hi:i<es.length,jT (da es) es[i].name/\(∀ j,(hj:j<i)->¬ jT (da es) es[j].name)/\w=.tuple #[.slice none 0 0,.int .i64 (i:Int),.int .i64 24]) \/
 ((∀ v,¬ jT (da es) v)/\∃ p' l' c' ms,w=.tuple #[.slice p' l' c',.int .i64 0,.int .i64 0]/\rb h' h.size p' l' c' ms/\ms.map (fun m=>(m.name,m.x))=es.map (fun e=>(e.name,eC es e.name)))
abbrev T4:List fq:=[(false,[.slice 0]),(false,[.int .i64]),(false,[.int .i64]),(false,[.int .i64])]
theorem FC {h:Hp} {p:Option ZC} {l c:Nat} {es:List cE} (v:tH h p l es) (eo:sK es) (hp:∀ i,i∈aJ p->i<h.size) (hlen:es.length<=2^20) :
  HC Tryz.prog 49 #[.slice p l c] h fun w h'=>Tt es h w h'/\Ext h h':=by
 refine aX (args:=[.slice p l c]) mixed Tryz.func49 ax (zS p l c) ?_;unfold xf aZ bg bq aK bG dQ bh bK bd bS aM db;have hown:=dV es;have hll:=v.len;refine bm ?_;intro h1 b1 e1 z1;refine af b1 ((p,l,c),()) rfl ?_;refine an ?_;refine aH (FR (c:=c) (v.ao e1) eo.toEqsOk (fun i hi=>by have:=hp i hi; omega)) ?_;rintro _ h2 ⟨⟨g,n,rfl,mB,hg⟩,e2⟩;refine ⟨(some g,()),rfl,?_⟩;refine an ?_;have hback:=GY (succ:=cF (cY es)) eo.nodup (fun s=>(hown s).1);generalize (Em (cm es) (cF (cY es)) (aS es)).back=back at mB hback;have b2:=b1.ao e2 aj;have e02:=e1.trans e2;refine af b2 ((p,l,c),()) rfl ?_;refine an ?_;refine aR (cs:=T4) (fun x w h'=>∃ i:Nat,x.2.2.2.1=(i:Int)/\i<=es.length/\w=es.length-i/\(∀ j,(hj:j<i)->∀ hl:j<es.length,¬ jT (da es) es[j].name)/\Ext h2 h') ((none,0,0),(0:Int),(0:Int),(0:Int),()) es.length rfl ⟨0,rfl,ad,ad,fun j hj=>ad,Ch.refl _ _⟩ ?_;rintro ⟨⟨p9,l10,l11⟩,n12,n13,n14,⟨⟩⟩ w h3 ⟨i,hi,hile,rfl,hno,e3⟩;simp only at hi;subst hi;refine an ?_;have e03:=e02.trans e3;refine ak (fun g1=>?_) (fun g1=>?_)
 ·have g1:=WR g1;have hilt:i<es.length:=ad
  refine ay ⟨ad,ad⟩ ?_;obtain ⟨a,ha,hc⟩:=(v.ao e03).cells i hilt;refine av ha ?_;rw [show Int.toNat (i:Int)=i from ad];have hes:∀ s,jT (da es) es[i].name↔jT (da es) es[i].name:=fun s=>Iff.rfl
  generalize hee:es[i]=e at hc hes;refine az (e.name,(e.p,e.l,e.c),(e.x.num:Int),()) hc ?_;refine an ?_;refine bm ?_;intro h4 b4 e4 z4;refine aw b4 rfl aj ?_;intro h5 b5 k5 z5;have b5:bz h5 h3.size 88 [.string e.name,.slice e.p e.l e.c,.int .u32 e.x.num]:=b5;have e35:Ext h3 h5:=Ch.trans e4 k5 (fun j hj hl=>by simp at hj; omega);refine af b5 (e.name,()) rfl ?_;refine an ?_;refine Mf ((mB.ao e3 aj).ao e35 aj) e.name ?_;refine ak (fun g2=>?_) (fun g2=>?_)
  ·have g2:(back e.name).getD false=true:=g2;refine ⟨.inl ⟨i,hilt,?_,fun j hj=>hno j hj ad,rfl⟩,e03.trans e35⟩;rw [hee];exact (hback _).1 g2
  ·have g2:(back e.name).getD false=false:=g2;have hw:IntKind.wrap .i64 ((i:Int)+1)=((i+1:Nat):Int):=by rw [wrap_i64 ad ad]; omega
   refine aF (cs:=T4) ((p9,l10,l11),n12,n13,((i+1:Nat):Int),()) (es.length-(i+1)) rfl ad (by rw [hw]; rfl) ⟨i+1,rfl,ad,rfl,fun j hj hl=>?_,e3.trans e35⟩
   by_cases hji:j=i
   ·subst hji;rw [hee];intro hc
    have:=(hback _).2 hc
    rw [g2] at this; cases this
   ·exact hno j ad hl
 ·have g1:=WS g1;have hc:∀ v,¬ jT (da es) v:=by
   intro s hs;obtain ⟨j,hj,hjs⟩:=Xg ((hown s).1 hs.RA);have hj':j<es.length:=by simpa [aS] using hj
   have:es[j].name=s:=by rw [<- hjs]; simp [aS]
   exact hno j ad hj' (by rw [this]; exact hs)
  have b3:=b2.ao e3 aj;refine af b3 ((p,l,c),()) rfl ?_;refine an ?_;refine aH (za (v.ao e03) eo.len eo.nodup eo.sz) ?_;rintro _ h4 ⟨⟨gA,rfl,mA,hgA⟩,e4⟩;refine ⟨(some gA,()),rfl,?_⟩;refine an ?_;have hgA4:=mA.lt;refine bm ?_;intro h5 b5 e5 z5;refine aw b5 rfl aj ?_;intro h6 b6 k6 z6;have b6:bz h6 h4.size 97 [.map (some gA)]:=b6;have e46:Ext h4 h6:=Ch.trans e5 k6 (fun j hj hl=>by simp at hj; omega);refine xv (en:=eL) ?_;intro h7 m7 e7 z7;refine bm ?_;intro h8 b8 e8 z8;refine aw b8 rfl aj ?_;intro h9 b9 k9 z9;have b9:bz h9 h7.size 147 [.map (some h6.size)]:=b9;have e79:Ext h7 h9:=Ch.trans e8 k9 (fun j hj hl=>by simp at hj; omega);refine bm ?_;intro h10 b10 e10 z10;refine aw b10 rfl aj ?_;intro h11 b11 k11 z11;have e911:Ext h9 h11:=Ch.trans e10 k11 (fun j hj hl=>by simp at hj; omega);have e711:=e79.trans e911;have e611:=e7.trans e711;have e411:=e46.trans e611;have e011:=(e03.trans e4).trans e411;have hz4:=e4.size;have hz3:=e3.size;have hz2:=e2.size;generalize hr:(⟨h.size,gA,h4.size,h6.size,h7.size,h9.size⟩:SF)=r;have ho:r.ord:=by
   subst hr;unfold SF.ord;dsimp only;omega
  have hrE:r.E=h.size:=by subst hr; rfl
  have hrV:r.V+1=h11.size:=by subst hr; dsimp only; omega
  have hrV':r.V=h9.size:=by subst hr; rfl
  have hrD:r.gD=h6.size:=by subst hr; rfl
  have co:TQ r h11 es p l c:=by
   subst hr;exact ⟨(b3.ao (e4.trans e411) aj),b6.ao e611 aj,⟨_,mA.ao e411 aj⟩,b11,b9.ao e911 aj,v.ao e011⟩
  have dn:Q3 r h11 es (fun _=>none):=⟨⟨0,(by rw [hrD]; exact m7.ao e711 aj),fun s y hy=>by cases hy⟩,fun s y hy=>by cases hy⟩
  have lo:VY r es p:=⟨ho,fun i hi=>by rw [hrE]; exact hp i hi,fun e he hne i hi=>by rw [hrE]; exact (v.fe e he).Tb hne i hi⟩
  have o':=ho;unfold SF.ord at o';rw [show (⟨h.size,0,none⟩:ZC)=bx r.E by rw [hrE],show (⟨h9.size,0,none⟩:ZC)=bx r.V by rw [hrV']];refine af co.bE ((p,l,c),()) rfl ?_;refine an ?_;refine aR (cs:=[(false,[.slice 0]),(false,[.int .i64])]) (fun x w h'=>∃ (i:Nat) (p':Option ZC) (l' c':Nat) (f:ZA->Option qY) (ms:List cE),x.1=(p',l',c')/\x.2.1=(i:Int)/\i<=es.length/\w=es.length-i/\Vz r es i p' l' c' f ms h'/\Ch [r.gD] h11 h')
   ((none,0,0),(0:Int),()) es.length rfl ⟨0,none,0,0,_,[],rfl,rfl,ad,ad,⟨dn,⟨SL.nil _ _ _ _,aj,List.Pairwise.nil,aj⟩,rfl,fun s y hy=>by cases hy⟩,Ch.refl _ _⟩ ?_
  rintro ⟨⟨p26,l27,l28⟩,n29,⟨⟩⟩ w h12 ⟨i,p',l',c',f,ms,hx,hi,hile,rfl,si,k12⟩;simp only at hx hi;obtain ⟨rfl,rfl,rfl⟩:=hx;subst hi;refine an ?_;have co12:=co.ao lo k12;have hz12:=k12.size;have hmsl:ms.length=i:=by have:=Xa List.length si.ms; simp at this; omega
  refine ak (fun g2=>?_) (fun g2=>?_)
  ·have g2:=WR g2;have hilt:i<es.length:=ad
   refine ay ⟨ad,ad⟩ ?_;obtain ⟨a,ha,hcc⟩:=co12.vw.cells i hilt;refine av ha ?_;rw [show Int.toNat (i:Int)=i from ad];have htk:es.take (i+1)=es.take i++[es[i]]:=WW hilt;have hmem:es[i].name∈aS es:=W7 (WZ hilt);generalize es[i]=e at hcc htk hmem;refine az (e.name,(e.p,e.l,e.c),(e.x.num:Int),()) hcc ?_;refine an ?_;refine bm ?_;intro h13 b13 e13 z13;refine aw b13 rfl aj ?_;intro h14 b14 k14 z14;have b14:bz h14 h12.size 88 [.string e.name,.slice e.p e.l e.c,.int .u32 e.x.num]:=b14;have e1214:Ext h12 h14:=Ch.trans e13 k14 (fun j hj hl=>by simp at hj; omega);have co14:=co12.ao lo (e1214.mono aj);have dn14:=si.dn.ext e1214;have own14:=si.own.ao e1214 aj;refine af co14.bV (.func (.func 85) #[] r.tK.toArray,()) rfl ?_;refine an ?_;refine af b14 (e.name,()) rfl ?_;refine an ?_;refine uA (cap:=r.tK) S8 rfl (KI eo lo hc (aS es).length e.name (G4 hown hc hmem) hmem h14 f co14 dn14) ?_;rintro _ h15 ⟨y,f15,rfl,hyx,dn15,hfy,sb15,na15,k15⟩;refine ⟨((y.p,y.l,y.c),(y.x.num:Int),()),rfl,?_⟩;refine an ?_;have own15:=own14.ao k15 (fun i hi=>.inl (by simp at hi; omega));have co15:=co14.ao lo k15;have hz15:=k15.size;have b15:=b14.ao k15 (by simp; omega);obtain ⟨n15,m15⟩:=dn15.map;have hyv:=m15.fe _ y hfy;refine bm ?_;intro h16 b16 e16 z16;refine aw b16 rfl aj ?_;intro h17 b17 k17 z17;have b17:bz h17 h15.size 60 [.slice y.p y.l y.c,.int .u32 (y.x.num:Int)]:=b17;have e1517:Ext h15 h17:=Ch.trans e16 k17 (fun j hj hl=>by simp at hj; omega);have b1417:=b15.ao e1517 aj;refine af b1417 (e.name,()) rfl ?_;refine an ?_;refine af b17 ((y.p,y.l,y.c),()) rfl ?_;refine an ?_;rw [aE];refine af b17 ((y.x.num:Int),()) rfl ?_;refine an ?_;have hyl:y.x.ai.length<=2^20:=by rw [hyx]; exact eo.Dd hc hmem
   refine aH (DE (c:=y.c) (hyv.ao e1517 aj) ad) ?_;rintro _ h18 ⟨⟨pc,lc,cc,rfl,sc⟩,e18⟩;refine ⟨((pc,lc,cc),()),rfl,?_⟩;refine an ?_;have e1518:=e1517.trans e18;have own18:=own15.ao e1518 aj;have b1418:=b1417.ao e18 aj;have b1718:=b17.ao e18 aj;have dn18:=dn15.ext e1518;have hz17:=e1517.size;have hz18:=e18.size;have stB:∀ h',bz h' h12.size 88 [.string e.name,.slice e.p e.l e.c,.int .u32 e.x.num]->bz h' h15.size 60 [.slice y.p y.l y.c,.int .u32 (y.x.num:Int)]->T.C1 h' [(⟨h15.size,0+1,none⟩,[.int .u32 (y.x.num:Int)]),(⟨h15.size,0,none⟩,[.slice y.p y.l y.c]),(⟨h12.size,0,none⟩,[.string e.name])] :=
    fun h' b1 b2=>⟨b2.cells _ rfl,b2.cells _ rfl,b1.cells _ rfl,trivial⟩
   refine ⟨⟨b1718.cells _ rfl,b1418.cells _ rfl,trivial⟩,?_⟩;have hol:l27=ms.length:=by rw [si.own.out.1,WQ]
   refine gu (vs:=zi ⟨e.name,pc,lc,cc,y.x⟩) A6 Jf rfl ad ad ax rfl rfl own18.out ad ad ad (fun h' ex=>stB h' (b1418.ao ex aj) (b1718.ao ex aj)) ?_;intro p' c' h19 s19 k19 hp19;have hbb:∀ j,j∈aJ p26->r.V<j/\j<h12.size:=fun j hj=>by have:=si.own.out.bY hj; omega
   refine ⟨stB h19 (b1418.ao k19 (fun hj=>by have:=hbb _ hj; omega)) (b1718.ao k19 (fun hj=>by have:=hbb _ hj; omega)),?_⟩;have hw:IntKind.wrap .i64 ((i:Int)+1)=((i+1:Nat):Int):=by rw [wrap_i64 ad ad]; omega
   have hp19':∀ j,j∈aJ p'->j∈aJ p26\/h18.size<=j:=by
    intro j hj;rcases hp19 with h | ⟨a,h,hle⟩
    ·rw [h] at hj; exact .inl hj
    ·rw [h] at hj; simp [aJ] at hj; subst hj; exact .inr hle
   refine aF (cs:=[(false,[.slice 0]),(false,[.int .i64])]) ((p',l27+1,c'),((i+1:Nat):Int),()) (es.length-(i+1)) rfl ad (by rw [hw]; rfl)
    ⟨i+1,p',l27+1,c',f15,ms++[⟨e.name,pc,lc,cc,y.x⟩],rfl,rfl,ad,rfl,⟨?_,?_,?_,fun s z hz j hj hjp=>?_⟩,?_⟩
   ·obtain ⟨n18,m18⟩:=dn18.map;refine ⟨⟨n18,m18.ao k19 (fun hj=>by have:=hbb _ hj; omega) (fun s z hz j hj=>?_)⟩,fun s z hz=>?_⟩
    ·rcases na15 s z hz with h | h
     ·exact si.dd s z h j hj
     ·intro hjp
      have:=h j hj
      have:=hbb j hjp
      have:=e1214.size
      omega
    ·obtain ⟨a,b,c⟩:=dn18.of s z hz;refine ⟨a,b,fun i hi=>?_⟩
     have:=c i hi
     have:=k19.size
     omega
   ·refine own18.push (m:=⟨e.name,pc,lc,cc,y.x⟩) (sc.mono ad) (fun j hj=>?_) (by simpa using s19) k19 hp19';have hj2:=sc.bY hj;refine ⟨fun z hz k hk=>?_,fun hjp=>?_⟩
    ·have:=((own15.fe z hz).bY hk).2
     omega
    ·have:=hbb j hjp
     have:=e1214.size
     omega
   ·rw [W5,si.ms,htk,W5];show _++[(e.name,y.x)]=_;rw [hyx] <;> rfl
   ·rcases hp19' j hjp with h | h
    ·rcases na15 s z hz with k | k
     ·exact si.dd s z k j hj h
     ·have:=k j hj
      have:=hbb j h
      have:=e1214.size
      omega
    ·have:=((dn18.of s z hz).2.2 j hj).2
     omega
   ·refine Ch.trans (Ch.trans (Ch.trans (Ch.trans k12 e1214 aj) k15 (fun j hj _=>hj)) e1518 aj) k19 (fun j hj hl=>?_)
    have:=(si.own.out.bY hj).1
    omega
  ·have g2:=WS g2;have htk:es.take i=es:=Xt ad;have hms:=si.ms;rw [htk] at hms;have hr11:=e011.size;refine ⟨.inr ⟨hc,p26,l27,l28,ms,rfl,⟨si.own.out.mono ad,fun m hm=>(si.own.fe m hm).mono ad,si.own.ap,si.own.dj⟩,hms⟩,Ch.trans e011 k12 (fun j hj hl=>?_)⟩;simp at hj;omega
def wY (es:List cE) (s:ZA):Option qY:=((jO es s).bind fun k=>es[k]?).map fun e=>⟨e.p,e.l,e.c,e.x⟩
theorem wA {es:List cE} {s:ZA} {y:qY} (h:wY es s=some y):∃ e,e∈es/\e.name=s/\y=⟨e.p,e.l,e.c,e.x⟩/\cY es s=e.x:=by
 unfold wY at h;cases hp:jO es s with
 | none=>rw [hp] at h; cases h
 | some k =>
  obtain ⟨hk,h1,h2⟩:=nO hp;rw [hp,XR,WT hk] at h;exact ⟨_,WZ hk,h1,(Xc h).symm,h2⟩
theorem Jy {es:List cE} {e:cE} (hn:∀ d,d∈es->d.name≠e.name):wY (es++[e])=dy (wY es) e.name ⟨e.p,e.l,e.c,e.x⟩:=by
 funext s
 unfold wY;rw [Fc hn]
 by_cases h:s=e.name
 ·subst h;rw [cw,cw,XR,Xl ad]
  simp
 ·rw [bQ _ _ h,bQ _ _ h];cases hp:jO es s with
  | none=>rfl
  | some k =>
   obtain ⟨hk,_,_⟩:=nO hp;rw [XR,XR,Xm hk]
def cj (es:List cE) (s:ZA):Option bX:=if cm es s=true then some (cY es s) else none
theorem SM (es:List cE):(fun s=>(wY es s).map (·.x))=cj es:=by
 funext s
 unfold cj cm;cases hp:jO es s with
 | none=>simp [wY,hp]
 | some k =>
  obtain ⟨hk,_,h2⟩:=nO hp;simp only [Option.isSome_some,if_true];rw [h2];unfold wY;rw [hp,XR,WT hk] <;> rfl
theorem NK {h:Hp} {p:Option ZC} {l c:Nat} {x:bX} (v:gn h p l x.ai) {q:Option ZC} {m d:Nat} {es:List cE} (u:tH h q m es) (eo:EqsOk es) (het:∀ e,e∈es->e.x.ai.length<=2^20) (htot:(es.flatMap (·.x.ai)).length<=2^39) (hlen:es.length<=2^20) (hxl:x.ai.length<=2^20) (hxs:∀ t,t∈x.ai->t.1.size<=maxLen) :
  HC Tryz.prog 50 #[gH p l c x,.slice q m d] h fun w h'=>(∃ p' l' c',w=gH p' l' c' (ln (cV (cj es) x) tg)/\SL h' h.size 66 2 p' l' c' ((ln (cV (cj es) x) tg).ai.map cR))/\Ext h h':=by
 refine aX (args:=[gH p l c x,.slice q m d]) mixed Tryz.func50 ax (CK p l c x.num q m d) ?_;unfold AV aZ bg bq aK bG bK bd bS aM;have hll:=u.len;refine bm ?_;intro h1 b1 e1 z1;refine bm ?_;intro h2 b2 e2 z2;refine xv (en:=eL) ?_;intro h3 m3 e3 z3;have b13:=(b1.ao e2 aj).ao e3 aj;have b23:=b2.ao e3 aj;have e03:=(e1.trans e2).trans e3;refine aR (cs:=[(false,[.int .i64])]) (fun y w h'=>∃ (i:Nat) (n:Nat),y.1=(i:Int)/\i<=es.length/\w=es.length-i/\dK eL h' h2.size (wY (es.take i)) n/\Ch [h2.size] h3 h') ((0:Int),()) es.length rfl
  ⟨0,0,rfl,ad,ad,m3,Ch.refl _ _⟩ ?_
 rintro ⟨n5,⟨⟩⟩ w h4 ⟨i,n,hi,hile,rfl,m4,k4⟩;simp only at hi;subst hi;refine an ?_;have e04:Ext h h4:=Ch.trans e03 k4 (fun j hj hl=>by simp at hj; omega);have hz4:=k4.size;refine ak (fun g1=>?_) (fun g1=>?_)
 ·have g1:=WR g1;have hilt:i<es.length:=ad
  refine ay ⟨ad,ad⟩ ?_;obtain ⟨a,ha,hc⟩:=(u.ao e04).cells i hilt;refine av ha ?_;rw [show Int.toNat (i:Int)=i from ad];have htk:es.take (i+1)=es.take i++[es[i]]:=WW hilt;have hsz:=eo.sz es[i] (WZ hilt);have hnd:∀ d,d∈es.take i->d.name≠es[i].name:=by
   intro d hd he;obtain ⟨j,hj,rfl⟩:=Xg hd;rw [Xe] at hj;rw [List.getElem_take] at he;have hn:(es.map (·.name)).Nodup:=eo.nodup;exact List.pairwise_iff_getElem.1 hn j i (by rw [WQ]; omega) (by rw [WQ]; omega) ad (by simpa using he)
  generalize es[i]=e at hc htk hsz hnd;refine az (e.name,(e.p,e.l,e.c),(e.x.num:Int),()) hc ?_;refine an ?_;refine bm ?_;intro h5 b5 e5 z5;refine aw b5 rfl aj ?_;intro h6 b6 k6 z6;have b6:bz h6 h4.size 88 [.string e.name,.slice e.p e.l e.c,.int .u32 e.x.num]:=b6;have e46:Ext h4 h6:=Ch.trans e5 k6 (fun j hj hl=>by simp at hj; omega);refine af b6 (e.name,()) rfl ?_;refine an ?_;rw [aE];refine af b6 ((e.p,e.l,e.c),(e.x.num:Int),()) rfl ?_;refine an ?_;refine Ly (m4.ao e46 aj) hsz ⟨e.p,e.l,e.c,e.x⟩ ?_;intro h7 m7 k7 z7;have hw:IntKind.wrap .i64 ((i:Int)+1)=((i+1:Nat):Int):=by rw [wrap_i64 ad ad]; omega
  refine aF (cs:=[(false,[.int .i64])]) (((i+1:Nat):Int),()) (es.length-(i+1)) rfl ad (Xa (fun z=>[Value.int .i64 z]) hw) ⟨i+1,_,rfl,ad,rfl,by rw [htk,Jy hnd]; exact m7,Ch.trans (Ch.trans k4 e46 aj) k7 (fun j hj _=>hj)⟩
 ·have g1:=WS g1;have hii:es.take i=es:=Xt ad;rw [hii] at m4;have b14:=b13.ao k4 (by simp; omega);have b24:=b23.ao k4 (by simp; omega);refine af b14 ((p,l,c),(x.num:Int),()) rfl ?_;refine an ?_;have mL:F5 h4 h2.size (wY es) n:=⟨m4,fun s y hy=>by
   obtain ⟨e,he,_,rfl,_⟩:=wA hy;exact (u.fe e he).ao e04 aj⟩
  have hlens:∀ s y,wY es s=some y->y.x.ai.length<=2^20:=fun s y hy=>by
   obtain ⟨e,he,_,rfl,_⟩:=wA hy;exact het e he
  have hz0:=e04.size
  refine aH (D3 (c:=c) (v.ao e04 aj) mL ad hxs (fun s y hy=>⟨by have:=hlens s y hy; omega,by
    obtain ⟨e,he,_,rfl,_⟩:=wA hy;exact eo.ts e he⟩) ?_) ?_
  ·have:=oP (of:=fun s=>(wY es s).map (·.x)) (B:=2^20) ad (fun s y hy=>by
    cases hh:wY es s with
    | none=>simp only [hh] at hy; cases hy
    | some z =>
     simp only [hh,Option.map_some,Option.some.injEq] at hy;rw [<- hy]; exact hlens s z hh) x.ai
   exact XU this (XU (XZ _ hxl) bU)
  ·rintro _ h5 ⟨⟨p5,l5,c5,rfl,s5⟩,e5⟩;rw [SM] at s5 ⊢;have hlp:(cV (cj es) x).ai.length<=2^40:=by
    have hn:=eF (cj es) x;have h1:((cV (cj es) x).ai.map (·.1)).Nodup:=XM.2 (hn.1.imp fun h=>jk h);have h2:=jy ((cV (cj es) x).ai.map (·.1)) ((x.ai++es.flatMap (·.x.ai)).map (·.1)) h1 (fun s hs=>by
     obtain ⟨t,ht,rfl⟩:=WX.1 hs;rcases rT ht with ⟨p,hp,e,_⟩ | ⟨p,y,u,hp,ho,hu,e⟩
     ·rw [<- e]; exact W7 (Xk _ hp)
     ·rw [<- e];refine W7 (Xr _ ?_);unfold cj at ho
      by_cases hw:cm es p.1=true
      ·rw [W2 hw] at ho;obtain ⟨d,hd,_,hx⟩:=kF ((dV es _).1 hw);have ho:=Xc ho;rw [<- ho,hx] at hu;exact List.mem_flatMap.2 ⟨d,hd,hu⟩
      ·rw [WV hw] at ho; cases ho)
    rw [WQ,WQ,WU] at h2;omega
   refine ⟨((p5,l5,c5),((cV (cj es) x).num:Int),()),rfl,?_⟩;refine an ?_;have hsz5:∀ t,t∈(cV (cj es) x).ai->t.1.size<=maxLen:=by
    intro t ht;rcases rT ht with ⟨p,hp,e,_⟩ | ⟨p,y,u,hp,ho,hu,e⟩
    ·rw [<- e]; exact hxs p hp
    ·unfold cj at ho
     by_cases hw:cm es p.1=true
     ·rw [W2 hw] at ho;obtain ⟨d,hd,_,hx⟩:=kF ((dV es _).1 hw);have ho:=Xc ho;rw [<- ho,hx] at hu;rw [<- e]; exact eo.ts d hd u hu
     ·rw [WV hw] at ho; cases ho
   have ha:=Sg (h:=h5) (p:=p5) (q:=none) (l:=l5) (c:=c5) (m:=0) (d:=0) (x:=cV (cj es) x) (y:=tg) (wF s5) ⟨rfl,fun i hi=>by simp [tg] at hi⟩ (fun i hi=>(s5.bY hi).2) (fun i hi=>by simp [aJ] at hi) (by simpa [tg] using hlp) hsz5 (fun t ht=>by simp [tg] at ht);refine aH ha ?_;rintro _ h6 ⟨e6,p6,l6,c6,rfl,s6⟩;refine ⟨((p6,l6,c6),((ln (cV (cj es) x) tg).num:Int),()),rfl,?_⟩;refine an ?_;have b6:=(b24.ao e5 aj).ao e6 aj;have hz5:=e5.size;refine aw b6 rfl aj ?_;intro h7 b7 k7 z7;have b7:bz h7 h1.size 60 [.slice p6 l6 c6,.int .u32 ((ln (cV (cj es) x) tg).num:Int)]:=b7;refine af b7 ((p6,l6,c6),((ln (cV (cj es) x) tg).num:Int),()) rfl ?_;have e06:=(e04.trans e5).trans e6;exact ⟨⟨p6,l6,c6,rfl,(s6.bF k7 (fun j hj=>by have:=(s6.bY hj).1; simp; omega)).mono ad⟩,Ch.trans e06 k7 (fun j hj hl=>by simp at hj; omega)⟩
theorem xr {x:bX} (h:Nf x.ai) (hn:x.num<4294967296):ln x tg=x:=by
 unfold ln tg;simp only [List.append_nil,Nat.add_zero,Fo h,Nat.mod_eq_of_lt hn]
end Go.Sx
namespace Go.Sx.Ob
open Go.Proofs
abbrev Ky:=Nat × ZA
def Om (k:Ky):ZB:=.agg #[.int .i64 (k.1:Int),.string k.2]
theorem LY (b:Bool) (n:Int) (s:ZA) (h:Hp) (K:Unit->Hp->Prop):aQ Tryz.prog (Instr.checkKey b 10000 110 (.agg #[.int .i64 n,.string s])) h K=K () h:=ax
theorem KE:Tryz.prog.underlying 110=some (.struct (AH Tryz.prog 110)):=ax
theorem Ts:Tryz.prog.stoodInHeld 110=false:=ax
theorem Uf (n m:Int) (s t:ZA):(AH Tryz.prog 110).all (okF Tryz.prog #[.int .i64 n,.string s] #[.int .i64 m,.string t])=true:=ax
theorem Tp (n m:Int) (s t:ZA):(AH Tryz.prog 110).all (FK #[.int .i64 n,.string s] #[.int .i64 m,.string t])=(n==m && (s==t && true)):=by
 rw [<- Yb]
 kernel_rfl
theorem Vm:Aw Tryz.prog 110 Om where
 check b a h K hk:=by rw [show Om a=.agg #[.int .i64 (a.1:Int),.string a.2] from rfl,LY]; exact hk
 kind:=⟨_,KE,fun a b=>rfl⟩
 eqv a b h K hk:=by
  show aQ Tryz.prog (Op.equal 110 (.agg #[.int .i64 (a.1:Int),.string a.2]) (.agg #[.int .i64 (b.1:Int),.string b.2])) h K;rw [pt KE Ts (Uf _ _ _ _),Tp];have e:decide (a=b)=(((a.1:Nat):Int)==((b.1:Nat):Int) && (a.2==b.2 && true)):=by
   obtain ⟨a1,a2⟩:=a;obtain ⟨b1,b2⟩:=b;show decide ((a1,a2)=(b1,b2))=(((a1:Nat):Int)==((b1:Nat):Int) && (a2==b2 && true));rw [w9,Yf];simp only [Prod.mk.injEq]
   by_cases h1:a1=b1
   ·by_cases h2:a2=b2
    ·simp [h1,h2]
    ·simp [h1,h2]
   ·have:¬ ((a1:Nat):Int)=b1:=ad
    simp only [h1,false_and,decide_false]
    have:(((a1:Nat):Int)==((b1:Nat):Int))=false:=by simpa using this
    rw [this,Bool.false_and]
  rw [<- e];exact hk
 bits a:=by
  show ((2:Nat)==2 && _)=true;simp [Instr.sameBits,Om,w9]
 inj a b h:=by
  obtain ⟨a1,a2⟩:=a;obtain ⟨b1,b2⟩:=b;simp only [Om,Value.agg.injEq,Array.mk.injEq,List.cons.injEq,Value.int.injEq,Value.string.injEq,and_true,true_and] at h;rw [Prod.mk.injEq];exact ⟨ad,h.2⟩
theorem SL.part {P:Program} {L:Lp} {K:ZB->Hp->Prop} {k:T} {h:Hp} {b:Nat} {e:TypeId} {sz:Nat} {p:Option ZC} {l c:Nat} {xs:List (List ZB)} (s:SL h b e sz p l c xs) {i:Nat} (hi:i<xs.length) {vs:List ZB} {o:Nat} (ho:o+vs.length<=sz)
  (hp:vs.all cP=true) {a:ZC} (ha:p=some a) (hk:∀ h',SL h' b e sz p l c (xs.set i (kM xs[i] o vs))->Ch (aJ p) h h'->h'.size=h.size->k L K h'):T.aC ((a.add (i*sz)).add o) vs k L K h:=by
 subst ha;obtain ⟨g,pre,rest,rfl,hbg,hlc,hbox,hr⟩:=s.2.2;have hxl:xs[i].length=sz:=s.2.1 _ (WZ hi);have hx:(xs.take i).flatten.length=i*sz:=by
  rw [eR _ (fun x hx=>s.2.1 x (XY hx)),Xe,Yi ad]
 have hs:xs[i]=xs[i].take o++((xs[i].drop o).take vs.length++xs[i].drop (o+vs.length)):=by
  rw [<- List.drop_drop,Xw,Xw]
 have e0:xs.flatten=(xs.take i).flatten++(xs[i]++(xs.drop (i+1)).flatten):=by
  conv=>lhs; rw [<- Xw i xs,W8 hi]
  rw [List.flatten_append,Yq]
 have e1:pre++(xs.flatten++rest)=(pre++(xs.take i).flatten++xs[i].take o)++((xs[i].drop o).take vs.length++(xs[i].drop (o+vs.length)++((xs.drop (i+1)).flatten++rest))):=by
  rw [e0]
  conv=>lhs; rw [hs]
  simp only [List.append_assoc]
 have kp:kM xs[i] o vs=xs[i].take o++(vs++xs[i].drop (o+vs.length)):=by rw [ow _ _ _ ad,Xh]
 have e2:(xs.set i (kM xs[i] o vs)).flatten=(xs.take i).flatten++((kM xs[i] o vs)++(xs.drop (i+1)).flatten):=by
  rw [List.set_eq_take_append_cons_drop,W2 hi]
  simp
 rw [e1] at hbox;rw [aE,aE];have hlen:(pre++(xs.take i).flatten++xs[i].take o).length=pre.length+i*sz+o:=by rw [WU,WU,hx,Xe,Yi ad]
 rw [<- hlen];refine aw hbox hp (by simp; omega) ?_;intro h' hb' k' z';rw [zO (by rw [Xe,XQ]; omega)] at hb';refine hk h' ⟨by rw [Ya]; exact s.1,fun x hx=>?_,g,pre,rest,rfl,hbg,hlc,?_,hr⟩ (by simpa [aJ] using k') z'
 ·rcases X1 hx with hx | rfl
  ·exact s.2.1 x hx
  ·rw [ma]; exact hxl
 ·rw [e2,kp];simpa [List.append_assoc] using hb'
theorem ID:Tryz.prog.underlying 96=some (.map 110 3):=ax
theorem RF:(Tryz.prog.info? 3).bind (·.zero)=some (.int .i64 0):=ax
abbrev G8 (h:Hp) (g:Nat) (f:Ky->Option Nat) (n:Nat):Prop:=zc Om eI h g f n
section
variable {L:Lp} {K:ZB->Hp->Prop} {h:Hp} {g n:Nat} {f:Ky->Option Nat}
theorem FX (m:G8 h g f n) (u:Nat) (s:ZA) {k:Int->Bool->T} (hk:k (((f (u,s)).getD 0:Nat):Int) (f (u,s)).isSome L K h):T.dY Tryz.prog (Instr.lookup 96 (.map (some g)) (.agg #[.int .i64 (u:Int),.string s]) true) true [(false,[.int .i64]),(false,[.bool])] k L K h:=by
 obtain ⟨D,m,hD,hn⟩:=m;show aQ Tryz.prog (Instr.lookup 96 (.map (some g)) (Om (u,s)) true) h _;refine vC Vm ID RF m (u,s) true _ ?_;refine ⟨((((f (u,s)).getD 0:Nat):Int),(f (u,s)).isSome,()),?_,hk⟩;rw [W2 rfl,wq,hD (u,s)]
 all_goals (cases f (u,s) <;> rfl)
theorem SG (m:G8 h g f n) (u:Nat) (s:ZA) {k:Int->T} (hk:k (((f (u,s)).getD 0:Nat):Int) L K h):T.dY Tryz.prog (Instr.lookup 96 (.map (some g)) (.agg #[.int .i64 (u:Int),.string s]) false) false [(false,[.int .i64])] k L K h:=by
 obtain ⟨D,m,hD,hn⟩:=m;show aQ Tryz.prog (Instr.lookup 96 (.map (some g)) (Om (u,s)) false) h _;refine vC Vm ID RF m (u,s) false _ ?_;refine ⟨((((f (u,s)).getD 0:Nat):Int),()),?_,hk⟩;simp only [Bool.false_eq_true,if_false];rw [wq,hD (u,s)]
 all_goals (cases f (u,s) <;> rfl)
theorem Rv (m:G8 h g f n) (u:Nat) (s:ZA) {v:Int} {w:Nat} (hv:v=(w:Int)) {k:T} (hk:∀ h',G8 h' g (x7 f (u,s) w) (if (f (u,s)).isSome then n else n+1)->Ch [g] h h'->h'.size=h.size->k L K h') :
  T.ec Tryz.prog (Instr.mapUpdate 96 (.map (some g)) (.agg #[.int .i64 (u:Int),.string s]) (.int .i64 v)) k L K h:=by
 subst hv;exact Vb (en:=eI) Vm ID m (u,s) w hk
theorem T7 (m:G8 h g f n) {k:Int->T} (hk:k (n:Int) L K h):T.dY Tryz.prog (Builtin.len_ #[96] 3 #[.map (some g)]) false [(false,[.int .i64])] k L K h:=by
 obtain ⟨D,m,hD,hn⟩:=m;obtain ⟨es,clock,hg,he,hst⟩:=m;have hes:es.size=n:=by
  have:=Xa List.length he
  simp only [List.length_map,Array.length_toList] at this;omega
 show aQ _ _ _ _;unfold Builtin.len_;simp only [List.getElem?_toArray,List.getElem?_cons_zero];rw [ar,aD ID];simp only [pure_bind];rw [ar];refine fA hg aj _ ?_;simp only [pure_bind];exact ⟨((n:Int),()),by rw [hes]; rfl,hk⟩
end
def lW (n:Nat):ZA:=⟨(Lib.itoa (n:Int)).toArray⟩
theorem Dy {h:Hp} (p:fZ h) (n:Nat) (hn:n<=2^60):HC Tryz.prog 81 #[.int .i64 n] h fun v h'=>v=.string (lW n)/\Ext h h':=by
 intro W hW;subst hW;refine (Tryz.strconv_Itoa n ad ad W (FM ax p)).mono ?_;rintro e w' ⟨he,k,os,rfl⟩;refine ⟨_,he,⟨rfl,rfl,rfl⟩,rfl,?_⟩;refine ⟨by show W.heap.size<=(W.heap++os).size; simp,fun i hi _=>?_⟩;show (W.heap++os)[i]?=_;rw [Array.getElem?_append_left hi]
theorem lC {n:Nat} (hn:n<=2^60):(lW n).size<=1000:=by
 show (Lib.itoa (n:Int)).toArray.size<=1000
 have:=Lib.itoa_length_le (n:Int) ad ad
 simp
 omega
structure Lb where
 u:Nat
 s:Nat
 i:Nat
 n:ZA
deriving DecidableEq
def Am (x:Lb):List ZB:=[.int .i64 (x.u:Int),.int .i64 (x.s:Int),.int .i64 (x.i:Int),.string x.n]
structure LW where
 lb:List Lb
 num:Ky->Option Nat
 nn:Nat
 sD:Ky->Option Nat
 ne:Nat
 gl:ZA->Option Nat
 ng:Nat
def Rb:LW:=⟨[],fun _=>none,0,fun _=>none,0,fun _=>none,0⟩
def LW.has (w:LW) (k:Ky):Bool:=(w.num k).isSome || (w.sD k).isSome
def LW.own (w:LW) (u:Nat) (s:ZA):Option Ky:=if w.has (u,s) then some (u,s) else (w.gl s).map fun o=>(o,s)
def LW.word (w:LW) (k:Ky):ZA:=match w.num k with
 | some n=>(⟨#[76]⟩:ZA)++lW n
 | none=>(⟨#[69]⟩:ZA)++lW ((w.sD k).getD 0)
structure LM (h:Hp) (gN gE gG:Nat) (w:LW):Prop where
 n:G8 h gN w.num w.nn
 e:G8 h gE w.sD w.ne
 g:dK eI h gG w.gl w.ng
theorem LM.ao {ws:List Nat} {h h':Hp} {gN gE gG:Nat} {w:LW} (m:LM h gN gE gG w) (k:Ch ws h h') (h1:gN∉ws) (h2:gE∉ws) (h3:gG∉ws):LM h' gN gE gG w :=
 ⟨m.n.ao k h1,m.e.ao k h2,m.g.ao k h3⟩
structure Oi (w:LW):Prop where
 n:∀ k i,w.num k=some i->i<=2^50
 e:∀ k i,w.sD k=some i->i<=2^50
abbrev Ot (h:Hp) (g:Nat) (us lb:cn) (gN gE gG:Nat) (sp:Int):Prop:=bz h g 99 [us.v,lb.v,.map (some gN),.map (some gE),.map (some gG),.slice none 0 0,.int .i64 sp]
section
variable {h:Hp} {g gN gE gG:Nat} {us lb:cn} {sp:Int} {w:LW}
theorem K1 (b:Ot h g us lb gN gE gG sp) (m:LM h gN gE gG w) (u:Nat) (s:ZA):HC Tryz.prog 95 #[ptr g,.agg #[.int .i64 (u:Int),.string s]] h fun v h'=>v=.bool (w.has (u,s))/\Ext h h':=by
 refine aX (args:=[ptr g,.agg #[.int .i64 (u:Int),.string s]]) mixed Tryz.func95 ax (oU (some ⟨g,0,none⟩) u s) ?_;unfold ka bK dH aM cd;refine bm ?_;intro h1 b1 e1 z1;have b':=b.ao e1 aj;have m':=m.ao e1 aj aj aj;refine av rfl ?_;rw [aE];refine af b' (some gN,()) rfl ?_;refine an ?_;refine af b1 ((u:Int),s,()) rfl ?_;refine an ?_;refine FX m'.n u s ?_;refine av rfl ?_;rw [aE];refine af b' (some gE,()) rfl ?_;refine an ?_;refine af b1 ((u:Int),s,()) rfl ?_;refine an ?_;refine FX m'.e u s ?_;unfold LW.has;refine ak (fun q=>?_) (fun q=>?_)
 ·exact ⟨by rw [q]; rfl,e1⟩
 ·exact ⟨by rw [q]; rfl,e1⟩
theorem Mm (b:Ot h g us lb gN gE gG sp) (m:LM h gN gE gG w) (u:Nat) (s:ZA):HC Tryz.prog 67 #[ptr g,.int .i64 (u:Int),.string s] h fun v h'=>v=.tuple #[Om ((w.own u s).getD (0,s)),.bool (w.own u s).isSome]/\Ext h h':=by
 refine aX (args:=[ptr g,.int .i64 (u:Int),.string s]) mixed Tryz.func67 ax (pA (some ⟨g,0,none⟩) u s) ?_;unfold jY aU bK bS aM cd;refine bm ?_;intro h1 b1 e1 z1;refine bm ?_;intro h2 b2 e2 z2;have b12:=b1.ao e2 aj;refine aw b2 rfl aj ?_;intro h3 b3 k3 z3;have b3:bz h3 h1.size 110 [.int .i64 (u:Int),.string s]:=b3;have e3:Ext h h3:=Ch.trans (e1.trans e2) k3 (fun i hi hl=>by simp at hi; omega);have b13:=b12.ao k3 (by simp; omega);refine af b3 ((u:Int),s,()) rfl ?_;refine an ?_;refine aH (K1 (b.ao e3 aj) (m.ao e3 aj aj aj) u s) ?_;rintro _ h4 ⟨rfl,e4⟩;refine ⟨(w.has (u,s),()),rfl,?_⟩;refine an ?_;have e04:=e3.trans e4;have q3:=b3.lt;refine ak (fun q=>?_) (fun q=>?_)
 ·have hw:w.own u s=some (u,s):=by unfold LW.own; rw [W2 q]
  rw [hw];refine af (b3.ao e4 aj) ((u:Int),s,()) rfl ?_;refine an ?_;refine aw (b13.ao e4 aj) rfl aj ?_;intro h5 b5 k5 z5;have b5:bz h5 h.size 110 [.int .i64 (u:Int),.string s]:=b5;refine af b5 ((u:Int),s,()) rfl ?_;exact ⟨rfl,Ch.trans e04 k5 (fun i hi hl=>by simp at hi; omega)⟩
 ·have hw:w.own u s=(w.gl s).map fun o=>(o,s):=by unfold LW.own; rw [WV (by rw [q]; simp)]
  rw [hw];refine av rfl ?_;rw [aE];refine af (b.ao e04 aj) (some gG,()) rfl ?_;refine an ?_;refine C' (m.ao e04 aj aj aj).g s ?_;refine aw (b13.ao e4 aj) rfl aj ?_;intro h5 b5 k5 z5;have b5:bz h5 h.size 110 [.int .i64 (((w.gl s).getD 0:Nat):Int),.string s]:=b5;refine af b5 ((((w.gl s).getD 0:Nat):Int),s,()) rfl ?_;refine ⟨?_,Ch.trans e04 k5 (fun i hi hl=>by simp at hi; omega)⟩
  all_goals (cases w.gl s <;> rfl)
theorem BS (pw:fZ h) (b:Ot h g us lb gN gE gG sp) (m:LM h gN gE gG w) (lb':Oi w) (u:Nat) (s:ZA):HC Tryz.prog 47 #[ptr g,.agg #[.int .i64 (u:Int),.string s]] h fun v h'=>v=.string (w.word (u,s))/\Ext h h':=by
 refine aX (args:=[ptr g,.agg #[.int .i64 (u:Int),.string s]]) mixed Tryz.func47 ax (nH (some ⟨g,0,none⟩) u s) ?_;unfold jr hY bK aM cd;refine bm ?_;intro h1 b1 e1 z1;have b':=b.ao e1 aj;have m':=m.ao e1 aj aj aj;have pw1:=pw.ao e1 aj;refine av rfl ?_;rw [aE];refine af b' (some gN,()) rfl ?_;refine an ?_;refine af b1 ((u:Int),s,()) rfl ?_;refine an ?_;refine FX m'.n u s ?_;unfold LW.word;cases hn:w.num (u,s) with
 | some n =>
  refine bT rfl ?_;have hs:=lb'.n _ _ hn;refine aH (Dy pw1 n ad) ?_;rintro _ h2 ⟨rfl,e2⟩;refine ⟨(lW n,()),rfl,?_⟩;refine an ?_
  have:=lC (n:=n) ad
  refine ay ad ?_;exact ⟨rfl,e1.trans e2⟩
 | none =>
  refine bZ rfl ?_;have hs:(w.sD (u,s)).getD 0<=2^50:=by
   cases he:w.sD (u,s) with
   | none=>simp
   | some i=>exact lb'.e _ _ he
  refine av rfl ?_;rw [aE];refine af b' (some gE,()) rfl ?_;refine an ?_;refine af b1 ((u:Int),s,()) rfl ?_;refine an ?_;refine SG m'.e u s ?_;refine aH (Dy pw1 _ ad) ?_;rintro _ h2 ⟨rfl,e2⟩;refine ⟨(lW ((w.sD (u,s)).getD 0),()),rfl,?_⟩;refine an ?_;refine ⟨⟨(b1.ao e2 aj).cells _ rfl,(b'.ao e2 aj).cells _ rfl,trivial⟩,?_⟩
  have:=lC (n:=(w.sD (u,s)).getD 0) ad
  refine ay ad ?_;exact ⟨rfl,e1.trans e2⟩
end
end Go.Sx.Ob
namespace Go.Sx.Lk
open Go.Proofs Go.Sx.Ob
theorem oD {es:List cE} (hn:(aS es).Nodup) {e:cE} (he:e∈es):cY es e.name=e.x:=by
 obtain ⟨d,hd,h1,h2⟩:=kF (show e.name∈aS es from W7 he);rw [h2]
 have:∀ l:List cE,(l.map (·.name)).Nodup->d∈l->e∈l->d=e:=by
  intro l
  induction l with
  | nil=>intro _ h; simp at h
  | cons x l ih =>
   intro hn hd he;rw [Xy,List.nodup_cons] at hn;rcases Xo.1 hd with a | a <;> rcases Xo.1 he with b | b
   ·rw [a,b]
   ·exact (hn.1 (by rw [<- a,h1]; exact W7 b)).elim
   ·exact (hn.1 (by rw [<- b,<- h1]; exact W7 a)).elim
   ·exact ih hn.2 a b
 rw [this es hn hd he]
def _root_.Go.Sx.Ob.LW.bad (w:LW) (u:Nat) (x:bX):Option ZA:=(x.ai.find? fun t=>(w.own u t.1).isNone).map (·.1)
def kU (s:ZA):bX:=⟨[(s,1)],0⟩
def _root_.Go.Sx.Ob.LW.lin (w:LW) (u:Nat) (x:bX):bX:=cV (fun s=>(w.own u s).map fun k=>kU (w.word k)) x
structure EE (x:bX):Prop where
 nf:Nf x.ai
 num:x.num<4294967296
 len:x.ai.length<=2^20
 sz:∀ t,t∈x.ai->t.1.size<=maxLen
theorem jk {a b:ZA} (h:gF a b):a≠b:=fun e=>by subst e; exact absurd h (by unfold gF; simp)
theorem EE.nodup {x:bX} (g:EE x):(x.ai.map (·.1)).Nodup:=by
 rw [Yg,XM];exact g.nf.Ss.imp fun h=>jk h
def Pa (w:LW) (u:Nat) (x:bX) (h:Hp) (v:ZB) (h':Hp):Prop :=
 Ext h h'/\match w.bad u x with
 | some s=>v=.tuple #[gH none 0 0 FF,.string s,.bool false]
 | none=>∃ p l c,v=.tuple #[gH p l c (w.lin u x),.string ⟨#[]⟩,.bool true]/\SL h' h.size 66 2 p l c ((w.lin u x).ai.map cR)
theorem Gt:Tryz.prog.underlying 57=some (.slice 66):=ax
theorem Gj (s:ZA) (n:Int):Instr.fill (fun j=>some (j*2,2)) ((Array.range (1*2)).map ((Value.agg #[.string ⟨#[]⟩,.int .u32 0]).cells[· % (Value.agg #[.string ⟨#[]⟩,.int .u32 0]).cells.size]!)) [(0,.agg #[.string s,.int .u32 n])]=some ([.string s,.int .u32 n]:List ZB).toArray:=ax
theorem GU (s:ZA) (p:Option ZC) (l c:Nat) (n:Int):Instr.fill (fun j=>some (j*3,3)) ((Array.range (1*3)).map ((Value.agg #[.string ⟨#[]⟩,.slice none 0 0,.int .u32 0]).cells[· % (Value.agg #[.string ⟨#[]⟩,.slice none 0 0,.int .u32 0]).cells.size]!)) [(0,.agg #[.string s,.slice p l c,.int .u32 n])]=some ([.string s,.slice p l c,.int .u32 n]:List ZB).toArray:=ax
theorem kw {α:Type} (f:α->Bool):∀ (l:List α) (i:Nat) (hi:i<l.length),(∀ j,(hj:j<i)->f (l[j]'ad)=false)->f l[i]=true->l.find? f=some l[i]
 | [],i,hi,_,_=>by simp at hi
 | a::l,0,hi,_,h=>by simp at h; simp [h]
 | a::l,i+1,hi,h0,h=>by
  have ha:f a=false:=h0 0 ad;rw [YF,ha];simp only [List.getElem_cons_succ] at h ⊢;exact kw f l i (by simpa using hi) (fun j hj=>h0 (j+1) ad) h
theorem nQ {α:Type} (f:α->Bool) (l:List α) (h:∀ j,(hj:j<l.length)->f l[j]=false):l.find? f=none:=by
 rw [List.find?_eq_none];intro x hx;obtain ⟨j,hj,rfl⟩:=Xg hx;rw [h j hj]
 simp
section
variable {h:Hp} {g gN gE gG:Nat} {us lb:cn} {sp:Int} {w:LW}
theorem xn (pw:fZ h) (b:Ot h g us lb gN gE gG sp) (m:LM h gN gE gG w) (lb':Oi w) (u:Nat) {p:Option ZC} {l c:Nat} {x:bX} (v:gn h p l x.ai) (gx:EE x) :
  HC Tryz.prog 46 #[ptr g,.int .i64 (u:Int),gH p l c x] h (Pa w u x h):=by
 refine aX (args:=[ptr g,.int .i64 (u:Int),gH p l c x]) mixed Tryz.func46 ax (lI (some ⟨g,0,none⟩) u p l c x.num) ?_;unfold ir aZ bg bq aK hY bG bh bd bS aM cd db;have hll:=v.len;have hxl:=gx.len;refine bm ?_;intro h1 b1 e1 z1;refine bm ?_;intro h2 b2 e2 z2;have b12:=b1.ao e2 aj;have e02:=e1.trans e2;refine af b12 ((p,l,c),()) rfl ?_;refine an ?_;obtain ⟨ie,hie,hze,hse,hbe⟩:=oW Jf;refine dm (oQ (l:=0) (c:=l) A6 hie hze ad (by rw [hbe]; omega) ad ?_);intro h3 b3 e3 z3;refine ⟨_,_,_,rfl,?_⟩;have e03:=e02.trans e3;have b13:=b12.ao e3 aj;have b23:=b2.ao e3 aj;have s3:SL h3 h2.size 88 3 (some ⟨h2.size,0,none⟩) 0 l (([]:List cE).map zi):=by
  refine ⟨rfl,aj,h2.size,[],_,rfl,W9 _,⟨ad,ad⟩,b3,?_⟩;rw [WQ,Yh,hse];omega
 refine af b13 ((p,l,c),()) rfl ?_;refine an ?_
 refine aR (cs:=[(false,[.string]),(false,[.bool]),(false,[.slice 0]),(false,[.int .i64])]) (fun y m' h'=>∃ (i:Nat) (es:List cE),y.2.2.2.1=(i:Int)/\i<=l/\m'=l-i/\Ch [h2.size] h3 h'/\y.2.2.1.2.1=i/\rb h' h2.size y.2.2.1.1 i y.2.2.1.2.2 es/\(∀ j,(hj:j<i)->(hl:j<x.ai.length)->(w.own u x.ai[j].1).isSome=true) /\
   es.map (fun e=>(e.name,e.x))=(x.ai.take i).map (fun t=>(t.1,kU (w.word ((w.own u t.1).getD (0,t.1)))))) ((⟨#[]⟩:ZA),false,(some ⟨h2.size,0,none⟩,0,l),(0:Int),()) l rfl
  ⟨0,[],rfl,ad,ad,Ch.refl _ _,rfl,⟨s3,aj,List.Pairwise.nil,aj⟩,by intro j hj; omega,rfl⟩ ?_
 rintro ⟨s14,b15,⟨p16,l17,l18⟩,n19,⟨⟩⟩ m' h4 ⟨i,es,hi,hil,rfl,e34,hli,oe,hok,hes⟩;simp only at hi hli oe;subst hi hli;refine an ?_;have e04:Ext h h4:=Ch.trans e03 e34 (fun i hi hl=>by simp at hi; have:=e1.size; omega);have hel:es.length=l17:=by
  have:=Xa List.length hes
  rw [WQ,WQ,Xe] at this;omega
 have z4:=e34.size;have q3:=b3.lt;have q2:=b2.lt;have q1:=b1.lt;refine ak (fun q=>?_) (fun q=>?_)
 ·have q:=WR q;have hlt:l17<x.ai.length:=ad
  obtain ⟨a,ha,hc⟩:=v.cells l17 hlt;have htk:x.ai.take (l17+1)=x.ai.take l17++[x.ai[l17]]:=WW hlt;have hgt:x.ai[l17]=x.ai[l17]:=rfl;generalize htt:x.ai[l17]=t at hc htk;refine ay ⟨ad,ad⟩ (av ha ?_);rw [show Int.toNat (l17:Int)=l17 from ad];refine az (t.1,(t.2:Int),()) (aT e04 aj _ _ hc) ?_;refine an ?_;refine bm ?_;intro h5 b5 e5 z5;refine aw b5 rfl aj ?_;intro h6 b6 k6 z6;have b6:bz h6 h4.size 66 [.string t.1,.int .u32 (t.2:Int)]:=b6;have e46:Ext h4 h6:=Ch.trans e5 k6 (fun i hi hl=>by simp at hi; omega);have e06:=e04.trans e46;refine af b6 (t.1,()) rfl ?_;refine an ?_;refine aH (Mm (b.ao e06 aj) (m.ao e06 aj aj aj) u t.1) ?_;rintro _ h7 ⟨rfl,e7⟩;generalize hk:(w.own u t.1).getD (0,t.1)=ky;refine ⟨((ky.1:Int),ky.2,(w.own u t.1).isSome,()),rfl,?_⟩;refine an ?_;refine bm ?_;intro h8 b8 e8 z8;refine aw b8 rfl aj ?_;intro h9 b9 k9 z9;have b9:bz h9 h7.size 110 [.int .i64 (ky.1:Int),.string ky.2]:=b9;have e79:Ext h7 h9:=Ch.trans e8 k9 (fun i hi hl=>by simp at hi; omega);have e69:=e7.trans e79;have e49:=e46.trans e69;have e09:=e04.trans e49;have b69:=b6.ao e69 aj;have q6:=b6.lt;have q7:=e7.size;have q9:=b9.lt;refine ak (fun r=>?_) (fun r=>?_)
  ·have r:(w.own u t.1).isSome=false:=by simpa using r
   refine af b69 (t.1,()) rfl ?_;refine an ?_;refine aw ((b23.ao e34 (by simp; omega)).ao e49 aj) rfl aj ?_;intro h10 b10 k10 z10;have b10:bz h10 h1.size 60 [.slice none 0 0,.int .u32 0]:=b10;refine ⟨⟨(b69.ao k10 (by simp; omega)).cells _ rfl,trivial⟩,?_⟩;refine af b10 ((none,0,0),(0:Int),()) rfl ?_;refine ⟨Ch.trans e09 k10 (fun i hi hl=>by simp at hi; omega),?_⟩;have hb:w.bad u x=some t.1:=by
    unfold Ob.LW.bad;rw [kw _ x.ai l17 hlt (fun j hj=>by simpa using hok j hj ad) (by rw [htt]; simpa using r),htt] <;> rfl
   rw [hb] <;> rfl
  ·have r:(w.own u t.1).isSome=true:=by simpa using r
   refine af b69 (t.1,()) rfl ?_;refine an ?_;refine af b9 ((ky.1:Int),ky.2,()) rfl ?_;refine an ?_;refine aH (BS (pw.ao e09 aj) (b.ao e09 aj) (m.ao e09 aj aj aj) lb' ky.1 ky.2) ?_;rintro _ h10 ⟨rfl,e10⟩;refine ⟨(w.word (ky.1,ky.2),()),rfl,?_⟩;refine an ?_;have b6a:=b69.ao e10 aj;have b9a:=b9.ao e10 aj;have q10:=e10.size;refine ⟨⟨b6a.cells _ rfl,trivial⟩,?_⟩;refine ml Gt sC ad ad (Gj _ _) ?_;intro h11 b11 e11 z11;have b6b:=b6a.ao e11 aj;have b9b:=b9a.ao e11 aj;refine ⟨⟨b9b.cells _ rfl,b6b.cells _ rfl,trivial⟩,?_⟩;have e411:=(e49.trans e10).trans e11;have o11:=oe.ao e411 aj;have q11:=e411.size;refine gu (e:=88) (z:=.agg #[.string ⟨#[]⟩,.slice none 0 0,.int .u32 0]) (sz:=3) (by':=48) A6 Jf rfl ad ad (GU _ _ _ _ _) rfl rfl o11.out ad ad ad (fun h' e=>⟨(b9b.ao e aj).cells _ rfl,(b6b.ao e aj).cells _ rfl,trivial⟩) ?_;intro p' c' h12 s12 k12 hp12;have hq:∀ i,i∈aJ p16->(i=h2.size\/h3.size<=i)/\i<h4.size:=fun i hi=>by have:=oe.out.bY hi; omega
   have k312:Ch [h2.size] h3 h12:=Ch.trans (e34.trans (e411.mono aj) (fun i hi hl=>hi)) k12 (fun i hi hl=>by have:=hq i hi; simp; omega);have nin:∀ i,h4.size<=i->i∉aJ p16:=fun i h1 h2=>by have:=hq i h2; omega
   refine ⟨⟨(b9b.ao k12 (nin _ ad)).cells _ rfl,(b6b.ao k12 (nin _ ad)).cells _ rfl,trivial⟩,?_⟩;have hm:SL h11 h2.size 66 2 (some ⟨h10.size,0,none⟩) 1 1 ((kU (w.word ky)).ai.map cR) :=
    ⟨rfl,fun y hy=>by rw [Xu.1 hy]; rfl,h10.size,[],[],rfl,ad,⟨ad,ad⟩,b11,by simp [kU]⟩
   have o12:rb h12 h2.size p' (l17+1) c' (es++[⟨t.1,some ⟨h10.size,0,none⟩,1,1,kU (w.word ky)⟩]):=by
    refine o11.push (m:=⟨t.1,some ⟨h10.size,0,none⟩,1,1,kU (w.word ky)⟩) hm (fun i hi=>?_) (by rw [W5]; exact s12) k12 (fun i hi=>?_)
    ·have hi:i=h10.size:=by simpa [aJ] using hi
     subst hi;refine ⟨fun y hy j hj=>?_,nin _ ad⟩
     have:=((oe.fe y hy).bY hj).2
     omega
    ·rcases hp12 with rfl | ⟨a',rfl,ha'⟩
     ·exact .inl hi
     ·simp [aJ] at hi; right; omega
   have hw:IntKind.wrap .i64 ((l17:Int)+1)=((l17+1:Nat):Int):=by rw [wrap_i64 ad ad]; omega
   rw [hw];refine aF (cs:=[(false,[.string]),(false,[.bool]),(false,[.slice 0]),(false,[.int .i64])]) (s14,b15,(p',l17+1,c'),((l17+1:Nat):Int),()) (l-(l17+1)) rfl ad rfl
    ⟨l17+1,_,rfl,ad,rfl,k312,rfl,o12,fun j hj hjl=>?_,?_⟩
   ·by_cases hjl':j<l17
    ·exact hok j hjl' hjl
    ·have:j=l17:=ad
     subst this;rw [htt]; exact r
   ·rw [W5,hes,htk,W5];simp only [List.map_cons,List.map_nil];rw [hk]
 ·have q:=WS q;have hi:l17=x.ai.length:=ad
  subst hi;have hes:es.map (fun e=>(e.name,e.x))=x.ai.map (fun t=>(t.1,kU (w.word ((w.own u t.1).getD (0,t.1))))):=by rw [hes,Xt (W9 _)]
  have hnm:aS es=x.ai.map (·.1):=by
   have:=Xa (List.map (·.1)) hes
   rw [Xf,Xf] at this;exact this
  have hlen1:∀ e,e∈es->∃ t,t∈x.ai/\e.name=t.1/\e.x=kU (w.word ((w.own u t.1).getD (0,t.1))):=by
   intro e he
   have:(e.name,e.x)∈es.map (fun e=>(e.name,e.x)):=W7 he
   rw [hes] at this;obtain ⟨t,ht,hte⟩:=WX.1 this;rw [Prod.mk.injEq] at hte;exact ⟨t,ht,hte.1.symm,hte.2.symm⟩
  have hwsz:∀ ky:Ky,(w.word ky).size<=maxLen:=by
   intro ky;unfold LW.word;have hsz:∀ (a:ZA) n,n<=2^50->a.size=1->(a++lW n).size<=maxLen:=fun a n hn ha=>by
    rw [Yl,ha]
    have:=lC (n:=n) ad
    unfold maxLen;omega
   split
   ·rename_i n hn;exact hsz _ _ (lb'.n _ _ hn) rfl
   ·refine hsz _ _ ?_ rfl;cases he:w.sD ky with
    | none=>simp
    | some i=>exact lb'.e _ _ he
  have eo:EqsOk es:=⟨by rw [hnm]; exact gx.nodup,ad,fun e he=>by obtain ⟨t,ht,h1,_⟩:=hlen1 e he; rw [h1]; exact gx.sz t ht,
   fun e he=>by obtain ⟨t,ht,_,h1⟩:=hlen1 e he; rw [h1]; show 1<=2^40; decide,
   fun e he t' ht'=>by
    obtain ⟨t,ht,_,h1⟩:=hlen1 e he;rw [h1] at ht';rw [Xu.1 ht'];exact hwsz _⟩
  refine af ((b13).ao e34 (by simp; omega)) ((p,l,c),(x.num:Int),()) rfl ?_;refine an ?_;have ve:=Co oe;have htot:(es.flatMap (·.x.ai)).length<=2^39:=by
   have:∀ l:List cE,(∀ e,e∈l->e.x.ai.length=1)->(l.flatMap (·.x.ai)).length=l.length:=by
    intro l
    induction l with
    | nil=>intro _; rfl
    | cons a l ih=>intro hl; rw [XH,WU,ih (fun e he=>hl e (by simp [he])),hl a aj,XL,Nat.add_comm]
   rw [this es (fun e he=>by obtain ⟨t,ht,_,h1⟩:=hlen1 e he; rw [h1]; rfl)];omega
  refine aH (NK (v.ao e04 aj) ve eo (fun e he=>by obtain ⟨t,ht,_,h1⟩:=hlen1 e he; rw [h1]; show 1<=2^20; decide) htot ad hxl gx.sz) ?_;rintro _ h5 ⟨⟨p',l',c',rfl,s5⟩,e5⟩;have hlin:ln (cV (cj es) x) tg=w.lin u x:=by
   rw [xr (eF _ _) (kE gx.num)];unfold Ob.LW.lin;refine oH (fun t ht=>?_);have hin:t.1∈aS es:=by rw [hnm]; exact W7 ht
   obtain ⟨j,hj,rfl⟩:=Xg ht;have hoj:=hok j ad hj;obtain ⟨ky,hky⟩:=XJ.1 hoj;unfold cj;rw [W2 ((dV es _).2 hin),hky];obtain ⟨e,he,hen⟩:=WX.1 hin;obtain ⟨t',ht',h1,h2⟩:=hlen1 e he;rw [<- hen,oD eo.nodup he,h2,<- h1,hen,hky] <;> rfl
  rw [hlin] at s5 ⊢;refine ⟨((p',l',c'),((w.lin u x).num:Int),()),rfl,?_⟩;refine an ?_;have q5:=e5.size;refine aw ((b23.ao e34 (by simp; omega)).ao e5 aj) rfl aj ?_;intro h6 b6 k6 z6;have b6:bz h6 h1.size 60 [.slice p' l' c',.int .u32 ((w.lin u x).num:Int)]:=b6;refine af b6 ((p',l',c'),((w.lin u x).num:Int),()) rfl ?_;refine ⟨Ch.trans (e04.trans e5) k6 (fun i hi hl=>by simp at hi; omega),?_⟩;have hb:w.bad u x=none:=by
   unfold Ob.LW.bad;rw [nQ _ x.ai (fun j hj=>by simpa using hok j ad hj)] <;> rfl
  rw [hb];exact ⟨p',l',c',rfl,(s5.bF k6 (fun j hj=>by have:=(s5.bY hj).1; simp; omega)).mono ad⟩
end
theorem xj {h:Hp} {a:ZC}:∀ (vs us:List ZB) (i:Nat),aG h a i vs->aG h a (i+vs.length) us->aG h a i (vs++us)
 | [],us,i,_,h2=>by simpa using h2
 | v::vs,us,i,h1,h2=>⟨h1.1,xj vs us (i+1) h1.2 (by rw [XL] at h2; rw [show i+1+vs.length=i+(vs.length+1) from ad]; exact h2)⟩
theorem yX {h:Hp} {a:ZC}:∀ (vs:List ZB) (o i:Nat),aG h (a.add o) i vs->aG h a (o+i) vs
 | [],_,_,_=>trivial
 | v::vs,o,i,h1=>⟨by have:=h1.1; rw [add_add] at this; exact this,yX vs o (i+1) h1.2⟩
theorem fD {h:Hp} {a:ZC} {sz:Nat}:∀ (xs:List (List ZB)) (k:Nat),(∀ x,x∈xs->x.length=sz)->(∀ i,(hi:i<xs.length)->aG h (a.add ((k+i)*sz)) 0 xs[i])->aG h a (k*sz) xs.flatten
 | [],_,_,_=>trivial
 | x::xs,k,hl,hc=>by
  rw [Yq];refine xj _ _ _ ?_ ?_
  ·have:=hc 0 aj
   rw [YT] at this;exact yX _ _ 0 this
  ·rw [hl x aj,<- Nat.succ_mul];exact fD xs (k+1) (fun y hy=>hl y (by simp [hy])) (fun i hi=>by
    have:=hc (i+1) (by simpa using hi)
    rw [show k+1+i=k+(i+1) from ad];exact this)
structure Tu (h:Hp) (p:Option ZC) (l:Nat) (ws:List (cn × cB)):Prop where
 len:l=ws.length
 cells:∀ i,(hi:i<ws.length)->∃ a,p=some a/\aG h (a.add (i*10)) 0 (sB ws[i])
theorem lY {α β:Type} (R:α->β->Prop):∀ (us:List α),(∀ i,(hi:i<us.length)->∃ b,R us[i] b)->∃ bs:List β,bs.length=us.length/\∀ i,(hi:i<us.length)->(hb:i<bs.length)->R us[i] bs[i]
 | [],_=>⟨[],rfl,fun i hi=>by simp at hi⟩
 | u::us,h=>by
  obtain ⟨b,hb⟩:=h 0 aj;obtain ⟨bs,hl,hr⟩:=lY R us (fun i hi=>h (i+1) (by simpa using hi));refine ⟨b::bs,by simp [hl],fun i hi hi'=>?_⟩
  match i with
  | 0=>exact hb
  | i+1=>exact hr i (by simpa using hi) (by simpa using hi')
theorem CG {h:Hp} {p:Option ZC} {l:Nat} {us:List cB} (v:CD h p l us):∃ ws:List (cn × cB),ws.map (·.2)=us/\Tu h p l ws/\∀ u,u∈ws->iM h u.1.p u.1.l u.2:=by
 have hidx:∀ i,(hi:i<(List.range us.length).length)->∃ s:cn,∀ hj:(List.range us.length)[i]<us.length,∃ a,p=some a/\aG h (a.add ((List.range us.length)[i]*10)) 0 (Ob.encI s.p s.l s.c us[(List.range us.length)[i]])/\iM h s.p s.l us[(List.range us.length)[i]]:=by
  intro i hi;have hi':i<us.length:=by simpa using hi
  obtain ⟨a,q,m,c,ha,hc,hv⟩:=v.cells i hi';refine ⟨⟨q,m,c⟩,fun hj=>⟨a,ha,?_,?_⟩⟩
  ·simp only [List.getElem_range]; exact hc
  ·simp only [List.getElem_range]; exact hv
 obtain ⟨bs,hbl,hb⟩:=lY (fun (j:Nat) (s:cn)=>∀ hj:j<us.length,∃ a,p=some a/\aG h (a.add (j*10)) 0 (Ob.encI s.p s.l s.c us[j])/\iM h s.p s.l us[j]) (List.range us.length) hidx;rw [Yh] at hbl;have hz2:(bs.zip us).map (·.2)=us:=by rw [List.map_snd_zip ad]
 have hzl:(bs.zip us).length=us.length:=by rw [List.length_zip]; omega
 refine ⟨bs.zip us,hz2,⟨by rw [hzl]; exact v.len,fun i hi=>?_⟩,fun u hu=>?_⟩
 ·rw [hzl] at hi;have h1:=hb i (by simpa using hi) ad;simp only [List.getElem_range] at h1;obtain ⟨a,ha,hc,_⟩:=h1 hi;refine ⟨a,ha,?_⟩;rw [List.getElem_zip];exact hc
 ·obtain ⟨i,hi,rfl⟩:=Xg hu;rw [hzl] at hi;have h1:=hb i (by simpa using hi) ad;simp only [List.getElem_range] at h1;obtain ⟨a,ha,_,hv⟩:=h1 hi;rw [List.getElem_zip];exact hv
theorem oZ (ws:List (cn × cB)):(ws.map sB).flatten.all cP=true:=by
 rw [Xn];intro v hv;obtain ⟨x,hx,hv⟩:=YM.1 hv;obtain ⟨t,_,rfl⟩:=WX.1 hx;simp only [sB,Ob.encI,List.mem_cons,List.not_mem_nil,or_false] at hv;rcases hv with rfl | rfl | rfl | rfl | rfl | rfl | rfl | rfl | rfl | rfl <;> rfl
theorem mW (ws:List (cn × cB)):∀ y,y∈ws.map sB->y.length=10:=by
 intro y hy;obtain ⟨u,_,rfl⟩:=WX.1 hy;rfl
theorem Tu.src {h:Hp} {p:Option ZC} {l:Nat} {ws:List (cn × cB)} (v:Tu h p l ws):(p=none/\ws.map sB=[])\/∃ a,p=some a/\aG h a 0 (ws.map sB).flatten:=by
 cases p with
 | none =>
  left
  refine ⟨rfl,?_⟩;cases ws with
  | nil=>rfl
  | cons u us =>
   obtain ⟨a,ha,_⟩:=v.cells 0 aj;cases ha
 | some a =>
  refine .inr ⟨a,rfl,?_⟩
  have:=fD (h:=h) (a:=a) (sz:=10) (ws.map sB) 0 (mW ws) (fun i hi=>by
   rw [WQ] at hi;obtain ⟨a',ha,hc⟩:=v.cells i hi;cases ha;rw [WY,Xq];exact hc)
  rwa [YX] at this
theorem BI {h:Hp} {p:Option ZC} {l c:Nat} {ws:List (cn × cB)} (v:Tu h p l ws) (hl:ws.length<=2^30) :
  HC Tryz.prog 53 #[.slice p l c] h fun w h'=>(∃ p' c',w=.slice p' l c'/\SL h' h.size 64 10 p' l c' (ws.map sB))/\Ext h h':=by
 refine aX (args:=[.slice p l c]) mixed Tryz.func53 ax (fB p l c) ?_;unfold dS bh bd;have hll:=v.len;cases p with
 | none =>
  rcases v.src with ⟨_,h2⟩ | ⟨a,ha,_⟩
  ·refine bT rfl ?_
   have:ws=[]:=by simpa using h2
   subst this;subst hll;exact ⟨⟨none,0,rfl,SL.nil _ _ _ _⟩,Ch.refl _ _⟩
  ·cases ha
 | some a =>
  refine bZ rfl ?_;refine lf (e:=64) (z:=.agg iz.toArray) (sz:=10) (by':=104) yD Fu rfl v.src (by simpa using hll) (mW ws) (oZ ws) ad ad ?_;intro p' c' h' s' e';exact ⟨⟨p',c',rfl,s'⟩,e'⟩
structure Ws (h:Hp) (b B:Nat) (p:Option ZC) (l c:Nat) (ws:List (cn × cB)):Prop where
 out:SL h b 64 10 p l c (ws.map sB)
 lt:∀ i,i∈aJ p->i<B
 fe:∀ u,u∈ws->SL h B 66 2 u.1.p u.1.l u.1.c (u.2.e.ai.map cR)
def _root_.Go.Sx.Ob.LW.xY (w:LW) (u:Nat) (us:List cB):Option ZA:=us.findSome? fun x=>w.bad u x.e
def _root_.Go.Sx.Ob.LW.eJ (w:LW) (u:Nat) (x:cB):cB:={ x with e:=w.lin u x.e }
def SR (w:LW) (u:Nat) (us:List cB) (l:Nat) (h:Hp) (v:ZB) (h':Hp):Prop :=
 Ext h h'/\match w.xY u us with
 | some s=>v=.tuple #[.slice none 0 0,.string s,.bool false]
 | none=>∃ p c B ws,v=.tuple #[.slice p l c,.string ⟨#[]⟩,.bool true]/\Ws h' h.size B p l c ws/\h.size<=B/\ws.map (·.2)=us.map (w.eJ u)
theorem Im (w:LW) (u:Nat):∀ (us:List cB) (i:Nat) (hi:i<us.length) (s:ZA),(∀ j,(hj:j<i)->w.bad u (us[j]'ad).e=none)->w.bad u us[i].e=some s->w.xY u us=some s
 | [],i,hi,_,_,_=>by simp at hi
 | a::l,0,hi,s,_,h=>by unfold Ob.LW.xY; simp at h; simp [h]
 | a::l,i+1,hi,s,h0,h=>by
  have ha:w.bad u a.e=none:=h0 0 ad;have ih:=Im w u l i (by simpa using hi) s (fun j hj=>h0 (j+1) ad) (by simpa using h);unfold Ob.LW.xY at ih ⊢;rw [List.findSome?_cons,ha];exact ih
theorem JR (w:LW) (u:Nat) (us:List cB) (h:∀ j,(hj:j<us.length)->w.bad u us[j].e=none):w.xY u us=none:=by
 unfold Ob.LW.xY;rw [XA];intro x hx;obtain ⟨j,hj,rfl⟩:=Xg hx;exact h j hj
section
variable {h:Hp} {g gN gE gG:Nat} {us lb:cn} {sp:Int} {w:LW}
theorem zG (pw:fZ h) (b:Ot h g us lb gN gE gG sp) (m:LM h gN gE gG w) (lb':Oi w) (u:Nat) {p:Option ZC} {l c:Nat} {xs:List cB} (v:CD h p l xs) (hn:xs.length<=2^20) (gx:∀ x,x∈xs->EE x.e) :
  HC Tryz.prog 45 #[ptr g,.int .i64 (u:Int),.slice p l c] h (SR w u xs l h):=by
 refine aX (args:=[ptr g,.int .i64 (u:Int),.slice p l c]) mixed Tryz.func45 ax (mG (some ⟨g,0,none⟩) u p l c) ?_;unfold iL aZ bg bq aK bG bd bS aM cd db;have hll:=v.len;obtain ⟨ws,hws,vd,hit⟩:=CG v;have hwl:ws.length=xs.length:=by rw [<- hws,WQ]
 refine aH (BI (c:=c) vd ad) ?_;rintro _ h1 ⟨⟨p3,c3,rfl,s3⟩,e1⟩;refine ⟨((p3,l,c3),()),rfl,?_⟩;refine an ?_;have hlt3:∀ i,i∈aJ p3->h.size<=i/\i<h1.size:=fun i hi=>s3.bY hi
 refine aR (cs:=[(false,[.slice 0]),(false,[.string]),(false,[.bool]),(false,[.int .i64])]) (fun y m' h'=>∃ (i:Nat) (vs:List (cn × cB)),y.2.2.2.1=(i:Int)/\i<=l/\m'=l-i/\Ch (aJ p3) h1 h'/\vs.length=l/\SL h' h.size 64 10 p3 l c3 (vs.map sB) /\
   (∀ j,(hj:j<i)->(hv:j<vs.length)->SL h' h1.size 66 2 vs[j].1.p vs[j].1.l vs[j].1.c (vs[j].2.e.ai.map cR))/\vs.map (·.2)=(xs.take i).map (w.eJ u)++xs.drop i/\∀ j,(hj:j<i)->(hx:j<xs.length)->w.bad u xs[j].e=none)
  ((none,0,0),(⟨#[]⟩:ZA),false,(0:Int),()) l rfl ⟨0,ws,rfl,ad,ad,Ch.refl _ _,ad,s3,by intro j hj; omega,by simpa using hws,by intro j hj; omega⟩ ?_
 rintro ⟨p6,s9,b10,n11,⟨⟩⟩ m' h2 ⟨i,vs,hi,hil,rfl,k2,hvl,s2,own,dU,hok⟩;simp only at hi;subst hi;refine an ?_;have e02:Ext h h2:=Ch.trans e1 k2 (fun i hi hl=>by have:=hlt3 i hi; omega);have z1:=e1.size;have z2:=k2.size;refine ak (fun q=>?_) (fun q=>?_)
 ·have q:=WR q;have hlt:i<xs.length:=ad
  obtain ⟨aa,pp,ll,cc,ha,hc0,va0⟩:=v.cells i hlt;have gxi:=gx xs[i] (WZ hlt);have htk:xs.take (i+1)=xs.take i++[xs[i]]:=WW hlt;have hdr:xs.drop i=xs[i]::xs.drop (i+1):=W8 hlt;generalize hxi:xs[i]=x at hc0 va0 htk gxi hdr;refine ay ⟨ad,ad⟩ (av ha ?_);rw [show Int.toNat (i:Int)=i from ad];refine az (x.kind,x.name,x.inst.op,x.inst.a,x.inst.b,x.inst.n,x.inst.form,(pp,ll,cc),(x.e.num:Int),x.n,()) (aT e02 aj _ _ hc0) ?_;refine an ?_;refine bm ?_;intro h3 b3 e3 z3;refine aw b3 rfl aj ?_;intro h4 b4 k4 z4;have b4:bz h4 h2.size 64 (Ob.encI pp ll cc x):=b4;have e24:Ext h2 h4:=Ch.trans e3 k4 (fun i hi hl=>by simp at hi; omega);have e04:=e02.trans e24;rw [aE];refine af b4 ((pp,ll,cc),(x.e.num:Int),()) rfl ?_;refine an ?_;refine aH (xn (c:=cc) (pw.ao e04 aj) (b.ao e04 aj) (m.ao e04 aj aj aj) lb' u (va0.ao e04).lin.vw gxi) ?_;rintro _ h5 ⟨e5,hq⟩;have z4':=b4.lt;have z5:=e5.size;cases hb:w.bad u x.e with
  | some s =>
   rw [hb] at hq;subst hq;refine ⟨((none,0,0),(0:Int),s,false,()),rfl,?_⟩;refine an ?_;refine bm ?_;intro h6 b6 e6 z6;refine aw b6 rfl aj ?_;intro h7 b7 k7 z7;refine bT rfl ?_;refine ⟨Ch.trans ((e04.trans e5).trans e6) k7 (fun i hi hl=>by simp at hi; omega),?_⟩;rw [Im w u xs i hlt s (fun j hj=>hok j hj ad) (by rw [hxi]; exact hb)]
  | none =>
   rw [hb] at hq;obtain ⟨p7,l7,c7,rfl,s7⟩:=hq;refine ⟨((p7,l7,c7),((w.lin u x.e).num:Int),(⟨#[]⟩:ZA),true,()),rfl,?_⟩;refine an ?_;refine bm ?_;intro h6 b6 e6 z6;refine aw b6 rfl aj ?_;intro h7 b7 k7 z7;have b7:bz h7 h5.size 60 [.slice p7 l7 c7,.int .u32 ((w.lin u x.e).num:Int)]:=b7;have e57:Ext h5 h7:=Ch.trans e6 k7 (fun i hi hl=>by simp at hi; omega);have e27:=(e24.trans e5).trans e57;refine bZ rfl ?_;refine af b7 ((p7,l7,c7),((w.lin u x.e).num:Int),()) rfl ?_;refine an ?_;have s27:=s2.ao e27 aj;have hiv:i<vs.length:=ad
   obtain ⟨a3,ha3⟩:∃ a3,p3=some a3:=by
    cases hp3:p3 with
    | some a=>exact ⟨a,rfl⟩
    | none =>
     rw [hp3] at s27;have h1:=s27.2.2.2;have h2:vs=[]:=by simpa using h1
     rw [h2] at hiv;simp at hiv
   refine ay ⟨ad,ad⟩ (av ha3 ?_);refine SL.part (P:=Tryz.prog) s27 (i:=i) (by rw [WQ]; exact hiv) (o:=7) aj (by simp [cP]) ha3 ?_;intro h8 s8 k8 z8;have hvi:vs[i].2=x:=by
    have h1:(vs.map (·.2))[i]?=some vs[i].2:=by rw [XB,WT hiv]; rfl
    rw [dU,Xl (by rw [WQ,Xe]; omega),hdr] at h1;rw [WQ,Xe,show i-min i xs.length=0 from ad] at h1;simpa using h1.symm
   have hnew:(vs.map sB).set i (kM ((vs.map sB)[i]'(by rw [WQ]; exact hiv)) 7 [.slice p7 l7 c7,.int .u32 ((w.lin u x.e).num:Int)])=(vs.set i (⟨p7,l7,c7⟩,w.eJ u x)).map sB:=by
    rw [YN,WY]
    congr 1
    rcases hvv:vs[i] with ⟨⟨v1,v2,v3⟩,v4⟩
    have:v4=x:=by rw [<- hvi,hvv]
    subst this;rfl
   rw [hnew] at s8;have z7':h2.size<=h7.size:=e27.size;have hw:IntKind.wrap .i64 ((i:Int)+1)=((i+1:Nat):Int):=by rw [wrap_i64 ad ad]; omega
   rw [hw];refine aF (cs:=[(false,[.slice 0]),(false,[.string]),(false,[.bool]),(false,[.int .i64])]) (p6,s9,b10,((i+1:Nat):Int),()) (l-(i+1)) rfl ad rfl
    ⟨i+1,vs.set i (⟨p7,l7,c7⟩,w.eJ u x),rfl,ad,rfl,Ch.trans (k2.trans (e27.mono aj) (fun i hi _=>hi)) k8 (fun i hi _=>hi),by rw [Ya]; exact hvl,s8,fun j hj hjv=>?_,?_,fun j hj hjx=>?_⟩
   ·have nin:∀ x,h1.size<=x->x∉aJ p3:=fun x h1 h2=>by have:=hlt3 x h2; omega
    by_cases hji:j=i
    ·subst hji;simp only [List.getElem_set_self]
     have:SL h7 h1.size 66 2 p7 l7 c7 ((w.eJ u x).e.ai.map cR):=Sx.SL.mono (s7.ao e57 aj) (by have:=e24.size; omega)
     exact this.bF k8 (fun x hx=>nin x (this.bY hx).1)
    ·have hjlt:j<i:=ad
     rw [Ya] at hjv;simp only [List.getElem_set_ne (Ne.symm hji)]
     have:=(own j hjlt hjv).ao e27 aj
     exact this.bF k8 (fun x hx=>nin x (this.bY hx).1)
   ·rw [YN,dU,htk,W5,hdr];have hl1:((xs.take i).map (w.eJ u)).length=i:=by rw [WQ,Xe]; omega
    rw [List.set_append_right _ _ ad,hl1,YO,List.set_cons_zero]
    simp
   ·by_cases hji:j=i
    ·subst hji;rw [hxi]; exact hb
    ·exact hok j ad hjx
 ·have q:=WS q;have hi:i=l:=ad
  subst hi;refine ⟨e02,?_⟩;rw [JR w u xs (fun j hj=>hok j ad hj)];refine ⟨p3,c3,h1.size,vs,rfl,⟨s2,fun i hi=>(hlt3 i hi).2,fun u hu=>?_⟩,z1,?_⟩
  ·obtain ⟨j,hj,rfl⟩:=Xg hu;exact own j ad hj
  ·rw [dU,Xt ad,YC ad,XP]
end
def je (n sec i:Nat) (x:cB) (w:LW):LW :=
 if x.kind=1 then { w with num:=x7 w.num (n,x.name) w.lb.length,nn:=if (w.num (n,x.name)).isSome then w.nn else w.nn+1,lb:=w.lb++[⟨n,sec,i,x.name⟩] } else w
def ig (n sec:Nat):Nat->List cB->LW->LW
 | _,[],w=>w
 | i,x::l,w=>ig n sec (i+1) l (je n sec i x w)
def uo (n:Nat) (w:LW) (e:qi):LW:={ w with sD:=x7 w.sD (n,e.1) w.ne,ne:=if (w.sD (n,e.1)).isSome then w.ne else w.ne+1 }
def Fe (n:Nat) (u:bJ) (w:LW):LW:=u.aY.foldl (uo n) (ig n 1 0 u.data (ig n 0 0 u.text w))
def my:Nat->List bJ->LW->LW
 | _,[],w=>w
 | n,u::us,w=>my (n+1) us (Fe n u w)
theorem AR (n sec:Nat) (x:cB):∀ (l:List cB) (i:Nat) (w:LW),ig n sec i (l++[x]) w=je n sec (i+l.length) x (ig n sec i l w)
 | [],i,w=>rfl
 | y::l,i,w=>by
  simp only [List.cons_append,ig,List.length_cons];rw [AR n sec x l (i+1) _,show i+1+l.length=i+(l.length+1) from ad]
theorem A0 (u:bJ):∀ (l:List bJ) (n:Nat) (w:LW),my n (l++[u]) w=Fe (n+l.length) u (my n l w)
 | [],n,w=>rfl
 | y::l,n,w=>by
  simp only [List.cons_append,my,List.length_cons];rw [A0 u l (n+1) _,show n+1+l.length=n+(l.length+1) from ad]
theorem Hh (n sec i:Nat) (x:cB) (w:LW):(je n sec i x w).lb.length<=w.lb.length+1:=by
 unfold je;split
 ·simp
 ·omega
theorem lj (n sec:Nat):∀ (l:List cB) (i:Nat) (w:LW),(ig n sec i l w).lb.length<=w.lb.length+l.length
 | [],i,w=>by simp [ig]
 | x::l,i,w=>by
  have h1:=lj n sec l (i+1) (je n sec i x w);have h2:=Hh n sec i x w;simp only [ig,List.length_cons];omega
theorem Ki (n:Nat):∀ (l:List qi) (w:LW),(l.foldl (uo n) w).lb=w.lb
 | [],w=>rfl
 | e::l,w=>by rw [XI,Ki n l]; rfl
theorem Nk (n:Nat) (u:bJ) (w:LW):(Fe n u w).lb.length<=w.lb.length+(u.text.length+u.data.length):=by
 unfold Fe;rw [Ki];have h1:=lj n 1 u.data 0 (ig n 0 0 u.text w);have h2:=lj n 0 u.text 0 w;omega
def pn (us:List bJ):Nat:=(us.map fun u=>u.text.length+u.data.length+u.aY.length+u.aP.length).sum
theorem FB:∀ (l:List bJ) (n:Nat) (w:LW),(my n l w).lb.length<=w.lb.length+pn l
 | [],n,w=>by simp [my,pn]
 | u::l,n,w=>by
  have h1:=FB l (n+1) (Fe n u w);have h2:=Nk n u w;simp only [my,pn,List.map_cons,List.sum_cons] at *;omega
theorem Jm (us:List bJ) (i:Nat) (hi:i<us.length):pn (us.take i)+(us[i].text.length+us[i].data.length+us[i].aY.length+us[i].aP.length)+pn (us.drop (i+1))=pn us:=by
 have:us=us.take i++us[i]::us.drop (i+1):=by rw [<- W8 hi,Xw]
 conv=>rhs; rw [this]
 unfold pn;rw [W5,List.sum_append,Xy,XW];omega
structure EV (h:Hp) (B:Nat) (us lb:cn) (sp:Int) (w:LW):Prop where
 box:Ot h (B+3) us lb B (B+1) (B+2) sp
 maps:LM h B (B+1) (B+2) w
 pz:SL h (B+4) 76 4 lb.p lb.l lb.c (w.lb.map Am)
theorem EV.ao {h h':Hp} {B:Nat} {us lb:cn} {sp:Int} {w:LW} (s:EV h B us lb sp w) (e:Ext h h'):EV h' B us lb sp w :=
 ⟨s.box.ao e aj,s.maps.ao e aj aj aj,s.pz.ao e aj⟩
theorem EV.lt {h:Hp} {B:Nat} {us lb:cn} {sp:Int} {w:LW} (s:EV h B us lb sp w):B+4<=h.size:=by have:=s.box.lt; omega
theorem Rs:Tryz.prog.underlying 43=some (.slice 76):=ax
theorem UF:(Tryz.prog.info? 76).map (fun i=>(i.zero,i.size,i.bytes))=some (some (.agg #[.int .i64 0,.int .i64 0,.int .i64 0,.string ⟨#[]⟩]),4,40):=ax
theorem NG (a b c:Int) (s:ZA):Instr.fill (fun j=>some (j*4,4)) ((Array.range (1*4)).map ((Value.agg #[.int .i64 0,.int .i64 0,.int .i64 0,.string ⟨#[]⟩]).cells[· % (Value.agg #[.int .i64 0,.int .i64 0,.int .i64 0,.string ⟨#[]⟩]).cells.size]!)) [(0,.agg #[.int .i64 a,.int .i64 b,.int .i64 c,.string s])]=some ([.int .i64 a,.int .i64 b,.int .i64 c,.string s]:List ZB).toArray:=ax
section
variable {h0:Hp} {B:Nat} {us:cn} {sp:Int}
theorem GC {h:Hp} {lb:cn} {w:LW} (hB:h0.size=B) (e0:Ext h0 h) (s:EV h B us lb sp w) {p:Option ZC} {l c:Nat} {wH:List bJ} (v:uz h0 p l wH) (hlen:w.lb.length+pn wH<=2^30) (hnu:wH.length<=2^20) (hwl:lb.l=w.lb.length) :
  HC Tryz.prog 43 #[ptr (B+3),.slice p l c] h fun x h'=>x=.tuple #[]/\∃ lb',EV h' B us lb' sp (my 0 wH w)/\Ext h0 h':=by
 refine aX (args:=[ptr (B+3),.slice p l c]) mixed Tryz.func43 ax (mI (some ⟨B+3,0,none⟩) p l c) ?_;unfold iQ aZ bg bq aK bh bK bd bS aM;have hll:=v.len;refine aR (cs:=[(false,[.int .i64])]) (fun y m' h'=>∃ (n:Nat) (lb':cn),y.1=(n:Int)/\n<=l/\m'=l-n/\Ext h0 h'/\EV h' B us lb' sp (my 0 (wH.take n) w)) ((0:Int),()) l rfl ⟨0,lb,rfl,ad,ad,e0,s⟩ ?_;clear s e0;rintro ⟨n2,⟨⟩⟩ m' h1 ⟨n,lb1,hn,hnl,rfl,e1,s1⟩;simp only at hn;subst hn;refine an ?_;refine ak (fun q=>?_) (fun q=>?_)
 ·have q:=WR q;have hlt:n<wH.length:=ad
  obtain ⟨a,ta,tb,tc,td,ha,hc,hu⟩:=v.cells n hlt;have htk:wH.take (n+1)=wH.take n++[wH[n]]:=WW hlt;have hL:=Jm wH n hlt;have hwn:=FB (wH.take n) 0 w;generalize wH[n]=u at hc hu htk hL;generalize hw1:my 0 (wH.take n) w=w1 at *;refine ay ⟨ad,ad⟩ (av ha ?_);rw [show Int.toNat (n:Int)=n from ad];refine az ((ta.p,ta.l,ta.c),(tb.p,tb.l,tb.c),(tc.p,tc.l,tc.c),(td.p,td.l,td.c),()) (aT e1 aj _ _ hc) ?_;refine an ?_;refine bm ?_;intro h2 b2 e2 z2;refine aw b2 rfl aj ?_;intro h3 b3 k3 z3;have b3:bz h3 h1.size 30 [ta.v,tb.v,tc.v,td.v]:=b3;have e13:Ext h1 h3:=Ch.trans e2 k3 (fun i hi hl=>by simp at hi; omega);refine af b3 ((ta.p,ta.l,ta.c),()) rfl ?_;refine an ?_;rw [aE];refine af b3 ((tb.p,tb.l,tb.c),()) rfl ?_;refine an ?_;refine ml MT VT ad ad (NC ta.p ta.l ta.c tb.p tb.l tb.c) ?_;intro h4 b4 e4 z4;have b4:bz h4 h3.size 26 [ta.v,tb.v]:=b4;have e14:=e13.trans e4;have b34:=b3.ao e4 aj;have l1:=s1.lt;have q3:=b3.lt;have hsec:∀ k,k<2->∃ s:cn,([ta.v,tb.v]:List ZB).drop k=s.v::([ta.v,tb.v]:List ZB).drop (k+1)/\CD h0 s.p s.l (xO u k):=by
   intro k hk
   have:k=0\/k=1:=ad
   rcases this with rfl | rfl
   ·exact ⟨ta,rfl,hu.text⟩
   ·exact ⟨tb,rfl,hu.data⟩
  let wS:Nat->LW:=fun k=>if k=0 then w1 else if k=1 then ig n 0 0 u.text w1 else ig n 1 0 u.data (ig n 0 0 u.text w1)
  have hwS:∀ k,k<2->wS (k+1)=ig n k 0 (xO u k) (wS k):=by
   intro k hk
   have:k=0\/k=1:=ad
   rcases this with rfl | rfl <;> rfl
  have hwSl:∀ k,k<=2->(wS k).lb.length<=w1.lb.length+(if k=0 then 0 else if k=1 then u.text.length else u.text.length+u.data.length):=by
   intro k hk
   have:k=0\/k=1\/k=2:=ad
   rcases this with rfl | rfl | rfl
   ·simp [wS]
   ·exact lj n 0 u.text 0 w1
   ·have h1:=lj n 0 u.text 0 w1;have h2:=lj n 1 u.data 0 (ig n 0 0 u.text w1);show (ig n 1 0 u.data (ig n 0 0 u.text w1)).lb.length<=w1.lb.length+(u.text.length+u.data.length);omega
  refine aR (cs:=[(false,[.int .i64])]) (fun y m' h'=>∃ (k:Nat) (lb':cn),y.1=(k:Int)/\k<=2/\m'=2-k/\Ext h0 h'/\EV h' B us lb' sp (wS k)/\(h1.size∉aJ lb'.p/\h3.size∉aJ lb'.p)/\bz h' h1.size 30 [ta.v,tb.v,tc.v,td.v]/\bz h' h3.size 26 [ta.v,tb.v]) ((0:Int),()) 2 rfl
   ⟨0,lb1,rfl,ad,ad,e1.trans e14,s1.ao e14,⟨fun hm=>by have:=(s1.pz.bY hm).2; omega,fun hm=>by have:=(s1.pz.bY hm).2; omega⟩,b34,b4⟩ ?_
  clear b4 b34 e4 e14 b3 z4;rintro ⟨n26,⟨⟩⟩ m' h5 ⟨k,lb2,hk,hk2,rfl,e5,s5,d2,bu,bs⟩;simp only at hk;subst hk;refine an ?_;refine ak (fun q=>?_) (fun q=>?_)
  ·have q:=WR q;have hk:k<2:=ad
   obtain ⟨sl,hsl,vs⟩:=hsec k hk;have hwk:=hwS k hk;have hwkl:=hwSl k ad;have hsecl:(xO u k).length+(if k=0 then 0 else if k=1 then u.text.length else u.text.length+u.data.length)<=u.text.length+u.data.length:=by
    have:k=0\/k=1:=ad
    rcases this with rfl | rfl
    ·simp [xO]
    ·simp [xO]; omega
   refine ay ⟨ad,ad⟩ (av rfl ?_);rw [aE];refine af bs ((sl.p,sl.l,sl.c),()) (by rw [show 0+(k:Int).toNat*1=k from ad,hsl]; rfl) ?_;refine an ?_;generalize hxs:xO u k=xs at vs hwk hsecl;generalize hwkk:wS k=wk at *;have lk:=vs.len;refine aR (cs:=[(false,[.int .i64])]) (fun y m' h'=>∃ (i:Nat) (lb':cn),y.1=(i:Int)/\i<=sl.l/\m'=sl.l-i/\Ext h0 h'/\EV h' B us lb' sp (ig n k 0 (xs.take i) wk)/\(h1.size∉aJ lb'.p/\h3.size∉aJ lb'.p)/\bz h' h1.size 30 [ta.v,tb.v,tc.v,td.v]/\bz h' h3.size 26 [ta.v,tb.v]) ((0:Int),()) sl.l rfl
    ⟨0,lb2,rfl,ad,ad,e5,s5,d2,bu,bs⟩ ?_
   clear e5 s5 bu bs;rintro ⟨n31,⟨⟩⟩ m' h6 ⟨i,lb3,hi,hil,rfl,e6,s6,d3,bu,bs⟩;simp only at hi;subst hi;refine an ?_;refine ak (fun q=>?_) (fun q=>?_)
   ·have q:=WR q;have hix:i<xs.length:=ad
    obtain ⟨aa,pp,ll,cc,haa,hc0,va0⟩:=vs.cells i hix;have htk2:xs.take (i+1)=xs.take i++[xs[i]]:=WW hix;have hli:(ig n k 0 (xs.take i) wk).lb.length<=wk.lb.length+i:=by
     have:=lj n k (xs.take i) 0 wk
     rw [Xe] at this;omega
    have hstep:ig n k 0 (xs.take (i+1)) wk=je n k i xs[i] (ig n k 0 (xs.take i) wk):=by
     rw [htk2,AR,Xe,Xq,Yi ad]
    generalize xs[i]=x at hc0 va0 hstep;generalize hwi:ig n k 0 (xs.take i) wk=wi at *;refine ay ⟨ad,ad⟩ (av haa ?_);rw [show Int.toNat (i:Int)=i from ad];refine az (x.kind,x.name,x.inst.op,x.inst.a,x.inst.b,x.inst.n,x.inst.form,(pp,ll,cc),(x.e.num:Int),x.n,()) (aT e6 aj _ _ hc0) ?_;refine an ?_;refine bm ?_;intro h7 b7 e7 z7;refine aw b7 rfl aj ?_;intro h8 b8 k8 z8;have b8:bz h8 h6.size 64 (Ob.encI pp ll cc x):=b8;have e68:Ext h6 h8:=Ch.trans e7 k8 (fun i hi hl=>by simp at hi; omega);have bu8:=bu.ao e68 aj;have bs8:=bs.ao e68 aj;have s8:=s6.ao e68;have hw:IntKind.wrap .i64 ((i:Int)+1)=((i+1:Nat):Int):=by rw [wrap_i64 ad ad]; omega
    have l6:=s6.lt;have q6:=b8.lt;refine af b8 (x.kind,()) rfl ?_;refine an ?_;refine ak (fun r=>?_) (fun r=>?_)
    ·have r:x.kind=1:=by simpa using r
     have hp:je n k i x wi={ wi with num:=x7 wi.num (n,x.name) wi.lb.length,nn:=if (wi.num (n,x.name)).isSome then wi.nn else wi.nn+1,lb:=wi.lb++[⟨n,k,i,x.name⟩] }:=by unfold je; rw [W2 r]
     refine av rfl ?_;rw [aE];refine af s8.box (some B,()) rfl ?_;refine an ?_;rw [aE];refine af b8 (x.name,()) rfl ?_;refine an ?_;refine av rfl ?_;rw [aE];refine af s8.box ((lb3.p,lb3.l,lb3.c),()) rfl ?_;refine an ?_;have hlb3:lb3.l=wi.lb.length:=by rw [s8.pz.1,WQ]
     refine Rv s8.maps.n n x.name (w:=wi.lb.length) ad ?_;intro h9 m9 k9 z9;have x9:=s8.box.ao k9 aj;have me9:=s8.maps.e.ao k9 aj;have mg9:=s8.maps.g.ao k9 aj;have ls9:=s8.pz.bF k9 (fun j hj=>by have:=(s8.pz.bY hj).1; simp; omega);have b9:=b8.ao k9 (by simp; omega);refine av rfl ?_;rw [aE];refine af x9 ((lb3.p,lb3.l,lb3.c),()) rfl ?_;refine an ?_;refine af b9 (x.name,()) rfl ?_;refine an ?_;refine gu (e:=76) (z:=.agg #[.int .i64 0,.int .i64 0,.int .i64 0,.string ⟨#[]⟩]) (sz:=4) (by':=40) Rs UF rfl ad ad (NG _ _ _ _) rfl rfl ls9 ad ad ad (fun h' e=>⟨(b9.ao e aj).cells _ rfl,(x9.ao e aj).cells _ rfl,trivial⟩) ?_;intro p' c' h10 s10 k10 hp10;have nin:∀ j,j<B+4->j∉aJ lb3.p:=fun j h1 h2=>by have:=(s8.pz.bY h2).1; omega
     have nin2:∀ j,h6.size<=j->j∉aJ lb3.p:=fun j h1 h2=>by have:=(s6.pz.bY h2).2; omega
     have b10:=b9.ao k10 (nin2 _ ad);have x10:=x9.ao k10 (nin _ ad);refine ⟨⟨b10.cells _ rfl,trivial⟩,?_⟩;refine av rfl ?_;rw [aE];refine aw x10 rfl aj ?_;intro h11 x11 k11 z11;have x11:Ot h11 (B+3) us ⟨p',lb3.l+1,c'⟩ B (B+1) (B+2) sp:=x11;rw [hw];have e611:Ext h0 h11:=Ch.trans (Ch.trans (Ch.trans (e6.trans e68) k9 (fun j hj hl=>by simp at hj; omega)) k10 (fun j hj hl=>by have:=(s8.pz.bY hj).1; omega)) k11 (fun j hj hl=>by simp at hj; omega);have q56:h1.size<h3.size:=q3;have q36:h3.size<h6.size:=bs.lt;have d4:h1.size∉aJ p'/\h3.size∉aJ p':=by
      rcases hp10 with rfl | ⟨a',rfl,ha'⟩
      ·exact d3
      ·simp only [aJ,List.mem_singleton]; omega
     refine aF (cs:=[(false,[.int .i64])]) (((i+1:Nat):Int),()) (sl.l-(i+1)) rfl ad rfl ⟨i+1,⟨p',lb3.l+1,c'⟩,rfl,ad,rfl,e611,?_,d4,?_,?_⟩
     ·rw [hstep,hp];refine ⟨x11,⟨(m9.ao k10 (nin _ ad)).ao k11 aj,(me9.ao k10 (nin _ ad)).ao k11 aj,(mg9.ao k10 (nin _ ad)).ao k11 aj⟩,?_⟩;show SL h11 (B+4) 76 4 p' (lb3.l+1) c' ((wi.lb++[(⟨n,k,i,x.name⟩:Lb)]).map Am);rw [W5];exact s10.bF k11 (fun j hj=>by have:=(s10.bY hj).1; simp; omega)
     ·exact ((bu8.ao k9 (by simp; omega)).ao k10 d3.1).ao k11 (by simp; omega)
     ·exact ((bs8.ao k9 (by simp; omega)).ao k10 d3.2).ao k11 (by simp; omega)
    ·have r:¬ x.kind=1:=by simpa using r
     have hp:je n k i x wi=wi:=by unfold je; rw [WV r]
     rw [hw];refine aF (cs:=[(false,[.int .i64])]) (((i+1:Nat):Int),()) (sl.l-(i+1)) rfl ad rfl ⟨i+1,lb3,rfl,ad,rfl,e6.trans e68,by rw [hstep,hp]; exact s8,d3,bu8,bs8⟩
   ·have q:=WS q;have hi:i=xs.length:=ad
    subst hi;rw [Xt (W9 _)] at s6;have hw:IntKind.wrap .i64 ((k:Int)+1)=((k+1:Nat):Int):=by rw [wrap_i64 ad ad]; omega
    rw [hw];refine aF (cs:=[(false,[.int .i64])]) (((k+1:Nat):Int),()) (2-(k+1)) rfl ad rfl ⟨k+1,lb3,rfl,ad,rfl,e6,by rw [hwk]; exact s6,d3,bu,bs⟩
  ·have q:=WS q;have hk:k=2:=ad
   subst hk;clear bs;rw [aE];refine af bu ((tc.p,tc.l,tc.c),()) rfl ?_;refine an ?_;have ve:=hu.aY;have le:=ve.len;have hw2:wS 2=ig n 1 0 u.data (ig n 0 0 u.text w1):=rfl;have hne:∀ (i:Nat),(hi:i<u.aY.length)->(u.aY.take (i+1)).foldl (uo n) (wS 2)=uo n ((u.aY.take i).foldl (uo n) (wS 2)) (u.aY[i]'ad):=by
    intro i hi;rw [WW hi,XV] <;> rfl
   refine aR (cs:=[(false,[.int .i64])]) (fun y m' h'=>∃ (i:Nat),y.1=(i:Int)/\i<=tc.l/\m'=tc.l-i/\Ext h0 h'/\EV h' B us lb2 sp ((u.aY.take i).foldl (uo n) (wS 2))) ((0:Int),()) tc.l rfl
    ⟨0,rfl,ad,ad,e5,s5⟩ ?_
   clear e5 s5 bu;rintro ⟨n30,⟨⟩⟩ m' h6 ⟨i,hi,hil,rfl,e6,s6⟩;simp only at hi;subst hi;refine an ?_;refine ak (fun q=>?_) (fun q=>?_)
   ·have q:=WR q;have hix:i<u.aY.length:=ad
    obtain ⟨aa,pp,ll,cc,haa,hc0,va0,hsz⟩:=ve.cells i hix;have hne:=hne i hix;generalize u.aY[i]=x at hc0 va0 hsz hne;generalize hwi:(u.aY.take i).foldl (uo n) (wS 2)=wi at *;refine ay ⟨ad,ad⟩ (av haa ?_);rw [show Int.toNat (i:Int)=i from ad];refine az (x.1,(pp,ll,cc),(x.2.num:Int),()) (aT e6 aj _ _ hc0) ?_;refine an ?_;refine bm ?_;intro h7 b7 e7 z7;refine aw b7 rfl aj ?_;intro h8 b8 k8 z8;have b8:bz h8 h6.size 88 [.string x.1,.slice pp ll cc,.int .u32 (x.2.num:Int)]:=b8;have e68:Ext h6 h8:=Ch.trans e7 k8 (fun i hi hl=>by simp at hi; omega);have s8:=s6.ao e68;have l6:=s6.lt;have q6:=b8.lt;refine av rfl ?_;rw [aE];refine af s8.box (some (B+1),()) rfl ?_;refine an ?_;refine af b8 (x.1,()) rfl ?_;refine an ?_;refine av rfl ?_;rw [aE];refine af s8.box (some (B+1),()) rfl ?_;refine an ?_;refine T7 s8.maps.e ?_;refine ⟨⟨b8.cells _ rfl,s8.box.cells _ rfl,trivial⟩,?_⟩;refine Rv s8.maps.e n x.1 (w:=wi.ne) rfl ?_;intro h9 m9 k9 z9;have hw:IntKind.wrap .i64 ((i:Int)+1)=((i+1:Nat):Int):=by rw [wrap_i64 ad ad]; omega
    rw [hw];refine aF (cs:=[(false,[.int .i64])]) (((i+1:Nat):Int),()) (tc.l-(i+1)) rfl ad rfl ⟨i+1,rfl,ad,rfl,Ch.trans (e6.trans e68) k9 (fun j hj hl=>by simp at hj; omega),?_⟩;rw [hne];exact ⟨s8.box.ao k9 aj,⟨s8.maps.n.ao k9 aj,m9,s8.maps.g.ao k9 aj⟩,s8.pz.bF k9 (fun j hj=>by have:=(s8.pz.bY hj).1; simp; omega)⟩
   ·have q:=WS q;have hi:i=u.aY.length:=ad
    subst hi;rw [Xt (W9 _)] at s6;have hw:IntKind.wrap .i64 ((n:Int)+1)=((n+1:Nat):Int):=by rw [wrap_i64 ad ad]; omega
    rw [hw];refine aF (cs:=[(false,[.int .i64])]) (((n+1:Nat):Int),()) (l-(n+1)) rfl ad rfl ⟨n+1,lb2,rfl,ad,rfl,e6,?_⟩;rw [htk,A0,Xe,Xq,Yi ad,hw1];exact s6
 ·have q:=WS q;have hn:n=wH.length:=ad
  subst hn;rw [Xt (W9 _)] at s1;exact ⟨rfl,lb1,s1,e1⟩
end
def ui (n:Nat) (w:LW) (s:ZA):LW:={ w with gl:=dy w.gl s n,ng:=if (w.gl s).isSome then w.ng else w.ng+1 }
def EL (n:Nat) (u:bJ) (w:LW):LW:=u.aP.foldl (ui n) w
def j4:Nat->List bJ->LW->Except (Nat × ZA) LW
 | _,[],w=>.ok w
 | n,u::us,w=>match u.aP.find? fun g=>(w.gl g).isSome with
  | some g=>.error (n,g)
  | none=>j4 (n+1) us (EL n u w)
theorem K7 (n:Nat):∀ (l:List ZA) (w:LW),(l.foldl (ui n) w).lb=w.lb/\(l.foldl (ui n) w).num=w.num/\(l.foldl (ui n) w).nn=w.nn/\(l.foldl (ui n) w).sD=w.sD/\(l.foldl (ui n) w).ne=w.ne
 | [],w=>⟨rfl,rfl,rfl,rfl,rfl⟩
 | e::l,w=>by rw [XI]; exact K7 n l _
section
variable {h0:Hp} {B:Nat} {us lb:cn} {sp:Int}
theorem Kc {h:Hp} {w:LW} (hB:h0.size=B) (e0:Ext h0 h) (s:EV h B us lb sp w) {p:Option ZC} {l c:Nat} {wH:List bJ} (v:uz h0 p l wH) (hnu:wH.length<=2^20) :
  HC Tryz.prog 44 #[ptr (B+3),.slice p l c] h fun x h'=>Ext h0 h'/\match j4 0 wH w with
   | .error q=>x=.tuple #[.agg #[.int .i64 22,.int .i64 (q.1:Int),.string q.2],.bool true]
   | .ok w'=>x=.tuple #[.agg #[.int .i64 0,.int .i64 0,.string ⟨#[]⟩],.bool false]/\EV h' B us lb sp w':=by
 refine aX (args:=[ptr (B+3),.slice p l c]) mixed Tryz.func44 ax (nV (some ⟨B+3,0,none⟩) p l c) ?_;unfold jx aZ bg bq aK bK bd bS aM cd;have hll:=v.len;generalize hM:j4 0 wH w=M;refine bm ?_;intro h1 b1 e1 z1;have l0:=s.lt;refine aR (cs:=[(false,[.bool]),(false,[.int .i64])]) (fun y m' h'=>∃ (n:Nat) (w':LW),y.2.1=(n:Int)/\n<=l/\m'=l-n/\Ext h0 h'/\EV h' B us lb sp w'/\bz h' h.size 37 [.int .i64 0,.int .i64 0,.string ⟨#[]⟩]/\j4 n (wH.drop n) w'=M) (false,(0:Int),()) l rfl
  ⟨0,w,rfl,ad,ad,e0.trans e1,s.ao e1,b1,hM⟩ ?_
 have z0:=e0.size;have hlb:∀ i,i∈aJ lb.p->i<h.size:=fun i hi=>(s.pz.bY hi).2
 clear hM s b1;rintro ⟨b3,n4,⟨⟩⟩ m' h2 ⟨n,w,hn,hnl,rfl,e2,s,b1,hM⟩;simp only at hn;subst hn;refine an ?_;have q1:=b1.lt;refine ak (fun q=>?_) (fun q=>?_)
 ·have q:=WR q;have hlt:n<wH.length:=ad
  obtain ⟨a,ta,tb,tc,td,ha,hc,hu⟩:=v.cells n hlt;rw [W8 hlt] at hM;generalize wH[n]=u at hc hu hM;refine ay ⟨ad,ad⟩ (av ha ?_);rw [show Int.toNat (n:Int)=n from ad];refine az ((ta.p,ta.l,ta.c),(tb.p,tb.l,tb.c),(tc.p,tc.l,tc.c),(td.p,td.l,td.c),()) (aT e2 aj _ _ hc) ?_;refine an ?_;refine bm ?_;intro h3 b3' e3 z3;refine aw b3' rfl aj ?_;intro h4 b4 k4 z4;have b4:bz h4 h2.size 30 [ta.v,tb.v,tc.v,td.v]:=b4;have e24:Ext h2 h4:=Ch.trans e3 k4 (fun i hi hl=>by simp at hi; omega);have e04:=e2.trans e24;have s4:=s.ao e24;have b14:=b1.ao e24 aj;have vg:=hu.aP;have lg:=vg.len;have mg:=vg.many;have q4:=b4.lt;have l2:=s.lt;rw [aE];refine af b4 ((td.p,td.l,td.c),()) rfl ?_;refine an ?_;refine aR (cs:=[(false,[.bool]),(false,[.int .i64])]) (fun y m' h'=>∃ (i:Nat),y.2.1=(i:Int)/\i<=td.l/\m'=td.l-i/\h'=h4/\∀ j,(hj:j<i)->(hx:j<u.aP.length)->(w.gl u.aP[j]).isSome=false) (b3,(0:Int),()) td.l rfl
   ⟨0,rfl,ad,ad,rfl,by intro j hj; omega⟩ ?_
  rintro ⟨b22,n23,⟨⟩⟩ m' h5 ⟨i,hi,hil,rfl,rfl,hok⟩;simp only at hi;subst hi;refine an ?_;refine ak (fun q=>?_) (fun q=>?_)
  ·have q:=WR q;have hix:i<u.aP.length:=ad
   obtain ⟨aa,haa,hc0,hsz⟩:=vg.cells i hix;refine ay ⟨ad,ad⟩ (av haa ?_);rw [show Int.toNat (i:Int)=i from ad];refine az (u.aP[i],()) (aT e04 aj _ _ hc0) ?_;refine an ?_;refine av rfl ?_;rw [aE];refine af s4.box (some (B+2),()) rfl ?_;refine an ?_;refine C' s4.maps.g u.aP[i] ?_;refine ak (fun r=>?_) (fun r=>?_)
   ·refine aw b14 rfl aj ?_;intro h6 b6 k6 z6;have b6:bz h6 h.size 37 [.int .i64 22,.int .i64 (n:Int),.string u.aP[i]]:=b6;refine af b6 ((22:Int),(n:Int),u.aP[i],()) rfl ?_;have hf:M=.error (n,u.aP[i]):=by
     rw [<- hM,j4,kw _ u.aP i hix (fun j hj=>hok j hj ad) r]
    subst hf;exact ⟨Ch.trans e04 k6 (fun j hj hl=>by simp at hj; omega),rfl⟩
   ·have hw:IntKind.wrap .i64 ((i:Int)+1)=((i+1:Nat):Int):=by rw [wrap_i64 ad ad]; omega
    rw [hw];refine aF (cs:=[(false,[.bool]),(false,[.int .i64])]) (b22,((i+1:Nat):Int),()) (td.l-(i+1)) rfl ad rfl ⟨i+1,rfl,ad,rfl,rfl,fun j hj hx=>?_⟩
    by_cases hji:j=i
    ·subst hji; exact r
    ·exact hok j ad hx
  ·have q:=WS q;have hi:i=u.aP.length:=ad
   subst hi;have hM2:j4 (n+1) (wH.drop (n+1)) (EL n u w)=M:=by
    rw [<- hM,j4,nQ _ u.aP (fun j hj=>hok j hj hj)]
   refine af b4 ((td.p,td.l,td.c),()) rfl ?_;refine an ?_;refine aR (cs:=[(false,[.int .i64])]) (fun y m' h'=>∃ (i:Nat),y.1=(i:Int)/\i<=td.l/\m'=td.l-i/\Ext h0 h'/\EV h' B us lb sp ((u.aP.take i).foldl (ui n) w)/\bz h' h.size 37 [.int .i64 0,.int .i64 0,.string ⟨#[]⟩]) ((0:Int),()) td.l rfl
    ⟨0,rfl,ad,ad,e04,s4,b14⟩ ?_
   clear s4 b14;rintro ⟨n27,⟨⟩⟩ m' h6 ⟨i,hi,hil',rfl,e6,s6,b16⟩;simp only at hi;subst hi;refine an ?_;refine ak (fun q=>?_) (fun q=>?_)
   ·have q:=WR q;have hix:i<u.aP.length:=ad
    obtain ⟨aa,haa,hc0,hsz⟩:=vg.cells i hix;have hst:(u.aP.take (i+1)).foldl (ui n) w=ui n ((u.aP.take i).foldl (ui n) w) u.aP[i]:=by
     rw [WW hix,XV] <;> rfl
    generalize u.aP[i]=x at hc0 hsz hst;generalize (u.aP.take i).foldl (ui n) w=wi at *;refine ay ⟨ad,ad⟩ (av haa ?_);rw [show Int.toNat (i:Int)=i from ad];refine az (x,()) (aT e6 aj _ _ hc0) ?_;refine an ?_;refine av rfl ?_;rw [aE];refine af s6.box (some (B+2),()) rfl ?_;refine an ?_;have l6:=s6.lt;refine qO s6.maps.g hsz (w:=n) rfl ?_;intro h7 m7 k7 z7;have hw:IntKind.wrap .i64 ((i:Int)+1)=((i+1:Nat):Int):=by rw [wrap_i64 ad ad]; omega
    rw [hw];refine aF (cs:=[(false,[.int .i64])]) (((i+1:Nat):Int),()) (td.l-(i+1)) rfl ad rfl ⟨i+1,rfl,ad,rfl,Ch.trans e6 k7 (fun j hj hl=>by simp at hj; omega),?_,b16.ao k7 (by simp; omega)⟩;rw [hst];exact ⟨s6.box.ao k7 aj,⟨s6.maps.n.ao k7 aj,s6.maps.e.ao k7 aj,m7⟩,s6.pz.bF k7 (fun j hj=>by have:=(s6.pz.bY hj).1; simp; omega)⟩
   ·have q:=WS q;have hi:i=u.aP.length:=ad
    subst hi;rw [Xt (W9 _)] at s6;have hw:IntKind.wrap .i64 ((n:Int)+1)=((n+1:Nat):Int):=by rw [wrap_i64 ad ad]; omega
    rw [hw];exact aF (cs:=[(false,[.bool]),(false,[.int .i64])]) (b22,((n+1:Nat):Int),()) (l-(n+1)) rfl ad rfl ⟨n+1,_,rfl,ad,rfl,e6,s6,b16,hM2⟩
 ·have q:=WS q;have hn:n=wH.length:=ad
  subst hn;rw [YC (W9 _)] at hM;subst hM;refine aw b1 rfl aj ?_;intro h3 b3' k3 z3;have b3':bz h3 h.size 37 [.int .i64 0,.int .i64 0,.string ⟨#[]⟩]:=b3';refine af b3' ((0:Int),(0:Int),(⟨#[]⟩:ZA),()) rfl ?_;refine ⟨Ch.trans e2 k3 (fun j hj hl=>by simp at hj; omega),rfl,?_⟩;exact ⟨s.box.ao k3 (by simp; omega),s.maps.ao k3 (by simp; omega) (by simp; omega) (by simp; omega),s.pz.bF k3 (fun j hj=>by have:=hlb j hj; simp; omega)⟩
end
end Go.Sx.Lk
namespace Go.Sx.Ob
open Go.Proofs
def TL (x:cB):Bool:=decide (x.kind=2) && rC x.inst.op
def iV (l:List cB):Nat:=(l.filter TL).length
theorem Gm (l:List cB) (i:Nat) (hi:i<l.length):iV (l.take (i+1))=iV (l.take i)+if TL l[i]=true then 1 else 0:=by
 unfold iV;rw [WW hi,List.filter_append,WU]
 congr 1
 by_cases hk:TL l[i]=true <;> simp [hk]
theorem yU (l:List cB):iV l<=l.length:=Yd _ _
theorem JS {h:Hp} (t:An h) {a b c d:cn} {u:bJ} (v:nX h a b c d u):HC Tryz.prog 48 #[Ce a b c d] h fun w h'=>w=.int .i64 ((if dC u=0 then iV u.text else 0:Nat):Int)/\Ext h h':=by
 refine aX (args:=[Ce a b c d]) mixed Tryz.func48 ax (xP a.p a.l a.c b.p b.l b.c c.p c.l c.c d.p d.l d.c) ?_;unfold vD aZ bg bq aK aU cD bd bS aM;refine bm ?_;intro h1 b1 e1 z1;have b1:bz h1 h.size 30 [a.v,b.v,c.v,d.v]:=b1;refine af b1 ((a.p,a.l,a.c),(b.p,b.l,b.c),(c.p,c.l,c.c),(d.p,d.l,d.c),()) rfl ?_;refine an ?_;refine aH (vc (t.ao e1 aj) (v.ao e1)) ?_;rintro _ h2 ⟨rfl,e2⟩;refine ⟨((dC u:Int),()),rfl,?_⟩;refine an ?_;have e02:=e1.trans e2;refine ak (fun r=>?_) (fun r=>?_)
 ·have r:¬ dC u=0:=by simpa using r
  rw [WV r];exact ⟨rfl,e02⟩
 have r:dC u=0:=by simpa using r
 rw [W2 r];have b2:=b1.ao e2 aj;refine af b2 ((a.p,a.l,a.c),()) rfl ?_;refine an ?_;have n:=v.text.len;have m1:=v.text.many;refine aR (cs:=[(false,[.int .i64]),(false,[.int .i64])]) (fun y m h'=>∃ i:Nat,y.2.1=(i:Int)/\y.1=(iV (u.text.take i):Int)/\m=u.text.length-i/\i<=u.text.length/\Ext h h') ((0:Int),(0:Int),()) u.text.length rfl
  ⟨0,rfl,rfl,rfl,ad,e02⟩ ?_
 rintro ⟨n1,n2,⟨⟩⟩ m g ⟨i,hi,hn,rfl,hle,eg⟩;simp only at hi hn;subst hi hn;refine an ?_;refine ak (fun q=>?_) (fun q=>?_)
 ·have q:=WR q;have hil:i<u.text.length:=ad
  obtain ⟨aa,pp,ll,cc,rfl',hc,va⟩:=(v.text.ao eg).cells i hil;have ht:=Gm u.text i hil;have hsl:iV (u.text.take i)<=i:=by have:=yU (u.text.take i); rw [Xe] at this; omega
  generalize u.text[i]=x at hc va ht;refine ay ⟨ad,ad⟩ (av rfl' ?_);rw [show Int.toNat (i:Int)=i from ad];refine az (x.kind,x.name,x.inst.op,x.inst.a,x.inst.b,x.inst.n,x.inst.form,(pp,ll,cc),(x.e.num:Int),x.n,()) hc ?_;refine an ?_;refine bm ?_;intro g1 c1 f1 y1;refine aw c1 rfl aj ?_;intro g2 c2 k2 y2;have c2:bz g2 g.size 64 (encI pp ll cc x):=c2;have f2:Ext g g2:=Ch.trans f1 k2 (fun i hi hl=>by simp at hi; omega);have eg2:=eg.trans f2;refine af c2 (x.kind,()) rfl ?_;refine an ?_;refine ak (fun r=>?_) (fun r=>?_)
  ·have r:x.kind=2:=by simpa using r
   rw [aE];refine af c2 (x.inst.op,()) rfl ?_;refine an ?_;refine aH (DQ (t.ao eg2 aj) x.inst.op va.op.1 va.op.2) ?_;rintro _ g3 ⟨rfl,f3⟩;refine ⟨(rC x.inst.op,()),rfl,?_⟩;refine an ?_;refine ak (fun s=>?_) (fun s=>?_)
   ·rw [W2 (by unfold TL; rw [W1 r,s]; rfl)] at ht;refine aF (cs:=[(false,[.int .i64]),(false,[.int .i64])]) (((iV (u.text.take i)+1:Nat):Int),((i+1:Nat):Int),()) (u.text.length-(i+1)) rfl ad (by rw [wrap_i64 ad ad,wrap_i64 ad ad]; rfl) ?_;exact ⟨i+1,rfl,by rw [ht],rfl,ad,eg2.trans f3⟩
   ·rw [WV (by unfold TL; rw [W1 r,s]; decide)] at ht;refine aF (cs:=[(false,[.int .i64]),(false,[.int .i64])]) ((iV (u.text.take i):Int),((i+1:Nat):Int),()) (u.text.length-(i+1)) rfl ad (by rw [wrap_i64 ad ad]; rfl) ?_;exact ⟨i+1,rfl,by rw [ht]; rfl,rfl,ad,eg2.trans f3⟩
  ·have r:¬ x.kind=2:=by simpa using r
   rw [WV (by unfold TL; rw [W4 r]; simp)] at ht;refine aF (cs:=[(false,[.int .i64]),(false,[.int .i64])]) ((iV (u.text.take i):Int),((i+1:Nat):Int),()) (u.text.length-(i+1)) rfl ad (by rw [wrap_i64 ad ad]; rfl) ?_;exact ⟨i+1,rfl,by rw [ht]; rfl,rfl,ad,eg2⟩
 ·have q:=WS q
  have:i=u.text.length:=ad
  subst this;rw [XG];exact ⟨rfl,eg⟩
end Go.Sx.Ob
namespace Go.Sx.Lk
open Go.Proofs Go.Sx.Ob
variable {fs:List cE}
structure kr where
 s:cn
 ws:List (cn × cB)
def Ve:kr:=⟨lO,[]⟩
structure lR (h:Hp) (b:Nat) (x:kr):Prop where
 out:SL h b 64 10 x.s.p x.s.l x.s.c (x.ws.map sB)
 fe:∀ u,u∈x.ws->SL h b 66 2 u.1.p u.1.l u.1.c (u.2.e.ai.map cR)
theorem lR.ao {h h':Hp} {b:Nat} {x:kr} {ws:List Nat} (s:lR h b x) (k:Ch ws h h') (h1:∀ i,i∈aJ x.s.p->i∉ws) (h2:∀ u,u∈x.ws->∀ i,i∈aJ u.1.p->i∉ws):lR h' b x :=
 ⟨s.out.bF k h1,fun u hu=>(s.fe u hu).bF k (h2 u hu)⟩
theorem lR.ext {h h':Hp} {b:Nat} {x:kr} (s:lR h b x) (k:Ext h h'):lR h' b x:=s.ao k aj aj
theorem lR.mono {h:Hp} {b b':Nat} {x:kr} (s:lR h b x) (hb:b'<=b):lR h b' x:=⟨s.out.mono hb,fun u hu=>(s.fe u hu).mono hb⟩
structure kP (h:Hp) (b N:Nat) (S:Nat->kr):Prop where
 sec:∀ k,k<N->lR h b (S k)
 ap:∀ k j,k<N->j<N->k≠j->∀ x,x∈aJ (S k).s.p->x∉aJ (S j).s.p
theorem kP.ext {h h':Hp} {b N:Nat} {S:Nat->kr} (s:kP h b N S) (k:Ext h h'):kP h' b N S:=⟨fun j hj=>(s.sec j hj).ext k,s.ap⟩
theorem kP.lS {h h':Hp} {b N:Nat} {S:Nat->kr} {ws:List Nat} (s:kP h b N S) (k:Ch ws h h') (hw:∀ i,i∈ws->i<b):kP h' b N S :=
 ⟨fun j hj=>(s.sec j hj).ao k (fun i hi hm=>by have:=((s.sec j hj).out.bY hi).1; have:=hw i hm; omega) (fun u hu i hi hm=>by have:=(((s.sec j hj).fe u hu).bY hi).1; have:=hw i hm; omega),s.ap⟩
theorem kP.qm {h h':Hp} {b N:Nat} {S:Nat->kr} {b2:Nat} {e:TypeId} {sz:Nat} {p:Option ZC} {l c:Nat} {xs:List (List ZB)} (s:kP h b N S) (t:SL h b2 e sz p l c xs) (k:Ch (aJ p) h h') (h1:e≠64) (h2:e≠66):kP h' b N S :=
 ⟨fun j hj=>(s.sec j hj).ao k (fun i hi hm=>tZ t (s.sec j hj).out h1 i hm hi) (fun u hu i hi hm=>tZ t ((s.sec j hj).fe u hu) h2 i hm hi),s.ap⟩
def ko (S:Nat->kr) (k:Nat) (x:kr):Nat->kr:=fun j=>if j=k then x else S j
theorem kP.nil (h:Hp) (b:Nat) (S:Nat->kr):kP h b 0 S:=⟨fun k hk=>absurd hk ad,fun k j hk=>absurd hk ad⟩
theorem kP.add {h h':Hp} {b N:Nat} {S:Nat->kr} (s:kP h b N S) (e:Ext h h') (hb:b<=h.size) {x:kr} (hx:lR h' h.size x):kP h' b (N+1) (ko S N x):=by
 have s':=s.ext e;refine ⟨fun k hk=>?_,fun k j hk hj hkj y hy hy2=>?_⟩
 ·unfold ko
  by_cases hkN:k=N
  ·rw [W2 hkN]; exact hx.mono hb
  ·rw [WV hkN]; exact s'.sec k ad
 ·unfold ko at hy hy2
  by_cases hkN:k=N <;> by_cases hjN:j=N
  ·omega
  ·rw [W2 hkN] at hy;rw [WV hjN] at hy2;have h1:=(hx.out.bY hy).1;have h2:=((s.sec j ad).out.bY hy2).2;omega
  ·rw [WV hkN] at hy;rw [W2 hjN] at hy2;have h1:=(hx.out.bY hy2).1;have h2:=((s.sec k ad).out.bY hy).2;omega
  ·rw [WV hkN] at hy;rw [WV hjN] at hy2;exact s.ap k j ad ad hkj y hy hy2
theorem kP.put {h h':Hp} {b N:Nat} {S:Nat->kr} (s:kP h b N S) {k:Nat} (hk:k<N) {i:Nat} (hi:i<(S k).ws.length) {q:cn × cB} (hq:SL h b 66 2 q.1.p q.1.l q.1.c (q.2.e.ai.map cR))
  (ho:SL h' b 64 10 (S k).s.p (S k).s.l (S k).s.c (((S k).ws.set i q).map sB)) (c:Ch (aJ (S k).s.p) h h'):kP h' b N (ko S k ⟨(S k).s,(S k).ws.set i q⟩):=by
 have hnt:∀ {p:Option ZC} {l c:Nat} {ts:cU},SL h b 66 2 p l c (ts.map cR)->SL h' b 66 2 p l c (ts.map cR):=fun t=>t.bF c (fun x hx hm=>tZ t (s.sec k hk).out bU x hx hm)
 refine ⟨fun j hj=>?_,fun j m hj hm hjm y hy hy2=>?_⟩
 ·unfold ko
  by_cases hjk:j=k
  ·rw [W2 hjk];refine ⟨ho,fun u hu=>?_⟩;rcases X1 hu with hu | rfl
   ·exact hnt ((s.sec k hk).fe u hu)
   ·exact hnt hq
  ·rw [WV hjk];exact ⟨(s.sec j hj).out.bF c (fun x hx hm=>s.ap j k hj hk hjk x hx hm),fun u hu=>hnt ((s.sec j hj).fe u hu)⟩
 ·have e1:∀ j,(ko S k ⟨(S k).s,(S k).ws.set i q⟩ j).s=(S j).s:=by
   intro j;unfold ko
   by_cases hjk:j=k
   ·rw [W2 hjk,hjk]
   ·rw [WV hjk]
  rw [e1] at hy hy2;exact s.ap j m hj hm hjm y hy hy2
def xg (S:Nat->kr) (n:Nat):List ZB:=[(S (2*n)).s.v,(S (2*n+1)).s.v,lO.v,lO.v]
def lU (S:Nat->kr) (n:Nat):List (List ZB):=(List.range n).map (xg S)
theorem FT (S:Nat->kr) (n:Nat) (a b:kr):lU (ko (ko S (2*n) a) (2*n+1) b) (n+1)=lU S n++[[a.s.v,b.s.v,lO.v,lO.v]]:=by
 unfold lU;rw [List.range_succ,W5]
 congr 1
 ·apply XC;intro i hi;have hi:i<n:=Yo.1 hi;unfold xg ko;rw [WV ad,WV ad,WV ad,WV ad]
 ·show [xg _ n]=_;unfold xg ko;rw [WV ad,W2 rfl,W2 rfl]
theorem jf (S:Nat->kr) (n:Nat):(lU S n).length=n:=by unfold lU; simp
theorem BK (S:Nat->kr) (n i:Nat) (hi:i<(lU S n).length):(lU S n)[i]=xg S i:=by
 have:i<n:=by simpa [jf] using hi
 show ((List.range n).map (xg S))[i]'(by simpa using this)=_;rw [WY,List.getElem_range]
def eE (D:List (ZA × bX)):List cE:=D.map fun q=>⟨q.1,none,0,0,q.2⟩
def eU (e:cE):ZA × bX:=(e.name,e.x)
theorem mf (D:List (ZA × bX)):(eE D).map eU=D:=by
 unfold eE;rw [Xf];exact List.map_id _
theorem Ji {es:List cE} (h:es.map eU=fs.map eU):aS es=aS fs:=by
 have:=Xa (List.map (·.1)) h
 rw [Xf,Xf] at this;exact this
theorem Iq {es:List cE} (h:es.map eU=fs.map eU) (s:ZA):jO es s=jO fs s:=by
 unfold jO;have hf:∀ l:List cE,l.findIdx? (fun e=>decide (e.name=s))=(l.map eU).findIdx? fun q=>decide (q.1=s):=by
  intro l;rw [YI] <;> rfl
 rw [hf,hf,h]
theorem Cu {es:List cE} (h:es.map eU=fs.map eU):cm es=cm fs:=by
 funext s
 unfold cm;rw [Iq h]
theorem C7 {es:List cE} (h:es.map eU=fs.map eU):cY es=cY fs:=by
 funext s
 unfold cY;rw [Iq h];cases jO fs s with
 | none=>rfl
 | some k =>
  have hx:es[k]?.map (·.x)=fs[k]?.map (·.x):=by
   have h1:(es.map eU)[k]?=(fs.map eU)[k]?:=by rw [h]
   rw [XB,XB] at h1;have h2:=Xa (Option.map (·.2)) h1;rw [Option.map_map,Option.map_map] at h2;exact h2
  show (es[k]?.map (·.x)).getD tg=(fs[k]?.map (·.x)).getD tg;rw [hx]
theorem Iv {es:List cE} (h:es.map eU=fs.map eU):eC es=eC fs:=by
 funext s
 unfold eC;rw [Cu h,C7 h,Ji h]
theorem zI {es:List cE} (h:es.map eU=fs.map eU):da es=da fs:=by
 unfold da;rw [Cu h,C7 h]
def lL (D:List (ZA × bX)):List (ZA × bX):=D.map fun q=>(q.1,eC (eE D) q.1)
def uY (D:List (ZA × bX)) (x:bX):bX:=cV (cj (eE D)) x
theorem EO {es:List cE} (h:es.map eU=fs.map eU):cj es=cj fs:=by
 funext s
 unfold cj;rw [Cu h,C7 h]
def dX:Nat->List bJ->List (Nat × qi)
 | _,[]=>[]
 | n,u::us=>u.aY.map (fun e=>(n,e))++dX (n+1) us
theorem oa (u:bJ):∀ (l:List bJ) (n:Nat),dX n (l++[u])=dX n l++u.aY.map fun e=>(n+l.length,e)
 | [],n=>by simp [dX]
 | y::l,n=>by
  simp only [List.cons_append,dX,List.length_cons];rw [oa u l (n+1),show n+1+l.length=n+(l.length+1) from ad,Xh]
def uu (w:LW) (us:List bJ):List (ZA × bX):=(dX 0 us).map fun q=>(w.word (q.1,q.2.1),w.lin q.1 q.2.2)
def qn (w:LW) (n:Nat) (u:bJ):Option ZA:=(w.xY n u.text).or ((w.xY n u.data).or (u.aY.findSome? fun e=>w.bad n e.2))
def fv (w:LW):Nat->List bJ->Option (Nat × ZA)
 | _,[]=>none
 | n,u::us=>match qn w n u with
  | some s=>some (n,s)
  | none=>fv w (n+1) us
theorem yy (w:LW) (us:List bJ) (n:Nat) (hn:n<us.length):fv w n (us.drop n)=match qn w n us[n] with
  | some s=>some (n,s)
  | none=>fv w (n+1) (us.drop (n+1)):=by
 rw [W8 hn,fv]
noncomputable def mu (D:List (ZA × bX)):Option Nat:=by
 classical
 exact D.findIdx? fun q=>decide (jT (da (eE D)) q.1)
structure Fl where
 nT:Nat
 unit:Nat
 name:ZA
structure LP where
 w:LW
 us:List bJ
 D:List (ZA × bX)
def LP.eJ (P:LP) (n:Nat) (x:cB):cB:={ x with e:=uY (lL P.D) (P.w.lin n x.e) }
noncomputable def iR (us:List bJ):Except Fl LP :=
 if us.length=0 then .error ⟨25,0,dt⟩
 else if 64<us.length then .error ⟨4,0,dt⟩
 else match us.findIdx? fun u=>decide (dC u≠0) with
 | some n=>.error ⟨31,n,dt⟩
 | none=>match j4 0 us (my 0 us Rb) with
  | .error q=>.error ⟨22,q.1,q.2⟩
  | .ok w=>match fv w 0 us with
   | some q=>.error ⟨23,q.1,q.2⟩
   | none=>match mu (uu w us) with
    | some i=>.error ⟨24,((dX 0 us).map fun q=>(q.1,q.2.1)).getD i (0,dt) |>.1,((dX 0 us).map fun q=>(q.1,q.2.1)).getD i (0,dt) |>.2⟩
    | none=>.ok ⟨w,us,uu w us⟩
def cg (u:bJ):List bX:=u.text.map (·.e)++u.data.map (·.e)++u.aY.map (·.2)
theorem FG {x:bX} (h:Oq x=true):Good x:=by
 unfold Oq at h;simp only [Bool.and_eq_true,decide_eq_true_eq] at h;obtain ⟨t,n⟩:=x;obtain ⟨rfl,rfl⟩:=h;exact ⟨⟨List.Pairwise.nil,aj⟩,aj,bU⟩
theorem DT {x:cB} {k:Nat} (h:cr x k=true) (hc:∀ t,t∈x.e.ai->t.2<4294967296) (hn:x.e.num<4294967296):Good x.e:=by
 have z:z3 x=true->Good x.e:=FG;unfold cr at h
 repeat' split at h
 all_goals try simp only [Bool.and_eq_true] at h
 ·exact z h.1.2
 ·have h1:=h.1.1.2;unfold yM at h1;simp only [Bool.and_eq_true] at h1;have h2:=h1.2;split at h2
  ·simp only [Bool.and_eq_true] at h2;exact Dh h2.2 hc hn
  ·simp only [Bool.and_eq_true] at h2;exact FG h2.2
 ·exact z h.2
 ·exact z h.1.2
 ·exact z h.2
 ·exact Dh h.1.1.1.2 hc hn
 ·exact z h.2
 ·cases h
theorem qq {sec:Nat}:∀ {l:List cB} {D:List ZA},eH sec D l=true->∀ x,x∈l->cr x sec=true
 | [],_,_,x,hx=>by simp at hx
 | y::l,D,h,x,hx=>by
  unfold eH at h;rw [XO] at h;rcases Xo.1 hx with rfl | hx
  ·have:=h.1
   unfold xL at this;rw [XO] at this;exact this.1
  ·exact qq h.2 x hx
theorem tL:∀ {l:List qi} {D:List ZA},fT D l=true->∀ e,e∈l->cM e.1.data.toList=true/\mS none e.2.ai=true
 | [],_,_,x,hx=>by simp at hx
 | y::l,D,h,x,hx=>by
  unfold fT at h;rw [XO] at h;rcases Xo.1 hx with rfl | hx
  ·have:=h.1
   unfold Bc at this;simp only [Bool.and_eq_true] at this;exact ⟨this.1.2,this.2⟩
  ·exact tL h.2 x hx
theorem zd {u:bJ} (h:dC u=0) (hc:∀ x,x∈cg u->x.num<4294967296/\∀ t,t∈x.ai->t.2<4294967296):∀ x,x∈cg u->Good x:=by
 have h1:=(vW h).2;unfold sO at h1;simp only [Bool.and_eq_true] at h1;obtain ⟨⟨⟨h1,h2⟩,h3⟩,h4⟩:=h1;intro x hx;have hcx:=hc x hx;unfold cg at hx;rcases Xj.1 hx with hx | hx
 ·rcases Xj.1 hx with hx | hx
  ·obtain ⟨y,hy,rfl⟩:=WX.1 hx;exact DT (qq h1 y hy) hcx.2 hcx.1
  ·obtain ⟨y,hy,rfl⟩:=WX.1 hx;exact DT (qq h2 y hy) hcx.2 hcx.1
 ·obtain ⟨y,hy,rfl⟩:=WX.1 hx;exact Dh (tL h3 y hy).2 hcx.2 hcx.1
structure FJ (us:List bJ):Prop where
 many:us.length<=2^20
 items:pn us<=2^20
 num:∀ u,u∈us->∀ x,x∈cg u->x.num<4294967296/\∀ t,t∈x.ai->t.2<4294967296
 ai:((us.flatMap cg).flatMap (·.ai)).length<=2^20
theorem FJ.len {us:List bJ} (s:FJ us) {u:bJ} (hu:u∈us) {x:bX} (hx:x∈cg u):x.ai.length<=2^20:=by
 have h1:x∈us.flatMap cg:=List.mem_flatMap.2 ⟨u,hu,hx⟩;exact XU (gC (·.ai) h1) s.ai
def Hc (of:ZA->Option bX) (t:ZA × Nat):bX:=match of t.1 with
 | none=>⟨[t],0⟩
 | some y=>Cp y t.2
def fy (of:ZA->Option bX) (o:bX) (t:ZA × Nat):bX:=xe o (Hc of t)
theorem IF (l:cU) {m k:cU} (hk:Nf k) (hc:∀ s,cf k s % 4294967296=cf m s % 4294967296):JE (Dk l) k=Dk (l++m) :=
 (O7 (zH l) hk).OZ (zH _) fun s=>by
  have h1:=hc s;have h2:=O1 (Dk l) k s;have h3:=zN l s;have h4:=zN (l++m) s;rw [JP] at h4;omega
theorem BV {of:ZA->Option bX} (hof:∀ s y,of s=some y->Nf y.ai):∀ (ts l:cU) (n:Nat),n<4294967296->(∀ t,t∈ts->t.2≠0/\t.2<4294967296) ->
  ts.foldl (fy of) ⟨Dk l,n⟩=⟨Dk (l++ts.flatMap (qA of)),ts.foldl (fM of) n⟩
 | [],l,n,_,_=>aj
 | t::ts,l,n,hn,ht=>by
  have h1:fy of ⟨Dk l,n⟩ t=⟨Dk (l++qA of t),fM of n t⟩/\fM of n t<4294967296:=by
   have ht0:=ht t aj;unfold fy Hc qA fM xe;cases ho:of t.1 with
   | none =>
    refine ⟨?_,hn⟩;simp only [Nat.add_zero];rw [Yt hn]
    congr 1
    exact IF l ⟨aj,by simpa using ht0⟩ fun s=>rfl
   | some y =>
    refine ⟨?_,YY _ bU⟩;unfold Cp;simp only;rw [YU y.num t.2]
    congr 1
    refine IF l (IY (hof _ _ ho)) fun s=>?_
    rw [I9]
    have:=Cy t.2 y.ai s
    rw [<- this]
    congr 2
    exact XC fun p _=>by rw [YU]
  rw [XI,h1.1,BV hof ts _ _ h1.2 (fun u hu=>ht u (Xb _ hu)),Xh,XH,XI]
theorem Us:Dk []=[]:=Fo Nf.nil
theorem B8 {of:ZA->Option bX} (hof:∀ s y,of s=some y->Nf y.ai) {x:bX} (hx:Nf x.ai) (hn:x.num<4294967296):x.ai.foldl (fy of) ⟨[],x.num⟩=cV of x:=by
 have:=BV hof x.ai [] x.num hn hx.2
 rw [Yj,Us] at this;exact this
theorem Bp {of:ZA->Option bX} (hof:∀ s y,of s=some y->Nf y.ai) {x:bX} (hx:Nf x.ai) (hn:x.num<4294967296) (i:Nat):(x.ai.take i).foldl (fy of) ⟨[],x.num⟩=cV of ⟨x.ai.take i,x.num⟩ :=
 B8 (x:=⟨x.ai.take i,x.num⟩) hof ⟨hx.1.sublist (List.take_sublist _ _),fun t ht=>hx.2 t (XY ht)⟩ hn
theorem yz {of:ZA->Option bX} {x:bX} {t:ZA × Nat} (ht:t∈(cV of x).ai):∃ u,u∈x.ai/\((of u.1=none/\t.1=u.1)\/∃ y w,of u.1=some y/\w∈y.ai/\w.1=t.1):=by
 obtain ⟨p,hp,hpe⟩:=De ht;obtain ⟨u,hu,hpu⟩:=List.mem_flatMap.1 hp;refine ⟨u,hu,?_⟩;unfold qA at hpu;cases ho:of u.1 with
 | none =>
  rw [ho] at hpu;simp only [List.mem_singleton] at hpu;exact Or.inl ⟨rfl,by rw [<- hpe,hpu]⟩
 | some y =>
  rw [ho] at hpu;obtain ⟨w,hw,rfl⟩:=WX.1 hpu;exact Or.inr ⟨y,w,rfl,hw,hpe⟩
theorem yx {l:cU} (h:Nf l) {S:List ZA} (hs:∀ t,t∈l->t.1∈S):l.length<=S.length:=by
 have:=jy (l.map (·.1)) S (XM.2 (h.1.imp fun h=>jk h)) (fun s hs'=>by
  obtain ⟨t,ht,rfl⟩:=WX.1 hs';exact hs t ht)
 rwa [WQ] at this
def OK:Option Nat->Int
 | none=>-1
 | some k=>(k:Int)
theorem R2 {es:List cE} {s:ZA} {i:Nat} (hi:i<es.length) (h:∀ j,(hj:j<i)->(es[j]'ad).name≠s) (he:es[i].name=s):jO es s=some i:=by
 unfold jO;rw [Xd];exact ⟨hi,W1 he,fun j hj=>by simpa using h j hj⟩
theorem Eu {h:Hp} {p:Option ZC} {l c:Nat} {es:List cE} (v:tH h p l es) (hl:es.length<=2^60) (s:ZA):vM Tryz.prog 115 [.slice p l c,.string s] h (.int .i64 (OK (jO es s))):=by
 refine ee mixed Tryz.func115 ax (ni p l c s) ?_;unfold jv aZ bg bq aK aM;have n:=v.len;refine aR (cs:=[(false,[.int .i64]),(false,[.int .i64])]) (fun y m h'=>∃ i:Nat,y.2.1=(i:Int)/\m=es.length-i/\i<=es.length/\h'=h/\∀ j,j<i->(hj:j<es.length)->es[j].name≠s) ((0:Int),(0:Int),()) es.length rfl
  ⟨0,rfl,rfl,ad,rfl,fun j hj=>absurd hj ad⟩ ?_
 rintro ⟨n2,n3,⟨⟩⟩ m h' ⟨i,hi,rfl,hle,rfl,hn⟩;simp only at hi;subst hi;refine an ?_;refine ak (fun q=>?_) (fun q=>?_)
 ·have q:=WR q;have hil:i<es.length:=ad
  obtain ⟨a,ha,hc⟩:=v.cells i hil;refine ay ⟨ad,ad⟩ (av ha ?_);rw [show Int.toNat (i:Int)=i from ad];refine az (es[i].name,()) ⟨hc.1,trivial⟩ ?_;refine an ?_;rw [ph];refine ak (fun r=>?_) (fun r=>?_)
  ·have r:=WR r;refine ⟨Xa (Value.int .i64) ?_,rfl⟩;rw [R2 hil (fun j hj=>hn j hj ad) r] <;> rfl
  ·have r:=WS r;refine aF (cs:=[(false,[.int .i64]),(false,[.int .i64])]) (n2,((i+1:Nat):Int),()) (es.length-(i+1)) rfl ad (by rw [wrap_i64 ad ad]; rfl) ?_;exact ⟨i+1,rfl,rfl,ad,rfl,fun j hj hx=>by
    by_cases e:j=i
    ·subst e; exact r
    ·exact hn j ad hx⟩
 ·have q:=WS q
  have:i=es.length:=ad
  subst this;refine ⟨Xa (Value.int .i64) ?_,rfl⟩;rw [Ek fun d hd=>by
   obtain ⟨j,hj,rfl⟩:=Xg hd;exact hn j hj hj]
  rfl
end Go.Sx.Lk
