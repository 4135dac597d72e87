/- Contracts over heaps, and plain laws, for the functions that the laws of chapter 9 call, part 3: equ.turning over heaps: its map has just the marks of the plain walk. equ.turnin Condition: as each statement says. -/
import Derived.Test.YtlpcncdglfjnoaaGreatDoorP2
import Derived.Test.YtlpcncdglfjnoaaGreatDoorSxK
import Derived.Test.YtlpcncdglfjnoaaGreatDoorBtK
set_option linter.all false
set_option maxRecDepth 100000
set_option maxHeartbeats 4000000
namespace Go.Sx
open Go.Proofs
theorem add_zero' (a:YC):a.add 0=a:=by unfold Addr.add; rw [WC rfl]
theorem UM (a b:YA):(ByteArray.toList a==ByteArray.toList b)=decide (a=b):=by
 rw [ByteArray.toList_eq,ByteArray.toList_eq]
 by_cases h:a=b
 ·subst h; simp
 ·rw [WE h];exact beq_eq_false_iff_ne.2 fun e=>h (xB e)
theorem SL.take {h:Hp} {b:Nat} {e:TypeId} {sz:Nat} {p:Option YC} {l c:Nat} {xs:List (List YB)} (s:SL h b e sz p l c xs) {k:Nat} (hk:k<=l):SL h b e sz p k c (xs.take k):=by
 refine ⟨by rw [WO,<- s.1]; omega,fun x hx=>s.2.1 x (Xx hx),?_⟩;cases p with
 | none =>
  obtain ⟨h1,h2⟩:=s.2.2;subst h2;exact ⟨h1,aj⟩
 | some a =>
  obtain ⟨g,pre,rest,rfl,hbg,hlc,hbox,hr⟩:=s.2.2;have hsplit:xs.flatten=(xs.take k).flatten++(xs.drop k).flatten:=by rw [<- List.flatten_append,W8]
  refine ⟨g,pre,(xs.drop k).flatten++rest,rfl,hbg,ad,?_,?_⟩
  ·rw [hsplit] at hbox;simpa [List.append_assoc] using hbox
  ·rw [Wv,dB _ (fun x hx=>s.2.1 x (List.mem_of_mem_drop hx)),Xu,hr,<- s.1,<- XA]
   congr 1; omega
abbrev U1 (x:YA):List YB:=[.string x]
theorem Tz:Tryz.prog.underlying 28=some (.slice 9):=az
theorem Uf:(Tryz.prog.info? 9).map (fun i=>(i.zero,i.size,i.bytes))=some (some (.string ⟨#[]⟩),1,16):=az
theorem Lz {h:Hp} {b:Nat} {p:Option YC} {l c:Nat} {xs:List YA} (s:SL h b 9 1 p l c (xs.map U1)) (v:YA) (hv:v∈xs) (hl:l<=2^40) :
  vC Tryz.prog 107 [.slice p l c,.string v] h (.int .i64 ((xs.findIdx fun x=>decide (v=x):Nat):Int)):=by
 refine ee mixed Tryz.func107 az (gH p l c v) ?_;unfold ez aX bh bm aH aM;have hll:l=xs.length:=by rw [s.1,Wr]
 refine aR (cs:=[(false,[.int .i64]),(false,[.int .i64])]) (fun x w h'=>h'=h/\∃ i:Nat,x.2.1=(i:Int)/\i<=xs.length/\w=xs.length-i/\∀ j,j<i->∀ hj:j<xs.length,v≠xs[j]) ((0:Int),(0:Int),()) xs.length rfl ⟨rfl,0,rfl,ad,ad,fun j hj=>ad⟩ ?_;rintro ⟨n2,n3,⟨⟩⟩ w h2 ⟨rfl,i,hi,hile,rfl,hno⟩;simp only at hi;subst hi;refine an ?_;refine ak (fun g1=>?_) (fun g1=>?_)
 ·have g1:=Ws g1;have hilt:i<xs.length:=ad
  refine ay ⟨ad,ad⟩ ?_;obtain ⟨a,rfl,hc⟩:=s.cells (i:=i) (by simpa using hilt);rw [Wy] at hc;refine av rfl ?_;rw [show Int.toNat (i:Int)=i from ad];refine ax (xs[i],()) hc ?_;refine an ?_;rw [UM];refine ak (fun g2=>?_) (fun g2=>?_)
  ·have g2:=Ws g2
   have:xs.findIdx (fun x=>decide (v=x))=i:=by
    rw [List.findIdx_eq hilt];exact ⟨by simpa using g2,fun j hj=>by simpa using hno j hj ad⟩
   exact ⟨by rw [this],rfl⟩
  ·have g2:=Wt g2;have hw:IntKind.wrap .i64 ((i:Int)+1)=((i+1:Nat):Int):=by rw [wrap_i64 ad ad]; omega
   refine aF (cs:=[(false,[.int .i64]),(false,[.int .i64])]) (n2,((i+1:Nat):Int),()) (xs.length-(i+1)) rfl ad (by rw [hw]; rfl) ⟨rfl,i+1,rfl,ad,rfl,fun j hj hjl=>?_⟩
   by_cases e:j=i
   ·subst e; exact g2
   ·exact hno j ad hjl
 ·have g1:=Wt g1;have hi:i=xs.length:=ad
  subst hi;obtain ⟨j,hj,e⟩:=WS hv;exact (hno j hj hj e.symm).elim
def db (es:List cD) (s:YA):bZ:=(((jP es s).bind fun k=>es[k]?).map (·.x)).getD tI
def cm (es:List cD) (s:YA):Bool:=(jP es s).isSome
def aT (es:List cD):List YA:=es.map (·.name)
theorem dX (es:List cD) (s:YA):cm es s=true↔s∈aT es:=by
 unfold cm jP aT;rw [List.findIdx?_isSome,Yb]
 simp
theorem oi {es:List cD} {s:YA} {k:Nat} (h:jP es s=some k):∃ hk:k<es.length,es[k].name=s/\db es s=es[k].x:=by
 have h':=h;unfold jP at h';rw [WR] at h';obtain ⟨hk,h1,h2⟩:=h';refine ⟨hk,Ws h1,?_⟩;unfold db;rw [h,Xv,Wu hk] <;> rfl
theorem CC {es:List cD} {s:YA} (h:s∈aT es):∃ k,jP es s=some k:=by
 have:=(dX es s).2 h
 unfold cm at this;exact Xn.1 this
structure TF where
 E:Nat
 gA:Nat
 A:Nat
 gB:Nat
 B:Nat
 gN:Nat
 gL:Nat
 N:Nat
 L:Nat
 W:Nat
 gO:Nat
 O:Nat
 V:Nat
def TF.ord (r:TF):Prop:=r.E<r.gA/\r.gA<r.A/\r.A<r.gB/\r.gB<r.B/\r.B<r.gN/\r.gN<r.gL/\r.gL<r.N/\r.N<r.L/\r.L<r.W/\r.W<r.gO/\r.gO<r.O/\r.O<r.V
abbrev bx (g:Nat):YC:=⟨g,0,none⟩
def TF.tB (r:TF):List YB:=[.pointer (some (bx r.N)),.pointer (some (bx r.L)),.pointer (some (bx r.W)),.pointer (some (bx r.O)),.pointer (some (bx r.E)),.pointer (some (bx r.A)),.pointer (some (bx r.B)),.pointer (some (bx r.V))]
structure N' (r:TF) (h:Hp) (es:List cD) (p0:Option YC) (l0 c0:Nat):Prop where
 bE:bC h r.E 27 [.slice p0 l0 c0]
 bA:bC h r.A 97 [.map (some r.gA)]
 mA:∃ n,dK eI h r.gA (jP es) n
 bV:bC h r.V 168 [.func (.func 106) #[] r.tB.toArray]
 bN:bC h r.N 97 [.map (some r.gN)]
 bL:bC h r.L 97 [.map (some r.gL)]
 bO:bC h r.O 142 [.map (some r.gO)]
 bB:bC h r.B 142 [.map (some r.gB)]
 vw:tu h p0 l0 es
structure IC (r:TF) (es:List cD) (p0:Option YC):Prop where
 ord:r.ord
 l0:∀ i,i∈aK p0->i<r.E
 li:∀ e,e∈es->e.x.ai≠[]->∀ i,i∈aK e.p->i<r.E
theorem gp.UQ {ws:List Nat} {h h':Hp} {p:Option YC} {l:Nat} {us:cZ} (v:gp h p l us) (k:Ch ws h h') (hw:us≠[]->∀ i,i∈aK p->i∉ws):gp h' p l us:=by
 by_cases hn:us=[]
 ·subst hn;exact ⟨v.len,fun i hi=>by simp at hi⟩
 ·exact v.ao k (hw hn)
theorem tu.mi {ws:List Nat} {h h':Hp} {p:Option YC} {l:Nat} {es:List cD} (v:tu h p l es) (k:Ch ws h h') (hp:∀ i,i∈aK p->i∉ws) (hi:∀ e,e∈es->e.x.ai≠[]->∀ i,i∈aK e.p->i∉ws):tu h' p l es :=
 ⟨v.len,fun i hi=>by
  obtain ⟨a,ha,hc⟩:=v.cells i hi;exact ⟨a,ha,aQ k (by rw [gT]; exact hp _ (by rw [ha]; simp [aK])) _ _ hc⟩,fun e he=>(v.eY e he).UQ k (hi e he)⟩
def VD (r:TF) (p:Option YC):List Nat:=r.gN::r.gL::r.gO::r.gB::r.W::aK p
structure mY (r:TF) (h:Hp) (st:TS) (p:Option YC) (l c:Nat):Prop where
 mN:dK eI h r.gN st.num st.jl
 mL:∃ n,dK eI h r.gL st.low n
 mO:∃ n,dK eB h r.gO st.on n
 mB:∃ n,dK eB h r.gB st.back n
 bW:bC h r.W 28 [.slice p l c]
 w:SL h (r.V+1) 9 1 p l c (st.cQ.map U1)
theorem N'.mi {r:TF} {h h':Hp} {es:List cD} {p0:Option YC} {l0 c0:Nat} {ws:List Nat} (m:N' r h es p0 l0 c0) (lo:IC r es p0) (k:Ch ws h h') (hw:∀ i,i∈ws->i=r.gN\/i=r.gL\/i=r.gO\/i=r.gB\/i=r.W\/r.V<i):N' r h' es p0 l0 c0:=by
 have o:=lo.ord;unfold TF.ord at o;have nin:∀ i,i≠r.gN->i≠r.gL->i≠r.gO->i≠r.gB->i≠r.W->i<=r.V->i∉ws:=by
  intro i h1 h2 h3 h4 h5 h6 hi
  have:=hw i hi
  omega
 obtain ⟨n,mA⟩:=m.mA;exact ⟨m.bE.ao k (nin _ ad ad ad ad ad ad),m.bA.ao k (nin _ ad ad ad ad ad ad),⟨n,mA.ao k (nin _ ad ad ad ad ad ad)⟩,
  m.bV.ao k (nin _ ad ad ad ad ad ad),m.bN.ao k (nin _ ad ad ad ad ad ad),m.bL.ao k (nin _ ad ad ad ad ad ad),
  m.bO.ao k (nin _ ad ad ad ad ad ad),m.bB.ao k (nin _ ad ad ad ad ad ad),
  m.vw.mi k (fun i hi=>nin _ (by have:=lo.l0 i hi; omega) (by have:=lo.l0 i hi; omega) (by have:=lo.l0 i hi; omega) (by have:=lo.l0 i hi; omega) (by have:=lo.l0 i hi; omega) (by have:=lo.l0 i hi; omega))
   (fun e he hne i hi=>nin _ (by have:=lo.li e he hne i hi; omega) (by have:=lo.li e he hne i hi; omega) (by have:=lo.li e he hne i hi; omega) (by have:=lo.li e he hne i hi; omega) (by have:=lo.li e he hne i hi; omega) (by have:=lo.li e he hne i hi; omega))⟩
theorem mY.ao {r:TF} {h h':Hp} {st:TS} {p:Option YC} {l c:Nat} (m:mY r h st p l c) (k:Ext h h'):mY r h' st p l c:=by
 obtain ⟨n1,mL⟩:=m.mL;obtain ⟨n2,mO⟩:=m.mO;obtain ⟨n3,mB⟩:=m.mB;exact ⟨m.mN.ao k aj,⟨n1,mL.ao k aj⟩,⟨n2,mO.ao k aj⟩,⟨n3,mB.ao k aj⟩,m.bW.ao k aj,m.w.ao k aj⟩
structure pJ (r:TF) (p:Option YC) (h:Hp) (p':Option YC) (h':Hp):Prop where
 ch:Ch (VD r p) h h'
 cd:∀ i,i∈aK p'->i∈aK p\/h.size<=i
theorem pJ.refl (r:TF) (p:Option YC) (h:Hp):pJ r p h p h:=⟨Ch.refl _ _,fun i hi=>.inl hi⟩
theorem oT {r:TF} {p:Option YC} {i:Nat}:i∈VD r p↔i=r.gN\/i=r.gL\/i=r.gO\/i=r.gB\/i=r.W\/i∈aK p:=by
 unfold VD; simp
theorem pJ.trans {r:TF} {p q s:Option YC} {a b c:Hp} (x:pJ r p a q b) (y:pJ r q b s c):pJ r p a s c:=by
 have hz:=x.ch.size;refine ⟨Ch.trans x.ch y.ch fun i hi hl=>?_,fun i hi=>?_⟩
 ·rw [oT] at hi ⊢;rcases hi with h | h | h | h | h | h
  ·exact .inl h
  ·exact .inr (.inl h)
  ·exact .inr (.inr (.inl h))
  ·exact .inr (.inr (.inr (.inl h)))
  ·exact .inr (.inr (.inr (.inr (.inl h))))
  ·rcases x.cd i h with h | h
   ·exact .inr (.inr (.inr (.inr (.inr h))))
   ·omega
 ·rcases y.cd i hi with h | h
  ·exact x.cd i h
  ·exact .inr ad
theorem pJ.ext {r:TF} {p:Option YC} {h h':Hp} (k:Ext h h'):pJ r p h p h':=⟨k.mono aj,fun i hi=>.inl hi⟩
theorem pJ.of {r:TF} {p:Option YC} {h h':Hp} {g:Nat} (k:Ch [g] h h') (hg:g=r.gN\/g=r.gL\/g=r.gO\/g=r.gB\/g=r.W):pJ r p h p h' :=
 ⟨k.mono fun i hi hl=>by simp at hi; subst hi; rw [oT]; rcases hg with h | h | h | h | h <;> simp [h],fun i hi=>.inl hi⟩
theorem pJ.co {r:TF} {p p':Option YC} {l c:Nat} {h h':Hp} {st:TS} {es:List cD} {p0:Option YC} {l0 c0:Nat} (x:pJ r p h p' h') (lo:IC r es p0) (m:mY r h st p l c) (co:N' r h es p0 l0 c0):N' r h' es p0 l0 c0:=by
 refine co.mi lo x.ch fun i hi=>?_
 rw [oT] at hi;rcases hi with h | h | h | h | h | h
 ·exact .inl h
 ·exact .inr (.inl h)
 ·exact .inr (.inr (.inl h))
 ·exact .inr (.inr (.inr (.inl h)))
 ·exact .inr (.inr (.inr (.inr (.inl h))))
 ·exact .inr (.inr (.inr (.inr (.inr (by have:=(m.w.cd h).1; omega)))))
theorem pJ.box {r:TF} {p p':Option YC} {l c:Nat} {h h':Hp} {st:TS} {g:Nat} {e:TypeId} {xs:List YB} (x:pJ r p h p' h') (o:r.ord) (hg:r.V<g) (hp:g∉aK p) (b:bC h g e xs):bC h' g e xs:=by
 unfold TF.ord at o;refine b.ao x.ch fun hi=>?_
 rw [oT] at hi;rcases hi with h | h | h | h | h | h <;> first | omega | exact hp h
section
variable {L:Lp} {K:YB->Hp->Prop} {h:Hp} {r:TF} {st:TS} {p:Option YC} {l c:Nat}
theorem mY.Mo (m:mY r h st p l c) {i:Nat} (hi:i∈aK p):r.V<i:=by have:=(m.w.cd hi).1; omega
theorem mY.uO (m:mY r h st p l c) (o:r.ord) {s:YA} (hs:s.size<=maxLen) {v:Int} {w:Nat} (hv:v=(w:Int)) {k:T} (hk:∀ h',mY r h' { st with num:=dy st.num s w,jl:=if (st.num s).isSome then st.jl else st.jl+1 } p l c->pJ r p h p h'->h'.size=h.size->k L K h') :
  T.ec Tryz.prog (Instr.mapUpdate 97 (.map (some r.gN)) (.string s) (.int .i64 v)) k L K h:=by
 unfold TF.ord at o;obtain ⟨n1,mL⟩:=m.mL;obtain ⟨n2,mO⟩:=m.mO;obtain ⟨n3,mB⟩:=m.mB;refine qE m.mN hs hv ?_;intro h' m' c' z';exact hk h' ⟨m',⟨n1,mL.ao c' (by simp; omega)⟩,⟨n2,mO.ao c' (by simp; omega)⟩,⟨n3,mB.ao c' (by simp; omega)⟩,m.bW.ao c' (by simp; omega),m.w.bG c' (fun i hi=>by have:=m.Mo hi; simp; omega)⟩ (pJ.of c' (.inl rfl)) z'
theorem mY.rY (m:mY r h st p l c) (o:r.ord) {s:YA} (hs:s.size<=maxLen) {v:Int} {w:Nat} (hv:v=(w:Int)) {k:T} (hk:∀ h',mY r h' { st with low:=dy st.low s w } p l c->pJ r p h p h'->h'.size=h.size->k L K h') :
  T.ec Tryz.prog (Instr.mapUpdate 97 (.map (some r.gL)) (.string s) (.int .i64 v)) k L K h:=by
 unfold TF.ord at o;obtain ⟨n1,mL⟩:=m.mL;obtain ⟨n2,mO⟩:=m.mO;obtain ⟨n3,mB⟩:=m.mB;refine qE mL hs hv ?_;intro h' m' c' z';exact hk h' ⟨m.mN.ao c' (by simp; omega),⟨_,m'⟩,⟨n2,mO.ao c' (by simp; omega)⟩,⟨n3,mB.ao c' (by simp; omega)⟩,m.bW.ao c' (by simp; omega),m.w.bG c' (fun i hi=>by have:=m.Mo hi; simp; omega)⟩ (pJ.of c' (.inr (.inl rfl))) z'
theorem mY.UY (m:mY r h st p l c) (o:r.ord) {s:YA} (hs:s.size<=maxLen) {b:Bool} {k:T} (hk:∀ h',mY r h' { st with on:=dy st.on s b } p l c->pJ r p h p h'->h'.size=h.size->k L K h') :
  T.ec Tryz.prog (Instr.mapUpdate 142 (.map (some r.gO)) (.string s) (.bool b)) k L K h:=by
 unfold TF.ord at o;obtain ⟨n1,mL⟩:=m.mL;obtain ⟨n2,mO⟩:=m.mO;obtain ⟨n3,mB⟩:=m.mB;refine T4 mO hs ?_;intro h' m' c' z';exact hk h' ⟨m.mN.ao c' (by simp; omega),⟨n1,mL.ao c' (by simp; omega)⟩,⟨_,m'⟩,⟨n3,mB.ao c' (by simp; omega)⟩,m.bW.ao c' (by simp; omega),m.w.bG c' (fun i hi=>by have:=m.Mo hi; simp; omega)⟩ (pJ.of c' (.inr (.inr (.inl rfl)))) z'
theorem mY.Te (m:mY r h st p l c) (o:r.ord) {s:YA} (hs:s.size<=maxLen) {b:Bool} {k:T} (hk:∀ h',mY r h' { st with back:=dy st.back s b } p l c->pJ r p h p h'->h'.size=h.size->k L K h') :
  T.ec Tryz.prog (Instr.mapUpdate 142 (.map (some r.gB)) (.string s) (.bool b)) k L K h:=by
 unfold TF.ord at o;obtain ⟨n1,mL⟩:=m.mL;obtain ⟨n2,mO⟩:=m.mO;obtain ⟨n3,mB⟩:=m.mB;refine T4 mB hs ?_;intro h' m' c' z';exact hk h' ⟨m.mN.ao c' (by simp; omega),⟨n1,mL.ao c' (by simp; omega)⟩,⟨n2,mO.ao c' (by simp; omega)⟩,⟨_,m'⟩,m.bW.ao c' (by simp; omega),m.w.bG c' (fun i hi=>by have:=m.Mo hi; simp; omega)⟩ (pJ.of c' (.inr (.inr (.inr (.inl rfl))))) z'
theorem mY.Fq (m:mY r h st p l c) (s:YA) {k:Int->T} (hk:k (((st.num s).getD 0:Nat):Int) L K h):T.dW Tryz.prog (Instr.lookup 97 (.map (some r.gN)) (.string s) false) false [(false,[.int .i64])] k L K h:=Ih m.mN s hk
theorem mY.Aa (m:mY r h st p l c) (s:YA) {k:Int->T} (hk:k (((st.low s).getD 0:Nat):Int) L K h):T.dW Tryz.prog (Instr.lookup 97 (.map (some r.gL)) (.string s) false) false [(false,[.int .i64])] k L K h:=by
 obtain ⟨n1,mL⟩:=m.mL;exact Ih mL s hk
theorem mY.Up (m:mY r h st p l c) (s:YA) {k:Bool->T} (hk:k ((st.on s).getD false) L K h):T.dW Tryz.prog (Instr.lookup 142 (.map (some r.gO)) (.string s) false) false [(false,[.bool])] k L K h:=by
 obtain ⟨n1,mL⟩:=m.mO;exact KX mL s hk
theorem mY.ep (m:mY r h st p l c) (s:YA) {k:Bool->T} (hk:k ((st.back s).getD false) L K h):T.dW Tryz.prog (Instr.lookup 142 (.map (some r.gB)) (.string s) false) false [(false,[.bool])] k L K h:=by
 obtain ⟨n1,mL⟩:=m.mB;exact KX mL s hk
end
def QZ (aN aL aO aV a30:YC) (s:YA) (n26:Int):T :=
 T.ah aN [.map 9 3] <| fun (r36:Option Nat) =>
 T.ah a30 [.string] <| fun (s37:YA) =>
 bK (Instr.lookup 97 (.map r36) (.string s37) false) false [aM] <| fun (n38:Int) =>
 cond (n38==(0:Int))
  (T.ah aV [.func #[9] #[] false] <| fun (v39:YB) =>
  T.ah a30 [.string] <| fun (s40:YA) =>
  T.ul Tryz.prog v39 [.string s40] true [] <| T.ah aL [.map 9 3] <| fun (r41:Option Nat) =>
  T.ah aL [.map 9 3] <| fun (r42:Option Nat) =>
  bK (Instr.lookup 97 (.map r42) (.string s) false) false [aM] <| fun (n43:Int) =>
  T.ah aL [.map 9 3] <| fun (r44:Option Nat) =>
  T.ah a30 [.string] <| fun (s45:YA) =>
  bK (Instr.lookup 97 (.map r44) (.string s45) false) false [aM] <| fun (n46:Int) =>
  bK (Builtin.min_ #[3,3] 3 #[.int .i64 n43,.int .i64 n46]) false [aM] <| fun (n47:Int) =>
  T.ec Tryz.prog (Instr.mapUpdate 97 (.map r41) (.string s) (.int .i64 n47)) <|
  T.again 0 [.int .i64 (bj (n26+(1:Int)))])
  (T.ah aO [.map 9 4] <| fun (r39:Option Nat) =>
  T.ah a30 [.string] <| fun (s40:YA) =>
  bK (Instr.lookup 142 (.map r39) (.string s40) false) false [bT] <| fun (b41:Bool) =>
  cond b41
  (T.ah aL [.map 9 3] <| fun (r42:Option Nat) =>
  T.ah aL [.map 9 3] <| fun (r43:Option Nat) =>
  bK (Instr.lookup 97 (.map r43) (.string s) false) false [aM] <| fun (n44:Int) =>
  T.ah aN [.map 9 3] <| fun (r45:Option Nat) =>
  T.ah a30 [.string] <| fun (s46:YA) =>
  bK (Instr.lookup 97 (.map r45) (.string s46) false) false [aM] <| fun (n47:Int) =>
  bK (Builtin.min_ #[3,3] 3 #[.int .i64 n44,.int .i64 n47]) false [aM] <| fun (n48:Int) =>
  T.ec Tryz.prog (Instr.mapUpdate 97 (.map r42) (.string s) (.int .i64 n48)) <|
  T.again 0 [.int .i64 (bj (n26+(1:Int)))])
  (T.again 0 [.int .i64 (bj (n26+(1:Int)))]))
def oP (names:List YA) (st:TS):Prop:=∀ s,st.num s≠none->s∈names
def Hr (es:List cD) (r:TF) (p0:Option YC) (l0 c0 f:Nat):Prop :=
 ∀ (v:YA) (st:TS) (h:Hp) (p:Option YC) (l c:Nat),mY r h st p l c->N' r h es p0 l0 c0->dp (aT es) st->v∈aT es->st.num v=none->qj (aT es) st<=f->oP (aT es) st ->
  HC Tryz.prog 106 (.string v::r.tB).toArray h fun w h'=>w=.tuple #[]/\∃ p' l' c',mY r h' (cH (cm es) (cE (db es)) f v st) p' l' c'/\pJ r p h p' h'
theorem TC:fA Tryz.prog 106=true:=az
section
variable {L:Lp} {K:YB->Hp->Prop} {h:Hp} {r:TF} {st:TS} {p:Option YC} {l c:Nat} {es:List cD} {p0:Option YC} {l0 c0:Nat}
theorem Il {f:Nat} (hvis:Hr es r p0 l0 c0 f) (lo:IC r es p0) (hs:∀ s,s∈aT es->s.size<=maxLen) (m:mY r h st p l c) (co:N' r h es p0 l0 c0) (g:dp (aT es) st) (hu:qj (aT es) st<=f) (hi:oP (aT es) st) {v w:YA} (hv:v∈aT es) (hw:w∈aT es) {a:Nat} {q:Nat} (ha:r.V<a) (hap:a∉aK p) (b:bC h a 66 [.string w,.int .u32 (q:Int)]) (n26:Int)
  (hk:∀ h' p' l' c',mY r h' (sJ (cH (cm es) (cE (db es)) f) v w st) p' l' c'->pJ r p h p' h'->T.again 0 [.int .i64 (IntKind.wrap .i64 (n26+(1:Int)))] L K h') :
  QZ (bx r.N) (bx r.L) (bx r.O) (bx r.V) (bx a) v n26 L K h:=by
 unfold QZ bK bj aM bT;refine af co.bN (some r.gN,()) rfl ?_;refine an ?_;refine af b (w,()) rfl ?_;refine an ?_;refine m.Fq w ?_;unfold sJ at hk;have hsv:=hs v hv;refine ak (fun g1=>?_) (fun g1=>?_)
 ·have g1:(st.num w).getD 0=0:=by have:=Ws g1; omega
  rw [WC g1] at hk;refine af co.bV (.func (.func 106) #[] r.tB.toArray,()) rfl ?_;refine an ?_;refine af b (w,()) rfl ?_;refine an ?_;refine uN (cap:=r.tB) TC rfl (hvis w st h p l c m co g hw (g.none g1) hu hi) ?_;rintro _ h2 ⟨rfl,p2,l2,c2,m2,s2⟩;refine ⟨(),rfl,?_⟩;refine an ?_;have co2:=s2.co lo m co;have b2:=s2.box (st:=st) (l:=l) (c:=c) lo.ord ha hap b;generalize cH (cm es) (cE (db es)) f w st=st2 at m2 hk;refine af co2.bL (some r.gL,()) rfl ?_;refine an ?_;refine af co2.bL (some r.gL,()) rfl ?_;refine an ?_;refine m2.Aa v ?_;refine af co2.bL (some r.gL,()) rfl ?_;refine an ?_;refine af b2 (w,()) rfl ?_;refine an ?_;refine m2.Aa w ?_;refine Ur ?_;refine m2.rY lo.ord hsv rfl ?_;intro h3 m3 s3 z3;exact hk h3 p2 l2 c2 m3 (s2.trans s3)
 ·have g1:¬ (st.num w).getD 0=0:=by
   intro e;rw [e] at g1;simp at g1
  rw [Ww g1] at hk;refine af co.bO (some r.gO,()) rfl ?_;refine an ?_;refine af b (w,()) rfl ?_;refine an ?_;refine m.Up w ?_;refine ak (fun g2=>?_) (fun g2=>?_)
  ·rw [WC g2] at hk;refine af co.bL (some r.gL,()) rfl ?_;refine an ?_;refine af co.bL (some r.gL,()) rfl ?_;refine an ?_;refine m.Aa v ?_;refine af co.bN (some r.gN,()) rfl ?_;refine an ?_;refine af b (w,()) rfl ?_;refine an ?_;refine m.Fq w ?_;refine Ur ?_;refine m.rY lo.ord hsv rfl ?_;intro h3 m3 s3 z3;exact hk h3 p l c m3 s3
  ·rw [Ww (by simp [g2])] at hk;exact hk h p l c m (pJ.refl _ _ _)
end
theorem oP.rest {names:List YA} {kV:YA->TS->TS} (hvis:∀ w st,oP names st->w∈names->oP names (kV w st)) {v w:YA} {st:TS} (hi:oP names st) (hw:w∈names):oP names (sJ kV v w st):=by
 unfold sJ;split
 ·exact hvis w st hi hw
 ·split <;> exact hi
theorem oP.step {names:List YA} {own:YA->Bool} (hown:∀ s,own s=true->s∈names) {kV:YA->TS->TS} (hvis:∀ w st,oP names st->w∈names->oP names (kV w st)) {v w:YA} {st:TS} (hi:oP names st):oP names (ej own kV v st w):=by
 unfold ej;split
 ·rename_i ho;refine oP.rest hvis ?_ (hown w ho);intro s hs;rw [(gV v w st).1] at hs;exact hi s hs
 ·exact hi
theorem oP.fold {names:List YA} {own:YA->Bool} (hown:∀ s,own s=true->s∈names) {kV:YA->TS->TS} (hvis:∀ w st,oP names st->w∈names->oP names (kV w st)) {v:YA}:∀ (l:List YA) (st:TS),oP names st->oP names (l.foldl (ej own kV v) st)
 | [],st,hi=>hi
 | w::l,st,hi=>by
  rw [Xk];exact oP.fold hown hvis l _ (oP.step hown hvis hi)
theorem oP.open {names:List YA} {st:TS} (hi:oP names st) {v:YA} (hv:v∈names):oP names (ei v st):=by
 intro s hs;have hs:dy st.num v (st.jl+1) s≠none:=hs
 by_cases e:s=v
 ·rw [e]; exact hv
 ·rw [bR _ _ e] at hs;exact hi s hs
theorem oP.visit {names:List YA} {own:YA->Bool} (hown:∀ s,own s=true->s∈names) (succ:YA->List YA):∀ (f:Nat) (v:YA) (st:TS),oP names st->v∈names->oP names (cH own succ f v st)
 | 0,v,st,hi,hv=>hi
 | f+1,v,st,hi,hv=>by
  have h:=oP.fold hown (fun w st hi hw=>oP.visit hown succ f w st hi hw) (v:=v) (succ v) _ (hi.open hv);unfold cH;split
  ·exact h
  ·intro s hs;rw [nE] at hs;exact h s hs
theorem SL.Cp {h:Hp} {b:Nat} {e:TypeId} {sz:Nat} {p:Option YC} {l c:Nat} {xs:List (List YB)} (s:SL h b e sz p l c xs):l<=c:=by
 cases p with
 | none =>
  obtain ⟨h1,h2⟩:=s.2.2;rw [s.1,h1,h2]; simp
 | some a =>
  obtain ⟨g,pre,rest,rfl,hbg,hlc,hbox,hr⟩:=s.2.2;exact hlc.1
section
variable {L:Lp} {K:YB->Hp->Prop} {h:Hp} {r:TF} {st:TS} {p:Option YC} {l c:Nat} {es:List cD} {p0:Option YC} {l0 c0:Nat}
theorem mY.TJ (m:mY r h st p l c) (o:r.ord) {p':Option YC} {l' c':Nat} {h1:Hp} {way':List YA} (k1:Ch (aK p) h h1) (s1:SL h1 (r.V+1) 9 1 p' l' c' (way'.map U1)) (hb:∀ i,i∈aK p'->i∈aK p\/h.size<=i) {k:T}
  (hk:∀ h',mY r h' { st with cQ:=way' } p' l' c'->pJ r p h p' h'->k L K h'):T.aD (bx r.W) [.slice p' l' c'] k L K h1:=by
 have o':=o;unfold TF.ord at o;obtain ⟨n1,mL⟩:=m.mL;obtain ⟨n2,mO⟩:=m.mO;obtain ⟨n3,mB⟩:=m.mB;have nb:∀ g,g<=r.V->g∉aK p:=fun g hg hi=>by have:=m.Mo hi; omega
 refine aw (m.bW.ao k1 (nb _ ad)) rfl aj ?_;intro h2 b2 k2 z2;have b2:bC h2 r.W 28 [.slice p' l' c']:=b2;refine hk h2 ⟨(m.mN.ao k1 (nb _ ad)).ao k2 (by simp; omega),⟨n1,(mL.ao k1 (nb _ ad)).ao k2 (by simp; omega)⟩,⟨n2,(mO.ao k1 (nb _ ad)).ao k2 (by simp; omega)⟩,⟨n3,(mB.ao k1 (nb _ ad)).ao k2 (by simp; omega)⟩,b2,s1.bG k2 (fun i hi=>by have:=(s1.cd hi).1; simp; omega)⟩
  ⟨Ch.trans (k1.mono fun i hi _=>by rw [oT]; simp [hi]) k2 (fun i hi hl=>by simp at hi; rw [oT]; simp [hi]),hb⟩
theorem mY.Uc (m:mY r h st p l c) (o:r.ord) (hV:r.V<h.size) (hl:l<=2^40) {v:YA} {k:T} (hk:∀ h' p' c',mY r h' { st with cQ:=st.cQ++[v] } p' (l+1) c'->pJ r p h p' h'->k L K h') :
  T.dW Tryz.prog (Instr.buildSlice 28 1 #[(0,.string v)]) false [(false,[.slice 0])] (fun q m' cc=>T.dW Tryz.prog (Builtin.append_ #[28,28] 28 #[.slice p l c,.slice q m' cc]) false [(false,[.slice 0])] (fun p13 l14 l15=>T.aD (bx r.W) [.slice p13 l14 l15] k)) L K h:=by
 refine ml (vs:=U1 v) Tz Uf rfl ad ad az rfl rfl m.w ad ad ad ?_;intro p' c' h1 s1 k1 hp;refine m.TJ o k1 (way':=st.cQ++[v]) (by simpa using s1) (fun i hi=>?_) (fun h' m' s'=>hk h' p' c' m' s');rcases hp with rfl | ⟨a,rfl,ha⟩
 ·exact .inl hi
 ·simp [aK] at hi; subst hi; exact .inr ha
def TX (aO aB aW:YC) (p35:Option YC) (l36 l37:Nat) (n34:Int):T :=
  T.loop [aM] [.int .i64 (0:Int)] <| fun (n38:Int) =>
  cond (decide (n38<((((Int.toNat (l36:Int))-(Int.toNat n34)):Nat):Int)))
  (T.need (((0:Int)<=n38)/\(n38<((((Int.toNat (l36:Int))-(Int.toNat n34)):Nat):Int))) <|
  T.bd (if (l37=(Int.toNat n34)) then p35 else (Option.map (fun a=>Addr.add a (aH n34 1)) p35)) <| fun (a39:YC) =>
  T.ah (a39.add (aH n38 1)) [.string] <| fun (s40:YA) =>
  T.ah aO [.map 9 4] <| fun (r41:Option Nat) =>
  T.ec Tryz.prog (Instr.mapUpdate 142 (.map r41) (.string s40) (.bool false)) <|
  T.ah aB [.map 9 4] <| fun (r42:Option Nat) =>
  T.ah aB [.map 9 4] <| fun (r43:Option Nat) =>
  bK (Instr.lookup 142 (.map r43) (.string s40) false) false [bT] <| fun (b44:Bool) =>
  cond b44
   (T.ec Tryz.prog (Instr.mapUpdate 142 (.map r42) (.string s40) (.bool true)) <|
   T.again 1 [.int .i64 (bj (n38+(1:Int)))])
   (T.ah aW [.slice 9] <| fun (p45:Option YC) (l46:Nat) (l47:Nat) =>
   T.ec Tryz.prog (Instr.mapUpdate 142 (.map r42) (.string s40) (.bool (decide ((bj ((l46:Int)-n34))>(1:Int))))) <|
   T.again 1 [.int .i64 (bj (n38+(1:Int)))]))
  (T.ah aW [.slice 9] <| fun (p39:Option YC) (l40:Nat) (l41:Nat) =>
  T.need (((0:Int)<=(0:Int))/\(((0:Int)<=n34)/\(n34<=(l41:Int)))) <|
  T.aD aW [.slice (if (l41=0) then p39 else (Option.map (fun a=>Addr.add a 0) p39)) ((Int.toNat n34)-0) (l41-0)] <|
  T.ret (.tuple #[]))
theorem SV {lv:List YB->Hp->Prop} (lo:IC r es p0) (hs:∀ s,s∈aT es->s.size<=maxLen) (m:mY r h st p l c) (co:N' r h es p0 l0 c0) (hi:oP (aT es) st) (g:dp (aT es) st) (hl:l<=2^40) {v:YA} (hk0:qn v st<=st.cQ.length)
  (hk:∀ h' p' l' c',mY r h' (qG v st) p' l' c'->pJ r p h p' h'->K (.tuple #[]) h'):TX (bx r.O) (bx r.B) (bx r.W) p l c ((qn v st:Nat):Int) [lv] K h:=by
 unfold TX aH bK bj aM bT;have hlen:l=st.cQ.length:=by rw [m.w.1,Wr]
 have hcap:=m.w.Cp;rw [show Int.toNat ((qn v st:Nat):Int)=qn v st from ad,show Int.toNat (l:Int)=l from ad];generalize hkk:qn v st=k at *;have hbig:decide (1<st.cQ.length-qn v st)=decide (1<l-k):=by rw [hkk,hlen]
 unfold qG at hk;rw [hbig,hkk] at hk;refine aR (cs:=[(false,[.int .i64])]) (fun x w h'=>∃ i:Nat,x.1=(i:Int)/\i<=l-k/\w=l-k-i/\mY r h' (((st.cQ.drop k).take i).foldl (oN (decide (1<l-k))) st) p l c/\pJ r p h p h') ((0:Int),()) (l-k) rfl ⟨0,rfl,ad,ad,by simpa using m,pJ.refl _ _ _⟩ ?_;rintro ⟨n38,⟨⟩⟩ w h2 ⟨i,hi0,hile,rfl,m2,s2⟩;simp only at hi0;subst hi0;refine an ?_;have co2:=s2.co lo m co;have hway:∀ (w:List YA) (st:TS),(w.foldl (oN (decide (1<l-k))) st).cQ=st.cQ:=by
  intro w
  induction w with
  | nil=>intro st; rfl
  | cons x w ih=>intro st; rw [Xk,ih]; rfl
 refine ak (fun g1=>?_) (fun g1=>?_)
 ·have g1:=Ws g1;have hilt:k+i<st.cQ.length:=ad
  refine ay ⟨ad,ad⟩ ?_;rw [Ww ad];have hsl:=m2.w;rw [hway] at hsl;obtain ⟨a,rfl,hc⟩:=hsl.cells (i:=k+i) (by simpa using hilt);rw [Wy] at hc;refine av rfl ?_;rw [show Int.toNat (i:Int)=i from ad,add_add,<- XA];have hmem:st.cQ[k+i]∈aT es:=hi _ (g.eY _ (WA hilt));have htk:(st.cQ.drop k).take (i+1)=(st.cQ.drop k).take i++[st.cQ[k+i]]:=by
   rw [Wx (by rw [Xu]; omega),List.getElem_drop]
  generalize st.cQ[k+i]=x at hc hmem htk;refine ax (x,()) hc ?_;refine an ?_;have hsz:=hs x hmem;generalize hst2:((st.cQ.drop k).take i).foldl (oN (decide (1<l-k))) st=st2 at m2;have hst3:((st.cQ.drop k).take (i+1)).foldl (oN (decide (1<l-k))) st=oN (decide (1<l-k)) st2 x:=by rw [htk,Xz,hst2]; rfl
  refine af co2.bO (some r.gO,()) rfl ?_;refine an ?_;refine m2.UY lo.ord hsz ?_;intro h3 m3 s3 z3;have co3:=s3.co lo m2 co2;refine af co3.bB (some r.gB,()) rfl ?_;refine an ?_;refine af co3.bB (some r.gB,()) rfl ?_;refine an ?_;refine m3.ep x ?_;have hw:IntKind.wrap .i64 ((i:Int)+1)=((i+1:Nat):Int):=by rw [wrap_i64 ad ad]; omega
  refine ak (fun g2=>?_) (fun g2=>?_)
  ·have g2:(st2.back x).getD false=true:=g2;refine m3.Te lo.ord hsz ?_;intro h4 m4 s4 z4;refine aF (cs:=[(false,[.int .i64])]) (((i+1:Nat):Int),()) (l-k-(i+1)) rfl ad (WJ (fun z=>[Value.int .i64 z]) hw) ⟨i+1,rfl,ad,rfl,?_,(s2.trans s3).trans s4⟩;rw [hst3];unfold oN;rw [g2];exact m4
  ·have g2:(st2.back x).getD false=false:=g2;refine af m3.bW ((_,_,_),()) rfl ?_;refine an ?_;refine m3.Te lo.ord hsz ?_;intro h4 m4 s4 z4;refine aF (cs:=[(false,[.int .i64])]) (((i+1:Nat):Int),()) (l-k-(i+1)) rfl ad (WJ (fun z=>[Value.int .i64 z]) hw) ⟨i+1,rfl,ad,rfl,?_,(s2.trans s3).trans s4⟩;rw [hst3];unfold oN;rw [g2,Bool.false_or];have e:decide ((IntKind.wrap .i64 ((l:Int)-(k:Int)))>(1:Int))=decide (1<l-k):=by
    rw [wrap_i64 ad ad];exact Ym.2 ad
   rw [e] at m4;exact m4
 ·have g1:=Wt g1;have hii:i=l-k:=ad
  subst hii;have htk:(st.cQ.drop k).take (l-k)=st.cQ.drop k:=W7 (by rw [Xu]; omega);rw [htk] at m2;have hpp:(if c=0 then p else (Option.map (fun a=>Addr.add a 0) p))=p:=by
   split
   ·rfl
   ·cases p with
    | none=>rfl
    | some a=>simp only [Option.map_some,add_zero']
  refine af m2.bW ((p,l,c),()) rfl ?_;refine an ?_;refine ay ⟨ad,ad,ad⟩ ?_;rw [hpp,Yw,Yw];have hsl:=m2.w;rw [hway] at hsl;have hsk:=hsl.take (k:=k) ad;rw [<- List.map_take] at hsk;refine m2.TJ lo.ord (Ch.refl _ _) hsk (fun i hi=>.inl hi) ?_;intro h4 m4 s4;exact hk h4 p k c m4 (s2.trans s4)
end
structure EqsOk (es:List cD):Prop where
 nodup:(aT es).Nodup
 len:es.length<=2^40
 sz:∀ e,e∈es->e.name.size<=maxLen
 tl:∀ e,e∈es->e.x.ai.length<=2^40
 ts:∀ e,e∈es->∀ t,t∈e.x.ai->t.1.size<=maxLen
theorem EqsOk.names {es:List cD} (o:EqsOk es):∀ s,s∈aT es->s.size<=maxLen:=by
 intro s hs;obtain ⟨e,he,rfl⟩:=Wz.1 hs;exact o.sz e he
section
variable {r:TF} {es:List cD} {p0:Option YC} {l0 c0:Nat}
theorem KI (eo:EqsOk es) (lo:IC r es p0):∀ f,Hr es r p0 l0 c0 f:=by
 intro f;have hown:∀ s,cm es s=true->s∈aT es:=fun s=>(dX es s).1
 have hs:=eo.names;have hnl:(aT es).length=es.length:=by unfold aT; rw [Wr]
 induction f with
 | zero =>
  intro v st h p l c m co g hv h0 hu hi
  have:=(g.open eo.nodup hv h0).2
  omega
 | succ f ih =>
  intro v st h p l c m co g hv h0 hu hi;have o:=lo.ord;have o':=o;unfold TF.ord at o';have hlen:=eo.len;refine aZ (args:=.string v::r.tB) mixed Tryz.func106 az (mG v (bx r.N) (bx r.L) (bx r.W) (bx r.O) (bx r.E) (bx r.A) (bx r.B) (bx r.V)) ?_;unfold iL aX bh bm aH cn dT bk bK bj bU aM bT;have hsv:=hs v hv;have hcnt:st.jl<=es.length:=by have:=g.sum; omega
  have hway:=g.cQ;have hll:l=st.cQ.length:=by rw [m.w.1,Wr]
  have hV:=co.bV.lt;refine af co.bN (some r.gN,()) rfl ?_;refine an ?_;refine af co.bN (some r.gN,()) rfl ?_;refine an ?_;refine Vg (en:=eI) m.mN ?_;refine m.uO o hsv (w:=st.jl+1) (by rw [wrap_i64 ad ad]; omega) ?_;intro h1 m1 s1 z1;have hnone:(st.num v).isSome=false:=by rw [h0]; rfl
  rw [hnone] at m1;simp only [Bool.false_eq_true,if_false] at m1;have co1:=s1.co lo m co;refine af co1.bL (some r.gL,()) rfl ?_;refine an ?_;refine af co1.bN (some r.gN,()) rfl ?_;refine an ?_;refine m1.Fq v ?_;refine m1.rY o hsv rfl ?_;intro h2 m2 s2 z2;simp only [cv,Option.getD_some] at m2;have co2:=s2.co lo m1 co1;refine af m2.bW ((p,l,c),()) rfl ?_;refine an ?_;refine m2.Uc o ad ad ?_;intro h3 p3 c3 m3 s3;have co3:=s3.co lo m2 co2;refine af co3.bO (some r.gO,()) rfl ?_;refine an ?_;refine m3.UY o hsv ?_;intro h4 m4 s4 z4;have co4:=s4.co lo m3 co3;have s04:pJ r p h p3 h4:=((s1.trans s2).trans s3).trans s4
  replace m4:mY r h4 (ei v st) p3 (l+1) c3:=m4
  refine af co4.bE ((p0,l0,c0),()) rfl ?_;refine an ?_;refine af co4.bA (some r.gA,()) rfl ?_;refine an ?_;obtain ⟨nA,mA⟩:=co4.mA;refine Ih mA v ?_;obtain ⟨k,hk⟩:=CC hv;obtain ⟨hkl,hkn,hkx⟩:=oi hk;have hl0:=co4.vw.len;rw [hk];simp only [Option.getD_some];refine ay ⟨ad,ad⟩ ?_;obtain ⟨a,ha,hc⟩:=co4.vw.cells k hkl;refine av ha ?_;rw [show Int.toNat (k:Int)=k from ad];have hin:=co4.vw.eY es[k] (WA hkl);have hinW:∀ h',N' r h' es p0 l0 c0->gp h' es[k].p es[k].l es[k].x.ai:=fun h' co'=>co'.vw.eY es[k] (WA hkl)
  have htl:=eo.tl es[k] (WA hkl);have hts:=eo.ts es[k] (WA hkl);have hli:=lo.li es[k] (WA hkl);have hsu:cE (db es) v=es[k].x.ai.map (·.1):=by unfold cE; rw [hkx]
  generalize es[k]=e at hc hin hinW htl hts hli hsu;refine ax ((e.p,e.l,e.c),()) ⟨by rw [add_zero']; exact hc.2.1,trivial⟩ ?_;refine an ?_;have hel:=hin.len;have hgood:=fun l=>JC eo.nodup hown (cE (db es)) g hv h0 hu l
  have hinn:∀ l:List YA,oP (aT es) (l.foldl (ej (cm es) (cH (cm es) (cE (db es)) f) v) (ei v st)):=fun l=>oP.fold hown (fun w st hi hw=>oP.visit hown (cE (db es)) f w st hi hw) l _ (hi.open hv)
  refine aR (cs:=[(false,[.int .i64])]) (fun x w h'=>∃ (i:Nat) (p':Option YC) (l' c':Nat),x.1=(i:Int)/\i<=e.x.ai.length/\w=e.x.ai.length-i/\mY r h' (((e.x.ai.map (·.1)).take i).foldl (ej (cm es) (cH (cm es) (cE (db es)) f) v) (ei v st)) p' l' c'/\pJ r p h p' h')
   ((0:Int),()) e.x.ai.length rfl ⟨0,p3,l+1,c3,rfl,ad,ad,m4,s04⟩ ?_
  rintro ⟨n26,⟨⟩⟩ w h5 ⟨i,p5,l5,c5,hi0,hile,rfl,m5,s5⟩;simp only at hi0;subst hi0;refine an ?_;have co5:=s5.co lo m co;obtain ⟨g5,hu5,hpre5,n5,hn5⟩:=hgood ((e.x.ai.map (·.1)).take i);have hi5:=hinn ((e.x.ai.map (·.1)).take i);have hk5:=fun hi:i<e.x.ai.length=>(show (e.x.ai.map (·.1)).take (i+1)=(e.x.ai.map (·.1)).take i++[e.x.ai[i].1] by
   rw [Wx (by rw [Wr]; exact hi),Wy])
  have hfin:i=e.x.ai.length->(e.x.ai.map (·.1)).take i=cE (db es) v:=by
   intro hh;rw [hsu];exact W7 (by rw [Wr]; omega)
  have hfold:∀ hi:i<e.x.ai.length,((e.x.ai.map (·.1)).take (i+1)).foldl (ej (cm es) (cH (cm es) (cE (db es)) f) v) (ei v st)=ej (cm es) (cH (cm es) (cE (db es)) f) v (((e.x.ai.map (·.1)).take i).foldl (ej (cm es) (cH (cm es) (cE (db es)) f) v) (ei v st)) e.x.ai[i].1:=by
   intro hi;rw [hk5 hi,Xz]; rfl
  have hvis:cH (cm es) (cE (db es)) (f+1) v st=(if tP ((cE (db es) v).foldl (ej (cm es) (cH (cm es) (cE (db es)) f) v) (ei v st)) v<rq ((cE (db es) v).foldl (ej (cm es) (cH (cm es) (cE (db es)) f) v) (ei v st)) v then (cE (db es) v).foldl (ej (cm es) (cH (cm es) (cE (db es)) f) v) (ei v st) else qG v ((cE (db es) v).foldl (ej (cm es) (cH (cm es) (cE (db es)) f) v) (ei v st))):=rfl;refine ak (fun g1=>?_) (fun g1=>?_)
  ·have g1:=Ws g1;have hilt:i<e.x.ai.length:=ad
   have hfold:=hfold hilt;refine ay ⟨ad,ad⟩ ?_;obtain ⟨a2,ha2,hc2⟩:=(hinW h5 co5).cells i hilt;refine av ha2 ?_;rw [show Int.toNat (i:Int)=i from ad];have htsi:=hts e.x.ai[i] (WA hilt);generalize e.x.ai[i]=t at hc2 htsi hfold;generalize hst5:((e.x.ai.map (·.1)).take i).foldl (ej (cm es) (cH (cm es) (cE (db es)) f) v) (ei v st)=st5 at m5 g5 hu5 hi5 hfold;refine ax (t.1,(t.2:Int),()) hc2 ?_;refine an ?_;refine bq ?_;intro h6 b6 e6 z6;refine aw b6 rfl aj ?_;intro h7 b7 k7 z7;have b7:bC h7 h5.size 66 [.string t.1,.int .u32 (t.2:Int)]:=b7;have e57:Ext h5 h7:=Ch.trans e6 k7 (fun j hj hl=>by simp at hj; omega);have co7:=co5.mi lo e57 aj;have m7:=m5.ao e57;have T0:pJ r p5 h5 p5 h7:=pJ.ext e57;have ha7:=co5.bV.lt;have hap:h5.size∉aK p5:=fun hb=>by have:=(m5.w.cd hb).2; omega
   have hw:IntKind.wrap .i64 ((i:Int)+1)=((i+1:Nat):Int):=by rw [wrap_i64 ad ad]; omega
   refine af co7.bA (some r.gA,()) rfl ?_;refine an ?_;refine af b7 (t.1,()) rfl ?_;refine an ?_;obtain ⟨nA7,mA7⟩:=co7.mA;refine Cw mA7 t.1 ?_;refine ak (fun g2=>?_) (fun g2=>?_)
   ·have g2:¬ cm es t.1=true:=by
     unfold cm;intro hh;rw [hh] at g2;cases g2
    have hst:ej (cm es) (cH (cm es) (cE (db es)) f) v st5 t.1=st5:=Ww g2;refine aF (cs:=[(false,[.int .i64])]) (((i+1:Nat):Int),()) (e.x.ai.length-(i+1)) rfl ad (WJ (fun z=>[Value.int .i64 z]) hw) ⟨i+1,p5,l5,c5,rfl,ad,rfl,?_,s5.trans T0⟩;rw [hfold,hst];exact m7
   ·have g2:cm es t.1=true:=by
     unfold cm;cases hh:(jP es t.1).isSome with
     | true=>rfl
     | false=>rw [hh] at g2; cases g2
    have hwn:=hown _ g2;have hst:ej (cm es) (cH (cm es) (cE (db es)) f) v st5 t.1=sJ (cH (cm es) (cE (db es)) f) v t.1 (fm v t.1 st5):=WC g2;rw [hst] at hfold;have g8:=g5.self v t.1;have hu8:qj (aT es) (fm v t.1 st5)<=f:=by unfold qj; rw [(gV v t.1 st5).1]; exact hu5
    have hi8:oP (aT es) (fm v t.1 st5):=by intro s hs; rw [(gV v t.1 st5).1] at hs; exact hi5 s hs
    refine af b7 (t.1,()) rfl ?_;refine an ?_;rw [UM];refine ak (fun g3=>?_) (fun g3=>?_)
    ·have g3:=Ws g3;refine af co7.bB (some r.gB,()) rfl ?_;refine an ?_;refine m7.Te o hsv ?_;intro h8 m8 s8 z8;have e8:fm v t.1 st5={ st5 with back:=dy st5.back v true }:=WC g3;rw [<- e8] at m8;have co8:=s8.co lo m7 co7;have b8:=s8.box (st:=st5) (l:=l5) (c:=c5) o ha7 hap b7;refine Il ih lo hs m8 co8 g8 hu8 hi8 hv hwn ha7 hap b8 (i:Int) ?_;intro h9 p9 l9 c9 m9 s9;refine aF (cs:=[(false,[.int .i64])]) (((i+1:Nat):Int),()) (e.x.ai.length-(i+1)) rfl ad (WJ (fun z=>[Value.int .i64 z]) hw) ⟨i+1,p9,l9,c9,rfl,ad,rfl,?_,((s5.trans T0).trans s8).trans s9⟩;rw [hfold];exact m9
    ·have g3:=Wt g3;have e8:fm v t.1 st5=st5:=Ww g3;rw [<- e8] at m7;refine Il ih lo hs m7 co7 g8 hu8 hi8 hv hwn ha7 hap b7 (i:Int) ?_;intro h9 p9 l9 c9 m9 s9;refine aF (cs:=[(false,[.int .i64])]) (((i+1:Nat):Int),()) (e.x.ai.length-(i+1)) rfl ad (WJ (fun z=>[Value.int .i64 z]) hw) ⟨i+1,p9,l9,c9,rfl,ad,rfl,?_,(s5.trans T0).trans s9⟩;rw [hfold];exact m9
  ·have g1:=Wt g1;have hii:=hfin ad;rw [hii] at m5 g5 hpre5 hi5 hn5;generalize hst5:(cE (db es) v).foldl (ej (cm es) (cH (cm es) (cE (db es)) f) v) (ei v st)=st5 at m5 g5 hpre5 hi5 hn5 hvis;refine af co5.bL (some r.gL,()) rfl ?_;refine an ?_;refine m5.Aa v ?_;refine af co5.bN (some r.gN,()) rfl ?_;refine an ?_;refine m5.Fq v ?_;refine ak (fun g2=>?_) (fun g2=>?_)
   ·have g2:tP st5 v<rq st5 v:=by have:=Ws g2; unfold tP rq; omega
    rw [WC g2] at hvis;refine ⟨rfl,p5,l5,c5,?_,s5⟩;rw [hvis];exact m5
   ·have g2:¬ tP st5 v<rq st5 v:=by have:=Wt g2; unfold tP rq; omega
    rw [Ww g2] at hvis;have hl5:l5=st5.cQ.length:=by rw [m5.w.1,Wr]
    have hw5:=g5.cQ;have hc5:st5.jl<=es.length:=by have:=g5.sum; omega
    have hvw:v∈st5.cQ:=hpre5.subset aj;have hpk:qn v st5<st5.cQ.length:=by
     unfold qn;rw [List.findIdx_lt_length];exact ⟨v,hvw,aj⟩
    refine af m5.bW ((p5,l5,c5),()) rfl ?_;refine an ?_;refine ic (Lz m5.w v hvw ad) ?_;refine af m5.bW ((p5,l5,c5),()) rfl ?_;refine an ?_;have hcap:=m5.w.Cp;have hpk':(st5.cQ.findIdx fun x=>decide (v=x))=qn v st5:=rfl;rw [hpk'];refine ay ⟨ad,ad,ad⟩ ?_;refine SV lo hs m5 co5 hi5 g5 ad ad ?_;intro h6 p6 l6 c6 m6 s6;refine ⟨rfl,p6,l6,c6,?_,s5.trans s6⟩;rw [hvis];exact m6
end
theorem oP.top {names:List YA} {own:YA->Bool} (hown:∀ s,own s=true->s∈names) (succ:YA->List YA) (f:Nat):∀ (l:List YA) (st:TS),(∀ s,s∈l->s∈names)->oP names st->oP names (l.foldl (vP own succ f) st)
 | [],st,hl,hi=>hi
 | w::l,st,hl,hi=>by
  rw [Xk];refine oP.top hown succ f l _ (fun s hs=>hl s (WN _ hs)) ?_;unfold vP;split
  ·exact oP.visit hown succ f w st hi (hl w aj)
  ·exact hi
theorem Gl {h:Hp} {p:Option YC} {l c:Nat} {es:List cD} (v:tu h p l es) (eo:EqsOk es) (hp:∀ i,i∈aK p->i<h.size) :
  HC Tryz.prog 83 #[.slice p l c] h fun w h'=>(∃ g n,w=.map (some g)/\dK eB h' g (Et (cm es) (cE (db es)) (aT es)).back n/\h.size<=g)/\Ext h h':=by
 refine aZ (args:=[.slice p l c]) mixed Tryz.func83 az (wj p l c) ?_;unfold sA aX bh bm aH bF bK bi bU aM;have hown:∀ s,cm es s=true->s∈aT es:=fun s=>(dX es s).1
 have hnl:(aT es).length=es.length:=by unfold aT; rw [Wr]
 have hll:=v.len;have hlen:=eo.len;refine bq ?_;intro h1 b1 e1 z1;refine af b1 ((p,l,c),()) rfl ?_;refine an ?_;refine aI (Af (v.ao e1) eo.len eo.nodup eo.sz) ?_;rintro _ h2 ⟨⟨gA,rfl,mA,hgA⟩,e2⟩;refine ⟨(some gA,()),rfl,?_⟩;refine an ?_;have b2:=b1.ao e2 aj;have hgA2:=mA.lt;refine bq ?_;intro h3 b3 e3 z3;refine aw b3 rfl aj ?_;intro h4 b4 k4 z4;have b4:bC h4 h2.size 97 [.map (some gA)]:=b4;have e24:Ext h2 h4:=Ch.trans e3 k4 (fun j hj hl=>by simp at hj; omega);refine xu (en:=eB) ?_;intro h5 m5 e5 z5;refine bq ?_;intro h6 b6 e6 z6;refine aw b6 rfl aj ?_;intro h7 b7 k7 z7;have b7:bC h7 h5.size 142 [.map (some h4.size)]:=b7;have e57:Ext h5 h7:=Ch.trans e6 k7 (fun j hj hl=>by simp at hj; omega);refine xu (en:=eI) ?_;intro h8 m8 e8 z8;refine xu (en:=eI) ?_;intro h9 m9 e9 z9;refine bq ?_;intro h10 b10 e10 z10;refine bq ?_;intro h11 b11 e11 z11;refine aw (b10.ao e11 aj) rfl aj ?_;intro h12 b12 k12 z12;have b12:bC h12 h9.size 97 [.map (some h7.size)]:=b12;refine aw (b11.ao k12 (by simp; omega)) rfl aj ?_;intro h13 b13 k13 z13;have b13:bC h13 h10.size 97 [.map (some h8.size)]:=b13;have e913:Ext h9 h13:=Ch.trans ((Ch.trans (Ext.trans e10 e11) k12 (fun j hj hl=>by simp at hj; omega)):Ext h9 h12) k13 (fun j hj hl=>by simp at hj; omega);refine bq ?_;intro h14 b14 e14 z14;refine xu (en:=eB) ?_;intro h15 m15 e15 z15;refine bq ?_;intro h16 b16 e16 z16;refine aw b16 rfl aj ?_;intro h17 b17 k17 z17;have b17:bC h17 h15.size 142 [.map (some h14.size)]:=b17;have e1517:Ext h15 h17:=Ch.trans e16 k17 (fun j hj hl=>by simp at hj; omega);refine bq ?_;intro h18 b18 e18 z18;refine aw b18 rfl aj ?_;intro h19 b19 k19 z19;have e1719:Ext h17 h19:=Ch.trans e18 k19 (fun j hj hl=>by simp at hj; omega);have e1519:=e1517.trans e1719;have e1319:Ext h13 h19:=(e14.trans e15).trans e1519;have e919:=e913.trans e1319;have e719:Ext h7 h19:=(e8.trans e9).trans e919;have e419:Ext h4 h19:=(e5.trans e57).trans e719;have e219:=e24.trans e419;have e019:Ext h h19:=(e1.trans e2).trans e219;have hz13:h13.size=h9.size+2:=ad
 have hz9:h9.size=h7.size+2:=ad
 have hz7:h7.size=h4.size+2:=ad
 have hz4:h4.size=h2.size+1:=ad
 generalize hr:(⟨h.size,gA,h2.size,h4.size,h5.size,h7.size,h8.size,h9.size,h10.size,h13.size,h14.size,h15.size,h17.size⟩:TF)=r;have ho:r.ord:=by
  subst hr;unfold TF.ord;dsimp only;omega
 have co:N' r h19 es p l c:=by
  subst hr;refine ⟨(b2.ao e219 aj),b4.ao e419 aj,⟨_,mA.ao e219 aj⟩,?_,(b12.ao k13 (by simp; omega)).ao e1319 aj,b13.ao e1319 aj,b17.ao e1719 aj,b7.ao e719 aj,v.ao e019⟩;exact b19
 have st:mY r h19 AP none 0 0:=by
  subst hr;exact ⟨m8.ao (e9.trans e919) aj,⟨0,m9.ao e919 aj⟩,⟨0,m15.ao e1519 aj⟩,⟨0,m5.ao ((e57.trans e719)) aj⟩,b14.ao (e15.trans e1519) aj,SL.nil _ _ _ _⟩
 have lo:IC r es p:=by
  subst hr;exact ⟨ho,hp,fun e he hne i hi=>(v.eY e he).Td hne i hi⟩
 have hrE:r.E=h.size:=by subst hr; rfl
 have hbN:r.N=h9.size:=by subst hr; rfl
 have hbV:r.V=h17.size:=by subst hr; rfl
 have hbB:r.B=h5.size:=by subst hr; rfl
 rw [show (⟨h9.size,0,none⟩:YC)=bx r.N by rw [hbN],show (⟨h17.size,0,none⟩:YC)=bx r.V by rw [hbV],show (⟨h5.size,0,none⟩:YC)=bx r.B by rw [hbB],show (⟨h.size,0,none⟩:YC)=bx r.E by rw [hrE]];refine af co.bE ((p,l,c),()) rfl ?_;refine an ?_;refine aR (cs:=[(false,[.int .i64])]) (fun x w h'=>∃ (i:Nat) (p':Option YC) (l' c':Nat),x.1=(i:Int)/\i<=es.length/\w=es.length-i/\mY r h' (((aT es).take i).foldl (vP (cm es) (cE (db es)) (aT es).length) AP) p' l' c'/\pJ r none h19 p' h')
  ((0:Int),()) es.length rfl ⟨0,none,0,0,rfl,ad,ad,st,pJ.refl _ _ _⟩ ?_
 rintro ⟨n20,⟨⟩⟩ w h20 ⟨i,p20,l20,c20,hi0,hile,rfl,m20,s20⟩;simp only at hi0;subst hi0;refine an ?_;have co20:=s20.co lo st co;refine ak (fun g1=>?_) (fun g1=>?_)
 ·have g1:=Ws g1;have hilt:i<es.length:=ad
  refine ay ⟨ad,ad⟩ ?_;obtain ⟨a2,ha2,hc2⟩:=co20.vw.cells i hilt;refine av ha2 ?_;rw [show Int.toNat (i:Int)=i from ad];have t20:=CI (own:=cm es) (succ:=cE (db es)) eo.nodup hown ((aT es).take i) [] AP (fun s hs=>Xx hs) (TU _);have i20:=oP.top hown (cE (db es)) (aT es).length ((aT es).take i) AP (fun s hs=>Xx hs) (fun s hs=>(hs rfl).elim);have htk:(aT es).take (i+1)=(aT es).take i++[es[i].name]:=by
   rw [Wx ad];unfold aT;rw [Wy]
  have hmem:es[i].name∈aT es:=WL (WA hilt);generalize es[i]=e at hc2 htk hmem;have hfold:((aT es).take (i+1)).foldl (vP (cm es) (cE (db es)) (aT es).length) AP=vP (cm es) (cE (db es)) (aT es).length (((aT es).take i).foldl (vP (cm es) (cE (db es)) (aT es).length) AP) e.name:=by
   rw [htk,Xz]; rfl
  generalize ((aT es).take i).foldl (vP (cm es) (cE (db es)) (aT es).length) AP=st20 at m20 t20 i20 hfold;refine ax (e.name,(e.p,e.l,e.c),(e.x.num:Int),()) hc2 ?_;refine an ?_;refine bq ?_;intro h21 b21 e21 z21;refine aw b21 rfl aj ?_;intro h22 b22 k22 z22;have b22:bC h22 h20.size 88 [.string e.name,.slice e.p e.l e.c,.int .u32 e.x.num]:=b22;have e2022:Ext h20 h22:=Ch.trans e21 k22 (fun j hj hl=>by simp at hj; omega);have co22:=co20.mi lo e2022 aj;have m22:=m20.ao e2022;have s22:pJ r none h19 p20 h22:=s20.trans (pJ.ext e2022);have hw:IntKind.wrap .i64 ((i:Int)+1)=((i+1:Nat):Int):=by rw [wrap_i64 ad ad]; omega
  refine af co22.bN (some r.gN,()) rfl ?_;refine an ?_;refine af b22 (e.name,()) rfl ?_;refine an ?_;refine m22.Fq e.name ?_;refine ak (fun g2=>?_) (fun g2=>?_)
  ·have g2:(st20.num e.name).getD 0=0:=by have:=Ws g2; omega
   refine af co22.bV (.func (.func 106) #[] r.tB.toArray,()) rfl ?_;refine an ?_;refine af b22 (e.name,()) rfl ?_;refine an ?_;refine uN (cap:=r.tB) TC rfl (KI eo lo (aT es).length e.name st20 h22 p20 l20 c20 m22 co22 t20.Da hmem (t20.Da.none g2) (XT _ _) i20) ?_;rintro _ h23 ⟨rfl,p23,l23,c23,m23,s23⟩;refine ⟨(),rfl,?_⟩;refine aF (cs:=[(false,[.int .i64])]) (((i+1:Nat):Int),()) (es.length-(i+1)) rfl ad (WJ (fun z=>[Value.int .i64 z]) hw) ⟨i+1,p23,l23,c23,rfl,ad,rfl,?_,s22.trans s23⟩;rw [hfold];unfold vP;rw [WC g2];exact m23
  ·have g2:¬ (st20.num e.name).getD 0=0:=by
    intro k;rw [k] at g2;simp at g2
   refine aF (cs:=[(false,[.int .i64])]) (((i+1:Nat):Int),()) (es.length-(i+1)) rfl ad (WJ (fun z=>[Value.int .i64 z]) hw) ⟨i+1,p20,l20,c20,rfl,ad,rfl,?_,s22⟩;rw [hfold];unfold vP;rw [Ww g2];exact m22
 ·have g1:=Wt g1;have htk:(aT es).take i=aT es:=W7 ad;rw [htk] at m20;refine af co20.bB (some r.gB,()) rfl ?_;refine an ?_;obtain ⟨n3,mB⟩:=m20.mB;have o':=ho;unfold TF.ord at o';refine ⟨⟨r.gB,n3,rfl,mB,ad⟩,Ch.trans e019 s20.ch fun j hj hl=>?_⟩;rw [oT] at hj;simp [aK] at hj;omega
theorem wo {h:Hp} {b:Nat} {e:TypeId} {p:Option YC} {l c:Nat} {us:cZ} (s:SL h b e 2 p l c (us.map cX)):gp h p l us :=
 ⟨by rw [s.1,Wr],fun i hi=>by
  obtain ⟨a,ha,hc⟩:=s.cells (i:=i) (by simpa using hi);rw [Wy] at hc;exact ⟨a,ha,hc⟩⟩
structure sG (es:List cD):Prop extends EqsOk es where
 To:(es.flatMap (·.x.ai)).length<=2^20
abbrev eM (es:List cD) (v:YA):bZ:=Iy (cm es) (db es) (aT es) v
abbrev df (es:List cD):YA->YA->Prop:=Edge (cm es) (cE (db es))
theorem kP {es:List cD} {v:YA} (hv:v∈aT es):∃ e,e∈es/\e.name=v/\db es v=e.x:=by
 obtain ⟨k,hk⟩:=CC hv;obtain ⟨hkl,hkn,hkx⟩:=oi hk;exact ⟨_,WA hkl,hkn,hkx⟩
theorem gF {α β:Type} (f:α->List β) {l:List α} {a:α} (h:a∈l):(f a).length<=(l.flatMap f).length:=by
 induction l with
 | nil=>simp at h
 | cons b l ih =>
  rw [Xj,Wv];rcases WY.1 h with e | e
  ·subst e; omega
  ·have:=ih e; omega
theorem sG.yn {es:List cD} (o:sG es) {v:YA} (hv:v∈aT es):(db es v).ai.length<=2^20:=by
 obtain ⟨e,he,_,hx⟩:=kP hv;rw [hx];exact Xw (gF (fun e:cD=>e.x.ai) he) o.To
theorem sG.Db {es:List cD} (o:sG es) (hc:∀ v,¬ jS (df es) v) {v:YA} (hv:v∈aT es):(eM es v).ai.length<=2^20:=by
 have hnf:=RV (dX es) hc hv;have hnm:=vF (dX es) hc hv;have h1:((eM es v).ai.map (·.1)).Nodup:=Xp.2 (hnf.1.imp fun h=>jU h);have h2:=lz ((eM es v).ai.map (·.1)) ((es.flatMap (·.x.ai)).map (·.1)) h1 (fun s hs=>by
  obtain ⟨t,ht,rfl⟩:=Wz.1 hs;obtain ⟨_,w,u,hw,hu,e⟩:=hnm t ht;obtain ⟨d,hd,_,hx⟩:=kP hw;rw [hx] at hu;rw [<- e];exact WL (List.mem_flatMap.2 ⟨d,hd,hu⟩))
 rw [Wr,Wr] at h2;exact Xw h2 o.To
theorem sG.NW {es:List cD} (o:sG es) (hc:∀ v,¬ jS (df es) v) {v:YA} (hv:v∈aT es):∀ t,t∈(eM es v).ai->t.1.size<=maxLen:=by
 intro t ht;obtain ⟨_,w,u,hw,hu,e⟩:=vF (dX es) hc hv t ht;obtain ⟨d,hd,_,hx⟩:=kP hw;rw [hx] at hu;rw [<- e];exact o.ts d hd u hu
theorem oz {of:YA->Option bZ} {B:Nat} (hB:1<=B) (hof:∀ s y,of s=some y->y.ai.length<=B):∀ l:cZ,(l.flatMap (qS of)).length<=l.length*B
 | []=>aj
 | t::l=>by
  rw [Xj,Wv,Xi,XA];have ih:=oz hB hof l
  have:(qS of t).length<=B:=by
   unfold qS;cases h:of t.1 with
   | none=>simpa using hB
   | some y=>simpa using hof _ _ h
  omega
structure SF where
 E:Nat
 gA:Nat
 A:Nat
 gD:Nat
 D:Nat
 V:Nat
def SF.ord (r:SF):Prop:=r.E<r.gA/\r.gA<r.A/\r.A<r.gD/\r.gD<r.D/\r.D<r.V
def SF.tB (r:SF):List YB:=[.pointer (some (bx r.D)),.pointer (some (bx r.E)),.pointer (some (bx r.A)),.pointer (some (bx r.V))]
structure Tq (r:SF) (h:Hp) (es:List cD) (p0:Option YC) (l0 c0:Nat):Prop where
 bE:bC h r.E 27 [.slice p0 l0 c0]
 bA:bC h r.A 97 [.map (some r.gA)]
 mA:∃ n,dK eI h r.gA (jP es) n
 bV:bC h r.V 148 [.func (.func 85) #[] r.tB.toArray]
 bD:bC h r.D 147 [.map (some r.gD)]
 vw:tu h p0 l0 es
structure U7 (r:SF) (es:List cD) (p0:Option YC):Prop where
 ord:r.ord
 l0:∀ i,i∈aK p0->i<r.E
 li:∀ e,e∈es->e.x.ai≠[]->∀ i,i∈aK e.p->i<r.E
theorem Tq.ao {r:SF} {h h':Hp} {es:List cD} {p0:Option YC} {l0 c0:Nat} (m:Tq r h es p0 l0 c0) (lo:U7 r es p0) (k:Ch [r.gD] h h'):Tq r h' es p0 l0 c0:=by
 have o:=lo.ord;unfold SF.ord at o;obtain ⟨n,mA⟩:=m.mA;exact ⟨m.bE.ao k (by simp; omega),m.bA.ao k (by simp; omega),⟨n,mA.ao k (by simp; omega)⟩,m.bV.ao k (by simp; omega),m.bD.ao k (by simp; omega),m.vw.mi k (fun i hi=>by have:=lo.l0 i hi; simp; omega) (fun e he hne i hi=>by have:=lo.li e he hne i hi; simp; omega)⟩
structure Q7 (r:SF) (h:Hp) (es:List cD) (f:YA->Option qY):Prop where
 map:∃ n,Ge h r.gD f n
 of:∀ s y,f s=some y->s∈aT es/\y.x=eM es s/\∀ i,i∈aK y.p->r.V<i/\i<h.size
theorem Q7.ext {r:SF} {h h':Hp} {es:List cD} {f:YA->Option qY} (d:Q7 r h es f) (k:Ext h h'):Q7 r h' es f:=by
 obtain ⟨n,m⟩:=d.map;exact ⟨⟨n,m.ao k aj (fun s y hy i hi=>aj)⟩,fun s y hy=>by
  obtain ⟨a,b,c⟩:=d.of s y hy;exact ⟨a,b,fun i hi=>⟨(c i hi).1,Nat.lt_of_lt_of_le (c i hi).2 k.size⟩⟩⟩
def UW (f f':YA->Option qY):Prop:=∀ s y,f s=some y->f' s=some y
def QG (b:Nat) (f f':YA->Option qY):Prop:=∀ s y,f' s=some y->f s=some y\/∀ i,i∈aK y.p->b<=i
theorem RF:fA Tryz.prog 85=true:=az
theorem Np {r:SF} {es:List cD} {p0:Option YC} {l0 c0:Nat} (eo:sG es) (lo:U7 r es p0) (hc:∀ v,¬ jS (df es) v):∀ (k:Nat) (v:YA),Hg (df es) k v->v∈aT es->∀ (h:Hp) (f:YA->Option qY),Tq r h es p0 l0 c0->Q7 r h es f ->
  HC Tryz.prog 85 (.string v::r.tB).toArray h fun w h'=>∃ y f',w=eL y/\y.x=eM es v/\Q7 r h' es f'/\f' v=some y/\UW f f'/\QG h.size f f'/\Ch [r.gD] h h':=by
 intro k;have o:=lo.ord;have o':=o;unfold SF.ord at o';have hown:=dX es
 induction k with
 | zero=>intro v hg; exact hg.elim
 | succ k ih =>
  intro v hg hv h f co dn;refine aZ (args:=.string v::r.tB) mixed Tryz.func85 az (pv v (bx r.D) (bx r.E) (bx r.A) (bx r.V)) ?_;unfold kj aX bh bm aH bF bK bi bU aM bT;have hV:=co.bV.lt;have hsv:=eo.toEqsOk.names v hv;refine bq ?_;intro h1 b1 e1 z1;have co1:=co.ao lo (e1.mono aj);have dn1:=dn.ext e1;refine af co1.bD (some r.gD,()) rfl ?_;refine an ?_;obtain ⟨n1,m1⟩:=dn1.map;refine Aa m1.map v (fun y hy1=>?_) (fun hy0=>?_)
  ·refine bq ?_;intro h2 b2 e2 z2;refine aw b2 rfl aj ?_;intro h3 b3 k3 z3;have b3:bC h3 h1.size 60 [.slice y.p y.l y.c,.int .u32 (y.x.num:Int)]:=b3;have e13:Ext h1 h3:=Ch.trans e2 k3 (fun j hj hl=>by simp at hj; omega);refine bX rfl ?_;refine af b3 ((y.p,y.l,y.c),(y.x.num:Int),()) rfl ?_;refine an ?_;refine aw (b1.ao e13 aj) rfl aj ?_;intro h4 b4 k4 z4;have b4:bC h4 h.size 60 [.slice y.p y.l y.c,.int .u32 (y.x.num:Int)]:=b4;refine af b4 ((y.p,y.l,y.c),(y.x.num:Int),()) rfl ?_;have e04:Ext h h4:=Ch.trans (e1.trans e13) k4 (fun j hj hl=>by simp at hj; omega);exact ⟨y,f,rfl,(dn.of v y hy1).2.1,dn.ext e04,hy1,fun s y hy=>hy,fun s y hy=>.inl hy,e04.mono aj⟩
  ·refine bq ?_;intro h2 b2 e2 z2;refine aw b2 rfl aj ?_;intro h3 b3 k3 z3;have e13:Ext h1 h3:=Ch.trans e2 k3 (fun j hj hl=>by simp at hj; omega);refine bM rfl ?_;have e03:=e1.trans e13;have co3:=co.ao lo (e03.mono aj);have dn3:=dn.ext e03;refine af co3.bE ((p0,l0,c0),()) rfl ?_;refine an ?_;refine af co3.bA (some r.gA,()) rfl ?_;refine an ?_;obtain ⟨nA,mA⟩:=co3.mA;refine Ih mA v ?_;obtain ⟨q,hq⟩:=CC hv;obtain ⟨hql,hqn,hqx⟩:=oi hq;have hl0:=co3.vw.len;have hlen:=eo.len;rw [hq];simp only [Option.getD_some];refine ay ⟨ad,ad⟩ ?_;obtain ⟨a,ha,hcc⟩:=co3.vw.cells q hql;refine av ha ?_;rw [show Int.toNat (q:Int)=q from ad];have hinW:∀ h',Tq r h' es p0 l0 c0->gp h' es[q].p es[q].l es[q].x.ai:=fun h' co'=>co'.vw.eY es[q] (WA hql)
   have hts:=eo.ts es[q] (WA hql);have hli:=lo.li es[q] (WA hql);have hll:=eo.yn hv;have hsol:=Gf hown hc hv;rw [hqx] at hll hsol;have hedge:∀ t,t∈es[q].x.ai->cm es t.1=true->df es v t.1:=fun t ht ho=>⟨kA.2 ⟨t,by rw [hqx]; exact ht,rfl⟩,ho⟩
   generalize es[q]=e at hcc hinW hts hli hll hsol hedge;refine ax ((e.p,e.l,e.c),(e.x.num:Int),()) ⟨by rw [add_zero']; exact hcc.2.1,by rw [add_add]; exact hcc.2.2.1,trivial⟩ ?_;refine an ?_;refine bq ?_;intro h5 b5 e5 z5;refine aw b5 rfl aj ?_;intro h6 b6 k6 z6;have b6:bC h6 h3.size 60 [.slice e.p e.l e.c,.int .u32 (e.x.num:Int)]:=b6;have e36:Ext h3 h6:=Ch.trans e5 k6 (fun j hj hl=>by simp at hj; omega);have e06:=e03.trans e36;have hz3:=e03.size;refine af b6 ((e.p,e.l,e.c),()) rfl ?_;refine an ?_;refine aR (cs:=[(false,[.int .i64])]) (fun x w h'=>∃ (i:Nat) (f':YA->Option qY),x.1=(i:Int)/\i<=e.x.ai.length/\w=e.x.ai.length-i/\Q7 r h' es f'/\UW f f'/\QG h6.size f f'/\(∀ t,t∈e.x.ai.take i->cm es t.1=true->∃ y,f' t.1=some y)/\Ch [r.gD] h6 h')
    ((0:Int),()) e.x.ai.length rfl ⟨0,f,rfl,ad,ad,dn.ext e06,fun s y hy=>hy,fun s y hy=>.inl hy,aj,Ch.refl _ _⟩ ?_
   rintro ⟨n23,⟨⟩⟩ w h7 ⟨i,f7,hi0,hile,rfl,dn7,sb7,na7,dd7,k7⟩;simp only at hi0;subst hi0;refine an ?_;have k07:Ch [r.gD] h h7:=Ch.trans (e06.mono aj) k7 (fun j hj _=>hj);have co7:=co.ao lo k07;have hel:=(hinW h7 co7).len;refine ak (fun g1=>?_) (fun g1=>?_)
   ·have g1:=Ws g1;have hilt:i<e.x.ai.length:=ad
    refine ay ⟨ad,ad⟩ ?_;obtain ⟨a2,ha2,hc2⟩:=(hinW h7 co7).cells i hilt;refine av ha2 ?_;rw [show Int.toNat (i:Int)=i from ad];have htk:e.x.ai.take (i+1)=e.x.ai.take i++[e.x.ai[i]]:=Wx hilt;have hed:=hedge e.x.ai[i] (WA hilt);generalize e.x.ai[i]=t at hc2 htk hed;refine ax (t.1,(t.2:Int),()) hc2 ?_;refine an ?_;refine bq ?_;intro h8 b8 e8 z8;refine aw b8 rfl aj ?_;intro h9 b9 k9 z9;have b9:bC h9 h7.size 66 [.string t.1,.int .u32 (t.2:Int)]:=b9;have e79:Ext h7 h9:=Ch.trans e8 k9 (fun j hj hl=>by simp at hj; omega);have k09:Ch [r.gD] h h9:=Ch.trans k07 e79 aj;have co9:=co.ao lo k09;have dn9:=dn7.ext e79;have hw:IntKind.wrap .i64 ((i:Int)+1)=((i+1:Nat):Int):=by rw [wrap_i64 ad ad]; omega
    refine af co9.bA (some r.gA,()) rfl ?_;refine an ?_;refine af b9 (t.1,()) rfl ?_;refine an ?_;obtain ⟨nA9,mA9⟩:=co9.mA;refine Cw mA9 t.1 ?_;refine ak (fun g2=>?_) (fun g2=>?_)
    ·have g2:cm es t.1=true:=g2;refine af co9.bV (.func (.func 85) #[] r.tB.toArray,()) rfl ?_;refine an ?_;refine af b9 (t.1,()) rfl ?_;refine an ?_;refine uN (cap:=r.tB) RF rfl (ih t.1 (hg t.1 (hed g2)) ((hown _).1 g2) h9 f7 co9 dn9) ?_;rintro _ h10 ⟨y,f10,rfl,hyx,dn10,hfy,sb10,na10,k10⟩;refine ⟨((y.p,y.l,y.c),(y.x.num:Int),()),rfl,?_⟩;refine an ?_;refine aF (cs:=[(false,[.int .i64])]) (((i+1:Nat):Int),()) (e.x.ai.length-(i+1)) rfl ad (WJ (fun z=>[Value.int .i64 z]) hw) ⟨i+1,f10,rfl,ad,rfl,dn10,fun s y hy=>sb10 s y (sb7 s y hy),fun s y hy=>?_,fun u hu ho=>?_,?_⟩
     ·rcases na10 s y hy with h | h
      ·exact na7 s y h
      ·refine .inr fun i hi=>?_
       have:=h i hi
       have:=k7.size
       have:=e79.size
       omega
     ·rw [htk] at hu;rcases WV.1 hu with h | h
      ·obtain ⟨y,hy⟩:=dd7 u h ho;exact ⟨y,sb10 _ _ hy⟩
      ·rw [W4.1 h]; exact ⟨y,hfy⟩
     ·exact Ch.trans (Ch.trans k7 e79 aj) k10 (fun j hj _=>hj)
    ·have g2:¬ cm es t.1=true:=by
      unfold cm;intro k;rw [k] at g2;cases g2
     refine aF (cs:=[(false,[.int .i64])]) (((i+1:Nat):Int),()) (e.x.ai.length-(i+1)) rfl ad (WJ (fun z=>[Value.int .i64 z]) hw) ⟨i+1,f7,rfl,ad,rfl,dn9,sb7,na7,fun u hu ho=>?_,Ch.trans k7 e79 aj⟩;rw [htk] at hu;rcases WV.1 hu with h | h
     ·exact dd7 u h ho
     ·rw [W4.1 h] at ho; exact (g2 ho).elim
   ·have g1:=Wt g1;have hii:e.x.ai.take i=e.x.ai:=W7 ad;rw [hii] at dd7;have b7:=b6.ao k7 (by simp; omega);refine af b7 ((e.p,e.l,e.c),(e.x.num:Int),()) rfl ?_;refine an ?_;refine af co7.bD (some r.gD,()) rfl ?_;refine an ?_;obtain ⟨n7,m7⟩:=dn7.map;have hz7:=k07.size;have hput:cY (fun s=>(f7 s).map (·.x)) e.x=eM es v:=by
     show _=Iy (cm es) (db es) (aT es) v;rw [hsol];refine oZ fun t ht=>?_
     show (f7 t.1).map (·.x)=Jh (cm es) (db es) (aT es) t.1;unfold Jh
     by_cases ho:cm es t.1=true
     ·obtain ⟨y,hy⟩:=dd7 t ht ho;rw [hy,WC ho,Yq,(dn7.of _ _ hy).2.1]
     ·rw [Ww ho];cases hy:f7 t.1 with
      | none=>rfl
      | some y=>exact (ho ((hown _).2 (dn7.of _ _ hy).1)).elim
    have hlens:∀ s y,f7 s=some y->y.x.ai.length<=2^20:=fun s y hy=>by
     obtain ⟨a,b,_⟩:=dn7.of s y hy;rw [b]; exact eo.Db hc a
    refine aI (Er (c:=e.c) (hinW h7 co7) m7 ad hts (fun s y hy=>⟨by have:=hlens s y hy; omega,by
      obtain ⟨a,b,_⟩:=dn7.of s y hy;rw [b]; exact eo.NW hc a⟩) ?_) ?_
    ·have:=oz (of:=fun s=>(f7 s).map (·.x)) (B:=2^20) ad (fun s y hy=>by
      cases hh:f7 s with
      | none=>simp only [hh] at hy; cases hy
      | some z =>
       simp only [hh,Option.map_some,Option.some.injEq] at hy;rw [<- hy]; exact hlens s z hh) e.x.ai
     exact Xw this (Xw (Xo _ hll) cg)
    ·rintro _ h8 ⟨⟨p',l',c',rfl,s8⟩,e8⟩;rw [hput] at s8 ⊢;refine ⟨((p',l',c'),((eM es v).num:Int),()),rfl,?_⟩;refine an ?_;have b8:=b7.ao e8 aj;refine aw b8 rfl aj ?_;intro h9 b9 k9 z9;have b9:bC h9 h3.size 60 [.slice p' l' c',.int .u32 ((eM es v).num:Int)]:=b9;have hz8:=e8.size;have k79:Ch [h3.size] h7 h9:=Ch.trans (e8.mono aj) k9 (fun j hj _=>hj);have k09:Ch [r.gD] h h9:=Ch.trans (Ch.trans k07 e8 aj) k9 (fun j hj hl=>by simp at hj; omega);have co9:=co.ao lo k09;have hk7:=k7.size;have hz36:h3.size<h6.size:=ad
     have hblk:∀ s y,f7 s=some y->∀ i,i∈aK y.p->i≠h3.size/\i≠h.size/\i≠r.gD:=by
      intro s y hy i hi;have h1:=(dn7.of s y hy).2.2 i hi;rcases na7 s y hy with h | h
      ·have:=((dn.of s y h).2.2 i hi).2
       omega
      ·have:=h i hi
       omega
     have m9:Ge h9 r.gD f7 n7:=m7.ao k79 (by simp; omega) (fun s y hy i hi=>by
      have:=(hblk s y hy i hi).1
      simpa using this)
     have s9:=s8.bG k9 (fun i hi=>by have:=(s8.cd hi).1; simp; omega);refine af co9.bD (some r.gD,()) rfl ?_;refine an ?_;refine af b9 ((p',l',c'),((eM es v).num:Int),()) rfl ?_;refine an ?_;refine Md m9.map hsv ⟨p',l',c',eM es v⟩ ?_;intro h10 m10 k10 z10;have b10:=b9.ao k10 (by simp; omega);refine af b10 ((p',l',c'),((eM es v).num:Int),()) rfl ?_;refine an ?_;have b110:bC h10 h.size 60 [.slice none 0 0,.int .u32 0]:=((((b1.ao e13 aj).ao e36 aj).ao k7 (by simp; omega)).ao k79 (by simp; omega)).ao k10 (by simp; omega);refine aw b110 rfl aj ?_;intro h11 b11 k11 z11;have b11:bC h11 h.size 60 [.slice p' l' c',.int .u32 ((eM es v).num:Int)]:=b11;refine af b11 ((p',l',c'),((eM es v).num:Int),()) rfl ?_;have k011:Ch [r.gD] h h11:=Ch.trans (Ch.trans k09 k10 (fun j hj _=>hj)) k11 (fun j hj hl=>by simp at hj; omega);have hz9:=k79.size;refine ⟨⟨p',l',c',eM es v⟩,dy f7 v ⟨p',l',c',eM es v⟩,rfl,rfl,⟨⟨_,m10.ao k11 (by simp; omega),fun s y hy=>?_⟩,fun s y hy=>?_⟩,cv _ _ _,fun s y hy=>?_,fun s y hy=>?_,k011⟩
     ·by_cases hsv:s=v
      ·subst hsv;rw [cv] at hy;have hy:=WQ hy;subst hy;exact wo ((s9.bG k10 (fun i hi=>by have:=(s9.cd hi).1; simp; omega)).bG k11 (fun i hi=>by have:=(s9.cd hi).1; simp; omega))
      ·rw [bR _ _ hsv] at hy;exact ((m9.eY s y hy).ao k10 (fun i hi=>by have:=(hblk s y hy i hi).2.2; simpa using this)).ao k11 (fun i hi=>by have:=(hblk s y hy i hi).2.1; simpa using this)
     ·by_cases hsv:s=v
      ·subst hsv;rw [cv] at hy;have hy:=WQ hy;subst hy;refine ⟨hv,rfl,fun i hi=>?_⟩
       have:=s9.cd hi
       omega
      ·rw [bR _ _ hsv] at hy;obtain ⟨a,b,c⟩:=dn7.of s y hy;refine ⟨a,b,fun i hi=>?_⟩
       have:=c i hi
       omega
     ·have hne:s≠v:=fun e=>by rw [e,hy0] at hy; cases hy
      rw [bR _ _ hne];exact sb7 s y hy
     ·by_cases hsv:s=v
      ·subst hsv;rw [cv] at hy;have hy:=WQ hy;subst hy;refine .inr fun i hi=>?_
       have:=s9.cd hi
       omega
      ·rw [bR _ _ hsv] at hy;rcases na7 s y hy with h | h
       ·exact .inl h
       ·refine .inr fun i hi=>?_
        have:=h i hi
        omega
theorem lr {P:Program} {h:Hp} {L:Lp} {K:YB->Hp->Prop} {k:Option YC->Nat->Nat->T} {t ty e:TypeId} {z:YB} {sz by':Nat} (ht:P.underlying t=some (.slice e)) (hinf:(P.info? e).map (fun i=>(i.zero,i.size,i.bytes))=some (some z,sz,by'))
  (hzs:z.cells.size=sz) {p:Option YC} {l c:Nat} {ys:List (List YB)} (hsrc:(p=none/\ys=[])\/∃ a,p=some a/\aG h a 0 ys.flatten) (hl:l=ys.length) (hys:∀ y,y∈ys->y.length=sz) (hpl:ys.flatten.all cS=true) (hby:(2*l+1024)*by'<=2^48) (hlm:l<=2^48)
  (hk:∀ p' c' h',SL h' h.size e sz p' l c' ys->Ext h h'->k p' l c' L K h') :
  T.dW P (Instr.buildSlice t 0 #[]) false [(false,[.slice 0])] (fun q m cc=>T.dW P (Builtin.append_ #[t,t] ty #[.slice q m cc,.slice p l c]) false [(false,[.slice 0])] k) L K h:=by
 obtain ⟨i,hi,hz,rfl,rfl⟩:=kH hinf;refine cR ?_;unfold Instr.buildSlice;rw [ar,aC ht];simp only;rw [ar,bJ hi,cr hi];rw [Ww ad,WC ad];simp only [Nat.zero_mul,pure_bind];have hf:∀ (f:Nat->Option (Nat × Nat)) (b:Array YB),Instr.fill f b []=some b:=fun f b=>rfl
 have hb:Array.map (fun x=>(#[]:Array YB)[x % (#[]:Array YB).size]!) (Array.range 0)=#[]:=aj
 rw [hf,hb];show ∃ p1 l1 c1,_/\_
 refine ⟨_,_,_,rfl,?_⟩;have s1:SL (h.push (.cells #[] e)) h.size e i.size (some ⟨h.size,0,none⟩) 0 0 []:=⟨rfl,aj,h.size,[],[],rfl,WH _,ad,bC.new h e [],aj⟩
 have e1:Ext h (h.push (.cells #[] e)):=Ext.push _ _;refine cR ?_;rcases hsrc with ⟨rfl,rfl⟩ | ⟨a,rfl,hc⟩
 ·have hl0:l=0:=hl;subst hl0;simp [Builtin.append_,ar,aC ht,bJ hi,Builtin.lenOf,Builtin.firstCells,storeCells];exact ⟨_,_,_,rfl,hk _ _ _ s1 e1⟩
 ·have:=nr (P:=P) (h:=h.push (.cells #[] e)) (K:=fun v h'=>∃ p l c,v=.slice p l c/\k p l c L K h') (ty:=ty) (ys:=ys) ht hi hz hzs s1 hl hys (aQ e1 aj _ _ hc) hpl (by simpa using hby) (by simpa using hlm) aj (cc:=c) ?_
  ·exact this
  ·intro p' c' h2 s2 c2 hp';rw [Xa,X1] at *;exact ⟨p',l,c',rfl,hk p' c' h2 s2 (Ch.trans e1 c2 fun j hj hl=>by simp [aK] at hj; omega)⟩
theorem Ic {h:Hp} {p:Option YC} {l:Nat} {us:cZ} (v:gp h p l us):(p=none/\us.map cX=[])\/∃ a,p=some a/\aG h a 0 (us.map cX).flatten:=by
 cases p with
 | none =>
  left
  refine ⟨rfl,?_⟩;cases us with
  | nil=>rfl
  | cons u us =>
   obtain ⟨a,ha,_⟩:=v.cells 0 aj;cases ha
 | some a=>exact .inr ⟨a,rfl,v.flat⟩
theorem Lo (us:cZ):∀ y,y∈us.map cX->y.length=2:=by
 intro y hy;obtain ⟨u,_,rfl⟩:=Wz.1 hy;rfl
theorem Ex {h:Hp} {p:Option YC} {l c:Nat} {us:cZ} (v:gp h p l us) (hl:us.length<=2^40) :
  HC Tryz.prog 54 #[.slice p l c] h fun w h'=>(∃ p' l' c',w=.slice p' l' c'/\SL h' h.size 66 2 p' l' c' (us.map cX))/\Ext h h':=by
 refine aZ (args:=[.slice p l c]) mixed Tryz.func54 az (fG p l c) ?_;unfold dP bk bi;have hll:=v.len;cases p with
 | none =>
  rcases Ic v with ⟨_,h2⟩ | ⟨a,ha,_⟩
  ·refine bX rfl ?_;refine ⟨⟨none,0,0,rfl,?_⟩,Ch.refl _ _⟩;rw [h2];exact SL.nil _ _ _ _
  ·cases ha
 | some a =>
  refine bM rfl ?_;refine lr (e:=66) (z:=.agg #[.string ⟨#[]⟩,.int .u32 0]) (sz:=2) (by':=24) zt sg rfl (Ic v) (by simpa using hll) (Lo us) (F7 us) ad ad ?_;intro p' c' h' s' e';exact ⟨⟨p',l,c',rfl,s'⟩,e'⟩
structure rl (h:Hp) (b:Nat) (p:Option YC) (l c:Nat) (ms:List cD):Prop where
 out:SL h b 88 3 p l c (ms.map Ah)
 eY:∀ m,m∈ms->SL h b 66 2 m.p m.l m.c (m.x.ai.map cX)
 ap:ms.Pairwise fun x y=>∀ i,i∈aK x.p->∀ j,j∈aK y.p->i<j
 dj:∀ m,m∈ms->∀ j,j∈aK m.p->j∉aK p
theorem rl.ao {ws:List Nat} {h h':Hp} {b:Nat} {p:Option YC} {l c:Nat} {ms:List cD} (o:rl h b p l c ms) (k:Ch ws h h') (hw:∀ i,i∈ws->i<b\/h.size<=i):rl h' b p l c ms :=
 ⟨o.out.bG k (fun i hi h=>by have:=o.out.cd hi; have:=hw i h; omega),fun m hm=>(o.eY m hm).bG k (fun i hi h=>by have:=(o.eY m hm).cd hi; have:=hw i h; omega),o.ap,o.dj⟩
theorem Ca {h:Hp} {b:Nat} {p:Option YC} {l c:Nat} {ms:List cD} (o:rl h b p l c ms):tu h p l ms :=
 ⟨by rw [o.out.1,Wr],fun i hi=>by
  obtain ⟨a,ha,hc⟩:=o.out.cells (i:=i) (by simpa using hi);rw [Wy] at hc;exact ⟨a,ha,hc⟩,fun m hm=>wo (o.eY m hm)⟩
theorem Bc:Tryz.prog.underlying 27=some (.slice 88):=az
theorem JQ:(Tryz.prog.info? 88).map (fun i=>(i.zero,i.size,i.bytes))=some (some (.agg #[.string ⟨#[]⟩,.slice none 0 0,.int .u32 0]),3,48):=az
theorem rl.push {h h1:Hp} {b:Nat} {p p':Option YC} {l l' c c':Nat} {ms:List cD} (o:rl h b p l c ms) {m:cD} (hm:SL h b 66 2 m.p m.l m.c (m.x.ai.map cX)) (hnew:∀ i,i∈aK m.p->(∀ y,y∈ms->∀ j,j∈aK y.p->j<i)/\i∉aK p)
  (s':SL h1 b 88 3 p' l' c' ((ms++[m]).map Ah)) (k:Ch (aK p) h h1) (hp:∀ i,i∈aK p'->i∈aK p\/h.size<=i):rl h1 b p' l' c' (ms++[m]):=by
 have hdj:∀ y,y∈ms++[m]->∀ j,j∈aK y.p->j∉aK p/\j<h.size:=by
  intro y hy j hj;rcases WV.1 hy with h | h
  ·exact ⟨o.dj y h j hj,((o.eY y h).cd hj).2⟩
  ·rw [W4.1 h] at hj;exact ⟨(hnew j hj).2,(hm.cd hj).2⟩
 refine ⟨s',fun y hy=>?_,?_,fun y hy j hj hp'=>?_⟩
 ·have hb:=hdj y hy;rcases WV.1 hy with h | h
  ·exact (o.eY y h).bG k fun i hi=>(hb i hi).1
  ·have h:=W4.1 h;subst h;exact hm.bG k fun i hi=>(hb i hi).1
 ·rw [List.pairwise_append];refine ⟨o.ap,List.pairwise_singleton _ _,fun y hy z hz i hi j hj=>?_⟩;rw [W4.1 hz] at hj;exact (hnew j hj).1 y hy i hi
 ·have:=hdj y hy j hj
  rcases hp j hp' with h | h
  ·exact this.1 h
  ·omega
structure VH (r:SF) (es:List cD) (i:Nat) (p:Option YC) (l c:Nat) (f:YA->Option qY) (ms:List cD) (h:Hp):Prop where
 dn:Q7 r h es f
 own:rl h (r.V+1) p l c ms
 ms:ms.map (fun m=>(m.name,m.x))=(es.take i).map (fun e=>(e.name,eM es e.name))
 dd:∀ s y,f s=some y->∀ j,j∈aK y.p->j∉aK p
def RA (es:List cD) (h:Hp) (w:YB) (h':Hp):Prop :=
 (∃ i,∃ hi:i<es.length,jS (df es) es[i].name/\(∀ j,(hj:j<i)->¬ jS (df es) es[j].name)/\w=.tuple #[.slice none 0 0,.int .i64 (i:Int),.int .i64 24]) \/
 ((∀ v,¬ jS (df es) v)/\∃ p' l' c' ms,w=.tuple #[.slice p' l' c',.int .i64 0,.int .i64 0]/\rl h' h.size p' l' c' ms/\ms.map (fun m=>(m.name,m.x))=es.map (fun e=>(e.name,eM es e.name)))
abbrev Ty:List fx:=[(false,[.slice 0]),(false,[.int .i64]),(false,[.int .i64]),(false,[.int .i64])]
theorem Fg {h:Hp} {p:Option YC} {l c:Nat} {es:List cD} (v:tu h p l es) (eo:sG es) (hp:∀ i,i∈aK p->i<h.size) (hlen:es.length<=2^20) :
  HC Tryz.prog 49 #[.slice p l c] h fun w h'=>RA es h w h'/\Ext h h':=by
 refine aZ (args:=[.slice p l c]) mixed Tryz.func49 az (zf p l c) ?_;unfold xF aX bh bm aH bF dT bk bK bi bU aM da;have hown:=dX es;have hll:=v.len;refine bq ?_;intro h1 b1 e1 z1;refine af b1 ((p,l,c),()) rfl ?_;refine an ?_;refine aI (Gl (c:=c) (v.ao e1) eo.toEqsOk (fun i hi=>by have:=hp i hi; omega)) ?_;rintro _ h2 ⟨⟨g,n,rfl,mB,hg⟩,e2⟩;refine ⟨(some g,()),rfl,?_⟩;refine an ?_;have hback:=Gs (succ:=cE (db es)) eo.nodup (fun s=>(hown s).1);generalize (Et (cm es) (cE (db es)) (aT es)).back=back at mB hback;have b2:=b1.ao e2 aj;have e02:=e1.trans e2;refine af b2 ((p,l,c),()) rfl ?_;refine an ?_;refine aR (cs:=Ty) (fun x w h'=>∃ i:Nat,x.2.2.2.1=(i:Int)/\i<=es.length/\w=es.length-i/\(∀ j,(hj:j<i)->∀ hl:j<es.length,¬ jS (df es) es[j].name)/\Ext h2 h') ((none,0,0),(0:Int),(0:Int),(0:Int),()) es.length rfl ⟨0,rfl,ad,ad,fun j hj=>ad,Ch.refl _ _⟩ ?_;rintro ⟨⟨p9,l10,l11⟩,n12,n13,n14,⟨⟩⟩ w h3 ⟨i,hi,hile,rfl,hno,e3⟩;simp only at hi;subst hi;refine an ?_;have e03:=e02.trans e3;refine ak (fun g1=>?_) (fun g1=>?_)
 ·have g1:=Ws g1;have hilt:i<es.length:=ad
  refine ay ⟨ad,ad⟩ ?_;obtain ⟨a,ha,hc⟩:=(v.ao e03).cells i hilt;refine av ha ?_;rw [show Int.toNat (i:Int)=i from ad];have hes:∀ s,jS (df es) es[i].name↔jS (df es) es[i].name:=fun s=>Iff.rfl
  generalize hee:es[i]=e at hc hes;refine ax (e.name,(e.p,e.l,e.c),(e.x.num:Int),()) hc ?_;refine an ?_;refine bq ?_;intro h4 b4 e4 z4;refine aw b4 rfl aj ?_;intro h5 b5 k5 z5;have b5:bC h5 h3.size 88 [.string e.name,.slice e.p e.l e.c,.int .u32 e.x.num]:=b5;have e35:Ext h3 h5:=Ch.trans e4 k5 (fun j hj hl=>by simp at hj; omega);refine af b5 (e.name,()) rfl ?_;refine an ?_;refine KX ((mB.ao e3 aj).ao e35 aj) e.name ?_;refine ak (fun g2=>?_) (fun g2=>?_)
  ·have g2:(back e.name).getD false=true:=g2;refine ⟨.inl ⟨i,hilt,?_,fun j hj=>hno j hj ad,rfl⟩,e03.trans e35⟩;rw [hee];exact (hback _).1 g2
  ·have g2:(back e.name).getD false=false:=g2;have hw:IntKind.wrap .i64 ((i:Int)+1)=((i+1:Nat):Int):=by rw [wrap_i64 ad ad]; omega
   refine aF (cs:=Ty) ((p9,l10,l11),n12,n13,((i+1:Nat):Int),()) (es.length-(i+1)) rfl ad (by rw [hw]; rfl) ⟨i+1,rfl,ad,rfl,fun j hj hl=>?_,e3.trans e35⟩
   by_cases hji:j=i
   ·subst hji;rw [hee];intro hc
    have:=(hback _).2 hc
    rw [g2] at this; cases this
   ·exact hno j ad hl
 ·have g1:=Wt g1;have hc:∀ v,¬ jS (df es) v:=by
   intro s hs;obtain ⟨j,hj,hjs⟩:=WS ((hown s).1 hs.Rf);have hj':j<es.length:=by simpa [aT] using hj
   have:es[j].name=s:=by rw [<- hjs]; simp [aT]
   exact hno j ad hj' (by rw [this]; exact hs)
  have b3:=b2.ao e3 aj;refine af b3 ((p,l,c),()) rfl ?_;refine an ?_;refine aI (Af (v.ao e03) eo.len eo.nodup eo.sz) ?_;rintro _ h4 ⟨⟨gA,rfl,mA,hgA⟩,e4⟩;refine ⟨(some gA,()),rfl,?_⟩;refine an ?_;have hgA4:=mA.lt;refine bq ?_;intro h5 b5 e5 z5;refine aw b5 rfl aj ?_;intro h6 b6 k6 z6;have b6:bC h6 h4.size 97 [.map (some gA)]:=b6;have e46:Ext h4 h6:=Ch.trans e5 k6 (fun j hj hl=>by simp at hj; omega);refine xu (en:=eL) ?_;intro h7 m7 e7 z7;refine bq ?_;intro h8 b8 e8 z8;refine aw b8 rfl aj ?_;intro h9 b9 k9 z9;have b9:bC h9 h7.size 147 [.map (some h6.size)]:=b9;have e79:Ext h7 h9:=Ch.trans e8 k9 (fun j hj hl=>by simp at hj; omega);refine bq ?_;intro h10 b10 e10 z10;refine aw b10 rfl aj ?_;intro h11 b11 k11 z11;have e911:Ext h9 h11:=Ch.trans e10 k11 (fun j hj hl=>by simp at hj; omega);have e711:=e79.trans e911;have e611:=e7.trans e711;have e411:=e46.trans e611;have e011:=(e03.trans e4).trans e411;have hz4:=e4.size;have hz3:=e3.size;have hz2:=e2.size;generalize hr:(⟨h.size,gA,h4.size,h6.size,h7.size,h9.size⟩:SF)=r;have ho:r.ord:=by
   subst hr;unfold SF.ord;dsimp only;omega
  have hrE:r.E=h.size:=by subst hr; rfl
  have hrV:r.V+1=h11.size:=by subst hr; dsimp only; omega
  have hrV':r.V=h9.size:=by subst hr; rfl
  have hrD:r.gD=h6.size:=by subst hr; rfl
  have co:Tq r h11 es p l c:=by
   subst hr;exact ⟨(b3.ao (e4.trans e411) aj),b6.ao e611 aj,⟨_,mA.ao e411 aj⟩,b11,b9.ao e911 aj,v.ao e011⟩
  have dn:Q7 r h11 es (fun _=>none):=⟨⟨0,(by rw [hrD]; exact m7.ao e711 aj),fun s y hy=>by cases hy⟩,fun s y hy=>by cases hy⟩
  have lo:U7 r es p:=⟨ho,fun i hi=>by rw [hrE]; exact hp i hi,fun e he hne i hi=>by rw [hrE]; exact (v.eY e he).Td hne i hi⟩
  have o':=ho;unfold SF.ord at o';rw [show (⟨h.size,0,none⟩:YC)=bx r.E by rw [hrE],show (⟨h9.size,0,none⟩:YC)=bx r.V by rw [hrV']];refine af co.bE ((p,l,c),()) rfl ?_;refine an ?_;refine aR (cs:=[(false,[.slice 0]),(false,[.int .i64])]) (fun x w h'=>∃ (i:Nat) (p':Option YC) (l' c':Nat) (f:YA->Option qY) (ms:List cD),x.1=(p',l',c')/\x.2.1=(i:Int)/\i<=es.length/\w=es.length-i/\VH r es i p' l' c' f ms h'/\Ch [r.gD] h11 h')
   ((none,0,0),(0:Int),()) es.length rfl ⟨0,none,0,0,_,[],rfl,rfl,ad,ad,⟨dn,⟨SL.nil _ _ _ _,aj,List.Pairwise.nil,aj⟩,rfl,fun s y hy=>by cases hy⟩,Ch.refl _ _⟩ ?_
  rintro ⟨⟨p26,l27,l28⟩,n29,⟨⟩⟩ w h12 ⟨i,p',l',c',f,ms,hx,hi,hile,rfl,si,k12⟩;simp only at hx hi;obtain ⟨rfl,rfl,rfl⟩:=hx;subst hi;refine an ?_;have co12:=co.ao lo k12;have hz12:=k12.size;have hmsl:ms.length=i:=by have:=WJ List.length si.ms; simp at this; omega
  refine ak (fun g2=>?_) (fun g2=>?_)
  ·have g2:=Ws g2;have hilt:i<es.length:=ad
   refine ay ⟨ad,ad⟩ ?_;obtain ⟨a,ha,hcc⟩:=co12.vw.cells i hilt;refine av ha ?_;rw [show Int.toNat (i:Int)=i from ad];have htk:es.take (i+1)=es.take i++[es[i]]:=Wx hilt;have hmem:es[i].name∈aT es:=WL (WA hilt);generalize es[i]=e at hcc htk hmem;refine ax (e.name,(e.p,e.l,e.c),(e.x.num:Int),()) hcc ?_;refine an ?_;refine bq ?_;intro h13 b13 e13 z13;refine aw b13 rfl aj ?_;intro h14 b14 k14 z14;have b14:bC h14 h12.size 88 [.string e.name,.slice e.p e.l e.c,.int .u32 e.x.num]:=b14;have e1214:Ext h12 h14:=Ch.trans e13 k14 (fun j hj hl=>by simp at hj; omega);have co14:=co12.ao lo (e1214.mono aj);have dn14:=si.dn.ext e1214;have own14:=si.own.ao e1214 aj;refine af co14.bV (.func (.func 85) #[] r.tB.toArray,()) rfl ?_;refine an ?_;refine af b14 (e.name,()) rfl ?_;refine an ?_;refine uN (cap:=r.tB) RF rfl (Np eo lo hc (aT es).length e.name (FW hown hc hmem) hmem h14 f co14 dn14) ?_;rintro _ h15 ⟨y,f15,rfl,hyx,dn15,hfy,sb15,na15,k15⟩;refine ⟨((y.p,y.l,y.c),(y.x.num:Int),()),rfl,?_⟩;refine an ?_;have own15:=own14.ao k15 (fun i hi=>.inl (by simp at hi; omega));have co15:=co14.ao lo k15;have hz15:=k15.size;have b15:=b14.ao k15 (by simp; omega);obtain ⟨n15,m15⟩:=dn15.map;have hyv:=m15.eY _ y hfy;refine bq ?_;intro h16 b16 e16 z16;refine aw b16 rfl aj ?_;intro h17 b17 k17 z17;have b17:bC h17 h15.size 60 [.slice y.p y.l y.c,.int .u32 (y.x.num:Int)]:=b17;have e1517:Ext h15 h17:=Ch.trans e16 k17 (fun j hj hl=>by simp at hj; omega);have b1417:=b15.ao e1517 aj;refine af b1417 (e.name,()) rfl ?_;refine an ?_;refine af b17 ((y.p,y.l,y.c),()) rfl ?_;refine an ?_;rw [aE];refine af b17 ((y.x.num:Int),()) rfl ?_;refine an ?_;have hyl:y.x.ai.length<=2^20:=by rw [hyx]; exact eo.Db hc hmem
   refine aI (Ex (c:=y.c) (hyv.ao e1517 aj) ad) ?_;rintro _ h18 ⟨⟨pc,lc,cc,rfl,sc⟩,e18⟩;refine ⟨((pc,lc,cc),()),rfl,?_⟩;refine an ?_;have e1518:=e1517.trans e18;have own18:=own15.ao e1518 aj;have b1418:=b1417.ao e18 aj;have b1718:=b17.ao e18 aj;have dn18:=dn15.ext e1518;have hz17:=e1517.size;have hz18:=e18.size;have stB:∀ h',bC h' h12.size 88 [.string e.name,.slice e.p e.l e.c,.int .u32 e.x.num]->bC h' h15.size 60 [.slice y.p y.l y.c,.int .u32 (y.x.num:Int)]->T.Al h' [(⟨h15.size,0+1,none⟩,[.int .u32 (y.x.num:Int)]),(⟨h15.size,0,none⟩,[.slice y.p y.l y.c]),(⟨h12.size,0,none⟩,[.string e.name])] :=
    fun h' b1 b2=>⟨b2.cells _ rfl,b2.cells _ rfl,b1.cells _ rfl,trivial⟩
   refine ⟨⟨b1718.cells _ rfl,b1418.cells _ rfl,trivial⟩,?_⟩;have hol:l27=ms.length:=by rw [si.own.out.1,Wr]
   refine gj (vs:=Ah ⟨e.name,pc,lc,cc,y.x⟩) Bc JQ rfl ad ad az rfl rfl own18.out ad ad ad (fun h' ex=>stB h' (b1418.ao ex aj) (b1718.ao ex aj)) ?_;intro p' c' h19 s19 k19 hp19;have hbb:∀ j,j∈aK p26->r.V<j/\j<h12.size:=fun j hj=>by have:=si.own.out.cd hj; omega
   refine ⟨stB h19 (b1418.ao k19 (fun hj=>by have:=hbb _ hj; omega)) (b1718.ao k19 (fun hj=>by have:=hbb _ hj; omega)),?_⟩;have hw:IntKind.wrap .i64 ((i:Int)+1)=((i+1:Nat):Int):=by rw [wrap_i64 ad ad]; omega
   have hp19':∀ j,j∈aK p'->j∈aK p26\/h18.size<=j:=by
    intro j hj;rcases hp19 with h | ⟨a,h,hle⟩
    ·rw [h] at hj; exact .inl hj
    ·rw [h] at hj; simp [aK] at hj; subst hj; exact .inr hle
   refine aF (cs:=[(false,[.slice 0]),(false,[.int .i64])]) ((p',l27+1,c'),((i+1:Nat):Int),()) (es.length-(i+1)) rfl ad (by rw [hw]; rfl)
    ⟨i+1,p',l27+1,c',f15,ms++[⟨e.name,pc,lc,cc,y.x⟩],rfl,rfl,ad,rfl,⟨?_,?_,?_,fun s z hz j hj hjp=>?_⟩,?_⟩
   ·obtain ⟨n18,m18⟩:=dn18.map;refine ⟨⟨n18,m18.ao k19 (fun hj=>by have:=hbb _ hj; omega) (fun s z hz j hj=>?_)⟩,fun s z hz=>?_⟩
    ·rcases na15 s z hz with h | h
     ·exact si.dd s z h j hj
     ·intro hjp
      have:=h j hj
      have:=hbb j hjp
      have:=e1214.size
      omega
    ·obtain ⟨a,b,c⟩:=dn18.of s z hz;refine ⟨a,b,fun i hi=>?_⟩
     have:=c i hi
     have:=k19.size
     omega
   ·refine own18.push (m:=⟨e.name,pc,lc,cc,y.x⟩) (sc.mono ad) (fun j hj=>?_) (by simpa using s19) k19 hp19';have hj2:=sc.cd hj;refine ⟨fun z hz k hk=>?_,fun hjp=>?_⟩
    ·have:=((own15.eY z hz).cd hk).2
     omega
    ·have:=hbb j hjp
     have:=e1214.size
     omega
   ·rw [WG,si.ms,htk,WG];show _++[(e.name,y.x)]=_;rw [hyx] <;> rfl
   ·rcases hp19' j hjp with h | h
    ·rcases na15 s z hz with k | k
     ·exact si.dd s z k j hj h
     ·have:=k j hj
      have:=hbb j h
      have:=e1214.size
      omega
    ·have:=((dn18.of s z hz).2.2 j hj).2
     omega
   ·refine Ch.trans (Ch.trans (Ch.trans (Ch.trans k12 e1214 aj) k15 (fun j hj _=>hj)) e1518 aj) k19 (fun j hj hl=>?_)
    have:=(si.own.out.cd hj).1
    omega
  ·have g2:=Wt g2;have htk:es.take i=es:=W7 ad;have hms:=si.ms;rw [htk] at hms;have hr11:=e011.size;refine ⟨.inr ⟨hc,p26,l27,l28,ms,rfl,⟨si.own.out.mono ad,fun m hm=>(si.own.eY m hm).mono ad,si.own.ap,si.own.dj⟩,hms⟩,Ch.trans e011 k12 (fun j hj hl=>?_)⟩;simp at hj;omega
def wF (es:List cD) (s:YA):Option qY:=((jP es s).bind fun k=>es[k]?).map fun e=>⟨e.p,e.l,e.c,e.x⟩
theorem wI {es:List cD} {s:YA} {y:qY} (h:wF es s=some y):∃ e,e∈es/\e.name=s/\y=⟨e.p,e.l,e.c,e.x⟩/\db es s=e.x:=by
 unfold wF at h;cases hp:jP es s with
 | none=>rw [hp] at h; cases h
 | some k =>
  obtain ⟨hk,h1,h2⟩:=oi hp;rw [hp,Xv,Wu hk] at h;exact ⟨_,WA hk,h1,(WQ h).symm,h2⟩
theorem IR {es:List cD} {e:cD} (hn:∀ d,d∈es->d.name≠e.name):wF (es++[e])=dy (wF es) e.name ⟨e.p,e.l,e.c,e.x⟩:=by
 funext s
 unfold wF;rw [Dz hn]
 by_cases h:s=e.name
 ·subst h;rw [cv,cv,Xv,WX ad]
  simp
 ·rw [bR _ _ h,bR _ _ h];cases hp:jP es s with
  | none=>rfl
  | some k =>
   obtain ⟨hk,_,_⟩:=oi hp;rw [Xv,Xv,WZ hk]
def cj (es:List cD) (s:YA):Option bZ:=if cm es s=true then some (db es s) else none
theorem Sn (es:List cD):(fun s=>(wF es s).map (·.x))=cj es:=by
 funext s
 unfold cj cm;cases hp:jP es s with
 | none=>simp [wF,hp]
 | some k =>
  obtain ⟨hk,_,h2⟩:=oi hp;simp only [Option.isSome_some,if_true];rw [h2];unfold wF;rw [hp,Xv,Wu hk] <;> rfl
theorem La {h:Hp} {p:Option YC} {l c:Nat} {x:bZ} (v:gp h p l x.ai) {q:Option YC} {m d:Nat} {es:List cD} (u:tu h q m es) (eo:EqsOk es) (het:∀ e,e∈es->e.x.ai.length<=2^20) (htot:(es.flatMap (·.x.ai)).length<=2^39) (hlen:es.length<=2^20) (hxl:x.ai.length<=2^20) (hxs:∀ t,t∈x.ai->t.1.size<=maxLen) :
  HC Tryz.prog 50 #[gn p l c x,.slice q m d] h fun w h'=>(∃ p' l' c',w=gn p' l' c' (kD (cY (cj es) x) tI)/\SL h' h.size 66 2 p' l' c' ((kD (cY (cj es) x) tI).ai.map cX))/\Ext h h':=by
 refine aZ (args:=[gn p l c x,.slice q m d]) mixed Tryz.func50 az (C2 p l c x.num q m d) ?_;unfold Bj aX bh bm aH bF bK bi bU aM;have hll:=u.len;refine bq ?_;intro h1 b1 e1 z1;refine bq ?_;intro h2 b2 e2 z2;refine xu (en:=eL) ?_;intro h3 m3 e3 z3;have b13:=(b1.ao e2 aj).ao e3 aj;have b23:=b2.ao e3 aj;have e03:=(e1.trans e2).trans e3;refine aR (cs:=[(false,[.int .i64])]) (fun y w h'=>∃ (i:Nat) (n:Nat),y.1=(i:Int)/\i<=es.length/\w=es.length-i/\dK eL h' h2.size (wF (es.take i)) n/\Ch [h2.size] h3 h') ((0:Int),()) es.length rfl
  ⟨0,0,rfl,ad,ad,m3,Ch.refl _ _⟩ ?_
 rintro ⟨n5,⟨⟩⟩ w h4 ⟨i,n,hi,hile,rfl,m4,k4⟩;simp only at hi;subst hi;refine an ?_;have e04:Ext h h4:=Ch.trans e03 k4 (fun j hj hl=>by simp at hj; omega);have hz4:=k4.size;refine ak (fun g1=>?_) (fun g1=>?_)
 ·have g1:=Ws g1;have hilt:i<es.length:=ad
  refine ay ⟨ad,ad⟩ ?_;obtain ⟨a,ha,hc⟩:=(u.ao e04).cells i hilt;refine av ha ?_;rw [show Int.toNat (i:Int)=i from ad];have htk:es.take (i+1)=es.take i++[es[i]]:=Wx hilt;have hsz:=eo.sz es[i] (WA hilt);have hnd:∀ d,d∈es.take i->d.name≠es[i].name:=by
   intro d hd he;obtain ⟨j,hj,rfl⟩:=WS hd;rw [WO] at hj;rw [List.getElem_take] at he;have hn:(es.map (·.name)).Nodup:=eo.nodup;exact List.pairwise_iff_getElem.1 hn j i (by rw [Wr]; omega) (by rw [Wr]; omega) ad (by simpa using he)
  generalize es[i]=e at hc htk hsz hnd;refine ax (e.name,(e.p,e.l,e.c),(e.x.num:Int),()) hc ?_;refine an ?_;refine bq ?_;intro h5 b5 e5 z5;refine aw b5 rfl aj ?_;intro h6 b6 k6 z6;have b6:bC h6 h4.size 88 [.string e.name,.slice e.p e.l e.c,.int .u32 e.x.num]:=b6;have e46:Ext h4 h6:=Ch.trans e5 k6 (fun j hj hl=>by simp at hj; omega);refine af b6 (e.name,()) rfl ?_;refine an ?_;rw [aE];refine af b6 ((e.p,e.l,e.c),(e.x.num:Int),()) rfl ?_;refine an ?_;refine Md (m4.ao e46 aj) hsz ⟨e.p,e.l,e.c,e.x⟩ ?_;intro h7 m7 k7 z7;have hw:IntKind.wrap .i64 ((i:Int)+1)=((i+1:Nat):Int):=by rw [wrap_i64 ad ad]; omega
  refine aF (cs:=[(false,[.int .i64])]) (((i+1:Nat):Int),()) (es.length-(i+1)) rfl ad (WJ (fun z=>[Value.int .i64 z]) hw) ⟨i+1,_,rfl,ad,rfl,by rw [htk,IR hnd]; exact m7,Ch.trans (Ch.trans k4 e46 aj) k7 (fun j hj _=>hj)⟩
 ·have g1:=Wt g1;have hii:es.take i=es:=W7 ad;rw [hii] at m4;have b14:=b13.ao k4 (by simp; omega);have b24:=b23.ao k4 (by simp; omega);refine af b14 ((p,l,c),(x.num:Int),()) rfl ?_;refine an ?_;have mL:Ge h4 h2.size (wF es) n:=⟨m4,fun s y hy=>by
   obtain ⟨e,he,_,rfl,_⟩:=wI hy;exact (u.eY e he).ao e04 aj⟩
  have hlens:∀ s y,wF es s=some y->y.x.ai.length<=2^20:=fun s y hy=>by
   obtain ⟨e,he,_,rfl,_⟩:=wI hy;exact het e he
  have hz0:=e04.size
  refine aI (Er (c:=c) (v.ao e04 aj) mL ad hxs (fun s y hy=>⟨by have:=hlens s y hy; omega,by
    obtain ⟨e,he,_,rfl,_⟩:=wI hy;exact eo.ts e he⟩) ?_) ?_
  ·have:=oz (of:=fun s=>(wF es s).map (·.x)) (B:=2^20) ad (fun s y hy=>by
    cases hh:wF es s with
    | none=>simp only [hh] at hy; cases hy
    | some z =>
     simp only [hh,Option.map_some,Option.some.injEq] at hy;rw [<- hy]; exact hlens s z hh) x.ai
   exact Xw this (Xw (Xo _ hxl) cg)
  ·rintro _ h5 ⟨⟨p5,l5,c5,rfl,s5⟩,e5⟩;rw [Sn] at s5 ⊢;have hlp:(cY (cj es) x).ai.length<=2^40:=by
    have hn:=eE (cj es) x;have h1:((cY (cj es) x).ai.map (·.1)).Nodup:=Xp.2 (hn.1.imp fun h=>jU h);have h2:=lz ((cY (cj es) x).ai.map (·.1)) ((x.ai++es.flatMap (·.x.ai)).map (·.1)) h1 (fun s hs=>by
     obtain ⟨t,ht,rfl⟩:=Wz.1 hs;rcases rz ht with ⟨p,hp,e,_⟩ | ⟨p,y,u,hp,ho,hu,e⟩
     ·rw [<- e]; exact WL (W3 _ hp)
     ·rw [<- e];refine WL (W5 _ ?_);unfold cj at ho
      by_cases hw:cm es p.1=true
      ·rw [WC hw] at ho;obtain ⟨d,hd,_,hx⟩:=kP ((dX es _).1 hw);have ho:=WQ ho;rw [<- ho,hx] at hu;exact List.mem_flatMap.2 ⟨d,hd,hu⟩
      ·rw [Ww hw] at ho; cases ho)
    rw [Wr,Wr,Wv] at h2;omega
   refine ⟨((p5,l5,c5),((cY (cj es) x).num:Int),()),rfl,?_⟩;refine an ?_;have hsz5:∀ t,t∈(cY (cj es) x).ai->t.1.size<=maxLen:=by
    intro t ht;rcases rz ht with ⟨p,hp,e,_⟩ | ⟨p,y,u,hp,ho,hu,e⟩
    ·rw [<- e]; exact hxs p hp
    ·unfold cj at ho
     by_cases hw:cm es p.1=true
     ·rw [WC hw] at ho;obtain ⟨d,hd,_,hx⟩:=kP ((dX es _).1 hw);have ho:=WQ ho;rw [<- ho,hx] at hu;rw [<- e]; exact eo.ts d hd u hu
     ·rw [Ww hw] at ho; cases ho
   have ha:=Rw (h:=h5) (p:=p5) (q:=none) (l:=l5) (c:=c5) (m:=0) (d:=0) (x:=cY (cj es) x) (y:=tI) (wo s5) ⟨rfl,fun i hi=>by simp [tI] at hi⟩ (fun i hi=>(s5.cd hi).2) (fun i hi=>by simp [aK] at hi) (by simpa [tI] using hlp) hsz5 (fun t ht=>by simp [tI] at ht);refine aI ha ?_;rintro _ h6 ⟨e6,p6,l6,c6,rfl,s6⟩;refine ⟨((p6,l6,c6),((kD (cY (cj es) x) tI).num:Int),()),rfl,?_⟩;refine an ?_;have b6:=(b24.ao e5 aj).ao e6 aj;have hz5:=e5.size;refine aw b6 rfl aj ?_;intro h7 b7 k7 z7;have b7:bC h7 h1.size 60 [.slice p6 l6 c6,.int .u32 ((kD (cY (cj es) x) tI).num:Int)]:=b7;refine af b7 ((p6,l6,c6),((kD (cY (cj es) x) tI).num:Int),()) rfl ?_;have e06:=(e04.trans e5).trans e6;exact ⟨⟨p6,l6,c6,rfl,(s6.bG k7 (fun j hj=>by have:=(s6.cd hj).1; simp; omega)).mono ad⟩,Ch.trans e06 k7 (fun j hj hl=>by simp at hj; omega)⟩
theorem xz {x:bZ} (h:Nf x.ai) (hn:x.num<4294967296):kD x tI=x:=by
 unfold kD tI;simp only [List.append_nil,Nat.add_zero,D9 h,Nat.mod_eq_of_lt hn]
end Go.Sx
namespace Go.Sx.Ob
open Go.Proofs
abbrev Ky:=Nat × YA
def N8 (k:Ky):YB:=.agg #[.int .i64 (k.1:Int),.string k.2]
theorem Ny (b:Bool) (n:Int) (s:YA) (h:Hp) (K:Unit->Hp->Prop):aP Tryz.prog (Instr.checkKey b 10000 110 (.agg #[.int .i64 n,.string s])) h K=K () h:=az
theorem Nz:Tryz.prog.underlying 110=some (.struct (Ar Tryz.prog 110)):=az
theorem RI:Tryz.prog.stoodInHeld 110=false:=az
theorem UT (n m:Int) (s t:YA):(Ar Tryz.prog 110).all (okF Tryz.prog #[.int .i64 n,.string s] #[.int .i64 m,.string t])=true:=az
theorem Sh (n m:Int) (s t:YA):(Ar Tryz.prog 110).all (FH #[.int .i64 n,.string s] #[.int .i64 m,.string t])=(n==m && (s==t && true)):=by
 rw [<- XL]
 kernel_rfl
theorem UZ:AF Tryz.prog 110 N8 where
 check b a h K hk:=by rw [show N8 a=.agg #[.int .i64 (a.1:Int),.string a.2] from rfl,Ny]; exact hk
 kind:=⟨_,Nz,fun a b=>rfl⟩
 eqv a b h K hk:=by
  show aP Tryz.prog (Op.equal 110 (.agg #[.int .i64 (a.1:Int),.string a.2]) (.agg #[.int .i64 (b.1:Int),.string b.2])) h K;rw [oX Nz RI (UT _ _ _ _),Sh];have e:decide (a=b)=(((a.1:Nat):Int)==((b.1:Nat):Int) && (a.2==b.2 && true)):=by
   obtain ⟨a1,a2⟩:=a;obtain ⟨b1,b2⟩:=b;show decide ((a1,a2)=(b1,b2))=(((a1:Nat):Int)==((b1:Nat):Int) && (a2==b2 && true));rw [tJ,XX];simp only [Prod.mk.injEq]
   by_cases h1:a1=b1
   ·by_cases h2:a2=b2
    ·simp [h1,h2]
    ·simp [h1,h2]
   ·have:¬ ((a1:Nat):Int)=b1:=ad
    simp only [h1,false_and,decide_false]
    have:(((a1:Nat):Int)==((b1:Nat):Int))=false:=by simpa using this
    rw [this,Bool.false_and]
  rw [<- e];exact hk
 bits a:=by
  show ((2:Nat)==2 && _)=true;simp [Instr.sameBits,N8,tJ]
 inj a b h:=by
  obtain ⟨a1,a2⟩:=a;obtain ⟨b1,b2⟩:=b;simp only [N8,Value.agg.injEq,Array.mk.injEq,List.cons.injEq,Value.int.injEq,Value.string.injEq,and_true,true_and] at h;rw [Prod.mk.injEq];exact ⟨ad,h.2⟩
theorem SL.part {P:Program} {L:Lp} {K:YB->Hp->Prop} {k:T} {h:Hp} {b:Nat} {e:TypeId} {sz:Nat} {p:Option YC} {l c:Nat} {xs:List (List YB)} (s:SL h b e sz p l c xs) {i:Nat} (hi:i<xs.length) {vs:List YB} {o:Nat} (ho:o+vs.length<=sz)
  (hp:vs.all cS=true) {a:YC} (ha:p=some a) (hk:∀ h',SL h' b e sz p l c (xs.set i (lG xs[i] o vs))->Ch (aK p) h h'->h'.size=h.size->k L K h'):T.aD ((a.add (i*sz)).add o) vs k L K h:=by
 subst ha;obtain ⟨g,pre,rest,rfl,hbg,hlc,hbox,hr⟩:=s.2.2;have hxl:xs[i].length=sz:=s.2.1 _ (WA hi);have hx:(xs.take i).flatten.length=i*sz:=by
  rw [dB _ (fun x hx=>s.2.1 x (Xx hx)),WO,XR ad]
 have hs:xs[i]=xs[i].take o++((xs[i].drop o).take vs.length++xs[i].drop (o+vs.length)):=by
  rw [<- List.drop_drop,W8,W8]
 have e0:xs.flatten=(xs.take i).flatten++(xs[i]++(xs.drop (i+1)).flatten):=by
  conv=>lhs; rw [<- W8 i xs,WK hi]
  rw [List.flatten_append,XZ]
 have e1:pre++(xs.flatten++rest)=(pre++(xs.take i).flatten++xs[i].take o)++((xs[i].drop o).take vs.length++(xs[i].drop (o+vs.length)++((xs.drop (i+1)).flatten++rest))):=by
  rw [e0]
  conv=>lhs; rw [hs]
  simp only [List.append_assoc]
 have km:lG xs[i] o vs=xs[i].take o++(vs++xs[i].drop (o+vs.length)):=by rw [oO _ _ _ ad,WU]
 have e2:(xs.set i (lG xs[i] o vs)).flatten=(xs.take i).flatten++((lG xs[i] o vs)++(xs.drop (i+1)).flatten):=by
  rw [List.set_eq_take_append_cons_drop,WC hi]
  simp
 rw [e1] at hbox;rw [aE,aE];have hlen:(pre++(xs.take i).flatten++xs[i].take o).length=pre.length+i*sz+o:=by rw [Wv,Wv,hx,WO,XR ad]
 rw [<- hlen];refine aw hbox hp (by simp; omega) ?_;intro h' hb' k' z';rw [zG (by rw [WO,Xu]; omega)] at hb';refine hk h' ⟨by rw [XK]; exact s.1,fun x hx=>?_,g,pre,rest,rfl,hbg,hlc,?_,hr⟩ (by simpa [aK] using k') z'
 ·rcases XC hx with hx | rfl
  ·exact s.2.1 x hx
  ·rw [mu]; exact hxl
 ·rw [e2,km];simpa [List.append_assoc] using hb'
theorem H4:Tryz.prog.underlying 96=some (.map 110 3):=az
theorem Rc:(Tryz.prog.info? 3).bind (·.zero)=some (.int .i64 0):=az
abbrev FQ (h:Hp) (g:Nat) (f:Ky->Option Nat) (n:Nat):Prop:=zg N8 eI h g f n
section
variable {L:Lp} {K:YB->Hp->Prop} {h:Hp} {g n:Nat} {f:Ky->Option Nat}
theorem CM (m:FQ h g f n) (u:Nat) (s:YA) {k:Int->Bool->T} (hk:k (((f (u,s)).getD 0:Nat):Int) (f (u,s)).isSome L K h):T.dW Tryz.prog (Instr.lookup 96 (.map (some g)) (.agg #[.int .i64 (u:Int),.string s]) true) true [(false,[.int .i64]),(false,[.bool])] k L K h:=by
 obtain ⟨D,m,hD,hn⟩:=m;show aP Tryz.prog (Instr.lookup 96 (.map (some g)) (N8 (u,s)) true) h _;refine uE UZ H4 Rc m (u,s) true _ ?_;refine ⟨((((f (u,s)).getD 0:Nat):Int),(f (u,s)).isSome,()),?_,hk⟩;rw [WC rfl,wx,hD (u,s)]
 all_goals (cases f (u,s) <;> rfl)
theorem SD (m:FQ h g f n) (u:Nat) (s:YA) {k:Int->T} (hk:k (((f (u,s)).getD 0:Nat):Int) L K h):T.dW Tryz.prog (Instr.lookup 96 (.map (some g)) (.agg #[.int .i64 (u:Int),.string s]) false) false [(false,[.int .i64])] k L K h:=by
 obtain ⟨D,m,hD,hn⟩:=m;show aP Tryz.prog (Instr.lookup 96 (.map (some g)) (N8 (u,s)) false) h _;refine uE UZ H4 Rc m (u,s) false _ ?_;refine ⟨((((f (u,s)).getD 0:Nat):Int),()),?_,hk⟩;simp only [Bool.false_eq_true,if_false];rw [wx,hD (u,s)]
 all_goals (cases f (u,s) <;> rfl)
theorem QO (m:FQ h g f n) (u:Nat) (s:YA) {v:Int} {w:Nat} (hv:v=(w:Int)) {k:T} (hk:∀ h',FQ h' g (x5 f (u,s) w) (if (f (u,s)).isSome then n else n+1)->Ch [g] h h'->h'.size=h.size->k L K h') :
  T.ec Tryz.prog (Instr.mapUpdate 96 (.map (some g)) (.agg #[.int .i64 (u:Int),.string s]) (.int .i64 v)) k L K h:=by
 subst hv;exact TO (en:=eI) UZ H4 m (u,s) w hk
theorem UJ (m:FQ h g f n) {k:Int->T} (hk:k (n:Int) L K h):T.dW Tryz.prog (Builtin.len_ #[96] 3 #[.map (some g)]) false [(false,[.int .i64])] k L K h:=by
 obtain ⟨D,m,hD,hn⟩:=m;obtain ⟨es,clock,hg,he,hst⟩:=m;have hes:es.size=n:=by
  have:=WJ List.length he
  simp only [List.length_map,Array.length_toList] at this;omega
 show aP _ _ _ _;unfold Builtin.len_;simp only [List.getElem?_toArray,List.getElem?_cons_zero];rw [ar,aC H4];simp only [pure_bind];rw [ar];refine fF hg aj _ ?_;simp only [pure_bind];exact ⟨((n:Int),()),by rw [hes]; rfl,hk⟩
end
def mv (n:Nat):YA:=⟨(Lib.itoa (n:Int)).toArray⟩
theorem ET {h:Hp} (p:fY h) (n:Nat) (hn:n<=2^60):HC Tryz.prog 81 #[.int .i64 n] h fun v h'=>v=.string (mv n)/\Ext h h':=by
 intro W hW;subst hW;refine (Tryz.strconv_Itoa n ad ad W (FZ az p)).mono ?_;rintro e w' ⟨he,k,os,rfl⟩;refine ⟨_,he,⟨rfl,rfl,rfl⟩,rfl,?_⟩;refine ⟨by show W.heap.size<=(W.heap++os).size; simp,fun i hi _=>?_⟩;show (W.heap++os)[i]?=_;rw [Array.getElem?_append_left hi]
theorem kO {n:Nat} (hn:n<=2^60):(mv n).size<=1000:=by
 show (Lib.itoa (n:Int)).toArray.size<=1000
 have:=Lib.itoa_length_le (n:Int) ad ad
 simp
 omega
structure Lb where
 u:Nat
 s:Nat
 i:Nat
 n:YA
deriving DecidableEq
def wq (x:Lb):List YB:=[.int .i64 (x.u:Int),.int .i64 (x.s:Int),.int .i64 (x.i:Int),.string x.n]
structure LW where
 lb:List Lb
 num:Ky->Option Nat
 nn:Nat
 sx:Ky->Option Nat
 ne:Nat
 gl:YA->Option Nat
 ng:Nat
def Q4:LW:=⟨[],fun _=>none,0,fun _=>none,0,fun _=>none,0⟩
def LW.has (w:LW) (k:Ky):Bool:=(w.num k).isSome || (w.sx k).isSome
def LW.own (w:LW) (u:Nat) (s:YA):Option Ky:=if w.has (u,s) then some (u,s) else (w.gl s).map fun o=>(o,s)
def LW.word (w:LW) (k:Ky):YA:=match w.num k with
 | some n=>(⟨#[76]⟩:YA)++mv n
 | none=>(⟨#[69]⟩:YA)++mv ((w.sx k).getD 0)
structure LM (h:Hp) (gN gE gG:Nat) (w:LW):Prop where
 n:FQ h gN w.num w.nn
 e:FQ h gE w.sx w.ne
 g:dK eI h gG w.gl w.ng
theorem LM.ao {ws:List Nat} {h h':Hp} {gN gE gG:Nat} {w:LW} (m:LM h gN gE gG w) (k:Ch ws h h') (h1:gN∉ws) (h2:gE∉ws) (h3:gG∉ws):LM h' gN gE gG w :=
 ⟨m.n.ao k h1,m.e.ao k h2,m.g.ao k h3⟩
structure N5 (w:LW):Prop where
 n:∀ k i,w.num k=some i->i<=2^50
 e:∀ k i,w.sx k=some i->i<=2^50
abbrev N9 (h:Hp) (g:Nat) (us lb:bY) (gN gE gG:Nat) (sp:Int):Prop:=bC h g 99 [us.v,lb.v,.map (some gN),.map (some gE),.map (some gG),.slice none 0 0,.int .i64 sp]
section
variable {h:Hp} {g gN gE gG:Nat} {us lb:bY} {sp:Int} {w:LW}
theorem Mz (b:N9 h g us lb gN gE gG sp) (m:LM h gN gE gG w) (u:Nat) (s:YA):HC Tryz.prog 95 #[ptr g,.agg #[.int .i64 (u:Int),.string s]] h fun v h'=>v=.bool (w.has (u,s))/\Ext h h':=by
 refine aZ (args:=[ptr g,.agg #[.int .i64 (u:Int),.string s]]) mixed Tryz.func95 az (oR (some ⟨g,0,none⟩) u s) ?_;unfold j8 bK dI aM bT;refine bq ?_;intro h1 b1 e1 z1;have b':=b.ao e1 aj;have m':=m.ao e1 aj aj aj;refine av rfl ?_;rw [aE];refine af b' (some gN,()) rfl ?_;refine an ?_;refine af b1 ((u:Int),s,()) rfl ?_;refine an ?_;refine CM m'.n u s ?_;refine av rfl ?_;rw [aE];refine af b' (some gE,()) rfl ?_;refine an ?_;refine af b1 ((u:Int),s,()) rfl ?_;refine an ?_;refine CM m'.e u s ?_;unfold LW.has;refine ak (fun q=>?_) (fun q=>?_)
 ·exact ⟨by rw [q]; rfl,e1⟩
 ·exact ⟨by rw [q]; rfl,e1⟩
theorem Fu (b:N9 h g us lb gN gE gG sp) (m:LM h gN gE gG w) (u:Nat) (s:YA):HC Tryz.prog 67 #[ptr g,.int .i64 (u:Int),.string s] h fun v h'=>v=.tuple #[N8 ((w.own u s).getD (0,s)),.bool (w.own u s).isSome]/\Ext h h':=by
 refine aZ (args:=[ptr g,.int .i64 (u:Int),.string s]) mixed Tryz.func67 az (oL (some ⟨g,0,none⟩) u s) ?_;unfold j4 aU bK bU aM bT;refine bq ?_;intro h1 b1 e1 z1;refine bq ?_;intro h2 b2 e2 z2;have b12:=b1.ao e2 aj;refine aw b2 rfl aj ?_;intro h3 b3 k3 z3;have b3:bC h3 h1.size 110 [.int .i64 (u:Int),.string s]:=b3;have e3:Ext h h3:=Ch.trans (e1.trans e2) k3 (fun i hi hl=>by simp at hi; omega);have b13:=b12.ao k3 (by simp; omega);refine af b3 ((u:Int),s,()) rfl ?_;refine an ?_;refine aI (Mz (b.ao e3 aj) (m.ao e3 aj aj aj) u s) ?_;rintro _ h4 ⟨rfl,e4⟩;refine ⟨(w.has (u,s),()),rfl,?_⟩;refine an ?_;have e04:=e3.trans e4;have q3:=b3.lt;refine ak (fun q=>?_) (fun q=>?_)
 ·have hw:w.own u s=some (u,s):=by unfold LW.own; rw [WC q]
  rw [hw];refine af (b3.ao e4 aj) ((u:Int),s,()) rfl ?_;refine an ?_;refine aw (b13.ao e4 aj) rfl aj ?_;intro h5 b5 k5 z5;have b5:bC h5 h.size 110 [.int .i64 (u:Int),.string s]:=b5;refine af b5 ((u:Int),s,()) rfl ?_;exact ⟨rfl,Ch.trans e04 k5 (fun i hi hl=>by simp at hi; omega)⟩
 ·have hw:w.own u s=(w.gl s).map fun o=>(o,s):=by unfold LW.own; rw [Ww (by rw [q]; simp)]
  rw [hw];refine av rfl ?_;rw [aE];refine af (b.ao e04 aj) (some gG,()) rfl ?_;refine an ?_;refine Cw (m.ao e04 aj aj aj).g s ?_;refine aw (b13.ao e4 aj) rfl aj ?_;intro h5 b5 k5 z5;have b5:bC h5 h.size 110 [.int .i64 (((w.gl s).getD 0:Nat):Int),.string s]:=b5;refine af b5 ((((w.gl s).getD 0:Nat):Int),s,()) rfl ?_;refine ⟨?_,Ch.trans e04 k5 (fun i hi hl=>by simp at hi; omega)⟩
  all_goals (cases w.gl s <;> rfl)
theorem Bg (pw:fY h) (b:N9 h g us lb gN gE gG sp) (m:LM h gN gE gG w) (lb':N5 w) (u:Nat) (s:YA):HC Tryz.prog 47 #[ptr g,.agg #[.int .i64 (u:Int),.string s]] h fun v h'=>v=.string (w.word (u,s))/\Ext h h':=by
 refine aZ (args:=[ptr g,.agg #[.int .i64 (u:Int),.string s]]) mixed Tryz.func47 az (nZ (some ⟨g,0,none⟩) u s) ?_;unfold jA iA bK aM bT;refine bq ?_;intro h1 b1 e1 z1;have b':=b.ao e1 aj;have m':=m.ao e1 aj aj aj;have pw1:=pw.ao e1 aj;refine av rfl ?_;rw [aE];refine af b' (some gN,()) rfl ?_;refine an ?_;refine af b1 ((u:Int),s,()) rfl ?_;refine an ?_;refine CM m'.n u s ?_;unfold LW.word;cases hn:w.num (u,s) with
 | some n =>
  refine bX rfl ?_;have hs:=lb'.n _ _ hn;refine aI (ET pw1 n ad) ?_;rintro _ h2 ⟨rfl,e2⟩;refine ⟨(mv n,()),rfl,?_⟩;refine an ?_
  have:=kO (n:=n) ad
  refine ay ad ?_;exact ⟨rfl,e1.trans e2⟩
 | none =>
  refine bM rfl ?_;have hs:(w.sx (u,s)).getD 0<=2^50:=by
   cases he:w.sx (u,s) with
   | none=>simp
   | some i=>exact lb'.e _ _ he
  refine av rfl ?_;rw [aE];refine af b' (some gE,()) rfl ?_;refine an ?_;refine af b1 ((u:Int),s,()) rfl ?_;refine an ?_;refine SD m'.e u s ?_;refine aI (ET pw1 _ ad) ?_;rintro _ h2 ⟨rfl,e2⟩;refine ⟨(mv ((w.sx (u,s)).getD 0),()),rfl,?_⟩;refine an ?_;refine ⟨⟨(b1.ao e2 aj).cells _ rfl,(b'.ao e2 aj).cells _ rfl,trivial⟩,?_⟩
  have:=kO (n:=(w.sx (u,s)).getD 0) ad
  refine ay ad ?_;exact ⟨rfl,e1.trans e2⟩
end
end Go.Sx.Ob
namespace Go.Sx.Lk
open Go.Proofs Go.Sx.Ob
theorem oK {es:List cD} (hn:(aT es).Nodup) {e:cD} (he:e∈es):db es e.name=e.x:=by
 obtain ⟨d,hd,h1,h2⟩:=kP (show e.name∈aT es from WL he);rw [h2]
 have:∀ l:List cD,(l.map (·.name)).Nodup->d∈l->e∈l->d=e:=by
  intro l
  induction l with
  | nil=>intro _ h; simp at h
  | cons x l ih =>
   intro hn hd he;rw [Xf,List.nodup_cons] at hn;rcases WY.1 hd with a | a <;> rcases WY.1 he with b | b
   ·rw [a,b]
   ·exact (hn.1 (by rw [<- a,h1]; exact WL b)).elim
   ·exact (hn.1 (by rw [<- b,<- h1]; exact WL a)).elim
   ·exact ih hn.2 a b
 rw [this es hn hd he]
def _root_.Go.Sx.Ob.LW.bad (w:LW) (u:Nat) (x:bZ):Option YA:=(x.ai.find? fun t=>(w.own u t.1).isNone).map (·.1)
def lO (s:YA):bZ:=⟨[(s,1)],0⟩
def _root_.Go.Sx.Ob.LW.lin (w:LW) (u:Nat) (x:bZ):bZ:=cY (fun s=>(w.own u s).map fun k=>lO (w.word k)) x
structure Dj (x:bZ):Prop where
 nf:Nf x.ai
 num:x.num<4294967296
 len:x.ai.length<=2^20
 sz:∀ t,t∈x.ai->t.1.size<=maxLen
theorem jU {a b:YA} (h:gz a b):a≠b:=fun e=>by subst e; exact absurd h (by unfold gz; simp)
theorem Dj.nodup {x:bZ} (g:Dj x):(x.ai.map (·.1)).Nodup:=by
 rw [XP,Xp];exact g.nf.Sf.imp fun h=>jU h
def PI (w:LW) (u:Nat) (x:bZ) (h:Hp) (v:YB) (h':Hp):Prop :=
 Ext h h'/\match w.bad u x with
 | some s=>v=.tuple #[gn none 0 0 DU,.string s,.bool false]
 | none=>∃ p l c,v=.tuple #[gn p l c (w.lin u x),.string ⟨#[]⟩,.bool true]/\SL h' h.size 66 2 p l c ((w.lin u x).ai.map cX)
theorem Gv:Tryz.prog.underlying 57=some (.slice 66):=az
theorem Gu (s:YA) (n:Int):Instr.fill (fun j=>some (j*2,2)) ((Array.range (1*2)).map ((Value.agg #[.string ⟨#[]⟩,.int .u32 0]).cells[· % (Value.agg #[.string ⟨#[]⟩,.int .u32 0]).cells.size]!)) [(0,.agg #[.string s,.int .u32 n])]=some ([.string s,.int .u32 n]:List YB).toArray:=az
theorem Gr (s:YA) (p:Option YC) (l c:Nat) (n:Int):Instr.fill (fun j=>some (j*3,3)) ((Array.range (1*3)).map ((Value.agg #[.string ⟨#[]⟩,.slice none 0 0,.int .u32 0]).cells[· % (Value.agg #[.string ⟨#[]⟩,.slice none 0 0,.int .u32 0]).cells.size]!)) [(0,.agg #[.string s,.slice p l c,.int .u32 n])]=some ([.string s,.slice p l c,.int .u32 n]:List YB).toArray:=az
theorem kB {α:Type} (f:α->Bool):∀ (l:List α) (i:Nat) (hi:i<l.length),(∀ j,(hj:j<i)->f (l[j]'ad)=false)->f l[i]=true->l.find? f=some l[i]
 | [],i,hi,_,_=>by simp at hi
 | a::l,0,hi,_,h=>by simp at h; simp [h]
 | a::l,i+1,hi,h0,h=>by
  have ha:f a=false:=h0 0 ad;rw [Yg,ha];simp only [List.getElem_cons_succ] at h ⊢;exact kB f l i (by simpa using hi) (fun j hj=>h0 (j+1) ad) h
theorem om {α:Type} (f:α->Bool) (l:List α) (h:∀ j,(hj:j<l.length)->f l[j]=false):l.find? f=none:=by
 rw [List.find?_eq_none];intro x hx;obtain ⟨j,hj,rfl⟩:=WS hx;rw [h j hj]
 simp
section
variable {h:Hp} {g gN gE gG:Nat} {us lb:bY} {sp:Int} {w:LW}
theorem xh (pw:fY h) (b:N9 h g us lb gN gE gG sp) (m:LM h gN gE gG w) (lb':N5 w) (u:Nat) {p:Option YC} {l c:Nat} {x:bZ} (v:gp h p l x.ai) (gx:Dj x) :
  HC Tryz.prog 46 #[ptr g,.int .i64 (u:Int),gn p l c x] h (PI w u x h):=by
 refine aZ (args:=[ptr g,.int .i64 (u:Int),gn p l c x]) mixed Tryz.func46 az (lV (some ⟨g,0,none⟩) u p l c x.num) ?_;unfold ig aX bh bm aH iA bF bk bi bU aM bT da;have hll:=v.len;have hxl:=gx.len;refine bq ?_;intro h1 b1 e1 z1;refine bq ?_;intro h2 b2 e2 z2;have b12:=b1.ao e2 aj;have e02:=e1.trans e2;refine af b12 ((p,l,c),()) rfl ?_;refine an ?_;obtain ⟨ie,hie,hze,hse,hbe⟩:=kH JQ;refine cR (pA (l:=0) (c:=l) Bc hie hze ad (by rw [hbe]; omega) ad ?_);intro h3 b3 e3 z3;refine ⟨_,_,_,rfl,?_⟩;have e03:=e02.trans e3;have b13:=b12.ao e3 aj;have b23:=b2.ao e3 aj;have s3:SL h3 h2.size 88 3 (some ⟨h2.size,0,none⟩) 0 l (([]:List cD).map Ah):=by
  refine ⟨rfl,aj,h2.size,[],_,rfl,WH _,⟨ad,ad⟩,b3,?_⟩;rw [Wr,XQ,hse];omega
 refine af b13 ((p,l,c),()) rfl ?_;refine an ?_
 refine aR (cs:=[(false,[.string]),(false,[.bool]),(false,[.slice 0]),(false,[.int .i64])]) (fun y m' h'=>∃ (i:Nat) (es:List cD),y.2.2.2.1=(i:Int)/\i<=l/\m'=l-i/\Ch [h2.size] h3 h'/\y.2.2.1.2.1=i/\rl h' h2.size y.2.2.1.1 i y.2.2.1.2.2 es/\(∀ j,(hj:j<i)->(hl:j<x.ai.length)->(w.own u x.ai[j].1).isSome=true) /\
   es.map (fun e=>(e.name,e.x))=(x.ai.take i).map (fun t=>(t.1,lO (w.word ((w.own u t.1).getD (0,t.1)))))) ((⟨#[]⟩:YA),false,(some ⟨h2.size,0,none⟩,0,l),(0:Int),()) l rfl
  ⟨0,[],rfl,ad,ad,Ch.refl _ _,rfl,⟨s3,aj,List.Pairwise.nil,aj⟩,by intro j hj; omega,rfl⟩ ?_
 rintro ⟨s14,b15,⟨p16,l17,l18⟩,n19,⟨⟩⟩ m' h4 ⟨i,es,hi,hil,rfl,e34,hli,oe,hok,hes⟩;simp only at hi hli oe;subst hi hli;refine an ?_;have e04:Ext h h4:=Ch.trans e03 e34 (fun i hi hl=>by simp at hi; have:=e1.size; omega);have hel:es.length=l17:=by
  have:=WJ List.length hes
  rw [Wr,Wr,WO] at this;omega
 have z4:=e34.size;have q3:=b3.lt;have q2:=b2.lt;have q1:=b1.lt;refine ak (fun q=>?_) (fun q=>?_)
 ·have q:=Ws q;have hlt:l17<x.ai.length:=ad
  obtain ⟨a,ha,hc⟩:=v.cells l17 hlt;have htk:x.ai.take (l17+1)=x.ai.take l17++[x.ai[l17]]:=Wx hlt;have hgt:x.ai[l17]=x.ai[l17]:=rfl;generalize htt:x.ai[l17]=t at hc htk;refine ay ⟨ad,ad⟩ (av ha ?_);rw [show Int.toNat (l17:Int)=l17 from ad];refine ax (t.1,(t.2:Int),()) (aQ e04 aj _ _ hc) ?_;refine an ?_;refine bq ?_;intro h5 b5 e5 z5;refine aw b5 rfl aj ?_;intro h6 b6 k6 z6;have b6:bC h6 h4.size 66 [.string t.1,.int .u32 (t.2:Int)]:=b6;have e46:Ext h4 h6:=Ch.trans e5 k6 (fun i hi hl=>by simp at hi; omega);have e06:=e04.trans e46;refine af b6 (t.1,()) rfl ?_;refine an ?_;refine aI (Fu (b.ao e06 aj) (m.ao e06 aj aj aj) u t.1) ?_;rintro _ h7 ⟨rfl,e7⟩;generalize hk:(w.own u t.1).getD (0,t.1)=ky;refine ⟨((ky.1:Int),ky.2,(w.own u t.1).isSome,()),rfl,?_⟩;refine an ?_;refine bq ?_;intro h8 b8 e8 z8;refine aw b8 rfl aj ?_;intro h9 b9 k9 z9;have b9:bC h9 h7.size 110 [.int .i64 (ky.1:Int),.string ky.2]:=b9;have e79:Ext h7 h9:=Ch.trans e8 k9 (fun i hi hl=>by simp at hi; omega);have e69:=e7.trans e79;have e49:=e46.trans e69;have e09:=e04.trans e49;have b69:=b6.ao e69 aj;have q6:=b6.lt;have q7:=e7.size;have q9:=b9.lt;refine ak (fun r=>?_) (fun r=>?_)
  ·have r:(w.own u t.1).isSome=false:=by simpa using r
   refine af b69 (t.1,()) rfl ?_;refine an ?_;refine aw ((b23.ao e34 (by simp; omega)).ao e49 aj) rfl aj ?_;intro h10 b10 k10 z10;have b10:bC h10 h1.size 60 [.slice none 0 0,.int .u32 0]:=b10;refine ⟨⟨(b69.ao k10 (by simp; omega)).cells _ rfl,trivial⟩,?_⟩;refine af b10 ((none,0,0),(0:Int),()) rfl ?_;refine ⟨Ch.trans e09 k10 (fun i hi hl=>by simp at hi; omega),?_⟩;have hb:w.bad u x=some t.1:=by
    unfold Ob.LW.bad;rw [kB _ x.ai l17 hlt (fun j hj=>by simpa using hok j hj ad) (by rw [htt]; simpa using r),htt] <;> rfl
   rw [hb] <;> rfl
  ·have r:(w.own u t.1).isSome=true:=by simpa using r
   refine af b69 (t.1,()) rfl ?_;refine an ?_;refine af b9 ((ky.1:Int),ky.2,()) rfl ?_;refine an ?_;refine aI (Bg (pw.ao e09 aj) (b.ao e09 aj) (m.ao e09 aj aj aj) lb' ky.1 ky.2) ?_;rintro _ h10 ⟨rfl,e10⟩;refine ⟨(w.word (ky.1,ky.2),()),rfl,?_⟩;refine an ?_;have b6a:=b69.ao e10 aj;have b9a:=b9.ao e10 aj;have q10:=e10.size;refine ⟨⟨b6a.cells _ rfl,trivial⟩,?_⟩;refine jX Gv sg ad ad (Gu _ _) ?_;intro h11 b11 e11 z11;have b6b:=b6a.ao e11 aj;have b9b:=b9a.ao e11 aj;refine ⟨⟨b9b.cells _ rfl,b6b.cells _ rfl,trivial⟩,?_⟩;have e411:=(e49.trans e10).trans e11;have o11:=oe.ao e411 aj;have q11:=e411.size;refine gj (e:=88) (z:=.agg #[.string ⟨#[]⟩,.slice none 0 0,.int .u32 0]) (sz:=3) (by':=48) Bc JQ rfl ad ad (Gr _ _ _ _ _) rfl rfl o11.out ad ad ad (fun h' e=>⟨(b9b.ao e aj).cells _ rfl,(b6b.ao e aj).cells _ rfl,trivial⟩) ?_;intro p' c' h12 s12 k12 hp12;have hq:∀ i,i∈aK p16->(i=h2.size\/h3.size<=i)/\i<h4.size:=fun i hi=>by have:=oe.out.cd hi; omega
   have k312:Ch [h2.size] h3 h12:=Ch.trans (e34.trans (e411.mono aj) (fun i hi hl=>hi)) k12 (fun i hi hl=>by have:=hq i hi; simp; omega);have nin:∀ i,h4.size<=i->i∉aK p16:=fun i h1 h2=>by have:=hq i h2; omega
   refine ⟨⟨(b9b.ao k12 (nin _ ad)).cells _ rfl,(b6b.ao k12 (nin _ ad)).cells _ rfl,trivial⟩,?_⟩;have hm:SL h11 h2.size 66 2 (some ⟨h10.size,0,none⟩) 1 1 ((lO (w.word ky)).ai.map cX) :=
    ⟨rfl,fun y hy=>by rw [W4.1 hy]; rfl,h10.size,[],[],rfl,ad,⟨ad,ad⟩,b11,by simp [lO]⟩
   have o12:rl h12 h2.size p' (l17+1) c' (es++[⟨t.1,some ⟨h10.size,0,none⟩,1,1,lO (w.word ky)⟩]):=by
    refine o11.push (m:=⟨t.1,some ⟨h10.size,0,none⟩,1,1,lO (w.word ky)⟩) hm (fun i hi=>?_) (by rw [WG]; exact s12) k12 (fun i hi=>?_)
    ·have hi:i=h10.size:=by simpa [aK] using hi
     subst hi;refine ⟨fun y hy j hj=>?_,nin _ ad⟩
     have:=((oe.eY y hy).cd hj).2
     omega
    ·rcases hp12 with rfl | ⟨a',rfl,ha'⟩
     ·exact .inl hi
     ·simp [aK] at hi; right; omega
   have hw:IntKind.wrap .i64 ((l17:Int)+1)=((l17+1:Nat):Int):=by rw [wrap_i64 ad ad]; omega
   rw [hw];refine aF (cs:=[(false,[.string]),(false,[.bool]),(false,[.slice 0]),(false,[.int .i64])]) (s14,b15,(p',l17+1,c'),((l17+1:Nat):Int),()) (l-(l17+1)) rfl ad rfl
    ⟨l17+1,_,rfl,ad,rfl,k312,rfl,o12,fun j hj hjl=>?_,?_⟩
   ·by_cases hjl':j<l17
    ·exact hok j hjl' hjl
    ·have:j=l17:=ad
     subst this;rw [htt]; exact r
   ·rw [WG,hes,htk,WG];simp only [List.map_cons,List.map_nil];rw [hk]
 ·have q:=Wt q;have hi:l17=x.ai.length:=ad
  subst hi;have hes:es.map (fun e=>(e.name,e.x))=x.ai.map (fun t=>(t.1,lO (w.word ((w.own u t.1).getD (0,t.1))))):=by rw [hes,W7 (WH _)]
  have hnm:aT es=x.ai.map (·.1):=by
   have:=WJ (List.map (·.1)) hes
   rw [WT,WT] at this;exact this
  have hlen1:∀ e,e∈es->∃ t,t∈x.ai/\e.name=t.1/\e.x=lO (w.word ((w.own u t.1).getD (0,t.1))):=by
   intro e he
   have:(e.name,e.x)∈es.map (fun e=>(e.name,e.x)):=WL he
   rw [hes] at this;obtain ⟨t,ht,hte⟩:=Wz.1 this;rw [Prod.mk.injEq] at hte;exact ⟨t,ht,hte.1.symm,hte.2.symm⟩
  have hwsz:∀ ky:Ky,(w.word ky).size<=maxLen:=by
   intro ky;unfold LW.word;have hsz:∀ (a:YA) n,n<=2^50->a.size=1->(a++mv n).size<=maxLen:=fun a n hn ha=>by
    rw [XU,ha]
    have:=kO (n:=n) ad
    unfold maxLen;omega
   split
   ·rename_i n hn;exact hsz _ _ (lb'.n _ _ hn) rfl
   ·refine hsz _ _ ?_ rfl;cases he:w.sx ky with
    | none=>simp
    | some i=>exact lb'.e _ _ he
  have eo:EqsOk es:=⟨by rw [hnm]; exact gx.nodup,ad,fun e he=>by obtain ⟨t,ht,h1,_⟩:=hlen1 e he; rw [h1]; exact gx.sz t ht,
   fun e he=>by obtain ⟨t,ht,_,h1⟩:=hlen1 e he; rw [h1]; show 1<=2^40; decide,
   fun e he t' ht'=>by
    obtain ⟨t,ht,_,h1⟩:=hlen1 e he;rw [h1] at ht';rw [W4.1 ht'];exact hwsz _⟩
  refine af ((b13).ao e34 (by simp; omega)) ((p,l,c),(x.num:Int),()) rfl ?_;refine an ?_;have ve:=Ca oe;have htot:(es.flatMap (·.x.ai)).length<=2^39:=by
   have:∀ l:List cD,(∀ e,e∈l->e.x.ai.length=1)->(l.flatMap (·.x.ai)).length=l.length:=by
    intro l
    induction l with
    | nil=>intro _; rfl
    | cons a l ih=>intro hl; rw [Xj,Wv,ih (fun e he=>hl e (by simp [he])),hl a aj,Xi,Nat.add_comm]
   rw [this es (fun e he=>by obtain ⟨t,ht,_,h1⟩:=hlen1 e he; rw [h1]; rfl)];omega
  refine aI (La (v.ao e04 aj) ve eo (fun e he=>by obtain ⟨t,ht,_,h1⟩:=hlen1 e he; rw [h1]; show 1<=2^20; decide) htot ad hxl gx.sz) ?_;rintro _ h5 ⟨⟨p',l',c',rfl,s5⟩,e5⟩;have hlin:kD (cY (cj es) x) tI=w.lin u x:=by
   rw [xz (eE _ _) (lf gx.num)];unfold Ob.LW.lin;refine oZ (fun t ht=>?_);have hin:t.1∈aT es:=by rw [hnm]; exact WL ht
   obtain ⟨j,hj,rfl⟩:=WS ht;have hoj:=hok j ad hj;obtain ⟨ky,hky⟩:=Xn.1 hoj;unfold cj;rw [WC ((dX es _).2 hin),hky];obtain ⟨e,he,hen⟩:=Wz.1 hin;obtain ⟨t',ht',h1,h2⟩:=hlen1 e he;rw [<- hen,oK eo.nodup he,h2,<- h1,hen,hky] <;> rfl
  rw [hlin] at s5 ⊢;refine ⟨((p',l',c'),((w.lin u x).num:Int),()),rfl,?_⟩;refine an ?_;have q5:=e5.size;refine aw ((b23.ao e34 (by simp; omega)).ao e5 aj) rfl aj ?_;intro h6 b6 k6 z6;have b6:bC h6 h1.size 60 [.slice p' l' c',.int .u32 ((w.lin u x).num:Int)]:=b6;refine af b6 ((p',l',c'),((w.lin u x).num:Int),()) rfl ?_;refine ⟨Ch.trans (e04.trans e5) k6 (fun i hi hl=>by simp at hi; omega),?_⟩;have hb:w.bad u x=none:=by
   unfold Ob.LW.bad;rw [om _ x.ai (fun j hj=>by simpa using hok j ad hj)] <;> rfl
  rw [hb];exact ⟨p',l',c',rfl,(s5.bG k6 (fun j hj=>by have:=(s5.cd hj).1; simp; omega)).mono ad⟩
end
theorem xc {h:Hp} {a:YC}:∀ (vs us:List YB) (i:Nat),aG h a i vs->aG h a (i+vs.length) us->aG h a i (vs++us)
 | [],us,i,_,h2=>by simpa using h2
 | v::vs,us,i,h1,h2=>⟨h1.1,xc vs us (i+1) h1.2 (by rw [Xi] at h2; rw [show i+1+vs.length=i+(vs.length+1) from ad]; exact h2)⟩
theorem zk {h:Hp} {a:YC}:∀ (vs:List YB) (o i:Nat),aG h (a.add o) i vs->aG h a (o+i) vs
 | [],_,_,_=>trivial
 | v::vs,o,i,h1=>⟨by have:=h1.1; rw [add_add] at this; exact this,zk vs o (i+1) h1.2⟩
theorem fM {h:Hp} {a:YC} {sz:Nat}:∀ (xs:List (List YB)) (k:Nat),(∀ x,x∈xs->x.length=sz)->(∀ i,(hi:i<xs.length)->aG h (a.add ((k+i)*sz)) 0 xs[i])->aG h a (k*sz) xs.flatten
 | [],_,_,_=>trivial
 | x::xs,k,hl,hc=>by
  rw [XZ];refine xc _ _ _ ?_ ?_
  ·have:=hc 0 aj
   rw [Yt] at this;exact zk _ _ 0 this
  ·rw [hl x aj,<- Nat.succ_mul];exact fM xs (k+1) (fun y hy=>hl y (by simp [hy])) (fun i hi=>by
    have:=hc (i+1) (by simpa using hi)
    rw [show k+1+i=k+(i+1) from ad];exact this)
structure RL (h:Hp) (p:Option YC) (l:Nat) (ws:List (bY × cz)):Prop where
 len:l=ws.length
 cells:∀ i,(hi:i<ws.length)->∃ a,p=some a/\aG h (a.add (i*10)) 0 (sH ws[i])
theorem xK {α β:Type} (R:α->β->Prop):∀ (us:List α),(∀ i,(hi:i<us.length)->∃ b,R us[i] b)->∃ bs:List β,bs.length=us.length/\∀ i,(hi:i<us.length)->(hb:i<bs.length)->R us[i] bs[i]
 | [],_=>⟨[],rfl,fun i hi=>by simp at hi⟩
 | u::us,h=>by
  obtain ⟨b,hb⟩:=h 0 aj;obtain ⟨bs,hl,hr⟩:=xK R us (fun i hi=>h (i+1) (by simpa using hi));refine ⟨b::bs,by simp [hl],fun i hi hi'=>?_⟩
  match i with
  | 0=>exact hb
  | i+1=>exact hr i (by simpa using hi) (by simpa using hi')
theorem Cd {h:Hp} {p:Option YC} {l:Nat} {us:List cz} (v:Am h p l us):∃ ws:List (bY × cz),ws.map (·.2)=us/\RL h p l ws/\∀ u,u∈ws->lA h u.1.p u.1.l u.2:=by
 have hidx:∀ i,(hi:i<(List.range us.length).length)->∃ s:bY,∀ hj:(List.range us.length)[i]<us.length,∃ a,p=some a/\aG h (a.add ((List.range us.length)[i]*10)) 0 (Ob.encI s.p s.l s.c us[(List.range us.length)[i]])/\lA h s.p s.l us[(List.range us.length)[i]]:=by
  intro i hi;have hi':i<us.length:=by simpa using hi
  obtain ⟨a,q,m,c,ha,hc,hv⟩:=v.cells i hi';refine ⟨⟨q,m,c⟩,fun hj=>⟨a,ha,?_,?_⟩⟩
  ·simp only [List.getElem_range]; exact hc
  ·simp only [List.getElem_range]; exact hv
 obtain ⟨bs,hbl,hb⟩:=xK (fun (j:Nat) (s:bY)=>∀ hj:j<us.length,∃ a,p=some a/\aG h (a.add (j*10)) 0 (Ob.encI s.p s.l s.c us[j])/\lA h s.p s.l us[j]) (List.range us.length) hidx;rw [XQ] at hbl;have hz2:(bs.zip us).map (·.2)=us:=by rw [List.map_snd_zip ad]
 have hzl:(bs.zip us).length=us.length:=by rw [List.length_zip]; omega
 refine ⟨bs.zip us,hz2,⟨by rw [hzl]; exact v.len,fun i hi=>?_⟩,fun u hu=>?_⟩
 ·rw [hzl] at hi;have h1:=hb i (by simpa using hi) ad;simp only [List.getElem_range] at h1;obtain ⟨a,ha,hc,_⟩:=h1 hi;refine ⟨a,ha,?_⟩;rw [List.getElem_zip];exact hc
 ·obtain ⟨i,hi,rfl⟩:=WS hu;rw [hzl] at hi;have h1:=hb i (by simpa using hi) ad;simp only [List.getElem_range] at h1;obtain ⟨a,ha,_,hv⟩:=h1 hi;rw [List.getElem_zip];exact hv
theorem pn (ws:List (bY × cz)):(ws.map sH).flatten.all cS=true:=by
 rw [W1];intro v hv;obtain ⟨x,hx,hv⟩:=List.mem_flatten.1 hv;obtain ⟨t,_,rfl⟩:=Wz.1 hx;simp only [sH,Ob.encI,List.mem_cons,List.not_mem_nil,or_false] at hv;rcases hv with rfl | rfl | rfl | rfl | rfl | rfl | rfl | rfl | rfl | rfl <;> rfl
theorem ou (ws:List (bY × cz)):∀ y,y∈ws.map sH->y.length=10:=by
 intro y hy;obtain ⟨u,_,rfl⟩:=Wz.1 hy;rfl
theorem RL.src {h:Hp} {p:Option YC} {l:Nat} {ws:List (bY × cz)} (v:RL h p l ws):(p=none/\ws.map sH=[])\/∃ a,p=some a/\aG h a 0 (ws.map sH).flatten:=by
 cases p with
 | none =>
  left
  refine ⟨rfl,?_⟩;cases ws with
  | nil=>rfl
  | cons u us =>
   obtain ⟨a,ha,_⟩:=v.cells 0 aj;cases ha
 | some a =>
  refine .inr ⟨a,rfl,?_⟩
  have:=fM (h:=h) (a:=a) (sz:=10) (ws.map sH) 0 (ou ws) (fun i hi=>by
   rw [Wr] at hi;obtain ⟨a',ha,hc⟩:=v.cells i hi;cases ha;rw [Wy,Xa];exact hc)
  rwa [Nat.zero_mul] at this
theorem BA {h:Hp} {p:Option YC} {l c:Nat} {ws:List (bY × cz)} (v:RL h p l ws) (hl:ws.length<=2^30) :
  HC Tryz.prog 53 #[.slice p l c] h fun w h'=>(∃ p' c',w=.slice p' l c'/\SL h' h.size 64 10 p' l c' (ws.map sH))/\Ext h h':=by
 refine aZ (args:=[.slice p l c]) mixed Tryz.func53 az (fI p l c) ?_;unfold dS bk bi;have hll:=v.len;cases p with
 | none =>
  rcases v.src with ⟨_,h2⟩ | ⟨a,ha,_⟩
  ·refine bX rfl ?_
   have:ws=[]:=by simpa using h2
   subst this;subst hll;exact ⟨⟨none,0,rfl,SL.nil _ _ _ _⟩,Ch.refl _ _⟩
  ·cases ha
 | some a =>
  refine bM rfl ?_;refine lr (e:=64) (z:=.agg iz.toArray) (sz:=10) (by':=104) yN DK rfl v.src (by simpa using hll) (ou ws) (pn ws) ad ad ?_;intro p' c' h' s' e';exact ⟨⟨p',c',rfl,s'⟩,e'⟩
structure Wk (h:Hp) (b B:Nat) (p:Option YC) (l c:Nat) (ws:List (bY × cz)):Prop where
 out:SL h b 64 10 p l c (ws.map sH)
 lt:∀ i,i∈aK p->i<B
 eY:∀ u,u∈ws->SL h B 66 2 u.1.p u.1.l u.1.c (u.2.e.ai.map cX)
def _root_.Go.Sx.Ob.LW.xN (w:LW) (u:Nat) (us:List cz):Option YA:=us.findSome? fun x=>w.bad u x.e
def _root_.Go.Sx.Ob.LW.fj (w:LW) (u:Nat) (x:cz):cz:={ x with e:=w.lin u x.e }
def R7 (w:LW) (u:Nat) (us:List cz) (l:Nat) (h:Hp) (v:YB) (h':Hp):Prop :=
 Ext h h'/\match w.xN u us with
 | some s=>v=.tuple #[.slice none 0 0,.string s,.bool false]
 | none=>∃ p c B ws,v=.tuple #[.slice p l c,.string ⟨#[]⟩,.bool true]/\Wk h' h.size B p l c ws/\h.size<=B/\ws.map (·.2)=us.map (w.fj u)
theorem Hv (w:LW) (u:Nat):∀ (us:List cz) (i:Nat) (hi:i<us.length) (s:YA),(∀ j,(hj:j<i)->w.bad u (us[j]'ad).e=none)->w.bad u us[i].e=some s->w.xN u us=some s
 | [],i,hi,_,_,_=>by simp at hi
 | a::l,0,hi,s,_,h=>by unfold Ob.LW.xN; simp at h; simp [h]
 | a::l,i+1,hi,s,h0,h=>by
  have ha:w.bad u a.e=none:=h0 0 ad;have ih:=Hv w u l i (by simpa using hi) s (fun j hj=>h0 (j+1) ad) (by simpa using h);unfold Ob.LW.xN at ih ⊢;rw [List.findSome?_cons,ha];exact ih
theorem JP (w:LW) (u:Nat) (us:List cz) (h:∀ j,(hj:j<us.length)->w.bad u us[j].e=none):w.xN u us=none:=by
 unfold Ob.LW.xN;rw [Xq];intro x hx;obtain ⟨j,hj,rfl⟩:=WS hx;exact h j hj
section
variable {h:Hp} {g gN gE gG:Nat} {us lb:bY} {sp:Int} {w:LW}
theorem yE (pw:fY h) (b:N9 h g us lb gN gE gG sp) (m:LM h gN gE gG w) (lb':N5 w) (u:Nat) {p:Option YC} {l c:Nat} {xs:List cz} (v:Am h p l xs) (hn:xs.length<=2^20) (gx:∀ x,x∈xs->Dj x.e) :
  HC Tryz.prog 45 #[ptr g,.int .i64 (u:Int),.slice p l c] h (R7 w u xs l h):=by
 refine aZ (args:=[ptr g,.int .i64 (u:Int),.slice p l c]) mixed Tryz.func45 az (mW (some ⟨g,0,none⟩) u p l c) ?_;unfold iQ aX bh bm aH bF bi bU aM bT da;have hll:=v.len;obtain ⟨ws,hws,vd,hit⟩:=Cd v;have hwl:ws.length=xs.length:=by rw [<- hws,Wr]
 refine aI (BA (c:=c) vd ad) ?_;rintro _ h1 ⟨⟨p3,c3,rfl,s3⟩,e1⟩;refine ⟨((p3,l,c3),()),rfl,?_⟩;refine an ?_;have hlt3:∀ i,i∈aK p3->h.size<=i/\i<h1.size:=fun i hi=>s3.cd hi
 refine aR (cs:=[(false,[.slice 0]),(false,[.string]),(false,[.bool]),(false,[.int .i64])]) (fun y m' h'=>∃ (i:Nat) (vs:List (bY × cz)),y.2.2.2.1=(i:Int)/\i<=l/\m'=l-i/\Ch (aK p3) h1 h'/\vs.length=l/\SL h' h.size 64 10 p3 l c3 (vs.map sH) /\
   (∀ j,(hj:j<i)->(hv:j<vs.length)->SL h' h1.size 66 2 vs[j].1.p vs[j].1.l vs[j].1.c (vs[j].2.e.ai.map cX))/\vs.map (·.2)=(xs.take i).map (w.fj u)++xs.drop i/\∀ j,(hj:j<i)->(hx:j<xs.length)->w.bad u xs[j].e=none)
  ((none,0,0),(⟨#[]⟩:YA),false,(0:Int),()) l rfl ⟨0,ws,rfl,ad,ad,Ch.refl _ _,ad,s3,by intro j hj; omega,by simpa using hws,by intro j hj; omega⟩ ?_
 rintro ⟨p6,s9,b10,n11,⟨⟩⟩ m' h2 ⟨i,vs,hi,hil,rfl,k2,hvl,s2,own,dU,hok⟩;simp only at hi;subst hi;refine an ?_;have e02:Ext h h2:=Ch.trans e1 k2 (fun i hi hl=>by have:=hlt3 i hi; omega);have z1:=e1.size;have z2:=k2.size;refine ak (fun q=>?_) (fun q=>?_)
 ·have q:=Ws q;have hlt:i<xs.length:=ad
  obtain ⟨aa,pp,ll,cc,ha,hc0,va0⟩:=v.cells i hlt;have gxi:=gx xs[i] (WA hlt);have htk:xs.take (i+1)=xs.take i++[xs[i]]:=Wx hlt;have hdr:xs.drop i=xs[i]::xs.drop (i+1):=WK hlt;generalize hxi:xs[i]=x at hc0 va0 htk gxi hdr;refine ay ⟨ad,ad⟩ (av ha ?_);rw [show Int.toNat (i:Int)=i from ad];refine ax (x.kind,x.name,x.inst.op,x.inst.a,x.inst.b,x.inst.n,x.inst.form,(pp,ll,cc),(x.e.num:Int),x.n,()) (aQ e02 aj _ _ hc0) ?_;refine an ?_;refine bq ?_;intro h3 b3 e3 z3;refine aw b3 rfl aj ?_;intro h4 b4 k4 z4;have b4:bC h4 h2.size 64 (Ob.encI pp ll cc x):=b4;have e24:Ext h2 h4:=Ch.trans e3 k4 (fun i hi hl=>by simp at hi; omega);have e04:=e02.trans e24;rw [aE];refine af b4 ((pp,ll,cc),(x.e.num:Int),()) rfl ?_;refine an ?_;refine aI (xh (c:=cc) (pw.ao e04 aj) (b.ao e04 aj) (m.ao e04 aj aj aj) lb' u (va0.ao e04).lin.vw gxi) ?_;rintro _ h5 ⟨e5,hq⟩;have z4':=b4.lt;have z5:=e5.size;cases hb:w.bad u x.e with
  | some s =>
   rw [hb] at hq;subst hq;refine ⟨((none,0,0),(0:Int),s,false,()),rfl,?_⟩;refine an ?_;refine bq ?_;intro h6 b6 e6 z6;refine aw b6 rfl aj ?_;intro h7 b7 k7 z7;refine bX rfl ?_;refine ⟨Ch.trans ((e04.trans e5).trans e6) k7 (fun i hi hl=>by simp at hi; omega),?_⟩;rw [Hv w u xs i hlt s (fun j hj=>hok j hj ad) (by rw [hxi]; exact hb)]
  | none =>
   rw [hb] at hq;obtain ⟨p7,l7,c7,rfl,s7⟩:=hq;refine ⟨((p7,l7,c7),((w.lin u x.e).num:Int),(⟨#[]⟩:YA),true,()),rfl,?_⟩;refine an ?_;refine bq ?_;intro h6 b6 e6 z6;refine aw b6 rfl aj ?_;intro h7 b7 k7 z7;have b7:bC h7 h5.size 60 [.slice p7 l7 c7,.int .u32 ((w.lin u x.e).num:Int)]:=b7;have e57:Ext h5 h7:=Ch.trans e6 k7 (fun i hi hl=>by simp at hi; omega);have e27:=(e24.trans e5).trans e57;refine bM rfl ?_;refine af b7 ((p7,l7,c7),((w.lin u x.e).num:Int),()) rfl ?_;refine an ?_;have s27:=s2.ao e27 aj;have hiv:i<vs.length:=ad
   obtain ⟨a3,ha3⟩:∃ a3,p3=some a3:=by
    cases hp3:p3 with
    | some a=>exact ⟨a,rfl⟩
    | none =>
     rw [hp3] at s27;have h1:=s27.2.2.2;have h2:vs=[]:=by simpa using h1
     rw [h2] at hiv;simp at hiv
   refine ay ⟨ad,ad⟩ (av ha3 ?_);refine SL.part (P:=Tryz.prog) s27 (i:=i) (by rw [Wr]; exact hiv) (o:=7) aj (by simp [cS]) ha3 ?_;intro h8 s8 k8 z8;have hvi:vs[i].2=x:=by
    have h1:(vs.map (·.2))[i]?=some vs[i].2:=by rw [Xc,Wu hiv]; rfl
    rw [dU,WX (by rw [Wr,WO]; omega),hdr] at h1;rw [Wr,WO,show i-min i xs.length=0 from ad] at h1;simpa using h1.symm
   have hnew:(vs.map sH).set i (lG ((vs.map sH)[i]'(by rw [Wr]; exact hiv)) 7 [.slice p7 l7 c7,.int .u32 ((w.lin u x.e).num:Int)])=(vs.set i (⟨p7,l7,c7⟩,w.fj u x)).map sH:=by
    rw [Yn,Wy]
    congr 1
    rcases hvv:vs[i] with ⟨⟨v1,v2,v3⟩,v4⟩
    have:v4=x:=by rw [<- hvi,hvv]
    subst this;rfl
   rw [hnew] at s8;have z7':h2.size<=h7.size:=e27.size;have hw:IntKind.wrap .i64 ((i:Int)+1)=((i+1:Nat):Int):=by rw [wrap_i64 ad ad]; omega
   rw [hw];refine aF (cs:=[(false,[.slice 0]),(false,[.string]),(false,[.bool]),(false,[.int .i64])]) (p6,s9,b10,((i+1:Nat):Int),()) (l-(i+1)) rfl ad rfl
    ⟨i+1,vs.set i (⟨p7,l7,c7⟩,w.fj u x),rfl,ad,rfl,Ch.trans (k2.trans (e27.mono aj) (fun i hi _=>hi)) k8 (fun i hi _=>hi),by rw [XK]; exact hvl,s8,fun j hj hjv=>?_,?_,fun j hj hjx=>?_⟩
   ·have nin:∀ x,h1.size<=x->x∉aK p3:=fun x h1 h2=>by have:=hlt3 x h2; omega
    by_cases hji:j=i
    ·subst hji;simp only [List.getElem_set_self]
     have:SL h7 h1.size 66 2 p7 l7 c7 ((w.fj u x).e.ai.map cX):=Sx.SL.mono (s7.ao e57 aj) (by have:=e24.size; omega)
     exact this.bG k8 (fun x hx=>nin x (this.cd hx).1)
    ·have hjlt:j<i:=ad
     rw [XK] at hjv;simp only [List.getElem_set_ne (Ne.symm hji)]
     have:=(own j hjlt hjv).ao e27 aj
     exact this.bG k8 (fun x hx=>nin x (this.cd hx).1)
   ·rw [Yn,dU,htk,WG,hdr];have hl1:((xs.take i).map (w.fj u)).length=i:=by rw [Wr,WO]; omega
    rw [List.set_append_right _ _ ad,hl1,Yo,List.set_cons_zero]
    simp
   ·by_cases hji:j=i
    ·subst hji;rw [hxi]; exact hb
    ·exact hok j ad hjx
 ·have q:=Wt q;have hi:i=l:=ad
  subst hi;refine ⟨e02,?_⟩;rw [JP w u xs (fun j hj=>hok j ad hj)];refine ⟨p3,c3,h1.size,vs,rfl,⟨s2,fun i hi=>(hlt3 i hi).2,fun u hu=>?_⟩,z1,?_⟩
  ·obtain ⟨j,hj,rfl⟩:=WS hu;exact own j ad hj
  ·rw [dU,W7 ad,Yd ad,Xy]
end
def jf (n sec i:Nat) (x:cz) (w:LW):LW :=
 if x.kind=1 then { w with num:=x5 w.num (n,x.name) w.lb.length,nn:=if (w.num (n,x.name)).isSome then w.nn else w.nn+1,lb:=w.lb++[⟨n,sec,i,x.name⟩] } else w
def ix (n sec:Nat):Nat->List cz->LW->LW
 | _,[],w=>w
 | i,x::l,w=>ix n sec (i+1) l (jf n sec i x w)
def uM (n:Nat) (w:LW) (e:qi):LW:={ w with sx:=x5 w.sx (n,e.1) w.ne,ne:=if (w.sx (n,e.1)).isSome then w.ne else w.ne+1 }
def Fm (n:Nat) (u:bP) (w:LW):LW:=u.bf.foldl (uM n) (ix n 1 0 u.data (ix n 0 0 u.text w))
def mw:Nat->List bP->LW->LW
 | _,[],w=>w
 | n,u::us,w=>mw (n+1) us (Fm n u w)
theorem AQ (n sec:Nat) (x:cz):∀ (l:List cz) (i:Nat) (w:LW),ix n sec i (l++[x]) w=jf n sec (i+l.length) x (ix n sec i l w)
 | [],i,w=>rfl
 | y::l,i,w=>by
  simp only [List.cons_append,ix,List.length_cons];rw [AQ n sec x l (i+1) _,show i+1+l.length=i+(l.length+1) from ad]
theorem Bx (u:bP):∀ (l:List bP) (n:Nat) (w:LW),mw n (l++[u]) w=Fm (n+l.length) u (mw n l w)
 | [],n,w=>rfl
 | y::l,n,w=>by
  simp only [List.cons_append,mw,List.length_cons];rw [Bx u l (n+1) _,show n+1+l.length=n+(l.length+1) from ad]
theorem F6 (n sec i:Nat) (x:cz) (w:LW):(jf n sec i x w).lb.length<=w.lb.length+1:=by
 unfold jf;split
 ·simp
 ·omega
theorem lJ (n sec:Nat):∀ (l:List cz) (i:Nat) (w:LW),(ix n sec i l w).lb.length<=w.lb.length+l.length
 | [],i,w=>by simp [ix]
 | x::l,i,w=>by
  have h1:=lJ n sec l (i+1) (jf n sec i x w);have h2:=F6 n sec i x w;simp only [ix,List.length_cons];omega
theorem MB (n:Nat):∀ (l:List qi) (w:LW),(l.foldl (uM n) w).lb=w.lb
 | [],w=>rfl
 | e::l,w=>by rw [Xk,MB n l]; rfl
theorem Kf (n:Nat) (u:bP) (w:LW):(Fm n u w).lb.length<=w.lb.length+(u.text.length+u.data.length):=by
 unfold Fm;rw [MB];have h1:=lJ n 1 u.data 0 (ix n 0 0 u.text w);have h2:=lJ n 0 u.text 0 w;omega
def um (us:List bP):Nat:=(us.map fun u=>u.text.length+u.data.length+u.bf.length+u.aS.length).sum
theorem D5:∀ (l:List bP) (n:Nat) (w:LW),(mw n l w).lb.length<=w.lb.length+um l
 | [],n,w=>by simp [mw,um]
 | u::l,n,w=>by
  have h1:=D5 l (n+1) (Fm n u w);have h2:=Kf n u w;simp only [mw,um,List.map_cons,List.sum_cons] at *;omega
theorem IB (us:List bP) (i:Nat) (hi:i<us.length):um (us.take i)+(us[i].text.length+us[i].data.length+us[i].bf.length+us[i].aS.length)+um (us.drop (i+1))=um us:=by
 have:us=us.take i++us[i]::us.drop (i+1):=by rw [<- WK hi,W8]
 conv=>rhs; rw [this]
 unfold um;rw [WG,List.sum_append,Xf,XM];omega
structure ED (h:Hp) (B:Nat) (us lb:bY) (sp:Int) (w:LW):Prop where
 box:N9 h (B+3) us lb B (B+1) (B+2) sp
 maps:LM h B (B+1) (B+2) w
 mV:SL h (B+4) 76 4 lb.p lb.l lb.c (w.lb.map wq)
theorem ED.ao {h h':Hp} {B:Nat} {us lb:bY} {sp:Int} {w:LW} (s:ED h B us lb sp w) (e:Ext h h'):ED h' B us lb sp w :=
 ⟨s.box.ao e aj,s.maps.ao e aj aj aj,s.mV.ao e aj⟩
theorem ED.lt {h:Hp} {B:Nat} {us lb:bY} {sp:Int} {w:LW} (s:ED h B us lb sp w):B+4<=h.size:=by have:=s.box.lt; omega
theorem Rq:Tryz.prog.underlying 43=some (.slice 76):=az
theorem T7:(Tryz.prog.info? 76).map (fun i=>(i.zero,i.size,i.bytes))=some (some (.agg #[.int .i64 0,.int .i64 0,.int .i64 0,.string ⟨#[]⟩]),4,40):=az
theorem Nw (a b c:Int) (s:YA):Instr.fill (fun j=>some (j*4,4)) ((Array.range (1*4)).map ((Value.agg #[.int .i64 0,.int .i64 0,.int .i64 0,.string ⟨#[]⟩]).cells[· % (Value.agg #[.int .i64 0,.int .i64 0,.int .i64 0,.string ⟨#[]⟩]).cells.size]!)) [(0,.agg #[.int .i64 a,.int .i64 b,.int .i64 c,.string s])]=some ([.int .i64 a,.int .i64 b,.int .i64 c,.string s]:List YB).toArray:=az
section
variable {h0:Hp} {B:Nat} {us:bY} {sp:Int}
theorem Gk {h:Hp} {lb:bY} {w:LW} (hB:h0.size=B) (e0:Ext h0 h) (s:ED h B us lb sp w) {p:Option YC} {l c:Nat} {vV:List bP} (v:sT h0 p l vV) (hlen:w.lb.length+um vV<=2^30) (hnu:vV.length<=2^20) (hwl:lb.l=w.lb.length) :
  HC Tryz.prog 43 #[ptr (B+3),.slice p l c] h fun x h'=>x=.tuple #[]/\∃ lb',ED h' B us lb' sp (mw 0 vV w)/\Ext h0 h':=by
 refine aZ (args:=[ptr (B+3),.slice p l c]) mixed Tryz.func43 az (mT (some ⟨B+3,0,none⟩) p l c) ?_;unfold iX aX bh bm aH bk bK bi bU aM;have hll:=v.len;refine aR (cs:=[(false,[.int .i64])]) (fun y m' h'=>∃ (n:Nat) (lb':bY),y.1=(n:Int)/\n<=l/\m'=l-n/\Ext h0 h'/\ED h' B us lb' sp (mw 0 (vV.take n) w)) ((0:Int),()) l rfl ⟨0,lb,rfl,ad,ad,e0,s⟩ ?_;clear s e0;rintro ⟨n2,⟨⟩⟩ m' h1 ⟨n,lb1,hn,hnl,rfl,e1,s1⟩;simp only at hn;subst hn;refine an ?_;refine ak (fun q=>?_) (fun q=>?_)
 ·have q:=Ws q;have hlt:n<vV.length:=ad
  obtain ⟨a,ta,tb,tc,td,ha,hc,hu⟩:=v.cells n hlt;have htk:vV.take (n+1)=vV.take n++[vV[n]]:=Wx hlt;have hL:=IB vV n hlt;have hwn:=D5 (vV.take n) 0 w;generalize vV[n]=u at hc hu htk hL;generalize hw1:mw 0 (vV.take n) w=w1 at *;refine ay ⟨ad,ad⟩ (av ha ?_);rw [show Int.toNat (n:Int)=n from ad];refine ax ((ta.p,ta.l,ta.c),(tb.p,tb.l,tb.c),(tc.p,tc.l,tc.c),(td.p,td.l,td.c),()) (aQ e1 aj _ _ hc) ?_;refine an ?_;refine bq ?_;intro h2 b2 e2 z2;refine aw b2 rfl aj ?_;intro h3 b3 k3 z3;have b3:bC h3 h1.size 30 [ta.v,tb.v,tc.v,td.v]:=b3;have e13:Ext h1 h3:=Ch.trans e2 k3 (fun i hi hl=>by simp at hi; omega);refine af b3 ((ta.p,ta.l,ta.c),()) rfl ?_;refine an ?_;rw [aE];refine af b3 ((tb.p,tb.l,tb.c),()) rfl ?_;refine an ?_;refine jX NV Vm ad ad (NB ta.p ta.l ta.c tb.p tb.l tb.c) ?_;intro h4 b4 e4 z4;have b4:bC h4 h3.size 26 [ta.v,tb.v]:=b4;have e14:=e13.trans e4;have b34:=b3.ao e4 aj;have l1:=s1.lt;have q3:=b3.lt;have hsec:∀ k,k<2->∃ s:bY,([ta.v,tb.v]:List YB).drop k=s.v::([ta.v,tb.v]:List YB).drop (k+1)/\Am h0 s.p s.l (yf u k):=by
   intro k hk
   have:k=0\/k=1:=ad
   rcases this with rfl | rfl
   ·exact ⟨ta,rfl,hu.text⟩
   ·exact ⟨tb,rfl,hu.data⟩
  let wS:Nat->LW:=fun k=>if k=0 then w1 else if k=1 then ix n 0 0 u.text w1 else ix n 1 0 u.data (ix n 0 0 u.text w1)
  have hwS:∀ k,k<2->wS (k+1)=ix n k 0 (yf u k) (wS k):=by
   intro k hk
   have:k=0\/k=1:=ad
   rcases this with rfl | rfl <;> rfl
  have hwSl:∀ k,k<=2->(wS k).lb.length<=w1.lb.length+(if k=0 then 0 else if k=1 then u.text.length else u.text.length+u.data.length):=by
   intro k hk
   have:k=0\/k=1\/k=2:=ad
   rcases this with rfl | rfl | rfl
   ·simp [wS]
   ·exact lJ n 0 u.text 0 w1
   ·have h1:=lJ n 0 u.text 0 w1;have h2:=lJ n 1 u.data 0 (ix n 0 0 u.text w1);show (ix n 1 0 u.data (ix n 0 0 u.text w1)).lb.length<=w1.lb.length+(u.text.length+u.data.length);omega
  refine aR (cs:=[(false,[.int .i64])]) (fun y m' h'=>∃ (k:Nat) (lb':bY),y.1=(k:Int)/\k<=2/\m'=2-k/\Ext h0 h'/\ED h' B us lb' sp (wS k)/\(h1.size∉aK lb'.p/\h3.size∉aK lb'.p)/\bC h' h1.size 30 [ta.v,tb.v,tc.v,td.v]/\bC h' h3.size 26 [ta.v,tb.v]) ((0:Int),()) 2 rfl
   ⟨0,lb1,rfl,ad,ad,e1.trans e14,s1.ao e14,⟨fun hm=>by have:=(s1.mV.cd hm).2; omega,fun hm=>by have:=(s1.mV.cd hm).2; omega⟩,b34,b4⟩ ?_
  clear b4 b34 e4 e14 b3 z4;rintro ⟨n26,⟨⟩⟩ m' h5 ⟨k,lb2,hk,hk2,rfl,e5,s5,d2,bu,bs⟩;simp only at hk;subst hk;refine an ?_;refine ak (fun q=>?_) (fun q=>?_)
  ·have q:=Ws q;have hk:k<2:=ad
   obtain ⟨sl,hsl,vs⟩:=hsec k hk;have hwk:=hwS k hk;have hwkl:=hwSl k ad;have hsecl:(yf u k).length+(if k=0 then 0 else if k=1 then u.text.length else u.text.length+u.data.length)<=u.text.length+u.data.length:=by
    have:k=0\/k=1:=ad
    rcases this with rfl | rfl
    ·simp [yf]
    ·simp [yf]; omega
   refine ay ⟨ad,ad⟩ (av rfl ?_);rw [aE];refine af bs ((sl.p,sl.l,sl.c),()) (by rw [show 0+(k:Int).toNat*1=k from ad,hsl]; rfl) ?_;refine an ?_;generalize hxs:yf u k=xs at vs hwk hsecl;generalize hwkk:wS k=wk at *;have lk:=vs.len;refine aR (cs:=[(false,[.int .i64])]) (fun y m' h'=>∃ (i:Nat) (lb':bY),y.1=(i:Int)/\i<=sl.l/\m'=sl.l-i/\Ext h0 h'/\ED h' B us lb' sp (ix n k 0 (xs.take i) wk)/\(h1.size∉aK lb'.p/\h3.size∉aK lb'.p)/\bC h' h1.size 30 [ta.v,tb.v,tc.v,td.v]/\bC h' h3.size 26 [ta.v,tb.v]) ((0:Int),()) sl.l rfl
    ⟨0,lb2,rfl,ad,ad,e5,s5,d2,bu,bs⟩ ?_
   clear e5 s5 bu bs;rintro ⟨n31,⟨⟩⟩ m' h6 ⟨i,lb3,hi,hil,rfl,e6,s6,d3,bu,bs⟩;simp only at hi;subst hi;refine an ?_;refine ak (fun q=>?_) (fun q=>?_)
   ·have q:=Ws q;have hix:i<xs.length:=ad
    obtain ⟨aa,pp,ll,cc,haa,hc0,va0⟩:=vs.cells i hix;have htk2:xs.take (i+1)=xs.take i++[xs[i]]:=Wx hix;have hli:(ix n k 0 (xs.take i) wk).lb.length<=wk.lb.length+i:=by
     have:=lJ n k (xs.take i) 0 wk
     rw [WO] at this;omega
    have hstep:ix n k 0 (xs.take (i+1)) wk=jf n k i xs[i] (ix n k 0 (xs.take i) wk):=by
     rw [htk2,AQ,WO,Xa,XR ad]
    generalize xs[i]=x at hc0 va0 hstep;generalize hwi:ix n k 0 (xs.take i) wk=wi at *;refine ay ⟨ad,ad⟩ (av haa ?_);rw [show Int.toNat (i:Int)=i from ad];refine ax (x.kind,x.name,x.inst.op,x.inst.a,x.inst.b,x.inst.n,x.inst.form,(pp,ll,cc),(x.e.num:Int),x.n,()) (aQ e6 aj _ _ hc0) ?_;refine an ?_;refine bq ?_;intro h7 b7 e7 z7;refine aw b7 rfl aj ?_;intro h8 b8 k8 z8;have b8:bC h8 h6.size 64 (Ob.encI pp ll cc x):=b8;have e68:Ext h6 h8:=Ch.trans e7 k8 (fun i hi hl=>by simp at hi; omega);have bu8:=bu.ao e68 aj;have bs8:=bs.ao e68 aj;have s8:=s6.ao e68;have hw:IntKind.wrap .i64 ((i:Int)+1)=((i+1:Nat):Int):=by rw [wrap_i64 ad ad]; omega
    have l6:=s6.lt;have q6:=b8.lt;refine af b8 (x.kind,()) rfl ?_;refine an ?_;refine ak (fun r=>?_) (fun r=>?_)
    ·have r:x.kind=1:=by simpa using r
     have hp:jf n k i x wi={ wi with num:=x5 wi.num (n,x.name) wi.lb.length,nn:=if (wi.num (n,x.name)).isSome then wi.nn else wi.nn+1,lb:=wi.lb++[⟨n,k,i,x.name⟩] }:=by unfold jf; rw [WC r]
     refine av rfl ?_;rw [aE];refine af s8.box (some B,()) rfl ?_;refine an ?_;rw [aE];refine af b8 (x.name,()) rfl ?_;refine an ?_;refine av rfl ?_;rw [aE];refine af s8.box ((lb3.p,lb3.l,lb3.c),()) rfl ?_;refine an ?_;have hlb3:lb3.l=wi.lb.length:=by rw [s8.mV.1,Wr]
     refine QO s8.maps.n n x.name (w:=wi.lb.length) ad ?_;intro h9 m9 k9 z9;have x9:=s8.box.ao k9 aj;have me9:=s8.maps.e.ao k9 aj;have mg9:=s8.maps.g.ao k9 aj;have ls9:=s8.mV.bG k9 (fun j hj=>by have:=(s8.mV.cd hj).1; simp; omega);have b9:=b8.ao k9 (by simp; omega);refine av rfl ?_;rw [aE];refine af x9 ((lb3.p,lb3.l,lb3.c),()) rfl ?_;refine an ?_;refine af b9 (x.name,()) rfl ?_;refine an ?_;refine gj (e:=76) (z:=.agg #[.int .i64 0,.int .i64 0,.int .i64 0,.string ⟨#[]⟩]) (sz:=4) (by':=40) Rq T7 rfl ad ad (Nw _ _ _ _) rfl rfl ls9 ad ad ad (fun h' e=>⟨(b9.ao e aj).cells _ rfl,(x9.ao e aj).cells _ rfl,trivial⟩) ?_;intro p' c' h10 s10 k10 hp10;have nin:∀ j,j<B+4->j∉aK lb3.p:=fun j h1 h2=>by have:=(s8.mV.cd h2).1; omega
     have nin2:∀ j,h6.size<=j->j∉aK lb3.p:=fun j h1 h2=>by have:=(s6.mV.cd h2).2; omega
     have b10:=b9.ao k10 (nin2 _ ad);have x10:=x9.ao k10 (nin _ ad);refine ⟨⟨b10.cells _ rfl,trivial⟩,?_⟩;refine av rfl ?_;rw [aE];refine aw x10 rfl aj ?_;intro h11 x11 k11 z11;have x11:N9 h11 (B+3) us ⟨p',lb3.l+1,c'⟩ B (B+1) (B+2) sp:=x11;rw [hw];have e611:Ext h0 h11:=Ch.trans (Ch.trans (Ch.trans (e6.trans e68) k9 (fun j hj hl=>by simp at hj; omega)) k10 (fun j hj hl=>by have:=(s8.mV.cd hj).1; omega)) k11 (fun j hj hl=>by simp at hj; omega);have q56:h1.size<h3.size:=q3;have q36:h3.size<h6.size:=bs.lt;have d4:h1.size∉aK p'/\h3.size∉aK p':=by
      rcases hp10 with rfl | ⟨a',rfl,ha'⟩
      ·exact d3
      ·simp only [aK,List.mem_singleton]; omega
     refine aF (cs:=[(false,[.int .i64])]) (((i+1:Nat):Int),()) (sl.l-(i+1)) rfl ad rfl ⟨i+1,⟨p',lb3.l+1,c'⟩,rfl,ad,rfl,e611,?_,d4,?_,?_⟩
     ·rw [hstep,hp];refine ⟨x11,⟨(m9.ao k10 (nin _ ad)).ao k11 aj,(me9.ao k10 (nin _ ad)).ao k11 aj,(mg9.ao k10 (nin _ ad)).ao k11 aj⟩,?_⟩;show SL h11 (B+4) 76 4 p' (lb3.l+1) c' ((wi.lb++[(⟨n,k,i,x.name⟩:Lb)]).map wq);rw [WG];exact s10.bG k11 (fun j hj=>by have:=(s10.cd hj).1; simp; omega)
     ·exact ((bu8.ao k9 (by simp; omega)).ao k10 d3.1).ao k11 (by simp; omega)
     ·exact ((bs8.ao k9 (by simp; omega)).ao k10 d3.2).ao k11 (by simp; omega)
    ·have r:¬ x.kind=1:=by simpa using r
     have hp:jf n k i x wi=wi:=by unfold jf; rw [Ww r]
     rw [hw];refine aF (cs:=[(false,[.int .i64])]) (((i+1:Nat):Int),()) (sl.l-(i+1)) rfl ad rfl ⟨i+1,lb3,rfl,ad,rfl,e6.trans e68,by rw [hstep,hp]; exact s8,d3,bu8,bs8⟩
   ·have q:=Wt q;have hi:i=xs.length:=ad
    subst hi;rw [W7 (WH _)] at s6;have hw:IntKind.wrap .i64 ((k:Int)+1)=((k+1:Nat):Int):=by rw [wrap_i64 ad ad]; omega
    rw [hw];refine aF (cs:=[(false,[.int .i64])]) (((k+1:Nat):Int),()) (2-(k+1)) rfl ad rfl ⟨k+1,lb3,rfl,ad,rfl,e6,by rw [hwk]; exact s6,d3,bu,bs⟩
  ·have q:=Wt q;have hk:k=2:=ad
   subst hk;clear bs;rw [aE];refine af bu ((tc.p,tc.l,tc.c),()) rfl ?_;refine an ?_;have ve:=hu.bf;have le:=ve.len;have hw2:wS 2=ix n 1 0 u.data (ix n 0 0 u.text w1):=rfl;have hne:∀ (i:Nat),(hi:i<u.bf.length)->(u.bf.take (i+1)).foldl (uM n) (wS 2)=uM n ((u.bf.take i).foldl (uM n) (wS 2)) (u.bf[i]'ad):=by
    intro i hi;rw [Wx hi,Xz] <;> rfl
   refine aR (cs:=[(false,[.int .i64])]) (fun y m' h'=>∃ (i:Nat),y.1=(i:Int)/\i<=tc.l/\m'=tc.l-i/\Ext h0 h'/\ED h' B us lb2 sp ((u.bf.take i).foldl (uM n) (wS 2))) ((0:Int),()) tc.l rfl
    ⟨0,rfl,ad,ad,e5,s5⟩ ?_
   clear e5 s5 bu;rintro ⟨n30,⟨⟩⟩ m' h6 ⟨i,hi,hil,rfl,e6,s6⟩;simp only at hi;subst hi;refine an ?_;refine ak (fun q=>?_) (fun q=>?_)
   ·have q:=Ws q;have hix:i<u.bf.length:=ad
    obtain ⟨aa,pp,ll,cc,haa,hc0,va0,hsz⟩:=ve.cells i hix;have hne:=hne i hix;generalize u.bf[i]=x at hc0 va0 hsz hne;generalize hwi:(u.bf.take i).foldl (uM n) (wS 2)=wi at *;refine ay ⟨ad,ad⟩ (av haa ?_);rw [show Int.toNat (i:Int)=i from ad];refine ax (x.1,(pp,ll,cc),(x.2.num:Int),()) (aQ e6 aj _ _ hc0) ?_;refine an ?_;refine bq ?_;intro h7 b7 e7 z7;refine aw b7 rfl aj ?_;intro h8 b8 k8 z8;have b8:bC h8 h6.size 88 [.string x.1,.slice pp ll cc,.int .u32 (x.2.num:Int)]:=b8;have e68:Ext h6 h8:=Ch.trans e7 k8 (fun i hi hl=>by simp at hi; omega);have s8:=s6.ao e68;have l6:=s6.lt;have q6:=b8.lt;refine av rfl ?_;rw [aE];refine af s8.box (some (B+1),()) rfl ?_;refine an ?_;refine af b8 (x.1,()) rfl ?_;refine an ?_;refine av rfl ?_;rw [aE];refine af s8.box (some (B+1),()) rfl ?_;refine an ?_;refine UJ s8.maps.e ?_;refine ⟨⟨b8.cells _ rfl,s8.box.cells _ rfl,trivial⟩,?_⟩;refine QO s8.maps.e n x.1 (w:=wi.ne) rfl ?_;intro h9 m9 k9 z9;have hw:IntKind.wrap .i64 ((i:Int)+1)=((i+1:Nat):Int):=by rw [wrap_i64 ad ad]; omega
    rw [hw];refine aF (cs:=[(false,[.int .i64])]) (((i+1:Nat):Int),()) (tc.l-(i+1)) rfl ad rfl ⟨i+1,rfl,ad,rfl,Ch.trans (e6.trans e68) k9 (fun j hj hl=>by simp at hj; omega),?_⟩;rw [hne];exact ⟨s8.box.ao k9 aj,⟨s8.maps.n.ao k9 aj,m9,s8.maps.g.ao k9 aj⟩,s8.mV.bG k9 (fun j hj=>by have:=(s8.mV.cd hj).1; simp; omega)⟩
   ·have q:=Wt q;have hi:i=u.bf.length:=ad
    subst hi;rw [W7 (WH _)] at s6;have hw:IntKind.wrap .i64 ((n:Int)+1)=((n+1:Nat):Int):=by rw [wrap_i64 ad ad]; omega
    rw [hw];refine aF (cs:=[(false,[.int .i64])]) (((n+1:Nat):Int),()) (l-(n+1)) rfl ad rfl ⟨n+1,lb2,rfl,ad,rfl,e6,?_⟩;rw [htk,Bx,WO,Xa,XR ad,hw1];exact s6
 ·have q:=Wt q;have hn:n=vV.length:=ad
  subst hn;rw [W7 (WH _)] at s1;exact ⟨rfl,lb1,s1,e1⟩
end
def ur (n:Nat) (w:LW) (s:YA):LW:={ w with gl:=dy w.gl s n,ng:=if (w.gl s).isSome then w.ng else w.ng+1 }
def Ez (n:Nat) (u:bP) (w:LW):LW:=u.aS.foldl (ur n) w
def jZ:Nat->List bP->LW->Except (Nat × YA) LW
 | _,[],w=>.ok w
 | n,u::us,w=>match u.aS.find? fun g=>(w.gl g).isSome with
  | some g=>.error (n,g)
  | none=>jZ (n+1) us (Ez n u w)
theorem K4 (n:Nat):∀ (l:List YA) (w:LW),(l.foldl (ur n) w).lb=w.lb/\(l.foldl (ur n) w).num=w.num/\(l.foldl (ur n) w).nn=w.nn/\(l.foldl (ur n) w).sx=w.sx/\(l.foldl (ur n) w).ne=w.ne
 | [],w=>⟨rfl,rfl,rfl,rfl,rfl⟩
 | e::l,w=>by rw [Xk]; exact K4 n l _
section
variable {h0:Hp} {B:Nat} {us lb:bY} {sp:Int}
theorem JZ {h:Hp} {w:LW} (hB:h0.size=B) (e0:Ext h0 h) (s:ED h B us lb sp w) {p:Option YC} {l c:Nat} {vV:List bP} (v:sT h0 p l vV) (hnu:vV.length<=2^20) :
  HC Tryz.prog 44 #[ptr (B+3),.slice p l c] h fun x h'=>Ext h0 h'/\match jZ 0 vV w with
   | .error q=>x=.tuple #[.agg #[.int .i64 22,.int .i64 (q.1:Int),.string q.2],.bool true]
   | .ok w'=>x=.tuple #[.agg #[.int .i64 0,.int .i64 0,.string ⟨#[]⟩],.bool false]/\ED h' B us lb sp w':=by
 refine aZ (args:=[ptr (B+3),.slice p l c]) mixed Tryz.func44 az (nk (some ⟨B+3,0,none⟩) p l c) ?_;unfold jN aX bh bm aH bK bi bU aM bT;have hll:=v.len;generalize hM:jZ 0 vV w=M;refine bq ?_;intro h1 b1 e1 z1;have l0:=s.lt;refine aR (cs:=[(false,[.bool]),(false,[.int .i64])]) (fun y m' h'=>∃ (n:Nat) (w':LW),y.2.1=(n:Int)/\n<=l/\m'=l-n/\Ext h0 h'/\ED h' B us lb sp w'/\bC h' h.size 37 [.int .i64 0,.int .i64 0,.string ⟨#[]⟩]/\jZ n (vV.drop n) w'=M) (false,(0:Int),()) l rfl
  ⟨0,w,rfl,ad,ad,e0.trans e1,s.ao e1,b1,hM⟩ ?_
 have z0:=e0.size;have hlb:∀ i,i∈aK lb.p->i<h.size:=fun i hi=>(s.mV.cd hi).2
 clear hM s b1;rintro ⟨b3,n4,⟨⟩⟩ m' h2 ⟨n,w,hn,hnl,rfl,e2,s,b1,hM⟩;simp only at hn;subst hn;refine an ?_;have q1:=b1.lt;refine ak (fun q=>?_) (fun q=>?_)
 ·have q:=Ws q;have hlt:n<vV.length:=ad
  obtain ⟨a,ta,tb,tc,td,ha,hc,hu⟩:=v.cells n hlt;rw [WK hlt] at hM;generalize vV[n]=u at hc hu hM;refine ay ⟨ad,ad⟩ (av ha ?_);rw [show Int.toNat (n:Int)=n from ad];refine ax ((ta.p,ta.l,ta.c),(tb.p,tb.l,tb.c),(tc.p,tc.l,tc.c),(td.p,td.l,td.c),()) (aQ e2 aj _ _ hc) ?_;refine an ?_;refine bq ?_;intro h3 b3' e3 z3;refine aw b3' rfl aj ?_;intro h4 b4 k4 z4;have b4:bC h4 h2.size 30 [ta.v,tb.v,tc.v,td.v]:=b4;have e24:Ext h2 h4:=Ch.trans e3 k4 (fun i hi hl=>by simp at hi; omega);have e04:=e2.trans e24;have s4:=s.ao e24;have b14:=b1.ao e24 aj;have vg:=hu.aS;have lg:=vg.len;have mg:=vg.many;have q4:=b4.lt;have l2:=s.lt;rw [aE];refine af b4 ((td.p,td.l,td.c),()) rfl ?_;refine an ?_;refine aR (cs:=[(false,[.bool]),(false,[.int .i64])]) (fun y m' h'=>∃ (i:Nat),y.2.1=(i:Int)/\i<=td.l/\m'=td.l-i/\h'=h4/\∀ j,(hj:j<i)->(hx:j<u.aS.length)->(w.gl u.aS[j]).isSome=false) (b3,(0:Int),()) td.l rfl
   ⟨0,rfl,ad,ad,rfl,by intro j hj; omega⟩ ?_
  rintro ⟨b22,n23,⟨⟩⟩ m' h5 ⟨i,hi,hil,rfl,rfl,hok⟩;simp only at hi;subst hi;refine an ?_;refine ak (fun q=>?_) (fun q=>?_)
  ·have q:=Ws q;have hix:i<u.aS.length:=ad
   obtain ⟨aa,haa,hc0,hsz⟩:=vg.cells i hix;refine ay ⟨ad,ad⟩ (av haa ?_);rw [show Int.toNat (i:Int)=i from ad];refine ax (u.aS[i],()) (aQ e04 aj _ _ hc0) ?_;refine an ?_;refine av rfl ?_;rw [aE];refine af s4.box (some (B+2),()) rfl ?_;refine an ?_;refine Cw s4.maps.g u.aS[i] ?_;refine ak (fun r=>?_) (fun r=>?_)
   ·refine aw b14 rfl aj ?_;intro h6 b6 k6 z6;have b6:bC h6 h.size 37 [.int .i64 22,.int .i64 (n:Int),.string u.aS[i]]:=b6;refine af b6 ((22:Int),(n:Int),u.aS[i],()) rfl ?_;have hf:M=.error (n,u.aS[i]):=by
     rw [<- hM,jZ,kB _ u.aS i hix (fun j hj=>hok j hj ad) r]
    subst hf;exact ⟨Ch.trans e04 k6 (fun j hj hl=>by simp at hj; omega),rfl⟩
   ·have hw:IntKind.wrap .i64 ((i:Int)+1)=((i+1:Nat):Int):=by rw [wrap_i64 ad ad]; omega
    rw [hw];refine aF (cs:=[(false,[.bool]),(false,[.int .i64])]) (b22,((i+1:Nat):Int),()) (td.l-(i+1)) rfl ad rfl ⟨i+1,rfl,ad,rfl,rfl,fun j hj hx=>?_⟩
    by_cases hji:j=i
    ·subst hji; exact r
    ·exact hok j ad hx
  ·have q:=Wt q;have hi:i=u.aS.length:=ad
   subst hi;have hM2:jZ (n+1) (vV.drop (n+1)) (Ez n u w)=M:=by
    rw [<- hM,jZ,om _ u.aS (fun j hj=>hok j hj hj)]
   refine af b4 ((td.p,td.l,td.c),()) rfl ?_;refine an ?_;refine aR (cs:=[(false,[.int .i64])]) (fun y m' h'=>∃ (i:Nat),y.1=(i:Int)/\i<=td.l/\m'=td.l-i/\Ext h0 h'/\ED h' B us lb sp ((u.aS.take i).foldl (ur n) w)/\bC h' h.size 37 [.int .i64 0,.int .i64 0,.string ⟨#[]⟩]) ((0:Int),()) td.l rfl
    ⟨0,rfl,ad,ad,e04,s4,b14⟩ ?_
   clear s4 b14;rintro ⟨n27,⟨⟩⟩ m' h6 ⟨i,hi,hil',rfl,e6,s6,b16⟩;simp only at hi;subst hi;refine an ?_;refine ak (fun q=>?_) (fun q=>?_)
   ·have q:=Ws q;have hix:i<u.aS.length:=ad
    obtain ⟨aa,haa,hc0,hsz⟩:=vg.cells i hix;have hst:(u.aS.take (i+1)).foldl (ur n) w=ur n ((u.aS.take i).foldl (ur n) w) u.aS[i]:=by
     rw [Wx hix,Xz] <;> rfl
    generalize u.aS[i]=x at hc0 hsz hst;generalize (u.aS.take i).foldl (ur n) w=wi at *;refine ay ⟨ad,ad⟩ (av haa ?_);rw [show Int.toNat (i:Int)=i from ad];refine ax (x,()) (aQ e6 aj _ _ hc0) ?_;refine an ?_;refine av rfl ?_;rw [aE];refine af s6.box (some (B+2),()) rfl ?_;refine an ?_;have l6:=s6.lt;refine qE s6.maps.g hsz (w:=n) rfl ?_;intro h7 m7 k7 z7;have hw:IntKind.wrap .i64 ((i:Int)+1)=((i+1:Nat):Int):=by rw [wrap_i64 ad ad]; omega
    rw [hw];refine aF (cs:=[(false,[.int .i64])]) (((i+1:Nat):Int),()) (td.l-(i+1)) rfl ad rfl ⟨i+1,rfl,ad,rfl,Ch.trans e6 k7 (fun j hj hl=>by simp at hj; omega),?_,b16.ao k7 (by simp; omega)⟩;rw [hst];exact ⟨s6.box.ao k7 aj,⟨s6.maps.n.ao k7 aj,s6.maps.e.ao k7 aj,m7⟩,s6.mV.bG k7 (fun j hj=>by have:=(s6.mV.cd hj).1; simp; omega)⟩
   ·have q:=Wt q;have hi:i=u.aS.length:=ad
    subst hi;rw [W7 (WH _)] at s6;have hw:IntKind.wrap .i64 ((n:Int)+1)=((n+1:Nat):Int):=by rw [wrap_i64 ad ad]; omega
    rw [hw];exact aF (cs:=[(false,[.bool]),(false,[.int .i64])]) (b22,((n+1:Nat):Int),()) (l-(n+1)) rfl ad rfl ⟨n+1,_,rfl,ad,rfl,e6,s6,b16,hM2⟩
 ·have q:=Wt q;have hn:n=vV.length:=ad
  subst hn;rw [Yd (WH _)] at hM;subst hM;refine aw b1 rfl aj ?_;intro h3 b3' k3 z3;have b3':bC h3 h.size 37 [.int .i64 0,.int .i64 0,.string ⟨#[]⟩]:=b3';refine af b3' ((0:Int),(0:Int),(⟨#[]⟩:YA),()) rfl ?_;refine ⟨Ch.trans e2 k3 (fun j hj hl=>by simp at hj; omega),rfl,?_⟩;exact ⟨s.box.ao k3 (by simp; omega),s.maps.ao k3 (by simp; omega) (by simp; omega) (by simp; omega),s.mV.bG k3 (fun j hj=>by have:=hlb j hj; simp; omega)⟩
end
end Go.Sx.Lk
namespace Go.Sx.Ob
open Go.Proofs
def PJ (x:cz):Bool:=decide (x.kind=2) && qu x.inst.op
def eu (l:List cz):Nat:=(l.filter PJ).length
theorem yB (l:List cz) (i:Nat) (hi:i<l.length):eu (l.take (i+1))=eu (l.take i)+if PJ l[i]=true then 1 else 0:=by
 unfold eu;rw [Wx hi,List.filter_append,Wv]
 congr 1
 by_cases hk:PJ l[i]=true <;> simp [hk]
theorem rc (l:List cz):eu l<=l.length:=XT _ _
theorem J3 {h:Hp} (t:An h) {a b c d:bY} {u:bP} (v:rm h a b c d u):HC Tryz.prog 48 #[AD a b c d] h fun w h'=>w=.int .i64 ((if eG u=0 then eu u.text else 0:Nat):Int)/\Ext h h':=by
 refine aZ (args:=[AD a b c d]) mixed Tryz.func48 az (xR a.p a.l a.c b.p b.l b.c c.p c.l c.c d.p d.l d.c) ?_;unfold uc aX bh bm aH aU cn bi bU aM;refine bq ?_;intro h1 b1 e1 z1;have b1:bC h1 h.size 30 [a.v,b.v,c.v,d.v]:=b1;refine af b1 ((a.p,a.l,a.c),(b.p,b.l,b.c),(c.p,c.l,c.c),(d.p,d.l,d.c),()) rfl ?_;refine an ?_;refine aI (ux (t.ao e1 aj) (v.ao e1)) ?_;rintro _ h2 ⟨rfl,e2⟩;refine ⟨((eG u:Int),()),rfl,?_⟩;refine an ?_;have e02:=e1.trans e2;refine ak (fun r=>?_) (fun r=>?_)
 ·have r:¬ eG u=0:=by simpa using r
  rw [Ww r];exact ⟨rfl,e02⟩
 have r:eG u=0:=by simpa using r
 rw [WC r];have b2:=b1.ao e2 aj;refine af b2 ((a.p,a.l,a.c),()) rfl ?_;refine an ?_;have n:=v.text.len;have m1:=v.text.many;refine aR (cs:=[(false,[.int .i64]),(false,[.int .i64])]) (fun y m h'=>∃ i:Nat,y.2.1=(i:Int)/\y.1=(eu (u.text.take i):Int)/\m=u.text.length-i/\i<=u.text.length/\Ext h h') ((0:Int),(0:Int),()) u.text.length rfl
  ⟨0,rfl,rfl,rfl,ad,e02⟩ ?_
 rintro ⟨n1,n2,⟨⟩⟩ m g ⟨i,hi,hn,rfl,hle,eg⟩;simp only at hi hn;subst hi hn;refine an ?_;refine ak (fun q=>?_) (fun q=>?_)
 ·have q:=Ws q;have hil:i<u.text.length:=ad
  obtain ⟨aa,pp,ll,cc,rfl',hc,va⟩:=(v.text.ao eg).cells i hil;have ht:=yB u.text i hil;have hsl:eu (u.text.take i)<=i:=by have:=rc (u.text.take i); rw [WO] at this; omega
  generalize u.text[i]=x at hc va ht;refine ay ⟨ad,ad⟩ (av rfl' ?_);rw [show Int.toNat (i:Int)=i from ad];refine ax (x.kind,x.name,x.inst.op,x.inst.a,x.inst.b,x.inst.n,x.inst.form,(pp,ll,cc),(x.e.num:Int),x.n,()) hc ?_;refine an ?_;refine bq ?_;intro g1 c1 f1 y1;refine aw c1 rfl aj ?_;intro g2 c2 k2 y2;have c2:bC g2 g.size 64 (encI pp ll cc x):=c2;have f2:Ext g g2:=Ch.trans f1 k2 (fun i hi hl=>by simp at hi; omega);have eg2:=eg.trans f2;refine af c2 (x.kind,()) rfl ?_;refine an ?_;refine ak (fun r=>?_) (fun r=>?_)
  ·have r:x.kind=2:=by simpa using r
   rw [aE];refine af c2 (x.inst.op,()) rfl ?_;refine an ?_;refine aI (Dl (t.ao eg2 aj) x.inst.op va.op.1 va.op.2) ?_;rintro _ g3 ⟨rfl,f3⟩;refine ⟨(qu x.inst.op,()),rfl,?_⟩;refine an ?_;refine ak (fun s=>?_) (fun s=>?_)
   ·rw [WC (by unfold PJ; rw [WB r,s]; rfl)] at ht;refine aF (cs:=[(false,[.int .i64]),(false,[.int .i64])]) (((eu (u.text.take i)+1:Nat):Int),((i+1:Nat):Int),()) (u.text.length-(i+1)) rfl ad (by rw [wrap_i64 ad ad,wrap_i64 ad ad]; rfl) ?_;exact ⟨i+1,rfl,by rw [ht],rfl,ad,eg2.trans f3⟩
   ·rw [Ww (by unfold PJ; rw [WB r,s]; decide)] at ht;refine aF (cs:=[(false,[.int .i64]),(false,[.int .i64])]) ((eu (u.text.take i):Int),((i+1:Nat):Int),()) (u.text.length-(i+1)) rfl ad (by rw [wrap_i64 ad ad]; rfl) ?_;exact ⟨i+1,rfl,by rw [ht]; rfl,rfl,ad,eg2.trans f3⟩
  ·have r:¬ x.kind=2:=by simpa using r
   rw [Ww (by unfold PJ; rw [WE r]; simp)] at ht;refine aF (cs:=[(false,[.int .i64]),(false,[.int .i64])]) ((eu (u.text.take i):Int),((i+1:Nat):Int),()) (u.text.length-(i+1)) rfl ad (by rw [wrap_i64 ad ad]; rfl) ?_;exact ⟨i+1,rfl,by rw [ht]; rfl,rfl,ad,eg2⟩
 ·have q:=Wt q
  have:i=u.text.length:=ad
  subst this;rw [Xd];exact ⟨rfl,eg⟩
theorem FR {h:Hp} {a b c d:bY} {u:bP} (v:rm h a b c d u):HC Tryz.prog 68 #[AD a b c d] h fun w h'=>w=.int .i64 ((eu u.text:Nat):Int)/\Ext h h':=by
 refine aZ (args:=[AD a b c d]) mixed Tryz.func68 az (nq a.p a.l a.c b.p b.l b.c c.p c.l c.c d.p d.l d.c) ?_;unfold jy aX bh bm aH aU aM;refine bq ?_;intro h1 b1 e1 z1;have b1:bC h1 h.size 30 [a.v,b.v,c.v,d.v]:=b1;have n:=v.text.len;have m1:=v.text.many;refine aR (cs:=[(false,[.int .i64]),(false,[.int .i64])]) (fun y m h'=>∃ i:Nat,y.2.1=(i:Int)/\y.1=(eu (u.text.take i):Int)/\m=u.text.length-i/\i<=u.text.length/\Ext h h'/\bC h' h.size 30 [a.v,b.v,c.v,d.v]) ((0:Int),(0:Int),()) u.text.length rfl
  ⟨0,rfl,rfl,rfl,ad,e1,b1⟩ ?_
 rintro ⟨n1,n2,⟨⟩⟩ m g ⟨i,hi,hn,rfl,hle,eg,bg⟩;simp only at hi hn;subst hi hn;refine an ?_;refine af bg ((a.p,a.l,a.c),()) rfl ?_;refine an ?_;refine ak (fun q=>?_) (fun q=>?_)
 ·have q:=Ws q;have hil:i<u.text.length:=ad
  obtain ⟨aa,pp,ll,cc,rfl',hc,va⟩:=(v.text.ao eg).cells i hil;have ht:=yB u.text i hil;have hsl:eu (u.text.take i)<=i:=by have:=rc (u.text.take i); rw [WO] at this; omega
  generalize u.text[i]=x at hc va ht;refine af bg ((a.p,a.l,a.c),()) rfl ?_;refine an ?_;refine ay ⟨ad,ad⟩ (av rfl' ?_);rw [show Int.toNat (i:Int)=i from ad];refine ax (x.kind,()) ⟨hc.1,trivial⟩ ?_;refine an ?_;refine ak (fun r=>?_) (fun r=>?_)
  ·have r:x.kind=2:=by simpa using r
   refine af bg ((a.p,a.l,a.c),()) rfl ?_;refine an ?_;refine ay ⟨ad,ad⟩ (av rfl' ?_);refine ax (x.inst.op,()) ⟨by rw [add_add]; exact hc.2.2.1,trivial⟩ ?_;refine an ?_;refine aI (vY g x.inst.op va.op) ?_;rintro _ g3 ⟨rfl,f3⟩;refine ⟨(qu x.inst.op,()),rfl,?_⟩;refine an ?_;refine ak (fun s=>?_) (fun s=>?_)
   ·rw [WC (by unfold PJ; rw [WB r,s]; rfl)] at ht;refine aF (cs:=[(false,[.int .i64]),(false,[.int .i64])]) (((eu (u.text.take i)+1:Nat):Int),((i+1:Nat):Int),()) (u.text.length-(i+1)) rfl ad (by rw [wrap_i64 ad ad,wrap_i64 ad ad]; rfl) ?_;exact ⟨i+1,rfl,by rw [ht],rfl,ad,eg.trans f3,bg.ao f3 aj⟩
   ·rw [Ww (by unfold PJ; rw [WB r,s]; decide)] at ht;refine aF (cs:=[(false,[.int .i64]),(false,[.int .i64])]) ((eu (u.text.take i):Int),((i+1:Nat):Int),()) (u.text.length-(i+1)) rfl ad (by rw [wrap_i64 ad ad]; rfl) ?_;exact ⟨i+1,rfl,by rw [ht]; rfl,rfl,ad,eg.trans f3,bg.ao f3 aj⟩
  ·have r:¬ x.kind=2:=by simpa using r
   rw [Ww (by unfold PJ; rw [WE r]; simp)] at ht;refine aF (cs:=[(false,[.int .i64]),(false,[.int .i64])]) ((eu (u.text.take i):Int),((i+1:Nat):Int),()) (u.text.length-(i+1)) rfl ad (by rw [wrap_i64 ad ad]; rfl) ?_;exact ⟨i+1,rfl,by rw [ht]; rfl,rfl,ad,eg,bg⟩
 ·have q:=Wt q
  have:i=u.text.length:=ad
  subst this;rw [Xd];exact ⟨rfl,eg⟩
end Go.Sx.Ob
namespace Go.Sx.Lk
open Go.Proofs Go.Sx.Ob
variable {fs:List cD}
structure kw where
 s:bY
 ws:List (bY × cz)
def TA:kw:=⟨lW,[]⟩
structure lX (h:Hp) (b:Nat) (x:kw):Prop where
 out:SL h b 64 10 x.s.p x.s.l x.s.c (x.ws.map sH)
 eY:∀ u,u∈x.ws->SL h b 66 2 u.1.p u.1.l u.1.c (u.2.e.ai.map cX)
theorem lX.ao {h h':Hp} {b:Nat} {x:kw} {ws:List Nat} (s:lX h b x) (k:Ch ws h h') (h1:∀ i,i∈aK x.s.p->i∉ws) (h2:∀ u,u∈x.ws->∀ i,i∈aK u.1.p->i∉ws):lX h' b x :=
 ⟨s.out.bG k h1,fun u hu=>(s.eY u hu).bG k (h2 u hu)⟩
theorem lX.ext {h h':Hp} {b:Nat} {x:kw} (s:lX h b x) (k:Ext h h'):lX h' b x:=s.ao k aj aj
theorem lX.mono {h:Hp} {b b':Nat} {x:kw} (s:lX h b x) (hb:b'<=b):lX h b' x:=⟨s.out.mono hb,fun u hu=>(s.eY u hu).mono hb⟩
structure kE (h:Hp) (b N:Nat) (S:Nat->kw):Prop where
 sec:∀ k,k<N->lX h b (S k)
 ap:∀ k j,k<N->j<N->k≠j->∀ x,x∈aK (S k).s.p->x∉aK (S j).s.p
theorem kE.ext {h h':Hp} {b N:Nat} {S:Nat->kw} (s:kE h b N S) (k:Ext h h'):kE h' b N S:=⟨fun j hj=>(s.sec j hj).ext k,s.ap⟩
theorem kE.mi {h h':Hp} {b N:Nat} {S:Nat->kw} {ws:List Nat} (s:kE h b N S) (k:Ch ws h h') (hw:∀ i,i∈ws->i<b):kE h' b N S :=
 ⟨fun j hj=>(s.sec j hj).ao k (fun i hi hm=>by have:=((s.sec j hj).out.cd hi).1; have:=hw i hm; omega) (fun u hu i hi hm=>by have:=(((s.sec j hj).eY u hu).cd hi).1; have:=hw i hm; omega),s.ap⟩
theorem kE.qJ {h h':Hp} {b N:Nat} {S:Nat->kw} {b2:Nat} {e:TypeId} {sz:Nat} {p:Option YC} {l c:Nat} {xs:List (List YB)} (s:kE h b N S) (t:SL h b2 e sz p l c xs) (k:Ch (aK p) h h') (h1:e≠64) (h2:e≠66):kE h' b N S :=
 ⟨fun j hj=>(s.sec j hj).ao k (fun i hi hm=>uF t (s.sec j hj).out h1 i hm hi) (fun u hu i hi hm=>uF t ((s.sec j hj).eY u hu) h2 i hm hi),s.ap⟩
def kr (S:Nat->kw) (k:Nat) (x:kw):Nat->kw:=fun j=>if j=k then x else S j
theorem kE.nil (h:Hp) (b:Nat) (S:Nat->kw):kE h b 0 S:=⟨fun k hk=>absurd hk ad,fun k j hk=>absurd hk ad⟩
theorem kE.add {h h':Hp} {b N:Nat} {S:Nat->kw} (s:kE h b N S) (e:Ext h h') (hb:b<=h.size) {x:kw} (hx:lX h' h.size x):kE h' b (N+1) (kr S N x):=by
 have s':=s.ext e;refine ⟨fun k hk=>?_,fun k j hk hj hkj y hy hy2=>?_⟩
 ·unfold kr
  by_cases hkN:k=N
  ·rw [WC hkN]; exact hx.mono hb
  ·rw [Ww hkN]; exact s'.sec k ad
 ·unfold kr at hy hy2
  by_cases hkN:k=N <;> by_cases hjN:j=N
  ·omega
  ·rw [WC hkN] at hy;rw [Ww hjN] at hy2;have h1:=(hx.out.cd hy).1;have h2:=((s.sec j ad).out.cd hy2).2;omega
  ·rw [Ww hkN] at hy;rw [WC hjN] at hy2;have h1:=(hx.out.cd hy2).1;have h2:=((s.sec k ad).out.cd hy).2;omega
  ·rw [Ww hkN] at hy;rw [Ww hjN] at hy2;exact s.ap k j ad ad hkj y hy hy2
theorem kE.put {h h':Hp} {b N:Nat} {S:Nat->kw} (s:kE h b N S) {k:Nat} (hk:k<N) {i:Nat} (hi:i<(S k).ws.length) {q:bY × cz} (hq:SL h b 66 2 q.1.p q.1.l q.1.c (q.2.e.ai.map cX))
  (ho:SL h' b 64 10 (S k).s.p (S k).s.l (S k).s.c (((S k).ws.set i q).map sH)) (c:Ch (aK (S k).s.p) h h'):kE h' b N (kr S k ⟨(S k).s,(S k).ws.set i q⟩):=by
 have hnt:∀ {p:Option YC} {l c:Nat} {ts:cZ},SL h b 66 2 p l c (ts.map cX)->SL h' b 66 2 p l c (ts.map cX):=fun t=>t.bG c (fun x hx hm=>uF t (s.sec k hk).out cg x hx hm)
 refine ⟨fun j hj=>?_,fun j m hj hm hjm y hy hy2=>?_⟩
 ·unfold kr
  by_cases hjk:j=k
  ·rw [WC hjk];refine ⟨ho,fun u hu=>?_⟩;rcases XC hu with hu | rfl
   ·exact hnt ((s.sec k hk).eY u hu)
   ·exact hnt hq
  ·rw [Ww hjk];exact ⟨(s.sec j hj).out.bG c (fun x hx hm=>s.ap j k hj hk hjk x hx hm),fun u hu=>hnt ((s.sec j hj).eY u hu)⟩
 ·have e1:∀ j,(kr S k ⟨(S k).s,(S k).ws.set i q⟩ j).s=(S j).s:=by
   intro j;unfold kr
   by_cases hjk:j=k
   ·rw [WC hjk,hjk]
   ·rw [Ww hjk]
  rw [e1] at hy hy2;exact s.ap j m hj hm hjm y hy hy2
def xe (S:Nat->kw) (n:Nat):List YB:=[(S (2*n)).s.v,(S (2*n+1)).s.v,lW.v,lW.v]
def mf (S:Nat->kw) (n:Nat):List (List YB):=(List.range n).map (xe S)
theorem G8 (S:Nat->kw) (n:Nat) (a b:kw):mf (kr (kr S (2*n) a) (2*n+1) b) (n+1)=mf S n++[[a.s.v,b.s.v,lW.v,lW.v]]:=by
 unfold mf;rw [List.range_succ,WG]
 congr 1
 ·apply Xl;intro i hi;have hi:i<n:=X6.1 hi;unfold xe kr;rw [Ww ad,Ww ad,Ww ad,Ww ad]
 ·show [xe _ n]=_;unfold xe kr;rw [Ww ad,WC rfl,WC rfl]
theorem gI (S:Nat->kw) (n:Nat):(mf S n).length=n:=by unfold mf; simp
theorem Bo (S:Nat->kw) (n i:Nat) (hi:i<(mf S n).length):(mf S n)[i]=xe S i:=by
 have:i<n:=by simpa [gI] using hi
 show ((List.range n).map (xe S))[i]'(by simpa using this)=_;rw [Wy,List.getElem_range]
def eN (D:List (YA × bZ)):List cD:=D.map fun q=>⟨q.1,none,0,0,q.2⟩
def fc (e:cD):YA × bZ:=(e.name,e.x)
theorem oG (D:List (YA × bZ)):(eN D).map fc=D:=by
 unfold eN;rw [WT];exact List.map_id _
theorem Jp {es:List cD} (h:es.map fc=fs.map fc):aT es=aT fs:=by
 have:=WJ (List.map (·.1)) h
 rw [WT,WT] at this;exact this
theorem Hm {es:List cD} (h:es.map fc=fs.map fc) (s:YA):jP es s=jP fs s:=by
 unfold jP;have hf:∀ l:List cD,l.findIdx? (fun e=>decide (e.name=s))=(l.map fc).findIdx? fun q=>decide (q.1=s):=by
  intro l;rw [Yj] <;> rfl
 rw [hf,hf,h]
theorem Cs {es:List cD} (h:es.map fc=fs.map fc):cm es=cm fs:=by
 funext s
 unfold cm;rw [Hm h]
theorem BY {es:List cD} (h:es.map fc=fs.map fc):db es=db fs:=by
 funext s
 unfold db;rw [Hm h];cases jP fs s with
 | none=>rfl
 | some k =>
  have hx:es[k]?.map (·.x)=fs[k]?.map (·.x):=by
   have h1:(es.map fc)[k]?=(fs.map fc)[k]?:=by rw [h]
   rw [Xc,Xc] at h1;have h2:=WJ (Option.map (·.2)) h1;rw [Option.map_map,Option.map_map] at h2;exact h2
  show (es[k]?.map (·.x)).getD tI=(fs[k]?.map (·.x)).getD tI;rw [hx]
theorem Hf {es:List cD} (h:es.map fc=fs.map fc):eM es=eM fs:=by
 funext s
 unfold eM;rw [Cs h,BY h,Jp h]
theorem zo {es:List cD} (h:es.map fc=fs.map fc):df es=df fs:=by
 unfold df;rw [Cs h,BY h]
def lU (D:List (YA × bZ)):List (YA × bZ):=D.map fun q=>(q.1,eM (eN D) q.1)
def ue (D:List (YA × bZ)) (x:bZ):bZ:=cY (cj (eN D)) x
theorem DD {es:List cD} (h:es.map fc=fs.map fc):cj es=cj fs:=by
 funext s
 unfold cj;rw [Cs h,BY h]
def dZ:Nat->List bP->List (Nat × qi)
 | _,[]=>[]
 | n,u::us=>u.bf.map (fun e=>(n,e))++dZ (n+1) us
theorem qV (u:bP):∀ (l:List bP) (n:Nat),dZ n (l++[u])=dZ n l++u.bf.map fun e=>(n+l.length,e)
 | [],n=>by simp [dZ]
 | y::l,n=>by
  simp only [List.cons_append,dZ,List.length_cons];rw [qV u l (n+1),show n+1+l.length=n+(l.length+1) from ad,WU]
def uS (w:LW) (us:List bP):List (YA × bZ):=(dZ 0 us).map fun q=>(w.word (q.1,q.2.1),w.lin q.1 q.2.2)
def rb (w:LW) (n:Nat) (u:bP):Option YA:=(w.xN n u.text).or ((w.xN n u.data).or (u.bf.findSome? fun e=>w.bad n e.2))
def fJ (w:LW):Nat->List bP->Option (Nat × YA)
 | _,[]=>none
 | n,u::us=>match rb w n u with
  | some s=>some (n,s)
  | none=>fJ w (n+1) us
theorem yU (w:LW) (us:List bP) (n:Nat) (hn:n<us.length):fJ w n (us.drop n)=match rb w n us[n] with
  | some s=>some (n,s)
  | none=>fJ w (n+1) (us.drop (n+1)):=by
 rw [WK hn,fJ]
noncomputable def mE (D:List (YA × bZ)):Option Nat:=by
 classical
 exact D.findIdx? fun q=>decide (jS (df (eN D)) q.1)
structure Fl where
 pX:Nat
 unit:Nat
 name:YA
structure LP where
 w:LW
 us:List bP
 D:List (YA × bZ)
def LP.fj (P:LP) (n:Nat) (x:cz):cz:={ x with e:=ue (lU P.D) (P.w.lin n x.e) }
noncomputable def kJ (us:List bP):Except Fl LP :=
 if us.length=0 then .error ⟨25,0,du⟩
 else if 64<us.length then .error ⟨4,0,du⟩
 else match us.findIdx? fun u=>decide (eG u≠0) with
 | some n=>.error ⟨31,n,du⟩
 | none=>match jZ 0 us (mw 0 us Q4) with
  | .error q=>.error ⟨22,q.1,q.2⟩
  | .ok w=>match fJ w 0 us with
   | some q=>.error ⟨23,q.1,q.2⟩
   | none=>match mE (uS w us) with
    | some i=>.error ⟨24,((dZ 0 us).map fun q=>(q.1,q.2.1)).getD i (0,du) |>.1,((dZ 0 us).map fun q=>(q.1,q.2.1)).getD i (0,du) |>.2⟩
    | none=>.ok ⟨w,us,uS w us⟩
def cF (u:bP):List bZ:=u.text.map (·.e)++u.data.map (·.e)++u.bf.map (·.2)
theorem Fz {x:bZ} (h:N3 x=true):Good x:=by
 unfold N3 at h;simp only [Bool.and_eq_true,decide_eq_true_eq] at h;obtain ⟨t,n⟩:=x;obtain ⟨rfl,rfl⟩:=h;exact ⟨⟨List.Pairwise.nil,aj⟩,aj,cg⟩
theorem EY {x:cz} {k:Nat} (h:ct x k=true) (hc:∀ t,t∈x.e.ai->t.2<4294967296) (hn:x.e.num<4294967296):Good x.e:=by
 have z:z3 x=true->Good x.e:=Fz;unfold ct at h
 repeat' split at h
 all_goals try simp only [Bool.and_eq_true] at h
 ·exact z h.1.2
 ·have h1:=h.1.1.2;unfold yJ at h1;simp only [Bool.and_eq_true] at h1;have h2:=h1.2;split at h2
  ·simp only [Bool.and_eq_true] at h2;exact BW h2.2 hc hn
  ·simp only [Bool.and_eq_true] at h2;exact Fz h2.2
 ·exact z h.2
 ·exact z h.1.2
 ·exact z h.2
 ·exact BW h.1.1.1.2 hc hn
 ·exact z h.2
 ·cases h
theorem qP {sec:Nat}:∀ {l:List cz} {D:List YA},eD sec D l=true->∀ x,x∈l->ct x sec=true
 | [],_,_,x,hx=>by simp at hx
 | y::l,D,h,x,hx=>by
  unfold eD at h;rw [Xt] at h;rcases WY.1 hx with rfl | hx
  ·have:=h.1
   unfold xx at this;rw [Xt] at this;exact this.1
  ·exact qP h.2 x hx
theorem tN:∀ {l:List qi} {D:List YA},fV D l=true->∀ e,e∈l->cP e.1.data.toList=true/\mZ none e.2.ai=true
 | [],_,_,x,hx=>by simp at hx
 | y::l,D,h,x,hx=>by
  unfold fV at h;rw [Xt] at h;rcases WY.1 hx with rfl | hx
  ·have:=h.1
   unfold Bh at this;simp only [Bool.and_eq_true] at this;exact ⟨this.1.2,this.2⟩
  ·exact tN h.2 x hx
theorem zH {u:bP} (h:eG u=0) (hc:∀ x,x∈cF u->x.num<4294967296/\∀ t,t∈x.ai->t.2<4294967296):∀ x,x∈cF u->Good x:=by
 have h1:=(zZ h).2;unfold uH at h1;simp only [Bool.and_eq_true] at h1;obtain ⟨⟨⟨h1,h2⟩,h3⟩,h4⟩:=h1;intro x hx;have hcx:=hc x hx;unfold cF at hx;rcases WV.1 hx with hx | hx
 ·rcases WV.1 hx with hx | hx
  ·obtain ⟨y,hy,rfl⟩:=Wz.1 hx;exact EY (qP h1 y hy) hcx.2 hcx.1
  ·obtain ⟨y,hy,rfl⟩:=Wz.1 hx;exact EY (qP h2 y hy) hcx.2 hcx.1
 ·obtain ⟨y,hy,rfl⟩:=Wz.1 hx;exact BW (tN h3 y hy).2 hcx.2 hcx.1
structure Ho (us:List bP):Prop where
 many:us.length<=2^20
 items:um us<=2^20
 num:∀ u,u∈us->∀ x,x∈cF u->x.num<4294967296/\∀ t,t∈x.ai->t.2<4294967296
 ai:((us.flatMap cF).flatMap (·.ai)).length<=2^20
theorem Ho.len {us:List bP} (s:Ho us) {u:bP} (hu:u∈us) {x:bZ} (hx:x∈cF u):x.ai.length<=2^20:=by
 have h1:x∈us.flatMap cF:=List.mem_flatMap.2 ⟨u,hu,hx⟩;exact Xw (gF (·.ai) h1) s.ai
def GH (of:YA->Option bZ) (t:YA × Nat):bZ:=match of t.1 with
 | none=>⟨[t],0⟩
 | some y=>C7 y t.2
def fB (of:YA->Option bZ) (o:bZ) (t:YA × Nat):bZ:=vX o (GH of t)
theorem H3 (l:cZ) {m k:cZ} (hk:Nf k) (hc:∀ s,cf k s % 4294967296=cf m s % 4294967296):Ja (Dc l) k=Dc (l++m) :=
 (Oz (zB l) hk).Qb (zB _) fun s=>by
  have h1:=hc s;have h2:=OG (Dc l) k s;have h3:=yM l s;have h4:=yM (l++m) s;rw [JV] at h4;omega
theorem BI {of:YA->Option bZ} (hof:∀ s y,of s=some y->Nf y.ai):∀ (ts l:cZ) (n:Nat),n<4294967296->(∀ t,t∈ts->t.2≠0/\t.2<4294967296) ->
  ts.foldl (fB of) ⟨Dc l,n⟩=⟨Dc (l++ts.flatMap (qS of)),ts.foldl (fS of) n⟩
 | [],l,n,_,_=>aj
 | t::ts,l,n,hn,ht=>by
  have h1:fB of ⟨Dc l,n⟩ t=⟨Dc (l++qS of t),fS of n t⟩/\fS of n t<4294967296:=by
   have ht0:=ht t aj;unfold fB GH qS fS vX;cases ho:of t.1 with
   | none =>
    refine ⟨?_,hn⟩;simp only [Nat.add_zero];rw [X4 hn]
    congr 1
    exact H3 l ⟨aj,by simpa using ht0⟩ fun s=>rfl
   | some y =>
    refine ⟨?_,Yx _ cg⟩;unfold C7;simp only;rw [Yu y.num t.2]
    congr 1
    refine H3 l (I8 (hof _ _ ho)) fun s=>?_
    rw [IM]
    have:=Cv t.2 y.ai s
    rw [<- this]
    congr 2
    exact Xl fun p _=>by rw [Yu]
  rw [Xk,h1.1,BI hof ts _ _ h1.2 (fun u hu=>ht u (WN _ hu)),WU,Xj,Xk]
theorem UL:Dc []=[]:=D9 Nf.nil
theorem Ck {of:YA->Option bZ} (hof:∀ s y,of s=some y->Nf y.ai) {x:bZ} (hx:Nf x.ai) (hn:x.num<4294967296):x.ai.foldl (fB of) ⟨[],x.num⟩=cY of x:=by
 have:=BI hof x.ai [] x.num hn hx.2
 rw [X1,UL] at this;exact this
theorem Bl {of:YA->Option bZ} (hof:∀ s y,of s=some y->Nf y.ai) {x:bZ} (hx:Nf x.ai) (hn:x.num<4294967296) (i:Nat):(x.ai.take i).foldl (fB of) ⟨[],x.num⟩=cY of ⟨x.ai.take i,x.num⟩ :=
 Ck (x:=⟨x.ai.take i,x.num⟩) hof ⟨hx.1.sublist (List.take_sublist _ _),fun t ht=>hx.2 t (Xx ht)⟩ hn
theorem zR {of:YA->Option bZ} {x:bZ} {t:YA × Nat} (ht:t∈(cY of x).ai):∃ u,u∈x.ai/\((of u.1=none/\t.1=u.1)\/∃ y w,of u.1=some y/\w∈y.ai/\w.1=t.1):=by
 obtain ⟨p,hp,hpe⟩:=C9 ht;obtain ⟨u,hu,hpu⟩:=List.mem_flatMap.1 hp;refine ⟨u,hu,?_⟩;unfold qS at hpu;cases ho:of u.1 with
 | none =>
  rw [ho] at hpu;simp only [List.mem_singleton] at hpu;exact Or.inl ⟨rfl,by rw [<- hpe,hpu]⟩
 | some y =>
  rw [ho] at hpu;obtain ⟨w,hw,rfl⟩:=Wz.1 hpu;exact Or.inr ⟨y,w,rfl,hw,hpe⟩
theorem zN {l:cZ} (h:Nf l) {S:List YA} (hs:∀ t,t∈l->t.1∈S):l.length<=S.length:=by
 have:=lz (l.map (·.1)) S (Xp.2 (h.1.imp fun h=>jU h)) (fun s hs'=>by
  obtain ⟨t,ht,rfl⟩:=Wz.1 hs';exact hs t ht)
 rwa [Wr] at this
def Ha:Option Nat->Int
 | none=>-1
 | some k=>(k:Int)
theorem Su {es:List cD} {s:YA} {i:Nat} (hi:i<es.length) (h:∀ j,(hj:j<i)->(es[j]'ad).name≠s) (he:es[i].name=s):jP es s=some i:=by
 unfold jP;rw [WR];exact ⟨hi,WB he,fun j hj=>by simpa using h j hj⟩
theorem Fa {h:Hp} {p:Option YC} {l c:Nat} {es:List cD} (v:tu h p l es) (hl:es.length<=2^60) (s:YA):vC Tryz.prog 115 [.slice p l c,.string s] h (.int .i64 (Ha (jP es s))):=by
 refine ee mixed Tryz.func115 az (nH p l c s) ?_;unfold jt aX bh bm aH aM;have n:=v.len;refine aR (cs:=[(false,[.int .i64]),(false,[.int .i64])]) (fun y m h'=>∃ i:Nat,y.2.1=(i:Int)/\m=es.length-i/\i<=es.length/\h'=h/\∀ j,j<i->(hj:j<es.length)->es[j].name≠s) ((0:Int),(0:Int),()) es.length rfl
  ⟨0,rfl,rfl,ad,rfl,fun j hj=>absurd hj ad⟩ ?_
 rintro ⟨n2,n3,⟨⟩⟩ m h' ⟨i,hi,rfl,hle,rfl,hn⟩;simp only at hi;subst hi;refine an ?_;refine ak (fun q=>?_) (fun q=>?_)
 ·have q:=Ws q;have hil:i<es.length:=ad
  obtain ⟨a,ha,hc⟩:=v.cells i hil;refine ay ⟨ad,ad⟩ (av ha ?_);rw [show Int.toNat (i:Int)=i from ad];refine ax (es[i].name,()) ⟨hc.1,trivial⟩ ?_;refine an ?_;rw [ow];refine ak (fun r=>?_) (fun r=>?_)
  ·have r:=Ws r;refine ⟨WJ (Value.int .i64) ?_,rfl⟩;rw [Su hil (fun j hj=>hn j hj ad) r] <;> rfl
  ·have r:=Wt r;refine aF (cs:=[(false,[.int .i64]),(false,[.int .i64])]) (n2,((i+1:Nat):Int),()) (es.length-(i+1)) rfl ad (by rw [wrap_i64 ad ad]; rfl) ?_;exact ⟨i+1,rfl,rfl,ad,rfl,fun j hj hx=>by
    by_cases e:j=i
    ·subst e; exact r
    ·exact hn j ad hx⟩
 ·have q:=Wt q
  have:i=es.length:=ad
  subst this;refine ⟨WJ (Value.int .i64) ?_,rfl⟩;rw [Ea fun d hd=>by
   obtain ⟨j,hj,rfl⟩:=WS hd;exact hn j hj hj]
  rfl
end Go.Sx.Lk
