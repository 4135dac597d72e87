/- Contracts over heaps, part 3. Condition: as each statement says. -/
import Derived.Test.YthbffkdafjboiaaGreatDoorP2
import Derived.Test.YthbffkdafjboiaaGreatDoorSxK
import Derived.Test.YthbffkdafjboiaaGreatDoorBtF
set_option linter.all false
set_option maxRecDepth 100000
set_option maxHeartbeats 4000000
namespace Go.Sx
open Go.Proofs
variable {mT:Xaa->TS->TS}
def pu.rest {names:List Xaa} (d:∀ w st,pu names st->w∈names->pu names (mT w st)) {v w:Xaa} {st:TS} (hi:pu names st) (hw:w∈names):pu names (tE mT v w st):=by
 unfold tE;split
 ·exact d w st hi hw
 ·split <;> exact hi
def pu.step {names:List Xaa} {own:Xaa->Bool} (hown:∀ s,own s=true->s∈names) (d:∀ w st,pu names st->w∈names->pu names (mT w st)) {v w:Xaa} {st:TS} (hi:pu names st):pu names (eG own mT v st w):=by
 unfold eG;split
 ·rename_i j;refine pu.rest d ?_ (hown w j);intro s hs;rw [(iv v w st).1] at hs;exact hi s hs
 ·exact hi
theorem pu.fold {names:List Xaa} {own:Xaa->Bool} (hown:∀ s,own s=true->s∈names) (d:∀ w st,pu names st->w∈names->pu names (mT w st)) {v:Xaa}:∀ (l:List Xaa) (st:TS),pu names st->pu names (l.foldl (eG own mT v) st)
 | [],st,hi=>hi
 | w::l,st,hi=>by
  rw [Y6];exact pu.fold hown d l _ (pu.step hown d hi)
def pu.open {names:List Xaa} {st:TS} (hi:pu names st) {v:Xaa} (hv:v∈names):pu names (eH v st):=by
 intro s hs;have hs:dH st.num v (st.jH+1) s≠none:=hs
 by_cases e:s=v
 ·rw [e]; exact hv
 ·rw [cg _ _ e] at hs;exact hi s hs
theorem pu.visit {names:List Xaa} {own:Xaa->Bool} (hown:∀ s,own s=true->s∈names) (succ:Xaa->List Xaa):∀ (f:Nat) (v:Xaa) (st:TS),pu names st->v∈names->pu names (cP own succ f v st)
 | 0,v,st,hi,hv=>hi
 | f+1,v,st,hi,hv=>by
  have h:=pu.fold hown (fun w st hi hw=>pu.visit hown succ f w st hi hw) (v:=v) (succ v) _ (hi.open hv);unfold cP;split
  ·exact h
  ·intro s hs;rw [oo] at hs;exact h s hs
def SL.GS {h:Hp} {b:Nat} {e:TypeId} {sz:Nat} {p:Xac} {l c:Nat} {xs:List (List Xab)} (s:SL h b e sz p l c xs):l<=c:=by
 cases p with
 | none =>
  obtain ⟨h1,h2⟩:=s.2.2;rw [s.1,h1,h2]; simp
 | some a =>
  obtain ⟨g,u,rest,rfl,F,d,j,G⟩:=s.2.2;exact d.1
section
variable {L:Lp} {K:Xab->Hp->Prop} {h:Hp} {r:TF} {st:TS} {p:Xac} {l c:Nat} {es:List cL} {p0:Xac} {l0 c0:Nat}
def nt.Vx (m:nt r h st p l c) (o:r.ord) {p':Xac} {l' c':Nat} {h1:Hp} {way':List Xaa} (d:Ch (aR p) h h1) (s1:SL h1 (r.V+1) 9 1 p' l' c' (way'.map W2)) (G:∀ i,i∈aR p'->i∈aR p\/h.size<=i) {k:T}
  (hk:∀ h',nt r h' { st with cZ:=way' } p' l' c'->qu r p h p' h'->k L K h'):T.aC (bx r.W) [.slice p' l' c'] k L K h1:=by
 have o':=o;unfold TF.ord at o;obtain ⟨J,mL⟩:=m.mL;obtain ⟨O,mO⟩:=m.mO;obtain ⟨U,mB⟩:=m.mB;have u:∀ g,g<=r.V->g∉aR p:=fun g X hi=>by have:=m.Pa hi; omega
 refine aw (m.bW.an d (u _ ad)) rfl aj ?_;intro h2 F j z2;have F:bI h2 r.W 45 [.slice p' l' c']:=F;refine hk h2 ⟨(m.mN.an d (u _ ad)).an j (by simp; omega),⟨J,(mL.an d (u _ ad)).an j (by simp; omega)⟩,⟨O,(mO.an d (u _ ad)).an j (by simp; omega)⟩,⟨U,(mB.an d (u _ ad)).an j (by simp; omega)⟩,F,s1.bP j (fun i hi=>by have:=(s1.cv hi).1; simp; omega)⟩
  ⟨Ch.trans (d.mono fun i hi _=>by rw [pR]; simp [hi]) j (fun i hi hl=>by simp at hi; rw [pR]; simp [hi]),G⟩
def nt.WX (m:nt r h st p l c) (o:r.ord) (O:r.V<h.size) (hl:l<=2^40) {v:Xaa} {k:T} (hk:∀ h' p' c',nt r h' { st with cZ:=st.cZ++[v] } p' (l+1) c'->qu r p h p' h'->k L K h') :
  T.ek Tryz.prog (Instr.buildSlice 45 1 #[(0,.string v)]) false [(false,[.slice 0])] (fun q m' cc=>T.ek Tryz.prog (Builtin.append_ #[45,45] 45 #[.slice p l c,.slice q m' cc]) false [(false,[.slice 0])] (fun d j u=>T.aC (bx r.W) [.slice d j u] k)) L K h:=by
 refine mV (vs:=W2 v) WJ WK rfl ad ad az rfl rfl m.w ad ad ad ?_;intro p' c' h1 s1 F G;refine m.Vx o F (way':=st.cZ++[v]) (by simpa using s1) (fun i hi=>?_) (fun h' m' s'=>hk h' p' c' m' s');rcases G with rfl | ⟨a,rfl,J⟩
 ·exact .inl hi
 ·simp [aR] at hi; subst hi; exact .inr J
def VY (aO aB V:Xax) (G:Xac) (J X:Nat) (d:Int):T :=
  T.loop [aP] [.int .i64 (0:Int)] <| fun (j:Int) =>
  cond (decide (j<((((Int.toNat (J:Int))-(Int.toNat d)):Nat):Int)))
  (T.need (((0:Int)<=j)/\(j<((((Int.toNat (J:Int))-(Int.toNat d)):Nat):Int))) <|
  T.bi (if (X=(Int.toNat d)) then G else (Option.map (fun a=>Addr.add a (aK d 1)) G)) <| fun (Y:Xax) =>
  T.ah (Y.add (aK j 1)) [.string] <| fun (u:Xaa) =>
  T.ah aO [.map 9 4] <| fun (Z:Option Nat) =>
  T.ey Tryz.prog (Instr.mapUpdate 58 (.map Z) (.string u) (.bool false)) <|
  T.ah aB [.map 9 4] <| fun (O:Option Nat) =>
  T.ah aB [.map 9 4] <| fun (r43:Option Nat) =>
  bU (Instr.lookup 58 (.map r43) (.string u) false) false [bR] <| fun (b44:Bool) =>
  cond b44
   (T.ey Tryz.prog (Instr.mapUpdate 58 (.map O) (.string u) (.bool true)) <|
   T.again 1 [.int .i64 (bm (j+(1:Int)))])
   (T.ah V [.slice 9] <| fun (p45:Xac) (l46:Nat) (l47:Nat) =>
   T.ey Tryz.prog (Instr.mapUpdate 58 (.map O) (.string u) (.bool (decide ((bm ((l46:Int)-d))>(1:Int))))) <|
   T.again 1 [.int .i64 (bm (j+(1:Int)))]))
  (T.ah V [.slice 9] <| fun (U:Xac) (l40:Nat) (F:Nat) =>
  T.need (((0:Int)<=(0:Int))/\(((0:Int)<=d)/\(d<=(F:Int)))) <|
  T.aC V [.slice (if (F=0) then U else (Option.map (fun a=>Addr.add a 0) U)) ((Int.toNat d)-0) (F-0)] <|
  bn #[])
def Ug {lv:List Xab->Hp->Prop} (Y:JJ r es p0) (hs:∀ s,s∈bd es->s.size<=maxLen) (m:nt r h st p l c) (co:PD r h es p0 l0 c0) (hi:pu (bd es) st) (g:dF (bd es) st) (hl:l<=2^40) {v:Xaa} (hk0:rE v st<=st.cZ.length)
  (hk:∀ h' p' l' c',nt r h' (rk v st) p' l' c'->qu r p h p' h'->K (.tuple #[]) h'):VY (bx r.O) (bx r.B) (bx r.W) p l c ((rE v st:Nat):Int) [lv] K h:=by
 unfold VY aK bU bm bn aP bR;have hlen:l=st.cZ.length:=by rw [m.w.1,Yu]
 have hcap:=m.w.GS;rw [show Int.toNat ((rE v st:Nat):Int)=rE v st from ad,show Int.toNat (l:Int)=l from ad];generalize hkk:rE v st=k at *;have hbig:decide (1<st.cZ.length-rE v st)=decide (1<l-k):=by rw [hkk,hlen]
 unfold rk at hk;rw [hbig,hkk] at hk;refine aS (cs:=[(false,[.int .i64])]) (fun x w h'=>∃ i:Nat,x.1=(i:Int)/\i<=l-k/\w=l-k-i/\nt r h' (((st.cZ.drop k).take i).foldl (pL (decide (1<l-k))) st) p l c/\qu r p h p h') ((0:Int),()) (l-k) rfl ⟨0,rfl,ad,ad,by simpa using m,qu.refl _ _ _⟩ ?_;rintro ⟨n38,⟨⟩⟩ w h2 ⟨i,hi0,hile,rfl,u,s2⟩;simp only at hi0;subst hi0;refine ak ?_;have co2:=s2.co Y m co;have F:∀ (w:List Xaa) (st:TS),(w.foldl (pL (decide (1<l-k))) st).cZ=st.cZ:=by
  intro w
  induction w with
  | nil=>intro st; rfl
  | cons x w ih=>intro st; rw [Y6,ih]; rfl
 refine aM (fun g1=>?_) (fun g1=>?_)
 ·have G:k+i<st.cZ.length:=ad
  refine ax ⟨ad,ad⟩ ?_;rw [Yx ad];have d:=u.w;rw [F] at d;obtain ⟨a,rfl,hc⟩:=d.cells (i:=k+i) (by simpa using G);rw [YE] at hc;refine av rfl ?_;rw [show Int.toNat (i:Int)=i from ad,add_add,<- ZA];have J:st.cZ[k+i]∈bd es:=hi _ (g.fq _ (YD G));have j:(st.cZ.drop k).take (i+1)=(st.cZ.drop k).take i++[st.cZ[k+i]]:=by
   rw [Yw (by rw [Zl]; omega),List.getElem_drop]
  generalize st.cZ[k+i]=x at hc J j;refine ay (x,()) hc (ak ?_);have V:=hs x J;generalize hst2:((st.cZ.drop k).take i).foldl (pL (decide (1<l-k))) st=X at u;have U:((st.cZ.drop k).take (i+1)).foldl (pL (decide (1<l-k))) st=pL (decide (1<l-k)) X x:=by rw [j,Zk,hst2]; rfl
  refine af co2.bO (some r.gO,()) rfl (ak ?_);refine u.VI Y.ord V ?_;intro h3 m3 s3 z3;have co3:=s3.co Y u co2;refine af co3.bB (some r.gB,()) rfl (ak ?_);refine af co3.bB (some r.gB,()) rfl (ak ?_);refine m3.eD x ?_;have hw:=gu i;refine ar (fun g2=>?_) (fun g2=>?_)
  ·have g2:(X.back x).getD false=true:=g2;refine m3.UY Y.ord V ?_;intro h4 Z s4 z4;refine aG (cs:=[(false,[.int .i64])]) (((i+1:Nat):Int),()) (l-k-(i+1)) rfl ad (YJ (fun z=>[Value.int .i64 z]) hw) ⟨i+1,rfl,ad,rfl,?_,(s2.trans s3).trans s4⟩;rw [U];unfold pL;rw [g2];exact Z
  ·have g2:(X.back x).getD false=false:=g2;refine af m3.bW ((_,_,_),()) rfl (ak ?_);refine m3.UY Y.ord V ?_;intro h4 Z s4 z4;refine aG (cs:=[(false,[.int .i64])]) (((i+1:Nat):Int),()) (l-k-(i+1)) rfl ad (YJ (fun z=>[Value.int .i64 z]) hw) ⟨i+1,rfl,ad,rfl,?_,(s2.trans s3).trans s4⟩;rw [U];unfold pL;rw [g2,ad9];have e:decide ((IntKind.wrap .i64 ((l:Int)-(k:Int)))>(1:Int))=decide (1<l-k):=by
    rw [wrap_i64 ad ad];exact bn9.2 ad
   rw [e] at Z;exact Z
 ·have hii:i=l-k:=ad
  subst hii;have j:(st.cZ.drop k).take (l-k)=st.cZ.drop k:=YW (by rw [Zl]; omega);rw [j] at u;have hpp:(if c=0 then p else (Option.map (fun a=>Addr.add a 0) p))=p:=by
   split
   ·rfl
   ·cases p with
    | none=>rfl
    | some a=>simp only [Option.map_some,add_zero']
  refine af u.bW ((p,l,c),()) rfl (ak ?_);refine ax ⟨ad,ad,ad⟩ ?_;rw [hpp,ay9,ay9];have d:=u.w;rw [F] at d;have hsk:=d.take (k:=k) ad;rw [<- List.map_take] at hsk;refine u.Vx Y.ord (Ch.refl _ _) hsk (fun i hi=>.inl hi) ?_;intro h4 Z s4;exact hk h4 p k c Z (s2.trans s4)
end
structure EqsOk (es:List cL):Prop where
 nodup:(bd es).Nodup
 len:es.length<=2^40
 sz:∀ e,e∈es->e.name.size<=maxLen
 tl:∀ e,e∈es->e.x.ai.length<=2^40
 ts:∀ e,e∈es->∀ t,t∈e.x.ai->t.1.size<=maxLen
def EqsOk.names {es:List cL} (o:EqsOk es):∀ s,s∈bd es->s.size<=maxLen:=by
 intro s hs;obtain ⟨e,d,rfl⟩:=YF.1 hs;exact o.sz e d
section
variable {r:TF} {es:List cL} {p0:Xac} {l0 c0:Nat}
def Mb (eo:EqsOk es) (X:JJ r es p0):∀ f,Jv es r p0 l0 c0 f:=by
 intro f;have hown:∀ s,cz es s=true->s∈bd es:=fun s=>(eh es s).1
 have hs:=eo.names;have hnl:(bd es).length=es.length:=by unfold bd; rw [Yu]
 induction f with
 | zero =>
  intro v st h p l c m co g hv h0 hu hi
  have:=(g.open eo.nodup hv h0).2
  omega
 | succ f ih =>
  intro v st h p l c m co g hv h0 hu hi;have o:=X.ord;have o':=o;unfold TF.ord at o';have hlen:=eo.len;refine aY (args:=.string v::r.tU) mixed Tryz.func90 az (nU v (bx r.N) (bx r.L) (bx r.W) (bx r.O) (bx r.E) (bx r.A) (bx r.B) (bx r.V)) ?_;unfold ju bf bg bz aK ct eA bt bU bm aH bn bX aP bR;have hsv:=hs v hv;have hcnt:st.jH<=es.length:=by have:=g.sum; omega
  have hway:=g.cZ;have hll:l=st.cZ.length:=by rw [m.w.1,Yu]
  have hV:=co.bV.lt;refine af co.bN (some r.gN,()) rfl (ak ?_);refine af co.bN (some r.gN,()) rfl (ak ?_);refine Xz (en:=eI) m.mN ?_;refine m.uW o hsv (w:=st.jH+1) (by rw [wrap_i64 ad ad]; omega) ?_;intro h1 m1 s1 z1;have hnone:(st.num v).isSome=false:=by rw [h0]; rfl
  rw [hnone] at m1;simp only [Bool.false_eq_true,if_false] at m1;have co1:=s1.co X m co;refine af co1.bL (some r.gL,()) rfl (ak ?_);refine af co1.bN (some r.gN,()) rfl (ak ?_);refine m1.EH v ?_;refine m1.sZ o hsv rfl ?_;intro h2 m2 s2 z2;simp only [cF,Option.getD_some] at m2;have co2:=s2.co X m1 co1;refine af m2.bW ((p,l,c),()) rfl (ak ?_);refine m2.WX o ad ad ?_;intro h3 p3 c3 m3 s3;have co3:=s3.co X m2 co2;refine af co3.bO (some r.gO,()) rfl (ak ?_);refine m3.VI o hsv ?_;intro h4 m4 s4 z4;have G:=s4.co X m3 co3;have s04:qu r p h p3 h4:=((s1.trans s2).trans s3).trans s4
  replace m4:nt r h4 (eH v st) p3 (l+1) c3:=m4
  refine af G.bE ((p0,l0,c0),()) rfl (ak ?_);refine af G.bA (some r.gA,()) rfl (ak ?_);obtain ⟨nA,mA⟩:=G.mA;refine IL mA v ?_;obtain ⟨k,hk⟩:=D5 hv;obtain ⟨J,hkn,hkx⟩:=oL hk;have hl0:=G.vw.len;rw [hk];simp only [Option.getD_some];refine ax ⟨ad,ad⟩ ?_;obtain ⟨a,ha,hc⟩:=G.vw.cells k J;refine av ha ?_;rw [show Int.toNat (k:Int)=k from ad];have hin:=G.vw.fq es[k] (YD J);have hinW:∀ h',PD r h' es p0 l0 c0->gW h' es[k].p es[k].l es[k].x.ai:=fun h' co'=>co'.vw.fq es[k] (YD J)
  have htl:=eo.tl es[k] (YD J);have hts:=eo.ts es[k] (YD J);have hli:=X.li es[k] (YD J);have hsu:cM (dh es) v=es[k].x.ai.map (·.1):=by unfold cM; rw [hkx]
  generalize es[k]=e at hc hin hinW htl hts hli hsu;refine ay ((e.p,e.l,e.c),()) ⟨by rw [add_zero']; exact hc.2.1,trivial⟩ ?_;refine ak ?_;have hel:=hin.len;have hgood:=fun l=>K2 eo.nodup hown (cM (dh es)) g hv h0 hu l
  have hinn:∀ l:List Xaa,pu (bd es) (l.foldl (eG (cz es) (cP (cz es) (cM (dh es)) f) v) (eH v st)):=fun l=>pu.fold hown (fun w st hi hw=>pu.visit hown (cM (dh es)) f w st hi hw) l _ (hi.open hv)
  refine aS (cs:=[(false,[.int .i64])]) (fun x w h'=>∃ (i:Nat) (p':Xac) (l' c':Nat),x.1=(i:Int)/\i<=e.x.ai.length/\w=e.x.ai.length-i/\nt r h' (((e.x.ai.map (·.1)).take i).foldl (eG (cz es) (cP (cz es) (cM (dh es)) f) v) (eH v st)) p' l' c'/\qu r p h p' h')
   ((0:Int),()) e.x.ai.length rfl ⟨0,p3,l+1,c3,rfl,ad,ad,m4,s04⟩ ?_
  rintro ⟨n26,⟨⟩⟩ w h5 ⟨i,p5,l5,c5,hi0,hile,rfl,F,s5⟩;simp only at hi0;subst hi0;refine ak ?_;have U:=s5.co X m co;obtain ⟨g5,hu5,u,n5,hn5⟩:=hgood ((e.x.ai.map (·.1)).take i);have Y:=hinn ((e.x.ai.map (·.1)).take i);have hk5:=fun hi:i<e.x.ai.length=>(show (e.x.ai.map (·.1)).take (i+1)=(e.x.ai.map (·.1)).take i++[e.x.ai[i].1] by
   rw [Yw (by rw [Yu]; exact hi),YE])
  have hfin:i=e.x.ai.length->(e.x.ai.map (·.1)).take i=cM (dh es) v:=by
   intro hh;rw [hsu];exact YW (by rw [Yu]; omega)
  have d:∀ hi:i<e.x.ai.length,((e.x.ai.map (·.1)).take (i+1)).foldl (eG (cz es) (cP (cz es) (cM (dh es)) f) v) (eH v st)=eG (cz es) (cP (cz es) (cM (dh es)) f) v (((e.x.ai.map (·.1)).take i).foldl (eG (cz es) (cP (cz es) (cM (dh es)) f) v) (eH v st)) e.x.ai[i].1:=by
   intro hi;rw [hk5 hi,Zk]; rfl
  have j:cP (cz es) (cM (dh es)) (f+1) v st=(if uJ ((cM (dh es) v).foldl (eG (cz es) (cP (cz es) (cM (dh es)) f) v) (eH v st)) v<sK ((cM (dh es) v).foldl (eG (cz es) (cP (cz es) (cM (dh es)) f) v) (eH v st)) v then (cM (dh es) v).foldl (eG (cz es) (cP (cz es) (cM (dh es)) f) v) (eH v st) else rk v ((cM (dh es) v).foldl (eG (cz es) (cP (cz es) (cM (dh es)) f) v) (eH v st))):=rfl;refine aM (fun g1=>?_) (fun g1=>?_)
  ·have Z:i<e.x.ai.length:=ad
   have d:=d Z;refine ax ⟨ad,ad⟩ ?_;obtain ⟨a2,ha2,hc2⟩:=(hinW h5 U).cells i Z;refine av ha2 ?_;rw [show Int.toNat (i:Int)=i from ad];have htsi:=hts e.x.ai[i] (YD Z);generalize e.x.ai[i]=t at hc2 htsi d;generalize hst5:((e.x.ai.map (·.1)).take i).foldl (eG (cz es) (cP (cz es) (cM (dh es)) f) v) (eH v st)=st5 at F g5 hu5 Y d;refine ay (t.1,(t.2:Int),()) hc2 (ak ?_);refine br ?_;intro h6 b6 e6 z6;refine aw b6 rfl aj ?_;intro h7 b7 k7 z7;have b7:bI h7 h5.size 117 [.string t.1,.int .u32 (t.2:Int)]:=b7;have e57:Ext h5 h7:=bQ e6 k7;have co7:=U.nh X e57 aj;have m7:=F.an e57;have Vo:qu r p5 h5 p5 h7:=qu.ext e57;have ha7:=U.bV.lt;have hap:h5.size∉aR p5:=fun hb=>by have:=(F.w.cv hb).2; omega
   have hw:=gu i;refine af co7.bA (some r.gA,()) rfl (ak ?_);refine af b7 (t.1,()) rfl (ak ?_);obtain ⟨nA7,mA7⟩:=co7.mA;refine Dt mA7 t.1 ?_;refine ar (fun g2=>?_) (fun g2=>?_)
   ·have g2:¬ cz es t.1=true:=by
     unfold cz;intro hh;rw [hh] at g2;cases g2
    have hst:eG (cz es) (cP (cz es) (cM (dh es)) f) v st5 t.1=st5:=Yx g2;refine aG (cs:=[(false,[.int .i64])]) (((i+1:Nat):Int),()) (e.x.ai.length-(i+1)) rfl ad (YJ (fun z=>[Value.int .i64 z]) hw) ⟨i+1,p5,l5,c5,rfl,ad,rfl,?_,s5.trans Vo⟩;rw [d,hst];exact m7
   ·have g2:cz es t.1=true:=by
     unfold cz;cases hh:(kE es t.1).isSome with
     | true=>rfl
     | false=>rw [hh] at g2; cases g2
    have hwn:=hown _ g2;have hst:eG (cz es) (cP (cz es) (cM (dh es)) f) v st5 t.1=tE (cP (cz es) (cM (dh es)) f) v t.1 (fw v t.1 st5):=YC g2;rw [hst] at d;have g8:=g5.self v t.1;have hu8:qR (bd es) (fw v t.1 st5)<=f:=by unfold qR; rw [(iv v t.1 st5).1]; exact hu5
    have hi8:pu (bd es) (fw v t.1 st5):=by intro s hs; rw [(iv v t.1 st5).1] at hs; exact Y s hs
    refine af b7 (t.1,()) rfl (ak ?_);rw [VG];refine aM (fun g3=>?_) (fun g3=>?_)
    ·refine af co7.bB (some r.gB,()) rfl (ak ?_);refine m7.UY o hsv ?_;intro h8 m8 s8 z8;have e8:fw v t.1 st5={ st5 with back:=dH st5.back v true }:=YC g3;rw [<- e8] at m8;have co8:=s8.co X m7 co7;have b8:=s8.box (st:=st5) (l:=l5) (c:=c5) o ha7 hap b7;refine JA ih X hs m8 co8 g8 hu8 hi8 hv hwn ha7 hap b8 (i:Int) ?_;intro h9 p9 l9 c9 m9 s9;refine aG (cs:=[(false,[.int .i64])]) (((i+1:Nat):Int),()) (e.x.ai.length-(i+1)) rfl ad (YJ (fun z=>[Value.int .i64 z]) hw) ⟨i+1,p9,l9,c9,rfl,ad,rfl,?_,((s5.trans Vo).trans s8).trans s9⟩;rw [d];exact m9
    ·have e8:fw v t.1 st5=st5:=Yx g3;rw [<- e8] at m7;refine JA ih X hs m7 co7 g8 hu8 hi8 hv hwn ha7 hap b7 (i:Int) ?_;intro h9 p9 l9 c9 m9 s9;refine aG (cs:=[(false,[.int .i64])]) (((i+1:Nat):Int),()) (e.x.ai.length-(i+1)) rfl ad (YJ (fun z=>[Value.int .i64 z]) hw) ⟨i+1,p9,l9,c9,rfl,ad,rfl,?_,(s5.trans Vo).trans s9⟩;rw [d];exact m9
  ·have hii:=hfin ad;rw [hii] at F g5 u Y hn5;generalize hst5:(cM (dh es) v).foldl (eG (cz es) (cP (cz es) (cM (dh es)) f) v) (eH v st)=st5 at F g5 u Y hn5 j;refine af U.bL (some r.gL,()) rfl (ak ?_);refine F.AV v ?_;refine af U.bN (some r.gN,()) rfl (ak ?_);refine F.EH v ?_;refine ar (fun g2=>?_) (fun g2=>?_)
   ·have g2:uJ st5 v<sK st5 v:=by have:=Yz g2; unfold uJ sK; omega
    rw [YC g2] at j;refine ⟨rfl,p5,l5,c5,?_,s5⟩;rw [j];exact F
   ·have g2:¬ uJ st5 v<sK st5 v:=by have:=YG g2; unfold uJ sK; omega
    rw [Yx g2] at j;have hl5:l5=st5.cZ.length:=by rw [F.w.1,Yu]
    have hw5:=g5.cZ;have hc5:st5.jH<=es.length:=by have:=g5.sum; omega
    have hvw:v∈st5.cZ:=u.subset aj;have hpk:rE v st5<st5.cZ.length:=by
     unfold rE;rw [List.findIdx_lt_length];exact ⟨v,hvw,aj⟩
    refine af F.bW ((p5,l5,c5),()) rfl (ak ?_);refine kj (zt F.w v hvw ad) ?_;refine af F.bW ((p5,l5,c5),()) rfl (ak ?_);have hcap:=F.w.GS;have hpk':(st5.cZ.findIdx fun x=>decide (v=x))=rE v st5:=rfl;rw [hpk'];refine ax ⟨ad,ad,ad⟩ ?_;refine Ug X hs F U Y g5 ad ad ?_;intro h6 p6 l6 c6 m6 s6;refine ⟨rfl,p6,l6,c6,?_,s5.trans s6⟩;rw [j];exact m6
end
theorem pu.top {names:List Xaa} {own:Xaa->Bool} (hown:∀ s,own s=true->s∈names) (succ:Xaa->List Xaa) (f:Nat):∀ (l:List Xaa) (st:TS),(∀ s,s∈l->s∈names)->pu names st->pu names (l.foldl (wM own succ f) st)
 | [],st,hl,hi=>hi
 | w::l,st,hl,hi=>by
  rw [Y6];refine pu.top hown succ f l _ (fun s hs=>hl s (YM _ hs)) ?_;unfold wM;split
  ·exact pu.visit hown succ f w st hi (hl w aj)
  ·exact hi
def HV {h:Hp} {p:Xac} {l c:Nat} {es:List cL} (v:uf h p l es) (eo:EqsOk es) (hp:∀ i,i∈aR p->i<h.size) :
  HC Tryz.prog 63 #[.slice p l c] h fun w h'=>(∃ g n,w=.map (some g)/\dQ eB h' g (Gv (cz es) (cM (dh es)) (bd es)).back n/\h.size<=g)/\Ext h h':=by
 refine aY (args:=[.slice p l c]) mixed Tryz.func63 az (xK p l c) ?_;unfold tG bf bg bz aK bJ bU aH bq bX aP;have hown:∀ s,cz es s=true->s∈bd es:=fun s=>(eh es s).1
 have hnl:(bd es).length=es.length:=by unfold bd; rw [Yu]
 have hll:=v.len;have hlen:=eo.len;refine br ?_;intro h1 b1 e1 z1;refine af b1 ((p,l,c),()) rfl (ak ?_);refine aI (zT (v.an e1) eo.len eo.nodup eo.sz) ?_;rintro _ h2 ⟨⟨gA,rfl,mA,hgA⟩,e2⟩;refine ⟨(some gA,()),rfl,ak ?_⟩;have b2:=b1.an e2 aj;have hgA2:=mA.lt;refine br ?_;intro h3 b3 e3 z3;refine aw b3 rfl aj ?_;intro h4 b4 k4 z4;have b4:bI h4 h2.size 89 [.map (some gA)]:=b4;have e24:Ext h2 h4:=bQ e3 k4;refine yy (en:=eB) ?_;intro h5 m5 e5 z5;refine br ?_;intro h6 b6 e6 z6;refine aw b6 rfl aj ?_;intro h7 b7 k7 z7;have b7:bI h7 h5.size 58 [.map (some h4.size)]:=b7;have e57:Ext h5 h7:=bQ e6 k7;refine yy (en:=eI) ?_;intro h8 m8 e8 z8;refine yy (en:=eI) ?_;intro h9 m9 e9 z9;refine br ?_;intro h10 b10 e10 z10;refine br ?_;intro h11 b11 e11 z11;refine aw (b10.an e11 aj) rfl aj ?_;intro h12 b12 k12 z12;have b12:bI h12 h9.size 89 [.map (some h7.size)]:=b12;refine aw (b11.an k12 (by simp; omega)) rfl aj ?_;intro h13 b13 k13 z13;have b13:bI h13 h10.size 89 [.map (some h8.size)]:=b13;have e913:Ext h9 h13:=Ch.trans ((bQ (Ext.trans e10 e11) k12):Ext h9 h12) k13 (fun j hj hl=>by simp at hj; omega);refine br ?_;intro h14 b14 e14 z14;refine yy (en:=eB) ?_;intro h15 m15 e15 z15;refine br ?_;intro h16 b16 e16 z16;refine aw b16 rfl aj ?_;intro h17 b17 k17 z17;have b17:bI h17 h15.size 58 [.map (some h14.size)]:=b17;have e1517:Ext h15 h17:=bQ e16 k17;refine br ?_;intro h18 b18 e18 z18;refine aw b18 rfl aj ?_;intro h19 b19 k19 z19;have J:Ext h17 h19:=bQ e18 k19;have d:=e1517.trans J;have u:Ext h13 h19:=(e14.trans e15).trans d;have O:=e913.trans u;have U:Ext h7 h19:=(e8.trans e9).trans O;have e419:Ext h4 h19:=(e5.trans e57).trans U;have X:=e24.trans e419;have e019:Ext h h19:=(e1.trans e2).trans X;have hz13:h13.size=h9.size+2:=ad
 have hz9:h9.size=h7.size+2:=ad
 have hz7:h7.size=h4.size+2:=ad
 have hz4:h4.size=h2.size+1:=ad
 generalize hr:(⟨h.size,gA,h2.size,h4.size,h5.size,h7.size,h8.size,h9.size,h10.size,h13.size,h14.size,h15.size,h17.size⟩:TF)=r;have ho:r.ord:=by
  subst hr;unfold TF.ord;dsimp only;omega
 have co:PD r h19 es p l c:=by
  subst hr;refine ⟨(b2.an X aj),b4.an e419 aj,⟨_,mA.an X aj⟩,?_,(b12.an k13 (by simp; omega)).an u aj,b13.an u aj,b17.an J aj,b7.an U aj,v.an e019⟩;exact b19
 have st:nt r h19 Cn none 0 0:=by
  subst hr;exact ⟨m8.an (e9.trans O) aj,⟨0,m9.an O aj⟩,⟨0,m15.an d aj⟩,⟨0,m5.an ((e57.trans U)) aj⟩,b14.an (e15.trans d) aj,SL.nil _ _ _ _⟩
 have lo:JJ r es p:=by
  subst hr;exact ⟨ho,hp,fun e he hne i hi=>(v.fq e he).U4 hne i hi⟩
 have hrE:r.E=h.size:=by subst hr; rfl
 have hbN:r.N=h9.size:=by subst hr; rfl
 have hbV:r.V=h17.size:=by subst hr; rfl
 have hbB:r.B=h5.size:=by subst hr; rfl
 rw [show (⟨h9.size,0,none⟩:Xax)=bx r.N by rw [hbN],show (⟨h17.size,0,none⟩:Xax)=bx r.V by rw [hbV],show (⟨h5.size,0,none⟩:Xax)=bx r.B by rw [hbB],show (⟨h.size,0,none⟩:Xax)=bx r.E by rw [hrE]];refine af co.bE ((p,l,c),()) rfl (ak ?_);refine aS (cs:=[(false,[.int .i64])]) (fun x w h'=>∃ (i:Nat) (p':Xac) (l' c':Nat),x.1=(i:Int)/\i<=es.length/\w=es.length-i/\nt r h' (((bd es).take i).foldl (wM (cz es) (cM (dh es)) (bd es).length) Cn) p' l' c'/\qu r none h19 p' h')
  ((0:Int),()) es.length rfl ⟨0,none,0,0,rfl,ad,ad,st,qu.refl _ _ _⟩ ?_
 rintro ⟨n20,⟨⟩⟩ w h20 ⟨i,p20,l20,c20,hi0,hile,rfl,m20,s20⟩;simp only at hi0;subst hi0;refine ak ?_;have Y:=s20.co lo st co;refine aM (fun g1=>?_) (fun g1=>?_)
 ·have hilt:i<es.length:=ad
  refine ax ⟨ad,ad⟩ ?_;obtain ⟨a2,ha2,hc2⟩:=Y.vw.cells i hilt;refine av ha2 ?_;rw [show Int.toNat (i:Int)=i from ad];have t20:=CX (own:=cz es) (succ:=cM (dh es)) eo.nodup hown ((bd es).take i) [] Cn (fun s hs=>ZB hs) (Wv _);have i20:=pu.top hown (cM (dh es)) (bd es).length ((bd es).take i) Cn (fun s hs=>ZB hs) (fun s hs=>(hs rfl).elim);have htk:(bd es).take (i+1)=(bd es).take i++[es[i].name]:=by
   rw [Yw ad];unfold bd;rw [YE]
  have hmem:es[i].name∈bd es:=YT (YD hilt);generalize es[i]=e at hc2 htk hmem;have F:((bd es).take (i+1)).foldl (wM (cz es) (cM (dh es)) (bd es).length) Cn=wM (cz es) (cM (dh es)) (bd es).length (((bd es).take i).foldl (wM (cz es) (cM (dh es)) (bd es).length) Cn) e.name:=by
   rw [htk,Zk]; rfl
  generalize ((bd es).take i).foldl (wM (cz es) (cM (dh es)) (bd es).length) Cn=Z at m20 t20 i20 F;refine ay (e.name,(e.p,e.l,e.c),(e.x.num:Int),()) hc2 (ak ?_);refine br ?_;intro h21 b21 e21 z21;refine aw b21 rfl aj ?_;intro h22 b22 k22 z22;have b22:bI h22 h20.size 100 [.string e.name,.slice e.p e.l e.c,.int .u32 e.x.num]:=b22;have G:Ext h20 h22:=bQ e21 k22;have co22:=Y.nh lo G aj;have m22:=m20.an G;have s22:qu r none h19 p20 h22:=s20.trans (qu.ext G);have hw:=gu i;refine af co22.bN (some r.gN,()) rfl (ak ?_);refine af b22 (e.name,()) rfl (ak ?_);refine m22.EH e.name ?_;refine ar (fun g2=>?_) (fun g2=>?_)
  ·have g2:(Z.num e.name).getD 0=0:=by have:=Yz g2; omega
   refine af co22.bV (.func (.func 90) #[] r.tU.toArray,()) rfl (ak ?_);refine af b22 (e.name,()) rfl (ak ?_);refine rD (cap:=r.tU) WN rfl (Mb eo lo (bd es).length e.name Z h22 p20 l20 c20 m22 co22 t20.C3 hmem (t20.C3.none g2) (ZP _ _) i20) ?_;rintro _ h23 ⟨rfl,p23,l23,c23,m23,s23⟩;refine ⟨(),rfl,?_⟩;refine aG (cs:=[(false,[.int .i64])]) (((i+1:Nat):Int),()) (es.length-(i+1)) rfl ad (YJ (fun z=>[Value.int .i64 z]) hw) ⟨i+1,p23,l23,c23,rfl,ad,rfl,?_,s22.trans s23⟩;rw [F];unfold wM;rw [YC g2];exact m23
  ·have g2:¬ (Z.num e.name).getD 0=0:=by
    intro k;rw [k] at g2;simp at g2
   refine aG (cs:=[(false,[.int .i64])]) (((i+1:Nat):Int),()) (es.length-(i+1)) rfl ad (YJ (fun z=>[Value.int .i64 z]) hw) ⟨i+1,p20,l20,c20,rfl,ad,rfl,?_,s22⟩;rw [F];unfold wM;rw [Yx g2];exact m22
 ·have htk:(bd es).take i=bd es:=YW ad;rw [htk] at m20;refine af Y.bB (some r.gB,()) rfl (ak ?_);obtain ⟨n3,mB⟩:=m20.mB;have o':=ho;unfold TF.ord at o';refine ⟨⟨r.gB,n3,rfl,mB,ad⟩,Ch.trans e019 s20.ch fun j hj hl=>?_⟩;rw [pR] at hj;simp [aR] at hj;omega
def wN {h:Hp} {b:Nat} {e:TypeId} {p:Xac} {l c:Nat} {us:dc} (s:SL h b e 2 p l c (us.map df)):gW h p l us :=
 ⟨by rw [s.1,Yu],fun i hi=>by
  obtain ⟨a,d,hc⟩:=s.cells (i:=i) (by simpa using hi);rw [YE] at hc;exact ⟨a,d,hc⟩⟩
structure tM (es:List cL):Prop extends EqsOk es where
 Vm:(es.flatMap (·.x.ai)).length<=2^20
abbrev eU (es:List cL) (v:Xaa):cn:=Iz (cz es) (dh es) (bd es) v
abbrev dp (es:List cL):Xaa->Xaa->Prop:=Edge (cz es) (cM (dh es))
def mf {es:List cL} {v:Xaa} (hv:v∈bd es):∃ e,e∈es/\e.name=v/\dh es v=e.x:=by
 obtain ⟨k,hk⟩:=D5 hv;obtain ⟨d,j,u⟩:=oL hk;exact ⟨_,YD d,j,u⟩
def gX {α β:Type} (f:α->List β) {l:List α} {a:α} (h:a∈l):(f a).length<=(l.flatMap f).length:=by
 induction l with
 | nil=>simp at h
 | cons b l d =>
  rw [Zd,Yy];rcases YS.1 h with e | e
  ·subst e; omega
  ·have:=d e; omega
def tM.zd {es:List cL} (o:tM es) {v:Xaa} (hv:v∈bd es):(dh es v).ai.length<=2^20:=by
 obtain ⟨e,d,_,hx⟩:=mf hv;rw [hx];exact Zq (gX (fun e:cL=>e.x.ai) d) o.Vm
def tM.D1 {es:List cL} (o:tM es) (hc:∀ v,¬ kB (dp es) v) {v:Xaa} (hv:v∈bd es):(eU es v).ai.length<=2^20:=by
 have j:=UZ (eh es) hc hv;have F:=xf (eh es) hc hv;have h1:((eU es v).ai.map (·.1)).Nodup:=Zw.2 (j.1.imp fun h=>kD h);have h2:=lG ((eU es v).ai.map (·.1)) ((es.flatMap (·.x.ai)).map (·.1)) h1 (fun s hs=>by
  obtain ⟨t,G,rfl⟩:=YF.1 hs;obtain ⟨_,w,u,hw,hu,e⟩:=F t G;obtain ⟨d,J,_,hx⟩:=mf hw;rw [hx] at hu;rw [<- e];exact YT (bp9.2 ⟨d,J,hu⟩))
 rw [Yu,Yu] at h2;exact Zq h2 o.Vm
def tM.LJ {es:List cL} (o:tM es) (hc:∀ v,¬ kB (dp es) v) {v:Xaa} (hv:v∈bd es):∀ t,t∈(eU es v).ai->t.1.size<=maxLen:=by
 intro t j;obtain ⟨_,w,u,hw,hu,e⟩:=xf (eh es) hc hv t j;obtain ⟨d,F,_,hx⟩:=mf hw;rw [hx] at hu;rw [<- e];exact o.ts d F u hu
theorem qf {of:Xaa->Option cn} {B:Nat} (j:1<=B) (d:∀ s y,of s=some y->y.ai.length<=B):∀ l:dc,(l.flatMap (rF of)).length<=l.length*B
 | []=>aj
 | t::l=>by
  rw [Zd,Yy,Zi,ZA];have u:=qf j d l
  have:(rF of t).length<=B:=by
   unfold rF;cases h:of t.1 with
   | none=>simpa using j
   | some y=>simpa using d _ _ h
  omega
structure SF where
 E:Nat
 gA:Nat
 A:Nat
 gD:Nat
 D:Nat
 V:Nat
def SF.ord (r:SF):Prop:=r.E<r.gA/\r.gA<r.A/\r.A<r.gD/\r.gD<r.D/\r.D<r.V
def SF.tU (r:SF):List Xab:=[.pointer (some (bx r.D)),.pointer (some (bx r.E)),.pointer (some (bx r.A)),.pointer (some (bx r.V))]
structure Ve (r:SF) (h:Hp) (es:List cL) (p0:Xac) (l0 c0:Nat):Prop where
 bE:bI h r.E 44 [.slice p0 l0 c0]
 bA:bI h r.A 89 [.map (some r.gA)]
 mA:∃ n,dQ eI h r.gA (kE es) n
 bV:bI h r.V 150 [.func (.func 65) #[] r.tU.toArray]
 bD:bI h r.D 149 [.map (some r.gD)]
 vw:uf h p0 l0 es
structure XI (r:SF) (es:List cL) (p0:Xac):Prop where
 ord:r.ord
 l0:∀ i,i∈aR p0->i<r.E
 li:∀ e,e∈es->e.x.ai≠[]->∀ i,i∈aR e.p->i<r.E
def Ve.an {r:SF} {h h':Hp} {es:List cL} {p0:Xac} {l0 c0:Nat} (m:Ve r h es p0 l0 c0) (d:XI r es p0) (k:Ch [r.gD] h h'):Ve r h' es p0 l0 c0:=by
 have o:=d.ord;unfold SF.ord at o;obtain ⟨n,mA⟩:=m.mA;exact ⟨m.bE.an k (by simp; omega),m.bA.an k (by simp; omega),⟨n,mA.an k (by simp; omega)⟩,m.bV.an k (by simp; omega),m.bD.an k (by simp; omega),m.vw.nh k (fun i hi=>by have:=d.l0 i hi; simp; omega) (fun e u j i hi=>by have:=d.li e u j i hi; simp; omega)⟩
structure Tq (r:SF) (h:Hp) (es:List cL) (f:Xaa->Option rK):Prop where
 map:∃ n,G9 h r.gD f n
 of:∀ s y,f s=some y->s∈bd es/\y.x=eU es s/\∀ i,i∈aR y.p->r.V<i/\i<h.size
def Tq.ext {r:SF} {h h':Hp} {es:List cL} {f:Xaa->Option rK} (d:Tq r h es f) (k:Ext h h'):Tq r h' es f:=by
 obtain ⟨n,m⟩:=d.map;exact ⟨⟨n,m.an k aj (fun s y j i hi=>aj)⟩,fun s y j=>by
  obtain ⟨a,b,c⟩:=d.of s y j;exact ⟨a,b,fun i hi=>⟨(c i hi).1,Nat.lt_of_lt_of_le (c i hi).2 k.size⟩⟩⟩
def Wm (f f':Xaa->Option rK):Prop:=∀ s y,f s=some y->f' s=some y
def SB (b:Nat) (f f':Xaa->Option rK):Prop:=∀ s y,f' s=some y->f s=some y\/∀ i,i∈aR y.p->b<=i
def TK:fK Tryz.prog 65=true:=az
def ML {r:SF} {es:List cL} {p0:Xac} {l0 c0:Nat} (eo:tM es) (lo:XI r es p0) (hc:∀ v,¬ kB (dp es) v):∀ (k:Nat) (v:Xaa),Hg (dp es) k v->v∈bd es->∀ (h:Hp) (f:Xaa->Option rK),Ve r h es p0 l0 c0->Tq r h es f ->
  HC Tryz.prog 65 (.string v::r.tU).toArray h fun w h'=>∃ y f',w=eL y/\y.x=eU es v/\Tq r h' es f'/\f' v=some y/\Wm f f'/\SB h.size f f'/\Ch [r.gD] h h':=by
 intro k;have o:=lo.ord;have o':=o;unfold SF.ord at o';have hown:=eh es
 induction k with
 | zero=>intro v hg; exact hg.elim
 | succ k ih =>
  intro v hg hv h f co dn;refine aY (args:=.string v::r.tU) mixed Tryz.func65 az (pM v (bx r.D) (bx r.E) (bx r.A) (bx r.V)) ?_;unfold kN bf bg bz aK bJ bU aH bq bX aP bR;have hV:=co.bV.lt;have F:=eo.toEqsOk.names v hv;refine br ?_;intro h1 b1 e1 z1;have co1:=co.an lo (e1.mono aj);have dn1:=dn.ext e1;refine af co1.bD (some r.gD,()) rfl (ak ?_);obtain ⟨n1,m1⟩:=dn1.map;refine AV m1.map v (fun y hy1=>?_) (fun hy0=>?_)
  ·refine br ?_;intro h2 b2 e2 z2;refine aw b2 rfl aj ?_;intro h3 b3 k3 z3;have b3:bI h3 h1.size 69 [.slice y.p y.l y.c,.int .u32 (y.x.num:Int)]:=b3;have Y:Ext h1 h3:=bQ e2 k3;refine bk rfl ?_;refine af b3 ((y.p,y.l,y.c),(y.x.num:Int),()) rfl (ak ?_);refine aw (b1.an Y aj) rfl aj ?_;intro h4 b4 k4 z4;have b4:bI h4 h.size 69 [.slice y.p y.l y.c,.int .u32 (y.x.num:Int)]:=b4;refine af b4 ((y.p,y.l,y.c),(y.x.num:Int),()) rfl ?_;have e04:Ext h h4:=bQ (e1.trans Y) k4;exact ⟨y,f,rfl,(dn.of v y hy1).2.1,dn.ext e04,hy1,fun s y d=>d,fun s y d=>.inl d,e04.mono aj⟩
  ·refine br ?_;intro h2 b2 e2 z2;refine aw b2 rfl aj ?_;intro h3 b3 k3 z3;have Y:Ext h1 h3:=bQ e2 k3;refine bG rfl ?_;have e03:=e1.trans Y;have Z:=co.an lo (e03.mono aj);have dn3:=dn.ext e03;refine af Z.bE ((p0,l0,c0),()) rfl (ak ?_);refine af Z.bA (some r.gA,()) rfl (ak ?_);obtain ⟨nA,mA⟩:=Z.mA;refine IL mA v ?_;obtain ⟨q,hq⟩:=D5 hv;obtain ⟨hql,hqn,hqx⟩:=oL hq;have hl0:=Z.vw.len;have hlen:=eo.len;rw [hq];simp only [Option.getD_some];refine ax ⟨ad,ad⟩ ?_;obtain ⟨a,ha,hcc⟩:=Z.vw.cells q hql;refine av ha ?_;rw [show Int.toNat (q:Int)=q from ad];have O:∀ h',Ve r h' es p0 l0 c0->gW h' es[q].p es[q].l es[q].x.ai:=fun h' co'=>co'.vw.fq es[q] (YD hql)
   have hts:=eo.ts es[q] (YD hql);have hli:=lo.li es[q] (YD hql);have hll:=eo.zd hv;have hsol:=H0 hown hc hv;rw [hqx] at hll hsol;have hedge:∀ t,t∈es[q].x.ai->cz es t.1=true->dp es v t.1:=fun t ht X=>⟨lz.2 ⟨t,by rw [hqx]; exact ht,rfl⟩,X⟩
   generalize es[q]=e at hcc O hts hli hll hsol hedge;refine ay ((e.p,e.l,e.c),(e.x.num:Int),()) ⟨by rw [add_zero']; exact hcc.2.1,by rw [add_add]; exact hcc.2.2.1,trivial⟩ ?_;refine ak ?_;refine br ?_;intro h5 b5 e5 z5;refine aw b5 rfl aj ?_;intro h6 b6 k6 z6;have b6:bI h6 h3.size 69 [.slice e.p e.l e.c,.int .u32 (e.x.num:Int)]:=b6;have e36:Ext h3 h6:=bQ e5 k6;have e06:=e03.trans e36;have hz3:=e03.size;refine af b6 ((e.p,e.l,e.c),()) rfl (ak ?_);refine aS (cs:=[(false,[.int .i64])]) (fun x w h'=>∃ (i:Nat) (f':Xaa->Option rK),x.1=(i:Int)/\i<=e.x.ai.length/\w=e.x.ai.length-i/\Tq r h' es f'/\Wm f f'/\SB h6.size f f'/\(∀ t,t∈e.x.ai.take i->cz es t.1=true->∃ y,f' t.1=some y)/\Ch [r.gD] h6 h')
    ((0:Int),()) e.x.ai.length rfl ⟨0,f,rfl,ad,ad,dn.ext e06,fun s y d=>d,fun s y d=>.inl d,aj,Ch.refl _ _⟩ ?_
   rintro ⟨n23,⟨⟩⟩ w h7 ⟨i,f7,hi0,hile,rfl,G,sb7,na7,dd7,k7⟩;simp only at hi0;subst hi0;refine ak ?_;have k07:Ch [r.gD] h h7:=Ch.trans (e06.mono aj) k7 (fun j hj _=>hj);have co7:=co.an lo k07;have hel:=(O h7 co7).len;refine aM (fun g1=>?_) (fun g1=>?_)
   ·have hilt:i<e.x.ai.length:=ad
    refine ax ⟨ad,ad⟩ ?_;obtain ⟨a2,ha2,hc2⟩:=(O h7 co7).cells i hilt;refine av ha2 ?_;rw [show Int.toNat (i:Int)=i from ad];have htk:e.x.ai.take (i+1)=e.x.ai.take i++[e.x.ai[i]]:=Yw hilt;have hed:=hedge e.x.ai[i] (YD hilt);generalize e.x.ai[i]=t at hc2 htk hed;refine ay (t.1,(t.2:Int),()) hc2 (ak ?_);refine br ?_;intro h8 b8 e8 z8;refine aw b8 rfl aj ?_;intro h9 b9 k9 z9;have b9:bI h9 h7.size 117 [.string t.1,.int .u32 (t.2:Int)]:=b9;have e79:Ext h7 h9:=bQ e8 k9;have k09:Ch [r.gD] h h9:=Ch.trans k07 e79 aj;have U:=co.an lo k09;have dn9:=G.ext e79;have hw:=gu i;refine af U.bA (some r.gA,()) rfl (ak ?_);refine af b9 (t.1,()) rfl (ak ?_);obtain ⟨nA9,mA9⟩:=U.mA;refine Dt mA9 t.1 ?_;refine ar (fun g2=>?_) (fun g2=>?_)
    ·have g2:cz es t.1=true:=g2;refine af U.bV (.func (.func 65) #[] r.tU.toArray,()) rfl (ak ?_);refine af b9 (t.1,()) rfl (ak ?_);refine rD (cap:=r.tU) TK rfl (ih t.1 (hg t.1 (hed g2)) ((hown _).1 g2) h9 f7 U dn9) ?_;rintro _ h10 ⟨y,f10,rfl,hyx,dn10,hfy,sb10,na10,J⟩;refine ⟨((y.p,y.l,y.c),(y.x.num:Int),()),rfl,ak ?_⟩;refine aG (cs:=[(false,[.int .i64])]) (((i+1:Nat):Int),()) (e.x.ai.length-(i+1)) rfl ad (YJ (fun z=>[Value.int .i64 z]) hw) ⟨i+1,f10,rfl,ad,rfl,dn10,fun s y d=>sb10 s y (sb7 s y d),fun s y d=>?_,fun u hu X=>?_,?_⟩
     ·rcases na10 s y d with h | h
      ·exact na7 s y h
      ·refine .inr fun i hi=>?_
       have:=h i hi
       have:=k7.size
       have:=e79.size
       omega
     ·rw [htk] at hu;rcases YN.1 hu with h | h
      ·obtain ⟨y,d⟩:=dd7 u h X;exact ⟨y,sb10 _ _ d⟩
      ·rw [YP.1 h]; exact ⟨y,hfy⟩
     ·exact Ch.trans (Ch.trans k7 e79 aj) J (fun j hj _=>hj)
    ·have g2:¬ cz es t.1=true:=by
      unfold cz;intro k;rw [k] at g2;cases g2
     refine aG (cs:=[(false,[.int .i64])]) (((i+1:Nat):Int),()) (e.x.ai.length-(i+1)) rfl ad (YJ (fun z=>[Value.int .i64 z]) hw) ⟨i+1,f7,rfl,ad,rfl,dn9,sb7,na7,fun u hu X=>?_,Ch.trans k7 e79 aj⟩;rw [htk] at hu;rcases YN.1 hu with h | h
     ·exact dd7 u h X
     ·rw [YP.1 h] at X; exact (g2 X).elim
   ·have hii:e.x.ai.take i=e.x.ai:=YW ad;rw [hii] at dd7;have b7:=b6.an k7 (by simp; omega);refine af b7 ((e.p,e.l,e.c),(e.x.num:Int),()) rfl (ak ?_);refine af co7.bD (some r.gD,()) rfl (ak ?_);obtain ⟨n7,m7⟩:=G.map;have hz7:=k07.size;have hput:de (fun s=>(f7 s).map (·.x)) e.x=eU es v:=by
     show _=Iz (cz es) (dh es) (bd es) v;rw [hsol];refine pS fun t ht=>?_
     show (f7 t.1).map (·.x)=JS (cz es) (dh es) (bd es) t.1;unfold JS
     by_cases X:cz es t.1=true
     ·obtain ⟨y,d⟩:=dd7 t ht X;rw [d,YC X,br9,(G.of _ _ d).2.1]
     ·rw [Yx X];cases d:f7 t.1 with
      | none=>rfl
      | some y=>exact (X ((hown _).2 (G.of _ _ d).1)).elim
    have hlens:∀ s y,f7 s=some y->y.x.ai.length<=2^20:=fun s y d=>by
     obtain ⟨a,b,_⟩:=G.of s y d;rw [b]; exact eo.D1 hc a
    refine aI (EL (c:=e.c) (O h7 co7) m7 ad hts (fun s y d=>⟨by have:=hlens s y d; omega,by
      obtain ⟨a,b,_⟩:=G.of s y d;rw [b]; exact eo.LJ hc a⟩) ?_) ?_
    ·have:=qf (of:=fun s=>(f7 s).map (·.x)) (B:=2^20) ad (fun s y d=>by
      cases hh:f7 s with
      | none=>simp only [hh] at d; cases d
      | some z =>
       simp only [hh,Option.map_some,Option.some.injEq] at d;rw [<- d]; exact hlens s z hh) e.x.ai
     exact Zq this (Zq (ZC _ hll) cm)
    ·rintro _ h8 ⟨⟨p',l',c',rfl,s8⟩,e8⟩;rw [hput] at s8 ⊢;refine ⟨((p',l',c'),((eU es v).num:Int),()),rfl,ak ?_⟩;have b8:=b7.an e8 aj;refine aw b8 rfl aj ?_;intro h9 b9 k9 z9;have b9:bI h9 h3.size 69 [.slice p' l' c',.int .u32 ((eU es v).num:Int)]:=b9;have hz8:=e8.size;have k79:Ch [h3.size] h7 h9:=Ch.trans (e8.mono aj) k9 (fun j hj _=>hj);have k09:Ch [r.gD] h h9:=Ch.trans (Ch.trans k07 e8 aj) k9 (fun j hj hl=>by simp at hj; omega);have U:=co.an lo k09;have hk7:=k7.size;have hz36:h3.size<h6.size:=ad
     have hblk:∀ s y,f7 s=some y->∀ i,i∈aR y.p->i≠h3.size/\i≠h.size/\i≠r.gD:=by
      intro s y d i hi;have h1:=(G.of s y d).2.2 i hi;rcases na7 s y d with h | h
      ·have:=((dn.of s y h).2.2 i hi).2
       omega
      ·have:=h i hi
       omega
     have m9:G9 h9 r.gD f7 n7:=m7.an k79 (by simp; omega) (fun s y d i hi=>by
      have:=(hblk s y d i hi).1
      simpa using this)
     have s9:=s8.bP k9 (fun i hi=>by have:=(s8.cv hi).1; simp; omega);refine af U.bD (some r.gD,()) rfl (ak ?_);refine af b9 ((p',l',c'),((eU es v).num:Int),()) rfl (ak ?_);refine Ms m9.map F ⟨p',l',c',eU es v⟩ ?_;intro h10 m10 J z10;have b10:=b9.an J (by simp; omega);refine af b10 ((p',l',c'),((eU es v).num:Int),()) rfl (ak ?_);have b110:bI h10 h.size 69 [.slice none 0 0,.int .u32 0]:=((((b1.an Y aj).an e36 aj).an k7 (by simp; omega)).an k79 (by simp; omega)).an J (by simp; omega);refine aw b110 rfl aj ?_;intro h11 b11 k11 z11;have b11:bI h11 h.size 69 [.slice p' l' c',.int .u32 ((eU es v).num:Int)]:=b11;refine af b11 ((p',l',c'),((eU es v).num:Int),()) rfl ?_;have k011:Ch [r.gD] h h11:=Ch.trans (Ch.trans k09 J (fun j hj _=>hj)) k11 (fun j hj hl=>by simp at hj; omega);have hz9:=k79.size;refine ⟨⟨p',l',c',eU es v⟩,dH f7 v ⟨p',l',c',eU es v⟩,rfl,rfl,⟨⟨_,m10.an k11 (by simp; omega),fun s y d=>?_⟩,fun s y d=>?_⟩,cF _ _ _,fun s y d=>?_,fun s y d=>?_,k011⟩
     ·by_cases F:s=v
      ·subst F;rw [cF] at d;have d:=YR d;subst d;exact wN ((s9.bP J (fun i hi=>by have:=(s9.cv hi).1; simp; omega)).bP k11 (fun i hi=>by have:=(s9.cv hi).1; simp; omega))
      ·rw [cg _ _ F] at d;exact ((m9.fq s y d).an J (fun i hi=>by have:=(hblk s y d i hi).2.2; simpa using this)).an k11 (fun i hi=>by have:=(hblk s y d i hi).2.1; simpa using this)
     ·by_cases F:s=v
      ·subst F;rw [cF] at d;have d:=YR d;subst d;refine ⟨hv,rfl,fun i hi=>?_⟩
       have:=s9.cv hi
       omega
      ·rw [cg _ _ F] at d;obtain ⟨a,b,c⟩:=G.of s y d;refine ⟨a,b,fun i hi=>?_⟩
       have:=c i hi
       omega
     ·have hne:s≠v:=fun e=>by rw [e,hy0] at d; cases d
      rw [cg _ _ hne];exact sb7 s y d
     ·by_cases F:s=v
      ·subst F;rw [cF] at d;have d:=YR d;subst d;refine .inr fun i hi=>?_
       have:=s9.cv hi
       omega
      ·rw [cg _ _ F] at d;rcases na7 s y d with h | h
       ·exact .inl h
       ·refine .inr fun i hi=>?_
        have:=h i hi
        omega
def mv {P:Program} {h:Hp} {L:Lp} {K:Xab->Hp->Prop} {k:Xac->Nat->Nat->T} {t ty e:TypeId} {z:Xab} {sz by':Nat} (F:P.underlying t=some (.slice e)) (d:(P.info? e).map (fun i=>(i.zero,i.size,i.bytes))=some (some z,sz,by'))
  (G:z.cells.size=sz) {p:Xac} {l c:Nat} {ys:List (List Xab)} (u:(p=none/\ys=[])\/∃ a,p=some a/\aJ h a 0 ys.flatten) (hl:l=ys.length) (J:∀ y,y∈ys->y.length=sz) (O:ys.flatten.all cU=true) (U:(2*l+1024)*by'<=2^48) (V:l<=2^48)
  (hk:∀ p' c' h',SL h' h.size e sz p' l c' ys->Ext h h'->k p' l c' L K h') :
  T.ek P (Instr.buildSlice t 0 #[]) false [(false,[.slice 0])] (fun q m cc=>T.ek P (Builtin.append_ #[t,t] ty #[.slice q m cc,.slice p l c]) false [(false,[.slice 0])] k) L K h:=by
 obtain ⟨i,hi,Y,rfl,rfl⟩:=nu d;refine du ?_;unfold Instr.buildSlice;rw [ao,aF F];simp only;rw [ao,bT hi,cE hi];rw [Yx ad,YC ad];simp only [Nat.zero_mul,pure_bind];have Z:∀ (f:Nat->Option (Nat × Nat)) (b:Array Xab),Instr.fill f b []=some b:=fun f b=>rfl
 have hb:Array.map (fun x=>(#[]:Array Xab)[x % (#[]:Array Xab).size]!) (Array.range 0)=#[]:=aj
 rw [Z,hb];show ∃ p1 l1 c1,_/\_
 refine ⟨_,_,_,rfl,?_⟩;have s1:SL (h.push (.cells #[] e)) h.size e i.size (some ⟨h.size,0,none⟩) 0 0 []:=⟨rfl,aj,h.size,[],[],rfl,YI _,ad,bI.new h e [],aj⟩
 have e1:Ext h (h.push (.cells #[] e)):=Ext.push _ _;refine du ?_;rcases u with ⟨rfl,rfl⟩ | ⟨a,rfl,hc⟩
 ·have X:l=0:=hl;subst X;simp [Builtin.append_,ao,aF F,bT hi,Builtin.lenOf,Builtin.firstCells,storeCells];exact ⟨_,_,_,rfl,hk _ _ _ s1 e1⟩
 ·have:=oR (P:=P) (h:=h.push (.cells #[] e)) (K:=fun v h'=>∃ p l c,v=.slice p l c/\k p l c L K h') (ty:=ty) (ys:=ys) F hi Y G s1 hl J (aT e1 aj _ _ hc) O (by simpa using U) (by simpa using V) aj (cc:=c) ?_
  ·exact this
  ·intro p' c' h2 s2 c2 hp';rw [Y7,ZT] at *;exact ⟨p',l,c',rfl,hk p' c' h2 s2 (Ch.trans e1 c2 fun j hj hl=>by simp [aR] at hj; omega)⟩
def Ii {h:Hp} {p:Xac} {l:Nat} {us:dc} (v:gW h p l us):(p=none/\us.map df=[])\/∃ a,p=some a/\aJ h a 0 (us.map df).flatten:=by
 cases p with
 | none =>
  left
  refine ⟨rfl,?_⟩;cases us with
  | nil=>rfl
  | cons u us =>
   obtain ⟨a,d,_⟩:=v.cells 0 aj;cases d
 | some a=>exact .inr ⟨a,rfl,v.flat⟩
def NS (us:dc):∀ y,y∈us.map df->y.length=2:=by
 intro y d;obtain ⟨u,_,rfl⟩:=YF.1 d;rfl
def Gq {h:Hp} {p:Xac} {l c:Nat} {us:dc} (v:gW h p l us) (hl:us.length<=2^40) :
  HC Tryz.prog 42 #[.slice p l c] h fun w h'=>(∃ p' l' c',w=.slice p' l' c'/\SL h' h.size 117 2 p' l' c' (us.map df))/\Ext h h':=by
 refine aY (args:=[.slice p l c]) mixed Tryz.func42 az (fR p l c) ?_;unfold eb bt bq;have d:=v.len;cases p with
 | none =>
  rcases Ii v with ⟨_,h2⟩ | ⟨a,j,_⟩
  ·refine bk rfl ?_;refine ⟨⟨none,0,0,rfl,?_⟩,Ch.refl _ _⟩;rw [h2];exact SL.nil _ _ _ _
  ·cases j
 | some a =>
  refine bG rfl ?_;refine mv (e:=117) (z:=.agg #[.string ⟨#[]⟩,.int .u32 0]) (sz:=2) (by':=24) xQ rl rfl (Ii v) (by simpa using d) (NS us) (G1 us) ad ad ?_;intro p' c' h' s' e';exact ⟨⟨p',l,c',rfl,s'⟩,e'⟩
structure q8 (h:Hp) (b:Nat) (p:Xac) (l c:Nat) (ms:List cL):Prop where
 out:SL h b 100 3 p l c (ms.map zH)
 fq:∀ m,m∈ms->SL h b 117 2 m.p m.l m.c (m.x.ai.map df)
 ap:ms.Pairwise fun x y=>∀ i,i∈aR x.p->∀ j,j∈aR y.p->i<j
 dj:∀ m,m∈ms->∀ j,j∈aR m.p->j∉aR p
def q8.an {ws:List Nat} {h h':Hp} {b:Nat} {p:Xac} {l c:Nat} {ms:List cL} (o:q8 h b p l c ms) (k:Ch ws h h') (hw:∀ i,i∈ws->i<b\/h.size<=i):q8 h' b p l c ms :=
 ⟨o.out.bP k (fun i hi h=>by have:=o.out.cv hi; have:=hw i h; omega),fun m hm=>(o.fq m hm).bP k (fun i hi h=>by have:=(o.fq m hm).cv hi; have:=hw i h; omega),o.ap,o.dj⟩
def CY {h:Hp} {b:Nat} {p:Xac} {l c:Nat} {ms:List cL} (o:q8 h b p l c ms):uf h p l ms :=
 ⟨by rw [o.out.1,Yu],fun i hi=>by
  obtain ⟨a,d,hc⟩:=o.out.cells (i:=i) (by simpa using hi);rw [YE] at hc;exact ⟨a,d,hc⟩,fun m hm=>wN (o.fq m hm)⟩
def Cg:Tryz.prog.underlying 44=some (.slice 100):=az
def KO:(Tryz.prog.info? 100).map (fun i=>(i.zero,i.size,i.bytes))=some (some (.agg #[.string ⟨#[]⟩,.slice none 0 0,.int .u32 0]),3,48):=az
def q8.push {h h1:Hp} {b:Nat} {p p':Xac} {l l' c c':Nat} {ms:List cL} (o:q8 h b p l c ms) {m:cL} (hm:SL h b 117 2 m.p m.l m.c (m.x.ai.map df)) (u:∀ i,i∈aR m.p->(∀ y,y∈ms->∀ j,j∈aR y.p->j<i)/\i∉aR p)
  (s':SL h1 b 100 3 p' l' c' ((ms++[m]).map zH)) (k:Ch (aR p) h h1) (U:∀ i,i∈aR p'->i∈aR p\/h.size<=i):q8 h1 b p' l' c' (ms++[m]):=by
 have G:∀ y,y∈ms++[m]->∀ j,j∈aR y.p->j∉aR p/\j<h.size:=by
  intro y F j d;rcases YN.1 F with h | h
  ·exact ⟨o.dj y h j d,((o.fq y h).cv d).2⟩
  ·rw [YP.1 h] at d;exact ⟨(u j d).2,(hm.cv d).2⟩
 refine ⟨s',fun y F=>?_,?_,fun y F j d J=>?_⟩
 ·have O:=G y F;rcases YN.1 F with h | h
  ·exact (o.fq y h).bP k fun i hi=>(O i hi).1
  ·have h:=YP.1 h;subst h;exact hm.bP k fun i hi=>(O i hi).1
 ·rw [List.pairwise_append];refine ⟨o.ap,List.pairwise_singleton _ _,fun y F z V i hi j d=>?_⟩;rw [YP.1 V] at d;exact (u j d).1 y F i hi
 ·have:=G y F j d
  rcases U j J with h | h
  ·exact this.1 h
  ·omega
structure XG (r:SF) (es:List cL) (i:Nat) (p:Xac) (l c:Nat) (f:Xaa->Option rK) (ms:List cL) (h:Hp):Prop where
 dn:Tq r h es f
 own:q8 h (r.V+1) p l c ms
 ms:ms.map (fun m=>(m.name,m.x))=(es.take i).map (fun e=>(e.name,eU es e.name))
 dd:∀ s y,f s=some y->∀ j,j∈aR y.p->j∉aR p
def Tz (es:List cL) (h:Hp) (w:Xab) (h':Hp):Prop :=
 (∃ i,∃ hi:i<es.length,kB (dp es) es[i].name/\(∀ j,(d:j<i)->¬ kB (dp es) es[j].name)/\w=.tuple #[.slice none 0 0,.int .i64 (i:Int),.int .i64 24]) \/
 ((∀ v,¬ kB (dp es) v)/\∃ p' l' c' ms,w=.tuple #[.slice p' l' c',.int .i64 0,.int .i64 0]/\q8 h' h.size p' l' c' ms/\ms.map (fun m=>(m.name,m.x))=es.map (fun e=>(e.name,eU es e.name)))
abbrev Wl:List fI:=[(false,[.slice 0]),(false,[.int .i64]),(false,[.int .i64]),(false,[.int .i64])]
def FF {h:Hp} {p:Xac} {l c:Nat} {es:List cL} (v:uf h p l es) (eo:tM es) (hp:∀ i,i∈aR p->i<h.size) (hlen:es.length<=2^20) :
  HC Tryz.prog 37 #[.slice p l c] h fun w h'=>Tz es h w h'/\Ext h h':=by
 refine aY (args:=[.slice p l c]) mixed Tryz.func37 az (A9 p l c) ?_;unfold xN bf bg bz aK bJ eA bt bU aH bn bq bX aP dl;have hown:=eh es;have hll:=v.len;refine br ?_;intro h1 b1 e1 z1;refine af b1 ((p,l,c),()) rfl (ak ?_);refine aI (HV (c:=c) (v.an e1) eo.toEqsOk (fun i hi=>by have:=hp i hi; omega)) ?_;rintro _ h2 ⟨⟨g,n,rfl,mB,hg⟩,e2⟩;refine ⟨(some g,()),rfl,ak ?_⟩;have J:=HD (succ:=cM (dh es)) eo.nodup (fun s=>(hown s).1);generalize (Gv (cz es) (cM (dh es)) (bd es)).back=back at mB J;have b2:=b1.an e2 aj;have e02:=e1.trans e2;refine af b2 ((p,l,c),()) rfl (ak ?_);refine aS (cs:=Wl) (fun x w h'=>∃ i:Nat,x.2.2.2.1=(i:Int)/\i<=es.length/\w=es.length-i/\(∀ j,(d:j<i)->∀ hl:j<es.length,¬ kB (dp es) es[j].name)/\Ext h2 h') ((none,0,0),(0:Int),(0:Int),(0:Int),()) es.length rfl ⟨0,rfl,ad,ad,fun j d=>ad,Ch.refl _ _⟩ ?_;rintro ⟨⟨p9,l10,l11⟩,n12,n13,n14,⟨⟩⟩ w h3 ⟨i,hi,hile,rfl,hno,e3⟩;simp only at hi;subst hi;refine ak ?_;have e03:=e02.trans e3;refine aM (fun g1=>?_) (fun g1=>?_)
 ·have F:i<es.length:=ad
  refine ax ⟨ad,ad⟩ ?_;obtain ⟨a,ha,hc⟩:=(v.an e03).cells i F;refine av ha ?_;rw [show Int.toNat (i:Int)=i from ad];have hes:∀ s,kB (dp es) es[i].name↔kB (dp es) es[i].name:=fun s=>Iff.rfl
  generalize hee:es[i]=e at hc hes;refine ay (e.name,(e.p,e.l,e.c),(e.x.num:Int),()) hc (ak ?_);refine br ?_;intro h4 b4 e4 z4;refine aw b4 rfl aj ?_;intro h5 b5 k5 z5;have b5:bI h5 h3.size 100 [.string e.name,.slice e.p e.l e.c,.int .u32 e.x.num]:=b5;have e35:Ext h3 h5:=bQ e4 k5;refine af b5 (e.name,()) rfl (ak ?_);refine Nk ((mB.an e3 aj).an e35 aj) e.name ?_;refine ar (fun g2=>?_) (fun g2=>?_)
  ·have g2:(back e.name).getD false=true:=g2;refine ⟨.inl ⟨i,F,?_,fun j d=>hno j d ad,rfl⟩,e03.trans e35⟩;rw [hee];exact (J _).1 g2
  ·have g2:(back e.name).getD false=false:=g2;have hw:=gu i;refine aG (cs:=Wl) ((p9,l10,l11),n12,n13,((i+1:Nat):Int),()) (es.length-(i+1)) rfl ad (by rw [hw]; rfl) ⟨i+1,rfl,ad,rfl,fun j d hl=>?_,e3.trans e35⟩
   by_cases hji:j=i
   ·subst hji;rw [hee];intro hc
    have:=(J _).2 hc
    rw [g2] at this; cases this
   ·exact hno j ad hl
 ·have hc:∀ v,¬ kB (dp es) v:=by
   intro s hs;obtain ⟨j,d,hjs⟩:=Y0 ((hown s).1 hs.Sq);have hj':j<es.length:=by simpa [bd] using d
   have:es[j].name=s:=by rw [<- hjs]; simp [bd]
   exact hno j ad hj' (by rw [this]; exact hs)
  have b3:=b2.an e3 aj;refine af b3 ((p,l,c),()) rfl (ak ?_);refine aI (zT (v.an e03) eo.len eo.nodup eo.sz) ?_;rintro _ h4 ⟨⟨gA,rfl,mA,hgA⟩,e4⟩;refine ⟨(some gA,()),rfl,ak ?_⟩;have hgA4:=mA.lt;refine br ?_;intro h5 b5 e5 z5;refine aw b5 rfl aj ?_;intro h6 b6 k6 z6;have b6:bI h6 h4.size 89 [.map (some gA)]:=b6;have e46:Ext h4 h6:=bQ e5 k6;refine yy (en:=eL) ?_;intro h7 m7 e7 z7;refine br ?_;intro h8 b8 e8 z8;refine aw b8 rfl aj ?_;intro h9 b9 k9 z9;have b9:bI h9 h7.size 149 [.map (some h6.size)]:=b9;have e79:Ext h7 h9:=bQ e8 k9;refine br ?_;intro h10 b10 e10 z10;refine aw b10 rfl aj ?_;intro h11 b11 k11 z11;have e911:Ext h9 h11:=bQ e10 k11;have e711:=e79.trans e911;have e611:=e7.trans e711;have e411:=e46.trans e611;have e011:=(e03.trans e4).trans e411;have hz4:=e4.size;have hz3:=e3.size;have hz2:=e2.size;generalize hr:(⟨h.size,gA,h4.size,h6.size,h7.size,h9.size⟩:SF)=r;have ho:r.ord:=by
   subst hr;unfold SF.ord;dsimp only;omega
  have hrE:r.E=h.size:=by subst hr; rfl
  have hrV:r.V+1=h11.size:=by subst hr; dsimp only; omega
  have hrV':r.V=h9.size:=by subst hr; rfl
  have hrD:r.gD=h6.size:=by subst hr; rfl
  have co:Ve r h11 es p l c:=by
   subst hr;exact ⟨(b3.an (e4.trans e411) aj),b6.an e611 aj,⟨_,mA.an e411 aj⟩,b11,b9.an e911 aj,v.an e011⟩
  have dn:Tq r h11 es (fun _=>none):=⟨⟨0,(by rw [hrD]; exact m7.an e711 aj),fun s y hy=>by cases hy⟩,fun s y hy=>by cases hy⟩
  have lo:XI r es p:=⟨ho,fun i hi=>by rw [hrE]; exact hp i hi,fun e he hne i hi=>by rw [hrE]; exact (v.fq e he).U4 hne i hi⟩
  have o':=ho;unfold SF.ord at o';rw [show (⟨h.size,0,none⟩:Xax)=bx r.E by rw [hrE],show (⟨h9.size,0,none⟩:Xax)=bx r.V by rw [hrV']];refine af co.bE ((p,l,c),()) rfl (ak ?_);refine aS (cs:=[(false,[.slice 0]),(false,[.int .i64])]) (fun x w h'=>∃ (i:Nat) (p':Xac) (l' c':Nat) (f:Xaa->Option rK) (ms:List cL),x.1=(p',l',c')/\x.2.1=(i:Int)/\i<=es.length/\w=es.length-i/\XG r es i p' l' c' f ms h'/\Ch [r.gD] h11 h')
   ((none,0,0),(0:Int),()) es.length rfl ⟨0,none,0,0,_,[],rfl,rfl,ad,ad,⟨dn,⟨SL.nil _ _ _ _,aj,List.Pairwise.nil,aj⟩,rfl,fun s y hy=>by cases hy⟩,Ch.refl _ _⟩ ?_
  rintro ⟨⟨p26,l27,l28⟩,n29,⟨⟩⟩ w h12 ⟨i,p',l',c',f,ms,hx,hi,hile,rfl,Y,k12⟩;simp only at hx hi;obtain ⟨rfl,rfl,rfl⟩:=hx;subst hi;refine ak ?_;have co12:=co.an lo k12;have hz12:=k12.size;have hmsl:ms.length=i:=by have:=YJ List.length Y.ms; simp at this; omega
  refine aM (fun g2=>?_) (fun g2=>?_)
  ·have F:i<es.length:=ad
   refine ax ⟨ad,ad⟩ ?_;obtain ⟨a,ha,hcc⟩:=co12.vw.cells i F;refine av ha ?_;rw [show Int.toNat (i:Int)=i from ad];have htk:es.take (i+1)=es.take i++[es[i]]:=Yw F;have Z:es[i].name∈bd es:=YT (YD F);generalize es[i]=e at hcc htk Z;refine ay (e.name,(e.p,e.l,e.c),(e.x.num:Int),()) hcc (ak ?_);refine br ?_;intro h13 b13 e13 z13;refine aw b13 rfl aj ?_;intro h14 b14 k14 z14;have b14:bI h14 h12.size 100 [.string e.name,.slice e.p e.l e.c,.int .u32 e.x.num]:=b14;have u:Ext h12 h14:=bQ e13 k14;have co14:=co12.an lo (u.mono aj);have dn14:=Y.dn.ext u;have own14:=Y.own.an u aj;refine af co14.bV (.func (.func 65) #[] r.tU.toArray,()) rfl (ak ?_);refine af b14 (e.name,()) rfl (ak ?_);refine rD (cap:=r.tU) TK rfl (ML eo lo hc (bd es).length e.name (HK hown hc Z) Z h14 f co14 dn14) ?_;rintro _ h15 ⟨y,f15,rfl,hyx,dn15,hfy,sb15,na15,k15⟩;refine ⟨((y.p,y.l,y.c),(y.x.num:Int),()),rfl,ak ?_⟩;have own15:=own14.an k15 (fun i hi=>.inl (by simp at hi; omega));have co15:=co14.an lo k15;have hz15:=k15.size;have b15:=b14.an k15 (by simp; omega);obtain ⟨n15,m15⟩:=dn15.map;have hyv:=m15.fq _ y hfy;refine br ?_;intro h16 b16 e16 z16;refine aw b16 rfl aj ?_;intro h17 b17 k17 z17;have b17:bI h17 h15.size 69 [.slice y.p y.l y.c,.int .u32 (y.x.num:Int)]:=b17;have G:Ext h15 h17:=bQ e16 k17;have b1417:=b15.an G aj;refine af b1417 (e.name,()) rfl (ak ?_);refine af b17 ((y.p,y.l,y.c),()) rfl (ak ?_);rw [aE];refine af b17 ((y.x.num:Int),()) rfl (ak ?_);have hyl:y.x.ai.length<=2^20:=by rw [hyx]; exact eo.D1 hc Z
   refine aI (Gq (c:=y.c) (hyv.an G aj) ad) ?_;rintro _ h18 ⟨⟨pc,lc,cc,rfl,sc⟩,e18⟩;refine ⟨((pc,lc,cc),()),rfl,ak ?_⟩;have O:=G.trans e18;have own18:=own15.an O aj;have U:=b1417.an e18 aj;have X:=b17.an e18 aj;have dn18:=dn15.ext O;have hz17:=G.size;have hz18:=e18.size;have stB:∀ h',bI h' h12.size 100 [.string e.name,.slice e.p e.l e.c,.int .u32 e.x.num]->bI h' h15.size 69 [.slice y.p y.l y.c,.int .u32 (y.x.num:Int)]->T.BC h' [(⟨h15.size,0+1,none⟩,[.int .u32 (y.x.num:Int)]),(⟨h15.size,0,none⟩,[.slice y.p y.l y.c]),(⟨h12.size,0,none⟩,[.string e.name])] :=
    fun h' b1 b2=>⟨b2.cells _ rfl,b2.cells _ rfl,b1.cells _ rfl,trivial⟩
   refine ⟨⟨X.cells _ rfl,U.cells _ rfl,trivial⟩,?_⟩;have hol:l27=ms.length:=by rw [Y.own.out.1,Yu]
   refine gU (vs:=zH ⟨e.name,pc,lc,cc,y.x⟩) Cg KO rfl ad ad az rfl rfl own18.out ad ad ad (fun h' ex=>stB h' (U.an ex aj) (X.an ex aj)) ?_;intro p' c' h19 s19 k19 hp19;have hbb:∀ j,j∈aR p26->r.V<j/\j<h12.size:=fun j d=>by have:=Y.own.out.cv d; omega
   refine ⟨stB h19 (U.an k19 (fun d=>by have:=hbb _ d; omega)) (X.an k19 (fun d=>by have:=hbb _ d; omega)),?_⟩;have hw:=gu i;have hp19':∀ j,j∈aR p'->j∈aR p26\/h18.size<=j:=by
    intro j d;rcases hp19 with h | ⟨a,h,hle⟩
    ·rw [h] at d; exact .inl d
    ·rw [h] at d; simp [aR] at d; subst d; exact .inr hle
   refine aG (cs:=[(false,[.slice 0]),(false,[.int .i64])]) ((p',l27+1,c'),((i+1:Nat):Int),()) (es.length-(i+1)) rfl ad (by rw [hw]; rfl)
    ⟨i+1,p',l27+1,c',f15,ms++[⟨e.name,pc,lc,cc,y.x⟩],rfl,rfl,ad,rfl,⟨?_,?_,?_,fun s z hz j d hjp=>?_⟩,?_⟩
   ·obtain ⟨n18,m18⟩:=dn18.map;refine ⟨⟨n18,m18.an k19 (fun d=>by have:=hbb _ d; omega) (fun s z hz j d=>?_)⟩,fun s z hz=>?_⟩
    ·rcases na15 s z hz with h | h
     ·exact Y.dd s z h j d
     ·intro hjp
      have:=h j d
      have:=hbb j hjp
      have:=u.size
      omega
    ·obtain ⟨a,b,c⟩:=dn18.of s z hz;refine ⟨a,b,fun i hi=>?_⟩
     have:=c i hi
     have:=k19.size
     omega
   ·refine own18.push (m:=⟨e.name,pc,lc,cc,y.x⟩) (sc.mono ad) (fun j d=>?_) (by simpa using s19) k19 hp19';have hj2:=sc.cv d;refine ⟨fun z hz k hk=>?_,fun hjp=>?_⟩
    ·have:=((own15.fq z hz).cv hk).2
     omega
    ·have:=hbb j hjp
     have:=u.size
     omega
   ·rw [YH,Y.ms,htk,YH];show _++[(e.name,y.x)]=_;rw [hyx] <;> rfl
   ·rcases hp19' j hjp with h | h
    ·rcases na15 s z hz with k | k
     ·exact Y.dd s z k j d h
     ·have:=k j d
      have:=hbb j h
      have:=u.size
      omega
    ·have:=((dn18.of s z hz).2.2 j d).2
     omega
   ·refine Ch.trans (Ch.trans (Ch.trans (Ch.trans k12 u aj) k15 (fun j d _=>d)) O aj) k19 (fun j d hl=>?_)
    have:=(Y.own.out.cv d).1
    omega
  ·have htk:es.take i=es:=YW ad;have hms:=Y.ms;rw [htk] at hms;have hr11:=e011.size;refine ⟨.inr ⟨hc,p26,l27,l28,ms,rfl,⟨Y.own.out.mono ad,fun m hm=>(Y.own.fq m hm).mono ad,Y.own.ap,Y.own.dj⟩,hms⟩,Ch.trans e011 k12 (fun j d hl=>?_)⟩;simp at d;omega
def xt (es:List cL) (s:Xaa):Option rK:=((kE es s).bind fun k=>es[k]?).map fun e=>⟨e.p,e.l,e.c,e.x⟩
def xA {es:List cL} {s:Xaa} {y:rK} (h:xt es s=some y):∃ e,e∈es/\e.name=s/\y=⟨e.p,e.l,e.c,e.x⟩/\dh es s=e.x:=by
 unfold xt at h;cases d:kE es s with
 | none=>rw [d] at h; cases h
 | some k =>
  obtain ⟨hk,h1,h2⟩:=oL d;rw [d,ZM,Yv hk] at h;exact ⟨_,YD hk,h1,(YR h).symm,h2⟩
def J6 {es:List cL} {e:cL} (hn:∀ d,d∈es->d.name≠e.name):xt (es++[e])=dH (xt es) e.name ⟨e.p,e.l,e.c,e.x⟩:=by
 funext s
 unfold xt;rw [FN hn]
 by_cases h:s=e.name
 ·subst h;rw [cF,cF,ZM,Y5 ad]
  simp
 ·rw [cg _ _ h,cg _ _ h];cases j:kE es s with
  | none=>rfl
  | some k =>
   obtain ⟨hk,_,_⟩:=oL j;rw [ZM,ZM,Za hk]
def cy (es:List cL) (s:Xaa):Option cn:=if cz es s=true then some (dh es s) else none
def Ul (es:List cL):(fun s=>(xt es s).map (·.x))=cy es:=by
 funext s
 unfold cy cz;cases d:kE es s with
 | none=>simp [xt,d]
 | some k =>
  obtain ⟨hk,_,h2⟩:=oL d;simp only [Option.isSome_some,if_true];rw [h2];unfold xt;rw [d,ZM,Yv hk] <;> rfl
def MM {h:Hp} {p:Xac} {l c:Nat} {x:cn} (v:gW h p l x.ai) {q:Xac} {m d:Nat} {es:List cL} (u:uf h q m es) (eo:EqsOk es) (het:∀ e,e∈es->e.x.ai.length<=2^20) (htot:(es.flatMap (·.x.ai)).length<=2^39) (hlen:es.length<=2^20) (hxl:x.ai.length<=2^20) (Y:∀ t,t∈x.ai->t.1.size<=maxLen) :
  HC Tryz.prog 38 #[iI p l c x,.slice q m d] h fun w h'=>(∃ p' l' c',w=iI p' l' c' (mF (de (cy es) x) uq)/\SL h' h.size 117 2 p' l' c' ((mF (de (cy es) x) uq).ai.map df))/\Ext h h':=by
 refine aY (args:=[iI p l c x,.slice q m d]) mixed Tryz.func38 az (DI p l c x.num q m d) ?_;unfold CG bf bg bz aK bJ bU aH bq bX aP;have hll:=u.len;refine br ?_;intro h1 b1 e1 z1;refine br ?_;intro h2 b2 e2 z2;refine yy (en:=eL) ?_;intro h3 m3 e3 z3;have b13:=(b1.an e2 aj).an e3 aj;have b23:=b2.an e3 aj;have e03:=(e1.trans e2).trans e3;refine aS (cs:=[(false,[.int .i64])]) (fun y w h'=>∃ (i:Nat) (n:Nat),y.1=(i:Int)/\i<=es.length/\w=es.length-i/\dQ eL h' h2.size (xt (es.take i)) n/\Ch [h2.size] h3 h') ((0:Int),()) es.length rfl
  ⟨0,0,rfl,ad,ad,m3,Ch.refl _ _⟩ ?_
 rintro ⟨n5,⟨⟩⟩ w h4 ⟨i,n,hi,hile,rfl,m4,Z⟩;simp only at hi;subst hi;refine ak ?_;have G:Ext h h4:=bQ e03 Z;have hz4:=Z.size;refine aM (fun g1=>?_) (fun g1=>?_)
 ·have J:i<es.length:=ad
  refine ax ⟨ad,ad⟩ ?_;obtain ⟨a,ha,hc⟩:=(u.an G).cells i J;refine av ha ?_;rw [show Int.toNat (i:Int)=i from ad];have htk:es.take (i+1)=es.take i++[es[i]]:=Yw J;have hsz:=eo.sz es[i] (YD J);have hnd:∀ d,d∈es.take i->d.name≠es[i].name:=by
   intro d hd V;obtain ⟨j,hj,rfl⟩:=Y0 hd;rw [YQ] at hj;rw [List.getElem_take] at V;have hn:(es.map (·.name)).Nodup:=eo.nodup;exact am9.1 hn j i (by rw [Yu]; omega) (by rw [Yu]; omega) ad (by simpa using V)
  generalize es[i]=e at hc htk hsz hnd;refine ay (e.name,(e.p,e.l,e.c),(e.x.num:Int),()) hc (ak ?_);refine br ?_;intro h5 b5 e5 z5;refine aw b5 rfl aj ?_;intro h6 X k6 z6;have X:bI h6 h4.size 100 [.string e.name,.slice e.p e.l e.c,.int .u32 e.x.num]:=X;have e46:Ext h4 h6:=bQ e5 k6;refine af X (e.name,()) rfl (ak ?_);rw [aE];refine af X ((e.p,e.l,e.c),(e.x.num:Int),()) rfl (ak ?_);refine Ms (m4.an e46 aj) hsz ⟨e.p,e.l,e.c,e.x⟩ ?_;intro h7 m7 k7 z7;have hw:=gu i;refine aG (cs:=[(false,[.int .i64])]) (((i+1:Nat):Int),()) (es.length-(i+1)) rfl ad (YJ (fun z=>[Value.int .i64 z]) hw) ⟨i+1,_,rfl,ad,rfl,by rw [htk,J6 hnd]; exact m7,Ch.trans (Ch.trans Z e46 aj) k7 (fun j hj _=>hj)⟩
 ·have hii:es.take i=es:=YW ad;rw [hii] at m4;have b14:=b13.an Z (by simp; omega);have b24:=b23.an Z (by simp; omega);refine af b14 ((p,l,c),(x.num:Int),()) rfl (ak ?_);have mL:G9 h4 h2.size (xt es) n:=⟨m4,fun s y O=>by
   obtain ⟨e,V,_,rfl,_⟩:=xA O;exact (u.fq e V).an G aj⟩
  have U:∀ s y,xt es s=some y->y.x.ai.length<=2^20:=fun s y O=>by
   obtain ⟨e,V,_,rfl,_⟩:=xA O;exact het e V
  have hz0:=G.size
  refine aI (EL (c:=c) (v.an G aj) mL ad Y (fun s y O=>⟨by have:=U s y O; omega,by
    obtain ⟨e,V,_,rfl,_⟩:=xA O;exact eo.ts e V⟩) ?_) ?_
  ·have:=qf (of:=fun s=>(xt es s).map (·.x)) (B:=2^20) ad (fun s y O=>by
    cases hh:xt es s with
    | none=>simp only [hh] at O; cases O
    | some z =>
     simp only [hh,Option.map_some,Option.some.injEq] at O;rw [<- O]; exact U s z hh) x.ai
   exact Zq this (Zq (ZC _ hxl) cm)
  ·rintro _ h5 ⟨⟨p5,l5,c5,rfl,s5⟩,e5⟩;rw [Ul] at s5 ⊢;have hlp:(de (cy es) x).ai.length<=2^40:=by
    have hn:=eR (cy es) x;have h1:((de (cy es) x).ai.map (·.1)).Nodup:=Zw.2 (hn.1.imp fun h=>kD h);have h2:=lG ((de (cy es) x).ai.map (·.1)) ((x.ai++es.flatMap (·.x.ai)).map (·.1)) h1 (fun s hs=>by
     obtain ⟨t,ht,rfl⟩:=YF.1 hs;rcases sB ht with ⟨p,hp,e,_⟩ | ⟨p,y,u,hp,F,hu,e⟩
     ·rw [<- e]; exact YT (Y3 _ hp)
     ·rw [<- e];refine YT (Y8 _ ?_);unfold cy at F
      by_cases hw:cz es p.1=true
      ·rw [YC hw] at F;obtain ⟨d,hd,_,hx⟩:=mf ((eh es _).1 hw);have F:=YR F;rw [<- F,hx] at hu;exact bp9.2 ⟨d,hd,hu⟩
      ·rw [Yx hw] at F; cases F)
    rw [Yu,Yu,Yy] at h2;omega
   refine ⟨((p5,l5,c5),((de (cy es) x).num:Int),()),rfl,ak ?_⟩;have hsz5:∀ t,t∈(de (cy es) x).ai->t.1.size<=maxLen:=by
    intro t ht;rcases sB ht with ⟨p,hp,e,_⟩ | ⟨p,y,u,hp,F,hu,e⟩
    ·rw [<- e]; exact Y p hp
    ·unfold cy at F
     by_cases hw:cz es p.1=true
     ·rw [YC hw] at F;obtain ⟨d,hd,_,hx⟩:=mf ((eh es _).1 hw);have F:=YR F;rw [<- F,hx] at hu;rw [<- e]; exact eo.ts d hd u hu
     ·rw [Yx hw] at F; cases F
   have ha:=TM (h:=h5) (p:=p5) (q:=none) (l:=l5) (c:=c5) (m:=0) (d:=0) (x:=de (cy es) x) (y:=uq) (wN s5) ⟨rfl,fun i hi=>by simp [uq] at hi⟩ (fun i hi=>(s5.cv hi).2) (fun i hi=>by simp [aR] at hi) (by simpa [uq] using hlp) hsz5 (fun t ht=>by simp [uq] at ht);refine aI ha ?_;rintro _ h6 ⟨e6,p6,l6,c6,rfl,s6⟩;refine ⟨((p6,l6,c6),((mF (de (cy es) x) uq).num:Int),()),rfl,ak ?_⟩;have X:=(b24.an e5 aj).an e6 aj;have hz5:=e5.size;refine aw X rfl aj ?_;intro h7 b7 k7 z7;have b7:bI h7 h1.size 69 [.slice p6 l6 c6,.int .u32 ((mF (de (cy es) x) uq).num:Int)]:=b7;refine af b7 ((p6,l6,c6),((mF (de (cy es) x) uq).num:Int),()) rfl ?_;have e06:=(G.trans e5).trans e6;exact ⟨⟨p6,l6,c6,rfl,(s6.bP k7 (fun j hj=>by have:=(s6.cv hj).1; simp; omega)).mono ad⟩,bQ e06 k7⟩
def yd {x:cn} (h:Nf x.ai) (hn:x.num<4294967296):mF x uq=x:=by
 unfold mF uq;simp only [List.append_nil,Nat.add_zero,EW h,Nat.mod_eq_of_lt hn]
end Go.Sx
namespace Go.Sx.Ob
open Go.Proofs
abbrev Ky:=Nat × Xaa
def PI (k:Ky):Xab:=.agg #[.int .i64 (k.1:Int),.string k.2]
def MH (b:Bool) (n:Int) (s:Xaa) (h:Hp) (K:Unit->Hp->Prop):aU Tryz.prog (Instr.checkKey b 10000 105 (.agg #[.int .i64 n,.string s])) h K=K () h:=az
def Mv:Tryz.prog.underlying 105=some (.struct (Es Tryz.prog 105)):=az
def TR:Tryz.prog.stoodInHeld 105=false:=az
def VE (n m:Int) (s t:Xaa):(Es Tryz.prog 105).all (okF Tryz.prog #[.int .i64 n,.string s] #[.int .i64 m,.string t])=true:=az
def UU (n m:Int) (s t:Xaa):(Es Tryz.prog 105).all (H4 #[.int .i64 n,.string s] #[.int .i64 m,.string t])=(n==m && (s==t && true)):=by
 rw [<- ZV]
 kernel_rfl
def WZ:Bs Tryz.prog 105 PI where
 check b a h K hk:=by rw [show PI a=.agg #[.int .i64 (a.1:Int),.string a.2] from rfl,MH]; exact hk
 kind:=⟨_,Mv,fun a b=>rfl⟩
 eqv a b h K hk:=by
  show aU Tryz.prog (Op.equal 105 (.agg #[.int .i64 (a.1:Int),.string a.2]) (.agg #[.int .i64 (b.1:Int),.string b.2])) h K;rw [pX Mv TR (VE _ _ _ _),UU];have e:decide (a=b)=(((a.1:Nat):Int)==((b.1:Nat):Int) && (a.2==b.2 && true)):=by
   obtain ⟨d,a2⟩:=a;obtain ⟨b1,j⟩:=b;show decide ((d,a2)=(b1,j))=(((d:Nat):Int)==((b1:Nat):Int) && (a2==j && true));rw [xc,ZK];simp only [Prod.mk.injEq]
   by_cases h1:d=b1
   ·by_cases h2:a2=j
    ·simp [h1,h2]
    ·simp [h1,h2]
   ·have:¬ ((d:Nat):Int)=b1:=ad
    simp only [h1,false_and,decide_false]
    have:(((d:Nat):Int)==((b1:Nat):Int))=false:=by simpa using this
    rw [this,bu9]
  rw [<- e];exact hk
 bits a:=by
  show ((2:Nat)==2 && _)=true;simp [Instr.sameBits,PI,xc]
 inj a b h:=by
  obtain ⟨d,a2⟩:=a;obtain ⟨b1,j⟩:=b;simp only [PI,Value.agg.injEq,Array.mk.injEq,List.cons.injEq,Value.int.injEq,Value.string.injEq,and_true,true_and] at h;rw [Prod.mk.injEq];exact ⟨ad,h.2⟩
def SL.part {P:Program} {L:Lp} {K:Xab->Hp->Prop} {k:T} {h:Hp} {b:Nat} {e:TypeId} {sz:Nat} {p:Xac} {l c:Nat} {xs:List (List Xab)} (s:SL h b e sz p l c xs) {i:Nat} (hi:i<xs.length) {vs:List Xab} {o:Nat} (Z:o+vs.length<=sz)
  (U:vs.all cU=true) {a:Xax} (V:p=some a) (hk:∀ h',SL h' b e sz p l c (xs.set i (lh xs[i] o vs))->Ch (aR p) h h'->h'.size=h.size->k L K h'):T.aC ((a.add (i*sz)).add o) vs k L K h:=by
 subst V;obtain ⟨g,d,rest,rfl,G,J,j,X⟩:=s.2.2;have O:xs[i].length=sz:=s.2.1 _ (YD hi);have hx:(xs.take i).flatten.length=i*sz:=by
  rw [ep _ (fun x hx=>s.2.1 x (ZB hx)),YQ,Zz ad]
 have hs:xs[i]=xs[i].take o++((xs[i].drop o).take vs.length++xs[i].drop (o+vs.length)):=by
  rw [<- List.drop_drop,Zc,Zc]
 have e0:xs.flatten=(xs.take i).flatten++(xs[i]++(xs.drop (i+1)).flatten):=by
  conv=>lhs; rw [<- Zc i xs,YK hi]
  rw [aq9,Z0]
 have e1:d++(xs.flatten++rest)=(d++(xs.take i).flatten++xs[i].take o)++((xs[i].drop o).take vs.length++(xs[i].drop (o+vs.length)++((xs.drop (i+1)).flatten++rest))):=by
  rw [e0]
  conv=>lhs; rw [hs]
  simp only [List.append_assoc]
 have la:lh xs[i] o vs=xs[i].take o++(vs++xs[i].drop (o+vs.length)):=by rw [nk _ _ _ ad,YV]
 have e2:(xs.set i (lh xs[i] o vs)).flatten=(xs.take i).flatten++((lh xs[i] o vs)++(xs.drop (i+1)).flatten):=by
  rw [List.set_eq_take_append_cons_drop,YC hi]
  simp
 rw [e1] at j;rw [aE,aE];have u:(d++(xs.take i).flatten++xs[i].take o).length=d.length+i*sz+o:=by rw [Yy,Yy,hx,YQ,Zz ad]
 rw [<- u];refine aw j U (by simp; omega) ?_;intro h' F k' Y;rw [zi (by rw [YQ,Zl]; omega)] at F;refine hk h' ⟨by rw [Zy]; exact s.1,fun x hx=>?_,g,d,rest,rfl,G,J,?_,X⟩ (by simpa [aR] using k') Y
 ·rcases ZH hx with hx | rfl
  ·exact s.2.1 x hx
  ·rw [nj]; exact O
 ·rw [e2,la];simpa [List.append_assoc] using F
def Jz:Tryz.prog.underlying 88=some (.map 105 3):=az
def SH:(Tryz.prog.info? 3).bind (·.zero)=some (.int .i64 0):=az
abbrev Gz (h:Hp) (g:Nat) (f:Ky->Option Nat) (n:Nat):Prop:=Ab PI eI h g f n
section
variable {L:Lp} {K:Xab->Hp->Prop} {h:Hp} {g n:Nat} {f:Ky->Option Nat}
def GF (m:Gz h g f n) (u:Nat) (s:Xaa) {k:Int->Bool->T} (hk:k (((f (u,s)).getD 0:Nat):Int) (f (u,s)).isSome L K h):T.ek Tryz.prog (Instr.lookup 88 (.map (some g)) (.agg #[.int .i64 (u:Int),.string s]) true) true [(false,[.int .i64]),(false,[.bool])] k L K h:=by
 obtain ⟨D,m,d,hn⟩:=m;show aU Tryz.prog (Instr.lookup 88 (.map (some g)) (PI (u,s)) true) h _;refine vG WZ Jz SH m (u,s) true _ ?_;refine ⟨((((f (u,s)).getD 0:Nat):Int),(f (u,s)).isSome,()),?_,hk⟩;rw [YC rfl,wQ,d (u,s)]
 all_goals (cases f (u,s) <;> rfl)
def Uw (m:Gz h g f n) (u:Nat) (s:Xaa) {k:Int->T} (hk:k (((f (u,s)).getD 0:Nat):Int) L K h):T.ek Tryz.prog (Instr.lookup 88 (.map (some g)) (.agg #[.int .i64 (u:Int),.string s]) false) false [(false,[.int .i64])] k L K h:=by
 obtain ⟨D,m,d,hn⟩:=m;show aU Tryz.prog (Instr.lookup 88 (.map (some g)) (PI (u,s)) false) h _;refine vG WZ Jz SH m (u,s) false _ ?_;refine ⟨((((f (u,s)).getD 0:Nat):Int),()),?_,hk⟩;simp only [Bool.false_eq_true,if_false];rw [wQ,d (u,s)]
 all_goals (cases f (u,s) <;> rfl)
def SD (m:Gz h g f n) (u:Nat) (s:Xaa) {v:Int} {w:Nat} (hv:v=(w:Int)) {k:T} (hk:∀ h',Gz h' g (yD f (u,s) w) (if (f (u,s)).isSome then n else n+1)->Ch [g] h h'->h'.size=h.size->k L K h') :
  T.ey Tryz.prog (Instr.mapUpdate 88 (.map (some g)) (.agg #[.int .i64 (u:Int),.string s]) (.int .i64 v)) k L K h:=by
 subst hv;exact WH (en:=eI) WZ Jz m (u,s) w hk
def VQ (m:Gz h g f n) {k:Int->T} (hk:k (n:Int) L K h):T.ek Tryz.prog (Builtin.len_ #[88] 3 #[.map (some g)]) false [(false,[.int .i64])] k L K h:=by
 obtain ⟨D,m,G,hn⟩:=m;obtain ⟨es,clock,j,u,F⟩:=m;have d:es.size=n:=by
  have:=YJ List.length u
  simp only [List.length_map,Array.length_toList] at this;omega
 show aU _ _ _ _;unfold Builtin.len_;simp only [List.getElem?_toArray,List.getElem?_cons_zero];rw [ao,aF Jz];simp only [pure_bind];rw [ao];refine fW j aj _ ?_;simp only [pure_bind];exact ⟨((n:Int),()),by rw [d]; rfl,hk⟩
end
def kZ (n:Nat):Xaa:=⟨(Lib.itoa (n:Int)).toArray⟩
def zp {h:Hp} (p:fS h) (n:Nat) (hn:n<=2^60):HC Tryz.prog 40 #[.int .i64 n] h fun v h'=>v=.string (kZ n)/\Ext h h':=by
 intro W d;subst d;refine (Tryz.strconv_Itoa n ad ad W (H6 az p)).mono ?_;rintro e w' ⟨j,k,os,rfl⟩;refine ⟨_,j,⟨rfl,rfl,rfl⟩,rfl,?_⟩;refine ⟨by show W.heap.size<=(W.heap++os).size; simp,fun i hi _=>?_⟩;show (W.heap++os)[i]?=_;rw [Array.getElem?_append_left hi]
def jw {n:Nat} (hn:n<=2^60):(kZ n).size<=1000:=by
 show (Lib.itoa (n:Int)).toArray.size<=1000
 have:=Lib.itoa_length_le (n:Int) ad ad
 simp
 omega
structure Lb where
 u:Nat
 s:Nat
 i:Nat
 n:Xaa
deriving DecidableEq
def AT (x:Lb):List Xab:=[.int .i64 (x.u:Int),.int .i64 (x.s:Int),.int .i64 (x.i:Int),.string x.n]
structure LW where
 lb:List Lb
 num:Ky->Option Nat
 nn:Nat
 tK:Ky->Option Nat
 ne:Nat
 gl:Xaa->Option Nat
 ng:Nat
def Sz:LW:=⟨[],fun _=>none,0,fun _=>none,0,fun _=>none,0⟩
def LW.has (w:LW) (k:Ky):Bool:=(w.num k).isSome || (w.tK k).isSome
def LW.own (w:LW) (u:Nat) (s:Xaa):Option Ky:=if w.has (u,s) then some (u,s) else (w.gl s).map fun o=>(o,s)
def LW.word (w:LW) (k:Ky):Xaa:=match w.num k with
 | some n=>(⟨#[76]⟩:Xaa)++kZ n
 | none=>(⟨#[69]⟩:Xaa)++kZ ((w.tK k).getD 0)
structure LM (h:Hp) (gN gE gG:Nat) (w:LW):Prop where
 n:Gz h gN w.num w.nn
 e:Gz h gE w.tK w.ne
 g:dQ eI h gG w.gl w.ng
def LM.an {ws:List Nat} {h h':Hp} {gN gE gG:Nat} {w:LW} (m:LM h gN gE gG w) (k:Ch ws h h') (h1:gN∉ws) (h2:gE∉ws) (h3:gG∉ws):LM h' gN gE gG w :=
 ⟨m.n.an k h1,m.e.an k h2,m.g.an k h3⟩
structure PH (w:LW):Prop where
 n:∀ k i,w.num k=some i->i<=2^50
 e:∀ k i,w.tK k=some i->i<=2^50
abbrev PA (h:Hp) (g:Nat) (us lb:cr) (gN gE gG:Nat) (sp:Int):Prop:=bI h g 92 [us.v,lb.v,.map (some gN),.map (some gE),.map (some gG),.slice none 0 0,.int .i64 sp]
section
variable {h:Hp} {g gN gE gG:Nat} {us lb:cr} {sp:Int} {w:LW}
def Ly (b:PA h g us lb gN gE gG sp) (m:LM h gN gE gG w) (u:Nat) (s:Xaa):HC Tryz.prog 89 #[ptr g,.agg #[.int .i64 (u:Int),.string s]] h fun v h'=>v=.bool (w.has (u,s))/\Ext h h':=by
 refine aY (args:=[ptr g,.agg #[.int .i64 (u:Int),.string s]]) mixed Tryz.func89 az (qd (some ⟨g,0,none⟩) u s) ?_;unfold kI bU dy aP bR;refine br ?_;intro h1 b1 e1 z1;have b':=b.an e1 aj;have m':=m.an e1 aj aj aj;refine av rfl ?_;rw [aE];refine af b' (some gN,()) rfl (ak ?_);refine af b1 ((u:Int),s,()) rfl (ak ?_);refine GF m'.n u s ?_;refine av rfl ?_;rw [aE];refine af b' (some gE,()) rfl (ak ?_);refine af b1 ((u:Int),s,()) rfl (ak ?_);refine GF m'.e u s ?_;unfold LW.has;refine ar (fun q=>?_) (fun q=>?_)
 ·exact ⟨by rw [q]; rfl,e1⟩
 ·exact ⟨by rw [q]; rfl,e1⟩
def OG (b:PA h g us lb gN gE gG sp) (m:LM h gN gE gG w) (u:Nat) (s:Xaa):HC Tryz.prog 62 #[ptr g,.int .i64 (u:Int),.string s] h fun v h'=>v=.tuple #[PI ((w.own u s).getD (0,s)),.bool (w.own u s).isSome]/\Ext h h':=by
 refine aY (args:=[ptr g,.int .i64 (u:Int),.string s]) mixed Tryz.func62 az (qc (some ⟨g,0,none⟩) u s) ?_;unfold kU aX bU bn bX aP bR;refine br ?_;intro h1 b1 e1 z1;refine br ?_;intro h2 Y e2 z2;have O:=b1.an e2 aj;refine aw Y rfl aj ?_;intro h3 F X z3;have F:bI h3 h1.size 105 [.int .i64 (u:Int),.string s]:=F;have U:Ext h h3:=bQ (e1.trans e2) X;have G:=O.an X (by simp; omega);refine af F ((u:Int),s,()) rfl (ak ?_);refine aI (Ly (b.an U aj) (m.an U aj aj aj) u s) ?_;rintro _ h4 ⟨rfl,J⟩;refine ⟨(w.has (u,s),()),rfl,ak ?_⟩;have d:=U.trans J;have Z:=F.lt;refine ar (fun q=>?_) (fun q=>?_)
 ·have hw:w.own u s=some (u,s):=by unfold LW.own; rw [YC q]
  rw [hw];refine af (F.an J aj) ((u:Int),s,()) rfl (ak ?_);refine aw (G.an J aj) rfl aj ?_;intro h5 j V z5;have j:bI h5 h.size 105 [.int .i64 (u:Int),.string s]:=j;refine af j ((u:Int),s,()) rfl ?_;exact ⟨rfl,bQ d V⟩
 ·have hw:w.own u s=(w.gl s).map fun o=>(o,s):=by unfold LW.own; rw [Yx (by rw [q]; simp)]
  rw [hw];refine av rfl ?_;rw [aE];refine af (b.an d aj) (some gG,()) rfl (ak ?_);refine Dt (m.an d aj aj aj).g s ?_;refine aw (G.an J aj) rfl aj ?_;intro h5 j V z5;have j:bI h5 h.size 105 [.int .i64 (((w.gl s).getD 0:Nat):Int),.string s]:=j;refine af j ((((w.gl s).getD 0:Nat):Int),s,()) rfl ?_;refine ⟨?_,bQ d V⟩
  all_goals (cases w.gl s <;> rfl)
def B5 (F:fS h) (b:PA h g us lb gN gE gG sp) (m:LM h gN gE gG w) (d:PH w) (u:Nat) (s:Xaa):HC Tryz.prog 35 #[ptr g,.agg #[.int .i64 (u:Int),.string s]] h fun v h'=>v=.string (w.word (u,s))/\Ext h h':=by
 refine aY (args:=[ptr g,.agg #[.int .i64 (u:Int),.string s]]) mixed Tryz.func35 az (oE (some ⟨g,0,none⟩) u s) ?_;unfold kh gS bU aP bR;refine br ?_;intro h1 b1 e1 z1;have b':=b.an e1 aj;have m':=m.an e1 aj aj aj;have j:=F.an e1 aj;refine av rfl ?_;rw [aE];refine af b' (some gN,()) rfl (ak ?_);refine af b1 ((u:Int),s,()) rfl (ak ?_);refine GF m'.n u s ?_;unfold LW.word;cases hn:w.num (u,s) with
 | some n =>
  refine bk rfl ?_;have hs:=d.n _ _ hn;refine aI (zp j n ad) ?_;rintro _ h2 ⟨rfl,e2⟩;refine ⟨(kZ n,()),rfl,ak ?_⟩
  have:=jw (n:=n) ad
  refine ax ad ?_;exact ⟨rfl,e1.trans e2⟩
 | none =>
  refine bG rfl ?_;have hs:(w.tK (u,s)).getD 0<=2^50:=by
   cases G:w.tK (u,s) with
   | none=>simp
   | some i=>exact d.e _ _ G
  refine av rfl ?_;rw [aE];refine af b' (some gE,()) rfl (ak ?_);refine af b1 ((u:Int),s,()) rfl (ak ?_);refine Uw m'.e u s ?_;refine aI (zp j _ ad) ?_;rintro _ h2 ⟨rfl,e2⟩;refine ⟨(kZ ((w.tK (u,s)).getD 0),()),rfl,ak ?_⟩;refine ⟨⟨(b1.an e2 aj).cells _ rfl,(b'.an e2 aj).cells _ rfl,trivial⟩,?_⟩
  have:=jw (n:=(w.tK (u,s)).getD 0) ad
  refine ax ad ?_;exact ⟨rfl,e1.trans e2⟩
end
end Go.Sx.Ob
namespace Go.Sx.Lk
open Go.Proofs Go.Sx.Ob
def qe {es:List cL} (hn:(bd es).Nodup) {e:cL} (j:e∈es):dh es e.name=e.x:=by
 obtain ⟨d,u,h1,h2⟩:=mf (show e.name∈bd es from YT j);rw [h2]
 have:∀ l:List cL,(l.map (·.name)).Nodup->d∈l->e∈l->d=e:=by
  intro l
  induction l with
  | nil=>intro _ h; simp at h
  | cons x l F =>
   intro hn u j;rw [Zb,Z4] at hn;rcases YS.1 u with a | a <;> rcases YS.1 j with b | b
   ·rw [a,b]
   ·exact (hn.1 (by rw [<- a,h1]; exact YT b)).elim
   ·exact (hn.1 (by rw [<- b,<- h1]; exact YT a)).elim
   ·exact F hn.2 a b
 rw [this es hn u j]
def _root_.Go.Sx.Ob.LW.bad (w:LW) (u:Nat) (x:cn):Option Xaa:=(x.ai.find? fun t=>(w.own u t.1).isNone).map (·.1)
def lR (s:Xaa):cn:=⟨[(s,1)],0⟩
def _root_.Go.Sx.Ob.LW.lin (w:LW) (u:Nat) (x:cn):cn:=de (fun s=>(w.own u s).map fun k=>lR (w.word k)) x
structure EN (x:cn):Prop where
 nf:Nf x.ai
 num:x.num<4294967296
 len:x.ai.length<=2^20
 sz:∀ t,t∈x.ai->t.1.size<=maxLen
def kD {a b:Xaa} (h:hY a b):a≠b:=fun e=>by subst e; exact absurd h (by unfold hY; simp)
def EN.nodup {x:cn} (g:EN x):(x.ai.map (·.1)).Nodup:=by
 rw [Z1,Zw];exact g.nf.Tu.imp fun h=>kD h
def RR (w:LW) (u:Nat) (x:cn) (h:Hp) (v:Xab) (h':Hp):Prop :=
 Ext h h'/\match w.bad u x with
 | some s=>v=.tuple #[iI none 0 0 Fx,.string s,.bool false]
 | none=>∃ p l c,v=.tuple #[iI p l c (w.lin u x),.string ⟨#[]⟩,.bool true]/\SL h' h.size 117 2 p l c ((w.lin u x).ai.map df)
def Ho:Tryz.prog.underlying 66=some (.slice 117):=az
def Hd (s:Xaa) (n:Int):Instr.fill (fun j=>some (j*2,2)) ((Array.range (1*2)).map ((Value.agg #[.string ⟨#[]⟩,.int .u32 0]).cells[· % (Value.agg #[.string ⟨#[]⟩,.int .u32 0]).cells.size]!)) [(0,.agg #[.string s,.int .u32 n])]=some ([.string s,.int .u32 n]:List Xab).toArray:=az
def Ha (s:Xaa) (p:Xac) (l c:Nat) (n:Int):Instr.fill (fun j=>some (j*3,3)) ((Array.range (1*3)).map ((Value.agg #[.string ⟨#[]⟩,.slice none 0 0,.int .u32 0]).cells[· % (Value.agg #[.string ⟨#[]⟩,.slice none 0 0,.int .u32 0]).cells.size]!)) [(0,.agg #[.string s,.slice p l c,.int .u32 n])]=some ([.string s,.slice p l c,.int .u32 n]:List Xab).toArray:=az
theorem lA {α:Type} (f:α->Bool):∀ (l:List α) (i:Nat) (hi:i<l.length),(∀ j,(d:j<i)->f (l[j]'ad)=false)->f l[i]=true->l.find? f=some l[i]
 | [],i,hi,_,_=>by simp at hi
 | a::l,0,hi,_,h=>by simp at h; simp [h]
 | a::l,i+1,hi,h0,h=>by
  have u:f a=false:=h0 0 ad;rw [az9,u];simp only [List.getElem_cons_succ] at h ⊢;exact lA f l i (by simpa using hi) (fun j d=>h0 (j+1) ad) h
def oq {α:Type} (f:α->Bool) (l:List α) (h:∀ j,(d:j<l.length)->f l[j]=false):l.find? f=none:=by
 rw [List.find?_eq_none];intro x hx;obtain ⟨j,d,rfl⟩:=Y0 hx;rw [h j d]
 simp
section
variable {h:Hp} {g gN gE gG:Nat} {us lb:cr} {sp:Int} {w:LW}
def xT (pw:fS h) (b:PA h g us lb gN gE gG sp) (m:LM h gN gE gG w) (lb':PH w) (u:Nat) {p:Xac} {l c:Nat} {x:cn} (v:gW h p l x.ai) (gx:EN x) :
  HC Tryz.prog 34 #[ptr g,.int .i64 (u:Int),iI p l c x] h (RR w u x h):=by
 refine aY (args:=[ptr g,.int .i64 (u:Int),iI p l c x]) mixed Tryz.func34 az (mQ (some ⟨g,0,none⟩) u p l c x.num) ?_;unfold iV bf bg bz aK gS bJ bt aH bn bq bX aP bR dl;have hll:=v.len;have hxl:=gx.len;refine br ?_;intro h1 b1 e1 z1;refine br ?_;intro h2 b2 e2 z2;have b12:=b1.an e2 aj;have e02:=e1.trans e2;refine af b12 ((p,l,c),()) rfl (ak ?_);obtain ⟨ie,hie,hze,hse,hbe⟩:=nu KO;refine du (lu (l:=0) (c:=l) Cg hie hze ad (by rw [hbe]; omega) ad ?_);intro h3 b3 e3 z3;refine ⟨_,_,_,rfl,?_⟩;have e03:=e02.trans e3;have b13:=b12.an e3 aj;have b23:=b2.an e3 aj;have s3:SL h3 h2.size 100 3 (some ⟨h2.size,0,none⟩) 0 l (([]:List cL).map zH):=by
  refine ⟨rfl,aj,h2.size,[],_,rfl,YI _,⟨ad,ad⟩,b3,?_⟩;rw [Yu,ZX,hse];omega
 refine af b13 ((p,l,c),()) rfl (ak ?_)
 refine aS (cs:=[(false,[.string]),(false,[.bool]),(false,[.slice 0]),(false,[.int .i64])]) (fun y m' h'=>∃ (i:Nat) (es:List cL),y.2.2.2.1=(i:Int)/\i<=l/\m'=l-i/\Ch [h2.size] h3 h'/\y.2.2.1.2.1=i/\q8 h' h2.size y.2.2.1.1 i y.2.2.1.2.2 es/\(∀ j,(O:j<i)->(hl:j<x.ai.length)->(w.own u x.ai[j].1).isSome=true) /\
   es.map (fun e=>(e.name,e.x))=(x.ai.take i).map (fun t=>(t.1,lR (w.word ((w.own u t.1).getD (0,t.1)))))) ((⟨#[]⟩:Xaa),false,(some ⟨h2.size,0,none⟩,0,l),(0:Int),()) l rfl
  ⟨0,[],rfl,ad,ad,Ch.refl _ _,rfl,⟨s3,aj,List.Pairwise.nil,aj⟩,by intro j O; omega,rfl⟩ ?_
 rintro ⟨s14,b15,⟨p16,l17,l18⟩,n19,⟨⟩⟩ m' h4 ⟨i,es,hi,hil,rfl,G,hli,oe,Y,J⟩;simp only at hi hli oe;subst hi hli;refine ak ?_;have U:Ext h h4:=Ch.trans e03 G (fun i hi hl=>by simp at hi; have:=e1.size; omega);have hel:es.length=l17:=by
  have:=YJ List.length J
  rw [Yu,Yu,YQ] at this;omega
 have z4:=G.size;have q3:=b3.lt;have q2:=b2.lt;have q1:=b1.lt;refine aM (fun q=>?_) (fun q=>?_)
 ·have hlt:l17<x.ai.length:=ad
  obtain ⟨a,ha,hc⟩:=v.cells l17 hlt;have htk:x.ai.take (l17+1)=x.ai.take l17++[x.ai[l17]]:=Yw hlt;have hgt:x.ai[l17]=x.ai[l17]:=rfl;generalize htt:x.ai[l17]=t at hc htk;refine ax ⟨ad,ad⟩ (av ha ?_);rw [show Int.toNat (l17:Int)=l17 from ad];refine ay (t.1,(t.2:Int),()) (aT U aj _ _ hc) (ak ?_);refine br ?_;intro h5 b5 e5 z5;refine aw b5 rfl aj ?_;intro h6 Z k6 z6;have Z:bI h6 h4.size 117 [.string t.1,.int .u32 (t.2:Int)]:=Z;have e46:Ext h4 h6:=bQ e5 k6;have e06:=U.trans e46;refine af Z (t.1,()) rfl (ak ?_);refine aI (OG (b.an e06 aj) (m.an e06 aj aj aj) u t.1) ?_;rintro _ h7 ⟨rfl,e7⟩;generalize hk:(w.own u t.1).getD (0,t.1)=ky;refine ⟨((ky.1:Int),ky.2,(w.own u t.1).isSome,()),rfl,ak ?_⟩;refine br ?_;intro h8 b8 e8 z8;refine aw b8 rfl aj ?_;intro h9 b9 k9 z9;have b9:bI h9 h7.size 105 [.int .i64 (ky.1:Int),.string ky.2]:=b9;have e79:Ext h7 h9:=bQ e8 k9;have e69:=e7.trans e79;have e49:=e46.trans e69;have e09:=U.trans e49;have b69:=Z.an e69 aj;have q6:=Z.lt;have q7:=e7.size;have q9:=b9.lt;refine ar (fun r=>?_) (fun r=>?_)
  ·have r:(w.own u t.1).isSome=false:=by simpa using r
   refine af b69 (t.1,()) rfl (ak ?_);refine aw ((b23.an G (by simp; omega)).an e49 aj) rfl aj ?_;intro h10 b10 k10 z10;have b10:bI h10 h1.size 69 [.slice none 0 0,.int .u32 0]:=b10;refine ⟨⟨(b69.an k10 (by simp; omega)).cells _ rfl,trivial⟩,?_⟩;refine af b10 ((none,0,0),(0:Int),()) rfl ?_;refine ⟨bQ e09 k10,?_⟩;have hb:w.bad u x=some t.1:=by
    unfold Ob.LW.bad;rw [lA _ x.ai l17 hlt (fun j O=>by simpa using Y j O ad) (by rw [htt]; simpa using r),htt] <;> rfl
   rw [hb] <;> rfl
  ·have r:(w.own u t.1).isSome=true:=by simpa using r
   refine af b69 (t.1,()) rfl (ak ?_);refine af b9 ((ky.1:Int),ky.2,()) rfl (ak ?_);refine aI (B5 (pw.an e09 aj) (b.an e09 aj) (m.an e09 aj aj aj) lb' ky.1 ky.2) ?_;rintro _ h10 ⟨rfl,e10⟩;refine ⟨(w.word (ky.1,ky.2),()),rfl,ak ?_⟩;have b6a:=b69.an e10 aj;have b9a:=b9.an e10 aj;have q10:=e10.size;refine ⟨⟨b6a.cells _ rfl,trivial⟩,?_⟩;refine jC Ho rl ad ad (Hd _ _) ?_;intro h11 b11 e11 z11;have b6b:=b6a.an e11 aj;have b9b:=b9a.an e11 aj;refine ⟨⟨b9b.cells _ rfl,b6b.cells _ rfl,trivial⟩,?_⟩;have V:=(e49.trans e10).trans e11;have o11:=oe.an V aj;have q11:=V.size;refine gU (e:=100) (z:=.agg #[.string ⟨#[]⟩,.slice none 0 0,.int .u32 0]) (sz:=3) (by':=48) Cg KO rfl ad ad (Ha _ _ _ _ _) rfl rfl o11.out ad ad ad (fun h' e=>⟨(b9b.an e aj).cells _ rfl,(b6b.an e aj).cells _ rfl,trivial⟩) ?_;intro p' c' h12 s12 k12 hp12;have hq:∀ i,i∈aR p16->(i=h2.size\/h3.size<=i)/\i<h4.size:=fun i hi=>by have:=oe.out.cv hi; omega
   have k312:Ch [h2.size] h3 h12:=Ch.trans (G.trans (V.mono aj) (fun i hi hl=>hi)) k12 (fun i hi hl=>by have:=hq i hi; simp; omega);have nin:∀ i,h4.size<=i->i∉aR p16:=fun i h1 h2=>by have:=hq i h2; omega
   refine ⟨⟨(b9b.an k12 (nin _ ad)).cells _ rfl,(b6b.an k12 (nin _ ad)).cells _ rfl,trivial⟩,?_⟩;have hm:SL h11 h2.size 117 2 (some ⟨h10.size,0,none⟩) 1 1 ((lR (w.word ky)).ai.map df) :=
    ⟨rfl,fun y hy=>by rw [YP.1 hy]; rfl,h10.size,[],[],rfl,ad,⟨ad,ad⟩,b11,by simp [lR]⟩
   have o12:q8 h12 h2.size p' (l17+1) c' (es++[⟨t.1,some ⟨h10.size,0,none⟩,1,1,lR (w.word ky)⟩]):=by
    refine o11.push (m:=⟨t.1,some ⟨h10.size,0,none⟩,1,1,lR (w.word ky)⟩) hm (fun i hi=>?_) (by rw [YH]; exact s12) k12 (fun i hi=>?_)
    ·have hi:i=h10.size:=by simpa [aR] using hi
     subst hi;refine ⟨fun y hy j O=>?_,nin _ ad⟩
     have:=((oe.fq y hy).cv O).2
     omega
    ·rcases hp12 with rfl | ⟨a',rfl,ha'⟩
     ·exact .inl hi
     ·simp [aR] at hi; right; omega
   have hw:=gu l17;rw [hw];refine aG (cs:=[(false,[.string]),(false,[.bool]),(false,[.slice 0]),(false,[.int .i64])]) (s14,b15,(p',l17+1,c'),((l17+1:Nat):Int),()) (l-(l17+1)) rfl ad rfl
    ⟨l17+1,_,rfl,ad,rfl,k312,rfl,o12,fun j O hjl=>?_,?_⟩
   ·by_cases hjl':j<l17
    ·exact Y j hjl' hjl
    ·have:j=l17:=ad
     subst this;rw [htt]; exact r
   ·rw [YH,J,htk,YH];simp only [List.map_cons,List.map_nil];rw [hk]
 ·have hi:l17=x.ai.length:=ad
  subst hi;have J:es.map (fun e=>(e.name,e.x))=x.ai.map (fun t=>(t.1,lR (w.word ((w.own u t.1).getD (0,t.1))))):=by rw [J,YW (YI _)]
  have hnm:bd es=x.ai.map (·.1):=by
   have:=YJ (List.map (·.1)) J
   rw [YY,YY] at this;exact this
  have d:∀ e,e∈es->∃ t,t∈x.ai/\e.name=t.1/\e.x=lR (w.word ((w.own u t.1).getD (0,t.1))):=by
   intro e F
   have:(e.name,e.x)∈es.map (fun e=>(e.name,e.x)):=YT F
   rw [J] at this;obtain ⟨t,X,hte⟩:=YF.1 this;rw [Prod.mk.injEq] at hte;exact ⟨t,X,hte.1.symm,hte.2.symm⟩
  have hwsz:∀ ky:Ky,(w.word ky).size<=maxLen:=by
   intro ky;unfold LW.word;have hsz:∀ (a:Xaa) n,n<=2^50->a.size=1->(a++kZ n).size<=maxLen:=fun a n hn ha=>by
    rw [ZY,ha]
    have:=jw (n:=n) ad
    unfold maxLen;omega
   split
   ·rename_i n hn;exact hsz _ _ (lb'.n _ _ hn) rfl
   ·refine hsz _ _ ?_ rfl;cases F:w.tK ky with
    | none=>simp
    | some i=>exact lb'.e _ _ F
  have eo:EqsOk es:=⟨by rw [hnm]; exact gx.nodup,ad,fun e F=>by obtain ⟨t,X,h1,_⟩:=d e F; rw [h1]; exact gx.sz t X,
   fun e F=>by obtain ⟨t,X,_,h1⟩:=d e F; rw [h1]; show 1<=2^40; decide,
   fun e F t' ht'=>by
    obtain ⟨t,X,_,h1⟩:=d e F;rw [h1] at ht';rw [YP.1 ht'];exact hwsz _⟩
  refine af ((b13).an G (by simp; omega)) ((p,l,c),(x.num:Int),()) rfl ?_;refine ak ?_;have ve:=CY oe;have htot:(es.flatMap (·.x.ai)).length<=2^39:=by
   have:∀ l:List cL,(∀ e,e∈l->e.x.ai.length=1)->(l.flatMap (·.x.ai)).length=l.length:=by
    intro l
    induction l with
    | nil=>intro _; rfl
    | cons a l ih=>intro hl; rw [Zd,Yy,ih (fun e F=>hl e (by simp [F])),hl a aj,Zi,Nat.add_comm]
   rw [this es (fun e F=>by obtain ⟨t,X,_,h1⟩:=d e F; rw [h1]; rfl)];omega
  refine aI (MM (v.an U aj) ve eo (fun e F=>by obtain ⟨t,X,_,h1⟩:=d e F; rw [h1]; show 1<=2^20; decide) htot ad hxl gx.sz) ?_;rintro _ h5 ⟨⟨p',l',c',rfl,s5⟩,e5⟩;have hlin:mF (de (cy es) x) uq=w.lin u x:=by
   rw [yd (eR _ _) (lZ gx.num)];unfold Ob.LW.lin;refine pS (fun t X=>?_);have hin:t.1∈bd es:=by rw [hnm]; exact YT X
   obtain ⟨j,O,rfl⟩:=Y0 X;have hoj:=Y j ad O;obtain ⟨ky,hky⟩:=Zu.1 hoj;unfold cy;rw [YC ((eh es _).2 hin),hky];obtain ⟨e,F,hen⟩:=YF.1 hin;obtain ⟨t',ht',h1,h2⟩:=d e F;rw [<- hen,qe eo.nodup F,h2,<- h1,hen,hky] <;> rfl
  rw [hlin] at s5 ⊢;refine ⟨((p',l',c'),((w.lin u x).num:Int),()),rfl,ak ?_⟩;have q5:=e5.size;refine aw ((b23.an G (by simp; omega)).an e5 aj) rfl aj ?_;intro h6 Z k6 z6;have Z:bI h6 h1.size 69 [.slice p' l' c',.int .u32 ((w.lin u x).num:Int)]:=Z;refine af Z ((p',l',c'),((w.lin u x).num:Int),()) rfl ?_;refine ⟨bQ (U.trans e5) k6,?_⟩;have hb:w.bad u x=none:=by
   unfold Ob.LW.bad;rw [oq _ x.ai (fun j O=>by simpa using Y j ad O)] <;> rfl
  rw [hb];exact ⟨p',l',c',rfl,(s5.bP k6 (fun j O=>by have:=(s5.cv O).1; simp; omega)).mono ad⟩
end
theorem yc {h:Hp} {a:Xax}:∀ (vs us:List Xab) (i:Nat),aJ h a i vs->aJ h a (i+vs.length) us->aJ h a i (vs++us)
 | [],us,i,_,h2=>by simpa using h2
 | v::vs,us,i,h1,h2=>⟨h1.1,yc vs us (i+1) h1.2 (by rw [Zi] at h2; rw [show i+1+vs.length=i+(vs.length+1) from ad]; exact h2)⟩
theorem zo {h:Hp} {a:Xax}:∀ (vs:List Xab) (o i:Nat),aJ h (a.add o) i vs->aJ h a (o+i) vs
 | [],_,_,_=>trivial
 | v::vs,o,i,h1=>⟨by have:=h1.1; rw [add_add] at this; exact this,zo vs o (i+1) h1.2⟩
theorem fP {h:Hp} {a:Xax} {sz:Nat}:∀ (xs:List (List Xab)) (k:Nat),(∀ x,x∈xs->x.length=sz)->(∀ i,(hi:i<xs.length)->aJ h (a.add ((k+i)*sz)) 0 xs[i])->aJ h a (k*sz) xs.flatten
 | [],_,_,_=>trivial
 | x::xs,k,hl,hc=>by
  rw [Z0];refine yc _ _ _ ?_ ?_
  ·have:=hc 0 aj
   rw [bm9] at this;exact zo _ _ 0 this
  ·rw [hl x aj,<- Nat.succ_mul];exact fP xs (k+1) (fun y d=>hl y (by simp [d])) (fun i hi=>by
    have:=hc (i+1) (by simpa using hi)
    rw [show k+1+i=k+(i+1) from ad];exact this)
structure U' (h:Hp) (p:Xac) (l:Nat) (ws:List (cr × cB)):Prop where
 len:l=ws.length
 cells:∀ i,(hi:i<ws.length)->∃ a,p=some a/\aJ h (a.add (i*10)) 0 (tJ ws[i])
theorem yg {α β:Type} (R:α->β->Prop):∀ (us:List α),(∀ i,(hi:i<us.length)->∃ b,R us[i] b)->∃ bs:List β,bs.length=us.length/\∀ i,(hi:i<us.length)->(j:i<bs.length)->R us[i] bs[i]
 | [],_=>⟨[],rfl,fun i hi=>by simp at hi⟩
 | u::us,h=>by
  obtain ⟨b,j⟩:=h 0 aj;obtain ⟨bs,hl,F⟩:=yg R us (fun i hi=>h (i+1) (by simpa using hi));refine ⟨b::bs,by simp [hl],fun i hi d=>?_⟩
  match i with
  | 0=>exact j
  | i+1=>exact F i (by simpa using hi) (by simpa using d)
def Dk {h:Hp} {p:Xac} {l:Nat} {us:List cB} (v:Bx h p l us):∃ ws:List (cr × cB),ws.map (·.2)=us/\U' h p l ws/\∀ u,u∈ws->js h u.1.p u.1.l u.2:=by
 have F:∀ i,(hi:i<(List.range us.length).length)->∃ s:cr,∀ V:(List.range us.length)[i]<us.length,∃ a,p=some a/\aJ h (a.add ((List.range us.length)[i]*10)) 0 (Ob.encI s.p s.l s.c us[(List.range us.length)[i]])/\js h s.p s.l us[(List.range us.length)[i]]:=by
  intro i hi;have J:i<us.length:=by simpa using hi
  obtain ⟨a,q,m,c,G,hc,hv⟩:=v.cells i J;refine ⟨⟨q,m,c⟩,fun V=>⟨a,G,?_,?_⟩⟩
  ·simp only [List.getElem_range]; exact hc
  ·simp only [List.getElem_range]; exact hv
 obtain ⟨bs,O,X⟩:=yg (fun (j:Nat) (s:cr)=>∀ V:j<us.length,∃ a,p=some a/\aJ h (a.add (j*10)) 0 (Ob.encI s.p s.l s.c us[j])/\js h s.p s.l us[j]) (List.range us.length) F;rw [ZX] at O;have U:(bs.zip us).map (·.2)=us:=by rw [List.map_snd_zip ad]
 have d:(bs.zip us).length=us.length:=by rw [List.length_zip]; omega
 refine ⟨bs.zip us,U,⟨by rw [d]; exact v.len,fun i hi=>?_⟩,fun u hu=>?_⟩
 ·rw [d] at hi;have h1:=X i (by simpa using hi) ad;simp only [List.getElem_range] at h1;obtain ⟨a,G,hc,_⟩:=h1 hi;refine ⟨a,G,?_⟩;rw [List.getElem_zip];exact hc
 ·obtain ⟨i,hi,rfl⟩:=Y0 hu;rw [d] at hi;have h1:=X i (by simpa using hi) ad;simp only [List.getElem_range] at h1;obtain ⟨a,G,_,hv⟩:=h1 hi;rw [List.getElem_zip];exact hv
def pn (ws:List (cr × cB)):(ws.map tJ).flatten.all cU=true:=by
 rw [Y1];intro v hv;obtain ⟨x,hx,hv⟩:=av9.1 hv;obtain ⟨t,_,rfl⟩:=YF.1 hx;simp only [tJ,Ob.encI,List.mem_cons,List.not_mem_nil,or_false] at hv;rcases hv with rfl | rfl | rfl | rfl | rfl | rfl | rfl | rfl | rfl | rfl <;> rfl
def oC (ws:List (cr × cB)):∀ y,y∈ws.map tJ->y.length=10:=by
 intro y d;obtain ⟨u,_,rfl⟩:=YF.1 d;rfl
def U'.src {h:Hp} {p:Xac} {l:Nat} {ws:List (cr × cB)} (v:U' h p l ws):(p=none/\ws.map tJ=[])\/∃ a,p=some a/\aJ h a 0 (ws.map tJ).flatten:=by
 cases p with
 | none =>
  left
  refine ⟨rfl,?_⟩;cases ws with
  | nil=>rfl
  | cons u us =>
   obtain ⟨a,d,_⟩:=v.cells 0 aj;cases d
 | some a =>
  refine .inr ⟨a,rfl,?_⟩
  have:=fP (h:=h) (a:=a) (sz:=10) (ws.map tJ) 0 (oC ws) (fun i hi=>by
   rw [Yu] at hi;obtain ⟨a',d,hc⟩:=v.cells i hi;cases d;rw [YE,Y7];exact hc)
  rwa [ab9] at this
def CL {h:Hp} {p:Xac} {l c:Nat} {ws:List (cr × cB)} (v:U' h p l ws) (hl:ws.length<=2^30) :
  HC Tryz.prog 41 #[.slice p l c] h fun w h'=>(∃ p' c',w=.slice p' l c'/\SL h' h.size 71 10 p' l c' (ws.map tJ))/\Ext h h':=by
 refine aY (args:=[.slice p l c]) mixed Tryz.func41 az (fT p l c) ?_;unfold dY bt bq;have d:=v.len;cases p with
 | none =>
  rcases v.src with ⟨_,h2⟩ | ⟨a,j,_⟩
  ·refine bk rfl ?_
   have:ws=[]:=by simpa using h2
   subst this;subst d;exact ⟨⟨none,0,rfl,SL.nil _ _ _ _⟩,Ch.refl _ _⟩
  ·cases j
 | some a =>
  refine bG rfl ?_;refine mv (e:=71) (z:=.agg iz.toArray) (sz:=10) (by':=104) Bc EI rfl v.src (by simpa using d) (oC ws) (pn ws) ad ad ?_;intro p' c' h' s' e';exact ⟨⟨p',c',rfl,s'⟩,e'⟩
structure Ye (h:Hp) (b B:Nat) (p:Xac) (l c:Nat) (ws:List (cr × cB)):Prop where
 out:SL h b 71 10 p l c (ws.map tJ)
 lt:∀ i,i∈aR p->i<B
 fq:∀ u,u∈ws->SL h B 117 2 u.1.p u.1.l u.1.c (u.2.e.ai.map df)
def _root_.Go.Sx.Ob.LW.yP (w:LW) (u:Nat) (us:List cB):Option Xaa:=us.findSome? fun x=>w.bad u x.e
def _root_.Go.Sx.Ob.LW.ff (w:LW) (u:Nat) (x:cB):cB:={ x with e:=w.lin u x.e }
def Vc (w:LW) (u:Nat) (us:List cB) (l:Nat) (h:Hp) (v:Xab) (h':Hp):Prop :=
 Ext h h'/\match w.yP u us with
 | some s=>v=.tuple #[.slice none 0 0,.string s,.bool false]
 | none=>∃ p c B ws,v=.tuple #[.slice p l c,.string ⟨#[]⟩,.bool true]/\Ye h' h.size B p l c ws/\h.size<=B/\ws.map (·.2)=us.map (w.ff u)
theorem IZ (w:LW) (u:Nat):∀ (us:List cB) (i:Nat) (hi:i<us.length) (s:Xaa),(∀ j,(F:j<i)->w.bad u (us[j]'ad).e=none)->w.bad u us[i].e=some s->w.yP u us=some s
 | [],i,hi,_,_,_=>by simp at hi
 | a::l,0,hi,s,_,h=>by unfold Ob.LW.yP; simp at h; simp [h]
 | a::l,i+1,hi,s,h0,h=>by
  have G:w.bad u a.e=none:=h0 0 ad;have d:=IZ w u l i (by simpa using hi) s (fun j F=>h0 (j+1) ad) (by simpa using h);unfold Ob.LW.yP at d ⊢;rw [List.findSome?_cons,G];exact d
def K4 (w:LW) (u:Nat) (us:List cB) (h:∀ j,(d:j<us.length)->w.bad u us[j].e=none):w.yP u us=none:=by
 unfold Ob.LW.yP;rw [Zx];intro x hx;obtain ⟨j,d,rfl⟩:=Y0 hx;exact h j d
section
variable {h:Hp} {g gN gE gG:Nat} {us lb:cr} {sp:Int} {w:LW}
def zh (pw:fS h) (b:PA h g us lb gN gE gG sp) (m:LM h gN gE gG w) (lb':PH w) (u:Nat) {p:Xac} {l c:Nat} {xs:List cB} (v:Bx h p l xs) (hn:xs.length<=2^20) (gx:∀ x,x∈xs->EN x.e) :
  HC Tryz.prog 33 #[ptr g,.int .i64 (u:Int),.slice p l c] h (Vc w u xs l h):=by
 refine aY (args:=[ptr g,.int .i64 (u:Int),.slice p l c]) mixed Tryz.func33 az (nD (some ⟨g,0,none⟩) u p l c) ?_;unfold jc bf bg bz aK bJ aH bn bq bX aP bR dl;have hll:=v.len;obtain ⟨ws,hws,vd,hit⟩:=Dk v;have hwl:ws.length=xs.length:=by rw [<- hws,Yu]
 refine aI (CL (c:=c) vd ad) ?_;rintro _ h1 ⟨⟨p3,c3,rfl,s3⟩,e1⟩;refine ⟨((p3,l,c3),()),rfl,ak ?_⟩;have d:∀ i,i∈aR p3->h.size<=i/\i<h1.size:=fun i hi=>s3.cv hi
 refine aS (cs:=[(false,[.slice 0]),(false,[.string]),(false,[.bool]),(false,[.int .i64])]) (fun y m' h'=>∃ (i:Nat) (vs:List (cr × cB)),y.2.2.2.1=(i:Int)/\i<=l/\m'=l-i/\Ch (aR p3) h1 h'/\vs.length=l/\SL h' h.size 71 10 p3 l c3 (vs.map tJ) /\
   (∀ j,(F:j<i)->(hv:j<vs.length)->SL h' h1.size 117 2 vs[j].1.p vs[j].1.l vs[j].1.c (vs[j].2.e.ai.map df))/\vs.map (·.2)=(xs.take i).map (w.ff u)++xs.drop i/\∀ j,(F:j<i)->(hx:j<xs.length)->w.bad u xs[j].e=none)
  ((none,0,0),(⟨#[]⟩:Xaa),false,(0:Int),()) l rfl ⟨0,ws,rfl,ad,ad,Ch.refl _ _,ad,s3,by intro j F; omega,by simpa using hws,by intro j F; omega⟩ ?_
 rintro ⟨p6,s9,b10,n11,⟨⟩⟩ m' h2 ⟨i,vs,hi,hil,rfl,k2,hvl,s2,own,ec,X⟩;simp only at hi;subst hi;refine ak ?_;have Y:Ext h h2:=Ch.trans e1 k2 (fun i hi hl=>by have:=d i hi; omega);have z1:=e1.size;have z2:=k2.size;refine aM (fun q=>?_) (fun q=>?_)
 ·have G:i<xs.length:=ad
  obtain ⟨aa,pp,ll,cc,ha,hc0,va0⟩:=v.cells i G;have gxi:=gx xs[i] (YD G);have htk:xs.take (i+1)=xs.take i++[xs[i]]:=Yw G;have Z:xs.drop i=xs[i]::xs.drop (i+1):=YK G;generalize hxi:xs[i]=x at hc0 va0 htk gxi Z;refine ax ⟨ad,ad⟩ (av ha ?_);rw [show Int.toNat (i:Int)=i from ad];refine ay (x.kind,x.name,x.inst.op,x.inst.a,x.inst.b,x.inst.n,x.inst.form,(pp,ll,cc),(x.e.num:Int),x.n,()) (aT Y aj _ _ hc0) (ak ?_);refine br ?_;intro h3 b3 e3 z3;refine aw b3 rfl aj ?_;intro h4 b4 k4 z4;have b4:bI h4 h2.size 71 (Ob.encI pp ll cc x):=b4;have e24:Ext h2 h4:=bQ e3 k4;have J:=Y.trans e24;rw [aE];refine af b4 ((pp,ll,cc),(x.e.num:Int),()) rfl (ak ?_);refine aI (xT (c:=cc) (pw.an J aj) (b.an J aj) (m.an J aj aj aj) lb' u (va0.an J).lin.vw gxi) ?_;rintro _ h5 ⟨e5,hq⟩;have z4':=b4.lt;have z5:=e5.size;cases hb:w.bad u x.e with
  | some s =>
   rw [hb] at hq;subst hq;refine ⟨((none,0,0),(0:Int),s,false,()),rfl,ak ?_⟩;refine br ?_;intro h6 b6 e6 z6;refine aw b6 rfl aj ?_;intro h7 b7 k7 z7;refine bk rfl ?_;refine ⟨bQ ((J.trans e5).trans e6) k7,?_⟩;rw [IZ w u xs i G s (fun j F=>X j F ad) (by rw [hxi]; exact hb)]
  | none =>
   rw [hb] at hq;obtain ⟨p7,l7,c7,rfl,s7⟩:=hq;refine ⟨((p7,l7,c7),((w.lin u x.e).num:Int),(⟨#[]⟩:Xaa),true,()),rfl,ak ?_⟩;refine br ?_;intro h6 b6 e6 z6;refine aw b6 rfl aj ?_;intro h7 b7 k7 z7;have b7:bI h7 h5.size 69 [.slice p7 l7 c7,.int .u32 ((w.lin u x.e).num:Int)]:=b7;have e57:Ext h5 h7:=bQ e6 k7;have U:=(e24.trans e5).trans e57;refine bG rfl ?_;refine af b7 ((p7,l7,c7),((w.lin u x.e).num:Int),()) rfl (ak ?_);have s27:=s2.an U aj;have O:i<vs.length:=ad
   obtain ⟨a3,ha3⟩:∃ a3,p3=some a3:=by
    cases hp3:p3 with
    | some a=>exact ⟨a,rfl⟩
    | none =>
     rw [hp3] at s27;have h1:=s27.2.2.2;have h2:vs=[]:=by simpa using h1
     rw [h2] at O;simp at O
   refine ax ⟨ad,ad⟩ (av ha3 ?_);refine SL.part (P:=Tryz.prog) s27 (i:=i) (by rw [Yu]; exact O) (o:=7) aj (by simp [cU]) ha3 ?_;intro h8 s8 k8 z8;have hvi:vs[i].2=x:=by
    have h1:(vs.map (·.2))[i]?=some vs[i].2:=by rw [Zj,Yv O]; rfl
    rw [ec,Y5 (by rw [Yu,YQ]; omega),Z] at h1;rw [Yu,YQ,show i-min i xs.length=0 from ad] at h1;simpa using h1.symm
   have hnew:(vs.map tJ).set i (lh ((vs.map tJ)[i]'(by rw [Yu]; exact O)) 7 [.slice p7 l7 c7,.int .u32 ((w.lin u x.e).num:Int)])=(vs.set i (⟨p7,l7,c7⟩,w.ff u x)).map tJ:=by
    rw [ax9,YE]
    congr 1
    rcases hvv:vs[i] with ⟨⟨v1,v2,v3⟩,v4⟩
    have:v4=x:=by rw [<- hvi,hvv]
    subst this;rfl
   rw [hnew] at s8;have z7':h2.size<=h7.size:=U.size;have hw:=gu i;rw [hw];refine aG (cs:=[(false,[.slice 0]),(false,[.string]),(false,[.bool]),(false,[.int .i64])]) (p6,s9,b10,((i+1:Nat):Int),()) (l-(i+1)) rfl ad rfl
    ⟨i+1,vs.set i (⟨p7,l7,c7⟩,w.ff u x),rfl,ad,rfl,Ch.trans (k2.trans (U.mono aj) (fun i hi _=>hi)) k8 (fun i hi _=>hi),by rw [Zy]; exact hvl,s8,fun j F hjv=>?_,?_,fun j F hjx=>?_⟩
   ·have nin:∀ x,h1.size<=x->x∉aR p3:=fun x h1 h2=>by have:=d x h2; omega
    by_cases V:j=i
    ·subst V;simp only [List.getElem_set_self]
     have:SL h7 h1.size 117 2 p7 l7 c7 ((w.ff u x).e.ai.map df):=Sx.SL.mono (s7.an e57 aj) (by have:=e24.size; omega)
     exact this.bP k8 (fun x hx=>nin x (this.cv hx).1)
    ·have hjlt:j<i:=ad
     rw [Zy] at hjv;simp only [List.getElem_set_ne (Ne.symm V)]
     have:=(own j hjlt hjv).an U aj
     exact this.bP k8 (fun x hx=>nin x (this.cv hx).1)
   ·rw [ax9,ec,htk,YH,Z];have hl1:((xs.take i).map (w.ff u)).length=i:=by rw [Yu,YQ]; omega
    rw [be9 _ _ ad,hl1,ao9,List.set_cons_zero]
    simp
   ·by_cases V:j=i
    ·subst V;rw [hxi]; exact hb
    ·exact X j ad hjx
 ·have hi:i=l:=ad
  subst hi;refine ⟨Y,?_⟩;rw [K4 w u xs (fun j F=>X j ad F)];refine ⟨p3,c3,h1.size,vs,rfl,⟨s2,fun i hi=>(d i hi).2,fun u hu=>?_⟩,z1,?_⟩
  ·obtain ⟨j,F,rfl⟩:=Y0 hu;exact own j ad F
  ·rw [ec,YW ad,ZU ad,Zs]
end
def jB (n sec i:Nat) (x:cB) (w:LW):LW :=
 if x.kind=1 then { w with num:=yD w.num (n,x.name) w.lb.length,nn:=if (w.num (n,x.name)).isSome then w.nn else w.nn+1,lb:=w.lb++[⟨n,sec,i,x.name⟩] } else w
def iJ (n sec:Nat):Nat->List cB->LW->LW
 | _,[],w=>w
 | i,x::l,w=>iJ n sec (i+1) l (jB n sec i x w)
def uO (n:Nat) (w:LW) (e:rO):LW:={ w with tK:=yD w.tK (n,e.1) w.ne,ne:=if (w.tK (n,e.1)).isSome then w.ne else w.ne+1 }
def FO (n:Nat) (u:cd) (w:LW):LW:=u.bh.foldl (uO n) (iJ n 1 0 u.data (iJ n 0 0 u.text w))
def nC:Nat->List cd->LW->LW
 | _,[],w=>w
 | n,u::us,w=>nC (n+1) us (FO n u w)
theorem B2 (n sec:Nat) (x:cB):∀ (l:List cB) (i:Nat) (w:LW),iJ n sec i (l++[x]) w=jB n sec (i+l.length) x (iJ n sec i l w)
 | [],i,w=>rfl
 | y::l,i,w=>by
  simp only [List.cons_append,iJ,List.length_cons];rw [B2 n sec x l (i+1) _,show i+1+l.length=i+(l.length+1) from ad]
theorem BZ (u:cd):∀ (l:List cd) (n:Nat) (w:LW),nC n (l++[u]) w=FO (n+l.length) u (nC n l w)
 | [],n,w=>rfl
 | y::l,n,w=>by
  simp only [List.cons_append,nC,List.length_cons];rw [BZ u l (n+1) _,show n+1+l.length=n+(l.length+1) from ad]
def GB (n sec i:Nat) (x:cB) (w:LW):(jB n sec i x w).lb.length<=w.lb.length+1:=by
 unfold jB;split
 ·simp
 ·omega
theorem lY (n sec:Nat):∀ (l:List cB) (i:Nat) (w:LW),(iJ n sec i l w).lb.length<=w.lb.length+l.length
 | [],i,w=>by simp [iJ]
 | x::l,i,w=>by
  have h1:=lY n sec l (i+1) (jB n sec i x w);have h2:=GB n sec i x w;simp only [iJ,List.length_cons];omega
theorem NQ (n:Nat):∀ (l:List rO) (w:LW),(l.foldl (uO n) w).lb=w.lb
 | [],w=>rfl
 | e::l,w=>by rw [Y6,NQ n l]; rfl
def MU (n:Nat) (u:cd) (w:LW):(FO n u w).lb.length<=w.lb.length+(u.text.length+u.data.length):=by
 unfold FO;rw [NQ];have h1:=lY n 1 u.data 0 (iJ n 0 0 u.text w);have h2:=lY n 0 u.text 0 w;omega
def uQ (us:List cd):Nat:=(us.map fun u=>u.text.length+u.data.length+u.bh.length+u.aZ.length).sum
theorem FZ:∀ (l:List cd) (n:Nat) (w:LW),(nC n l w).lb.length<=w.lb.length+uQ l
 | [],n,w=>by simp [nC,uQ]
 | u::l,n,w=>by
  have h1:=FZ l (n+1) (FO n u w);have h2:=MU n u w;simp only [nC,uQ,List.map_cons,List.sum_cons] at *;omega
def KM (us:List cd) (i:Nat) (hi:i<us.length):uQ (us.take i)+(us[i].text.length+us[i].data.length+us[i].bh.length+us[i].aZ.length)+uQ (us.drop (i+1))=uQ us:=by
 have:us=us.take i++us[i]::us.drop (i+1):=by rw [<- YK hi,Zc]
 conv=>rhs; rw [this]
 unfold uQ;rw [YH,List.sum_append,Zb,Zv];omega
structure Ec (h:Hp) (B:Nat) (us lb:cr) (sp:Int) (w:LW):Prop where
 box:PA h (B+3) us lb B (B+1) (B+2) sp
 maps:LM h B (B+1) (B+2) w
 oc:SL h (B+4) 112 4 lb.p lb.l lb.c (w.lb.map AT)
def Ec.an {h h':Hp} {B:Nat} {us lb:cr} {sp:Int} {w:LW} (s:Ec h B us lb sp w) (e:Ext h h'):Ec h' B us lb sp w :=
 ⟨s.box.an e aj,s.maps.an e aj aj aj,s.oc.an e aj⟩
def Ec.lt {h:Hp} {B:Nat} {us lb:cr} {sp:Int} {w:LW} (s:Ec h B us lb sp w):B+4<=h.size:=by have:=s.box.lt; omega
def SJ:Tryz.prog.underlying 90=some (.slice 112):=az
def VF:(Tryz.prog.info? 112).map (fun i=>(i.zero,i.size,i.bytes))=some (some (.agg #[.int .i64 0,.int .i64 0,.int .i64 0,.string ⟨#[]⟩]),4,40):=az
def MI (a b c:Int) (s:Xaa):Instr.fill (fun j=>some (j*4,4)) ((Array.range (1*4)).map ((Value.agg #[.int .i64 0,.int .i64 0,.int .i64 0,.string ⟨#[]⟩]).cells[· % (Value.agg #[.int .i64 0,.int .i64 0,.int .i64 0,.string ⟨#[]⟩]).cells.size]!)) [(0,.agg #[.int .i64 a,.int .i64 b,.int .i64 c,.string s])]=some ([.int .i64 a,.int .i64 b,.int .i64 c,.string s]:List Xab).toArray:=az
section
variable {h0:Hp} {B:Nat} {us:cr} {sp:Int}
def GP {h:Hp} {lb:cr} {w:LW} (hB:h0.size=B) (e0:Ext h0 h) (s:Ec h B us lb sp w) {p:Xac} {l c:Nat} {xu:List cd} (v:xS h0 p l xu) (hlen:w.lb.length+uQ xu<=2^30) (hnu:xu.length<=2^20) (hwl:lb.l=w.lb.length) :
  HC Tryz.prog 31 #[ptr (B+3),.slice p l c] h fun x h'=>x=.tuple #[]/\∃ F,Ec h' B us F sp (nC 0 xu w)/\Ext h0 h':=by
 refine aY (args:=[ptr (B+3),.slice p l c]) mixed Tryz.func31 az (nK (some ⟨B+3,0,none⟩) p l c) ?_;unfold jn bf bg bz aK bt bU aH bn bq bX aP;have hll:=v.len;refine aS (cs:=[(false,[.int .i64])]) (fun y m' h'=>∃ (n:Nat) (F:cr),y.1=(n:Int)/\n<=l/\m'=l-n/\Ext h0 h'/\Ec h' B us F sp (nC 0 (xu.take n) w)) ((0:Int),()) l rfl ⟨0,lb,rfl,ad,ad,e0,s⟩ ?_;clear s e0;rintro ⟨n2,⟨⟩⟩ m' h1 ⟨n,lb1,hn,hnl,rfl,e1,s1⟩;simp only at hn;subst hn;refine ak ?_;refine aM (fun q=>?_) (fun q=>?_)
 ·have hlt:n<xu.length:=ad
  obtain ⟨a,J,O,tc,td,ha,hc,hu⟩:=v.cells n hlt;have htk:xu.take (n+1)=xu.take n++[xu[n]]:=Yw hlt;have hL:=KM xu n hlt;have hwn:=FZ (xu.take n) 0 w;generalize xu[n]=u at hc hu htk hL;generalize hw1:nC 0 (xu.take n) w=w1 at *;refine ax ⟨ad,ad⟩ (av ha ?_);rw [show Int.toNat (n:Int)=n from ad];refine ay ((J.p,J.l,J.c),(O.p,O.l,O.c),(tc.p,tc.l,tc.c),(td.p,td.l,td.c),()) (aT e1 aj _ _ hc) (ak ?_);refine br ?_;intro h2 b2 e2 z2;refine aw b2 rfl aj ?_;intro h3 b3 k3 z3;have b3:bI h3 h1.size 47 [J.v,O.v,tc.v,td.v]:=b3;have e13:Ext h1 h3:=bQ e2 k3;refine af b3 ((J.p,J.l,J.c),()) rfl (ak ?_);rw [aE];refine af b3 ((O.p,O.l,O.c),()) rfl (ak ?_);refine jC Px Xa ad ad (OQ J.p J.l J.c O.p O.l O.c) ?_;intro h4 b4 e4 z4;have b4:bI h4 h3.size 43 [J.v,O.v]:=b4;have e14:=e13.trans e4;have b34:=b3.an e4 aj;have l1:=s1.lt;have q3:=b3.lt;have hsec:∀ k,k<2->∃ s:cr,([J.v,O.v]:List Xab).drop k=s.v::([J.v,O.v]:List Xab).drop (k+1)/\Bx h0 s.p s.l (yW u k):=by
   intro k hk
   have:k=0\/k=1:=ad
   rcases this with rfl | rfl
   ·exact ⟨J,rfl,hu.text⟩
   ·exact ⟨O,rfl,hu.data⟩
  let wS:Nat->LW:=fun k=>if k=0 then w1 else if k=1 then iJ n 0 0 u.text w1 else iJ n 1 0 u.data (iJ n 0 0 u.text w1)
  have hwS:∀ k,k<2->wS (k+1)=iJ n k 0 (yW u k) (wS k):=by
   intro k hk
   have:k=0\/k=1:=ad
   rcases this with rfl | rfl <;> rfl
  have hwSl:∀ k,k<=2->(wS k).lb.length<=w1.lb.length+(if k=0 then 0 else if k=1 then u.text.length else u.text.length+u.data.length):=by
   intro k hk
   have:k=0\/k=1\/k=2:=ad
   rcases this with rfl | rfl | rfl
   ·simp [wS]
   ·exact lY n 0 u.text 0 w1
   ·have h1:=lY n 0 u.text 0 w1;have h2:=lY n 1 u.data 0 (iJ n 0 0 u.text w1);show (iJ n 1 0 u.data (iJ n 0 0 u.text w1)).lb.length<=w1.lb.length+(u.text.length+u.data.length);omega
  refine aS (cs:=[(false,[.int .i64])]) (fun y m' h'=>∃ (k:Nat) (F:cr),y.1=(k:Int)/\k<=2/\m'=2-k/\Ext h0 h'/\Ec h' B us F sp (wS k)/\(h1.size∉aR F.p/\h3.size∉aR F.p)/\bI h' h1.size 47 [J.v,O.v,tc.v,td.v]/\bI h' h3.size 43 [J.v,O.v]) ((0:Int),()) 2 rfl
   ⟨0,lb1,rfl,ad,ad,e1.trans e14,s1.an e14,⟨fun hm=>by have:=(s1.oc.cv hm).2; omega,fun hm=>by have:=(s1.oc.cv hm).2; omega⟩,b34,b4⟩ ?_
  clear b4 b34 e4 e14 b3 z4;rintro ⟨n26,⟨⟩⟩ m' h5 ⟨k,lb2,hk,hk2,rfl,e5,s5,d2,bu,bs⟩;simp only at hk;subst hk;refine ak ?_;refine aM (fun q=>?_) (fun q=>?_)
  ·have hk:k<2:=ad
   obtain ⟨sl,hsl,vs⟩:=hsec k hk;have hwk:=hwS k hk;have hwkl:=hwSl k ad;have hsecl:(yW u k).length+(if k=0 then 0 else if k=1 then u.text.length else u.text.length+u.data.length)<=u.text.length+u.data.length:=by
    have:k=0\/k=1:=ad
    rcases this with rfl | rfl
    ·simp [yW]
    ·simp [yW]; omega
   refine ax ⟨ad,ad⟩ (av rfl ?_);rw [aE];refine af bs ((sl.p,sl.l,sl.c),()) (by rw [show 0+(k:Int).toNat*1=k from ad,hsl]; rfl) ?_;refine ak ?_;generalize hxs:yW u k=xs at vs hwk hsecl;generalize hwkk:wS k=wk at *;have lk:=vs.len;refine aS (cs:=[(false,[.int .i64])]) (fun y m' h'=>∃ (i:Nat) (F:cr),y.1=(i:Int)/\i<=sl.l/\m'=sl.l-i/\Ext h0 h'/\Ec h' B us F sp (iJ n k 0 (xs.take i) wk)/\(h1.size∉aR F.p/\h3.size∉aR F.p)/\bI h' h1.size 47 [J.v,O.v,tc.v,td.v]/\bI h' h3.size 43 [J.v,O.v]) ((0:Int),()) sl.l rfl
    ⟨0,lb2,rfl,ad,ad,e5,s5,d2,bu,bs⟩ ?_
   clear e5 s5 bu bs;rintro ⟨n31,⟨⟩⟩ m' h6 ⟨i,d,hi,hil,rfl,e6,s6,d3,bu,bs⟩;simp only at hi;subst hi;refine ak ?_;refine aM (fun q=>?_) (fun q=>?_)
   ·have hix:i<xs.length:=ad
    obtain ⟨aa,pp,ll,cc,haa,hc0,va0⟩:=vs.cells i hix;have htk2:xs.take (i+1)=xs.take i++[xs[i]]:=Yw hix;have hli:(iJ n k 0 (xs.take i) wk).lb.length<=wk.lb.length+i:=by
     have:=lY n k (xs.take i) 0 wk
     rw [YQ] at this;omega
    have X:iJ n k 0 (xs.take (i+1)) wk=jB n k i xs[i] (iJ n k 0 (xs.take i) wk):=by
     rw [htk2,B2,YQ,Y7,Zz ad]
    generalize xs[i]=x at hc0 va0 X;generalize hwi:iJ n k 0 (xs.take i) wk=wi at *;refine ax ⟨ad,ad⟩ (av haa ?_);rw [show Int.toNat (i:Int)=i from ad];refine ay (x.kind,x.name,x.inst.op,x.inst.a,x.inst.b,x.inst.n,x.inst.form,(pp,ll,cc),(x.e.num:Int),x.n,()) (aT e6 aj _ _ hc0) (ak ?_);refine br ?_;intro h7 b7 e7 z7;refine aw b7 rfl aj ?_;intro h8 b8 k8 z8;have b8:bI h8 h6.size 71 (Ob.encI pp ll cc x):=b8;have U:Ext h6 h8:=bQ e7 k8;have bu8:=bu.an U aj;have bs8:=bs.an U aj;have G:=s6.an U;have hw:=gu i;have l6:=s6.lt;have q6:=b8.lt;refine af b8 (x.kind,()) rfl (ak ?_);refine ar (fun r=>?_) (fun r=>?_)
    ·have r:x.kind=1:=by simpa using r
     have hp:jB n k i x wi={ wi with num:=yD wi.num (n,x.name) wi.lb.length,nn:=if (wi.num (n,x.name)).isSome then wi.nn else wi.nn+1,lb:=wi.lb++[⟨n,k,i,x.name⟩] }:=by unfold jB; rw [YC r]
     refine av rfl ?_;rw [aE];refine af G.box (some B,()) rfl (ak ?_);rw [aE];refine af b8 (x.name,()) rfl (ak ?_);refine av rfl ?_;rw [aE];refine af G.box ((d.p,d.l,d.c),()) rfl (ak ?_);have hlb3:d.l=wi.lb.length:=by rw [G.oc.1,Yu]
     refine SD G.maps.n n x.name (w:=wi.lb.length) ad ?_;intro h9 m9 Z z9;have x9:=G.box.an Z aj;have me9:=G.maps.e.an Z aj;have mg9:=G.maps.g.an Z aj;have ls9:=G.oc.bP Z (fun j hj=>by have:=(G.oc.cv hj).1; simp; omega);have b9:=b8.an Z (by simp; omega);refine av rfl ?_;rw [aE];refine af x9 ((d.p,d.l,d.c),()) rfl (ak ?_);refine af b9 (x.name,()) rfl (ak ?_);refine gU (e:=112) (z:=.agg #[.int .i64 0,.int .i64 0,.int .i64 0,.string ⟨#[]⟩]) (sz:=4) (by':=40) SJ VF rfl ad ad (MI _ _ _ _) rfl rfl ls9 ad ad ad (fun h' e=>⟨(b9.an e aj).cells _ rfl,(x9.an e aj).cells _ rfl,trivial⟩) ?_;intro p' c' h10 s10 V hp10;have nin:∀ j,j<B+4->j∉aR d.p:=fun j h1 h2=>by have:=(G.oc.cv h2).1; omega
     have nin2:∀ j,h6.size<=j->j∉aR d.p:=fun j h1 h2=>by have:=(s6.oc.cv h2).2; omega
     have b10:=b9.an V (nin2 _ ad);have x10:=x9.an V (nin _ ad);refine ⟨⟨b10.cells _ rfl,trivial⟩,?_⟩;refine av rfl ?_;rw [aE];refine aw x10 rfl aj ?_;intro h11 x11 Y z11;have x11:PA h11 (B+3) us ⟨p',d.l+1,c'⟩ B (B+1) (B+2) sp:=x11;rw [hw];have e611:Ext h0 h11:=Ch.trans (Ch.trans (bQ (e6.trans U) Z) V (fun j hj hl=>by have:=(G.oc.cv hj).1; omega)) Y (fun j hj hl=>by simp at hj; omega);have q56:h1.size<h3.size:=q3;have q36:h3.size<h6.size:=bs.lt;have d4:h1.size∉aR p'/\h3.size∉aR p':=by
      rcases hp10 with rfl | ⟨a',rfl,ha'⟩
      ·exact d3
      ·simp only [aR,List.mem_singleton]; omega
     refine aG (cs:=[(false,[.int .i64])]) (((i+1:Nat):Int),()) (sl.l-(i+1)) rfl ad rfl ⟨i+1,⟨p',d.l+1,c'⟩,rfl,ad,rfl,e611,?_,d4,?_,?_⟩
     ·rw [X,hp];refine ⟨x11,⟨(m9.an V (nin _ ad)).an Y aj,(me9.an V (nin _ ad)).an Y aj,(mg9.an V (nin _ ad)).an Y aj⟩,?_⟩;show SL h11 (B+4) 112 4 p' (d.l+1) c' ((wi.lb++[(⟨n,k,i,x.name⟩:Lb)]).map AT);rw [YH];exact s10.bP Y (fun j hj=>by have:=(s10.cv hj).1; simp; omega)
     ·exact ((bu8.an Z (by simp; omega)).an V d3.1).an Y (by simp; omega)
     ·exact ((bs8.an Z (by simp; omega)).an V d3.2).an Y (by simp; omega)
    ·have r:¬ x.kind=1:=by simpa using r
     have hp:jB n k i x wi=wi:=by unfold jB; rw [Yx r]
     rw [hw];refine aG (cs:=[(false,[.int .i64])]) (((i+1:Nat):Int),()) (sl.l-(i+1)) rfl ad rfl ⟨i+1,d,rfl,ad,rfl,e6.trans U,by rw [X,hp]; exact G,d3,bu8,bs8⟩
   ·have hi:i=xs.length:=ad
    subst hi;rw [YW (YI _)] at s6;have hw:=gu k;rw [hw];refine aG (cs:=[(false,[.int .i64])]) (((k+1:Nat):Int),()) (2-(k+1)) rfl ad rfl ⟨k+1,d,rfl,ad,rfl,e6,by rw [hwk]; exact s6,d3,bu,bs⟩
  ·have hk:k=2:=ad
   subst hk;clear bs;rw [aE];refine af bu ((tc.p,tc.l,tc.c),()) rfl (ak ?_);have ve:=hu.bh;have le:=ve.len;have hw2:wS 2=iJ n 1 0 u.data (iJ n 0 0 u.text w1):=rfl;have hne:∀ (i:Nat),(hi:i<u.bh.length)->(u.bh.take (i+1)).foldl (uO n) (wS 2)=uO n ((u.bh.take i).foldl (uO n) (wS 2)) (u.bh[i]'ad):=by
    intro i hi;rw [Yw hi,Zk] <;> rfl
   refine aS (cs:=[(false,[.int .i64])]) (fun y m' h'=>∃ (i:Nat),y.1=(i:Int)/\i<=tc.l/\m'=tc.l-i/\Ext h0 h'/\Ec h' B us lb2 sp ((u.bh.take i).foldl (uO n) (wS 2))) ((0:Int),()) tc.l rfl
    ⟨0,rfl,ad,ad,e5,s5⟩ ?_
   clear e5 s5 bu;rintro ⟨n30,⟨⟩⟩ m' h6 ⟨i,hi,hil,rfl,e6,s6⟩;simp only at hi;subst hi;refine ak ?_;refine aM (fun q=>?_) (fun q=>?_)
   ·have hix:i<u.bh.length:=ad
    obtain ⟨aa,pp,ll,cc,haa,hc0,va0,hsz⟩:=ve.cells i hix;have hne:=hne i hix;generalize u.bh[i]=x at hc0 va0 hsz hne;generalize hwi:(u.bh.take i).foldl (uO n) (wS 2)=wi at *;refine ax ⟨ad,ad⟩ (av haa ?_);rw [show Int.toNat (i:Int)=i from ad];refine ay (x.1,(pp,ll,cc),(x.2.num:Int),()) (aT e6 aj _ _ hc0) (ak ?_);refine br ?_;intro h7 b7 e7 z7;refine aw b7 rfl aj ?_;intro h8 b8 k8 z8;have b8:bI h8 h6.size 100 [.string x.1,.slice pp ll cc,.int .u32 (x.2.num:Int)]:=b8;have U:Ext h6 h8:=bQ e7 k8;have G:=s6.an U;have l6:=s6.lt;have q6:=b8.lt;refine av rfl ?_;rw [aE];refine af G.box (some (B+1),()) rfl (ak ?_);refine af b8 (x.1,()) rfl (ak ?_);refine av rfl ?_;rw [aE];refine af G.box (some (B+1),()) rfl (ak ?_);refine VQ G.maps.e ?_;refine ⟨⟨b8.cells _ rfl,G.box.cells _ rfl,trivial⟩,?_⟩;refine SD G.maps.e n x.1 (w:=wi.ne) rfl ?_;intro h9 m9 Z z9;have hw:=gu i;rw [hw];refine aG (cs:=[(false,[.int .i64])]) (((i+1:Nat):Int),()) (tc.l-(i+1)) rfl ad rfl ⟨i+1,rfl,ad,rfl,bQ (e6.trans U) Z,?_⟩;rw [hne];exact ⟨G.box.an Z aj,⟨G.maps.n.an Z aj,m9,G.maps.g.an Z aj⟩,G.oc.bP Z (fun j hj=>by have:=(G.oc.cv hj).1; simp; omega)⟩
   ·have hi:i=u.bh.length:=ad
    subst hi;rw [YW (YI _)] at s6;have hw:=gu n;rw [hw];refine aG (cs:=[(false,[.int .i64])]) (((n+1:Nat):Int),()) (l-(n+1)) rfl ad rfl ⟨n+1,lb2,rfl,ad,rfl,e6,?_⟩;rw [htk,BZ,YQ,Y7,Zz ad,hw1];exact s6
 ·have hn:n=xu.length:=ad
  subst hn;rw [YW (YI _)] at s1;exact ⟨rfl,lb1,s1,e1⟩
end
def vc (n:Nat) (w:LW) (s:Xaa):LW:={ w with gl:=dH w.gl s n,ng:=if (w.gl s).isSome then w.ng else w.ng+1 }
def FK (n:Nat) (u:cd) (w:LW):LW:=u.aZ.foldl (vc n) w
def kQ:Nat->List cd->LW->Except (Nat × Xaa) LW
 | _,[],w=>.ok w
 | n,u::us,w=>match u.aZ.find? fun g=>(w.gl g).isSome with
  | some g=>.error (n,g)
  | none=>kQ (n+1) us (FK n u w)
theorem OD (n:Nat):∀ (l:List Xaa) (w:LW),(l.foldl (vc n) w).lb=w.lb/\(l.foldl (vc n) w).num=w.num/\(l.foldl (vc n) w).nn=w.nn/\(l.foldl (vc n) w).tK=w.tK/\(l.foldl (vc n) w).ne=w.ne
 | [],w=>⟨rfl,rfl,rfl,rfl,rfl⟩
 | e::l,w=>by rw [Y6]; exact OD n l _
section
variable {h0:Hp} {B:Nat} {us lb:cr} {sp:Int}
def JL {h:Hp} {w:LW} (hB:h0.size=B) (e0:Ext h0 h) (s:Ec h B us lb sp w) {p:Xac} {l c:Nat} {xu:List cd} (v:xS h0 p l xu) (hnu:xu.length<=2^20) :
  HC Tryz.prog 32 #[ptr (B+3),.slice p l c] h fun x h'=>Ext h0 h'/\match kQ 0 xu w with
   | .error q=>x=.tuple #[.agg #[.int .i64 22,.int .i64 (q.1:Int),.string q.2],.bool true]
   | .ok w'=>x=.tuple #[.agg #[.int .i64 0,.int .i64 0,.string ⟨#[]⟩],.bool false]/\Ec h' B us lb sp w':=by
 refine aY (args:=[ptr (B+3),.slice p l c]) mixed Tryz.func32 az (om (some ⟨B+3,0,none⟩) p l c) ?_;unfold kg bf bg bz aK bU bn bq bX aP bR;have hll:=v.len;generalize U:kQ 0 xu w=M;refine br ?_;intro h1 b1 e1 z1;have l0:=s.lt;refine aS (cs:=[(false,[.bool]),(false,[.int .i64])]) (fun y m' h'=>∃ (n:Nat) (w':LW),y.2.1=(n:Int)/\n<=l/\m'=l-n/\Ext h0 h'/\Ec h' B us lb sp w'/\bI h' h.size 54 [.int .i64 0,.int .i64 0,.string ⟨#[]⟩]/\kQ n (xu.drop n) w'=M) (false,(0:Int),()) l rfl
  ⟨0,w,rfl,ad,ad,e0.trans e1,s.an e1,b1,U⟩ ?_
 have z0:=e0.size;have hlb:∀ i,i∈aR lb.p->i<h.size:=fun i hi=>(s.oc.cv hi).2
 clear U s b1;rintro ⟨b3,n4,⟨⟩⟩ m' h2 ⟨n,w,hn,hnl,rfl,e2,s,b1,U⟩;simp only at hn;subst hn;refine ak ?_;have q1:=b1.lt;refine aM (fun q=>?_) (fun q=>?_)
 ·have hlt:n<xu.length:=ad
  obtain ⟨a,ta,tb,tc,d,ha,hc,hu⟩:=v.cells n hlt;rw [YK hlt] at U;generalize xu[n]=u at hc hu U;refine ax ⟨ad,ad⟩ (av ha ?_);rw [show Int.toNat (n:Int)=n from ad];refine ay ((ta.p,ta.l,ta.c),(tb.p,tb.l,tb.c),(tc.p,tc.l,tc.c),(d.p,d.l,d.c),()) (aT e2 aj _ _ hc) (ak ?_);refine br ?_;intro h3 F e3 z3;refine aw F rfl aj ?_;intro h4 b4 k4 z4;have b4:bI h4 h2.size 47 [ta.v,tb.v,tc.v,d.v]:=b4;have X:Ext h2 h4:=bQ e3 k4;have Y:=e2.trans X;have s4:=s.an X;have Z:=b1.an X aj;have vg:=hu.aZ;have lg:=vg.len;have mg:=vg.many;have q4:=b4.lt;have l2:=s.lt;rw [aE];refine af b4 ((d.p,d.l,d.c),()) rfl (ak ?_);refine aS (cs:=[(false,[.bool]),(false,[.int .i64])]) (fun y m' h'=>∃ (i:Nat),y.2.1=(i:Int)/\i<=d.l/\m'=d.l-i/\h'=h4/\∀ j,(G:j<i)->(hx:j<u.aZ.length)->(w.gl u.aZ[j]).isSome=false) (b3,(0:Int),()) d.l rfl
   ⟨0,rfl,ad,ad,rfl,by intro j G; omega⟩ ?_
  rintro ⟨b22,n23,⟨⟩⟩ m' h5 ⟨i,hi,hil,rfl,rfl,hok⟩;simp only at hi;subst hi;refine ak ?_;refine aM (fun q=>?_) (fun q=>?_)
  ·have J:i<u.aZ.length:=ad
   obtain ⟨aa,haa,V,hsz⟩:=vg.cells i J;refine ax ⟨ad,ad⟩ (av haa ?_);rw [show Int.toNat (i:Int)=i from ad];refine ay (u.aZ[i],()) (aT Y aj _ _ V) (ak ?_);refine av rfl ?_;rw [aE];refine af s4.box (some (B+2),()) rfl (ak ?_);refine Dt s4.maps.g u.aZ[i] ?_;refine ar (fun r=>?_) (fun r=>?_)
   ·refine aw Z rfl aj ?_;intro h6 b6 k6 z6;have b6:bI h6 h.size 54 [.int .i64 22,.int .i64 (n:Int),.string u.aZ[i]]:=b6;refine af b6 ((22:Int),(n:Int),u.aZ[i],()) rfl ?_;have hf:M=.error (n,u.aZ[i]):=by
     rw [<- U,kQ,lA _ u.aZ i J (fun j G=>hok j G ad) r]
    subst hf;exact ⟨bQ Y k6,rfl⟩
   ·have hw:=gu i;rw [hw];refine aG (cs:=[(false,[.bool]),(false,[.int .i64])]) (b22,((i+1:Nat):Int),()) (d.l-(i+1)) rfl ad rfl ⟨i+1,rfl,ad,rfl,rfl,fun j G hx=>?_⟩
    by_cases hji:j=i
    ·subst hji; exact r
    ·exact hok j ad hx
  ·have hi:i=u.aZ.length:=ad
   subst hi;have hM2:kQ (n+1) (xu.drop (n+1)) (FK n u w)=M:=by
    rw [<- U,kQ,oq _ u.aZ (fun j G=>hok j G G)]
   refine af b4 ((d.p,d.l,d.c),()) rfl (ak ?_);refine aS (cs:=[(false,[.int .i64])]) (fun y m' h'=>∃ (i:Nat),y.1=(i:Int)/\i<=d.l/\m'=d.l-i/\Ext h0 h'/\Ec h' B us lb sp ((u.aZ.take i).foldl (vc n) w)/\bI h' h.size 54 [.int .i64 0,.int .i64 0,.string ⟨#[]⟩]) ((0:Int),()) d.l rfl
    ⟨0,rfl,ad,ad,Y,s4,Z⟩ ?_
   clear s4 Z;rintro ⟨n27,⟨⟩⟩ m' h6 ⟨i,hi,hil',rfl,e6,O,b16⟩;simp only at hi;subst hi;refine ak ?_;refine aM (fun q=>?_) (fun q=>?_)
   ·have J:i<u.aZ.length:=ad
    obtain ⟨aa,haa,V,hsz⟩:=vg.cells i J;have hst:(u.aZ.take (i+1)).foldl (vc n) w=vc n ((u.aZ.take i).foldl (vc n) w) u.aZ[i]:=by
     rw [Yw J,Zk] <;> rfl
    generalize u.aZ[i]=x at V hsz hst;generalize (u.aZ.take i).foldl (vc n) w=wi at *;refine ax ⟨ad,ad⟩ (av haa ?_);rw [show Int.toNat (i:Int)=i from ad];refine ay (x,()) (aT e6 aj _ _ V) (ak ?_);refine av rfl ?_;rw [aE];refine af O.box (some (B+2),()) rfl (ak ?_);have l6:=O.lt;refine qX O.maps.g hsz (w:=n) rfl ?_;intro h7 m7 k7 z7;have hw:=gu i;rw [hw];refine aG (cs:=[(false,[.int .i64])]) (((i+1:Nat):Int),()) (d.l-(i+1)) rfl ad rfl ⟨i+1,rfl,ad,rfl,bQ e6 k7,?_,b16.an k7 (by simp; omega)⟩;rw [hst];exact ⟨O.box.an k7 aj,⟨O.maps.n.an k7 aj,O.maps.e.an k7 aj,m7⟩,O.oc.bP k7 (fun j G=>by have:=(O.oc.cv G).1; simp; omega)⟩
   ·have hi:i=u.aZ.length:=ad
    subst hi;rw [YW (YI _)] at O;have hw:=gu n;rw [hw];exact aG (cs:=[(false,[.bool]),(false,[.int .i64])]) (b22,((n+1:Nat):Int),()) (l-(n+1)) rfl ad rfl ⟨n+1,_,rfl,ad,rfl,e6,O,b16,hM2⟩
 ·have hn:n=xu.length:=ad
  subst hn;rw [ZU (YI _)] at U;subst U;refine aw b1 rfl aj ?_;intro h3 F k3 z3;have F:bI h3 h.size 54 [.int .i64 0,.int .i64 0,.string ⟨#[]⟩]:=F;refine af F ((0:Int),(0:Int),(⟨#[]⟩:Xaa),()) rfl ?_;refine ⟨bQ e2 k3,rfl,?_⟩;exact ⟨s.box.an k3 (by simp; omega),s.maps.an k3 (by simp; omega) (by simp; omega) (by simp; omega),s.oc.bP k3 (fun j G=>by have:=hlb j G; simp; omega)⟩
end
end Go.Sx.Lk
namespace Go.Sx.Ob
open Go.Proofs
def Vg (x:cB):Bool:=decide (x.kind=2) && nq x.inst.op
def jV (l:List cB):Nat:=(l.filter Vg).length
def HJ (l:List cB) (i:Nat) (hi:i<l.length):jV (l.take (i+1))=jV (l.take i)+if Vg l[i]=true then 1 else 0:=by
 unfold jV;rw [Yw hi,List.filter_append,Yy]
 congr 1
 by_cases hk:Vg l[i]=true <;> simp [hk]
def zu (l:List cB):jV l<=l.length:=ZP _ _
def JV {h:Hp} (t:Bh h) {a b c d:cr} {u:cd} (v:tO h a b c d u):HC Tryz.prog 36 #[ED a b c d] h fun w h'=>w=.int .i64 ((if eO u=0 then jV u.text else 0:Nat):Int)/\Ext h h':=by
 refine aY (args:=[ED a b c d]) mixed Tryz.func36 az (yR a.p a.l a.c b.p b.l b.c c.p c.l c.c d.p d.l d.c) ?_;unfold wh bf bg bz aK aX ct aH bq bX aP;refine br ?_;intro h1 b1 e1 z1;have b1:bI h1 h.size 47 [a.v,b.v,c.v,d.v]:=b1;refine af b1 ((a.p,a.l,a.c),(b.p,b.l,b.c),(c.p,c.l,c.c),(d.p,d.l,d.c),()) rfl (ak ?_);refine aI (wb (t.an e1 aj) (v.an e1)) ?_;rintro _ h2 ⟨rfl,e2⟩;refine ⟨((eO u:Int),()),rfl,ak ?_⟩;have G:=e1.trans e2;refine ar (fun r=>?_) (fun r=>?_)
 ·have r:¬ eO u=0:=by simpa using r
  rw [Yx r];exact ⟨rfl,G⟩
 have r:eO u=0:=by simpa using r
 rw [YC r];have Y:=b1.an e2 aj;refine af Y ((a.p,a.l,a.c),()) rfl (ak ?_);have n:=v.text.len;have m1:=v.text.many;refine aS (cs:=[(false,[.int .i64]),(false,[.int .i64])]) (fun y m h'=>∃ i:Nat,y.2.1=(i:Int)/\y.1=(jV (u.text.take i):Int)/\m=u.text.length-i/\i<=u.text.length/\Ext h h') ((0:Int),(0:Int),()) u.text.length rfl
  ⟨0,rfl,rfl,rfl,ad,G⟩ ?_
 rintro ⟨n1,n2,⟨⟩⟩ m g ⟨i,hi,hn,rfl,Z,U⟩;simp only at hi hn;subst hi hn;refine ak ?_;refine aM (fun q=>?_) (fun q=>?_)
 ·have J:i<u.text.length:=ad
  obtain ⟨aa,pp,X,cc,rfl',hc,V⟩:=(v.text.an U).cells i J;have F:=HJ u.text i J;have hsl:jV (u.text.take i)<=i:=by have:=zu (u.text.take i); rw [YQ] at this; omega
  generalize u.text[i]=x at hc V F;refine ax ⟨ad,ad⟩ (av rfl' ?_);rw [show Int.toNat (i:Int)=i from ad];refine ay (x.kind,x.name,x.inst.op,x.inst.a,x.inst.b,x.inst.n,x.inst.form,(pp,X,cc),(x.e.num:Int),x.n,()) hc (ak ?_);refine br ?_;intro g1 c1 f1 y1;refine aw c1 rfl aj ?_;intro g2 O k2 y2;have O:bI g2 g.size 71 (encI pp X cc x):=O;have f2:Ext g g2:=bQ f1 k2;have j:=U.trans f2;refine af O (x.kind,()) rfl (ak ?_);refine ar (fun r=>?_) (fun r=>?_)
  ·have r:x.kind=2:=by simpa using r
   rw [aE];refine af O (x.inst.op,()) rfl (ak ?_);refine aI (Au (t.an j aj) x.inst.op V.op.1 V.op.2) ?_;rintro _ g3 ⟨rfl,f3⟩;refine ⟨(nq x.inst.op,()),rfl,ak ?_⟩;refine ar (fun s=>?_) (fun s=>?_)
   ·rw [YC (by unfold Vg; rw [YA r,s]; rfl)] at F;refine aG (cs:=[(false,[.int .i64]),(false,[.int .i64])]) (((jV (u.text.take i)+1:Nat):Int),((i+1:Nat):Int),()) (u.text.length-(i+1)) rfl ad (by rw [wrap_i64 ad ad,wrap_i64 ad ad]; rfl) ?_;exact ⟨i+1,rfl,by rw [F],rfl,ad,j.trans f3⟩
   ·rw [Yx (by unfold Vg; rw [YA r,s]; decide)] at F;refine aG (cs:=[(false,[.int .i64]),(false,[.int .i64])]) ((jV (u.text.take i):Int),((i+1:Nat):Int),()) (u.text.length-(i+1)) rfl ad (by rw [wrap_i64 ad ad]; rfl) ?_;exact ⟨i+1,rfl,by rw [F]; rfl,rfl,ad,j.trans f3⟩
  ·have r:¬ x.kind=2:=by simpa using r
   rw [Yx (by unfold Vg; rw [YB r]; simp)] at F;refine aG (cs:=[(false,[.int .i64]),(false,[.int .i64])]) ((jV (u.text.take i):Int),((i+1:Nat):Int),()) (u.text.length-(i+1)) rfl ad (by rw [wrap_i64 ad ad]; rfl) ?_;exact ⟨i+1,rfl,by rw [F]; rfl,rfl,ad,j⟩
 ·have:i=u.text.length:=ad
  subst this;rw [Y4];exact ⟨rfl,U⟩
end Go.Sx.Ob
namespace Go.Sx.Lk
open Go.Proofs Go.Sx.Ob
variable {h':Hp} {fs:List cL}
structure kx where
 s:cr
 ws:List (cr × cB)
def Wo:kx:=⟨mM,[]⟩
structure mU (h:Hp) (b:Nat) (x:kx):Prop where
 out:SL h b 71 10 x.s.p x.s.l x.s.c (x.ws.map tJ)
 fq:∀ u,u∈x.ws->SL h b 117 2 u.1.p u.1.l u.1.c (u.2.e.ai.map df)
def mU.an {h:Hp} {b:Nat} {x:kx} {ws:List Nat} (s:mU h b x) (k:Ch ws h h') (h1:∀ i,i∈aR x.s.p->i∉ws) (h2:∀ u,u∈x.ws->∀ i,i∈aR u.1.p->i∉ws):mU h' b x :=
 ⟨s.out.bP k h1,fun u hu=>(s.fq u hu).bP k (h2 u hu)⟩
def mU.ext {h:Hp} {b:Nat} {x:kx} (s:mU h b x) (k:Ext h h'):mU h' b x:=s.an k aj aj
def mU.mono {h:Hp} {b b':Nat} {x:kx} (s:mU h b x) (d:b'<=b):mU h b' x:=⟨s.out.mono d,fun u hu=>(s.fq u hu).mono d⟩
structure lE (h:Hp) (b N:Nat) (S:Nat->kx):Prop where
 sec:∀ k,k<N->mU h b (S k)
 ap:∀ k j,k<N->j<N->k≠j->∀ x,x∈aR (S k).s.p->x∉aR (S j).s.p
def lE.ext {h:Hp} {b N:Nat} {S:Nat->kx} (s:lE h b N S) (k:Ext h h'):lE h' b N S:=⟨fun j d=>(s.sec j d).ext k,s.ap⟩
def lE.nh {h:Hp} {b N:Nat} {S:Nat->kx} {ws:List Nat} (s:lE h b N S) (k:Ch ws h h') (hw:∀ i,i∈ws->i<b):lE h' b N S :=
 ⟨fun j d=>(s.sec j d).an k (fun i hi hm=>by have:=((s.sec j d).out.cv hi).1; have:=hw i hm; omega) (fun u hu i hi hm=>by have:=(((s.sec j d).fq u hu).cv hi).1; have:=hw i hm; omega),s.ap⟩
def lE.rM {h:Hp} {b N:Nat} {S:Nat->kx} {F:Nat} {e:TypeId} {sz:Nat} {p:Xac} {l c:Nat} {xs:List (List Xab)} (s:lE h b N S) (t:SL h F e sz p l c xs) (k:Ch (aR p) h h') (h1:e≠71) (h2:e≠117):lE h' b N S :=
 ⟨fun j d=>(s.sec j d).an k (fun i hi hm=>vp t (s.sec j d).out h1 i hm hi) (fun u hu i hi hm=>vp t ((s.sec j d).fq u hu) h2 i hm hi),s.ap⟩
def ln (S:Nat->kx) (k:Nat) (x:kx):Nat->kx:=fun j=>if j=k then x else S j
def lE.nil (h:Hp) (b:Nat) (S:Nat->kx):lE h b 0 S:=⟨fun k hk=>absurd hk ad,fun k j hk=>absurd hk ad⟩
def lE.add {h:Hp} {b N:Nat} {S:Nat->kx} (s:lE h b N S) (e:Ext h h') (O:b<=h.size) {x:kx} (hx:mU h' h.size x):lE h' b (N+1) (ln S N x):=by
 have s':=s.ext e;refine ⟨fun k hk=>?_,fun k j hk U J y F d=>?_⟩
 ·unfold ln
  by_cases u:k=N
  ·rw [YC u]; exact hx.mono O
  ·rw [Yx u]; exact s'.sec k ad
 ·unfold ln at F d
  by_cases u:k=N <;> by_cases G:j=N
  ·omega
  ·rw [YC u] at F;rw [Yx G] at d;have h1:=(hx.out.cv F).1;have h2:=((s.sec j ad).out.cv d).2;omega
  ·rw [Yx u] at F;rw [YC G] at d;have h1:=(hx.out.cv d).1;have h2:=((s.sec k ad).out.cv F).2;omega
  ·rw [Yx u] at F;rw [Yx G] at d;exact s.ap k j ad ad J y F d
def lE.put {h:Hp} {b N:Nat} {S:Nat->kx} (s:lE h b N S) {k:Nat} (hk:k<N) {i:Nat} (hi:i<(S k).ws.length) {q:cr × cB} (V:SL h b 117 2 q.1.p q.1.l q.1.c (q.2.e.ai.map df))
  (X:SL h' b 71 10 (S k).s.p (S k).s.l (S k).s.c (((S k).ws.set i q).map tJ)) (c:Ch (aR (S k).s.p) h h'):lE h' b N (ln S k ⟨(S k).s,(S k).ws.set i q⟩):=by
 have F:∀ {p:Xac} {l c:Nat} {ts:dc},SL h b 117 2 p l c (ts.map df)->SL h' b 117 2 p l c (ts.map df):=fun t=>t.bP c (fun x hx hm=>vp t (s.sec k hk).out cm x hx hm)
 refine ⟨fun j G=>?_,fun j m G hm O y U J=>?_⟩
 ·unfold ln
  by_cases d:j=k
  ·rw [YC d];refine ⟨X,fun u hu=>?_⟩;rcases ZH hu with hu | rfl
   ·exact F ((s.sec k hk).fq u hu)
   ·exact F V
  ·rw [Yx d];exact ⟨(s.sec j G).out.bP c (fun x hx hm=>s.ap j k G hk d x hx hm),fun u hu=>F ((s.sec j G).fq u hu)⟩
 ·have e1:∀ j,(ln S k ⟨(S k).s,(S k).ws.set i q⟩ j).s=(S j).s:=by
   intro j;unfold ln
   by_cases d:j=k
   ·rw [YC d,d]
   ·rw [Yx d]
  rw [e1] at U J;exact s.ap j m G hm O y U J
def xV (S:Nat->kx) (n:Nat):List Xab:=[(S (2*n)).s.v,(S (2*n+1)).s.v,mM.v,mM.v]
def mY (S:Nat->kx) (n:Nat):List (List Xab):=(List.range n).map (xV S)
def Hz (S:Nat->kx) (n:Nat) (a b:kx):mY (ln (ln S (2*n) a) (2*n+1) b) (n+1)=mY S n++[[a.s.v,b.s.v,mM.v,mM.v]]:=by
 unfold mY;rw [List.range_succ,YH]
 congr 1
 ·apply Zm;intro i hi;have hi:i<n:=ag9.1 hi;unfold xV ln;rw [Yx ad,Yx ad,Yx ad,Yx ad]
 ·show [xV _ n]=_;unfold xV ln;rw [Yx ad,YC rfl,YC rfl]
def jG (S:Nat->kx) (n:Nat):(mY S n).length=n:=by unfold mY; simp
def CI (S:Nat->kx) (n i:Nat) (hi:i<(mY S n).length):(mY S n)[i]=xV S i:=by
 have:i<n:=by simpa [jG] using hi
 show ((List.range n).map (xV S))[i]'(by simpa using this)=_;rw [YE,List.getElem_range]
def fe (D:List (Xaa × cn)):List cL:=D.map fun q=>⟨q.1,none,0,0,q.2⟩
def fk (e:cL):Xaa × cn:=(e.name,e.x)
def pO (D:List (Xaa × cn)):(fe D).map fk=D:=by
 unfold fe;rw [YY];exact List.map_id _
def Kw {es:List cL} (h:es.map fk=fs.map fk):bd es=bd fs:=by
 have:=YJ (List.map (·.1)) h
 rw [YY,YY] at this;exact this
def Iy {es:List cL} (h:es.map fk=fs.map fk) (s:Xaa):kE es s=kE fs s:=by
 unfold kE;have d:∀ l:List cL,l.findIdx? (fun e=>decide (e.name=s))=(l.map fk).findIdx? fun q=>decide (q.1=s):=by
  intro l;rw [bi9] <;> rfl
 rw [d,d,h]
def C5 {es:List cL} (h:es.map fk=fs.map fk):cz es=cz fs:=by
 funext s
 unfold cz;rw [Iy h]
def C4 {es:List cL} (h:es.map fk=fs.map fk):dh es=dh fs:=by
 funext s
 unfold dh;rw [Iy h];cases kE fs s with
 | none=>rfl
 | some k =>
  have hx:es[k]?.map (·.x)=fs[k]?.map (·.x):=by
   have h1:(es.map fk)[k]?=(fs.map fk)[k]?:=by rw [h]
   rw [Zj,Zj] at h1;have h2:=YJ (Option.map (·.2)) h1;rw [Option.map_map,Option.map_map] at h2;exact h2
  show (es[k]?.map (·.x)).getD uq=(fs[k]?.map (·.x)).getD uq;rw [hx]
def I6 {es:List cL} (h:es.map fk=fs.map fk):eU es=eU fs:=by
 funext s
 unfold eU;rw [C5 h,C4 h,Kw h]
def Bb {es:List cL} (h:es.map fk=fs.map fk):dp es=dp fs:=by
 unfold dp;rw [C5 h,C4 h]
def mR (D:List (Xaa × cn)):List (Xaa × cn):=D.map fun q=>(q.1,eU (fe D) q.1)
def vX (D:List (Xaa × cn)) (x:cn):cn:=de (cy (fe D)) x
def FT {es:List cL} (h:es.map fk=fs.map fk):cy es=cy fs:=by
 funext s
 unfold cy;rw [C5 h,C4 h]
def et:Nat->List cd->List (Nat × rO)
 | _,[]=>[]
 | n,u::us=>u.bh.map (fun e=>(n,e))++et (n+1) us
theorem ru (u:cd):∀ (l:List cd) (n:Nat),et n (l++[u])=et n l++u.bh.map fun e=>(n+l.length,e)
 | [],n=>by simp [et]
 | y::l,n=>by
  simp only [List.cons_append,et,List.length_cons];rw [ru u l (n+1),show n+1+l.length=n+(l.length+1) from ad,YV]
def vY (w:LW) (us:List cd):List (Xaa × cn):=(et 0 us).map fun q=>(w.word (q.1,q.2.1),w.lin q.1 q.2.2)
def ry (w:LW) (n:Nat) (u:cd):Option Xaa:=(w.yP n u.text).or ((w.yP n u.data).or (u.bh.findSome? fun e=>w.bad n e.2))
def fN (w:LW):Nat->List cd->Option (Nat × Xaa)
 | _,[]=>none
 | n,u::us=>match ry w n u with
  | some s=>some (n,s)
  | none=>fN w (n+1) us
def Az (w:LW) (us:List cd) (n:Nat) (hn:n<us.length):fN w n (us.drop n)=match ry w n us[n] with
  | some s=>some (n,s)
  | none=>fN w (n+1) (us.drop (n+1)):=by
 rw [YK hn,fN]
noncomputable def nv (D:List (Xaa × cn)):Option Nat:=by
 classical
 exact D.findIdx? fun q=>decide (kB (dp (fe D)) q.1)
structure Fl where
 qF:Nat
 unit:Nat
 name:Xaa
structure LP where
 w:LW
 us:List cd
 D:List (Xaa × cn)
def LP.ff (P:LP) (n:Nat) (x:cB):cB:={ x with e:=vX (mR P.D) (P.w.lin n x.e) }
noncomputable def me (us:List cd):Except Fl LP :=
 if us.length=0 then .error ⟨25,0,dJ⟩
 else if 64<us.length then .error ⟨4,0,dJ⟩
 else match us.findIdx? fun u=>decide (eO u≠0) with
 | some n=>.error ⟨31,n,dJ⟩
 | none=>match kQ 0 us (nC 0 us Sz) with
  | .error q=>.error ⟨22,q.1,q.2⟩
  | .ok w=>match fN w 0 us with
   | some q=>.error ⟨23,q.1,q.2⟩
   | none=>match nv (vY w us) with
    | some i=>.error ⟨24,((et 0 us).map fun q=>(q.1,q.2.1)).getD i (0,dJ) |>.1,((et 0 us).map fun q=>(q.1,q.2.1)).getD i (0,dJ) |>.2⟩
    | none=>.ok ⟨w,us,vY w us⟩
def cK (u:cd):List cn:=u.text.map (·.e)++u.data.map (·.e)++u.bh.map (·.2)
def Gh {x:cn} (h:Pz x=true):Good x:=by
 unfold Pz at h;simp only [Bool.and_eq_true,decide_eq_true_eq] at h;obtain ⟨t,n⟩:=x;obtain ⟨rfl,rfl⟩:=h;exact ⟨⟨List.Pairwise.nil,aj⟩,aj,cm⟩
def F' {x:cB} {k:Nat} (h:cD x k=true) (hc:∀ t,t∈x.e.ai->t.2<4294967296) (hn:x.e.num<4294967296):Good x.e:=by
 have z:z3 x=true->Good x.e:=Gh;unfold cD at h
 repeat' split at h
 all_goals try simp only [Bool.and_eq_true] at h
 ·exact z h.1.2
 ·have h1:=h.1.1.2;unfold yC at h1;simp only [Bool.and_eq_true] at h1;have h2:=h1.2;split at h2
  ·simp only [Bool.and_eq_true] at h2;exact DN h2.2 hc hn
  ·simp only [Bool.and_eq_true] at h2;exact Gh h2.2
 ·exact z h.2
 ·exact z h.1.2
 ·exact z h.2
 ·exact DN h.1.1.1.2 hc hn
 ·exact z h.2
 ·cases h
theorem kf {sec:Nat}:∀ {l:List cB} {D:List Xaa},eQ sec D l=true->∀ x,x∈l->cD x sec=true
 | [],_,_,x,hx=>by simp at hx
 | y::l,D,h,x,hx=>by
  unfold eQ at h;rw [YZ] at h;rcases YS.1 hx with rfl | hx
  ·have:=h.1
   unfold x5 at this;rw [YZ] at this;exact this.1
  ·exact kf h.2 x hx
theorem tY:∀ {l:List rO} {D:List Xaa},gp D l=true->∀ e,e∈l->cX e.1.data.toList=true/\nV none e.2.ai=true
 | [],_,_,x,hx=>by simp at hx
 | y::l,D,h,x,hx=>by
  unfold gp at h;rw [YZ] at h;rcases YS.1 hx with rfl | hx
  ·have:=h.1
   unfold CK at this;simp only [Bool.and_eq_true] at this;exact ⟨this.1.2,this.2⟩
  ·exact tY h.2 x hx
def AP {u:cd} (h:eO u=0) (hc:∀ x,x∈cK u->x.num<4294967296/\∀ t,t∈x.ai->t.2<4294967296):∀ x,x∈cK u->Good x:=by
 have h1:=(wZ h).2;unfold tN at h1;simp only [Bool.and_eq_true] at h1;obtain ⟨⟨⟨h1,h2⟩,h3⟩,h4⟩:=h1;intro x hx;have d:=hc x hx;unfold cK at hx;rcases YN.1 hx with hx | hx
 ·rcases YN.1 hx with hx | hx
  ·obtain ⟨y,j,rfl⟩:=YF.1 hx;exact F' (kf h1 y j) d.2 d.1
  ·obtain ⟨y,j,rfl⟩:=YF.1 hx;exact F' (kf h2 y j) d.2 d.1
 ·obtain ⟨y,j,rfl⟩:=YF.1 hx;exact DN (tY h3 y j).2 d.2 d.1
structure Jk (us:List cd):Prop where
 many:us.length<=2^20
 items:uQ us<=2^20
 num:∀ u,u∈us->∀ x,x∈cK u->x.num<4294967296/\∀ t,t∈x.ai->t.2<4294967296
 ai:((us.flatMap cK).flatMap (·.ai)).length<=2^20
def Jk.len {us:List cd} (s:Jk us) {u:cd} (hu:u∈us) {x:cn} (hx:x∈cK u):x.ai.length<=2^20:=by
 have h1:x∈us.flatMap cK:=bp9.2 ⟨u,hu,hx⟩;exact Zq (gX (·.ai) h1) s.ai
def H5 (of:Xaa->Option cn) (t:Xaa × Nat):cn:=match of t.1 with
 | none=>⟨[t],0⟩
 | some y=>CW y t.2
def fM (of:Xaa->Option cn) (o:cn) (t:Xaa × Nat):cn:=xI o (H5 of t)
def IT (l:dc) {m k:dc} (hk:Nf k) (hc:∀ s,cf k s % 4294967296=cf m s % 4294967296):Kp (D9 l) k=D9 (l++m) :=
 (RF (Ag l) hk).Rl (Ag _) fun s=>by
  have h1:=hc s;have h2:=Rw (D9 l) k s;have h3:=AW l s;have h4:=AW (l++m) s;rw [Kh] at h4;omega
theorem B7 {of:Xaa->Option cn} (d:∀ s y,of s=some y->Nf y.ai):∀ (ts l:dc) (n:Nat),n<4294967296->(∀ t,t∈ts->t.2≠0/\t.2<4294967296) ->
  ts.foldl (fM of) ⟨D9 l,n⟩=⟨D9 (l++ts.flatMap (rF of)),ts.foldl (gg of) n⟩
 | [],l,n,_,_=>aj
 | t::ts,l,n,hn,F=>by
  have h1:fM of ⟨D9 l,n⟩ t=⟨D9 (l++rF of t),gg of n t⟩/\gg of n t<4294967296:=by
   have j:=F t aj;unfold fM H5 rF gg xI;cases G:of t.1 with
   | none =>
    refine ⟨?_,hn⟩;simp only [Nat.add_zero];rw [af9 hn]
    congr 1
    exact IT l ⟨aj,by simpa using j⟩ fun s=>rfl
   | some y =>
    refine ⟨?_,bs9 _ cm⟩;unfold CW;simp only;rw [bo9 y.num t.2]
    congr 1
    refine IT l (JK (d _ _ G)) fun s=>?_
    rw [KN]
    have:=DD t.2 y.ai s
    rw [<- this]
    congr 2
    exact Zm fun p _=>by rw [bo9]
  rw [Y6,h1.1,B7 d ts _ _ h1.2 (fun u hu=>F u (YM _ hu)),YV,Zd,Y6]
def VK:D9 []=[]:=EW Nf.nil
def DY {of:Xaa->Option cn} (d:∀ s y,of s=some y->Nf y.ai) {x:cn} (hx:Nf x.ai) (hn:x.num<4294967296):x.ai.foldl (fM of) ⟨[],x.num⟩=de of x:=by
 have:=B7 d x.ai [] x.num hn hx.2
 rw [ZT,VK] at this;exact this
def BH {of:Xaa->Option cn} (d:∀ s y,of s=some y->Nf y.ai) {x:cn} (hx:Nf x.ai) (hn:x.num<4294967296) (i:Nat):(x.ai.take i).foldl (fM of) ⟨[],x.num⟩=de of ⟨x.ai.take i,x.num⟩ :=
 DY (x:=⟨x.ai.take i,x.num⟩) d ⟨hx.1.sublist (List.take_sublist _ _),fun t j=>hx.2 t (ZB j)⟩ hn
def zM {of:Xaa->Option cn} {x:cn} {t:Xaa × Nat} (G:t∈(de of x).ai):∃ u,u∈x.ai/\((of u.1=none/\t.1=u.1)\/∃ y w,of u.1=some y/\w∈y.ai/\w.1=t.1):=by
 obtain ⟨p,J,j⟩:=D6 G;obtain ⟨u,hu,d⟩:=bp9.1 J;refine ⟨u,hu,?_⟩;unfold rF at d;cases F:of u.1 with
 | none =>
  rw [F] at d;simp only [List.mem_singleton] at d;exact Or.inl ⟨rfl,by rw [<- j,d]⟩
 | some y =>
  rw [F] at d;obtain ⟨w,hw,rfl⟩:=YF.1 d;exact Or.inr ⟨y,w,rfl,hw,j⟩
def zN {l:dc} (h:Nf l) {S:List Xaa} (hs:∀ t,t∈l->t.1∈S):l.length<=S.length:=by
 have:=lG (l.map (·.1)) S (Zw.2 (h.1.imp fun h=>kD h)) (fun s d=>by
  obtain ⟨t,j,rfl⟩:=YF.1 d;exact hs t j)
 rwa [Yu] at this
def Rm:Option Nat->Int
 | none=>-1
 | some k=>(k:Int)
def Uj {es:List cL} {s:Xaa} {i:Nat} (hi:i<es.length) (h:∀ j,(d:j<i)->(es[j]'ad).name≠s) (u:es[i].name=s):kE es s=some i:=by
 unfold kE;rw [YX];exact ⟨hi,YA u,fun j d=>by simpa using h j d⟩
def Fs {h:Hp} {p:Xac} {l c:Nat} {es:List cL} (v:uf h p l es) (hl:es.length<=2^60) (s:Xaa):wz Tryz.prog 101 [.slice p l c,.string s] h (.int .i64 (Rm (kE es s))):=by
 refine ei mixed Tryz.func101 az (ob p l c s) ?_;unfold km bf bg bz aK aP;have n:=v.len;refine aS (cs:=[(false,[.int .i64]),(false,[.int .i64])]) (fun y m h'=>∃ i:Nat,y.2.1=(i:Int)/\m=es.length-i/\i<=es.length/\h'=h/\∀ j,j<i->(u:j<es.length)->es[j].name≠s) ((0:Int),(0:Int),()) es.length rfl
  ⟨0,rfl,rfl,ad,rfl,fun j u=>absurd u ad⟩ ?_
 rintro ⟨G,V,⟨⟩⟩ m h' ⟨i,hi,rfl,J,rfl,hn⟩;simp only at hi;subst hi;refine ak ?_;refine aM (fun q=>?_) (fun q=>?_)
 ·have F:i<es.length:=ad
  obtain ⟨a,O,hc⟩:=v.cells i F;refine ax ⟨ad,ad⟩ (av O ?_);rw [show Int.toNat (i:Int)=i from ad];refine ay (es[i].name,()) ⟨hc.1,trivial⟩ (ak ?_);rw [qM];refine aM (fun r=>?_) (fun r=>?_)
  ·refine ⟨YJ (Value.int .i64) ?_,rfl⟩;rw [Uj F (fun j u=>hn j u ad) r] <;> rfl
  ·refine aG (cs:=[(false,[.int .i64]),(false,[.int .i64])]) (G,((i+1:Nat):Int),()) (es.length-(i+1)) rfl ad (by rw [wrap_i64 ad ad]; rfl) ?_;exact ⟨i+1,rfl,rfl,ad,rfl,fun j u hx=>by
    by_cases e:j=i
    ·subst e; exact r
    ·exact hn j ad hx⟩
 ·have:i=es.length:=ad
  subst this;refine ⟨YJ (Value.int .i64) ?_,rfl⟩;rw [F7 fun d U=>by
   obtain ⟨j,u,rfl⟩:=Y0 U;exact hn j u u]
  rfl
end Go.Sx.Lk
namespace Go.Sx
open Go.Proofs
def XV (a b:Xaa):Op.bytesLess (ByteArray.toList a) (ByteArray.toList b)=decide (hY a b):=by
 rw [ByteArray.toList_eq,ByteArray.toList_eq,Proofs.bytesLess_eq] <;> rfl
def Ub (h:Hp) (g7:Nat) (x y:dc) (N:Int) (i j:Nat) (h':Hp):Prop :=
 i<=x.length/\j<=y.length/\Ch [g7] h h'/\∃ O p l c f,bI h' g7 69 [.slice p l c,.int .u32 N]/\SL h' h.size 117 2 p l c (O.map df)/\Kp x y=O++fo f (x.drop i) (y.drop j)/\(x.length-i)+(y.length-j)<=f/\O.length<=i+j
def LR (f:Nat):fo f [] []=[]:=by cases f <;> rfl
def TA {f:Nat} {p:Xaa × Nat} {x y:dc} (h:y=[]\/∃ q r,y=q::r/\hY p.1 q.1):fo (f+1) (p::x) y=p::fo f x y:=by
 rcases h with rfl | ⟨q,r,rfl,h⟩
 ·rfl
 ·show (if hY p.1 q.1 then _ else _)=_;rw [YC h]
def T1 {f:Nat} {q:Xaa × Nat} {x y:dc} (h:x=[]\/∃ p r,x=p::r/\hY q.1 p.1):fo (f+1) x (q::y)=q::fo f x y:=by
 rcases h with rfl | ⟨p,r,rfl,h⟩
 ·rfl
 ·show (if hY p.1 q.1 then _ else if hY q.1 p.1 then _ else _)=_;rw [Yx (Cj h),YC h]
def P2 {f:Nat} {p q:Xaa × Nat} {x y:dc} (h1:¬ hY p.1 q.1) (h2:¬ hY q.1 p.1):fo (f+1) (p::x) (q::y)=if (p.2+q.2) % 4294967296=0 then fo f x y else (p.1,(p.2+q.2) % 4294967296)::fo f x y:=by
 show (if hY p.1 q.1 then _ else if hY q.1 p.1 then _ else _)=_;rw [Yx h1,Yx h2]
def W5:dc->dc->Bool
 | [],_=>false
 | _::_,[]=>true
 | p::_,q::_=>decide (hY p.1 q.1)
def E2 {x y:dc} (h:W5 x y=true):∃ p r,x=p::r/\(y=[]\/∃ q s,y=q::s/\hY p.1 q.1):=by
 cases x with
 | nil=>cases h
 | cons p r =>
  cases y with
  | nil=>exact ⟨p,r,rfl,.inl rfl⟩
  | cons q s=>exact ⟨p,r,rfl,.inr ⟨q,s,rfl,Yz h⟩⟩
def CQ {x y:dc} (h:W5 x y=false):x=[]\/∃ p r q s,x=p::r/\y=q::s/\¬ hY p.1 q.1:=by
 cases x with
 | nil=>exact .inl rfl
 | cons p r =>
  cases y with
  | nil=>cases h
  | cons q s=>exact .inr ⟨p,r,q,s,rfl,rfl,YG h⟩
def y5 {α:Type} {l r:List α} {p:α} {i:Nat} (h:l.drop i=p::r):i<l.length:=by
 rcases Zn i l.length with h1 | h1
 ·exact h1
 ·rw [Zo h1] at h; cases h
def E6 {h:Hp} {p q:Xac} {l c m d:Nat} {x y:cn} (v:gW h p l x.ai) (u:gW h q m y.ai) (hp:∀ i,i∈aR p->i<h.size) (hq:∀ i,i∈aR q->i<h.size)
  (hl:x.ai.length+y.ai.length<=2^40) :
  HC Tryz.prog 75 #[iI p l c x,iI q m d y] h fun w h'=>Ext h h'/\∃ p' l' c',w=iI p' l' c' (xI x y)/\SL h' h.size 117 2 p' l' c' ((xI x y).ai.map df):=by
 refine aY (args:=[.agg #[.slice p l c,.int .u32 x.num],.agg #[.slice q m d,.int .u32 y.num]]) mixed Tryz.func75 az (qB p l c x.num q m d y.num) ?_;unfold lX bf bg bz aK bt aH bq aP bR;have hll:=v.len;have hmm:=u.len;refine br ?_;intro h1 b1 e1 z1;refine br ?_;intro h2 Z e2 z2;refine br ?_;intro h3 b3 e3 z3;have b1:=(b1.an e2 aj).an e3 aj;have Z:=Z.an e3 aj;rw [aE,aE];refine af b1 ((x.num:Int),()) rfl (ak ?_);refine af Z ((y.num:Int),()) rfl (ak ?_);refine br ?_;intro h4 b4 e4 z4;refine aw b4 rfl aj ?_;intro h5 b5 k5 z5;rw [IS] at b5;have b5:bI h5 h3.size 69 [.slice none 0 0,.int .u32 (((x.num+y.num) % 4294967296:Nat):Int)]:=b5;have e35:Ext h3 h5:=bQ e4 k5;have b1:=b1.an e35 aj;have Z:=Z.an e35 aj;have b3:=b3.an e35 aj;have e05:=((e1.trans e2).trans e3).trans e35;have hz5:=e05.size;refine aS (cs:=[(false,[.int .i64]),(false,[.int .i64])]) (fun z w h'=>∃ i j:Nat,z.1=(i:Int)/\z.2.1=(j:Int)/\w=(x.ai.length-i)+(y.ai.length-j)/\Ub h5 h3.size x.ai y.ai (((x.num+y.num) % 4294967296:Nat):Int) i j h')
  ((0:Int),(0:Int),()) (x.ai.length+y.ai.length) rfl ⟨0,0,rfl,rfl,rfl,bj9 _,bj9 _,Ch.refl _ _,[],none,0,0,x.ai.length+y.ai.length,b5,SL.nil _ _ _ _,rfl,ad,aj⟩ ?_
 rintro ⟨n1,n2,⟨⟩⟩ w h6 ⟨i,j,hi,hj,rfl,hil,hjl,k6,O,po,lo,co,f,b6,s6,hO,hf,hOl⟩;simp only at hi hj;subst hi hj;refine ak ?_;have hb5:=b5.lt;have hz6:=k6.size;have b1:=b1.an k6 (by simp; omega);have Z:=Z.an k6 (by simp; omega);have b3:=b3.an k6 (by simp; omega);have e06:Ext h h6:=bQ e05 k6;have v6:=v.an e06 aj;have u6:=u.an e06 aj;have hlo:lo=O.length:=by rw [s6.1,Yu]
 have hwi:=gu i;have hwj:=gu j;have V:∀ i,i∈aR po->h5.size<=i:=fun i hi=>(s6.cv hi).1
 have hpm:∀ (k:Nat) (a:Xax) (w:dc) (vs:List Xab),(some a=p\/some a=q)->aJ h6 (a.add (k*2)) 0 vs->∀ h',Ch (aR po) h6 h'->aJ h' (a.add (k*2)) 0 vs:=fun k a w vs ha hc h' kk=>aT kk (by
  rw [ic];intro hm;have h1:=V _ hm;rcases ha with ha | ha
  ·have:=hp a.block (by rw [<- ha]; simp [aR]); omega
  ·have:=hq a.block (by rw [<- ha]; simp [aR]); omega) _ _ hc
 have push:∀ (t:Xaa × Nat) (i' j':Nat) (h7:Hp) (p7:Xac) (c7:Nat),i'<=x.ai.length->j'<=y.ai.length->i+j+1<=i'+j'->fo f (x.ai.drop i) (y.ai.drop j)=t::fo (f-1) (x.ai.drop i') (y.ai.drop j')->(x.ai.length-i')+(y.ai.length-j')<=f-1 ->
   SL h7 h5.size 117 2 p7 (lo+1) c7 (O.map df++[df t])->Ch (aR po) h6 h7->∀ h8,bI h8 h3.size 69 [.slice p7 (lo+1) c7,.int .u32 (((x.num+y.num) % 4294967296:Nat):Int)]->Ch [h3.size] h7 h8->Ub h5 h3.size x.ai y.ai (((x.num+y.num) % 4294967296:Nat):Int) i' j' h8:=by
  intro t i' j' h7 p7 c7 hi' hj' hij hF hf' s7 X h8 b8 k8;refine ⟨hi',hj',Ch.trans (Ch.trans k6 X (fun j hj hl=>by have:=V j hj; omega)) k8 (fun j hj _=>hj),O++[t],p7,lo+1,c7,f-1,b8,?_,?_,hf',by simp; omega⟩
  ·rw [YH];exact s7.bP k8 (fun j hj=>by have:=(s7.cv hj).1; simp; omega)
  ·rw [hO,hF]; simp
 refine fJ (cs:=[(false,[.bool])]) (fun z h'=>z.1=(decide (i<x.ai.length) || decide (j<y.ai.length))/\h6=h') ?_ ?_
 ·refine af b1 ((p,l,c),()) rfl (ak ?_);refine aM (fun g1=>?_) (fun g1=>?_)
  ·refine cT (cs:=[(false,[.bool])]) (true,()) rfl rfl ⟨?_,rfl⟩;rw [YA (show i<x.ai.length from ad)] <;> rfl
  ·refine af Z ((q,m,d),()) rfl (ak ?_);refine cT (cs:=[(false,[.bool])]) (decide ((j:Int)<(m:Int)),()) rfl rfl ⟨?_,rfl⟩;rw [YB (show ¬ i<x.ai.length from ad),ad9];show decide ((j:Int)<(m:Int))=decide (j<y.ai.length);rw [bn9];omega
 rintro ⟨b10,⟨⟩⟩ h6' ⟨hb10,rfl⟩;simp only at hb10;subst hb10;refine ak ?_;refine ar (fun g1=>?_) (fun g1=>?_)
 ·simp only [Bool.or_eq_true,decide_eq_true_eq] at g1;obtain ⟨f',rfl⟩:∃ f',f=f'+1:=⟨f-1,ad⟩
  refine fJ (cs:=[(false,[.bool])]) (fun z h'=>z.1=W5 (x.ai.drop i) (y.ai.drop j)/\h6=h') ?_ ?_
  ·refine af Z ((q,m,d),()) rfl (ak ?_);refine ar (fun g2=>?_) (fun g2=>?_)
   ·have g2:(j:Int)=(m:Int):=by simpa using g2
    refine cT (cs:=[(false,[.bool])]) (true,()) rfl rfl ⟨?_,rfl⟩;rw [show y.ai.drop j=[] from Zo ad,YK (l:=x.ai) (i:=i) ad] <;> rfl
   ·have g2:¬ (j:Int)=(m:Int):=by simpa using g2
    have F:j<y.ai.length:=ad
    refine af b1 ((p,l,c),()) rfl (ak ?_);refine aM (fun Y=>?_) (fun Y=>?_)
    ·have G:i<x.ai.length:=ad
     have J:x.ai.drop i=x.ai[i]::x.ai.drop (i+1):=YK G;have U:y.ai.drop j=y.ai[j]::y.ai.drop (j+1):=YK F;obtain ⟨a,ha,hc⟩:=v6.cells i G;obtain ⟨a',ha',hc'⟩:=u6.cells j F;subst ha ha';refine af b1 ((some a,l,c),()) rfl (ak ?_);refine ax ⟨ad,ad⟩ (av rfl ?_);rw [show Int.toNat (i:Int)=i from ad];refine ay (x.ai[i].1,()) (cS hc).1 (ak ?_);refine af Z ((some a',m,d),()) rfl (ak ?_);refine ax ⟨ad,ad⟩ (av rfl ?_);rw [show Int.toNat (j:Int)=j from ad];refine ay (y.ai[j].1,()) (cS hc').1 (ak ?_);rw [XV];refine cT (cs:=[(false,[.bool])]) (decide (hY x.ai[i].1 y.ai[j].1),()) rfl rfl ⟨?_,rfl⟩;rw [J,U] <;> rfl
    ·refine cT (cs:=[(false,[.bool])]) (false,()) rfl rfl ⟨?_,rfl⟩;rw [show x.ai.drop i=[] from Zo ad] <;> rfl
  rintro ⟨b11,⟨⟩⟩ h6' ⟨hb11,rfl⟩;simp only at hb11;subst hb11;refine ak ?_;refine ar (fun g2=>?_) (fun g2=>?_)
  ·obtain ⟨pp,rr,hdd,hor⟩:=E2 g2;have G:=y5 hdd;have J:x.ai.drop i=x.ai[i]::x.ai.drop (i+1):=YK G;rw [J] at hdd;cases hdd;have hF:fo (f'+1) (x.ai.drop i) (y.ai.drop j)=x.ai[i]::fo (f'+1-1) (x.ai.drop (i+1)) (y.ai.drop j):=by
    rw [J];exact TA hor
   obtain ⟨a,ha,hc⟩:=v6.cells i G;subst ha;refine af b6 ((po,lo,co),()) rfl (ak ?_);refine af b1 ((some a,l,c),()) rfl (ak ?_);refine ax ⟨ad,ad⟩ (av rfl ?_);rw [show Int.toNat (i:Int)=i from ad];refine ay (x.ai[i].1,(x.ai[i].2:Int),()) hc (ak ?_);refine gU (vs:=df x.ai[i]) xQ rl rfl ad ad az rfl rfl s6 ad ad ad (fun h' e=>⟨(b1.an e aj).cells _ rfl,(b6.an e aj).cells _ rfl,trivial⟩) ?_;intro p7 c7 h7 s7 X hp7;have b17:=b1.an X (fun hh=>by have:=V _ hh; omega);have b67:=b6.an X (fun hh=>by have:=V _ hh; omega);refine ⟨⟨hpm i a x.ai _ (.inl rfl) hc h7 X,b17.cells _ rfl,trivial⟩,?_⟩;refine aw b67 rfl aj ?_;intro h8 b8 k8 z8;refine aG (cs:=[(false,[.int .i64]),(false,[.int .i64])]) (((i+1:Nat):Int),(j:Int),()) ((x.ai.length-(i+1))+(y.ai.length-j)) rfl ad (by rw [hwi]; rfl) ⟨i+1,j,rfl,rfl,rfl,?_⟩;exact push _ (i+1) j h7 p7 c7 ad hjl ad hF ad s7 X h8 b8 k8
  ·have g2:=CQ g2;refine fJ (cs:=[(false,[.bool])]) (fun z h'=>z.1=W5 (y.ai.drop j) (x.ai.drop i)/\h6=h') ?_ ?_
   ·refine af b1 ((p,l,c),()) rfl (ak ?_);refine ar (fun Y=>?_) (fun Y=>?_)
    ·have Y:(i:Int)=(l:Int):=by simpa using Y
     refine cT (cs:=[(false,[.bool])]) (true,()) rfl rfl ⟨?_,rfl⟩;rw [show x.ai.drop i=[] from Zo ad,YK (l:=y.ai) (i:=j) ad] <;> rfl
    ·have Y:¬ (i:Int)=(l:Int):=by simpa using Y
     have G:i<x.ai.length:=ad
     have F:j<y.ai.length:=by
      rcases Zn j y.ai.length with h | h
      ·exact h
      ·rcases g2 with g2 | ⟨_,_,_,_,_,g2,_⟩
       ·have:=List.drop_eq_nil_iff.1 g2; omega
       ·rw [Zo h] at g2; cases g2
     have J:x.ai.drop i=x.ai[i]::x.ai.drop (i+1):=YK G;have U:y.ai.drop j=y.ai[j]::y.ai.drop (j+1):=YK F;obtain ⟨a,ha,hc⟩:=v6.cells i G;obtain ⟨a',ha',hc'⟩:=u6.cells j F;subst ha ha';refine af Z ((some a',m,d),()) rfl (ak ?_);refine ax ⟨ad,ad⟩ (av rfl ?_);rw [show Int.toNat (j:Int)=j from ad];refine ay (y.ai[j].1,()) (cS hc').1 (ak ?_);refine af b1 ((some a,l,c),()) rfl (ak ?_);refine ax ⟨ad,ad⟩ (av rfl ?_);rw [show Int.toNat (i:Int)=i from ad];refine ay (x.ai[i].1,()) (cS hc).1 (ak ?_);rw [XV];refine cT (cs:=[(false,[.bool])]) (decide (hY y.ai[j].1 x.ai[i].1),()) rfl rfl ⟨?_,rfl⟩;rw [J,U] <;> rfl
   rintro ⟨b12,⟨⟩⟩ h6' ⟨hb12,rfl⟩;simp only at hb12;subst hb12;refine ak ?_;refine ar (fun Y=>?_) (fun Y=>?_)
   ·obtain ⟨pp,rr,hdd,hor⟩:=E2 Y;have F:=y5 hdd;have U:y.ai.drop j=y.ai[j]::y.ai.drop (j+1):=YK F;rw [U] at hdd;cases hdd;have hF:fo (f'+1) (x.ai.drop i) (y.ai.drop j)=y.ai[j]::fo (f'+1-1) (x.ai.drop i) (y.ai.drop (j+1)):=by
     rw [U];exact T1 hor
    obtain ⟨a,ha,hc⟩:=u6.cells j F;subst ha;refine af b6 ((po,lo,co),()) rfl (ak ?_);refine af Z ((some a,m,d),()) rfl (ak ?_);refine ax ⟨ad,ad⟩ (av rfl ?_);rw [show Int.toNat (j:Int)=j from ad];refine ay (y.ai[j].1,(y.ai[j].2:Int),()) hc (ak ?_);refine gU (vs:=df y.ai[j]) xQ rl rfl ad ad az rfl rfl s6 ad ad ad (fun h' e=>⟨(Z.an e aj).cells _ rfl,(b6.an e aj).cells _ rfl,trivial⟩) ?_;intro p7 c7 h7 s7 X hp7;have b27:=Z.an X (fun hh=>by have:=V _ hh; omega);have b67:=b6.an X (fun hh=>by have:=V _ hh; omega);refine ⟨⟨hpm j a y.ai _ (.inr rfl) hc h7 X,b27.cells _ rfl,trivial⟩,?_⟩;refine aw b67 rfl aj ?_;intro h8 b8 k8 z8;refine aG (cs:=[(false,[.int .i64]),(false,[.int .i64])]) ((i:Int),((j+1:Nat):Int),()) ((x.ai.length-i)+(y.ai.length-(j+1))) rfl ad (by rw [hwj]; rfl) ⟨i,j+1,rfl,rfl,rfl,?_⟩;exact push _ i (j+1) h7 p7 c7 hil ad ad hF ad s7 X h8 b8 k8
   ·have Y:=CQ Y;have hb:i<x.ai.length/\j<y.ai.length:=by
     rcases g2 with g2 | ⟨_,_,_,_,e1,e2,_⟩
     ·have h1:=List.drop_eq_nil_iff.1 g2;rcases Y with Y | ⟨_,_,_,_,_,e2,_⟩
      ·have h2:=List.drop_eq_nil_iff.1 Y; omega
      ·rw [g2] at e2; cases e2
     ·exact ⟨y5 e1,y5 e2⟩
    obtain ⟨G,F⟩:=hb;have J:x.ai.drop i=x.ai[i]::x.ai.drop (i+1):=YK G;have U:y.ai.drop j=y.ai[j]::y.ai.drop (j+1):=YK F;have n1:¬ hY x.ai[i].1 y.ai[j].1:=by
     rcases g2 with g2 | ⟨_,_,_,_,e1,e2,hn⟩
     ·rw [J] at g2; cases g2
     ·rw [J] at e1; rw [U] at e2; cases e1; cases e2; exact hn
    have n2:¬ hY y.ai[j].1 x.ai[i].1:=by
     rcases Y with Y | ⟨_,_,_,_,e1,e2,hn⟩
     ·rw [U] at Y; cases Y
     ·rw [U] at e1; rw [J] at e2; cases e1; cases e2; exact hn
    have hF:fo (f'+1) (x.ai.drop i) (y.ai.drop j)=if (x.ai[i].2+y.ai[j].2) % 4294967296=0 then fo f' (x.ai.drop (i+1)) (y.ai.drop (j+1)) else (x.ai[i].1,(x.ai[i].2+y.ai[j].2) % 4294967296)::fo f' (x.ai.drop (i+1)) (y.ai.drop (j+1)):=by
     rw [J,U];exact P2 n1 n2
    obtain ⟨a,ha,hc⟩:=v6.cells i G;obtain ⟨a',ha',hc'⟩:=u6.cells j F;subst ha ha';refine af b1 ((some a,l,c),()) rfl (ak ?_);refine ax ⟨ad,ad⟩ (av rfl ?_);rw [show Int.toNat (i:Int)=i from ad];refine ay ((x.ai[i].2:Int),()) (cS hc).2 (ak ?_);refine af Z ((some a',m,d),()) rfl (ak ?_);refine ax ⟨ad,ad⟩ (av rfl ?_);rw [show Int.toNat (j:Int)=j from ad];refine ay ((y.ai[j].2:Int),()) (cS hc').2 (ak ?_);rw [IS];refine fJ (cs:=[]) (fun z h'=>Ub h5 h3.size x.ai y.ai (((x.num+y.num) % 4294967296:Nat):Int) (i+1) (j+1) h') ?_ ?_
    ·refine ar (fun g4=>?_) (fun g4=>?_)
     ·have g4:¬ (x.ai[i].2+y.ai[j].2) % 4294967296=0:=by
       have:¬ (((x.ai[i].2+y.ai[j].2) % 4294967296:Nat):Int)=0:=by simpa using g4
       omega
      rw [Yx g4] at hF;refine af b6 ((po,lo,co),()) rfl (ak ?_);refine af b1 ((some a,l,c),()) rfl (ak ?_);refine ax ⟨ad,ad⟩ (av rfl ?_);refine ay (x.ai[i].1,()) (cS hc).1 (ak ?_);refine gU (vs:=df (x.ai[i].1,(x.ai[i].2+y.ai[j].2) % 4294967296)) xQ rl rfl ad ad az rfl rfl s6 ad ad ad (fun h' e=>⟨aT e aj _ _ (cS hc).1,(b1.an e aj).cells _ rfl,(b6.an e aj).cells _ rfl,trivial⟩) ?_;intro p7 c7 h7 s7 X hp7;have b17:=b1.an X (fun hh=>by have:=V _ hh; omega);have b67:=b6.an X (fun hh=>by have:=V _ hh; omega);refine ⟨⟨hpm i a x.ai _ (.inl rfl) (cS hc).1 h7 X,b17.cells _ rfl,trivial⟩,?_⟩;refine aw b67 rfl aj ?_;intro h8 b8 k8 z8;exact cT (cs:=[]) () rfl rfl (push _ (i+1) (j+1) h7 p7 c7 ad ad ad hF ad s7 X h8 b8 k8)
     ·have g4:(x.ai[i].2+y.ai[j].2) % 4294967296=0:=by
       have:(((x.ai[i].2+y.ai[j].2) % 4294967296:Nat):Int)=0:=by simpa using g4
       omega
      rw [YC g4] at hF;exact cT (cs:=[]) () rfl rfl ⟨ad,ad,k6,O,po,lo,co,f',b6,s6,by rw [hO,hF],ad,ad⟩
    ·rintro ⟨⟩ h7 I7;exact aG (cs:=[(false,[.int .i64]),(false,[.int .i64])]) (((i+1:Nat):Int),((j+1:Nat):Int),()) ((x.ai.length-(i+1))+(y.ai.length-(j+1))) rfl ad (by rw [hwi,hwj]; rfl) ⟨i+1,j+1,rfl,rfl,rfl,I7⟩
 ·simp only [Bool.or_eq_false_iff,decide_eq_false_iff_not] at g1;rw [Zo ad,Zo ad,LR,Zs] at hO;refine af b6 ((po,lo,co),(((x.num+y.num) % 4294967296:Nat):Int),()) rfl (ak ?_);refine aw b3 rfl aj ?_;intro h7 b7 X z7;have b7:bI h7 h2.size 69 [.slice po lo co,.int .u32 (((x.num+y.num) % 4294967296:Nat):Int)]:=b7;refine af b7 ((po,lo,co),(((x.num+y.num) % 4294967296:Nat):Int),()) rfl ?_;refine ⟨bQ e06 X,po,lo,co,rfl,?_⟩;show SL h7 h.size 117 2 po lo co ((Kp x.ai y.ai).map df);rw [hO];exact (s6.bP X (fun j hj=>by have:=V j hj; simp; omega)).mono ad
end Go.Sx
namespace Go.Sx.Lk
open Go.Proofs Go.Sx.Ob
def Su (lv:Nat) (a5 d:Xax) (n6:Int):T :=
  T.ah a5 [.slice 117,.int .u32] <| fun (j:Xac) (u:Nat) (F:Nat) (G:Int) =>
  T.ah d [.slice 117,.int .u32] <| fun (J:Xac) (O:Nat) (U:Nat) (V:Int) =>
  bJ 75 [.agg #[.slice j u F,aH G],.agg #[.slice J O U,aH V]] false [(true,[.slice 117,.int .u32])] <| fun (X:Xac) (Y:Nat) (Z:Nat) (n51:Int) =>
  T.aC a5 [.slice X Y Z,aH n51] <|
  T.again lv [.int .i64 (bm (n6+(1:Int)))]
def Gd {L:Lp} {K:Xab->Hp->Prop} {h:Hp} {lv d u G c5 J Y:Nat} {p5 F:Xac} {Z:Int} {o y:cn} (O:bI h d 69 [.slice p5 G c5,.int .u32 o.num]) (U:bI h u 69 [.slice F J Y,.int .u32 y.num])
  (vo:gW h p5 G o.ai) (vy:gW h F J y.ai) (ho:∀ i,i∈aR p5->i<h.size) (hy:∀ i,i∈aR F->i<h.size) (hl:o.ai.length+y.ai.length<=2^40)
  (hk:∀ p' l' c' h',Ch [d] h h'->bI h' d 69 [.slice p' l' c',.int .u32 (xI o y).num]->SL h' h.size 117 2 p' l' c' ((xI o y).ai.map df)->T.again lv [.int .i64 (IntKind.wrap .i64 (Z+(1:Int)))] L K h') :
  Su lv ⟨d,0,none⟩ ⟨u,0,none⟩ Z L K h:=by
 unfold Su bJ bm aH;refine af O ((p5,G,c5),(o.num:Int),()) rfl (ak ?_);refine af U ((F,J,Y),(y.num:Int),()) rfl (ak ?_);refine aI (E6 vo vy ho hy hl) ?_;rintro _ h1 ⟨e1,p',l',c',rfl,s1⟩;refine ⟨((p',l',c'),((xI o y).num:Int),()),rfl,ak ?_⟩;refine aw (O.an e1 aj) rfl aj ?_;intro h2 V k2 z2;have V:bI h2 d 69 [.slice p' l' c',.int .u32 ((xI o y).num:Int)]:=V;have hg:=O.lt;exact hk p' l' c' h2 (Ch.trans (Ch.mono e1 aj) k2 (fun j X hl=>X)) V (s1.bP k2 (fun j X=>by have:=(s1.cv X).1; simp; omega))
def VP {h:Hp} {g:Nat} {s:Xaa} {n:Nat} (b:bI h g 117 [.string s,.int .u32 n]):gW h (some ⟨g,0,none⟩) 1 [(s,n)] :=
 ⟨rfl,fun i hi=>by
  have:i=0:=by simpa using hi
  subst this;exact ⟨_,rfl,by rw [aE]; exact b.cells _ rfl⟩⟩
def BS {es:List cL} {s:Xaa} {k:Nat} (h:kE es s=some k):∃ hk:k<es.length,cy es s=some es[k].x:=by
 have h0:=h;unfold kE at h;rw [YX] at h;obtain ⟨hk,_⟩:=h;refine ⟨hk,?_⟩;unfold cy cz dh;rw [h0];simp [hk]
def B9 {es:List cL} {s:Xaa} (h:kE es s=none):cy es s=none:=by
 unfold cy cz;rw [h,Yx aj]
def FR {es:List cL} {s:Xaa} {y:cn} (h:cy es s=some y):∃ e,e∈es/\y=e.x:=by
 cases d:kE es s with
 | none=>rw [B9 d] at h; cases h
 | some k =>
  obtain ⟨hk,h1⟩:=BS d;rw [h1] at h;exact ⟨_,YD hk,(YR h).symm⟩
def IK {es:List cL} {x:cn} {S:List Xaa} (d:∀ t,t∈x.ai->t.1∈S) (j:∀ e,e∈es->∀ t,t∈e.x.ai->t.1∈S):∀ t,t∈(de (cy es) x).ai->t.1∈S:=by
 intro t G;obtain ⟨u,hu,h | ⟨y,w,J,hw,O⟩⟩:=zM G
 ·rw [h.2]; exact d u hu
 ·obtain ⟨e,F,rfl⟩:=FR J;rw [<- O]; exact j e F w hw
def I1 {h:Hp} {p q:Xac} {l c m d:Nat} {x:cn} {es:List cL} (v:gW h p l x.ai) (u:uf h q m es) (hp:∀ i,i∈aR p->i<h.size) (hb:∀ e,e∈es->∀ i,i∈aR e.p->i<h.size)
  (hm:es.length<=2^40) (hx:Nf x.ai) (hn:x.num<4294967296) (hes:∀ e,e∈es->Nf e.x.ai) {S:List Xaa} (hS:S.length<=2^30) (hSx:∀ t,t∈x.ai->t.1∈S) (hSe:∀ e,e∈es->∀ t,t∈e.x.ai->t.1∈S) :
  HC Tryz.prog 77 #[iI p l c x,.slice q m d] h fun w h'=>Ext h h'/\∃ p' l' c',w=iI p' l' c' (de (cy es) x)/\SL h' h.size 117 2 p' l' c' ((de (cy es) x).ai.map df):=by
 refine aY (args:=[.agg #[.slice p l c,.int .u32 x.num],.slice q m d]) mixed Tryz.func77 az (pZ p l c x.num q m d) ?_;unfold kR bf bg bz aK ct bJ bt aH bq aP;have hll:=v.len;have hmm:=u.len;have hof:∀ s y,cy es s=some y->Nf y.ai:=fun s y hy=>by
  obtain ⟨e,he,rfl⟩:=FR hy;exact hes e he
 have hlx:=zN hx hSx;refine br ?_;intro h1 b1 e1 z1;refine br ?_;intro h2 b2 e2 z2;have b1:=b1.an e2 aj;rw [aE];refine af b1 ((x.num:Int),()) rfl (ak ?_);refine br ?_;intro h3 b3 e3 z3;refine aw b3 rfl aj ?_;intro h4 b4 k4 z4;have b4:bI h4 h2.size 69 [.slice none 0 0,.int .u32 (x.num:Int)]:=b4;have e24:Ext h2 h4:=bQ e3 k4;have b1:=b1.an e24 aj;have b2:=b2.an e24 aj;have e04:=(e1.trans e2).trans e24;have hb4:=b4.lt;have hz04:=e04.size;refine aS (cs:=[(false,[.int .i64])]) (fun y w h'=>∃ (i:Nat) (q:Xac) (m d:Nat),y.1=(i:Int)/\i<=x.ai.length/\w=x.ai.length-i/\Ch [h2.size] h4 h'/\bI h' h2.size 69 [.slice q m d,.int .u32 (((x.ai.take i).foldl (fM (cy es)) ⟨[],x.num⟩).num:Int)] /\
  SL h' h4.size 117 2 q m d (((x.ai.take i).foldl (fM (cy es)) ⟨[],x.num⟩).ai.map df)) ((0:Int),()) x.ai.length rfl ⟨0,none,0,0,rfl,ad,ad,Ch.refl _ _,b4,SL.nil _ _ _ _⟩ ?_
 rintro ⟨n8,⟨⟩⟩ w h5 ⟨i,q5,m5,d5,hi,hile,rfl,k5,b5,Z⟩;simp only at hi;subst hi;refine ak ?_;have Y:=b1.an k5 (by simp; omega);have hz5:=k5.size;have e05:Ext h h5:=bQ e04 k5;have v5:=v.an e05 aj;have u5:=u.an e05;refine af Y ((p,l,c),()) rfl (ak ?_);have hw:=gu i;have hacc:=BH hof hx hn i;have hal:((x.ai.take i).foldl (fM (cy es)) ⟨[],x.num⟩).ai.length<=S.length:=by
  rw [hacc];exact zN (eR _ _) (IK (fun t ht=>hSx t (ZB ht)) hSe)
 refine aM (fun g1=>?_) (fun g1=>?_)
 ·have O:i<x.ai.length:=ad
  have htk:(x.ai.take (i+1)).foldl (fM (cy es)) ⟨[],x.num⟩=fM (cy es) ((x.ai.take i).foldl (fM (cy es)) ⟨[],x.num⟩) x.ai[i]:=by
   rw [Yw O,Zk] <;> rfl
  obtain ⟨a,rfl,hc⟩:=v5.cells i O;have htm:=YD O;generalize x.ai[i]=t at hc htk htm;generalize hA:(x.ai.take i).foldl (fM (cy es)) ⟨[],x.num⟩=A at b5 Z hal htk hacc;obtain ⟨c1,c2⟩:=cS hc;have hab:=hp a.block (by simp [aR]);refine af Y ((some a,l,c),()) rfl (ak ?_);refine ax ⟨ad,ad⟩ (av rfl ?_);rw [show Int.toNat (i:Int)=i from ad];refine ay (t.1,()) c1 (ak ?_);refine kj (Fs u5 ad t.1) ?_;refine af Y ((some a,l,c),()) rfl (ak ?_);refine ax ⟨ad,ad⟩ (av rfl ?_);refine ay (t.1,(t.2:Int),()) hc (ak ?_);refine jC Ho rl ad ad (Hd _ _) ?_;intro h6 b6 e6 z6;refine br ?_;intro h7 b7 e7 z7;refine aw b7 rfl aj ?_;intro h8 b8 k8 z8;have b8:bI h8 h6.size 69 [.slice (some ⟨h5.size,0,none⟩) 1 1,.int .u32 ((0:Nat):Int)]:=b8;have F:Ext h5 h8:=bQ (e6.trans e7) k8;have b68:=b6.an (bQ e7 k8:Ext h6 h8) aj;have b58:=b5.an F aj;have b18:=Y.an F aj;have s8:=Z.bP F (fun j G=>aj)
  have U:∀ y:cn,H5 (cy es) t=y->∀ p' l' c' h',Ext h5 h8->∀ h9,Ch [h6.size] h8 h9->Ch [h2.size] h9 h'->bI h' h2.size 69 [.slice p' l' c',.int .u32 (xI A y).num] ->
    SL h' h9.size 117 2 p' l' c' ((xI A y).ai.map df)->Ch [h2.size] h4 h'/\bI h' h2.size 69 [.slice p' l' c',.int .u32 (((x.ai.take (i+1)).foldl (fM (cy es)) ⟨[],x.num⟩).num:Int)] /\
     SL h' h4.size 117 2 p' l' c' (((x.ai.take (i+1)).foldl (fM (cy es)) ⟨[],x.num⟩).ai.map df):=by
   intro y hy p' l' c' h' _ h9 e9 k9 b9 s9;rw [htk];unfold fM;rw [hy]
   have:=F.size
   have:=e9.size
   exact ⟨Ch.trans (Ch.trans (Ch.trans k5 F aj) e9 (fun j G hl=>by simp at G; omega)) k9 (fun j G _=>G),b9,s9.mono ad⟩
  refine aM (fun g2=>?_) (fun g2=>?_)
  ·cases J:kE es t.1 with
   | none=>rw [J] at g2; exact absurd g2 (by unfold Rm; decide)
   | some k =>
    obtain ⟨hk,hlo⟩:=BS J;obtain ⟨ae,rfl,hce⟩:=(u5.an F).cells k hk;have V:=YD hk;have vy:=(u5.an F).fq _ V;generalize es[k]=e at hce V vy hlo;have hble:=hb e V;have hyl:=zN (hes e V) (hSe e V);refine ax ⟨by show (0:Int)<=(k:Int); omega,by show (k:Int)<_; omega⟩ (av rfl ?_);rw [show Int.toNat (Rm (some k))=k from Int.toNat_natCast k];refine ay ((e.p,e.l,e.c),(e.x.num:Int),()) ⟨by rw [add_add]; exact hce.2.1,by rw [add_add]; exact hce.2.2.1,trivial⟩ ?_;refine ak ?_;refine af b18 ((some a,l,c),()) rfl (ak ?_);refine ax ⟨ad,ad⟩ (av rfl ?_);refine ay ((t.2:Int),()) (aT F aj _ _ c2) (ak ?_)
    have:=F.size
    refine aI (Hr vy ad (fun j G=>by have:=hble j G; omega) t.2) ?_;rintro _ h9 ⟨e9,p9,l9,c9,rfl,s9⟩;refine ⟨((p9,l9,c9),((CW e.x t.2).num:Int),()),rfl,ak ?_⟩;refine ⟨⟨(b18.an e9 aj).cells _ rfl,trivial⟩,?_⟩;refine aw (b8.an e9 aj) rfl aj ?_;intro h10 b10 k10 z10;have b10:bI h10 h6.size 69 [.slice p9 l9 c9,.int .u32 ((CW e.x t.2).num:Int)]:=b10;have k810:Ch [h6.size] h8 h10:=Ch.trans (Ch.mono e9 aj) k10 (fun j G hl=>G);have X:Ext h5 h10:=bQ F k810;refine Gd (lv:=0) (o:=A) (y:=CW e.x t.2) (b5.an X aj) b10 (Z.bP X (fun j G=>aj)).Sg (s9.bP k10 (fun j G=>by have:=(s9.cv G).1; simp; omega)).Sg
     (fun j G=>by have:=(Z.cv G).2; have:=X.size; omega) (fun j G=>by have:=(s9.cv G).2; omega) (by have:=Bq t.2 e.x.ai; show A.ai.length+(fl t.2 e.x.ai).length<=_; omega) ?_
    intro p' l' c' h11 k11 b11 s11;obtain ⟨r1,r2,r3⟩:=U (CW e.x t.2) (by unfold H5; rw [hlo]) p' l' c' h11 F h10 k810 k11 b11 s11;exact aG (cs:=[(false,[.int .i64])]) (((i+1:Nat):Int),()) (x.ai.length-(i+1)) rfl ad (YJ (fun z=>[Value.int .i64 z]) hw) ⟨i+1,p',l',c',rfl,ad,rfl,r1,r2,r3⟩
  ·have J:kE es t.1=none:=by
    cases J:kE es t.1 with
    | none=>rfl
    | some k=>rw [J] at g2; exact absurd (show (0:Int)<=((k:Nat):Int) from ad) g2
   refine Gd (lv:=0) (o:=A) (y:=⟨[t],0⟩) b58 b8 s8.Sg (VP b68) (fun j G=>by have:=(Z.cv G).2; have:=F.size; omega) (fun j G=>by simp [aR] at G; have:=F.size; have:=b68.lt; omega) (by show A.ai.length+1<=_; omega) ?_;intro p' l' c' h11 k11 b11 s11;obtain ⟨r1,r2,r3⟩:=U ⟨[t],0⟩ (by unfold H5; rw [B9 J]) p' l' c' h11 F h8 ((Ch.refl [h6.size] h8)) k11 b11 s11;exact aG (cs:=[(false,[.int .i64])]) (((i+1:Nat):Int),()) (x.ai.length-(i+1)) rfl ad (YJ (fun z=>[Value.int .i64 z]) hw) ⟨i+1,p',l',c',rfl,ad,rfl,r1,r2,r3⟩
 ·have hi:i=x.ai.length:=ad
  subst hi;rw [Y4,DY hof hx hn] at b5 Z;refine af b5 ((q5,m5,d5),((de (cy es) x).num:Int),()) rfl (ak ?_);refine aw (b2.an k5 (by simp; omega)) rfl aj ?_;intro h7 b7 k7 z7;have b7:bI h7 h1.size 69 [.slice q5 m5 d5,.int .u32 ((de (cy es) x).num:Int)]:=b7;refine af b7 ((q5,m5,d5),((de (cy es) x).num:Int),()) rfl ?_;exact ⟨bQ e05 k7,q5,m5,d5,rfl,(Z.bP k7 (fun j G=>by have:=(Z.cv G).1; simp; omega)).mono ad⟩
end Go.Sx.Lk
