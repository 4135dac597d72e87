/- Contracts over heaps, part 3. Condition: as each statement says. -/
import Derived.Test.YthbffkdafjboiaaGreatDoorP2
import Derived.Test.YthbffkdafjboiaaGreatDoorSxK
import Derived.Test.YthbffkdafjboiaaGreatDoorBtF
set_option linter.all false
set_option maxRecDepth 100000
set_option maxHeartbeats 4000000
namespace Go.Sx
open Go.Proofs
variable {mf:ZA->TS->TS}
def oB.rest {names:List ZA} (hvis:∀ w st,oB names st->w∈names->oB names (mf w st)) {v w:ZA} {st:TS} (hi:oB names st) (hw:w∈names):oB names (sF mf v w st):=by
 unfold sF;split
 ·exact hvis w st hi hw
 ·split <;> exact hi
def oB.step {names:List ZA} {own:ZA->Bool} (hown:∀ s,own s=true->s∈names) (hvis:∀ w st,oB names st->w∈names->oB names (mf w st)) {v w:ZA} {st:TS} (hi:oB names st):oB names (eC own mf v st w):=by
 unfold eC;split
 ·rename_i ho;refine oB.rest hvis ?_ (hown w ho);intro s hs;rw [(hQ v w st).1] at hs;exact hi s hs
 ·exact hi
theorem oB.fold {names:List ZA} {own:ZA->Bool} (hown:∀ s,own s=true->s∈names) (hvis:∀ w st,oB names st->w∈names->oB names (mf w st)) {v:ZA}:∀ (l:List ZA) (st:TS),oB names st->oB names (l.foldl (eC own mf v) st)
 | [],st,hi=>hi
 | w::l,st,hi=>by
  rw [XE];exact oB.fold hown hvis l _ (oB.step hown hvis hi)
def oB.open {names:List ZA} {st:TS} (hi:oB names st) {v:ZA} (hv:v∈names):oB names (eD v st):=by
 intro s hs;have hs:dC st.num v (st.jt+1) s≠none:=hs
 by_cases e:s=v
 ·rw [e]; exact hv
 ·rw [bX _ _ e] at hs;exact hi s hs
theorem oB.visit {names:List ZA} {own:ZA->Bool} (hown:∀ s,own s=true->s∈names) (succ:ZA->List ZA):∀ (f:Nat) (v:ZA) (st:TS),oB names st->v∈names->oB names (cL own succ f v st)
 | 0,v,st,hi,hv=>hi
 | f+1,v,st,hi,hv=>by
  have h:=oB.fold hown (fun w st hi hw=>oB.visit hown succ f w st hi hw) (v:=v) (succ v) _ (hi.open hv);unfold cL;split
  ·exact h
  ·intro s hs;rw [nw] at hs;exact h s hs
def SL.F1 {h:Hp} {b:Nat} {e:TypeId} {sz:Nat} {p:ZC} {l c:Nat} {xs:List (List ZB)} (s:SL h b e sz p l c xs):l<=c:=by
 cases p with
 | none =>
  obtain ⟨h1,h2⟩:=s.2.2;rw [s.1,h1,h2]; simp
 | some a =>
  obtain ⟨g,pre,rest,rfl,hbg,hlc,hbox,hr⟩:=s.2.2;exact hlc.1
section
variable {L:Lp} {K:ZB->Hp->Prop} {h:Hp} {r:TF} {st:TS} {p:ZC} {l c:Nat} {es:List cI} {p0:ZC} {l0 c0:Nat}
def mE.T5 (m:mE r h st p l c) (o:r.ord) {p':ZC} {l' c':Nat} {h1:Hp} {way':List ZA} (k1:Ch (aP p) h h1) (s1:SL h1 (r.V+1) 9 1 p' l' c' (way'.map VA)) (hb:∀ i,i∈aP p'->i∈aP p\/h.size<=i) {k:T}
  (hk:∀ h',mE r h' { st with cV:=way' } p' l' c'->pM r p h p' h'->k L K h'):T.aE (bx r.W) [.slice p' l' c'] k L K h1:=by
 have o':=o;unfold TF.ord at o;obtain ⟨n1,mL⟩:=m.mL;obtain ⟨n2,mO⟩:=m.mO;obtain ⟨n3,mB⟩:=m.mB;have nb:∀ g,g<=r.V->g∉aP p:=fun g hg hi=>by have:=m.NS hi; omega
 refine aw (m.bW.an k1 (nb _ ad)) rfl aj ?_;intro h2 b2 k2 z2;have b2:bH h2 r.W 45 [.slice p' l' c']:=b2;refine hk h2 ⟨(m.mN.an k1 (nb _ ad)).an k2 (by simp; omega),⟨n1,(mL.an k1 (nb _ ad)).an k2 (by simp; omega)⟩,⟨n2,(mO.an k1 (nb _ ad)).an k2 (by simp; omega)⟩,⟨n3,(mB.an k1 (nb _ ad)).an k2 (by simp; omega)⟩,b2,s1.bM k2 (fun i hi=>by have:=(s1.cj hi).1; simp; omega)⟩
  ⟨Ch.trans (k1.mono fun i hi _=>by rw [oW]; simp [hi]) k2 (fun i hi hl=>by simp at hi; rw [oW]; simp [hi]),hb⟩
def mE.Vw (m:mE r h st p l c) (o:r.ord) (hV:r.V<h.size) (hl:l<=2^40) {v:ZA} {k:T} (hk:∀ h' p' c',mE r h' { st with cV:=st.cV++[v] } p' (l+1) c'->pM r p h p' h'->k L K h') :
  T.ek Tryz.prog (Instr.buildSlice 45 1 #[(0,.string v)]) false [(false,[.slice 0])] (fun q m' cc=>T.ek Tryz.prog (Builtin.append_ #[45,45] 45 #[.slice p l c,.slice q m' cc]) false [(false,[.slice 0])] (fun p13 l14 l15=>T.aE (bx r.W) [.slice p13 l14 l15] k)) L K h:=by
 refine mi (vs:=VA v) Vj Vk rfl ad ad az rfl rfl m.w ad ad ad ?_;intro p' c' h1 s1 k1 hp;refine m.T5 o k1 (way':=st.cV++[v]) (by simpa using s1) (fun i hi=>?_) (fun h' m' s'=>hk h' p' c' m' s');rcases hp with rfl | ⟨a,rfl,ha⟩
 ·exact .inl hi
 ·simp [aP] at hi; subst hi; exact .inr ha
def Uu (aO aB aW:Zx) (p35:ZC) (l36 l37:Nat) (n34:Int):T :=
  T.loop [aR] [.int .i64 (0:Int)] <| fun (n38:Int) =>
  cond (decide (n38<((((Int.toNat (l36:Int))-(Int.toNat n34)):Nat):Int)))
  (T.need (((0:Int)<=n38)/\(n38<((((Int.toNat (l36:Int))-(Int.toNat n34)):Nat):Int))) <|
  T.bF (if (l37=(Int.toNat n34)) then p35 else (Option.map (fun a=>Addr.add a (aQ n34 1)) p35)) <| fun (a39:Zx) =>
  T.ah (a39.add (aQ n38 1)) [.string] <| fun (s40:ZA) =>
  T.ah aO [.map 9 4] <| fun (r41:Option Nat) =>
  T.ei Tryz.prog (Instr.mapUpdate 58 (.map r41) (.string s40) (.bool false)) <|
  T.ah aB [.map 9 4] <| fun (r42:Option Nat) =>
  T.ah aB [.map 9 4] <| fun (r43:Option Nat) =>
  bR (Instr.lookup 58 (.map r43) (.string s40) false) false [cg] <| fun (b44:Bool) =>
  cond b44
   (T.ei Tryz.prog (Instr.mapUpdate 58 (.map r42) (.string s40) (.bool true)) <|
   T.again 1 [.int .i64 (bt (n38+(1:Int)))])
   (T.ah aW [.slice 9] <| fun (p45:ZC) (l46:Nat) (l47:Nat) =>
   T.ei Tryz.prog (Instr.mapUpdate 58 (.map r42) (.string s40) (.bool (decide ((bt ((l46:Int)-n34))>(1:Int))))) <|
   T.again 1 [.int .i64 (bt (n38+(1:Int)))]))
  (T.ah aW [.slice 9] <| fun (p39:ZC) (l40:Nat) (l41:Nat) =>
  T.need (((0:Int)<=(0:Int))/\(((0:Int)<=n34)/\(n34<=(l41:Int)))) <|
  T.aE aW [.slice (if (l41=0) then p39 else (Option.map (fun a=>Addr.add a 0) p39)) ((Int.toNat n34)-0) (l41-0)] <|
  br #[])
def SA {lv:List ZB->Hp->Prop} (lo:II r es p0) (hs:∀ s,s∈aZ es->s.size<=maxLen) (m:mE r h st p l c) (co:Oa r h es p0 l0 c0) (hi:oB (aZ es) st) (g:dA (aZ es) st) (hl:l<=2^40) {v:ZA} (hk0:qM v st<=st.cV.length)
  (hk:∀ h' p' l' c',mE r h' (qA v st) p' l' c'->pM r p h p' h'->K (.tuple #[]) h'):Uu (bx r.O) (bx r.B) (bx r.W) p l c ((qM v st:Nat):Int) [lv] K h:=by
 unfold Uu aQ bR bt br aR cg;have hlen:l=st.cV.length:=by rw [m.w.1,W3]
 have hcap:=m.w.F1;rw [show Int.toNat ((qM v st:Nat):Int)=qM v st from ad,show Int.toNat (l:Int)=l from ad];generalize hkk:qM v st=k at *;have hbig:decide (1<st.cV.length-qM v st)=decide (1<l-k):=by rw [hkk,hlen]
 unfold qA at hk;rw [hbig,hkk] at hk;refine aU (cs:=[(false,[.int .i64])]) (fun x w h'=>∃ i:Nat,x.1=(i:Int)/\i<=l-k/\w=l-k-i/\mE r h' (((st.cV.drop k).take i).foldl (oQ (decide (1<l-k))) st) p l c/\pM r p h p h') ((0:Int),()) (l-k) rfl ⟨0,rfl,ad,ad,by simpa using m,pM.refl _ _ _⟩ ?_;rintro ⟨n38,⟨⟩⟩ w h2 ⟨i,hi0,hile,rfl,m2,s2⟩;simp only at hi0;subst hi0;refine ao ?_;have co2:=s2.co lo m co;have hway:∀ (w:List ZA) (st:TS),(w.foldl (oQ (decide (1<l-k))) st).cV=st.cV:=by
  intro w
  induction w with
  | nil=>intro st; rfl
  | cons x w ih=>intro st; rw [XE,ih]; rfl
 refine ak (fun g1=>?_) (fun g1=>?_)
 ·have g1:=W2 g1;have hilt:k+i<st.cV.length:=ad
  refine ay ⟨ad,ad⟩ ?_;rw [W6 ad];have hsl:=m2.w;rw [hway] at hsl;obtain ⟨a,rfl,hc⟩:=hsl.cells (i:=k+i) (by simpa using hilt);rw [Xc] at hc;refine ax rfl ?_;rw [show Int.toNat (i:Int)=i from ad,add_add,<- Ya];have hmem:st.cV[k+i]∈aZ es:=hi _ (g.fm _ (Xe hilt));have htk:(st.cV.drop k).take (i+1)=(st.cV.drop k).take i++[st.cV[k+i]]:=by
   rw [W7 (by rw [X3]; omega),List.getElem_drop]
  generalize st.cV[k+i]=x at hc hmem htk;refine aC (x,()) hc (ao ?_);have hsz:=hs x hmem;generalize hst2:((st.cV.drop k).take i).foldl (oQ (decide (1<l-k))) st=st2 at m2;have hst3:((st.cV.drop k).take (i+1)).foldl (oQ (decide (1<l-k))) st=oQ (decide (1<l-k)) st2 x:=by rw [htk,XX,hst2]; rfl
  refine af co2.bO (some r.gO,()) rfl (ao ?_);refine m2.Uf lo.ord hsz ?_;intro h3 m3 s3 z3;have co3:=s3.co lo m2 co2;refine af co3.bB (some r.gB,()) rfl (ao ?_);refine af co3.bB (some r.gB,()) rfl (ao ?_);refine m3.ey x ?_;have hw:IntKind.wrap .i64 ((i:Int)+1)=((i+1:Nat):Int):=by rw [wrap_i64 ad ad]; omega
  refine ak (fun g2=>?_) (fun g2=>?_)
  ·have g2:(st2.back x).getD false=true:=g2;refine m3.Tq lo.ord hsz ?_;intro h4 m4 s4 z4;refine aI (cs:=[(false,[.int .i64])]) (((i+1:Nat):Int),()) (l-k-(i+1)) rfl ad (Xj (fun z=>[Value.int .i64 z]) hw) ⟨i+1,rfl,ad,rfl,?_,(s2.trans s3).trans s4⟩;rw [hst3];unfold oQ;rw [g2];exact m4
  ·have g2:(st2.back x).getD false=false:=g2;refine af m3.bW ((_,_,_),()) rfl (ao ?_);refine m3.Tq lo.ord hsz ?_;intro h4 m4 s4 z4;refine aI (cs:=[(false,[.int .i64])]) (((i+1:Nat):Int),()) (l-k-(i+1)) rfl ad (Xj (fun z=>[Value.int .i64 z]) hw) ⟨i+1,rfl,ad,rfl,?_,(s2.trans s3).trans s4⟩;rw [hst3];unfold oQ;rw [g2,YJ];have e:decide ((IntKind.wrap .i64 ((l:Int)-(k:Int)))>(1:Int))=decide (1<l-k):=by
    rw [wrap_i64 ad ad];exact Y8.2 ad
   rw [e] at m4;exact m4
 ·have g1:=W4 g1;have hii:i=l-k:=ad
  subst hii;have htk:(st.cV.drop k).take (l-k)=st.cV.drop k:=XD (by rw [X3]; omega);rw [htk] at m2;have hpp:(if c=0 then p else (Option.map (fun a=>Addr.add a 0) p))=p:=by
   split
   ·rfl
   ·cases p with
    | none=>rfl
    | some a=>simp only [Option.map_some,add_zero']
  refine af m2.bW ((p,l,c),()) rfl (ao ?_);refine ay ⟨ad,ad,ad⟩ ?_;rw [hpp,Zk,Zk];have hsl:=m2.w;rw [hway] at hsl;have hsk:=hsl.take (k:=k) ad;rw [<- List.map_take] at hsk;refine m2.T5 lo.ord (Ch.refl _ _) hsk (fun i hi=>.inl hi) ?_;intro h4 m4 s4;exact hk h4 p k c m4 (s2.trans s4)
end
structure EqsOk (es:List cI):Prop where
 nodup:(aZ es).Nodup
 len:es.length<=2^40
 sz:∀ e,e∈es->e.name.size<=maxLen
 tl:∀ e,e∈es->e.x.ai.length<=2^40
 ts:∀ e,e∈es->∀ t,t∈e.x.ai->t.1.size<=maxLen
def EqsOk.names {es:List cI} (o:EqsOk es):∀ s,s∈aZ es->s.size<=maxLen:=by
 intro s hs;obtain ⟨e,he,rfl⟩:=Xd.1 hs;exact o.sz e he
section
variable {r:TF} {es:List cI} {p0:ZC} {l0 c0:Nat}
def KR (eo:EqsOk es) (lo:II r es p0):∀ f,Iv es r p0 l0 c0 f:=by
 intro f;have hown:∀ s,ct es s=true->s∈aZ es:=fun s=>(ec es s).1
 have hs:=eo.names;have hnl:(aZ es).length=es.length:=by unfold aZ; rw [W3]
 induction f with
 | zero =>
  intro v st h p l c m co g hv h0 hu hi
  have:=(g.open eo.nodup hv h0).2
  omega
 | succ f ih =>
  intro v st h p l c m co g hv h0 hu hi;have o:=lo.ord;have o':=o;unfold TF.ord at o';have hlen:=eo.len;refine bd (args:=.string v::r.sV) mixed Tryz.func90 az (nh v (bx r.N) (bx r.L) (bx r.W) (bx r.O) (bx r.E) (bx r.A) (bx r.B) (bx r.V)) ?_;unfold ji bf bh bG aQ cD dr bm bR bt aH br bT aR cg;have hsv:=hs v hv;have hcnt:st.jt<=es.length:=by have:=g.sum; omega
  have hway:=g.cV;have hll:l=st.cV.length:=by rw [m.w.1,W3]
  have hV:=co.bV.lt;refine af co.bN (some r.gN,()) rfl (ao ?_);refine af co.bN (some r.gN,()) rfl (ao ?_);refine V5 (en:=eI) m.mN ?_;refine m.uf o hsv (w:=st.jt+1) (by rw [wrap_i64 ad ad]; omega) ?_;intro h1 m1 s1 z1;have hnone:(st.num v).isSome=false:=by rw [h0]; rfl
  rw [hnone] at m1;simp only [Bool.false_eq_true,if_false] at m1;have co1:=s1.co lo m co;refine af co1.bL (some r.gL,()) rfl (ao ?_);refine af co1.bN (some r.gN,()) rfl (ao ?_);refine m1.DO v ?_;refine m1.r7 o hsv rfl ?_;intro h2 m2 s2 z2;simp only [cy,Option.getD_some] at m2;have co2:=s2.co lo m1 co1;refine af m2.bW ((p,l,c),()) rfl (ao ?_);refine m2.Vw o ad ad ?_;intro h3 p3 c3 m3 s3;have co3:=s3.co lo m2 co2;refine af co3.bO (some r.gO,()) rfl (ao ?_);refine m3.Uf o hsv ?_;intro h4 m4 s4 z4;have co4:=s4.co lo m3 co3;have s04:pM r p h p3 h4:=((s1.trans s2).trans s3).trans s4
  replace m4:mE r h4 (eD v st) p3 (l+1) c3:=m4
  refine af co4.bE ((p0,l0,c0),()) rfl (ao ?_);refine af co4.bA (some r.gA,()) rfl (ao ?_);obtain ⟨nA,mA⟩:=co4.mA;refine HS mA v ?_;obtain ⟨k,hk⟩:=De hv;obtain ⟨hkl,hkn,hkx⟩:=nU hk;have hl0:=co4.vw.len;rw [hk];simp only [Option.getD_some];refine ay ⟨ad,ad⟩ ?_;obtain ⟨a,ha,hc⟩:=co4.vw.cells k hkl;refine ax ha ?_;rw [show Int.toNat (k:Int)=k from ad];have hin:=co4.vw.fm es[k] (Xe hkl);have hinW:∀ h',Oa r h' es p0 l0 c0->gK h' es[k].p es[k].l es[k].x.ai:=fun h' co'=>co'.vw.fm es[k] (Xe hkl)
  have htl:=eo.tl es[k] (Xe hkl);have hts:=eo.ts es[k] (Xe hkl);have hli:=lo.li es[k] (Xe hkl);have hsu:cJ (de es) v=es[k].x.ai.map (·.1):=by unfold cJ; rw [hkx]
  generalize es[k]=e at hc hin hinW htl hts hli hsu;refine aC ((e.p,e.l,e.c),()) ⟨by rw [add_zero']; exact hc.2.1,trivial⟩ ?_;refine ao ?_;have hel:=hin.len;have hgood:=fun l=>J2 eo.nodup hown (cJ (de es)) g hv h0 hu l
  have hinn:∀ l:List ZA,oB (aZ es) (l.foldl (eC (ct es) (cL (ct es) (cJ (de es)) f) v) (eD v st)):=fun l=>oB.fold hown (fun w st hi hw=>oB.visit hown (cJ (de es)) f w st hi hw) l _ (hi.open hv)
  refine aU (cs:=[(false,[.int .i64])]) (fun x w h'=>∃ (i:Nat) (p':ZC) (l' c':Nat),x.1=(i:Int)/\i<=e.x.ai.length/\w=e.x.ai.length-i/\mE r h' (((e.x.ai.map (·.1)).take i).foldl (eC (ct es) (cL (ct es) (cJ (de es)) f) v) (eD v st)) p' l' c'/\pM r p h p' h')
   ((0:Int),()) e.x.ai.length rfl ⟨0,p3,l+1,c3,rfl,ad,ad,m4,s04⟩ ?_
  rintro ⟨n26,⟨⟩⟩ w h5 ⟨i,p5,l5,c5,hi0,hile,rfl,m5,s5⟩;simp only at hi0;subst hi0;refine ao ?_;have co5:=s5.co lo m co;obtain ⟨g5,hu5,hpre5,n5,hn5⟩:=hgood ((e.x.ai.map (·.1)).take i);have hi5:=hinn ((e.x.ai.map (·.1)).take i);have hk5:=fun hi:i<e.x.ai.length=>(show (e.x.ai.map (·.1)).take (i+1)=(e.x.ai.map (·.1)).take i++[e.x.ai[i].1] by
   rw [W7 (by rw [W3]; exact hi),Xc])
  have hfin:i=e.x.ai.length->(e.x.ai.map (·.1)).take i=cJ (de es) v:=by
   intro hh;rw [hsu];exact XD (by rw [W3]; omega)
  have hfold:∀ hi:i<e.x.ai.length,((e.x.ai.map (·.1)).take (i+1)).foldl (eC (ct es) (cL (ct es) (cJ (de es)) f) v) (eD v st)=eC (ct es) (cL (ct es) (cJ (de es)) f) v (((e.x.ai.map (·.1)).take i).foldl (eC (ct es) (cL (ct es) (cJ (de es)) f) v) (eD v st)) e.x.ai[i].1:=by
   intro hi;rw [hk5 hi,XX]; rfl
  have hvis:cL (ct es) (cJ (de es)) (f+1) v st=(if tT ((cJ (de es) v).foldl (eC (ct es) (cL (ct es) (cJ (de es)) f) v) (eD v st)) v<rO ((cJ (de es) v).foldl (eC (ct es) (cL (ct es) (cJ (de es)) f) v) (eD v st)) v then (cJ (de es) v).foldl (eC (ct es) (cL (ct es) (cJ (de es)) f) v) (eD v st) else qA v ((cJ (de es) v).foldl (eC (ct es) (cL (ct es) (cJ (de es)) f) v) (eD v st))):=rfl;refine ak (fun g1=>?_) (fun g1=>?_)
  ·have g1:=W2 g1;have hilt:i<e.x.ai.length:=ad
   have hfold:=hfold hilt;refine ay ⟨ad,ad⟩ ?_;obtain ⟨a2,ha2,hc2⟩:=(hinW h5 co5).cells i hilt;refine ax ha2 ?_;rw [show Int.toNat (i:Int)=i from ad];have htsi:=hts e.x.ai[i] (Xe hilt);generalize e.x.ai[i]=t at hc2 htsi hfold;generalize hst5:((e.x.ai.map (·.1)).take i).foldl (eC (ct es) (cL (ct es) (cJ (de es)) f) v) (eD v st)=st5 at m5 g5 hu5 hi5 hfold;refine aC (t.1,(t.2:Int),()) hc2 (ao ?_);refine bk ?_;intro h6 b6 e6 z6;refine aw b6 rfl aj ?_;intro h7 b7 k7 z7;have b7:bH h7 h5.size 117 [.string t.1,.int .u32 (t.2:Int)]:=b7;have e57:Ext h5 h7:=Ch.trans e6 k7 (fun j hj hl=>by simp at hj; omega);have co7:=co5.mv lo e57 aj;have m7:=m5.an e57;have TW:pM r p5 h5 p5 h7:=pM.ext e57;have ha7:=co5.bV.lt;have hap:h5.size∉aP p5:=fun hb=>by have:=(m5.w.cj hb).2; omega
   have hw:IntKind.wrap .i64 ((i:Int)+1)=((i+1:Nat):Int):=by rw [wrap_i64 ad ad]; omega
   refine af co7.bA (some r.gA,()) rfl (ao ?_);refine af b7 (t.1,()) rfl (ao ?_);obtain ⟨nA7,mA7⟩:=co7.mA;refine CD mA7 t.1 ?_;refine ak (fun g2=>?_) (fun g2=>?_)
   ·have g2:¬ ct es t.1=true:=by
     unfold ct;intro hh;rw [hh] at g2;cases g2
    have hst:eC (ct es) (cL (ct es) (cJ (de es)) f) v st5 t.1=st5:=W6 g2;refine aI (cs:=[(false,[.int .i64])]) (((i+1:Nat):Int),()) (e.x.ai.length-(i+1)) rfl ad (Xj (fun z=>[Value.int .i64 z]) hw) ⟨i+1,p5,l5,c5,rfl,ad,rfl,?_,s5.trans TW⟩;rw [hfold,hst];exact m7
   ·have g2:ct es t.1=true:=by
     unfold ct;cases hh:(j8 es t.1).isSome with
     | true=>rfl
     | false=>rw [hh] at g2; cases g2
    have hwn:=hown _ g2;have hst:eC (ct es) (cL (ct es) (cJ (de es)) f) v st5 t.1=sF (cL (ct es) (cJ (de es)) f) v t.1 (fq v t.1 st5):=Xb g2;rw [hst] at hfold;have g8:=g5.self v t.1;have hu8:qh (aZ es) (fq v t.1 st5)<=f:=by unfold qh; rw [(hQ v t.1 st5).1]; exact hu5
    have hi8:oB (aZ es) (fq v t.1 st5):=by intro s hs; rw [(hQ v t.1 st5).1] at hs; exact hi5 s hs
    refine af b7 (t.1,()) rfl (ao ?_);rw [Ud];refine ak (fun g3=>?_) (fun g3=>?_)
    ·have g3:=W2 g3;refine af co7.bB (some r.gB,()) rfl (ao ?_);refine m7.Tq o hsv ?_;intro h8 m8 s8 z8;have e8:fq v t.1 st5={ st5 with back:=dC st5.back v true }:=Xb g3;rw [<- e8] at m8;have co8:=s8.co lo m7 co7;have b8:=s8.box (st:=st5) (l:=l5) (c:=c5) o ha7 hap b7;refine Iz ih lo hs m8 co8 g8 hu8 hi8 hv hwn ha7 hap b8 (i:Int) ?_;intro h9 p9 l9 c9 m9 s9;refine aI (cs:=[(false,[.int .i64])]) (((i+1:Nat):Int),()) (e.x.ai.length-(i+1)) rfl ad (Xj (fun z=>[Value.int .i64 z]) hw) ⟨i+1,p9,l9,c9,rfl,ad,rfl,?_,((s5.trans TW).trans s8).trans s9⟩;rw [hfold];exact m9
    ·have g3:=W4 g3;have e8:fq v t.1 st5=st5:=W6 g3;rw [<- e8] at m7;refine Iz ih lo hs m7 co7 g8 hu8 hi8 hv hwn ha7 hap b7 (i:Int) ?_;intro h9 p9 l9 c9 m9 s9;refine aI (cs:=[(false,[.int .i64])]) (((i+1:Nat):Int),()) (e.x.ai.length-(i+1)) rfl ad (Xj (fun z=>[Value.int .i64 z]) hw) ⟨i+1,p9,l9,c9,rfl,ad,rfl,?_,(s5.trans TW).trans s9⟩;rw [hfold];exact m9
  ·have g1:=W4 g1;have hii:=hfin ad;rw [hii] at m5 g5 hpre5 hi5 hn5;generalize hst5:(cJ (de es) v).foldl (eC (ct es) (cL (ct es) (cJ (de es)) f) v) (eD v st)=st5 at m5 g5 hpre5 hi5 hn5 hvis;refine af co5.bL (some r.gL,()) rfl (ao ?_);refine m5.Ab v ?_;refine af co5.bN (some r.gN,()) rfl (ao ?_);refine m5.DO v ?_;refine ak (fun g2=>?_) (fun g2=>?_)
   ·have g2:tT st5 v<rO st5 v:=by have:=W2 g2; unfold tT rO; omega
    rw [Xb g2] at hvis;refine ⟨rfl,p5,l5,c5,?_,s5⟩;rw [hvis];exact m5
   ·have g2:¬ tT st5 v<rO st5 v:=by have:=W4 g2; unfold tT rO; omega
    rw [W6 g2] at hvis;have hl5:l5=st5.cV.length:=by rw [m5.w.1,W3]
    have hw5:=g5.cV;have hc5:st5.jt<=es.length:=by have:=g5.sum; omega
    have hvw:v∈st5.cV:=hpre5.subset aj;have hpk:qM v st5<st5.cV.length:=by
     unfold qM;rw [List.findIdx_lt_length];exact ⟨v,hvw,aj⟩
    refine af m5.bW ((p5,l5,c5),()) rfl (ao ?_);refine jY (yM m5.w v hvw ad) ?_;refine af m5.bW ((p5,l5,c5),()) rfl (ao ?_);have hcap:=m5.w.F1;have hpk':(st5.cV.findIdx fun x=>decide (v=x))=qM v st5:=rfl;rw [hpk'];refine ay ⟨ad,ad,ad⟩ ?_;refine SA lo hs m5 co5 hi5 g5 ad ad ?_;intro h6 p6 l6 c6 m6 s6;refine ⟨rfl,p6,l6,c6,?_,s5.trans s6⟩;rw [hvis];exact m6
end
theorem oB.top {names:List ZA} {own:ZA->Bool} (hown:∀ s,own s=true->s∈names) (succ:ZA->List ZA) (f:Nat):∀ (l:List ZA) (st:TS),(∀ s,s∈l->s∈names)->oB names st->oB names (l.foldl (vN own succ f) st)
 | [],st,hl,hi=>hi
 | w::l,st,hl,hi=>by
  rw [XE];refine oB.top hown succ f l _ (fun s hs=>hl s (Xh _ hs)) ?_;unfold vN;split
  ·exact oB.visit hown succ f w st hi (hl w aj)
  ·exact hi
def G4 {h:Hp} {p:ZC} {l c:Nat} {es:List cI} (v:tk h p l es) (eo:EqsOk es) (hp:∀ i,i∈aP p->i<h.size) :
  HC Tryz.prog 63 #[.slice p l c] h fun w h'=>(∃ g n,w=.map (some g)/\dP eB h' g (FF (ct es) (cJ (de es)) (aZ es)).back n/\h.size<=g)/\Ext h h':=by
 refine bd (args:=[.slice p l c]) mixed Tryz.func63 az (w9 p l c) ?_;unfold sH bf bh bG aQ bK bR aH bi bT aR;have hown:∀ s,ct es s=true->s∈aZ es:=fun s=>(ec es s).1
 have hnl:(aZ es).length=es.length:=by unfold aZ; rw [W3]
 have hll:=v.len;have hlen:=eo.len;refine bk ?_;intro h1 b1 e1 z1;refine af b1 ((p,l,c),()) rfl (ao ?_);refine aK (zh (v.an e1) eo.len eo.nodup eo.sz) ?_;rintro _ h2 ⟨⟨gA,rfl,mA,hgA⟩,e2⟩;refine ⟨(some gA,()),rfl,ao ?_⟩;have b2:=b1.an e2 aj;have hgA2:=mA.lt;refine bk ?_;intro h3 b3 e3 z3;refine aw b3 rfl aj ?_;intro h4 b4 k4 z4;have b4:bH h4 h2.size 89 [.map (some gA)]:=b4;have e24:Ext h2 h4:=Ch.trans e3 k4 (fun j hj hl=>by simp at hj; omega);refine xR (en:=eB) ?_;intro h5 m5 e5 z5;refine bk ?_;intro h6 b6 e6 z6;refine aw b6 rfl aj ?_;intro h7 b7 k7 z7;have b7:bH h7 h5.size 58 [.map (some h4.size)]:=b7;have e57:Ext h5 h7:=Ch.trans e6 k7 (fun j hj hl=>by simp at hj; omega);refine xR (en:=eI) ?_;intro h8 m8 e8 z8;refine xR (en:=eI) ?_;intro h9 m9 e9 z9;refine bk ?_;intro h10 b10 e10 z10;refine bk ?_;intro h11 b11 e11 z11;refine aw (b10.an e11 aj) rfl aj ?_;intro h12 b12 k12 z12;have b12:bH h12 h9.size 89 [.map (some h7.size)]:=b12;refine aw (b11.an k12 (by simp; omega)) rfl aj ?_;intro h13 b13 k13 z13;have b13:bH h13 h10.size 89 [.map (some h8.size)]:=b13;have e913:Ext h9 h13:=Ch.trans ((Ch.trans (Ext.trans e10 e11) k12 (fun j hj hl=>by simp at hj; omega)):Ext h9 h12) k13 (fun j hj hl=>by simp at hj; omega);refine bk ?_;intro h14 b14 e14 z14;refine xR (en:=eB) ?_;intro h15 m15 e15 z15;refine bk ?_;intro h16 b16 e16 z16;refine aw b16 rfl aj ?_;intro h17 b17 k17 z17;have b17:bH h17 h15.size 58 [.map (some h14.size)]:=b17;have e1517:Ext h15 h17:=Ch.trans e16 k17 (fun j hj hl=>by simp at hj; omega);refine bk ?_;intro h18 b18 e18 z18;refine aw b18 rfl aj ?_;intro h19 b19 k19 z19;have e1719:Ext h17 h19:=Ch.trans e18 k19 (fun j hj hl=>by simp at hj; omega);have e1519:=e1517.trans e1719;have e1319:Ext h13 h19:=(e14.trans e15).trans e1519;have e919:=e913.trans e1319;have e719:Ext h7 h19:=(e8.trans e9).trans e919;have e419:Ext h4 h19:=(e5.trans e57).trans e719;have e219:=e24.trans e419;have e019:Ext h h19:=(e1.trans e2).trans e219;have hz13:h13.size=h9.size+2:=ad
 have hz9:h9.size=h7.size+2:=ad
 have hz7:h7.size=h4.size+2:=ad
 have hz4:h4.size=h2.size+1:=ad
 generalize hr:(⟨h.size,gA,h2.size,h4.size,h5.size,h7.size,h8.size,h9.size,h10.size,h13.size,h14.size,h15.size,h17.size⟩:TF)=r;have ho:r.ord:=by
  subst hr;unfold TF.ord;dsimp only;omega
 have co:Oa r h19 es p l c:=by
  subst hr;refine ⟨(b2.an e219 aj),b4.an e419 aj,⟨_,mA.an e219 aj⟩,?_,(b12.an k13 (by simp; omega)).an e1319 aj,b13.an e1319 aj,b17.an e1719 aj,b7.an e719 aj,v.an e019⟩;exact b19
 have st:mE r h19 Bv none 0 0:=by
  subst hr;exact ⟨m8.an (e9.trans e919) aj,⟨0,m9.an e919 aj⟩,⟨0,m15.an e1519 aj⟩,⟨0,m5.an ((e57.trans e719)) aj⟩,b14.an (e15.trans e1519) aj,SL.nil _ _ _ _⟩
 have lo:II r es p:=by
  subst hr;exact ⟨ho,hp,fun e he hne i hi=>(v.fm e he).Tw hne i hi⟩
 have hrE:r.E=h.size:=by subst hr; rfl
 have hbN:r.N=h9.size:=by subst hr; rfl
 have hbV:r.V=h17.size:=by subst hr; rfl
 have hbB:r.B=h5.size:=by subst hr; rfl
 rw [show (⟨h9.size,0,none⟩:Zx)=bx r.N by rw [hbN],show (⟨h17.size,0,none⟩:Zx)=bx r.V by rw [hbV],show (⟨h5.size,0,none⟩:Zx)=bx r.B by rw [hbB],show (⟨h.size,0,none⟩:Zx)=bx r.E by rw [hrE]];refine af co.bE ((p,l,c),()) rfl (ao ?_);refine aU (cs:=[(false,[.int .i64])]) (fun x w h'=>∃ (i:Nat) (p':ZC) (l' c':Nat),x.1=(i:Int)/\i<=es.length/\w=es.length-i/\mE r h' (((aZ es).take i).foldl (vN (ct es) (cJ (de es)) (aZ es).length) Bv) p' l' c'/\pM r none h19 p' h')
  ((0:Int),()) es.length rfl ⟨0,none,0,0,rfl,ad,ad,st,pM.refl _ _ _⟩ ?_
 rintro ⟨n20,⟨⟩⟩ w h20 ⟨i,p20,l20,c20,hi0,hile,rfl,m20,s20⟩;simp only at hi0;subst hi0;refine ao ?_;have co20:=s20.co lo st co;refine ak (fun g1=>?_) (fun g1=>?_)
 ·have g1:=W2 g1;have hilt:i<es.length:=ad
  refine ay ⟨ad,ad⟩ ?_;obtain ⟨a2,ha2,hc2⟩:=co20.vw.cells i hilt;refine ax ha2 ?_;rw [show Int.toNat (i:Int)=i from ad];have t20:=B2 (own:=ct es) (succ:=cJ (de es)) eo.nodup hown ((aZ es).take i) [] Bv (fun s hs=>X9 hs) (U4 _);have i20:=oB.top hown (cJ (de es)) (aZ es).length ((aZ es).take i) Bv (fun s hs=>X9 hs) (fun s hs=>(hs rfl).elim);have htk:(aZ es).take (i+1)=(aZ es).take i++[es[i].name]:=by
   rw [W7 ad];unfold aZ;rw [Xc]
  have hmem:es[i].name∈aZ es:=Xp (Xe hilt);generalize es[i]=e at hc2 htk hmem;have hfold:((aZ es).take (i+1)).foldl (vN (ct es) (cJ (de es)) (aZ es).length) Bv=vN (ct es) (cJ (de es)) (aZ es).length (((aZ es).take i).foldl (vN (ct es) (cJ (de es)) (aZ es).length) Bv) e.name:=by
   rw [htk,XX]; rfl
  generalize ((aZ es).take i).foldl (vN (ct es) (cJ (de es)) (aZ es).length) Bv=st20 at m20 t20 i20 hfold;refine aC (e.name,(e.p,e.l,e.c),(e.x.num:Int),()) hc2 (ao ?_);refine bk ?_;intro h21 b21 e21 z21;refine aw b21 rfl aj ?_;intro h22 b22 k22 z22;have b22:bH h22 h20.size 100 [.string e.name,.slice e.p e.l e.c,.int .u32 e.x.num]:=b22;have e2022:Ext h20 h22:=Ch.trans e21 k22 (fun j hj hl=>by simp at hj; omega);have co22:=co20.mv lo e2022 aj;have m22:=m20.an e2022;have s22:pM r none h19 p20 h22:=s20.trans (pM.ext e2022);have hw:IntKind.wrap .i64 ((i:Int)+1)=((i+1:Nat):Int):=by rw [wrap_i64 ad ad]; omega
  refine af co22.bN (some r.gN,()) rfl (ao ?_);refine af b22 (e.name,()) rfl (ao ?_);refine m22.DO e.name ?_;refine ak (fun g2=>?_) (fun g2=>?_)
  ·have g2:(st20.num e.name).getD 0=0:=by have:=W2 g2; omega
   refine af co22.bV (.func (.func 90) #[] r.sV.toArray,()) rfl (ao ?_);refine af b22 (e.name,()) rfl (ao ?_);refine qL (cap:=r.sV) Vo rfl (KR eo lo (aZ es).length e.name st20 h22 p20 l20 c20 m22 co22 t20.B' hmem (t20.B'.none g2) (Yo _ _) i20) ?_;rintro _ h23 ⟨rfl,p23,l23,c23,m23,s23⟩;refine ⟨(),rfl,?_⟩;refine aI (cs:=[(false,[.int .i64])]) (((i+1:Nat):Int),()) (es.length-(i+1)) rfl ad (Xj (fun z=>[Value.int .i64 z]) hw) ⟨i+1,p23,l23,c23,rfl,ad,rfl,?_,s22.trans s23⟩;rw [hfold];unfold vN;rw [Xb g2];exact m23
  ·have g2:¬ (st20.num e.name).getD 0=0:=by
    intro k;rw [k] at g2;simp at g2
   refine aI (cs:=[(false,[.int .i64])]) (((i+1:Nat):Int),()) (es.length-(i+1)) rfl ad (Xj (fun z=>[Value.int .i64 z]) hw) ⟨i+1,p20,l20,c20,rfl,ad,rfl,?_,s22⟩;rw [hfold];unfold vN;rw [W6 g2];exact m22
 ·have g1:=W4 g1;have htk:(aZ es).take i=aZ es:=XD ad;rw [htk] at m20;refine af co20.bB (some r.gB,()) rfl (ao ?_);obtain ⟨n3,mB⟩:=m20.mB;have o':=ho;unfold TF.ord at o';refine ⟨⟨r.gB,n3,rfl,mB,ad⟩,Ch.trans e019 s20.ch fun j hj hl=>?_⟩;rw [oW] at hj;simp [aP] at hj;omega
def vO {h:Hp} {b:Nat} {e:TypeId} {p:ZC} {l c:Nat} {us:da} (s:SL h b e 2 p l c (us.map dc)):gK h p l us :=
 ⟨by rw [s.1,W3],fun i hi=>by
  obtain ⟨a,ha,hc⟩:=s.cells (i:=i) (by simpa using hi);rw [Xc] at hc;exact ⟨a,ha,hc⟩⟩
structure sN (es:List cI):Prop extends EqsOk es where
 TT:(es.flatMap (·.x.ai)).length<=2^20
abbrev eO (es:List cI) (v:ZA):cm:=HF (ct es) (de es) (aZ es) v
abbrev dl (es:List cI):ZA->ZA->Prop:=Edge (ct es) (cJ (de es))
def lF {es:List cI} {v:ZA} (hv:v∈aZ es):∃ e,e∈es/\e.name=v/\de es v=e.x:=by
 obtain ⟨k,hk⟩:=De hv;obtain ⟨hkl,hkn,hkx⟩:=nU hk;exact ⟨_,Xe hkl,hkn,hkx⟩
def gM {α β:Type} (f:α->List β) {l:List α} {a:α} (h:a∈l):(f a).length<=(l.flatMap f).length:=by
 induction l with
 | nil=>simp at h
 | cons b l ih =>
  rw [XJ,W8];rcases Xq.1 h with e | e
  ·subst e; omega
  ·have:=ih e; omega
def sN.yv {es:List cI} (o:sN es) {v:ZA} (hv:v∈aZ es):(de es v).ai.length<=2^20:=by
 obtain ⟨e,he,_,hx⟩:=lF hv;rw [hx];exact XV (gM (fun e:cI=>e.x.ai) he) o.TT
def sN.Da {es:List cI} (o:sN es) (hc:∀ v,¬ j6 (dl es) v) {v:ZA} (hv:v∈aZ es):(eO es v).ai.length<=2^20:=by
 have hnf:=Tr (ec es) hc hv;have hnm:=wo (ec es) hc hv;have h1:((eO es v).ai.map (·.1)).Nodup:=X5.2 (hnf.1.imp fun h=>j7 h);have h2:=kS ((eO es v).ai.map (·.1)) ((es.flatMap (·.x.ai)).map (·.1)) h1 (fun s hs=>by
  obtain ⟨t,ht,rfl⟩:=Xd.1 hs;obtain ⟨_,w,u,hw,hu,e⟩:=hnm t ht;obtain ⟨d,hd,_,hx⟩:=lF hw;rw [hx] at hu;rw [<- e];exact Xp (Y9.2 ⟨d,hd,hu⟩))
 rw [W3,W3] at h2;exact XV h2 o.TT
def sN.Kw {es:List cI} (o:sN es) (hc:∀ v,¬ j6 (dl es) v) {v:ZA} (hv:v∈aZ es):∀ t,t∈(eO es v).ai->t.1.size<=maxLen:=by
 intro t ht;obtain ⟨_,w,u,hw,hu,e⟩:=wo (ec es) hc hv t ht;obtain ⟨d,hd,_,hx⟩:=lF hw;rw [hx] at hu;rw [<- e];exact o.ts d hd u hu
theorem pz {of:ZA->Option cm} {B:Nat} (hB:1<=B) (hof:∀ s y,of s=some y->y.ai.length<=B):∀ l:da,(l.flatMap (qO of)).length<=l.length*B
 | []=>aj
 | t::l=>by
  rw [XJ,W8,XP,Ya];have ih:=pz hB hof l
  have:(qO of t).length<=B:=by
   unfold qO;cases h:of t.1 with
   | none=>simpa using hB
   | some y=>simpa using hof _ _ h
  omega
structure SF where
 E:Nat
 gA:Nat
 A:Nat
 gD:Nat
 D:Nat
 V:Nat
def SF.ord (r:SF):Prop:=r.E<r.gA/\r.gA<r.A/\r.A<r.gD/\r.gD<r.D/\r.D<r.V
def SF.sV (r:SF):List ZB:=[.pointer (some (bx r.D)),.pointer (some (bx r.E)),.pointer (some (bx r.A)),.pointer (some (bx r.V))]
structure TJ (r:SF) (h:Hp) (es:List cI) (p0:ZC) (l0 c0:Nat):Prop where
 bE:bH h r.E 44 [.slice p0 l0 c0]
 bA:bH h r.A 89 [.map (some r.gA)]
 mA:∃ n,dP eI h r.gA (j8 es) n
 bV:bH h r.V 150 [.func (.func 65) #[] r.sV.toArray]
 bD:bH h r.D 149 [.map (some r.gD)]
 vw:tk h p0 l0 es
structure We (r:SF) (es:List cI) (p0:ZC):Prop where
 ord:r.ord
 l0:∀ i,i∈aP p0->i<r.E
 li:∀ e,e∈es->e.x.ai≠[]->∀ i,i∈aP e.p->i<r.E
def TJ.an {r:SF} {h h':Hp} {es:List cI} {p0:ZC} {l0 c0:Nat} (m:TJ r h es p0 l0 c0) (lo:We r es p0) (k:Ch [r.gD] h h'):TJ r h' es p0 l0 c0:=by
 have o:=lo.ord;unfold SF.ord at o;obtain ⟨n,mA⟩:=m.mA;exact ⟨m.bE.an k (by simp; omega),m.bA.an k (by simp; omega),⟨n,mA.an k (by simp; omega)⟩,m.bV.an k (by simp; omega),m.bD.an k (by simp; omega),m.vw.mv k (fun i hi=>by have:=lo.l0 i hi; simp; omega) (fun e he hne i hi=>by have:=lo.li e he hne i hi; simp; omega)⟩
structure RE (r:SF) (h:Hp) (es:List cI) (f:ZA->Option qT):Prop where
 map:∃ n,Gf h r.gD f n
 of:∀ s y,f s=some y->s∈aZ es/\y.x=eO es s/\∀ i,i∈aP y.p->r.V<i/\i<h.size
def RE.ext {r:SF} {h h':Hp} {es:List cI} {f:ZA->Option qT} (d:RE r h es f) (k:Ext h h'):RE r h' es f:=by
 obtain ⟨n,m⟩:=d.map;exact ⟨⟨n,m.an k aj (fun s y hy i hi=>aj)⟩,fun s y hy=>by
  obtain ⟨a,b,c⟩:=d.of s y hy;exact ⟨a,b,fun i hi=>⟨(c i hi).1,Nat.lt_of_lt_of_le (c i hi).2 k.size⟩⟩⟩
def UW (f f':ZA->Option qT):Prop:=∀ s y,f s=some y->f' s=some y
def Q0 (b:Nat) (f f':ZA->Option qT):Prop:=∀ s y,f' s=some y->f s=some y\/∀ i,i∈aP y.p->b<=i
def R0:fF Tryz.prog 65=true:=az
def Lx {r:SF} {es:List cI} {p0:ZC} {l0 c0:Nat} (eo:sN es) (lo:We r es p0) (hc:∀ v,¬ j6 (dl es) v):∀ (k:Nat) (v:ZA),Hg (dl es) k v->v∈aZ es->∀ (h:Hp) (f:ZA->Option qT),TJ r h es p0 l0 c0->RE r h es f ->
  HC Tryz.prog 65 (.string v::r.sV).toArray h fun w h'=>∃ y f',w=eL y/\y.x=eO es v/\RE r h' es f'/\f' v=some y/\UW f f'/\Q0 h.size f f'/\Ch [r.gD] h h':=by
 intro k;have o:=lo.ord;have o':=o;unfold SF.ord at o';have hown:=ec es
 induction k with
 | zero=>intro v hg; exact hg.elim
 | succ k ih =>
  intro v hg hv h f co dn;refine bd (args:=.string v::r.sV) mixed Tryz.func65 az (oR v (bx r.D) (bx r.E) (bx r.A) (bx r.V)) ?_;unfold ko bf bh bG aQ bK bR aH bi bT aR cg;have hV:=co.bV.lt;have hsv:=eo.toEqsOk.names v hv;refine bk ?_;intro h1 b1 e1 z1;have co1:=co.an lo (e1.mono aj);have dn1:=dn.ext e1;refine af co1.bD (some r.gD,()) rfl (ao ?_);obtain ⟨n1,m1⟩:=dn1.map;refine Ab m1.map v (fun y hy1=>?_) (fun hy0=>?_)
  ·refine bk ?_;intro h2 b2 e2 z2;refine aw b2 rfl aj ?_;intro h3 b3 k3 z3;have b3:bH h3 h1.size 69 [.slice y.p y.l y.c,.int .u32 (y.x.num:Int)]:=b3;have e13:Ext h1 h3:=Ch.trans e2 k3 (fun j hj hl=>by simp at hj; omega);refine bn rfl ?_;refine af b3 ((y.p,y.l,y.c),(y.x.num:Int),()) rfl (ao ?_);refine aw (b1.an e13 aj) rfl aj ?_;intro h4 b4 k4 z4;have b4:bH h4 h.size 69 [.slice y.p y.l y.c,.int .u32 (y.x.num:Int)]:=b4;refine af b4 ((y.p,y.l,y.c),(y.x.num:Int),()) rfl ?_;have e04:Ext h h4:=Ch.trans (e1.trans e13) k4 (fun j hj hl=>by simp at hj; omega);exact ⟨y,f,rfl,(dn.of v y hy1).2.1,dn.ext e04,hy1,fun s y hy=>hy,fun s y hy=>.inl hy,e04.mono aj⟩
  ·refine bk ?_;intro h2 b2 e2 z2;refine aw b2 rfl aj ?_;intro h3 b3 k3 z3;have e13:Ext h1 h3:=Ch.trans e2 k3 (fun j hj hl=>by simp at hj; omega);refine bJ rfl ?_;have e03:=e1.trans e13;have co3:=co.an lo (e03.mono aj);have dn3:=dn.ext e03;refine af co3.bE ((p0,l0,c0),()) rfl (ao ?_);refine af co3.bA (some r.gA,()) rfl (ao ?_);obtain ⟨nA,mA⟩:=co3.mA;refine HS mA v ?_;obtain ⟨q,hq⟩:=De hv;obtain ⟨hql,hqn,hqx⟩:=nU hq;have hl0:=co3.vw.len;have hlen:=eo.len;rw [hq];simp only [Option.getD_some];refine ay ⟨ad,ad⟩ ?_;obtain ⟨a,ha,hcc⟩:=co3.vw.cells q hql;refine ax ha ?_;rw [show Int.toNat (q:Int)=q from ad];have hinW:∀ h',TJ r h' es p0 l0 c0->gK h' es[q].p es[q].l es[q].x.ai:=fun h' co'=>co'.vw.fm es[q] (Xe hql)
   have hts:=eo.ts es[q] (Xe hql);have hli:=lo.li es[q] (Xe hql);have hll:=eo.yv hv;have hsol:=G9 hown hc hv;rw [hqx] at hll hsol;have hedge:∀ t,t∈es[q].x.ai->ct es t.1=true->dl es v t.1:=fun t ht ho=>⟨kN.2 ⟨t,by rw [hqx]; exact ht,rfl⟩,ho⟩
   generalize es[q]=e at hcc hinW hts hli hll hsol hedge;refine aC ((e.p,e.l,e.c),(e.x.num:Int),()) ⟨by rw [add_zero']; exact hcc.2.1,by rw [add_add]; exact hcc.2.2.1,trivial⟩ ?_;refine ao ?_;refine bk ?_;intro h5 b5 e5 z5;refine aw b5 rfl aj ?_;intro h6 b6 k6 z6;have b6:bH h6 h3.size 69 [.slice e.p e.l e.c,.int .u32 (e.x.num:Int)]:=b6;have e36:Ext h3 h6:=Ch.trans e5 k6 (fun j hj hl=>by simp at hj; omega);have e06:=e03.trans e36;have hz3:=e03.size;refine af b6 ((e.p,e.l,e.c),()) rfl (ao ?_);refine aU (cs:=[(false,[.int .i64])]) (fun x w h'=>∃ (i:Nat) (f':ZA->Option qT),x.1=(i:Int)/\i<=e.x.ai.length/\w=e.x.ai.length-i/\RE r h' es f'/\UW f f'/\Q0 h6.size f f'/\(∀ t,t∈e.x.ai.take i->ct es t.1=true->∃ y,f' t.1=some y)/\Ch [r.gD] h6 h')
    ((0:Int),()) e.x.ai.length rfl ⟨0,f,rfl,ad,ad,dn.ext e06,fun s y hy=>hy,fun s y hy=>.inl hy,aj,Ch.refl _ _⟩ ?_
   rintro ⟨n23,⟨⟩⟩ w h7 ⟨i,f7,hi0,hile,rfl,dn7,sb7,na7,dd7,k7⟩;simp only at hi0;subst hi0;refine ao ?_;have k07:Ch [r.gD] h h7:=Ch.trans (e06.mono aj) k7 (fun j hj _=>hj);have co7:=co.an lo k07;have hel:=(hinW h7 co7).len;refine ak (fun g1=>?_) (fun g1=>?_)
   ·have g1:=W2 g1;have hilt:i<e.x.ai.length:=ad
    refine ay ⟨ad,ad⟩ ?_;obtain ⟨a2,ha2,hc2⟩:=(hinW h7 co7).cells i hilt;refine ax ha2 ?_;rw [show Int.toNat (i:Int)=i from ad];have htk:e.x.ai.take (i+1)=e.x.ai.take i++[e.x.ai[i]]:=W7 hilt;have hed:=hedge e.x.ai[i] (Xe hilt);generalize e.x.ai[i]=t at hc2 htk hed;refine aC (t.1,(t.2:Int),()) hc2 (ao ?_);refine bk ?_;intro h8 b8 e8 z8;refine aw b8 rfl aj ?_;intro h9 b9 k9 z9;have b9:bH h9 h7.size 117 [.string t.1,.int .u32 (t.2:Int)]:=b9;have e79:Ext h7 h9:=Ch.trans e8 k9 (fun j hj hl=>by simp at hj; omega);have k09:Ch [r.gD] h h9:=Ch.trans k07 e79 aj;have co9:=co.an lo k09;have dn9:=dn7.ext e79;have hw:IntKind.wrap .i64 ((i:Int)+1)=((i+1:Nat):Int):=by rw [wrap_i64 ad ad]; omega
    refine af co9.bA (some r.gA,()) rfl (ao ?_);refine af b9 (t.1,()) rfl (ao ?_);obtain ⟨nA9,mA9⟩:=co9.mA;refine CD mA9 t.1 ?_;refine ak (fun g2=>?_) (fun g2=>?_)
    ·have g2:ct es t.1=true:=g2;refine af co9.bV (.func (.func 65) #[] r.sV.toArray,()) rfl (ao ?_);refine af b9 (t.1,()) rfl (ao ?_);refine qL (cap:=r.sV) R0 rfl (ih t.1 (hg t.1 (hed g2)) ((hown _).1 g2) h9 f7 co9 dn9) ?_;rintro _ h10 ⟨y,f10,rfl,hyx,dn10,hfy,sb10,na10,k10⟩;refine ⟨((y.p,y.l,y.c),(y.x.num:Int),()),rfl,ao ?_⟩;refine aI (cs:=[(false,[.int .i64])]) (((i+1:Nat):Int),()) (e.x.ai.length-(i+1)) rfl ad (Xj (fun z=>[Value.int .i64 z]) hw) ⟨i+1,f10,rfl,ad,rfl,dn10,fun s y hy=>sb10 s y (sb7 s y hy),fun s y hy=>?_,fun u hu ho=>?_,?_⟩
     ·rcases na10 s y hy with h | h
      ·exact na7 s y h
      ·refine .inr fun i hi=>?_
       have:=h i hi
       have:=k7.size
       have:=e79.size
       omega
     ·rw [htk] at hu;rcases Xl.1 hu with h | h
      ·obtain ⟨y,hy⟩:=dd7 u h ho;exact ⟨y,sb10 _ _ hy⟩
      ·rw [Xm.1 h]; exact ⟨y,hfy⟩
     ·exact Ch.trans (Ch.trans k7 e79 aj) k10 (fun j hj _=>hj)
    ·have g2:¬ ct es t.1=true:=by
      unfold ct;intro k;rw [k] at g2;cases g2
     refine aI (cs:=[(false,[.int .i64])]) (((i+1:Nat):Int),()) (e.x.ai.length-(i+1)) rfl ad (Xj (fun z=>[Value.int .i64 z]) hw) ⟨i+1,f7,rfl,ad,rfl,dn9,sb7,na7,fun u hu ho=>?_,Ch.trans k7 e79 aj⟩;rw [htk] at hu;rcases Xl.1 hu with h | h
     ·exact dd7 u h ho
     ·rw [Xm.1 h] at ho; exact (g2 ho).elim
   ·have g1:=W4 g1;have hii:e.x.ai.take i=e.x.ai:=XD ad;rw [hii] at dd7;have b7:=b6.an k7 (by simp; omega);refine af b7 ((e.p,e.l,e.c),(e.x.num:Int),()) rfl (ao ?_);refine af co7.bD (some r.gD,()) rfl (ao ?_);obtain ⟨n7,m7⟩:=dn7.map;have hz7:=k07.size;have hput:db (fun s=>(f7 s).map (·.x)) e.x=eO es v:=by
     show _=HF (ct es) (de es) (aZ es) v;rw [hsol];refine oX fun t ht=>?_
     show (f7 t.1).map (·.x)=IS (ct es) (de es) (aZ es) t.1;unfold IS
     by_cases ho:ct es t.1=true
     ·obtain ⟨y,hy⟩:=dd7 t ht ho;rw [hy,Xb ho,Zf,(dn7.of _ _ hy).2.1]
     ·rw [W6 ho];cases hy:f7 t.1 with
      | none=>rfl
      | some y=>exact (ho ((hown _).2 (dn7.of _ _ hy).1)).elim
    have hlens:∀ s y,f7 s=some y->y.x.ai.length<=2^20:=fun s y hy=>by
     obtain ⟨a,b,_⟩:=dn7.of s y hy;rw [b]; exact eo.Da hc a
    refine aK (DU (c:=e.c) (hinW h7 co7) m7 ad hts (fun s y hy=>⟨by have:=hlens s y hy; omega,by
      obtain ⟨a,b,_⟩:=dn7.of s y hy;rw [b]; exact eo.Kw hc a⟩) ?_) ?_
    ·have:=pz (of:=fun s=>(f7 s).map (·.x)) (B:=2^20) ad (fun s y hy=>by
      cases hh:f7 s with
      | none=>simp only [hh] at hy; cases hy
      | some z =>
       simp only [hh,Option.map_some,Option.some.injEq] at hy;rw [<- hy]; exact hlens s z hh) e.x.ai
     exact XV this (XV (Ye _ hll) cn)
    ·rintro _ h8 ⟨⟨p',l',c',rfl,s8⟩,e8⟩;rw [hput] at s8 ⊢;refine ⟨((p',l',c'),((eO es v).num:Int),()),rfl,ao ?_⟩;have b8:=b7.an e8 aj;refine aw b8 rfl aj ?_;intro h9 b9 k9 z9;have b9:bH h9 h3.size 69 [.slice p' l' c',.int .u32 ((eO es v).num:Int)]:=b9;have hz8:=e8.size;have k79:Ch [h3.size] h7 h9:=Ch.trans (e8.mono aj) k9 (fun j hj _=>hj);have k09:Ch [r.gD] h h9:=Ch.trans (Ch.trans k07 e8 aj) k9 (fun j hj hl=>by simp at hj; omega);have co9:=co.an lo k09;have hk7:=k7.size;have hz36:h3.size<h6.size:=ad
     have hblk:∀ s y,f7 s=some y->∀ i,i∈aP y.p->i≠h3.size/\i≠h.size/\i≠r.gD:=by
      intro s y hy i hi;have h1:=(dn7.of s y hy).2.2 i hi;rcases na7 s y hy with h | h
      ·have:=((dn.of s y h).2.2 i hi).2
       omega
      ·have:=h i hi
       omega
     have m9:Gf h9 r.gD f7 n7:=m7.an k79 (by simp; omega) (fun s y hy i hi=>by
      have:=(hblk s y hy i hi).1
      simpa using this)
     have s9:=s8.bM k9 (fun i hi=>by have:=(s8.cj hi).1; simp; omega);refine af co9.bD (some r.gD,()) rfl (ao ?_);refine af b9 ((p',l',c'),((eO es v).num:Int),()) rfl (ao ?_);refine K7 m9.map hsv ⟨p',l',c',eO es v⟩ ?_;intro h10 m10 k10 z10;have b10:=b9.an k10 (by simp; omega);refine af b10 ((p',l',c'),((eO es v).num:Int),()) rfl (ao ?_);have b110:bH h10 h.size 69 [.slice none 0 0,.int .u32 0]:=((((b1.an e13 aj).an e36 aj).an k7 (by simp; omega)).an k79 (by simp; omega)).an k10 (by simp; omega);refine aw b110 rfl aj ?_;intro h11 b11 k11 z11;have b11:bH h11 h.size 69 [.slice p' l' c',.int .u32 ((eO es v).num:Int)]:=b11;refine af b11 ((p',l',c'),((eO es v).num:Int),()) rfl ?_;have k011:Ch [r.gD] h h11:=Ch.trans (Ch.trans k09 k10 (fun j hj _=>hj)) k11 (fun j hj hl=>by simp at hj; omega);have hz9:=k79.size;refine ⟨⟨p',l',c',eO es v⟩,dC f7 v ⟨p',l',c',eO es v⟩,rfl,rfl,⟨⟨_,m10.an k11 (by simp; omega),fun s y hy=>?_⟩,fun s y hy=>?_⟩,cy _ _ _,fun s y hy=>?_,fun s y hy=>?_,k011⟩
     ·by_cases hsv:s=v
      ·subst hsv;rw [cy] at hy;have hy:=Xo hy;subst hy;exact vO ((s9.bM k10 (fun i hi=>by have:=(s9.cj hi).1; simp; omega)).bM k11 (fun i hi=>by have:=(s9.cj hi).1; simp; omega))
      ·rw [bX _ _ hsv] at hy;exact ((m9.fm s y hy).an k10 (fun i hi=>by have:=(hblk s y hy i hi).2.2; simpa using this)).an k11 (fun i hi=>by have:=(hblk s y hy i hi).2.1; simpa using this)
     ·by_cases hsv:s=v
      ·subst hsv;rw [cy] at hy;have hy:=Xo hy;subst hy;refine ⟨hv,rfl,fun i hi=>?_⟩
       have:=s9.cj hi
       omega
      ·rw [bX _ _ hsv] at hy;obtain ⟨a,b,c⟩:=dn7.of s y hy;refine ⟨a,b,fun i hi=>?_⟩
       have:=c i hi
       omega
     ·have hne:s≠v:=fun e=>by rw [e,hy0] at hy; cases hy
      rw [bX _ _ hne];exact sb7 s y hy
     ·by_cases hsv:s=v
      ·subst hsv;rw [cy] at hy;have hy:=Xo hy;subst hy;refine .inr fun i hi=>?_
       have:=s9.cj hi
       omega
      ·rw [bX _ _ hsv] at hy;rcases na7 s y hy with h | h
       ·exact .inl h
       ·refine .inr fun i hi=>?_
        have:=h i hi
        omega
def lM {P:Program} {h:Hp} {L:Lp} {K:ZB->Hp->Prop} {k:ZC->Nat->Nat->T} {t ty e:TypeId} {z:ZB} {sz by':Nat} (ht:P.underlying t=some (.slice e)) (hinf:(P.info? e).map (fun i=>(i.zero,i.size,i.bytes))=some (some z,sz,by'))
  (hzs:z.cells.size=sz) {p:ZC} {l c:Nat} {ys:List (List ZB)} (hsrc:(p=none/\ys=[])\/∃ a,p=some a/\aJ h a 0 ys.flatten) (hl:l=ys.length) (hys:∀ y,y∈ys->y.length=sz) (hpl:ys.flatten.all cX=true) (hby:(2*l+1024)*by'<=2^48) (hlm:l<=2^48)
  (hk:∀ p' c' h',SL h' h.size e sz p' l c' ys->Ext h h'->k p' l c' L K h') :
  T.ek P (Instr.buildSlice t 0 #[]) false [(false,[.slice 0])] (fun q m cc=>T.ek P (Builtin.append_ #[t,t] ty #[.slice q m cc,.slice p l c]) false [(false,[.slice 0])] k) L K h:=by
 obtain ⟨i,hi,hz,rfl,rfl⟩:=ou hinf;refine dt ?_;unfold Instr.buildSlice;rw [ar,aF ht];simp only;rw [ar,bS hi,cE hi];rw [W6 ad,Xb ad];simp only [Nat.zero_mul,pure_bind];have hf:∀ (f:Nat->Option (Nat × Nat)) (b:Array ZB),Instr.fill f b []=some b:=fun f b=>rfl
 have hb:Array.map (fun x=>(#[]:Array ZB)[x % (#[]:Array ZB).size]!) (Array.range 0)=#[]:=aj
 rw [hf,hb];show ∃ p1 l1 c1,_/\_
 refine ⟨_,_,_,rfl,?_⟩;have s1:SL (h.push (.cells #[] e)) h.size e i.size (some ⟨h.size,0,none⟩) 0 0 []:=⟨rfl,aj,h.size,[],[],rfl,Xk _,ad,bH.new h e [],aj⟩
 have e1:Ext h (h.push (.cells #[] e)):=Ext.push _ _;refine dt ?_;rcases hsrc with ⟨rfl,rfl⟩ | ⟨a,rfl,hc⟩
 ·have hl0:l=0:=hl;subst hl0;simp [Builtin.append_,ar,aF ht,bS hi,Builtin.lenOf,Builtin.firstCells,storeCells];exact ⟨_,_,_,rfl,hk _ _ _ s1 e1⟩
 ·have:=nZ (P:=P) (h:=h.push (.cells #[] e)) (K:=fun v h'=>∃ p l c,v=.slice p l c/\k p l c L K h') (ty:=ty) (ys:=ys) ht hi hz hzs s1 hl hys (aX e1 aj _ _ hc) hpl (by simpa using hby) (by simpa using hlm) aj (cc:=c) ?_
  ·exact this
  ·intro p' c' h2 s2 c2 hp';rw [XK,Yr] at *;exact ⟨p',l,c',rfl,hk p' c' h2 s2 (Ch.trans e1 c2 fun j hj hl=>by simp [aP] at hj; omega)⟩
def Hn {h:Hp} {p:ZC} {l:Nat} {us:da} (v:gK h p l us):(p=none/\us.map dc=[])\/∃ a,p=some a/\aJ h a 0 (us.map dc).flatten:=by
 cases p with
 | none =>
  left
  refine ⟨rfl,?_⟩;cases us with
  | nil=>rfl
  | cons u us =>
   obtain ⟨a,ha,_⟩:=v.cells 0 aj;cases ha
 | some a=>exact .inr ⟨a,rfl,v.flat⟩
def MC (us:da):∀ y,y∈us.map dc->y.length=2:=by
 intro y hy;obtain ⟨u,_,rfl⟩:=Xd.1 hy;rfl
def FA {h:Hp} {p:ZC} {l c:Nat} {us:da} (v:gK h p l us) (hl:us.length<=2^40) :
  HC Tryz.prog 42 #[.slice p l c] h fun w h'=>(∃ p' l' c',w=.slice p' l' c'/\SL h' h.size 117 2 p' l' c' (us.map dc))/\Ext h h':=by
 refine bd (args:=[.slice p l c]) mixed Tryz.func42 az (fO p l c) ?_;unfold dY bm bi;have hll:=v.len;cases p with
 | none =>
  rcases Hn v with ⟨_,h2⟩ | ⟨a,ha,_⟩
  ·refine bn rfl ?_;refine ⟨⟨none,0,0,rfl,?_⟩,Ch.refl _ _⟩;rw [h2];exact SL.nil _ _ _ _
  ·cases ha
 | some a =>
  refine bJ rfl ?_;refine lM (e:=117) (z:=.agg #[.string ⟨#[]⟩,.int .u32 0]) (sz:=2) (by':=24) yK sD rfl (Hn v) (by simpa using hll) (MC us) (F' us) ad ad ?_;intro p' c' h' s' e';exact ⟨⟨p',l,c',rfl,s'⟩,e'⟩
structure qt (h:Hp) (b:Nat) (p:ZC) (l c:Nat) (ms:List cI):Prop where
 out:SL h b 100 3 p l c (ms.map yZ)
 fm:∀ m,m∈ms->SL h b 117 2 m.p m.l m.c (m.x.ai.map dc)
 ap:ms.Pairwise fun x y=>∀ i,i∈aP x.p->∀ j,j∈aP y.p->i<j
 dj:∀ m,m∈ms->∀ j,j∈aP m.p->j∉aP p
def qt.an {ws:List Nat} {h h':Hp} {b:Nat} {p:ZC} {l c:Nat} {ms:List cI} (o:qt h b p l c ms) (k:Ch ws h h') (hw:∀ i,i∈ws->i<b\/h.size<=i):qt h' b p l c ms :=
 ⟨o.out.bM k (fun i hi h=>by have:=o.out.cj hi; have:=hw i h; omega),fun m hm=>(o.fm m hm).bM k (fun i hi h=>by have:=(o.fm m hm).cj hi; have:=hw i h; omega),o.ap,o.dj⟩
def B3 {h:Hp} {b:Nat} {p:ZC} {l c:Nat} {ms:List cI} (o:qt h b p l c ms):tk h p l ms :=
 ⟨by rw [o.out.1,W3],fun i hi=>by
  obtain ⟨a,ha,hc⟩:=o.out.cells (i:=i) (by simpa using hi);rw [Xc] at hc;exact ⟨a,ha,hc⟩,fun m hm=>vO (o.fm m hm)⟩
def Bo:Tryz.prog.underlying 44=some (.slice 100):=az
def JO:(Tryz.prog.info? 100).map (fun i=>(i.zero,i.size,i.bytes))=some (some (.agg #[.string ⟨#[]⟩,.slice none 0 0,.int .u32 0]),3,48):=az
def qt.push {h h1:Hp} {b:Nat} {p p':ZC} {l l' c c':Nat} {ms:List cI} (o:qt h b p l c ms) {m:cI} (hm:SL h b 117 2 m.p m.l m.c (m.x.ai.map dc)) (hnew:∀ i,i∈aP m.p->(∀ y,y∈ms->∀ j,j∈aP y.p->j<i)/\i∉aP p)
  (s':SL h1 b 100 3 p' l' c' ((ms++[m]).map yZ)) (k:Ch (aP p) h h1) (hp:∀ i,i∈aP p'->i∈aP p\/h.size<=i):qt h1 b p' l' c' (ms++[m]):=by
 have hdj:∀ y,y∈ms++[m]->∀ j,j∈aP y.p->j∉aP p/\j<h.size:=by
  intro y hy j hj;rcases Xl.1 hy with h | h
  ·exact ⟨o.dj y h j hj,((o.fm y h).cj hj).2⟩
  ·rw [Xm.1 h] at hj;exact ⟨(hnew j hj).2,(hm.cj hj).2⟩
 refine ⟨s',fun y hy=>?_,?_,fun y hy j hj hp'=>?_⟩
 ·have hb:=hdj y hy;rcases Xl.1 hy with h | h
  ·exact (o.fm y h).bM k fun i hi=>(hb i hi).1
  ·have h:=Xm.1 h;subst h;exact hm.bM k fun i hi=>(hb i hi).1
 ·rw [List.pairwise_append];refine ⟨o.ap,List.pairwise_singleton _ _,fun y hy z hz i hi j hj=>?_⟩;rw [Xm.1 hz] at hj;exact (hnew j hj).1 y hy i hi
 ·have:=hdj y hy j hj
  rcases hp j hp' with h | h
  ·exact this.1 h
  ·omega
structure Wc (r:SF) (es:List cI) (i:Nat) (p:ZC) (l c:Nat) (f:ZA->Option qT) (ms:List cI) (h:Hp):Prop where
 dn:RE r h es f
 own:qt h (r.V+1) p l c ms
 ms:ms.map (fun m=>(m.name,m.x))=(es.take i).map (fun e=>(e.name,eO es e.name))
 dd:∀ s y,f s=some y->∀ j,j∈aP y.p->j∉aP p
def RQ (es:List cI) (h:Hp) (w:ZB) (h':Hp):Prop :=
 (∃ i,∃ hi:i<es.length,j6 (dl es) es[i].name/\(∀ j,(hj:j<i)->¬ j6 (dl es) es[j].name)/\w=.tuple #[.slice none 0 0,.int .i64 (i:Int),.int .i64 24]) \/
 ((∀ v,¬ j6 (dl es) v)/\∃ p' l' c' ms,w=.tuple #[.slice p' l' c',.int .i64 0,.int .i64 0]/\qt h' h.size p' l' c' ms/\ms.map (fun m=>(m.name,m.x))=es.map (fun e=>(e.name,eO es e.name)))
abbrev UU:List fE:=[(false,[.slice 0]),(false,[.int .i64]),(false,[.int .i64]),(false,[.int .i64])]
def EE {h:Hp} {p:ZC} {l c:Nat} {es:List cI} (v:tk h p l es) (eo:sN es) (hp:∀ i,i∈aP p->i<h.size) (hlen:es.length<=2^20) :
  HC Tryz.prog 37 #[.slice p l c] h fun w h'=>RQ es h w h'/\Ext h h':=by
 refine bd (args:=[.slice p l c]) mixed Tryz.func37 az (Al p l c) ?_;unfold xe bf bh bG aQ bK dr bm bR aH br bi bT aR dh;have hown:=ec es;have hll:=v.len;refine bk ?_;intro h1 b1 e1 z1;refine af b1 ((p,l,c),()) rfl (ao ?_);refine aK (G4 (c:=c) (v.an e1) eo.toEqsOk (fun i hi=>by have:=hp i hi; omega)) ?_;rintro _ h2 ⟨⟨g,n,rfl,mB,hg⟩,e2⟩;refine ⟨(some g,()),rfl,ao ?_⟩;have hback:=GK (succ:=cJ (de es)) eo.nodup (fun s=>(hown s).1);generalize (FF (ct es) (cJ (de es)) (aZ es)).back=back at mB hback;have b2:=b1.an e2 aj;have e02:=e1.trans e2;refine af b2 ((p,l,c),()) rfl (ao ?_);refine aU (cs:=UU) (fun x w h'=>∃ i:Nat,x.2.2.2.1=(i:Int)/\i<=es.length/\w=es.length-i/\(∀ j,(hj:j<i)->∀ hl:j<es.length,¬ j6 (dl es) es[j].name)/\Ext h2 h') ((none,0,0),(0:Int),(0:Int),(0:Int),()) es.length rfl ⟨0,rfl,ad,ad,fun j hj=>ad,Ch.refl _ _⟩ ?_;rintro ⟨⟨p9,l10,l11⟩,n12,n13,n14,⟨⟩⟩ w h3 ⟨i,hi,hile,rfl,hno,e3⟩;simp only at hi;subst hi;refine ao ?_;have e03:=e02.trans e3;refine ak (fun g1=>?_) (fun g1=>?_)
 ·have g1:=W2 g1;have hilt:i<es.length:=ad
  refine ay ⟨ad,ad⟩ ?_;obtain ⟨a,ha,hc⟩:=(v.an e03).cells i hilt;refine ax ha ?_;rw [show Int.toNat (i:Int)=i from ad];have hes:∀ s,j6 (dl es) es[i].name↔j6 (dl es) es[i].name:=fun s=>Iff.rfl
  generalize hee:es[i]=e at hc hes;refine aC (e.name,(e.p,e.l,e.c),(e.x.num:Int),()) hc (ao ?_);refine bk ?_;intro h4 b4 e4 z4;refine aw b4 rfl aj ?_;intro h5 b5 k5 z5;have b5:bH h5 h3.size 100 [.string e.name,.slice e.p e.l e.c,.int .u32 e.x.num]:=b5;have e35:Ext h3 h5:=Ch.trans e4 k5 (fun j hj hl=>by simp at hj; omega);refine af b5 (e.name,()) rfl (ao ?_);refine L7 ((mB.an e3 aj).an e35 aj) e.name ?_;refine ak (fun g2=>?_) (fun g2=>?_)
  ·have g2:(back e.name).getD false=true:=g2;refine ⟨.inl ⟨i,hilt,?_,fun j hj=>hno j hj ad,rfl⟩,e03.trans e35⟩;rw [hee];exact (hback _).1 g2
  ·have g2:(back e.name).getD false=false:=g2;have hw:IntKind.wrap .i64 ((i:Int)+1)=((i+1:Nat):Int):=by rw [wrap_i64 ad ad]; omega
   refine aI (cs:=UU) ((p9,l10,l11),n12,n13,((i+1:Nat):Int),()) (es.length-(i+1)) rfl ad (by rw [hw]; rfl) ⟨i+1,rfl,ad,rfl,fun j hj hl=>?_,e3.trans e35⟩
   by_cases hji:j=i
   ·subst hji;rw [hee];intro hc
    have:=(hback _).2 hc
    rw [g2] at this; cases this
   ·exact hno j ad hl
 ·have g1:=W4 g1;have hc:∀ v,¬ j6 (dl es) v:=by
   intro s hs;obtain ⟨j,hj,hjs⟩:=Xw ((hown s).1 hs.QO);have hj':j<es.length:=by simpa [aZ] using hj
   have:es[j].name=s:=by rw [<- hjs]; simp [aZ]
   exact hno j ad hj' (by rw [this]; exact hs)
  have b3:=b2.an e3 aj;refine af b3 ((p,l,c),()) rfl (ao ?_);refine aK (zh (v.an e03) eo.len eo.nodup eo.sz) ?_;rintro _ h4 ⟨⟨gA,rfl,mA,hgA⟩,e4⟩;refine ⟨(some gA,()),rfl,ao ?_⟩;have hgA4:=mA.lt;refine bk ?_;intro h5 b5 e5 z5;refine aw b5 rfl aj ?_;intro h6 b6 k6 z6;have b6:bH h6 h4.size 89 [.map (some gA)]:=b6;have e46:Ext h4 h6:=Ch.trans e5 k6 (fun j hj hl=>by simp at hj; omega);refine xR (en:=eL) ?_;intro h7 m7 e7 z7;refine bk ?_;intro h8 b8 e8 z8;refine aw b8 rfl aj ?_;intro h9 b9 k9 z9;have b9:bH h9 h7.size 149 [.map (some h6.size)]:=b9;have e79:Ext h7 h9:=Ch.trans e8 k9 (fun j hj hl=>by simp at hj; omega);refine bk ?_;intro h10 b10 e10 z10;refine aw b10 rfl aj ?_;intro h11 b11 k11 z11;have e911:Ext h9 h11:=Ch.trans e10 k11 (fun j hj hl=>by simp at hj; omega);have e711:=e79.trans e911;have e611:=e7.trans e711;have e411:=e46.trans e611;have e011:=(e03.trans e4).trans e411;have hz4:=e4.size;have hz3:=e3.size;have hz2:=e2.size;generalize hr:(⟨h.size,gA,h4.size,h6.size,h7.size,h9.size⟩:SF)=r;have ho:r.ord:=by
   subst hr;unfold SF.ord;dsimp only;omega
  have hrE:r.E=h.size:=by subst hr; rfl
  have hrV:r.V+1=h11.size:=by subst hr; dsimp only; omega
  have hrV':r.V=h9.size:=by subst hr; rfl
  have hrD:r.gD=h6.size:=by subst hr; rfl
  have co:TJ r h11 es p l c:=by
   subst hr;exact ⟨(b3.an (e4.trans e411) aj),b6.an e611 aj,⟨_,mA.an e411 aj⟩,b11,b9.an e911 aj,v.an e011⟩
  have dn:RE r h11 es (fun _=>none):=⟨⟨0,(by rw [hrD]; exact m7.an e711 aj),fun s y hy=>by cases hy⟩,fun s y hy=>by cases hy⟩
  have lo:We r es p:=⟨ho,fun i hi=>by rw [hrE]; exact hp i hi,fun e he hne i hi=>by rw [hrE]; exact (v.fm e he).Tw hne i hi⟩
  have o':=ho;unfold SF.ord at o';rw [show (⟨h.size,0,none⟩:Zx)=bx r.E by rw [hrE],show (⟨h9.size,0,none⟩:Zx)=bx r.V by rw [hrV']];refine af co.bE ((p,l,c),()) rfl (ao ?_);refine aU (cs:=[(false,[.slice 0]),(false,[.int .i64])]) (fun x w h'=>∃ (i:Nat) (p':ZC) (l' c':Nat) (f:ZA->Option qT) (ms:List cI),x.1=(p',l',c')/\x.2.1=(i:Int)/\i<=es.length/\w=es.length-i/\Wc r es i p' l' c' f ms h'/\Ch [r.gD] h11 h')
   ((none,0,0),(0:Int),()) es.length rfl ⟨0,none,0,0,_,[],rfl,rfl,ad,ad,⟨dn,⟨SL.nil _ _ _ _,aj,List.Pairwise.nil,aj⟩,rfl,fun s y hy=>by cases hy⟩,Ch.refl _ _⟩ ?_
  rintro ⟨⟨p26,l27,l28⟩,n29,⟨⟩⟩ w h12 ⟨i,p',l',c',f,ms,hx,hi,hile,rfl,si,k12⟩;simp only at hx hi;obtain ⟨rfl,rfl,rfl⟩:=hx;subst hi;refine ao ?_;have co12:=co.an lo k12;have hz12:=k12.size;have hmsl:ms.length=i:=by have:=Xj List.length si.ms; simp at this; omega
  refine ak (fun g2=>?_) (fun g2=>?_)
  ·have g2:=W2 g2;have hilt:i<es.length:=ad
   refine ay ⟨ad,ad⟩ ?_;obtain ⟨a,ha,hcc⟩:=co12.vw.cells i hilt;refine ax ha ?_;rw [show Int.toNat (i:Int)=i from ad];have htk:es.take (i+1)=es.take i++[es[i]]:=W7 hilt;have hmem:es[i].name∈aZ es:=Xp (Xe hilt);generalize es[i]=e at hcc htk hmem;refine aC (e.name,(e.p,e.l,e.c),(e.x.num:Int),()) hcc (ao ?_);refine bk ?_;intro h13 b13 e13 z13;refine aw b13 rfl aj ?_;intro h14 b14 k14 z14;have b14:bH h14 h12.size 100 [.string e.name,.slice e.p e.l e.c,.int .u32 e.x.num]:=b14;have e1214:Ext h12 h14:=Ch.trans e13 k14 (fun j hj hl=>by simp at hj; omega);have co14:=co12.an lo (e1214.mono aj);have dn14:=si.dn.ext e1214;have own14:=si.own.an e1214 aj;refine af co14.bV (.func (.func 65) #[] r.sV.toArray,()) rfl (ao ?_);refine af b14 (e.name,()) rfl (ao ?_);refine qL (cap:=r.sV) R0 rfl (Lx eo lo hc (aZ es).length e.name (GS hown hc hmem) hmem h14 f co14 dn14) ?_;rintro _ h15 ⟨y,f15,rfl,hyx,dn15,hfy,sb15,na15,k15⟩;refine ⟨((y.p,y.l,y.c),(y.x.num:Int),()),rfl,ao ?_⟩;have own15:=own14.an k15 (fun i hi=>.inl (by simp at hi; omega));have co15:=co14.an lo k15;have hz15:=k15.size;have b15:=b14.an k15 (by simp; omega);obtain ⟨n15,m15⟩:=dn15.map;have hyv:=m15.fm _ y hfy;refine bk ?_;intro h16 b16 e16 z16;refine aw b16 rfl aj ?_;intro h17 b17 k17 z17;have b17:bH h17 h15.size 69 [.slice y.p y.l y.c,.int .u32 (y.x.num:Int)]:=b17;have e1517:Ext h15 h17:=Ch.trans e16 k17 (fun j hj hl=>by simp at hj; omega);have b1417:=b15.an e1517 aj;refine af b1417 (e.name,()) rfl (ao ?_);refine af b17 ((y.p,y.l,y.c),()) rfl (ao ?_);rw [aG];refine af b17 ((y.x.num:Int),()) rfl (ao ?_);have hyl:y.x.ai.length<=2^20:=by rw [hyx]; exact eo.Da hc hmem
   refine aK (FA (c:=y.c) (hyv.an e1517 aj) ad) ?_;rintro _ h18 ⟨⟨pc,lc,cc,rfl,sc⟩,e18⟩;refine ⟨((pc,lc,cc),()),rfl,ao ?_⟩;have e1518:=e1517.trans e18;have own18:=own15.an e1518 aj;have b1418:=b1417.an e18 aj;have b1718:=b17.an e18 aj;have dn18:=dn15.ext e1518;have hz17:=e1517.size;have hz18:=e18.size;have stB:∀ h',bH h' h12.size 100 [.string e.name,.slice e.p e.l e.c,.int .u32 e.x.num]->bH h' h15.size 69 [.slice y.p y.l y.c,.int .u32 (y.x.num:Int)]->T.C6 h' [(⟨h15.size,0+1,none⟩,[.int .u32 (y.x.num:Int)]),(⟨h15.size,0,none⟩,[.slice y.p y.l y.c]),(⟨h12.size,0,none⟩,[.string e.name])] :=
    fun h' b1 b2=>⟨b2.cells _ rfl,b2.cells _ rfl,b1.cells _ rfl,trivial⟩
   refine ⟨⟨b1718.cells _ rfl,b1418.cells _ rfl,trivial⟩,?_⟩;have hol:l27=ms.length:=by rw [si.own.out.1,W3]
   refine gI (vs:=yZ ⟨e.name,pc,lc,cc,y.x⟩) Bo JO rfl ad ad az rfl rfl own18.out ad ad ad (fun h' ex=>stB h' (b1418.an ex aj) (b1718.an ex aj)) ?_;intro p' c' h19 s19 k19 hp19;have hbb:∀ j,j∈aP p26->r.V<j/\j<h12.size:=fun j hj=>by have:=si.own.out.cj hj; omega
   refine ⟨stB h19 (b1418.an k19 (fun hj=>by have:=hbb _ hj; omega)) (b1718.an k19 (fun hj=>by have:=hbb _ hj; omega)),?_⟩;have hw:IntKind.wrap .i64 ((i:Int)+1)=((i+1:Nat):Int):=by rw [wrap_i64 ad ad]; omega
   have hp19':∀ j,j∈aP p'->j∈aP p26\/h18.size<=j:=by
    intro j hj;rcases hp19 with h | ⟨a,h,hle⟩
    ·rw [h] at hj; exact .inl hj
    ·rw [h] at hj; simp [aP] at hj; subst hj; exact .inr hle
   refine aI (cs:=[(false,[.slice 0]),(false,[.int .i64])]) ((p',l27+1,c'),((i+1:Nat):Int),()) (es.length-(i+1)) rfl ad (by rw [hw]; rfl)
    ⟨i+1,p',l27+1,c',f15,ms++[⟨e.name,pc,lc,cc,y.x⟩],rfl,rfl,ad,rfl,⟨?_,?_,?_,fun s z hz j hj hjp=>?_⟩,?_⟩
   ·obtain ⟨n18,m18⟩:=dn18.map;refine ⟨⟨n18,m18.an k19 (fun hj=>by have:=hbb _ hj; omega) (fun s z hz j hj=>?_)⟩,fun s z hz=>?_⟩
    ·rcases na15 s z hz with h | h
     ·exact si.dd s z h j hj
     ·intro hjp
      have:=h j hj
      have:=hbb j hjp
      have:=e1214.size
      omega
    ·obtain ⟨a,b,c⟩:=dn18.of s z hz;refine ⟨a,b,fun i hi=>?_⟩
     have:=c i hi
     have:=k19.size
     omega
   ·refine own18.push (m:=⟨e.name,pc,lc,cc,y.x⟩) (sc.mono ad) (fun j hj=>?_) (by simpa using s19) k19 hp19';have hj2:=sc.cj hj;refine ⟨fun z hz k hk=>?_,fun hjp=>?_⟩
    ·have:=((own15.fm z hz).cj hk).2
     omega
    ·have:=hbb j hjp
     have:=e1214.size
     omega
   ·rw [Xf,si.ms,htk,Xf];show _++[(e.name,y.x)]=_;rw [hyx] <;> rfl
   ·rcases hp19' j hjp with h | h
    ·rcases na15 s z hz with k | k
     ·exact si.dd s z k j hj h
     ·have:=k j hj
      have:=hbb j h
      have:=e1214.size
      omega
    ·have:=((dn18.of s z hz).2.2 j hj).2
     omega
   ·refine Ch.trans (Ch.trans (Ch.trans (Ch.trans k12 e1214 aj) k15 (fun j hj _=>hj)) e1518 aj) k19 (fun j hj hl=>?_)
    have:=(si.own.out.cj hj).1
    omega
  ·have g2:=W4 g2;have htk:es.take i=es:=XD ad;have hms:=si.ms;rw [htk] at hms;have hr11:=e011.size;refine ⟨.inr ⟨hc,p26,l27,l28,ms,rfl,⟨si.own.out.mono ad,fun m hm=>(si.own.fm m hm).mono ad,si.own.ap,si.own.dj⟩,hms⟩,Ch.trans e011 k12 (fun j hj hl=>?_)⟩;simp at hj;omega
def wH (es:List cI) (s:ZA):Option qT:=((j8 es s).bind fun k=>es[k]?).map fun e=>⟨e.p,e.l,e.c,e.x⟩
def wR {es:List cI} {s:ZA} {y:qT} (h:wH es s=some y):∃ e,e∈es/\e.name=s/\y=⟨e.p,e.l,e.c,e.x⟩/\de es s=e.x:=by
 unfold wH at h;cases hp:j8 es s with
 | none=>rw [hp] at h; cases h
 | some k =>
  obtain ⟨hk,h1,h2⟩:=nU hp;rw [hp,Yl,W5 hk] at h;exact ⟨_,Xe hk,h1,(Xo h).symm,h2⟩
def I2 {es:List cI} {e:cI} (hn:∀ d,d∈es->d.name≠e.name):wH (es++[e])=dC (wH es) e.name ⟨e.p,e.l,e.c,e.x⟩:=by
 funext s
 unfold wH;rw [EL hn]
 by_cases h:s=e.name
 ·subst h;rw [cy,cy,Yl,XC ad]
  simp
 ·rw [bX _ _ h,bX _ _ h];cases hp:j8 es s with
  | none=>rfl
  | some k =>
   obtain ⟨hk,_,_⟩:=nU hp;rw [Yl,Yl,XG hk]
def cr (es:List cI) (s:ZA):Option cm:=if ct es s=true then some (de es s) else none
def SG (es:List cI):(fun s=>(wH es s).map (·.x))=cr es:=by
 funext s
 unfold cr ct;cases hp:j8 es s with
 | none=>simp [wH,hp]
 | some k =>
  obtain ⟨hk,_,h2⟩:=nU hp;simp only [Option.isSome_some,if_true];rw [h2];unfold wH;rw [hp,Yl,W5 hk] <;> rfl
def Ly {h:Hp} {p:ZC} {l c:Nat} {x:cm} (v:gK h p l x.ai) {q:ZC} {m d:Nat} {es:List cI} (u:tk h q m es) (eo:EqsOk es) (het:∀ e,e∈es->e.x.ai.length<=2^20) (htot:(es.flatMap (·.x.ai)).length<=2^39) (hlen:es.length<=2^20) (hxl:x.ai.length<=2^20) (hxs:∀ t,t∈x.ai->t.1.size<=maxLen) :
  HC Tryz.prog 38 #[iA p l c x,.slice q m d] h fun w h'=>(∃ p' l' c',w=iA p' l' c' (lS (db (cr es) x) tD)/\SL h' h.size 117 2 p' l' c' ((lS (db (cr es) x) tD).ai.map dc))/\Ext h h':=by
 refine bd (args:=[iA p l c x,.slice q m d]) mixed Tryz.func38 az (CU p l c x.num q m d) ?_;unfold BM bf bh bG aQ bK bR aH bi bT aR;have hll:=u.len;refine bk ?_;intro h1 b1 e1 z1;refine bk ?_;intro h2 b2 e2 z2;refine xR (en:=eL) ?_;intro h3 m3 e3 z3;have b13:=(b1.an e2 aj).an e3 aj;have b23:=b2.an e3 aj;have e03:=(e1.trans e2).trans e3;refine aU (cs:=[(false,[.int .i64])]) (fun y w h'=>∃ (i:Nat) (n:Nat),y.1=(i:Int)/\i<=es.length/\w=es.length-i/\dP eL h' h2.size (wH (es.take i)) n/\Ch [h2.size] h3 h') ((0:Int),()) es.length rfl
  ⟨0,0,rfl,ad,ad,m3,Ch.refl _ _⟩ ?_
 rintro ⟨n5,⟨⟩⟩ w h4 ⟨i,n,hi,hile,rfl,m4,k4⟩;simp only at hi;subst hi;refine ao ?_;have e04:Ext h h4:=Ch.trans e03 k4 (fun j hj hl=>by simp at hj; omega);have hz4:=k4.size;refine ak (fun g1=>?_) (fun g1=>?_)
 ·have g1:=W2 g1;have hilt:i<es.length:=ad
  refine ay ⟨ad,ad⟩ ?_;obtain ⟨a,ha,hc⟩:=(u.an e04).cells i hilt;refine ax ha ?_;rw [show Int.toNat (i:Int)=i from ad];have htk:es.take (i+1)=es.take i++[es[i]]:=W7 hilt;have hsz:=eo.sz es[i] (Xe hilt);have hnd:∀ d,d∈es.take i->d.name≠es[i].name:=by
   intro d hd he;obtain ⟨j,hj,rfl⟩:=Xw hd;rw [Xr] at hj;rw [List.getElem_take] at he;have hn:(es.map (·.name)).Nodup:=eo.nodup;exact YQ.1 hn j i (by rw [W3]; omega) (by rw [W3]; omega) ad (by simpa using he)
  generalize es[i]=e at hc htk hsz hnd;refine aC (e.name,(e.p,e.l,e.c),(e.x.num:Int),()) hc (ao ?_);refine bk ?_;intro h5 b5 e5 z5;refine aw b5 rfl aj ?_;intro h6 b6 k6 z6;have b6:bH h6 h4.size 100 [.string e.name,.slice e.p e.l e.c,.int .u32 e.x.num]:=b6;have e46:Ext h4 h6:=Ch.trans e5 k6 (fun j hj hl=>by simp at hj; omega);refine af b6 (e.name,()) rfl (ao ?_);rw [aG];refine af b6 ((e.p,e.l,e.c),(e.x.num:Int),()) rfl (ao ?_);refine K7 (m4.an e46 aj) hsz ⟨e.p,e.l,e.c,e.x⟩ ?_;intro h7 m7 k7 z7;have hw:IntKind.wrap .i64 ((i:Int)+1)=((i+1:Nat):Int):=by rw [wrap_i64 ad ad]; omega
  refine aI (cs:=[(false,[.int .i64])]) (((i+1:Nat):Int),()) (es.length-(i+1)) rfl ad (Xj (fun z=>[Value.int .i64 z]) hw) ⟨i+1,_,rfl,ad,rfl,by rw [htk,I2 hnd]; exact m7,Ch.trans (Ch.trans k4 e46 aj) k7 (fun j hj _=>hj)⟩
 ·have g1:=W4 g1;have hii:es.take i=es:=XD ad;rw [hii] at m4;have b14:=b13.an k4 (by simp; omega);have b24:=b23.an k4 (by simp; omega);refine af b14 ((p,l,c),(x.num:Int),()) rfl (ao ?_);have mL:Gf h4 h2.size (wH es) n:=⟨m4,fun s y hy=>by
   obtain ⟨e,he,_,rfl,_⟩:=wR hy;exact (u.fm e he).an e04 aj⟩
  have hlens:∀ s y,wH es s=some y->y.x.ai.length<=2^20:=fun s y hy=>by
   obtain ⟨e,he,_,rfl,_⟩:=wR hy;exact het e he
  have hz0:=e04.size
  refine aK (DU (c:=c) (v.an e04 aj) mL ad hxs (fun s y hy=>⟨by have:=hlens s y hy; omega,by
    obtain ⟨e,he,_,rfl,_⟩:=wR hy;exact eo.ts e he⟩) ?_) ?_
  ·have:=pz (of:=fun s=>(wH es s).map (·.x)) (B:=2^20) ad (fun s y hy=>by
    cases hh:wH es s with
    | none=>simp only [hh] at hy; cases hy
    | some z =>
     simp only [hh,Option.map_some,Option.some.injEq] at hy;rw [<- hy]; exact hlens s z hh) x.ai
   exact XV this (XV (Ye _ hxl) cn)
  ·rintro _ h5 ⟨⟨p5,l5,c5,rfl,s5⟩,e5⟩;rw [SG] at s5 ⊢;have hlp:(db (cr es) x).ai.length<=2^40:=by
    have hn:=eM (cr es) x;have h1:((db (cr es) x).ai.map (·.1)).Nodup:=X5.2 (hn.1.imp fun h=>j7 h);have h2:=kS ((db (cr es) x).ai.map (·.1)) ((x.ai++es.flatMap (·.x.ai)).map (·.1)) h1 (fun s hs=>by
     obtain ⟨t,ht,rfl⟩:=Xd.1 hs;rcases rE ht with ⟨p,hp,e,_⟩ | ⟨p,y,u,hp,ho,hu,e⟩
     ·rw [<- e]; exact Xp (Xy _ hp)
     ·rw [<- e];refine Xp (XF _ ?_);unfold cr at ho
      by_cases hw:ct es p.1=true
      ·rw [Xb hw] at ho;obtain ⟨d,hd,_,hx⟩:=lF ((ec es _).1 hw);have ho:=Xo ho;rw [<- ho,hx] at hu;exact Y9.2 ⟨d,hd,hu⟩
      ·rw [W6 hw] at ho; cases ho)
    rw [W3,W3,W8] at h2;omega
   refine ⟨((p5,l5,c5),((db (cr es) x).num:Int),()),rfl,ao ?_⟩;have hsz5:∀ t,t∈(db (cr es) x).ai->t.1.size<=maxLen:=by
    intro t ht;rcases rE ht with ⟨p,hp,e,_⟩ | ⟨p,y,u,hp,ho,hu,e⟩
    ·rw [<- e]; exact hxs p hp
    ·unfold cr at ho
     by_cases hw:ct es p.1=true
     ·rw [Xb hw] at ho;obtain ⟨d,hd,_,hx⟩:=lF ((ec es _).1 hw);have ho:=Xo ho;rw [<- ho,hx] at hu;rw [<- e]; exact eo.ts d hd u hu
     ·rw [W6 hw] at ho; cases ho
   have ha:=R3 (h:=h5) (p:=p5) (q:=none) (l:=l5) (c:=c5) (m:=0) (d:=0) (x:=db (cr es) x) (y:=tD) (vO s5) ⟨rfl,fun i hi=>by simp [tD] at hi⟩ (fun i hi=>(s5.cj hi).2) (fun i hi=>by simp [aP] at hi) (by simpa [tD] using hlp) hsz5 (fun t ht=>by simp [tD] at ht);refine aK ha ?_;rintro _ h6 ⟨e6,p6,l6,c6,rfl,s6⟩;refine ⟨((p6,l6,c6),((lS (db (cr es) x) tD).num:Int),()),rfl,ao ?_⟩;have b6:=(b24.an e5 aj).an e6 aj;have hz5:=e5.size;refine aw b6 rfl aj ?_;intro h7 b7 k7 z7;have b7:bH h7 h1.size 69 [.slice p6 l6 c6,.int .u32 ((lS (db (cr es) x) tD).num:Int)]:=b7;refine af b7 ((p6,l6,c6),((lS (db (cr es) x) tD).num:Int),()) rfl ?_;have e06:=(e04.trans e5).trans e6;exact ⟨⟨p6,l6,c6,rfl,(s6.bM k7 (fun j hj=>by have:=(s6.cj hj).1; simp; omega)).mono ad⟩,Ch.trans e06 k7 (fun j hj hl=>by simp at hj; omega)⟩
def xy {x:cm} (h:Nf x.ai) (hn:x.num<4294967296):lS x tD=x:=by
 unfold lS tD;simp only [List.append_nil,Nat.add_zero,D4 h,Nat.mod_eq_of_lt hn]
end Go.Sx
namespace Go.Sx.Ob
open Go.Proofs
abbrev Ky:=Nat × ZA
def Og (k:Ky):ZB:=.agg #[.int .i64 (k.1:Int),.string k.2]
def Lt (b:Bool) (n:Int) (s:ZA) (h:Hp) (K:Unit->Hp->Prop):aS Tryz.prog (Instr.checkKey b 10000 105 (.agg #[.int .i64 n,.string s])) h K=K () h:=az
def La:Tryz.prog.underlying 105=some (.struct (Aw Tryz.prog 105)):=az
def R7:Tryz.prog.stoodInHeld 105=false:=az
def Ub (n m:Int) (s t:ZA):(Aw Tryz.prog 105).all (okF Tryz.prog #[.int .i64 n,.string s] #[.int .i64 m,.string t])=true:=az
def Tm (n m:Int) (s t:ZA):(Aw Tryz.prog 105).all (FJ #[.int .i64 n,.string s] #[.int .i64 m,.string t])=(n==m && (s==t && true)):=by
 rw [<- Yj]
 kernel_rfl
def Vy:AE Tryz.prog 105 Og where
 check b a h K hk:=by rw [show Og a=.agg #[.int .i64 (a.1:Int),.string a.2] from rfl,Lt]; exact hk
 kind:=⟨_,La,fun a b=>rfl⟩
 eqv a b h K hk:=by
  show aS Tryz.prog (Op.equal 105 (.agg #[.int .i64 (a.1:Int),.string a.2]) (.agg #[.int .i64 (b.1:Int),.string b.2])) h K;rw [pe La R7 (Ub _ _ _ _),Tm];have e:decide (a=b)=(((a.1:Nat):Int)==((b.1:Nat):Int) && (a.2==b.2 && true)):=by
   obtain ⟨a1,a2⟩:=a;obtain ⟨b1,b2⟩:=b;show decide ((a1,a2)=(b1,b2))=(((a1:Nat):Int)==((b1:Nat):Int) && (a2==b2 && true));rw [wh,Yk];simp only [Prod.mk.injEq]
   by_cases h1:a1=b1
   ·by_cases h2:a2=b2
    ·simp [h1,h2]
    ·simp [h1,h2]
   ·have:¬ ((a1:Nat):Int)=b1:=ad
    simp only [h1,false_and,decide_false]
    have:(((a1:Nat):Int)==((b1:Nat):Int))=false:=by simpa using this
    rw [this,Bool.false_and]
  rw [<- e];exact hk
 bits a:=by
  show ((2:Nat)==2 && _)=true;simp [Instr.sameBits,Og,wh]
 inj a b h:=by
  obtain ⟨a1,a2⟩:=a;obtain ⟨b1,b2⟩:=b;simp only [Og,Value.agg.injEq,Array.mk.injEq,List.cons.injEq,Value.int.injEq,Value.string.injEq,and_true,true_and] at h;rw [Prod.mk.injEq];exact ⟨ad,h.2⟩
def SL.part {P:Program} {L:Lp} {K:ZB->Hp->Prop} {k:T} {h:Hp} {b:Nat} {e:TypeId} {sz:Nat} {p:ZC} {l c:Nat} {xs:List (List ZB)} (s:SL h b e sz p l c xs) {i:Nat} (hi:i<xs.length) {vs:List ZB} {o:Nat} (ho:o+vs.length<=sz)
  (hp:vs.all cX=true) {a:Zx} (ha:p=some a) (hk:∀ h',SL h' b e sz p l c (xs.set i (la xs[i] o vs))->Ch (aP p) h h'->h'.size=h.size->k L K h'):T.aE ((a.add (i*sz)).add o) vs k L K h:=by
 subst ha;obtain ⟨g,pre,rest,rfl,hbg,hlc,hbox,hr⟩:=s.2.2;have hxl:xs[i].length=sz:=s.2.1 _ (Xe hi);have hx:(xs.take i).flatten.length=i*sz:=by
  rw [eR _ (fun x hx=>s.2.1 x (X9 hx)),Xr,Yc ad]
 have hs:xs[i]=xs[i].take o++((xs[i].drop o).take vs.length++xs[i].drop (o+vs.length)):=by
  rw [<- List.drop_drop,XN,XN]
 have e0:xs.flatten=(xs.take i).flatten++(xs[i]++(xs.drop (i+1)).flatten):=by
  conv=>lhs; rw [<- XN i xs,Xi hi]
  rw [List.flatten_append,YF]
 have e1:pre++(xs.flatten++rest)=(pre++(xs.take i).flatten++xs[i].take o)++((xs[i].drop o).take vs.length++(xs[i].drop (o+vs.length)++((xs.drop (i+1)).flatten++rest))):=by
  rw [e0]
  conv=>lhs; rw [hs]
  simp only [List.append_assoc]
 have kG:la xs[i] o vs=xs[i].take o++(vs++xs[i].drop (o+vs.length)):=by rw [pd _ _ _ ad,Xs]
 have e2:(xs.set i (la xs[i] o vs)).flatten=(xs.take i).flatten++((la xs[i] o vs)++(xs.drop (i+1)).flatten):=by
  rw [List.set_eq_take_append_cons_drop,Xb hi]
  simp
 rw [e1] at hbox;rw [aG,aG];have hlen:(pre++(xs.take i).flatten++xs[i].take o).length=pre.length+i*sz+o:=by rw [W8,W8,hx,Xr,Yc ad]
 rw [<- hlen];refine aw hbox hp (by simp; omega) ?_;intro h' hb' k' z';rw [yz (by rw [Xr,X3]; omega)] at hb';refine hk h' ⟨by rw [X8]; exact s.1,fun x hx=>?_,g,pre,rest,rfl,hbg,hlc,?_,hr⟩ (by simpa [aP] using k') z'
 ·rcases Yg hx with hx | rfl
  ·exact s.2.1 x hx
  ·rw [my]; exact hxl
 ·rw [e2,kG];simpa [List.append_assoc] using hb'
def Iy:Tryz.prog.underlying 88=some (.map 105 3):=az
def Q5:(Tryz.prog.info? 3).bind (·.zero)=some (.int .i64 0):=az
abbrev FK (h:Hp) (g:Nat) (f:Ky->Option Nat) (n:Nat):Prop:=zo Og eI h g f n
section
variable {L:Lp} {K:ZB->Hp->Prop} {h:Hp} {g n:Nat} {f:Ky->Option Nat}
def FP (m:FK h g f n) (u:Nat) (s:ZA) {k:Int->Bool->T} (hk:k (((f (u,s)).getD 0:Nat):Int) (f (u,s)).isSome L K h):T.ek Tryz.prog (Instr.lookup 88 (.map (some g)) (.agg #[.int .i64 (u:Int),.string s]) true) true [(false,[.int .i64]),(false,[.bool])] k L K h:=by
 obtain ⟨D,m,hD,hn⟩:=m;show aS Tryz.prog (Instr.lookup 88 (.map (some g)) (Og (u,s)) true) h _;refine uE Vy Iy Q5 m (u,s) true _ ?_;refine ⟨((((f (u,s)).getD 0:Nat):Int),(f (u,s)).isSome,()),?_,hk⟩;rw [Xb rfl,vT,hD (u,s)]
 all_goals (cases f (u,s) <;> rfl)
def SV (m:FK h g f n) (u:Nat) (s:ZA) {k:Int->T} (hk:k (((f (u,s)).getD 0:Nat):Int) L K h):T.ek Tryz.prog (Instr.lookup 88 (.map (some g)) (.agg #[.int .i64 (u:Int),.string s]) false) false [(false,[.int .i64])] k L K h:=by
 obtain ⟨D,m,hD,hn⟩:=m;show aS Tryz.prog (Instr.lookup 88 (.map (some g)) (Og (u,s)) false) h _;refine uE Vy Iy Q5 m (u,s) false _ ?_;refine ⟨((((f (u,s)).getD 0:Nat):Int),()),?_,hk⟩;simp only [Bool.false_eq_true,if_false];rw [vT,hD (u,s)]
 all_goals (cases f (u,s) <;> rfl)
def Q2 (m:FK h g f n) (u:Nat) (s:ZA) {v:Int} {w:Nat} (hv:v=(w:Int)) {k:T} (hk:∀ h',FK h' g (xU f (u,s) w) (if (f (u,s)).isSome then n else n+1)->Ch [g] h h'->h'.size=h.size->k L K h') :
  T.ei Tryz.prog (Instr.mapUpdate 88 (.map (some g)) (.agg #[.int .i64 (u:Int),.string s]) (.int .i64 v)) k L K h:=by
 subst hv;exact Vg (en:=eI) Vy Iy m (u,s) w hk
def Un (m:FK h g f n) {k:Int->T} (hk:k (n:Int) L K h):T.ek Tryz.prog (Builtin.len_ #[88] 3 #[.map (some g)]) false [(false,[.int .i64])] k L K h:=by
 obtain ⟨D,m,hD,hn⟩:=m;obtain ⟨es,clock,hg,he,hst⟩:=m;have hes:es.size=n:=by
  have:=Xj List.length he
  simp only [List.length_map,Array.length_toList] at this;omega
 show aS _ _ _ _;unfold Builtin.len_;simp only [List.getElem?_toArray,List.getElem?_cons_zero];rw [ar,aF Iy];simp only [pure_bind];rw [ar];refine fT hg aj _ ?_;simp only [pure_bind];exact ⟨((n:Int),()),by rw [hes]; rfl,hk⟩
end
def kF (n:Nat):ZA:=⟨(Lib.itoa (n:Int)).toArray⟩
def yG {h:Hp} (p:fP h) (n:Nat) (hn:n<=2^60):HC Tryz.prog 40 #[.int .i64 n] h fun v h'=>v=.string (kF n)/\Ext h h':=by
 intro W hW;subst hW;refine (Tryz.strconv_Itoa n ad ad W (Hc az p)).mono ?_;rintro e w' ⟨he,k,os,rfl⟩;refine ⟨_,he,⟨rfl,rfl,rfl⟩,rfl,?_⟩;refine ⟨by show W.heap.size<=(W.heap++os).size; simp,fun i hi _=>?_⟩;show (W.heap++os)[i]?=_;rw [Array.getElem?_append_left hi]
def jk {n:Nat} (hn:n<=2^60):(kF n).size<=1000:=by
 show (Lib.itoa (n:Int)).toArray.size<=1000
 have:=Lib.itoa_length_le (n:Int) ad ad
 simp
 omega
structure Lb where
 u:Nat
 s:Nat
 i:Nat
 n:ZA
deriving DecidableEq
def zZ (x:Lb):List ZB:=[.int .i64 (x.u:Int),.int .i64 (x.s:Int),.int .i64 (x.i:Int),.string x.n]
structure LW where
 lb:List Lb
 num:Ky->Option Nat
 nn:Nat
 sL:Ky->Option Nat
 ne:Nat
 gl:ZA->Option Nat
 ng:Nat
def QY:LW:=⟨[],fun _=>none,0,fun _=>none,0,fun _=>none,0⟩
def LW.has (w:LW) (k:Ky):Bool:=(w.num k).isSome || (w.sL k).isSome
def LW.own (w:LW) (u:Nat) (s:ZA):Option Ky:=if w.has (u,s) then some (u,s) else (w.gl s).map fun o=>(o,s)
def LW.word (w:LW) (k:Ky):ZA:=match w.num k with
 | some n=>(⟨#[76]⟩:ZA)++kF n
 | none=>(⟨#[69]⟩:ZA)++kF ((w.sL k).getD 0)
structure LM (h:Hp) (gN gE gG:Nat) (w:LW):Prop where
 n:FK h gN w.num w.nn
 e:FK h gE w.sL w.ne
 g:dP eI h gG w.gl w.ng
def LM.an {ws:List Nat} {h h':Hp} {gN gE gG:Nat} {w:LW} (m:LM h gN gE gG w) (k:Ch ws h h') (h1:gN∉ws) (h2:gE∉ws) (h3:gG∉ws):LM h' gN gE gG w :=
 ⟨m.n.an k h1,m.e.an k h2,m.g.an k h3⟩
structure Of (w:LW):Prop where
 n:∀ k i,w.num k=some i->i<=2^50
 e:∀ k i,w.sL k=some i->i<=2^50
abbrev N9 (h:Hp) (g:Nat) (us lb:cv) (gN gE gG:Nat) (sp:Int):Prop:=bH h g 92 [us.v,lb.v,.map (some gN),.map (some gE),.map (some gG),.slice none 0 0,.int .i64 sp]
section
variable {h:Hp} {g gN gE gG:Nat} {us lb:cv} {sp:Int} {w:LW}
def Kn (b:N9 h g us lb gN gE gG sp) (m:LM h gN gE gG w) (u:Nat) (s:ZA):HC Tryz.prog 89 #[ptr g,.agg #[.int .i64 (u:Int),.string s]] h fun v h'=>v=.bool (w.has (u,s))/\Ext h h':=by
 refine bd (args:=[ptr g,.agg #[.int .i64 (u:Int),.string s]]) mixed Tryz.func89 az (pu (some ⟨g,0,none⟩) u s) ?_;unfold kf bR dL aR cg;refine bk ?_;intro h1 b1 e1 z1;have b':=b.an e1 aj;have m':=m.an e1 aj aj aj;refine ax rfl ?_;rw [aG];refine af b' (some gN,()) rfl (ao ?_);refine af b1 ((u:Int),s,()) rfl (ao ?_);refine FP m'.n u s ?_;refine ax rfl ?_;rw [aG];refine af b' (some gE,()) rfl (ao ?_);refine af b1 ((u:Int),s,()) rfl (ao ?_);refine FP m'.e u s ?_;unfold LW.has;refine ak (fun q=>?_) (fun q=>?_)
 ·exact ⟨by rw [q]; rfl,e1⟩
 ·exact ⟨by rw [q]; rfl,e1⟩
def No (b:N9 h g us lb gN gE gG sp) (m:LM h gN gE gG w) (u:Nat) (s:ZA):HC Tryz.prog 62 #[ptr g,.int .i64 (u:Int),.string s] h fun v h'=>v=.tuple #[Og ((w.own u s).getD (0,s)),.bool (w.own u s).isSome]/\Ext h h':=by
 refine bd (args:=[ptr g,.int .i64 (u:Int),.string s]) mixed Tryz.func62 az (pt (some ⟨g,0,none⟩) u s) ?_;unfold kz aT bR br bT aR cg;refine bk ?_;intro h1 b1 e1 z1;refine bk ?_;intro h2 b2 e2 z2;have b12:=b1.an e2 aj;refine aw b2 rfl aj ?_;intro h3 b3 k3 z3;have b3:bH h3 h1.size 105 [.int .i64 (u:Int),.string s]:=b3;have e3:Ext h h3:=Ch.trans (e1.trans e2) k3 (fun i hi hl=>by simp at hi; omega);have b13:=b12.an k3 (by simp; omega);refine af b3 ((u:Int),s,()) rfl (ao ?_);refine aK (Kn (b.an e3 aj) (m.an e3 aj aj aj) u s) ?_;rintro _ h4 ⟨rfl,e4⟩;refine ⟨(w.has (u,s),()),rfl,ao ?_⟩;have e04:=e3.trans e4;have q3:=b3.lt;refine ak (fun q=>?_) (fun q=>?_)
 ·have hw:w.own u s=some (u,s):=by unfold LW.own; rw [Xb q]
  rw [hw];refine af (b3.an e4 aj) ((u:Int),s,()) rfl (ao ?_);refine aw (b13.an e4 aj) rfl aj ?_;intro h5 b5 k5 z5;have b5:bH h5 h.size 105 [.int .i64 (u:Int),.string s]:=b5;refine af b5 ((u:Int),s,()) rfl ?_;exact ⟨rfl,Ch.trans e04 k5 (fun i hi hl=>by simp at hi; omega)⟩
 ·have hw:w.own u s=(w.gl s).map fun o=>(o,s):=by unfold LW.own; rw [W6 (by rw [q]; simp)]
  rw [hw];refine ax rfl ?_;rw [aG];refine af (b.an e04 aj) (some gG,()) rfl (ao ?_);refine CD (m.an e04 aj aj aj).g s ?_;refine aw (b13.an e4 aj) rfl aj ?_;intro h5 b5 k5 z5;have b5:bH h5 h.size 105 [.int .i64 (((w.gl s).getD 0:Nat):Int),.string s]:=b5;refine af b5 ((((w.gl s).getD 0:Nat):Int),s,()) rfl ?_;refine ⟨?_,Ch.trans e04 k5 (fun i hi hl=>by simp at hi; omega)⟩
  all_goals (cases w.gl s <;> rfl)
def Bc (pw:fP h) (b:N9 h g us lb gN gE gG sp) (m:LM h gN gE gG w) (lb':Of w) (u:Nat) (s:ZA):HC Tryz.prog 35 #[ptr g,.agg #[.int .i64 (u:Int),.string s]] h fun v h'=>v=.string (w.word (u,s))/\Ext h h':=by
 refine bd (args:=[ptr g,.agg #[.int .i64 (u:Int),.string s]]) mixed Tryz.func35 az (nN (some ⟨g,0,none⟩) u s) ?_;unfold jX gF bR aR cg;refine bk ?_;intro h1 b1 e1 z1;have b':=b.an e1 aj;have m':=m.an e1 aj aj aj;have pw1:=pw.an e1 aj;refine ax rfl ?_;rw [aG];refine af b' (some gN,()) rfl (ao ?_);refine af b1 ((u:Int),s,()) rfl (ao ?_);refine FP m'.n u s ?_;unfold LW.word;cases hn:w.num (u,s) with
 | some n =>
  refine bn rfl ?_;have hs:=lb'.n _ _ hn;refine aK (yG pw1 n ad) ?_;rintro _ h2 ⟨rfl,e2⟩;refine ⟨(kF n,()),rfl,ao ?_⟩
  have:=jk (n:=n) ad
  refine ay ad ?_;exact ⟨rfl,e1.trans e2⟩
 | none =>
  refine bJ rfl ?_;have hs:(w.sL (u,s)).getD 0<=2^50:=by
   cases he:w.sL (u,s) with
   | none=>simp
   | some i=>exact lb'.e _ _ he
  refine ax rfl ?_;rw [aG];refine af b' (some gE,()) rfl (ao ?_);refine af b1 ((u:Int),s,()) rfl (ao ?_);refine SV m'.e u s ?_;refine aK (yG pw1 _ ad) ?_;rintro _ h2 ⟨rfl,e2⟩;refine ⟨(kF ((w.sL (u,s)).getD 0),()),rfl,ao ?_⟩;refine ⟨⟨(b1.an e2 aj).cells _ rfl,(b'.an e2 aj).cells _ rfl,trivial⟩,?_⟩
  have:=jk (n:=(w.sL (u,s)).getD 0) ad
  refine ay ad ?_;exact ⟨rfl,e1.trans e2⟩
end
end Go.Sx.Ob
namespace Go.Sx.Lk
open Go.Proofs Go.Sx.Ob
def py {es:List cI} (hn:(aZ es).Nodup) {e:cI} (he:e∈es):de es e.name=e.x:=by
 obtain ⟨d,hd,h1,h2⟩:=lF (show e.name∈aZ es from Xp he);rw [h2]
 have:∀ l:List cI,(l.map (·.name)).Nodup->d∈l->e∈l->d=e:=by
  intro l
  induction l with
  | nil=>intro _ h; simp at h
  | cons x l ih =>
   intro hn hd he;rw [XH,YA] at hn;rcases Xq.1 hd with a | a <;> rcases Xq.1 he with b | b
   ·rw [a,b]
   ·exact (hn.1 (by rw [<- a,h1]; exact Xp b)).elim
   ·exact (hn.1 (by rw [<- b,<- h1]; exact Xp a)).elim
   ·exact ih hn.2 a b
 rw [this es hn hd he]
def _root_.Go.Sx.Ob.LW.bad (w:LW) (u:Nat) (x:cm):Option ZA:=(x.ai.find? fun t=>(w.own u t.1).isNone).map (·.1)
def lj (s:ZA):cm:=⟨[(s,1)],0⟩
def _root_.Go.Sx.Ob.LW.lin (w:LW) (u:Nat) (x:cm):cm:=db (fun s=>(w.own u s).map fun k=>lj (w.word k)) x
structure DW (x:cm):Prop where
 nf:Nf x.ai
 num:x.num<4294967296
 len:x.ai.length<=2^20
 sz:∀ t,t∈x.ai->t.1.size<=maxLen
def j7 {a b:ZA} (h:gS a b):a≠b:=fun e=>by subst e; exact absurd h (by unfold gS; simp)
def DW.nodup {x:cm} (g:DW x):(x.ai.map (·.1)).Nodup:=by
 rw [Yx,X5];exact g.nf.RJ.imp fun h=>j7 h
def Qh (w:LW) (u:Nat) (x:cm) (h:Hp) (v:ZB) (h':Hp):Prop :=
 Ext h h'/\match w.bad u x with
 | some s=>v=.tuple #[iA none 0 0 Eu,.string s,.bool false]
 | none=>∃ p l c,v=.tuple #[iA p l c (w.lin u x),.string ⟨#[]⟩,.bool true]/\SL h' h.size 117 2 p l c ((w.lin u x).ai.map dc)
def Gw:Tryz.prog.underlying 66=some (.slice 117):=az
def Gk (s:ZA) (n:Int):Instr.fill (fun j=>some (j*2,2)) ((Array.range (1*2)).map ((Value.agg #[.string ⟨#[]⟩,.int .u32 0]).cells[· % (Value.agg #[.string ⟨#[]⟩,.int .u32 0]).cells.size]!)) [(0,.agg #[.string s,.int .u32 n])]=some ([.string s,.int .u32 n]:List ZB).toArray:=az
def Gh (s:ZA) (p:ZC) (l c:Nat) (n:Int):Instr.fill (fun j=>some (j*3,3)) ((Array.range (1*3)).map ((Value.agg #[.string ⟨#[]⟩,.slice none 0 0,.int .u32 0]).cells[· % (Value.agg #[.string ⟨#[]⟩,.slice none 0 0,.int .u32 0]).cells.size]!)) [(0,.agg #[.string s,.slice p l c,.int .u32 n])]=some ([.string s,.slice p l c,.int .u32 n]:List ZB).toArray:=az
theorem kO {α:Type} (f:α->Bool):∀ (l:List α) (i:Nat) (hi:i<l.length),(∀ j,(hj:j<i)->f (l[j]'ad)=false)->f l[i]=true->l.find? f=some l[i]
 | [],i,hi,_,_=>by simp at hi
 | a::l,0,hi,_,h=>by simp at h; simp [h]
 | a::l,i+1,hi,h0,h=>by
  have ha:f a=false:=h0 0 ad;rw [Y1,ha];simp only [List.getElem_cons_succ] at h ⊢;exact kO f l i (by simpa using hi) (fun j hj=>h0 (j+1) ad) h
def nz {α:Type} (f:α->Bool) (l:List α) (h:∀ j,(hj:j<l.length)->f l[j]=false):l.find? f=none:=by
 rw [List.find?_eq_none];intro x hx;obtain ⟨j,hj,rfl⟩:=Xw hx;rw [h j hj]
 simp
section
variable {h:Hp} {g gN gE gG:Nat} {us lb:cv} {sp:Int} {w:LW}
def xi (pw:fP h) (b:N9 h g us lb gN gE gG sp) (m:LM h gN gE gG w) (lb':Of w) (u:Nat) {p:ZC} {l c:Nat} {x:cm} (v:gK h p l x.ai) (gx:DW x) :
  HC Tryz.prog 34 #[ptr g,.int .i64 (u:Int),iA p l c x] h (Qh w u x h):=by
 refine bd (args:=[ptr g,.int .i64 (u:Int),iA p l c x]) mixed Tryz.func34 az (lZ (some ⟨g,0,none⟩) u p l c x.num) ?_;unfold iM bf bh bG aQ gF bK bm aH br bi bT aR cg dh;have hll:=v.len;have hxl:=gx.len;refine bk ?_;intro h1 b1 e1 z1;refine bk ?_;intro h2 b2 e2 z2;have b12:=b1.an e2 aj;have e02:=e1.trans e2;refine af b12 ((p,l,c),()) rfl (ao ?_);obtain ⟨ie,hie,hze,hse,hbe⟩:=ou JO;refine dt (pf (l:=0) (c:=l) Bo hie hze ad (by rw [hbe]; omega) ad ?_);intro h3 b3 e3 z3;refine ⟨_,_,_,rfl,?_⟩;have e03:=e02.trans e3;have b13:=b12.an e3 aj;have b23:=b2.an e3 aj;have s3:SL h3 h2.size 100 3 (some ⟨h2.size,0,none⟩) 0 l (([]:List cI).map yZ):=by
  refine ⟨rfl,aj,h2.size,[],_,rfl,Xk _,⟨ad,ad⟩,b3,?_⟩;rw [W3,Yy,hse];omega
 refine af b13 ((p,l,c),()) rfl (ao ?_)
 refine aU (cs:=[(false,[.string]),(false,[.bool]),(false,[.slice 0]),(false,[.int .i64])]) (fun y m' h'=>∃ (i:Nat) (es:List cI),y.2.2.2.1=(i:Int)/\i<=l/\m'=l-i/\Ch [h2.size] h3 h'/\y.2.2.1.2.1=i/\qt h' h2.size y.2.2.1.1 i y.2.2.1.2.2 es/\(∀ j,(hj:j<i)->(hl:j<x.ai.length)->(w.own u x.ai[j].1).isSome=true) /\
   es.map (fun e=>(e.name,e.x))=(x.ai.take i).map (fun t=>(t.1,lj (w.word ((w.own u t.1).getD (0,t.1)))))) ((⟨#[]⟩:ZA),false,(some ⟨h2.size,0,none⟩,0,l),(0:Int),()) l rfl
  ⟨0,[],rfl,ad,ad,Ch.refl _ _,rfl,⟨s3,aj,List.Pairwise.nil,aj⟩,by intro j hj; omega,rfl⟩ ?_
 rintro ⟨s14,b15,⟨p16,l17,l18⟩,n19,⟨⟩⟩ m' h4 ⟨i,es,hi,hil,rfl,e34,hli,oe,hok,hes⟩;simp only at hi hli oe;subst hi hli;refine ao ?_;have e04:Ext h h4:=Ch.trans e03 e34 (fun i hi hl=>by simp at hi; have:=e1.size; omega);have hel:es.length=l17:=by
  have:=Xj List.length hes
  rw [W3,W3,Xr] at this;omega
 have z4:=e34.size;have q3:=b3.lt;have q2:=b2.lt;have q1:=b1.lt;refine ak (fun q=>?_) (fun q=>?_)
 ·have q:=W2 q;have hlt:l17<x.ai.length:=ad
  obtain ⟨a,ha,hc⟩:=v.cells l17 hlt;have htk:x.ai.take (l17+1)=x.ai.take l17++[x.ai[l17]]:=W7 hlt;have hgt:x.ai[l17]=x.ai[l17]:=rfl;generalize htt:x.ai[l17]=t at hc htk;refine ay ⟨ad,ad⟩ (ax ha ?_);rw [show Int.toNat (l17:Int)=l17 from ad];refine aC (t.1,(t.2:Int),()) (aX e04 aj _ _ hc) (ao ?_);refine bk ?_;intro h5 b5 e5 z5;refine aw b5 rfl aj ?_;intro h6 b6 k6 z6;have b6:bH h6 h4.size 117 [.string t.1,.int .u32 (t.2:Int)]:=b6;have e46:Ext h4 h6:=Ch.trans e5 k6 (fun i hi hl=>by simp at hi; omega);have e06:=e04.trans e46;refine af b6 (t.1,()) rfl (ao ?_);refine aK (No (b.an e06 aj) (m.an e06 aj aj aj) u t.1) ?_;rintro _ h7 ⟨rfl,e7⟩;generalize hk:(w.own u t.1).getD (0,t.1)=ky;refine ⟨((ky.1:Int),ky.2,(w.own u t.1).isSome,()),rfl,ao ?_⟩;refine bk ?_;intro h8 b8 e8 z8;refine aw b8 rfl aj ?_;intro h9 b9 k9 z9;have b9:bH h9 h7.size 105 [.int .i64 (ky.1:Int),.string ky.2]:=b9;have e79:Ext h7 h9:=Ch.trans e8 k9 (fun i hi hl=>by simp at hi; omega);have e69:=e7.trans e79;have e49:=e46.trans e69;have e09:=e04.trans e49;have b69:=b6.an e69 aj;have q6:=b6.lt;have q7:=e7.size;have q9:=b9.lt;refine ak (fun r=>?_) (fun r=>?_)
  ·have r:(w.own u t.1).isSome=false:=by simpa using r
   refine af b69 (t.1,()) rfl (ao ?_);refine aw ((b23.an e34 (by simp; omega)).an e49 aj) rfl aj ?_;intro h10 b10 k10 z10;have b10:bH h10 h1.size 69 [.slice none 0 0,.int .u32 0]:=b10;refine ⟨⟨(b69.an k10 (by simp; omega)).cells _ rfl,trivial⟩,?_⟩;refine af b10 ((none,0,0),(0:Int),()) rfl ?_;refine ⟨Ch.trans e09 k10 (fun i hi hl=>by simp at hi; omega),?_⟩;have hb:w.bad u x=some t.1:=by
    unfold Ob.LW.bad;rw [kO _ x.ai l17 hlt (fun j hj=>by simpa using hok j hj ad) (by rw [htt]; simpa using r),htt] <;> rfl
   rw [hb] <;> rfl
  ·have r:(w.own u t.1).isSome=true:=by simpa using r
   refine af b69 (t.1,()) rfl (ao ?_);refine af b9 ((ky.1:Int),ky.2,()) rfl (ao ?_);refine aK (Bc (pw.an e09 aj) (b.an e09 aj) (m.an e09 aj aj aj) lb' ky.1 ky.2) ?_;rintro _ h10 ⟨rfl,e10⟩;refine ⟨(w.word (ky.1,ky.2),()),rfl,ao ?_⟩;have b6a:=b69.an e10 aj;have b9a:=b9.an e10 aj;have q10:=e10.size;refine ⟨⟨b6a.cells _ rfl,trivial⟩,?_⟩;refine mH Gw sD ad ad (Gk _ _) ?_;intro h11 b11 e11 z11;have b6b:=b6a.an e11 aj;have b9b:=b9a.an e11 aj;refine ⟨⟨b9b.cells _ rfl,b6b.cells _ rfl,trivial⟩,?_⟩;have e411:=(e49.trans e10).trans e11;have o11:=oe.an e411 aj;have q11:=e411.size;refine gI (e:=100) (z:=.agg #[.string ⟨#[]⟩,.slice none 0 0,.int .u32 0]) (sz:=3) (by':=48) Bo JO rfl ad ad (Gh _ _ _ _ _) rfl rfl o11.out ad ad ad (fun h' e=>⟨(b9b.an e aj).cells _ rfl,(b6b.an e aj).cells _ rfl,trivial⟩) ?_;intro p' c' h12 s12 k12 hp12;have hq:∀ i,i∈aP p16->(i=h2.size\/h3.size<=i)/\i<h4.size:=fun i hi=>by have:=oe.out.cj hi; omega
   have k312:Ch [h2.size] h3 h12:=Ch.trans (e34.trans (e411.mono aj) (fun i hi hl=>hi)) k12 (fun i hi hl=>by have:=hq i hi; simp; omega);have nin:∀ i,h4.size<=i->i∉aP p16:=fun i h1 h2=>by have:=hq i h2; omega
   refine ⟨⟨(b9b.an k12 (nin _ ad)).cells _ rfl,(b6b.an k12 (nin _ ad)).cells _ rfl,trivial⟩,?_⟩;have hm:SL h11 h2.size 117 2 (some ⟨h10.size,0,none⟩) 1 1 ((lj (w.word ky)).ai.map dc) :=
    ⟨rfl,fun y hy=>by rw [Xm.1 hy]; rfl,h10.size,[],[],rfl,ad,⟨ad,ad⟩,b11,by simp [lj]⟩
   have o12:qt h12 h2.size p' (l17+1) c' (es++[⟨t.1,some ⟨h10.size,0,none⟩,1,1,lj (w.word ky)⟩]):=by
    refine o11.push (m:=⟨t.1,some ⟨h10.size,0,none⟩,1,1,lj (w.word ky)⟩) hm (fun i hi=>?_) (by rw [Xf]; exact s12) k12 (fun i hi=>?_)
    ·have hi:i=h10.size:=by simpa [aP] using hi
     subst hi;refine ⟨fun y hy j hj=>?_,nin _ ad⟩
     have:=((oe.fm y hy).cj hj).2
     omega
    ·rcases hp12 with rfl | ⟨a',rfl,ha'⟩
     ·exact .inl hi
     ·simp [aP] at hi; right; omega
   have hw:IntKind.wrap .i64 ((l17:Int)+1)=((l17+1:Nat):Int):=by rw [wrap_i64 ad ad]; omega
   rw [hw];refine aI (cs:=[(false,[.string]),(false,[.bool]),(false,[.slice 0]),(false,[.int .i64])]) (s14,b15,(p',l17+1,c'),((l17+1:Nat):Int),()) (l-(l17+1)) rfl ad rfl
    ⟨l17+1,_,rfl,ad,rfl,k312,rfl,o12,fun j hj hjl=>?_,?_⟩
   ·by_cases hjl':j<l17
    ·exact hok j hjl' hjl
    ·have:j=l17:=ad
     subst this;rw [htt]; exact r
   ·rw [Xf,hes,htk,Xf];simp only [List.map_cons,List.map_nil];rw [hk]
 ·have q:=W4 q;have hi:l17=x.ai.length:=ad
  subst hi;have hes:es.map (fun e=>(e.name,e.x))=x.ai.map (fun t=>(t.1,lj (w.word ((w.own u t.1).getD (0,t.1))))):=by rw [hes,XD (Xk _)]
  have hnm:aZ es=x.ai.map (·.1):=by
   have:=Xj (List.map (·.1)) hes
   rw [Xv,Xv] at this;exact this
  have hlen1:∀ e,e∈es->∃ t,t∈x.ai/\e.name=t.1/\e.x=lj (w.word ((w.own u t.1).getD (0,t.1))):=by
   intro e he
   have:(e.name,e.x)∈es.map (fun e=>(e.name,e.x)):=Xp he
   rw [hes] at this;obtain ⟨t,ht,hte⟩:=Xd.1 this;rw [Prod.mk.injEq] at hte;exact ⟨t,ht,hte.1.symm,hte.2.symm⟩
  have hwsz:∀ ky:Ky,(w.word ky).size<=maxLen:=by
   intro ky;unfold LW.word;have hsz:∀ (a:ZA) n,n<=2^50->a.size=1->(a++kF n).size<=maxLen:=fun a n hn ha=>by
    rw [Yu,ha]
    have:=jk (n:=n) ad
    unfold maxLen;omega
   split
   ·rename_i n hn;exact hsz _ _ (lb'.n _ _ hn) rfl
   ·refine hsz _ _ ?_ rfl;cases he:w.sL ky with
    | none=>simp
    | some i=>exact lb'.e _ _ he
  have eo:EqsOk es:=⟨by rw [hnm]; exact gx.nodup,ad,fun e he=>by obtain ⟨t,ht,h1,_⟩:=hlen1 e he; rw [h1]; exact gx.sz t ht,
   fun e he=>by obtain ⟨t,ht,_,h1⟩:=hlen1 e he; rw [h1]; show 1<=2^40; decide,
   fun e he t' ht'=>by
    obtain ⟨t,ht,_,h1⟩:=hlen1 e he;rw [h1] at ht';rw [Xm.1 ht'];exact hwsz _⟩
  refine af ((b13).an e34 (by simp; omega)) ((p,l,c),(x.num:Int),()) rfl ?_;refine ao ?_;have ve:=B3 oe;have htot:(es.flatMap (·.x.ai)).length<=2^39:=by
   have:∀ l:List cI,(∀ e,e∈l->e.x.ai.length=1)->(l.flatMap (·.x.ai)).length=l.length:=by
    intro l
    induction l with
    | nil=>intro _; rfl
    | cons a l ih=>intro hl; rw [XJ,W8,ih (fun e he=>hl e (by simp [he])),hl a aj,XP,Nat.add_comm]
   rw [this es (fun e he=>by obtain ⟨t,ht,_,h1⟩:=hlen1 e he; rw [h1]; rfl)];omega
  refine aK (Ly (v.an e04 aj) ve eo (fun e he=>by obtain ⟨t,ht,_,h1⟩:=hlen1 e he; rw [h1]; show 1<=2^20; decide) htot ad hxl gx.sz) ?_;rintro _ h5 ⟨⟨p',l',c',rfl,s5⟩,e5⟩;have hlin:lS (db (cr es) x) tD=w.lin u x:=by
   rw [xy (eM _ _) (lB gx.num)];unfold Ob.LW.lin;refine oX (fun t ht=>?_);have hin:t.1∈aZ es:=by rw [hnm]; exact Xp ht
   obtain ⟨j,hj,rfl⟩:=Xw ht;have hoj:=hok j ad hj;obtain ⟨ky,hky⟩:=X0.1 hoj;unfold cr;rw [Xb ((ec es _).2 hin),hky];obtain ⟨e,he,hen⟩:=Xd.1 hin;obtain ⟨t',ht',h1,h2⟩:=hlen1 e he;rw [<- hen,py eo.nodup he,h2,<- h1,hen,hky] <;> rfl
  rw [hlin] at s5 ⊢;refine ⟨((p',l',c'),((w.lin u x).num:Int),()),rfl,ao ?_⟩;have q5:=e5.size;refine aw ((b23.an e34 (by simp; omega)).an e5 aj) rfl aj ?_;intro h6 b6 k6 z6;have b6:bH h6 h1.size 69 [.slice p' l' c',.int .u32 ((w.lin u x).num:Int)]:=b6;refine af b6 ((p',l',c'),((w.lin u x).num:Int),()) rfl ?_;refine ⟨Ch.trans (e04.trans e5) k6 (fun i hi hl=>by simp at hi; omega),?_⟩;have hb:w.bad u x=none:=by
   unfold Ob.LW.bad;rw [nz _ x.ai (fun j hj=>by simpa using hok j ad hj)] <;> rfl
  rw [hb];exact ⟨p',l',c',rfl,(s5.bM k6 (fun j hj=>by have:=(s5.cj hj).1; simp; omega)).mono ad⟩
end
theorem xx {h:Hp} {a:Zx}:∀ (vs us:List ZB) (i:Nat),aJ h a i vs->aJ h a (i+vs.length) us->aJ h a i (vs++us)
 | [],us,i,_,h2=>by simpa using h2
 | v::vs,us,i,h1,h2=>⟨h1.1,xx vs us (i+1) h1.2 (by rw [XP] at h2; rw [show i+1+vs.length=i+(vs.length+1) from ad]; exact h2)⟩
theorem yE {h:Hp} {a:Zx}:∀ (vs:List ZB) (o i:Nat),aJ h (a.add o) i vs->aJ h a (o+i) vs
 | [],_,_,_=>trivial
 | v::vs,o,i,h1=>⟨by have:=h1.1; rw [add_add] at this; exact this,yE vs o (i+1) h1.2⟩
theorem fM {h:Hp} {a:Zx} {sz:Nat}:∀ (xs:List (List ZB)) (k:Nat),(∀ x,x∈xs->x.length=sz)->(∀ i,(hi:i<xs.length)->aJ h (a.add ((k+i)*sz)) 0 xs[i])->aJ h a (k*sz) xs.flatten
 | [],_,_,_=>trivial
 | x::xs,k,hl,hc=>by
  rw [YF];refine xx _ _ _ ?_ ?_
  ·have:=hc 0 aj
   rw [Zi] at this;exact yE _ _ 0 this
  ·rw [hl x aj,<- Nat.succ_mul];exact fM xs (k+1) (fun y hy=>hl y (by simp [hy])) (fun i hi=>by
    have:=hc (i+1) (by simpa using hi)
    rw [show k+1+i=k+(i+1) from ad];exact this)
structure TD (h:Hp) (p:ZC) (l:Nat) (ws:List (cv × cF)):Prop where
 len:l=ws.length
 cells:∀ i,(hi:i<ws.length)->∃ a,p=some a/\aJ h (a.add (i*10)) 0 (sK ws[i])
theorem xB {α β:Type} (R:α->β->Prop):∀ (us:List α),(∀ i,(hi:i<us.length)->∃ b,R us[i] b)->∃ bs:List β,bs.length=us.length/\∀ i,(hi:i<us.length)->(hb:i<bs.length)->R us[i] bs[i]
 | [],_=>⟨[],rfl,fun i hi=>by simp at hi⟩
 | u::us,h=>by
  obtain ⟨b,hb⟩:=h 0 aj;obtain ⟨bs,hl,hr⟩:=xB R us (fun i hi=>h (i+1) (by simpa using hi));refine ⟨b::bs,by simp [hl],fun i hi hi'=>?_⟩
  match i with
  | 0=>exact hb
  | i+1=>exact hr i (by simpa using hi) (by simpa using hi')
def Ct {h:Hp} {p:ZC} {l:Nat} {us:List cF} (v:Dj h p l us):∃ ws:List (cv × cF),ws.map (·.2)=us/\TD h p l ws/\∀ u,u∈ws->kC h u.1.p u.1.l u.2:=by
 have hidx:∀ i,(hi:i<(List.range us.length).length)->∃ s:cv,∀ hj:(List.range us.length)[i]<us.length,∃ a,p=some a/\aJ h (a.add ((List.range us.length)[i]*10)) 0 (Ob.encI s.p s.l s.c us[(List.range us.length)[i]])/\kC h s.p s.l us[(List.range us.length)[i]]:=by
  intro i hi;have hi':i<us.length:=by simpa using hi
  obtain ⟨a,q,m,c,ha,hc,hv⟩:=v.cells i hi';refine ⟨⟨q,m,c⟩,fun hj=>⟨a,ha,?_,?_⟩⟩
  ·simp only [List.getElem_range]; exact hc
  ·simp only [List.getElem_range]; exact hv
 obtain ⟨bs,hbl,hb⟩:=xB (fun (j:Nat) (s:cv)=>∀ hj:j<us.length,∃ a,p=some a/\aJ h (a.add (j*10)) 0 (Ob.encI s.p s.l s.c us[j])/\kC h s.p s.l us[j]) (List.range us.length) hidx;rw [Yy] at hbl;have hz2:(bs.zip us).map (·.2)=us:=by rw [List.map_snd_zip ad]
 have hzl:(bs.zip us).length=us.length:=by rw [List.length_zip]; omega
 refine ⟨bs.zip us,hz2,⟨by rw [hzl]; exact v.len,fun i hi=>?_⟩,fun u hu=>?_⟩
 ·rw [hzl] at hi;have h1:=hb i (by simpa using hi) ad;simp only [List.getElem_range] at h1;obtain ⟨a,ha,hc,_⟩:=h1 hi;refine ⟨a,ha,?_⟩;rw [List.getElem_zip];exact hc
 ·obtain ⟨i,hi,rfl⟩:=Xw hu;rw [hzl] at hi;have h1:=hb i (by simpa using hi) ad;simp only [List.getElem_range] at h1;obtain ⟨a,ha,_,hv⟩:=h1 hi;rw [List.getElem_zip];exact hv
def oz (ws:List (cv × cF)):(ws.map sK).flatten.all cX=true:=by
 rw [XA];intro v hv;obtain ⟨x,hx,hv⟩:=YX.1 hv;obtain ⟨t,_,rfl⟩:=Xd.1 hx;simp only [sK,Ob.encI,List.mem_cons,List.not_mem_nil,or_false] at hv;rcases hv with rfl | rfl | rfl | rfl | rfl | rfl | rfl | rfl | rfl | rfl <;> rfl
def nL (ws:List (cv × cF)):∀ y,y∈ws.map sK->y.length=10:=by
 intro y hy;obtain ⟨u,_,rfl⟩:=Xd.1 hy;rfl
def TD.src {h:Hp} {p:ZC} {l:Nat} {ws:List (cv × cF)} (v:TD h p l ws):(p=none/\ws.map sK=[])\/∃ a,p=some a/\aJ h a 0 (ws.map sK).flatten:=by
 cases p with
 | none =>
  left
  refine ⟨rfl,?_⟩;cases ws with
  | nil=>rfl
  | cons u us =>
   obtain ⟨a,ha,_⟩:=v.cells 0 aj;cases ha
 | some a =>
  refine .inr ⟨a,rfl,?_⟩
  have:=fM (h:=h) (a:=a) (sz:=10) (ws.map sK) 0 (nL ws) (fun i hi=>by
   rw [W3] at hi;obtain ⟨a',ha,hc⟩:=v.cells i hi;cases ha;rw [Xc,XK];exact hc)
  rwa [Za] at this
def BR {h:Hp} {p:ZC} {l c:Nat} {ws:List (cv × cF)} (v:TD h p l ws) (hl:ws.length<=2^30) :
  HC Tryz.prog 41 #[.slice p l c] h fun w h'=>(∃ p' c',w=.slice p' l c'/\SL h' h.size 71 10 p' l c' (ws.map sK))/\Ext h h':=by
 refine bd (args:=[.slice p l c]) mixed Tryz.func41 az (fQ p l c) ?_;unfold dW bm bi;have hll:=v.len;cases p with
 | none =>
  rcases v.src with ⟨_,h2⟩ | ⟨a,ha,_⟩
  ·refine bn rfl ?_
   have:ws=[]:=by simpa using h2
   subst this;subst hll;exact ⟨⟨none,0,rfl,SL.nil _ _ _ _⟩,Ch.refl _ _⟩
  ·cases ha
 | some a =>
  refine bJ rfl ?_;refine lM (e:=71) (z:=.agg iz.toArray) (sz:=10) (by':=104) Ap DP rfl v.src (by simpa using hll) (nL ws) (oz ws) ad ad ?_;intro p' c' h' s' e';exact ⟨⟨p',c',rfl,s'⟩,e'⟩
structure WM (h:Hp) (b B:Nat) (p:ZC) (l c:Nat) (ws:List (cv × cF)):Prop where
 out:SL h b 71 10 p l c (ws.map sK)
 lt:∀ i,i∈aP p->i<B
 fm:∀ u,u∈ws->SL h B 117 2 u.1.p u.1.l u.1.c (u.2.e.ai.map dc)
def _root_.Go.Sx.Ob.LW.yc (w:LW) (u:Nat) (us:List cF):Option ZA:=us.findSome? fun x=>w.bad u x.e
def _root_.Go.Sx.Ob.LW.fl (w:LW) (u:Nat) (x:cF):cF:={ x with e:=w.lin u x.e }
def TH (w:LW) (u:Nat) (us:List cF) (l:Nat) (h:Hp) (v:ZB) (h':Hp):Prop :=
 Ext h h'/\match w.yc u us with
 | some s=>v=.tuple #[.slice none 0 0,.string s,.bool false]
 | none=>∃ p c B ws,v=.tuple #[.slice p l c,.string ⟨#[]⟩,.bool true]/\WM h' h.size B p l c ws/\h.size<=B/\ws.map (·.2)=us.map (w.fl u)
theorem H6 (w:LW) (u:Nat):∀ (us:List cF) (i:Nat) (hi:i<us.length) (s:ZA),(∀ j,(hj:j<i)->w.bad u (us[j]'ad).e=none)->w.bad u us[i].e=some s->w.yc u us=some s
 | [],i,hi,_,_,_=>by simp at hi
 | a::l,0,hi,s,_,h=>by unfold Ob.LW.yc; simp at h; simp [h]
 | a::l,i+1,hi,s,h0,h=>by
  have ha:w.bad u a.e=none:=h0 0 ad;have ih:=H6 w u l i (by simpa using hi) s (fun j hj=>h0 (j+1) ad) (by simpa using h);unfold Ob.LW.yc at ih ⊢;rw [List.findSome?_cons,ha];exact ih
def J3 (w:LW) (u:Nat) (us:List cF) (h:∀ j,(hj:j<us.length)->w.bad u us[j].e=none):w.yc u us=none:=by
 unfold Ob.LW.yc;rw [X6];intro x hx;obtain ⟨j,hj,rfl⟩:=Xw hx;exact h j hj
section
variable {h:Hp} {g gN gE gG:Nat} {us lb:cv} {sp:Int} {w:LW}
def yy (pw:fP h) (b:N9 h g us lb gN gE gG sp) (m:LM h gN gE gG w) (lb':Of w) (u:Nat) {p:ZC} {l c:Nat} {xs:List cF} (v:Dj h p l xs) (hn:xs.length<=2^20) (gx:∀ x,x∈xs->DW x.e) :
  HC Tryz.prog 33 #[ptr g,.int .i64 (u:Int),.slice p l c] h (TH w u xs l h):=by
 refine bd (args:=[ptr g,.int .i64 (u:Int),.slice p l c]) mixed Tryz.func33 az (mK (some ⟨g,0,none⟩) u p l c) ?_;unfold iU bf bh bG aQ bK aH br bi bT aR cg dh;have hll:=v.len;obtain ⟨ws,hws,vd,hit⟩:=Ct v;have hwl:ws.length=xs.length:=by rw [<- hws,W3]
 refine aK (BR (c:=c) vd ad) ?_;rintro _ h1 ⟨⟨p3,c3,rfl,s3⟩,e1⟩;refine ⟨((p3,l,c3),()),rfl,ao ?_⟩;have hlt3:∀ i,i∈aP p3->h.size<=i/\i<h1.size:=fun i hi=>s3.cj hi
 refine aU (cs:=[(false,[.slice 0]),(false,[.string]),(false,[.bool]),(false,[.int .i64])]) (fun y m' h'=>∃ (i:Nat) (vs:List (cv × cF)),y.2.2.2.1=(i:Int)/\i<=l/\m'=l-i/\Ch (aP p3) h1 h'/\vs.length=l/\SL h' h.size 71 10 p3 l c3 (vs.map sK) /\
   (∀ j,(hj:j<i)->(hv:j<vs.length)->SL h' h1.size 117 2 vs[j].1.p vs[j].1.l vs[j].1.c (vs[j].2.e.ai.map dc))/\vs.map (·.2)=(xs.take i).map (w.fl u)++xs.drop i/\∀ j,(hj:j<i)->(hx:j<xs.length)->w.bad u xs[j].e=none)
  ((none,0,0),(⟨#[]⟩:ZA),false,(0:Int),()) l rfl ⟨0,ws,rfl,ad,ad,Ch.refl _ _,ad,s3,by intro j hj; omega,by simpa using hws,by intro j hj; omega⟩ ?_
 rintro ⟨p6,s9,b10,n11,⟨⟩⟩ m' h2 ⟨i,vs,hi,hil,rfl,k2,hvl,s2,own,dZ,hok⟩;simp only at hi;subst hi;refine ao ?_;have e02:Ext h h2:=Ch.trans e1 k2 (fun i hi hl=>by have:=hlt3 i hi; omega);have z1:=e1.size;have z2:=k2.size;refine ak (fun q=>?_) (fun q=>?_)
 ·have q:=W2 q;have hlt:i<xs.length:=ad
  obtain ⟨aa,pp,ll,cc,ha,hc0,va0⟩:=v.cells i hlt;have gxi:=gx xs[i] (Xe hlt);have htk:xs.take (i+1)=xs.take i++[xs[i]]:=W7 hlt;have hdr:xs.drop i=xs[i]::xs.drop (i+1):=Xi hlt;generalize hxi:xs[i]=x at hc0 va0 htk gxi hdr;refine ay ⟨ad,ad⟩ (ax ha ?_);rw [show Int.toNat (i:Int)=i from ad];refine aC (x.kind,x.name,x.inst.op,x.inst.a,x.inst.b,x.inst.n,x.inst.form,(pp,ll,cc),(x.e.num:Int),x.n,()) (aX e02 aj _ _ hc0) (ao ?_);refine bk ?_;intro h3 b3 e3 z3;refine aw b3 rfl aj ?_;intro h4 b4 k4 z4;have b4:bH h4 h2.size 71 (Ob.encI pp ll cc x):=b4;have e24:Ext h2 h4:=Ch.trans e3 k4 (fun i hi hl=>by simp at hi; omega);have e04:=e02.trans e24;rw [aG];refine af b4 ((pp,ll,cc),(x.e.num:Int),()) rfl (ao ?_);refine aK (xi (c:=cc) (pw.an e04 aj) (b.an e04 aj) (m.an e04 aj aj aj) lb' u (va0.an e04).lin.vw gxi) ?_;rintro _ h5 ⟨e5,hq⟩;have z4':=b4.lt;have z5:=e5.size;cases hb:w.bad u x.e with
  | some s =>
   rw [hb] at hq;subst hq;refine ⟨((none,0,0),(0:Int),s,false,()),rfl,ao ?_⟩;refine bk ?_;intro h6 b6 e6 z6;refine aw b6 rfl aj ?_;intro h7 b7 k7 z7;refine bn rfl ?_;refine ⟨Ch.trans ((e04.trans e5).trans e6) k7 (fun i hi hl=>by simp at hi; omega),?_⟩;rw [H6 w u xs i hlt s (fun j hj=>hok j hj ad) (by rw [hxi]; exact hb)]
  | none =>
   rw [hb] at hq;obtain ⟨p7,l7,c7,rfl,s7⟩:=hq;refine ⟨((p7,l7,c7),((w.lin u x.e).num:Int),(⟨#[]⟩:ZA),true,()),rfl,ao ?_⟩;refine bk ?_;intro h6 b6 e6 z6;refine aw b6 rfl aj ?_;intro h7 b7 k7 z7;have b7:bH h7 h5.size 69 [.slice p7 l7 c7,.int .u32 ((w.lin u x.e).num:Int)]:=b7;have e57:Ext h5 h7:=Ch.trans e6 k7 (fun i hi hl=>by simp at hi; omega);have e27:=(e24.trans e5).trans e57;refine bJ rfl ?_;refine af b7 ((p7,l7,c7),((w.lin u x.e).num:Int),()) rfl (ao ?_);have s27:=s2.an e27 aj;have hiv:i<vs.length:=ad
   obtain ⟨a3,ha3⟩:∃ a3,p3=some a3:=by
    cases hp3:p3 with
    | some a=>exact ⟨a,rfl⟩
    | none =>
     rw [hp3] at s27;have h1:=s27.2.2.2;have h2:vs=[]:=by simpa using h1
     rw [h2] at hiv;simp at hiv
   refine ay ⟨ad,ad⟩ (ax ha3 ?_);refine SL.part (P:=Tryz.prog) s27 (i:=i) (by rw [W3]; exact hiv) (o:=7) aj (by simp [cX]) ha3 ?_;intro h8 s8 k8 z8;have hvi:vs[i].2=x:=by
    have h1:(vs.map (·.2))[i]?=some vs[i].2:=by rw [XO,W5 hiv]; rfl
    rw [dZ,XC (by rw [W3,Xr]; omega),hdr] at h1;rw [W3,Xr,show i-min i xs.length=0 from ad] at h1;simpa using h1.symm
   have hnew:(vs.map sK).set i (la ((vs.map sK)[i]'(by rw [W3]; exact hiv)) 7 [.slice p7 l7 c7,.int .u32 ((w.lin u x.e).num:Int)])=(vs.set i (⟨p7,l7,c7⟩,w.fl u x)).map sK:=by
    rw [Y0,Xc]
    congr 1
    rcases hvv:vs[i] with ⟨⟨v1,v2,v3⟩,v4⟩
    have:v4=x:=by rw [<- hvi,hvv]
    subst this;rfl
   rw [hnew] at s8;have z7':h2.size<=h7.size:=e27.size;have hw:IntKind.wrap .i64 ((i:Int)+1)=((i+1:Nat):Int):=by rw [wrap_i64 ad ad]; omega
   rw [hw];refine aI (cs:=[(false,[.slice 0]),(false,[.string]),(false,[.bool]),(false,[.int .i64])]) (p6,s9,b10,((i+1:Nat):Int),()) (l-(i+1)) rfl ad rfl
    ⟨i+1,vs.set i (⟨p7,l7,c7⟩,w.fl u x),rfl,ad,rfl,Ch.trans (k2.trans (e27.mono aj) (fun i hi _=>hi)) k8 (fun i hi _=>hi),by rw [X8]; exact hvl,s8,fun j hj hjv=>?_,?_,fun j hj hjx=>?_⟩
   ·have nin:∀ x,h1.size<=x->x∉aP p3:=fun x h1 h2=>by have:=hlt3 x h2; omega
    by_cases hji:j=i
    ·subst hji;simp only [List.getElem_set_self]
     have:SL h7 h1.size 117 2 p7 l7 c7 ((w.fl u x).e.ai.map dc):=Sx.SL.mono (s7.an e57 aj) (by have:=e24.size; omega)
     exact this.bM k8 (fun x hx=>nin x (this.cj hx).1)
    ·have hjlt:j<i:=ad
     rw [X8] at hjv;simp only [List.getElem_set_ne (Ne.symm hji)]
     have:=(own j hjlt hjv).an e27 aj
     exact this.bM k8 (fun x hx=>nin x (this.cj hx).1)
   ·rw [Y0,dZ,htk,Xf,hdr];have hl1:((xs.take i).map (w.fl u)).length=i:=by rw [W3,Xr]; omega
    rw [List.set_append_right _ _ ad,hl1,Zb,List.set_cons_zero]
    simp
   ·by_cases hji:j=i
    ·subst hji;rw [hxi]; exact hb
    ·exact hok j ad hjx
 ·have q:=W4 q;have hi:i=l:=ad
  subst hi;refine ⟨e02,?_⟩;rw [J3 w u xs (fun j hj=>hok j ad hj)];refine ⟨p3,c3,h1.size,vs,rfl,⟨s2,fun i hi=>(hlt3 i hi).2,fun u hu=>?_⟩,z1,?_⟩
  ·obtain ⟨j,hj,rfl⟩:=Xw hu;exact own j ad hj
  ·rw [dZ,XD ad,Ys ad,X4]
end
def jo (n sec i:Nat) (x:cF) (w:LW):LW :=
 if x.kind=1 then { w with num:=xU w.num (n,x.name) w.lb.length,nn:=if (w.num (n,x.name)).isSome then w.nn else w.nn+1,lb:=w.lb++[⟨n,sec,i,x.name⟩] } else w
def iB (n sec:Nat):Nat->List cF->LW->LW
 | _,[],w=>w
 | i,x::l,w=>iB n sec (i+1) l (jo n sec i x w)
def tX (n:Nat) (w:LW) (e:qY):LW:={ w with sL:=xU w.sL (n,e.1) w.ne,ne:=if (w.sL (n,e.1)).isSome then w.ne else w.ne+1 }
def EM (n:Nat) (u:cd) (w:LW):LW:=u.bg.foldl (tX n) (iB n 1 0 u.data (iB n 0 0 u.text w))
def mJ:Nat->List cd->LW->LW
 | _,[],w=>w
 | n,u::us,w=>mJ (n+1) us (EM n u w)
theorem Ba (n sec:Nat) (x:cF):∀ (l:List cF) (i:Nat) (w:LW),iB n sec i (l++[x]) w=jo n sec (i+l.length) x (iB n sec i l w)
 | [],i,w=>rfl
 | y::l,i,w=>by
  simp only [List.cons_append,iB,List.length_cons];rw [Ba n sec x l (i+1) _,show i+1+l.length=i+(l.length+1) from ad]
theorem A8 (u:cd):∀ (l:List cd) (n:Nat) (w:LW),mJ n (l++[u]) w=EM (n+l.length) u (mJ n l w)
 | [],n,w=>rfl
 | y::l,n,w=>by
  simp only [List.cons_append,mJ,List.length_cons];rw [A8 u l (n+1) _,show n+1+l.length=n+(l.length+1) from ad]
def FM (n sec i:Nat) (x:cF) (w:LW):(jo n sec i x w).lb.length<=w.lb.length+1:=by
 unfold jo;split
 ·simp
 ·omega
theorem lA (n sec:Nat):∀ (l:List cF) (i:Nat) (w:LW),(iB n sec i l w).lb.length<=w.lb.length+l.length
 | [],i,w=>by simp [iB]
 | x::l,i,w=>by
  have h1:=lA n sec l (i+1) (jo n sec i x w);have h2:=FM n sec i x w;simp only [iB,List.length_cons];omega
theorem MA (n:Nat):∀ (l:List qY) (w:LW),(l.foldl (tX n) w).lb=w.lb
 | [],w=>rfl
 | e::l,w=>by rw [XE,MA n l]; rfl
def LF (n:Nat) (u:cd) (w:LW):(EM n u w).lb.length<=w.lb.length+(u.text.length+u.data.length):=by
 unfold EM;rw [MA];have h1:=lA n 1 u.data 0 (iB n 0 0 u.text w);have h2:=lA n 0 u.text 0 w;omega
def tZ (us:List cd):Nat:=(us.map fun u=>u.text.length+u.data.length+u.bg.length+u.aY.length).sum
theorem EY:∀ (l:List cd) (n:Nat) (w:LW),(mJ n l w).lb.length<=w.lb.length+tZ l
 | [],n,w=>by simp [mJ,tZ]
 | u::l,n,w=>by
  have h1:=EY l (n+1) (EM n u w);have h2:=LF n u w;simp only [mJ,tZ,List.map_cons,List.sum_cons] at *;omega
def JM (us:List cd) (i:Nat) (hi:i<us.length):tZ (us.take i)+(us[i].text.length+us[i].data.length+us[i].bg.length+us[i].aY.length)+tZ (us.drop (i+1))=tZ us:=by
 have:us=us.take i++us[i]::us.drop (i+1):=by rw [<- Xi hi,XN]
 conv=>rhs; rw [this]
 unfold tZ;rw [Xf,List.sum_append,XH,X1];omega
structure Dp (h:Hp) (B:Nat) (us lb:cv) (sp:Int) (w:LW):Prop where
 box:N9 h (B+3) us lb B (B+1) (B+2) sp
 maps:LM h B (B+1) (B+2) w
 oC:SL h (B+4) 112 4 lb.p lb.l lb.c (w.lb.map zZ)
def Dp.an {h h':Hp} {B:Nat} {us lb:cv} {sp:Int} {w:LW} (s:Dp h B us lb sp w) (e:Ext h h'):Dp h' B us lb sp w :=
 ⟨s.box.an e aj,s.maps.an e aj aj aj,s.oC.an e aj⟩
def Dp.lt {h:Hp} {B:Nat} {us lb:cv} {sp:Int} {w:LW} (s:Dp h B us lb sp w):B+4<=h.size:=by have:=s.box.lt; omega
def Q6:Tryz.prog.underlying 90=some (.slice 112):=az
def Uc:(Tryz.prog.info? 112).map (fun i=>(i.zero,i.size,i.bytes))=some (some (.agg #[.int .i64 0,.int .i64 0,.int .i64 0,.string ⟨#[]⟩]),4,40):=az
def Lu (a b c:Int) (s:ZA):Instr.fill (fun j=>some (j*4,4)) ((Array.range (1*4)).map ((Value.agg #[.int .i64 0,.int .i64 0,.int .i64 0,.string ⟨#[]⟩]).cells[· % (Value.agg #[.int .i64 0,.int .i64 0,.int .i64 0,.string ⟨#[]⟩]).cells.size]!)) [(0,.agg #[.int .i64 a,.int .i64 b,.int .i64 c,.string s])]=some ([.int .i64 a,.int .i64 b,.int .i64 c,.string s]:List ZB).toArray:=az
section
variable {h0:Hp} {B:Nat} {us:cv} {sp:Int}
def FY {h:Hp} {lb:cv} {w:LW} (hB:h0.size=B) (e0:Ext h0 h) (s:Dp h B us lb sp w) {p:ZC} {l c:Nat} {wI:List cd} (v:xX h0 p l wI) (hlen:w.lb.length+tZ wI<=2^30) (hnu:wI.length<=2^20) (hwl:lb.l=w.lb.length) :
  HC Tryz.prog 31 #[ptr (B+3),.slice p l c] h fun x h'=>x=.tuple #[]/\∃ lb',Dp h' B us lb' sp (mJ 0 wI w)/\Ext h0 h':=by
 refine bd (args:=[ptr (B+3),.slice p l c]) mixed Tryz.func31 az (mS (some ⟨B+3,0,none⟩) p l c) ?_;unfold jd bf bh bG aQ bm bR aH br bi bT aR;have hll:=v.len;refine aU (cs:=[(false,[.int .i64])]) (fun y m' h'=>∃ (n:Nat) (lb':cv),y.1=(n:Int)/\n<=l/\m'=l-n/\Ext h0 h'/\Dp h' B us lb' sp (mJ 0 (wI.take n) w)) ((0:Int),()) l rfl ⟨0,lb,rfl,ad,ad,e0,s⟩ ?_;clear s e0;rintro ⟨n2,⟨⟩⟩ m' h1 ⟨n,lb1,hn,hnl,rfl,e1,s1⟩;simp only at hn;subst hn;refine ao ?_;refine ak (fun q=>?_) (fun q=>?_)
 ·have q:=W2 q;have hlt:n<wI.length:=ad
  obtain ⟨a,ta,tb,tc,td,ha,hc,hu⟩:=v.cells n hlt;have htk:wI.take (n+1)=wI.take n++[wI[n]]:=W7 hlt;have hL:=JM wI n hlt;have hwn:=EY (wI.take n) 0 w;generalize wI[n]=u at hc hu htk hL;generalize hw1:mJ 0 (wI.take n) w=w1 at *;refine ay ⟨ad,ad⟩ (ax ha ?_);rw [show Int.toNat (n:Int)=n from ad];refine aC ((ta.p,ta.l,ta.c),(tb.p,tb.l,tb.c),(tc.p,tc.l,tc.c),(td.p,td.l,td.c),()) (aX e1 aj _ _ hc) (ao ?_);refine bk ?_;intro h2 b2 e2 z2;refine aw b2 rfl aj ?_;intro h3 b3 k3 z3;have b3:bH h3 h1.size 47 [ta.v,tb.v,tc.v,td.v]:=b3;have e13:Ext h1 h3:=Ch.trans e2 k3 (fun i hi hl=>by simp at hi; omega);refine af b3 ((ta.p,ta.l,ta.c),()) rfl (ao ?_);rw [aG];refine af b3 ((tb.p,tb.l,tb.c),()) rfl (ao ?_);refine mH N7 VG ad ad (Nx ta.p ta.l ta.c tb.p tb.l tb.c) ?_;intro h4 b4 e4 z4;have b4:bH h4 h3.size 43 [ta.v,tb.v]:=b4;have e14:=e13.trans e4;have b34:=b3.an e4 aj;have l1:=s1.lt;have q3:=b3.lt;have hsec:∀ k,k<2->∃ s:cv,([ta.v,tb.v]:List ZB).drop k=s.v::([ta.v,tb.v]:List ZB).drop (k+1)/\Dj h0 s.p s.l (yi u k):=by
   intro k hk
   have:k=0\/k=1:=ad
   rcases this with rfl | rfl
   ·exact ⟨ta,rfl,hu.text⟩
   ·exact ⟨tb,rfl,hu.data⟩
  let wS:Nat->LW:=fun k=>if k=0 then w1 else if k=1 then iB n 0 0 u.text w1 else iB n 1 0 u.data (iB n 0 0 u.text w1)
  have hwS:∀ k,k<2->wS (k+1)=iB n k 0 (yi u k) (wS k):=by
   intro k hk
   have:k=0\/k=1:=ad
   rcases this with rfl | rfl <;> rfl
  have hwSl:∀ k,k<=2->(wS k).lb.length<=w1.lb.length+(if k=0 then 0 else if k=1 then u.text.length else u.text.length+u.data.length):=by
   intro k hk
   have:k=0\/k=1\/k=2:=ad
   rcases this with rfl | rfl | rfl
   ·simp [wS]
   ·exact lA n 0 u.text 0 w1
   ·have h1:=lA n 0 u.text 0 w1;have h2:=lA n 1 u.data 0 (iB n 0 0 u.text w1);show (iB n 1 0 u.data (iB n 0 0 u.text w1)).lb.length<=w1.lb.length+(u.text.length+u.data.length);omega
  refine aU (cs:=[(false,[.int .i64])]) (fun y m' h'=>∃ (k:Nat) (lb':cv),y.1=(k:Int)/\k<=2/\m'=2-k/\Ext h0 h'/\Dp h' B us lb' sp (wS k)/\(h1.size∉aP lb'.p/\h3.size∉aP lb'.p)/\bH h' h1.size 47 [ta.v,tb.v,tc.v,td.v]/\bH h' h3.size 43 [ta.v,tb.v]) ((0:Int),()) 2 rfl
   ⟨0,lb1,rfl,ad,ad,e1.trans e14,s1.an e14,⟨fun hm=>by have:=(s1.oC.cj hm).2; omega,fun hm=>by have:=(s1.oC.cj hm).2; omega⟩,b34,b4⟩ ?_
  clear b4 b34 e4 e14 b3 z4;rintro ⟨n26,⟨⟩⟩ m' h5 ⟨k,lb2,hk,hk2,rfl,e5,s5,d2,bu,bs⟩;simp only at hk;subst hk;refine ao ?_;refine ak (fun q=>?_) (fun q=>?_)
  ·have q:=W2 q;have hk:k<2:=ad
   obtain ⟨sl,hsl,vs⟩:=hsec k hk;have hwk:=hwS k hk;have hwkl:=hwSl k ad;have hsecl:(yi u k).length+(if k=0 then 0 else if k=1 then u.text.length else u.text.length+u.data.length)<=u.text.length+u.data.length:=by
    have:k=0\/k=1:=ad
    rcases this with rfl | rfl
    ·simp [yi]
    ·simp [yi]; omega
   refine ay ⟨ad,ad⟩ (ax rfl ?_);rw [aG];refine af bs ((sl.p,sl.l,sl.c),()) (by rw [show 0+(k:Int).toNat*1=k from ad,hsl]; rfl) ?_;refine ao ?_;generalize hxs:yi u k=xs at vs hwk hsecl;generalize hwkk:wS k=wk at *;have lk:=vs.len;refine aU (cs:=[(false,[.int .i64])]) (fun y m' h'=>∃ (i:Nat) (lb':cv),y.1=(i:Int)/\i<=sl.l/\m'=sl.l-i/\Ext h0 h'/\Dp h' B us lb' sp (iB n k 0 (xs.take i) wk)/\(h1.size∉aP lb'.p/\h3.size∉aP lb'.p)/\bH h' h1.size 47 [ta.v,tb.v,tc.v,td.v]/\bH h' h3.size 43 [ta.v,tb.v]) ((0:Int),()) sl.l rfl
    ⟨0,lb2,rfl,ad,ad,e5,s5,d2,bu,bs⟩ ?_
   clear e5 s5 bu bs;rintro ⟨n31,⟨⟩⟩ m' h6 ⟨i,lb3,hi,hil,rfl,e6,s6,d3,bu,bs⟩;simp only at hi;subst hi;refine ao ?_;refine ak (fun q=>?_) (fun q=>?_)
   ·have q:=W2 q;have hix:i<xs.length:=ad
    obtain ⟨aa,pp,ll,cc,haa,hc0,va0⟩:=vs.cells i hix;have htk2:xs.take (i+1)=xs.take i++[xs[i]]:=W7 hix;have hli:(iB n k 0 (xs.take i) wk).lb.length<=wk.lb.length+i:=by
     have:=lA n k (xs.take i) 0 wk
     rw [Xr] at this;omega
    have hstep:iB n k 0 (xs.take (i+1)) wk=jo n k i xs[i] (iB n k 0 (xs.take i) wk):=by
     rw [htk2,Ba,Xr,XK,Yc ad]
    generalize xs[i]=x at hc0 va0 hstep;generalize hwi:iB n k 0 (xs.take i) wk=wi at *;refine ay ⟨ad,ad⟩ (ax haa ?_);rw [show Int.toNat (i:Int)=i from ad];refine aC (x.kind,x.name,x.inst.op,x.inst.a,x.inst.b,x.inst.n,x.inst.form,(pp,ll,cc),(x.e.num:Int),x.n,()) (aX e6 aj _ _ hc0) (ao ?_);refine bk ?_;intro h7 b7 e7 z7;refine aw b7 rfl aj ?_;intro h8 b8 k8 z8;have b8:bH h8 h6.size 71 (Ob.encI pp ll cc x):=b8;have e68:Ext h6 h8:=Ch.trans e7 k8 (fun i hi hl=>by simp at hi; omega);have bu8:=bu.an e68 aj;have bs8:=bs.an e68 aj;have s8:=s6.an e68;have hw:IntKind.wrap .i64 ((i:Int)+1)=((i+1:Nat):Int):=by rw [wrap_i64 ad ad]; omega
    have l6:=s6.lt;have q6:=b8.lt;refine af b8 (x.kind,()) rfl (ao ?_);refine ak (fun r=>?_) (fun r=>?_)
    ·have r:x.kind=1:=by simpa using r
     have hp:jo n k i x wi={ wi with num:=xU wi.num (n,x.name) wi.lb.length,nn:=if (wi.num (n,x.name)).isSome then wi.nn else wi.nn+1,lb:=wi.lb++[⟨n,k,i,x.name⟩] }:=by unfold jo; rw [Xb r]
     refine ax rfl ?_;rw [aG];refine af s8.box (some B,()) rfl (ao ?_);rw [aG];refine af b8 (x.name,()) rfl (ao ?_);refine ax rfl ?_;rw [aG];refine af s8.box ((lb3.p,lb3.l,lb3.c),()) rfl (ao ?_);have hlb3:lb3.l=wi.lb.length:=by rw [s8.oC.1,W3]
     refine Q2 s8.maps.n n x.name (w:=wi.lb.length) ad ?_;intro h9 m9 k9 z9;have x9:=s8.box.an k9 aj;have me9:=s8.maps.e.an k9 aj;have mg9:=s8.maps.g.an k9 aj;have ls9:=s8.oC.bM k9 (fun j hj=>by have:=(s8.oC.cj hj).1; simp; omega);have b9:=b8.an k9 (by simp; omega);refine ax rfl ?_;rw [aG];refine af x9 ((lb3.p,lb3.l,lb3.c),()) rfl (ao ?_);refine af b9 (x.name,()) rfl (ao ?_);refine gI (e:=112) (z:=.agg #[.int .i64 0,.int .i64 0,.int .i64 0,.string ⟨#[]⟩]) (sz:=4) (by':=40) Q6 Uc rfl ad ad (Lu _ _ _ _) rfl rfl ls9 ad ad ad (fun h' e=>⟨(b9.an e aj).cells _ rfl,(x9.an e aj).cells _ rfl,trivial⟩) ?_;intro p' c' h10 s10 k10 hp10;have nin:∀ j,j<B+4->j∉aP lb3.p:=fun j h1 h2=>by have:=(s8.oC.cj h2).1; omega
     have nin2:∀ j,h6.size<=j->j∉aP lb3.p:=fun j h1 h2=>by have:=(s6.oC.cj h2).2; omega
     have b10:=b9.an k10 (nin2 _ ad);have x10:=x9.an k10 (nin _ ad);refine ⟨⟨b10.cells _ rfl,trivial⟩,?_⟩;refine ax rfl ?_;rw [aG];refine aw x10 rfl aj ?_;intro h11 x11 k11 z11;have x11:N9 h11 (B+3) us ⟨p',lb3.l+1,c'⟩ B (B+1) (B+2) sp:=x11;rw [hw];have e611:Ext h0 h11:=Ch.trans (Ch.trans (Ch.trans (e6.trans e68) k9 (fun j hj hl=>by simp at hj; omega)) k10 (fun j hj hl=>by have:=(s8.oC.cj hj).1; omega)) k11 (fun j hj hl=>by simp at hj; omega);have q56:h1.size<h3.size:=q3;have q36:h3.size<h6.size:=bs.lt;have d4:h1.size∉aP p'/\h3.size∉aP p':=by
      rcases hp10 with rfl | ⟨a',rfl,ha'⟩
      ·exact d3
      ·simp only [aP,List.mem_singleton]; omega
     refine aI (cs:=[(false,[.int .i64])]) (((i+1:Nat):Int),()) (sl.l-(i+1)) rfl ad rfl ⟨i+1,⟨p',lb3.l+1,c'⟩,rfl,ad,rfl,e611,?_,d4,?_,?_⟩
     ·rw [hstep,hp];refine ⟨x11,⟨(m9.an k10 (nin _ ad)).an k11 aj,(me9.an k10 (nin _ ad)).an k11 aj,(mg9.an k10 (nin _ ad)).an k11 aj⟩,?_⟩;show SL h11 (B+4) 112 4 p' (lb3.l+1) c' ((wi.lb++[(⟨n,k,i,x.name⟩:Lb)]).map zZ);rw [Xf];exact s10.bM k11 (fun j hj=>by have:=(s10.cj hj).1; simp; omega)
     ·exact ((bu8.an k9 (by simp; omega)).an k10 d3.1).an k11 (by simp; omega)
     ·exact ((bs8.an k9 (by simp; omega)).an k10 d3.2).an k11 (by simp; omega)
    ·have r:¬ x.kind=1:=by simpa using r
     have hp:jo n k i x wi=wi:=by unfold jo; rw [W6 r]
     rw [hw];refine aI (cs:=[(false,[.int .i64])]) (((i+1:Nat):Int),()) (sl.l-(i+1)) rfl ad rfl ⟨i+1,lb3,rfl,ad,rfl,e6.trans e68,by rw [hstep,hp]; exact s8,d3,bu8,bs8⟩
   ·have q:=W4 q;have hi:i=xs.length:=ad
    subst hi;rw [XD (Xk _)] at s6;have hw:IntKind.wrap .i64 ((k:Int)+1)=((k+1:Nat):Int):=by rw [wrap_i64 ad ad]; omega
    rw [hw];refine aI (cs:=[(false,[.int .i64])]) (((k+1:Nat):Int),()) (2-(k+1)) rfl ad rfl ⟨k+1,lb3,rfl,ad,rfl,e6,by rw [hwk]; exact s6,d3,bu,bs⟩
  ·have q:=W4 q;have hk:k=2:=ad
   subst hk;clear bs;rw [aG];refine af bu ((tc.p,tc.l,tc.c),()) rfl (ao ?_);have ve:=hu.bg;have le:=ve.len;have hw2:wS 2=iB n 1 0 u.data (iB n 0 0 u.text w1):=rfl;have hne:∀ (i:Nat),(hi:i<u.bg.length)->(u.bg.take (i+1)).foldl (tX n) (wS 2)=tX n ((u.bg.take i).foldl (tX n) (wS 2)) (u.bg[i]'ad):=by
    intro i hi;rw [W7 hi,XX] <;> rfl
   refine aU (cs:=[(false,[.int .i64])]) (fun y m' h'=>∃ (i:Nat),y.1=(i:Int)/\i<=tc.l/\m'=tc.l-i/\Ext h0 h'/\Dp h' B us lb2 sp ((u.bg.take i).foldl (tX n) (wS 2))) ((0:Int),()) tc.l rfl
    ⟨0,rfl,ad,ad,e5,s5⟩ ?_
   clear e5 s5 bu;rintro ⟨n30,⟨⟩⟩ m' h6 ⟨i,hi,hil,rfl,e6,s6⟩;simp only at hi;subst hi;refine ao ?_;refine ak (fun q=>?_) (fun q=>?_)
   ·have q:=W2 q;have hix:i<u.bg.length:=ad
    obtain ⟨aa,pp,ll,cc,haa,hc0,va0,hsz⟩:=ve.cells i hix;have hne:=hne i hix;generalize u.bg[i]=x at hc0 va0 hsz hne;generalize hwi:(u.bg.take i).foldl (tX n) (wS 2)=wi at *;refine ay ⟨ad,ad⟩ (ax haa ?_);rw [show Int.toNat (i:Int)=i from ad];refine aC (x.1,(pp,ll,cc),(x.2.num:Int),()) (aX e6 aj _ _ hc0) (ao ?_);refine bk ?_;intro h7 b7 e7 z7;refine aw b7 rfl aj ?_;intro h8 b8 k8 z8;have b8:bH h8 h6.size 100 [.string x.1,.slice pp ll cc,.int .u32 (x.2.num:Int)]:=b8;have e68:Ext h6 h8:=Ch.trans e7 k8 (fun i hi hl=>by simp at hi; omega);have s8:=s6.an e68;have l6:=s6.lt;have q6:=b8.lt;refine ax rfl ?_;rw [aG];refine af s8.box (some (B+1),()) rfl (ao ?_);refine af b8 (x.1,()) rfl (ao ?_);refine ax rfl ?_;rw [aG];refine af s8.box (some (B+1),()) rfl (ao ?_);refine Un s8.maps.e ?_;refine ⟨⟨b8.cells _ rfl,s8.box.cells _ rfl,trivial⟩,?_⟩;refine Q2 s8.maps.e n x.1 (w:=wi.ne) rfl ?_;intro h9 m9 k9 z9;have hw:IntKind.wrap .i64 ((i:Int)+1)=((i+1:Nat):Int):=by rw [wrap_i64 ad ad]; omega
    rw [hw];refine aI (cs:=[(false,[.int .i64])]) (((i+1:Nat):Int),()) (tc.l-(i+1)) rfl ad rfl ⟨i+1,rfl,ad,rfl,Ch.trans (e6.trans e68) k9 (fun j hj hl=>by simp at hj; omega),?_⟩;rw [hne];exact ⟨s8.box.an k9 aj,⟨s8.maps.n.an k9 aj,m9,s8.maps.g.an k9 aj⟩,s8.oC.bM k9 (fun j hj=>by have:=(s8.oC.cj hj).1; simp; omega)⟩
   ·have q:=W4 q;have hi:i=u.bg.length:=ad
    subst hi;rw [XD (Xk _)] at s6;have hw:IntKind.wrap .i64 ((n:Int)+1)=((n+1:Nat):Int):=by rw [wrap_i64 ad ad]; omega
    rw [hw];refine aI (cs:=[(false,[.int .i64])]) (((n+1:Nat):Int),()) (l-(n+1)) rfl ad rfl ⟨n+1,lb2,rfl,ad,rfl,e6,?_⟩;rw [htk,A8,Xr,XK,Yc ad,hw1];exact s6
 ·have q:=W4 q;have hn:n=wI.length:=ad
  subst hn;rw [XD (Xk _)] at s1;exact ⟨rfl,lb1,s1,e1⟩
end
def ul (n:Nat) (w:LW) (s:ZA):LW:={ w with gl:=dC w.gl s n,ng:=if (w.gl s).isSome then w.ng else w.ng+1 }
def EJ (n:Nat) (u:cd) (w:LW):LW:=u.aY.foldl (ul n) w
def kq:Nat->List cd->LW->Except (Nat × ZA) LW
 | _,[],w=>.ok w
 | n,u::us,w=>match u.aY.find? fun g=>(w.gl g).isSome with
  | some g=>.error (n,g)
  | none=>kq (n+1) us (EJ n u w)
theorem Nk (n:Nat):∀ (l:List ZA) (w:LW),(l.foldl (ul n) w).lb=w.lb/\(l.foldl (ul n) w).num=w.num/\(l.foldl (ul n) w).nn=w.nn/\(l.foldl (ul n) w).sL=w.sL/\(l.foldl (ul n) w).ne=w.ne
 | [],w=>⟨rfl,rfl,rfl,rfl,rfl⟩
 | e::l,w=>by rw [XE]; exact Nk n l _
section
variable {h0:Hp} {B:Nat} {us lb:cv} {sp:Int}
def IK {h:Hp} {w:LW} (hB:h0.size=B) (e0:Ext h0 h) (s:Dp h B us lb sp w) {p:ZC} {l c:Nat} {wI:List cd} (v:xX h0 p l wI) (hnu:wI.length<=2^20) :
  HC Tryz.prog 32 #[ptr (B+3),.slice p l c] h fun x h'=>Ext h0 h'/\match kq 0 wI w with
   | .error q=>x=.tuple #[.agg #[.int .i64 22,.int .i64 (q.1:Int),.string q.2],.bool true]
   | .ok w'=>x=.tuple #[.agg #[.int .i64 0,.int .i64 0,.string ⟨#[]⟩],.bool false]/\Dp h' B us lb sp w':=by
 refine bd (args:=[ptr (B+3),.slice p l c]) mixed Tryz.func32 az (nv (some ⟨B+3,0,none⟩) p l c) ?_;unfold jW bf bh bG aQ bR br bi bT aR cg;have hll:=v.len;generalize hM:kq 0 wI w=M;refine bk ?_;intro h1 b1 e1 z1;have l0:=s.lt;refine aU (cs:=[(false,[.bool]),(false,[.int .i64])]) (fun y m' h'=>∃ (n:Nat) (w':LW),y.2.1=(n:Int)/\n<=l/\m'=l-n/\Ext h0 h'/\Dp h' B us lb sp w'/\bH h' h.size 54 [.int .i64 0,.int .i64 0,.string ⟨#[]⟩]/\kq n (wI.drop n) w'=M) (false,(0:Int),()) l rfl
  ⟨0,w,rfl,ad,ad,e0.trans e1,s.an e1,b1,hM⟩ ?_
 have z0:=e0.size;have hlb:∀ i,i∈aP lb.p->i<h.size:=fun i hi=>(s.oC.cj hi).2
 clear hM s b1;rintro ⟨b3,n4,⟨⟩⟩ m' h2 ⟨n,w,hn,hnl,rfl,e2,s,b1,hM⟩;simp only at hn;subst hn;refine ao ?_;have q1:=b1.lt;refine ak (fun q=>?_) (fun q=>?_)
 ·have q:=W2 q;have hlt:n<wI.length:=ad
  obtain ⟨a,ta,tb,tc,td,ha,hc,hu⟩:=v.cells n hlt;rw [Xi hlt] at hM;generalize wI[n]=u at hc hu hM;refine ay ⟨ad,ad⟩ (ax ha ?_);rw [show Int.toNat (n:Int)=n from ad];refine aC ((ta.p,ta.l,ta.c),(tb.p,tb.l,tb.c),(tc.p,tc.l,tc.c),(td.p,td.l,td.c),()) (aX e2 aj _ _ hc) (ao ?_);refine bk ?_;intro h3 b3' e3 z3;refine aw b3' rfl aj ?_;intro h4 b4 k4 z4;have b4:bH h4 h2.size 47 [ta.v,tb.v,tc.v,td.v]:=b4;have e24:Ext h2 h4:=Ch.trans e3 k4 (fun i hi hl=>by simp at hi; omega);have e04:=e2.trans e24;have s4:=s.an e24;have b14:=b1.an e24 aj;have vg:=hu.aY;have lg:=vg.len;have mg:=vg.many;have q4:=b4.lt;have l2:=s.lt;rw [aG];refine af b4 ((td.p,td.l,td.c),()) rfl (ao ?_);refine aU (cs:=[(false,[.bool]),(false,[.int .i64])]) (fun y m' h'=>∃ (i:Nat),y.2.1=(i:Int)/\i<=td.l/\m'=td.l-i/\h'=h4/\∀ j,(hj:j<i)->(hx:j<u.aY.length)->(w.gl u.aY[j]).isSome=false) (b3,(0:Int),()) td.l rfl
   ⟨0,rfl,ad,ad,rfl,by intro j hj; omega⟩ ?_
  rintro ⟨b22,n23,⟨⟩⟩ m' h5 ⟨i,hi,hil,rfl,rfl,hok⟩;simp only at hi;subst hi;refine ao ?_;refine ak (fun q=>?_) (fun q=>?_)
  ·have q:=W2 q;have hix:i<u.aY.length:=ad
   obtain ⟨aa,haa,hc0,hsz⟩:=vg.cells i hix;refine ay ⟨ad,ad⟩ (ax haa ?_);rw [show Int.toNat (i:Int)=i from ad];refine aC (u.aY[i],()) (aX e04 aj _ _ hc0) (ao ?_);refine ax rfl ?_;rw [aG];refine af s4.box (some (B+2),()) rfl (ao ?_);refine CD s4.maps.g u.aY[i] ?_;refine ak (fun r=>?_) (fun r=>?_)
   ·refine aw b14 rfl aj ?_;intro h6 b6 k6 z6;have b6:bH h6 h.size 54 [.int .i64 22,.int .i64 (n:Int),.string u.aY[i]]:=b6;refine af b6 ((22:Int),(n:Int),u.aY[i],()) rfl ?_;have hf:M=.error (n,u.aY[i]):=by
     rw [<- hM,kq,kO _ u.aY i hix (fun j hj=>hok j hj ad) r]
    subst hf;exact ⟨Ch.trans e04 k6 (fun j hj hl=>by simp at hj; omega),rfl⟩
   ·have hw:IntKind.wrap .i64 ((i:Int)+1)=((i+1:Nat):Int):=by rw [wrap_i64 ad ad]; omega
    rw [hw];refine aI (cs:=[(false,[.bool]),(false,[.int .i64])]) (b22,((i+1:Nat):Int),()) (td.l-(i+1)) rfl ad rfl ⟨i+1,rfl,ad,rfl,rfl,fun j hj hx=>?_⟩
    by_cases hji:j=i
    ·subst hji; exact r
    ·exact hok j ad hx
  ·have q:=W4 q;have hi:i=u.aY.length:=ad
   subst hi;have hM2:kq (n+1) (wI.drop (n+1)) (EJ n u w)=M:=by
    rw [<- hM,kq,nz _ u.aY (fun j hj=>hok j hj hj)]
   refine af b4 ((td.p,td.l,td.c),()) rfl (ao ?_);refine aU (cs:=[(false,[.int .i64])]) (fun y m' h'=>∃ (i:Nat),y.1=(i:Int)/\i<=td.l/\m'=td.l-i/\Ext h0 h'/\Dp h' B us lb sp ((u.aY.take i).foldl (ul n) w)/\bH h' h.size 54 [.int .i64 0,.int .i64 0,.string ⟨#[]⟩]) ((0:Int),()) td.l rfl
    ⟨0,rfl,ad,ad,e04,s4,b14⟩ ?_
   clear s4 b14;rintro ⟨n27,⟨⟩⟩ m' h6 ⟨i,hi,hil',rfl,e6,s6,b16⟩;simp only at hi;subst hi;refine ao ?_;refine ak (fun q=>?_) (fun q=>?_)
   ·have q:=W2 q;have hix:i<u.aY.length:=ad
    obtain ⟨aa,haa,hc0,hsz⟩:=vg.cells i hix;have hst:(u.aY.take (i+1)).foldl (ul n) w=ul n ((u.aY.take i).foldl (ul n) w) u.aY[i]:=by
     rw [W7 hix,XX] <;> rfl
    generalize u.aY[i]=x at hc0 hsz hst;generalize (u.aY.take i).foldl (ul n) w=wi at *;refine ay ⟨ad,ad⟩ (ax haa ?_);rw [show Int.toNat (i:Int)=i from ad];refine aC (x,()) (aX e6 aj _ _ hc0) (ao ?_);refine ax rfl ?_;rw [aG];refine af s6.box (some (B+2),()) rfl (ao ?_);have l6:=s6.lt;refine qn s6.maps.g hsz (w:=n) rfl ?_;intro h7 m7 k7 z7;have hw:IntKind.wrap .i64 ((i:Int)+1)=((i+1:Nat):Int):=by rw [wrap_i64 ad ad]; omega
    rw [hw];refine aI (cs:=[(false,[.int .i64])]) (((i+1:Nat):Int),()) (td.l-(i+1)) rfl ad rfl ⟨i+1,rfl,ad,rfl,Ch.trans e6 k7 (fun j hj hl=>by simp at hj; omega),?_,b16.an k7 (by simp; omega)⟩;rw [hst];exact ⟨s6.box.an k7 aj,⟨s6.maps.n.an k7 aj,s6.maps.e.an k7 aj,m7⟩,s6.oC.bM k7 (fun j hj=>by have:=(s6.oC.cj hj).1; simp; omega)⟩
   ·have q:=W4 q;have hi:i=u.aY.length:=ad
    subst hi;rw [XD (Xk _)] at s6;have hw:IntKind.wrap .i64 ((n:Int)+1)=((n+1:Nat):Int):=by rw [wrap_i64 ad ad]; omega
    rw [hw];exact aI (cs:=[(false,[.bool]),(false,[.int .i64])]) (b22,((n+1:Nat):Int),()) (l-(n+1)) rfl ad rfl ⟨n+1,_,rfl,ad,rfl,e6,s6,b16,hM2⟩
 ·have q:=W4 q;have hn:n=wI.length:=ad
  subst hn;rw [Ys (Xk _)] at hM;subst hM;refine aw b1 rfl aj ?_;intro h3 b3' k3 z3;have b3':bH h3 h.size 54 [.int .i64 0,.int .i64 0,.string ⟨#[]⟩]:=b3';refine af b3' ((0:Int),(0:Int),(⟨#[]⟩:ZA),()) rfl ?_;refine ⟨Ch.trans e2 k3 (fun j hj hl=>by simp at hj; omega),rfl,?_⟩;exact ⟨s.box.an k3 (by simp; omega),s.maps.an k3 (by simp; omega) (by simp; omega) (by simp; omega),s.oC.bM k3 (fun j hj=>by have:=hlb j hj; simp; omega)⟩
end
end Go.Sx.Lk
namespace Go.Sx.Ob
open Go.Proofs
def TL (x:cF):Bool:=decide (x.kind=2) && px x.inst.op
def jH (l:List cF):Nat:=(l.filter TL).length
def GR (l:List cF) (i:Nat) (hi:i<l.length):jH (l.take (i+1))=jH (l.take i)+if TL l[i]=true then 1 else 0:=by
 unfold jH;rw [W7 hi,List.filter_append,W8]
 congr 1
 by_cases hk:TL l[i]=true <;> simp [hk]
def yN (l:List cF):jH l<=l.length:=Yo _ _
def IV {h:Hp} (t:Ar h) {a b c d:cv} {u:cd} (v:sO h a b c d u):HC Tryz.prog 36 #[DL a b c d] h fun w h'=>w=.int .i64 ((if eS u=0 then jH u.text else 0:Nat):Int)/\Ext h h':=by
 refine bd (args:=[DL a b c d]) mixed Tryz.func36 az (ye a.p a.l a.c b.p b.l b.c c.p c.l c.c d.p d.l d.c) ?_;unfold u7 bf bh bG aQ aT cD aH bi bT aR;refine bk ?_;intro h1 b1 e1 z1;have b1:bH h1 h.size 47 [a.v,b.v,c.v,d.v]:=b1;refine af b1 ((a.p,a.l,a.c),(b.p,b.l,b.c),(c.p,c.l,c.c),(d.p,d.l,d.c),()) rfl (ao ?_);refine aK (uV (t.an e1 aj) (v.an e1)) ?_;rintro _ h2 ⟨rfl,e2⟩;refine ⟨((eS u:Int),()),rfl,ao ?_⟩;have e02:=e1.trans e2;refine ak (fun r=>?_) (fun r=>?_)
 ·have r:¬ eS u=0:=by simpa using r
  rw [W6 r];exact ⟨rfl,e02⟩
 have r:eS u=0:=by simpa using r
 rw [Xb r];have b2:=b1.an e2 aj;refine af b2 ((a.p,a.l,a.c),()) rfl (ao ?_);have n:=v.text.len;have m1:=v.text.many;refine aU (cs:=[(false,[.int .i64]),(false,[.int .i64])]) (fun y m h'=>∃ i:Nat,y.2.1=(i:Int)/\y.1=(jH (u.text.take i):Int)/\m=u.text.length-i/\i<=u.text.length/\Ext h h') ((0:Int),(0:Int),()) u.text.length rfl
  ⟨0,rfl,rfl,rfl,ad,e02⟩ ?_
 rintro ⟨n1,n2,⟨⟩⟩ m g ⟨i,hi,hn,rfl,hle,eg⟩;simp only at hi hn;subst hi hn;refine ao ?_;refine ak (fun q=>?_) (fun q=>?_)
 ·have q:=W2 q;have hil:i<u.text.length:=ad
  obtain ⟨aa,pp,ll,cc,rfl',hc,va⟩:=(v.text.an eg).cells i hil;have ht:=GR u.text i hil;have hsl:jH (u.text.take i)<=i:=by have:=yN (u.text.take i); rw [Xr] at this; omega
  generalize u.text[i]=x at hc va ht;refine ay ⟨ad,ad⟩ (ax rfl' ?_);rw [show Int.toNat (i:Int)=i from ad];refine aC (x.kind,x.name,x.inst.op,x.inst.a,x.inst.b,x.inst.n,x.inst.form,(pp,ll,cc),(x.e.num:Int),x.n,()) hc (ao ?_);refine bk ?_;intro g1 c1 f1 y1;refine aw c1 rfl aj ?_;intro g2 c2 k2 y2;have c2:bH g2 g.size 71 (encI pp ll cc x):=c2;have f2:Ext g g2:=Ch.trans f1 k2 (fun i hi hl=>by simp at hi; omega);have eg2:=eg.trans f2;refine af c2 (x.kind,()) rfl (ao ?_);refine ak (fun r=>?_) (fun r=>?_)
  ·have r:x.kind=2:=by simpa using r
   rw [aG];refine af c2 (x.inst.op,()) rfl (ao ?_);refine aK (zE (t.an eg2 aj) x.inst.op va.op.1 va.op.2) ?_;rintro _ g3 ⟨rfl,f3⟩;refine ⟨(px x.inst.op,()),rfl,ao ?_⟩;refine ak (fun s=>?_) (fun s=>?_)
   ·rw [Xb (by unfold TL; rw [W9 r,s]; rfl)] at ht;refine aI (cs:=[(false,[.int .i64]),(false,[.int .i64])]) (((jH (u.text.take i)+1:Nat):Int),((i+1:Nat):Int),()) (u.text.length-(i+1)) rfl ad (by rw [wrap_i64 ad ad,wrap_i64 ad ad]; rfl) ?_;exact ⟨i+1,rfl,by rw [ht],rfl,ad,eg2.trans f3⟩
   ·rw [W6 (by unfold TL; rw [W9 r,s]; decide)] at ht;refine aI (cs:=[(false,[.int .i64]),(false,[.int .i64])]) ((jH (u.text.take i):Int),((i+1:Nat):Int),()) (u.text.length-(i+1)) rfl ad (by rw [wrap_i64 ad ad]; rfl) ?_;exact ⟨i+1,rfl,by rw [ht]; rfl,rfl,ad,eg2.trans f3⟩
  ·have r:¬ x.kind=2:=by simpa using r
   rw [W6 (by unfold TL; rw [Xa r]; simp)] at ht;refine aI (cs:=[(false,[.int .i64]),(false,[.int .i64])]) ((jH (u.text.take i):Int),((i+1:Nat):Int),()) (u.text.length-(i+1)) rfl ad (by rw [wrap_i64 ad ad]; rfl) ?_;exact ⟨i+1,rfl,by rw [ht]; rfl,rfl,ad,eg2⟩
 ·have q:=W4 q
  have:i=u.text.length:=ad
  subst this;rw [XB];exact ⟨rfl,eg⟩
end Go.Sx.Ob
namespace Go.Sx.Lk
open Go.Proofs Go.Sx.Ob
variable {h':Hp} {fs:List cI}
structure kb where
 s:cv
 ws:List (cv × cF)
def UY:kb:=⟨lX,[]⟩
structure mh (h:Hp) (b:Nat) (x:kb):Prop where
 out:SL h b 71 10 x.s.p x.s.l x.s.c (x.ws.map sK)
 fm:∀ u,u∈x.ws->SL h b 117 2 u.1.p u.1.l u.1.c (u.2.e.ai.map dc)
def mh.an {h:Hp} {b:Nat} {x:kb} {ws:List Nat} (s:mh h b x) (k:Ch ws h h') (h1:∀ i,i∈aP x.s.p->i∉ws) (h2:∀ u,u∈x.ws->∀ i,i∈aP u.1.p->i∉ws):mh h' b x :=
 ⟨s.out.bM k h1,fun u hu=>(s.fm u hu).bM k (h2 u hu)⟩
def mh.ext {h:Hp} {b:Nat} {x:kb} (s:mh h b x) (k:Ext h h'):mh h' b x:=s.an k aj aj
def mh.mono {h:Hp} {b b':Nat} {x:kb} (s:mh h b x) (hb:b'<=b):mh h b' x:=⟨s.out.mono hb,fun u hu=>(s.fm u hu).mono hb⟩
structure kQ (h:Hp) (b N:Nat) (S:Nat->kb):Prop where
 sec:∀ k,k<N->mh h b (S k)
 ap:∀ k j,k<N->j<N->k≠j->∀ x,x∈aP (S k).s.p->x∉aP (S j).s.p
def kQ.ext {h:Hp} {b N:Nat} {S:Nat->kb} (s:kQ h b N S) (k:Ext h h'):kQ h' b N S:=⟨fun j hj=>(s.sec j hj).ext k,s.ap⟩
def kQ.mv {h:Hp} {b N:Nat} {S:Nat->kb} {ws:List Nat} (s:kQ h b N S) (k:Ch ws h h') (hw:∀ i,i∈ws->i<b):kQ h' b N S :=
 ⟨fun j hj=>(s.sec j hj).an k (fun i hi hm=>by have:=((s.sec j hj).out.cj hi).1; have:=hw i hm; omega) (fun u hu i hi hm=>by have:=(((s.sec j hj).fm u hu).cj hi).1; have:=hw i hm; omega),s.ap⟩
def kQ.qV {h:Hp} {b N:Nat} {S:Nat->kb} {b2:Nat} {e:TypeId} {sz:Nat} {p:ZC} {l c:Nat} {xs:List (List ZB)} (s:kQ h b N S) (t:SL h b2 e sz p l c xs) (k:Ch (aP p) h h') (h1:e≠71) (h2:e≠117):kQ h' b N S :=
 ⟨fun j hj=>(s.sec j hj).an k (fun i hi hm=>uv t (s.sec j hj).out h1 i hm hi) (fun u hu i hi hm=>uv t ((s.sec j hj).fm u hu) h2 i hm hi),s.ap⟩
def kK (S:Nat->kb) (k:Nat) (x:kb):Nat->kb:=fun j=>if j=k then x else S j
def kQ.nil (h:Hp) (b:Nat) (S:Nat->kb):kQ h b 0 S:=⟨fun k hk=>absurd hk ad,fun k j hk=>absurd hk ad⟩
def kQ.add {h:Hp} {b N:Nat} {S:Nat->kb} (s:kQ h b N S) (e:Ext h h') (hb:b<=h.size) {x:kb} (hx:mh h' h.size x):kQ h' b (N+1) (kK S N x):=by
 have s':=s.ext e;refine ⟨fun k hk=>?_,fun k j hk hj hkj y hy hy2=>?_⟩
 ·unfold kK
  by_cases hkN:k=N
  ·rw [Xb hkN]; exact hx.mono hb
  ·rw [W6 hkN]; exact s'.sec k ad
 ·unfold kK at hy hy2
  by_cases hkN:k=N <;> by_cases hjN:j=N
  ·omega
  ·rw [Xb hkN] at hy;rw [W6 hjN] at hy2;have h1:=(hx.out.cj hy).1;have h2:=((s.sec j ad).out.cj hy2).2;omega
  ·rw [W6 hkN] at hy;rw [Xb hjN] at hy2;have h1:=(hx.out.cj hy2).1;have h2:=((s.sec k ad).out.cj hy).2;omega
  ·rw [W6 hkN] at hy;rw [W6 hjN] at hy2;exact s.ap k j ad ad hkj y hy hy2
def kQ.put {h:Hp} {b N:Nat} {S:Nat->kb} (s:kQ h b N S) {k:Nat} (hk:k<N) {i:Nat} (hi:i<(S k).ws.length) {q:cv × cF} (hq:SL h b 117 2 q.1.p q.1.l q.1.c (q.2.e.ai.map dc))
  (ho:SL h' b 71 10 (S k).s.p (S k).s.l (S k).s.c (((S k).ws.set i q).map sK)) (c:Ch (aP (S k).s.p) h h'):kQ h' b N (kK S k ⟨(S k).s,(S k).ws.set i q⟩):=by
 have hnt:∀ {p:ZC} {l c:Nat} {ts:da},SL h b 117 2 p l c (ts.map dc)->SL h' b 117 2 p l c (ts.map dc):=fun t=>t.bM c (fun x hx hm=>uv t (s.sec k hk).out cn x hx hm)
 refine ⟨fun j hj=>?_,fun j m hj hm hjm y hy hy2=>?_⟩
 ·unfold kK
  by_cases hjk:j=k
  ·rw [Xb hjk];refine ⟨ho,fun u hu=>?_⟩;rcases Yg hu with hu | rfl
   ·exact hnt ((s.sec k hk).fm u hu)
   ·exact hnt hq
  ·rw [W6 hjk];exact ⟨(s.sec j hj).out.bM c (fun x hx hm=>s.ap j k hj hk hjk x hx hm),fun u hu=>hnt ((s.sec j hj).fm u hu)⟩
 ·have e1:∀ j,(kK S k ⟨(S k).s,(S k).ws.set i q⟩ j).s=(S j).s:=by
   intro j;unfold kK
   by_cases hjk:j=k
   ·rw [Xb hjk,hjk]
   ·rw [W6 hjk]
  rw [e1] at hy hy2;exact s.ap j m hj hm hjm y hy hy2
def xk (S:Nat->kb) (n:Nat):List ZB:=[(S (2*n)).s.v,(S (2*n+1)).s.v,lX.v,lX.v]
def mn (S:Nat->kb) (n:Nat):List (List ZB):=(List.range n).map (xk S)
def GH (S:Nat->kb) (n:Nat) (a b:kb):mn (kK (kK S (2*n) a) (2*n+1) b) (n+1)=mn S n++[[a.s.v,b.s.v,lX.v,lX.v]]:=by
 unfold mn;rw [List.range_succ,Xf]
 congr 1
 ·apply XQ;intro i hi;have hi:i<n:=YM.1 hi;unfold xk kK;rw [W6 ad,W6 ad,W6 ad,W6 ad]
 ·show [xk _ n]=_;unfold xk kK;rw [W6 ad,Xb rfl,Xb rfl]
def js (S:Nat->kb) (n:Nat):(mn S n).length=n:=by unfold mn; simp
def BO (S:Nat->kb) (n i:Nat) (hi:i<(mn S n).length):(mn S n)[i]=xk S i:=by
 have:i<n:=by simpa [js] using hi
 show ((List.range n).map (xk S))[i]'(by simpa using this)=_;rw [Xc,List.getElem_range]
def eY (D:List (ZA × cm)):List cI:=D.map fun q=>⟨q.1,none,0,0,q.2⟩
def fe (e:cI):ZA × cm:=(e.name,e.x)
def oT (D:List (ZA × cm)):(eY D).map fe=D:=by
 unfold eY;rw [Xv];exact List.map_id _
def Jw {es:List cI} (h:es.map fe=fs.map fe):aZ es=aZ fs:=by
 have:=Xj (List.map (·.1)) h
 rw [Xv,Xv] at this;exact this
def HE {es:List cI} (h:es.map fe=fs.map fe) (s:ZA):j8 es s=j8 fs s:=by
 unfold j8;have hf:∀ l:List cI,l.findIdx? (fun e=>decide (e.name=s))=(l.map fe).findIdx? fun q=>decide (q.1=s):=by
  intro l;rw [Y4] <;> rfl
 rw [hf,hf,h]
def Cb {es:List cI} (h:es.map fe=fs.map fe):ct es=ct fs:=by
 funext s
 unfold ct;rw [HE h]
def Ca {es:List cI} (h:es.map fe=fs.map fe):de es=de fs:=by
 funext s
 unfold de;rw [HE h];cases j8 fs s with
 | none=>rfl
 | some k =>
  have hx:es[k]?.map (·.x)=fs[k]?.map (·.x):=by
   have h1:(es.map fe)[k]?=(fs.map fe)[k]?:=by rw [h]
   rw [XO,XO] at h1;have h2:=Xj (Option.map (·.2)) h1;rw [Option.map_map,Option.map_map] at h2;exact h2
  show (es[k]?.map (·.x)).getD tD=(fs[k]?.map (·.x)).getD tD;rw [hx]
def H' {es:List cI} (h:es.map fe=fs.map fe):eO es=eO fs:=by
 funext s
 unfold eO;rw [Cb h,Ca h,Jw h]
def Ao {es:List cI} (h:es.map fe=fs.map fe):dl es=dl fs:=by
 unfold dl;rw [Cb h,Ca h]
def ma (D:List (ZA × cm)):List (ZA × cm):=D.map fun q=>(q.1,eO (eY D) q.1)
def uR (D:List (ZA × cm)) (x:cm):cm:=db (cr (eY D)) x
def EQ {es:List cI} (h:es.map fe=fs.map fe):cr es=cr fs:=by
 funext s
 unfold cr;rw [Cb h,Ca h]
def ef:Nat->List cd->List (Nat × qY)
 | _,[]=>[]
 | n,u::us=>u.bg.map (fun e=>(n,e))++ef (n+1) us
theorem qF (u:cd):∀ (l:List cd) (n:Nat),ef n (l++[u])=ef n l++u.bg.map fun e=>(n+l.length,e)
 | [],n=>by simp [ef]
 | y::l,n=>by
  simp only [List.cons_append,ef,List.length_cons];rw [qF u l (n+1),show n+1+l.length=n+(l.length+1) from ad,Xs]
def uS (w:LW) (us:List cd):List (ZA × cm):=(ef 0 us).map fun q=>(w.word (q.1,q.2.1),w.lin q.1 q.2.2)
def qG (w:LW) (n:Nat) (u:cd):Option ZA:=(w.yc n u.text).or ((w.yc n u.data).or (u.bg.findSome? fun e=>w.bad n e.2))
def fJ (w:LW):Nat->List cd->Option (Nat × ZA)
 | _,[]=>none
 | n,u::us=>match qG w n u with
  | some s=>some (n,s)
  | none=>fJ w (n+1) us
def zJ (w:LW) (us:List cd) (n:Nat) (hn:n<us.length):fJ w n (us.drop n)=match qG w n us[n] with
  | some s=>some (n,s)
  | none=>fJ w (n+1) (us.drop (n+1)):=by
 rw [Xi hn,fJ]
noncomputable def mF (D:List (ZA × cm)):Option Nat:=by
 classical
 exact D.findIdx? fun q=>decide (j6 (dl (eY D)) q.1)
structure Fl where
 pW:Nat
 unit:Nat
 name:ZA
structure LP where
 w:LW
 us:List cd
 D:List (ZA × cm)
def LP.fl (P:LP) (n:Nat) (x:cF):cF:={ x with e:=uR (ma P.D) (P.w.lin n x.e) }
noncomputable def lE (us:List cd):Except Fl LP :=
 if us.length=0 then .error ⟨25,0,dF⟩
 else if 64<us.length then .error ⟨4,0,dF⟩
 else match us.findIdx? fun u=>decide (eS u≠0) with
 | some n=>.error ⟨31,n,dF⟩
 | none=>match kq 0 us (mJ 0 us QY) with
  | .error q=>.error ⟨22,q.1,q.2⟩
  | .ok w=>match fJ w 0 us with
   | some q=>.error ⟨23,q.1,q.2⟩
   | none=>match mF (uS w us) with
    | some i=>.error ⟨24,((ef 0 us).map fun q=>(q.1,q.2.1)).getD i (0,dF) |>.1,((ef 0 us).map fun q=>(q.1,q.2.1)).getD i (0,dF) |>.2⟩
    | none=>.ok ⟨w,us,uS w us⟩
def cH (u:cd):List cm:=u.text.map (·.e)++u.data.map (·.e)++u.bg.map (·.2)
def Fp {x:cm} (h:N8 x=true):Good x:=by
 unfold N8 at h;simp only [Bool.and_eq_true,decide_eq_true_eq] at h;obtain ⟨t,n⟩:=x;obtain ⟨rfl,rfl⟩:=h;exact ⟨⟨List.Pairwise.nil,aj⟩,aj,cn⟩
def Ff {x:cF} {k:Nat} (h:cw x k=true) (hc:∀ t,t∈x.e.ai->t.2<4294967296) (hn:x.e.num<4294967296):Good x.e:=by
 have z:z3 x=true->Good x.e:=Fp;unfold cw at h
 repeat' split at h
 all_goals try simp only [Bool.and_eq_true] at h
 ·exact z h.1.2
 ·have h1:=h.1.1.2;unfold yF at h1;simp only [Bool.and_eq_true] at h1;have h2:=h1.2;split at h2
  ·simp only [Bool.and_eq_true] at h2;exact CZ h2.2 hc hn
  ·simp only [Bool.and_eq_true] at h2;exact Fp h2.2
 ·exact z h.2
 ·exact z h.1.2
 ·exact z h.2
 ·exact CZ h.1.1.1.2 hc hn
 ·exact z h.2
 ·cases h
theorem qN {sec:Nat}:∀ {l:List cF} {D:List ZA},eK sec D l=true->∀ x,x∈l->cw x sec=true
 | [],_,_,x,hx=>by simp at hx
 | y::l,D,h,x,hx=>by
  unfold eK at h;rw [Xz] at h;rcases Xq.1 hx with rfl | hx
  ·have:=h.1
   unfold xr at this;rw [Xz] at this;exact this.1
  ·exact qN h.2 x hx
theorem sZ:∀ {l:List qY} {D:List ZA},gh D l=true->∀ e,e∈l->cT e.1.data.toList=true/\ni none e.2.ai=true
 | [],_,_,x,hx=>by simp at hx
 | y::l,D,h,x,hx=>by
  unfold gh at h;rw [Xz] at h;rcases Xq.1 hx with rfl | hx
  ·have:=h.1
   unfold BQ at this;simp only [Bool.and_eq_true] at this;exact ⟨this.1.2,this.2⟩
  ·exact sZ h.2 x hx
def zV {u:cd} (h:eS u=0) (hc:∀ x,x∈cH u->x.num<4294967296/\∀ t,t∈x.ai->t.2<4294967296):∀ x,x∈cH u->Good x:=by
 have h1:=(ze h).2;unfold vk at h1;simp only [Bool.and_eq_true] at h1;obtain ⟨⟨⟨h1,h2⟩,h3⟩,h4⟩:=h1;intro x hx;have hcx:=hc x hx;unfold cH at hx;rcases Xl.1 hx with hx | hx
 ·rcases Xl.1 hx with hx | hx
  ·obtain ⟨y,hy,rfl⟩:=Xd.1 hx;exact Ff (qN h1 y hy) hcx.2 hcx.1
  ·obtain ⟨y,hy,rfl⟩:=Xd.1 hx;exact Ff (qN h2 y hy) hcx.2 hcx.1
 ·obtain ⟨y,hy,rfl⟩:=Xd.1 hx;exact CZ (sZ h3 y hy).2 hcx.2 hcx.1
structure Im (us:List cd):Prop where
 many:us.length<=2^20
 items:tZ us<=2^20
 num:∀ u,u∈us->∀ x,x∈cH u->x.num<4294967296/\∀ t,t∈x.ai->t.2<4294967296
 ai:((us.flatMap cH).flatMap (·.ai)).length<=2^20
def Im.len {us:List cd} (s:Im us) {u:cd} (hu:u∈us) {x:cm} (hx:x∈cH u):x.ai.length<=2^20:=by
 have h1:x∈us.flatMap cH:=Y9.2 ⟨u,hu,hx⟩;exact XV (gM (·.ai) h1) s.ai
def Hb (of:ZA->Option cm) (t:ZA × Nat):cm:=match of t.1 with
 | none=>⟨[t],0⟩
 | some y=>B1 y t.2
def fI (of:ZA->Option cm) (o:cm) (t:ZA × Nat):cm:=w7 o (Hb of t)
def HZ (l:da) {m k:da} (hk:Nf k) (hc:∀ s,cf k s % 4294967296=cf m s % 4294967296):Jp (Dl l) k=Dl (l++m) :=
 (P7 (zu l) hk).PL (zu _) fun s=>by
  have h1:=hc s;have h2:=PX (Dl l) k s;have h3:=Ac l s;have h4:=Ac (l++m) s;rw [Jg] at h4;omega
theorem Bd {of:ZA->Option cm} (hof:∀ s y,of s=some y->Nf y.ai):∀ (ts l:da) (n:Nat),n<4294967296->(∀ t,t∈ts->t.2≠0/\t.2<4294967296) ->
  ts.foldl (fI of) ⟨Dl l,n⟩=⟨Dl (l++ts.flatMap (qO of)),ts.foldl (fZ of) n⟩
 | [],l,n,_,_=>aj
 | t::ts,l,n,hn,ht=>by
  have h1:fI of ⟨Dl l,n⟩ t=⟨Dl (l++qO of t),fZ of n t⟩/\fZ of n t<4294967296:=by
   have ht0:=ht t aj;unfold fI Hb qO fZ w7;cases ho:of t.1 with
   | none =>
    refine ⟨?_,hn⟩;simp only [Nat.add_zero];rw [YL hn]
    congr 1
    exact HZ l ⟨aj,by simpa using ht0⟩ fun s=>rfl
   | some y =>
    refine ⟨?_,Zg _ cn⟩;unfold B1;simp only;rw [Zj y.num t.2]
    congr 1
    refine HZ l (IJ (hof _ _ ho)) fun s=>?_
    rw [JN]
    have:=CP t.2 y.ai s
    rw [<- this]
    congr 2
    exact XQ fun p _=>by rw [Zj]
  rw [XE,h1.1,Bd hof ts _ _ h1.2 (fun u hu=>ht u (Xh _ hu)),Xs,XJ,XE]
def Uh:Dl []=[]:=D4 Nf.nil
def C9 {of:ZA->Option cm} (hof:∀ s y,of s=some y->Nf y.ai) {x:cm} (hx:Nf x.ai) (hn:x.num<4294967296):x.ai.foldl (fI of) ⟨[],x.num⟩=db of x:=by
 have:=Bd hof x.ai [] x.num hn hx.2
 rw [Yr,Uh] at this;exact this
def AQ {of:ZA->Option cm} (hof:∀ s y,of s=some y->Nf y.ai) {x:cm} (hx:Nf x.ai) (hn:x.num<4294967296) (i:Nat):(x.ai.take i).foldl (fI of) ⟨[],x.num⟩=db of ⟨x.ai.take i,x.num⟩ :=
 C9 (x:=⟨x.ai.take i,x.num⟩) hof ⟨hx.1.sublist (List.take_sublist _ _),fun t ht=>hx.2 t (X9 ht)⟩ hn
def za {of:ZA->Option cm} {x:cm} {t:ZA × Nat} (ht:t∈(db of x).ai):∃ u,u∈x.ai/\((of u.1=none/\t.1=u.1)\/∃ y w,of u.1=some y/\w∈y.ai/\w.1=t.1):=by
 obtain ⟨p,hp,hpe⟩:=Df ht;obtain ⟨u,hu,hpu⟩:=Y9.1 hp;refine ⟨u,hu,?_⟩;unfold qO at hpu;cases ho:of u.1 with
 | none =>
  rw [ho] at hpu;simp only [List.mem_singleton] at hpu;exact Or.inl ⟨rfl,by rw [<- hpe,hpu]⟩
 | some y =>
  rw [ho] at hpu;obtain ⟨w,hw,rfl⟩:=Xd.1 hpu;exact Or.inr ⟨y,w,rfl,hw,hpe⟩
def zb {l:da} (h:Nf l) {S:List ZA} (hs:∀ t,t∈l->t.1∈S):l.length<=S.length:=by
 have:=kS (l.map (·.1)) S (X5.2 (h.1.imp fun h=>j7 h)) (fun s hs'=>by
  obtain ⟨t,ht,rfl⟩:=Xd.1 hs';exact hs t ht)
 rwa [W3] at this
def PM:Option Nat->Int
 | none=>-1
 | some k=>(k:Int)
def SD {es:List cI} {s:ZA} {i:Nat} (hi:i<es.length) (h:∀ j,(hj:j<i)->(es[j]'ad).name≠s) (he:es[i].name=s):j8 es s=some i:=by
 unfold j8;rw [Xt];exact ⟨hi,W9 he,fun j hj=>by simpa using h j hj⟩
def Ep {h:Hp} {p:ZC} {l c:Nat} {es:List cI} (v:tk h p l es) (hl:es.length<=2^60) (s:ZA):vz Tryz.prog 101 [.slice p l c,.string s] h (.int .i64 (PM (j8 es s))):=by
 refine et mixed Tryz.func101 az (nr p l c s) ?_;unfold jZ bf bh bG aQ aR;have n:=v.len;refine aU (cs:=[(false,[.int .i64]),(false,[.int .i64])]) (fun y m h'=>∃ i:Nat,y.2.1=(i:Int)/\m=es.length-i/\i<=es.length/\h'=h/\∀ j,j<i->(hj:j<es.length)->es[j].name≠s) ((0:Int),(0:Int),()) es.length rfl
  ⟨0,rfl,rfl,ad,rfl,fun j hj=>absurd hj ad⟩ ?_
 rintro ⟨n2,n3,⟨⟩⟩ m h' ⟨i,hi,rfl,hle,rfl,hn⟩;simp only at hi;subst hi;refine ao ?_;refine ak (fun q=>?_) (fun q=>?_)
 ·have q:=W2 q;have hil:i<es.length:=ad
  obtain ⟨a,ha,hc⟩:=v.cells i hil;refine ay ⟨ad,ad⟩ (ax ha ?_);rw [show Int.toNat (i:Int)=i from ad];refine aC (es[i].name,()) ⟨hc.1,trivial⟩ (ao ?_);rw [qd];refine ak (fun r=>?_) (fun r=>?_)
  ·have r:=W2 r;refine ⟨Xj (Value.int .i64) ?_,rfl⟩;rw [SD hil (fun j hj=>hn j hj ad) r] <;> rfl
  ·have r:=W4 r;refine aI (cs:=[(false,[.int .i64]),(false,[.int .i64])]) (n2,((i+1:Nat):Int),()) (es.length-(i+1)) rfl ad (by rw [wrap_i64 ad ad]; rfl) ?_;exact ⟨i+1,rfl,rfl,ad,rfl,fun j hj hx=>by
    by_cases e:j=i
    ·subst e; exact r
    ·exact hn j ad hx⟩
 ·have q:=W4 q
  have:i=es.length:=ad
  subst this;refine ⟨Xj (Value.int .i64) ?_,rfl⟩;rw [Fb fun d hd=>by
   obtain ⟨j,hj,rfl⟩:=Xw hd;exact hn j hj hj]
  rfl
end Go.Sx.Lk
namespace Go.Sx
open Go.Proofs
def Wr (a b:ZA):Op.bytesLess (ByteArray.toList a) (ByteArray.toList b)=decide (gS a b):=by
 rw [ByteArray.toList_eq,ByteArray.toList_eq,Proofs.bytesLess_eq] <;> rfl
def Su (h:Hp) (g7:Nat) (x y:da) (N:Int) (i j:Nat) (h':Hp):Prop :=
 i<=x.length/\j<=y.length/\Ch [g7] h h'/\∃ O p l c f,bH h' g7 69 [.slice p l c,.int .u32 N]/\SL h' h.size 117 2 p l c (O.map dc)/\Jp x y=O++fh f (x.drop i) (y.drop j)/\(x.length-i)+(y.length-j)<=f/\O.length<=i+j
def KD (f:Nat):fh f [] []=[]:=by cases f <;> rfl
def RR {f:Nat} {p:ZA × Nat} {x y:da} (h:y=[]\/∃ q r,y=q::r/\gS p.1 q.1):fh (f+1) (p::x) y=p::fh f x y:=by
 rcases h with rfl | ⟨q,r,rfl,h⟩
 ·rfl
 ·show (if gS p.1 q.1 then _ else _)=_;rw [Xb h]
def Sh {f:Nat} {q:ZA × Nat} {x y:da} (h:x=[]\/∃ p r,x=p::r/\gS q.1 p.1):fh (f+1) x (q::y)=q::fh f x y:=by
 rcases h with rfl | ⟨p,r,rfl,h⟩
 ·rfl
 ·show (if gS p.1 q.1 then _ else if gS q.1 p.1 then _ else _)=_;rw [W6 (Bq h),Xb h]
def OB {f:Nat} {p q:ZA × Nat} {x y:da} (h1:¬ gS p.1 q.1) (h2:¬ gS q.1 p.1):fh (f+1) (p::x) (q::y)=if (p.2+q.2) % 4294967296=0 then fh f x y else (p.1,(p.2+q.2) % 4294967296)::fh f x y:=by
 show (if gS p.1 q.1 then _ else if gS q.1 p.1 then _ else _)=_;rw [W6 h1,W6 h2]
def VD:da->da->Bool
 | [],_=>false
 | _::_,[]=>true
 | p::_,q::_=>decide (gS p.1 q.1)
def D9 {x y:da} (h:VD x y=true):∃ p r,x=p::r/\(y=[]\/∃ q s,y=q::s/\gS p.1 q.1):=by
 cases x with
 | nil=>cases h
 | cons p r =>
  cases y with
  | nil=>exact ⟨p,r,rfl,.inl rfl⟩
  | cons q s=>exact ⟨p,r,rfl,.inr ⟨q,s,rfl,W2 h⟩⟩
def BV {x y:da} (h:VD x y=false):x=[]\/∃ p r q s,x=p::r/\y=q::s/\¬ gS p.1 q.1:=by
 cases x with
 | nil=>exact .inl rfl
 | cons p r =>
  cases y with
  | nil=>cases h
  | cons q s=>exact .inr ⟨p,r,q,s,rfl,rfl,W4 h⟩
def yn {α:Type} {l r:List α} {p:α} {i:Nat} (h:l.drop i=p::r):i<l.length:=by
 rcases XR i l.length with h1 | h1
 ·exact h1
 ·rw [XZ h1] at h; cases h
def Eb {h:Hp} {p q:ZC} {l c m d:Nat} {x y:cm} (v:gK h p l x.ai) (u:gK h q m y.ai) (hp:∀ i,i∈aP p->i<h.size) (hq:∀ i,i∈aP q->i<h.size)
  (hl:x.ai.length+y.ai.length<=2^40) :
  HC Tryz.prog 75 #[iA p l c x,iA q m d y] h fun w h'=>Ext h h'/\∃ p' l' c',w=iA p' l' c' (w7 x y)/\SL h' h.size 117 2 p' l' c' ((w7 x y).ai.map dc):=by
 refine bd (args:=[.agg #[.slice p l c,.int .u32 x.num],.agg #[.slice q m d,.int .u32 y.num]]) mixed Tryz.func75 az (pS p l c x.num q m d y.num) ?_;unfold ly bf bh bG aQ bm aH bi aR cg;have hll:=v.len;have hmm:=u.len;refine bk ?_;intro h1 b1 e1 z1;refine bk ?_;intro h2 b2 e2 z2;refine bk ?_;intro h3 b3 e3 z3;have b1:=(b1.an e2 aj).an e3 aj;have b2:=b2.an e3 aj;rw [aG,aG];refine af b1 ((x.num:Int),()) rfl (ao ?_);refine af b2 ((y.num:Int),()) rfl (ao ?_);refine bk ?_;intro h4 b4 e4 z4;refine aw b4 rfl aj ?_;intro h5 b5 k5 z5;rw [HY] at b5;have b5:bH h5 h3.size 69 [.slice none 0 0,.int .u32 (((x.num+y.num) % 4294967296:Nat):Int)]:=b5;have e35:Ext h3 h5:=Ch.trans e4 k5 (fun j hj hl=>by simp at hj; omega);have b1:=b1.an e35 aj;have b2:=b2.an e35 aj;have b3:=b3.an e35 aj;have e05:=((e1.trans e2).trans e3).trans e35;have hz5:=e05.size;refine aU (cs:=[(false,[.int .i64]),(false,[.int .i64])]) (fun z w h'=>∃ i j:Nat,z.1=(i:Int)/\z.2.1=(j:Int)/\w=(x.ai.length-i)+(y.ai.length-j)/\Su h5 h3.size x.ai y.ai (((x.num+y.num) % 4294967296:Nat):Int) i j h')
  ((0:Int),(0:Int),()) (x.ai.length+y.ai.length) rfl ⟨0,0,rfl,rfl,rfl,Y5 _,Y5 _,Ch.refl _ _,[],none,0,0,x.ai.length+y.ai.length,b5,SL.nil _ _ _ _,rfl,ad,aj⟩ ?_
 rintro ⟨n1,n2,⟨⟩⟩ w h6 ⟨i,j,hi,hj,rfl,hil,hjl,k6,O,po,lo,co,f,b6,s6,hO,hf,hOl⟩;simp only at hi hj;subst hi hj;refine ao ?_;have hb5:=b5.lt;have hz6:=k6.size;have b1:=b1.an k6 (by simp; omega);have b2:=b2.an k6 (by simp; omega);have b3:=b3.an k6 (by simp; omega);have e06:Ext h h6:=Ch.trans e05 k6 (fun j hj hl=>by simp at hj; omega);have v6:=v.an e06 aj;have u6:=u.an e06 aj;have hlo:lo=O.length:=by rw [s6.1,W3]
 have hwi:IntKind.wrap .i64 ((i:Int)+1)=((i+1:Nat):Int):=by rw [wrap_i64 ad ad]; omega
 have hwj:IntKind.wrap .i64 ((j:Int)+1)=((j+1:Nat):Int):=by rw [wrap_i64 ad ad]; omega
 have hsb:∀ i,i∈aP po->h5.size<=i:=fun i hi=>(s6.cj hi).1
 have hpm:∀ (k:Nat) (a:Zx) (w:da) (vs:List ZB),(some a=p\/some a=q)->aJ h6 (a.add (k*2)) 0 vs->∀ h',Ch (aP po) h6 h'->aJ h' (a.add (k*2)) 0 vs:=fun k a w vs ha hc h' kk=>aX kk (by
  rw [gU];intro hm;have h1:=hsb _ hm;rcases ha with ha | ha
  ·have:=hp a.block (by rw [<- ha]; simp [aP]); omega
  ·have:=hq a.block (by rw [<- ha]; simp [aP]); omega) _ _ hc
 have push:∀ (t:ZA × Nat) (i' j':Nat) (h7:Hp) (p7:ZC) (c7:Nat),i'<=x.ai.length->j'<=y.ai.length->i+j+1<=i'+j'->fh f (x.ai.drop i) (y.ai.drop j)=t::fh (f-1) (x.ai.drop i') (y.ai.drop j')->(x.ai.length-i')+(y.ai.length-j')<=f-1 ->
   SL h7 h5.size 117 2 p7 (lo+1) c7 (O.map dc++[dc t])->Ch (aP po) h6 h7->∀ h8,bH h8 h3.size 69 [.slice p7 (lo+1) c7,.int .u32 (((x.num+y.num) % 4294967296:Nat):Int)]->Ch [h3.size] h7 h8->Su h5 h3.size x.ai y.ai (((x.num+y.num) % 4294967296:Nat):Int) i' j' h8:=by
  intro t i' j' h7 p7 c7 hi' hj' hij hF hf' s7 k7 h8 b8 k8;refine ⟨hi',hj',Ch.trans (Ch.trans k6 k7 (fun j hj hl=>by have:=hsb j hj; omega)) k8 (fun j hj _=>hj),O++[t],p7,lo+1,c7,f-1,b8,?_,?_,hf',by simp; omega⟩
  ·rw [Xf];exact s7.bM k8 (fun j hj=>by have:=(s7.cj hj).1; simp; omega)
  ·rw [hO,hF]; simp
 refine iv (cs:=[(false,[.bool])]) (fun z h'=>z.1=(decide (i<x.ai.length) || decide (j<y.ai.length))/\h6=h') ?_ ?_
 ·refine af b1 ((p,l,c),()) rfl (ao ?_);refine ak (fun g1=>?_) (fun g1=>?_)
  ·have g1:=W2 g1;refine dJ (cs:=[(false,[.bool])]) (true,()) rfl rfl ⟨?_,rfl⟩;rw [W9 (show i<x.ai.length from ad)] <;> rfl
  ·have g1:=W4 g1;refine af b2 ((q,m,d),()) rfl (ao ?_);refine dJ (cs:=[(false,[.bool])]) (decide ((j:Int)<(m:Int)),()) rfl rfl ⟨?_,rfl⟩;rw [Xa (show ¬ i<x.ai.length from ad),YJ];show decide ((j:Int)<(m:Int))=decide (j<y.ai.length);rw [Y8];omega
 rintro ⟨b10,⟨⟩⟩ h6' ⟨hb10,rfl⟩;simp only at hb10;subst hb10;refine ao ?_;refine ak (fun g1=>?_) (fun g1=>?_)
 ·simp only [Bool.or_eq_true,decide_eq_true_eq] at g1;obtain ⟨f',rfl⟩:∃ f',f=f'+1:=⟨f-1,ad⟩
  refine iv (cs:=[(false,[.bool])]) (fun z h'=>z.1=VD (x.ai.drop i) (y.ai.drop j)/\h6=h') ?_ ?_
  ·refine af b2 ((q,m,d),()) rfl (ao ?_);refine ak (fun g2=>?_) (fun g2=>?_)
   ·have g2:(j:Int)=(m:Int):=by simpa using g2
    refine dJ (cs:=[(false,[.bool])]) (true,()) rfl rfl ⟨?_,rfl⟩;rw [show y.ai.drop j=[] from XZ ad,Xi (l:=x.ai) (i:=i) ad] <;> rfl
   ·have g2:¬ (j:Int)=(m:Int):=by simpa using g2
    have hjlt:j<y.ai.length:=ad
    refine af b1 ((p,l,c),()) rfl (ao ?_);refine ak (fun g3=>?_) (fun g3=>?_)
    ·have g3:=W2 g3;have hilt:i<x.ai.length:=ad
     have hdx:x.ai.drop i=x.ai[i]::x.ai.drop (i+1):=Xi hilt;have hdy:y.ai.drop j=y.ai[j]::y.ai.drop (j+1):=Xi hjlt;obtain ⟨a,ha,hc⟩:=v6.cells i hilt;obtain ⟨a',ha',hc'⟩:=u6.cells j hjlt;subst ha ha';refine af b1 ((some a,l,c),()) rfl (ao ?_);refine ay ⟨ad,ad⟩ (ax rfl ?_);rw [show Int.toNat (i:Int)=i from ad];refine aC (x.ai[i].1,()) (cQ hc).1 (ao ?_);refine af b2 ((some a',m,d),()) rfl (ao ?_);refine ay ⟨ad,ad⟩ (ax rfl ?_);rw [show Int.toNat (j:Int)=j from ad];refine aC (y.ai[j].1,()) (cQ hc').1 (ao ?_);rw [Wr];refine dJ (cs:=[(false,[.bool])]) (decide (gS x.ai[i].1 y.ai[j].1),()) rfl rfl ⟨?_,rfl⟩;rw [hdx,hdy] <;> rfl
    ·have g3:=W4 g3;refine dJ (cs:=[(false,[.bool])]) (false,()) rfl rfl ⟨?_,rfl⟩;rw [show x.ai.drop i=[] from XZ ad] <;> rfl
  rintro ⟨b11,⟨⟩⟩ h6' ⟨hb11,rfl⟩;simp only at hb11;subst hb11;refine ao ?_;refine ak (fun g2=>?_) (fun g2=>?_)
  ·obtain ⟨pp,rr,hdd,hor⟩:=D9 g2;have hilt:=yn hdd;have hdx:x.ai.drop i=x.ai[i]::x.ai.drop (i+1):=Xi hilt;rw [hdx] at hdd;cases hdd;have hF:fh (f'+1) (x.ai.drop i) (y.ai.drop j)=x.ai[i]::fh (f'+1-1) (x.ai.drop (i+1)) (y.ai.drop j):=by
    rw [hdx];exact RR hor
   obtain ⟨a,ha,hc⟩:=v6.cells i hilt;subst ha;refine af b6 ((po,lo,co),()) rfl (ao ?_);refine af b1 ((some a,l,c),()) rfl (ao ?_);refine ay ⟨ad,ad⟩ (ax rfl ?_);rw [show Int.toNat (i:Int)=i from ad];refine aC (x.ai[i].1,(x.ai[i].2:Int),()) hc (ao ?_);refine gI (vs:=dc x.ai[i]) yK sD rfl ad ad az rfl rfl s6 ad ad ad (fun h' e=>⟨(b1.an e aj).cells _ rfl,(b6.an e aj).cells _ rfl,trivial⟩) ?_;intro p7 c7 h7 s7 k7 hp7;have b17:=b1.an k7 (fun hh=>by have:=hsb _ hh; omega);have b67:=b6.an k7 (fun hh=>by have:=hsb _ hh; omega);refine ⟨⟨hpm i a x.ai _ (.inl rfl) hc h7 k7,b17.cells _ rfl,trivial⟩,?_⟩;refine aw b67 rfl aj ?_;intro h8 b8 k8 z8;refine aI (cs:=[(false,[.int .i64]),(false,[.int .i64])]) (((i+1:Nat):Int),(j:Int),()) ((x.ai.length-(i+1))+(y.ai.length-j)) rfl ad (by rw [hwi]; rfl) ⟨i+1,j,rfl,rfl,rfl,?_⟩;exact push _ (i+1) j h7 p7 c7 ad hjl ad hF ad s7 k7 h8 b8 k8
  ·have g2:=BV g2;refine iv (cs:=[(false,[.bool])]) (fun z h'=>z.1=VD (y.ai.drop j) (x.ai.drop i)/\h6=h') ?_ ?_
   ·refine af b1 ((p,l,c),()) rfl (ao ?_);refine ak (fun g3=>?_) (fun g3=>?_)
    ·have g3:(i:Int)=(l:Int):=by simpa using g3
     refine dJ (cs:=[(false,[.bool])]) (true,()) rfl rfl ⟨?_,rfl⟩;rw [show x.ai.drop i=[] from XZ ad,Xi (l:=y.ai) (i:=j) ad] <;> rfl
    ·have g3:¬ (i:Int)=(l:Int):=by simpa using g3
     have hilt:i<x.ai.length:=ad
     have hjlt:j<y.ai.length:=by
      rcases XR j y.ai.length with h | h
      ·exact h
      ·rcases g2 with g2 | ⟨_,_,_,_,_,g2,_⟩
       ·have:=List.drop_eq_nil_iff.1 g2; omega
       ·rw [XZ h] at g2; cases g2
     have hdx:x.ai.drop i=x.ai[i]::x.ai.drop (i+1):=Xi hilt;have hdy:y.ai.drop j=y.ai[j]::y.ai.drop (j+1):=Xi hjlt;obtain ⟨a,ha,hc⟩:=v6.cells i hilt;obtain ⟨a',ha',hc'⟩:=u6.cells j hjlt;subst ha ha';refine af b2 ((some a',m,d),()) rfl (ao ?_);refine ay ⟨ad,ad⟩ (ax rfl ?_);rw [show Int.toNat (j:Int)=j from ad];refine aC (y.ai[j].1,()) (cQ hc').1 (ao ?_);refine af b1 ((some a,l,c),()) rfl (ao ?_);refine ay ⟨ad,ad⟩ (ax rfl ?_);rw [show Int.toNat (i:Int)=i from ad];refine aC (x.ai[i].1,()) (cQ hc).1 (ao ?_);rw [Wr];refine dJ (cs:=[(false,[.bool])]) (decide (gS y.ai[j].1 x.ai[i].1),()) rfl rfl ⟨?_,rfl⟩;rw [hdx,hdy] <;> rfl
   rintro ⟨b12,⟨⟩⟩ h6' ⟨hb12,rfl⟩;simp only at hb12;subst hb12;refine ao ?_;refine ak (fun g3=>?_) (fun g3=>?_)
   ·obtain ⟨pp,rr,hdd,hor⟩:=D9 g3;have hjlt:=yn hdd;have hdy:y.ai.drop j=y.ai[j]::y.ai.drop (j+1):=Xi hjlt;rw [hdy] at hdd;cases hdd;have hF:fh (f'+1) (x.ai.drop i) (y.ai.drop j)=y.ai[j]::fh (f'+1-1) (x.ai.drop i) (y.ai.drop (j+1)):=by
     rw [hdy];exact Sh hor
    obtain ⟨a,ha,hc⟩:=u6.cells j hjlt;subst ha;refine af b6 ((po,lo,co),()) rfl (ao ?_);refine af b2 ((some a,m,d),()) rfl (ao ?_);refine ay ⟨ad,ad⟩ (ax rfl ?_);rw [show Int.toNat (j:Int)=j from ad];refine aC (y.ai[j].1,(y.ai[j].2:Int),()) hc (ao ?_);refine gI (vs:=dc y.ai[j]) yK sD rfl ad ad az rfl rfl s6 ad ad ad (fun h' e=>⟨(b2.an e aj).cells _ rfl,(b6.an e aj).cells _ rfl,trivial⟩) ?_;intro p7 c7 h7 s7 k7 hp7;have b27:=b2.an k7 (fun hh=>by have:=hsb _ hh; omega);have b67:=b6.an k7 (fun hh=>by have:=hsb _ hh; omega);refine ⟨⟨hpm j a y.ai _ (.inr rfl) hc h7 k7,b27.cells _ rfl,trivial⟩,?_⟩;refine aw b67 rfl aj ?_;intro h8 b8 k8 z8;refine aI (cs:=[(false,[.int .i64]),(false,[.int .i64])]) ((i:Int),((j+1:Nat):Int),()) ((x.ai.length-i)+(y.ai.length-(j+1))) rfl ad (by rw [hwj]; rfl) ⟨i,j+1,rfl,rfl,rfl,?_⟩;exact push _ i (j+1) h7 p7 c7 hil ad ad hF ad s7 k7 h8 b8 k8
   ·have g3:=BV g3;have hb:i<x.ai.length/\j<y.ai.length:=by
     rcases g2 with g2 | ⟨_,_,_,_,e1,e2,_⟩
     ·have h1:=List.drop_eq_nil_iff.1 g2;rcases g3 with g3 | ⟨_,_,_,_,_,e2,_⟩
      ·have h2:=List.drop_eq_nil_iff.1 g3; omega
      ·rw [g2] at e2; cases e2
     ·exact ⟨yn e1,yn e2⟩
    obtain ⟨hilt,hjlt⟩:=hb;have hdx:x.ai.drop i=x.ai[i]::x.ai.drop (i+1):=Xi hilt;have hdy:y.ai.drop j=y.ai[j]::y.ai.drop (j+1):=Xi hjlt;have n1:¬ gS x.ai[i].1 y.ai[j].1:=by
     rcases g2 with g2 | ⟨_,_,_,_,e1,e2,hn⟩
     ·rw [hdx] at g2; cases g2
     ·rw [hdx] at e1; rw [hdy] at e2; cases e1; cases e2; exact hn
    have n2:¬ gS y.ai[j].1 x.ai[i].1:=by
     rcases g3 with g3 | ⟨_,_,_,_,e1,e2,hn⟩
     ·rw [hdy] at g3; cases g3
     ·rw [hdy] at e1; rw [hdx] at e2; cases e1; cases e2; exact hn
    have hF:fh (f'+1) (x.ai.drop i) (y.ai.drop j)=if (x.ai[i].2+y.ai[j].2) % 4294967296=0 then fh f' (x.ai.drop (i+1)) (y.ai.drop (j+1)) else (x.ai[i].1,(x.ai[i].2+y.ai[j].2) % 4294967296)::fh f' (x.ai.drop (i+1)) (y.ai.drop (j+1)):=by
     rw [hdx,hdy];exact OB n1 n2
    obtain ⟨a,ha,hc⟩:=v6.cells i hilt;obtain ⟨a',ha',hc'⟩:=u6.cells j hjlt;subst ha ha';refine af b1 ((some a,l,c),()) rfl (ao ?_);refine ay ⟨ad,ad⟩ (ax rfl ?_);rw [show Int.toNat (i:Int)=i from ad];refine aC ((x.ai[i].2:Int),()) (cQ hc).2 (ao ?_);refine af b2 ((some a',m,d),()) rfl (ao ?_);refine ay ⟨ad,ad⟩ (ax rfl ?_);rw [show Int.toNat (j:Int)=j from ad];refine aC ((y.ai[j].2:Int),()) (cQ hc').2 (ao ?_);rw [HY];refine iv (cs:=[]) (fun z h'=>Su h5 h3.size x.ai y.ai (((x.num+y.num) % 4294967296:Nat):Int) (i+1) (j+1) h') ?_ ?_
    ·refine ak (fun g4=>?_) (fun g4=>?_)
     ·have g4:¬ (x.ai[i].2+y.ai[j].2) % 4294967296=0:=by
       have:¬ (((x.ai[i].2+y.ai[j].2) % 4294967296:Nat):Int)=0:=by simpa using g4
       omega
      rw [W6 g4] at hF;refine af b6 ((po,lo,co),()) rfl (ao ?_);refine af b1 ((some a,l,c),()) rfl (ao ?_);refine ay ⟨ad,ad⟩ (ax rfl ?_);refine aC (x.ai[i].1,()) (cQ hc).1 (ao ?_);refine gI (vs:=dc (x.ai[i].1,(x.ai[i].2+y.ai[j].2) % 4294967296)) yK sD rfl ad ad az rfl rfl s6 ad ad ad (fun h' e=>⟨aX e aj _ _ (cQ hc).1,(b1.an e aj).cells _ rfl,(b6.an e aj).cells _ rfl,trivial⟩) ?_;intro p7 c7 h7 s7 k7 hp7;have b17:=b1.an k7 (fun hh=>by have:=hsb _ hh; omega);have b67:=b6.an k7 (fun hh=>by have:=hsb _ hh; omega);refine ⟨⟨hpm i a x.ai _ (.inl rfl) (cQ hc).1 h7 k7,b17.cells _ rfl,trivial⟩,?_⟩;refine aw b67 rfl aj ?_;intro h8 b8 k8 z8;exact dJ (cs:=[]) () rfl rfl (push _ (i+1) (j+1) h7 p7 c7 ad ad ad hF ad s7 k7 h8 b8 k8)
     ·have g4:(x.ai[i].2+y.ai[j].2) % 4294967296=0:=by
       have:(((x.ai[i].2+y.ai[j].2) % 4294967296:Nat):Int)=0:=by simpa using g4
       omega
      rw [Xb g4] at hF;exact dJ (cs:=[]) () rfl rfl ⟨ad,ad,k6,O,po,lo,co,f',b6,s6,by rw [hO,hF],ad,ad⟩
    ·rintro ⟨⟩ h7 I7;exact aI (cs:=[(false,[.int .i64]),(false,[.int .i64])]) (((i+1:Nat):Int),((j+1:Nat):Int),()) ((x.ai.length-(i+1))+(y.ai.length-(j+1))) rfl ad (by rw [hwi,hwj]; rfl) ⟨i+1,j+1,rfl,rfl,rfl,I7⟩
 ·simp only [Bool.or_eq_false_iff,decide_eq_false_iff_not] at g1;rw [XZ ad,XZ ad,KD,X4] at hO;refine af b6 ((po,lo,co),(((x.num+y.num) % 4294967296:Nat):Int),()) rfl (ao ?_);refine aw b3 rfl aj ?_;intro h7 b7 k7 z7;have b7:bH h7 h2.size 69 [.slice po lo co,.int .u32 (((x.num+y.num) % 4294967296:Nat):Int)]:=b7;refine af b7 ((po,lo,co),(((x.num+y.num) % 4294967296:Nat):Int),()) rfl ?_;refine ⟨Ch.trans e06 k7 (fun j hj hl=>by simp at hj; omega),po,lo,co,rfl,?_⟩;show SL h7 h.size 117 2 po lo co ((Jp x.ai y.ai).map dc);rw [hO];exact (s6.bM k7 (fun j hj=>by have:=hsb j hj; simp; omega)).mono ad
end Go.Sx
