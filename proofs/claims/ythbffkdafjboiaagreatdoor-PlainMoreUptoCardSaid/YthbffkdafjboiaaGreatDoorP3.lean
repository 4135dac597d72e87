/- Contracts over heaps, part 3. Condition: as each statement says. -/
import Derived.Test.YthbffkdafjboiaaGreatDoorP2
import Derived.Test.YthbffkdafjboiaaGreatDoorSxK
import Derived.Test.YthbffkdafjboiaaGreatDoorBtF
set_option linter.all false
set_option maxRecDepth 100000
set_option maxHeartbeats 4000000
namespace Go.Sx
open Go.Proofs
variable {mw:Xaa->TS->TS}
def oS.rest {names:List Xaa} (j:∀ w st,oS names st->w∈names->oS names (mw w st)) {v w:Xaa} {st:TS} (hi:oS names st) (hw:w∈names):oS names (tf mw v w st):=by
 unfold tf;split
 ·exact j w st hi hw
 ·split <;> exact hi
def oS.step {names:List Xaa} {own:Xaa->Bool} (hown:∀ s,own s=true->s∈names) (j:∀ w st,oS names st->w∈names->oS names (mw w st)) {v w:Xaa} {st:TS} (hi:oS names st):oS names (eJ own mw v st w):=by
 unfold eJ;split
 ·rename_i u;refine oS.rest j ?_ (hown w u);intro s hs;rw [(ix v w st).1] at hs;exact hi s hs
 ·exact hi
theorem oS.fold {names:List Xaa} {own:Xaa->Bool} (hown:∀ s,own s=true->s∈names) (j:∀ w st,oS names st->w∈names->oS names (mw w st)) {v:Xaa}:∀ (l:List Xaa) (st:TS),oS names st->oS names (l.foldl (eJ own mw v) st)
 | [],st,hi=>hi
 | w::l,st,hi=>by
  rw [ZH];exact oS.fold hown j l _ (oS.step hown j hi)
def oS.open {names:List Xaa} {st:TS} (hi:oS names st) {v:Xaa} (hv:v∈names):oS names (eK v st):=by
 intro s hs;have hs:dF st.num v (st.jE+1) s≠none:=hs
 by_cases e:s=v
 ·rw [e]; exact hv
 ·rw [cj _ _ e] at hs;exact hi s hs
theorem oS.visit {names:List Xaa} {own:Xaa->Bool} (hown:∀ s,own s=true->s∈names) (succ:Xaa->List Xaa):∀ (f:Nat) (v:Xaa) (st:TS),oS names st->v∈names->oS names (cP own succ f v st)
 | 0,v,st,hi,hv=>hi
 | f+1,v,st,hi,hv=>by
  have h:=oS.fold hown (fun w st hi hw=>oS.visit hown succ f w st hi hw) (v:=v) (succ v) _ (hi.open hv);unfold cP;split
  ·exact h
  ·intro s hs;rw [nL] at hs;exact h s hs
def SL.GB {h:Hp} {b:Nat} {e:TypeId} {sz:Nat} {p:Xac} {l c:Nat} {xs:List (List Xab)} (s:SL h b e sz p l c xs):l<=c:=by
 cases p with
 | none =>
  obtain ⟨h1,h2⟩:=s.2.2;rw [s.1,h1,h2]; simp
 | some a =>
  obtain ⟨g,G,rest,rfl,J,j,u,O⟩:=s.2.2;exact j.1
section
variable {L:Lp} {K:Xab->Hp->Prop} {h:Hp} {r:TF} {st:TS} {p:Xac} {l c:Nat} {es:List cK} {p0:Xac} {l0 c0:Nat}
def mR.Vm (m:mR r h st p l c) (o:r.ord) {p':Xac} {l' c':Nat} {h1:Hp} {way':List Xaa} (j:Ch (aM p) h h1) (s1:SL h1 (r.V+1) 9 1 p' l' c' (way'.map Xh)) (hb:∀ i,i∈aM p'->i∈aM p\/h.size<=i) {k:T}
  (hk:∀ h',mR r h' { st with cZ:=way' } p' l' c'->qd r p h p' h'->k L K h'):T.aC (bx r.W) [.slice p' l' c'] k L K h1:=by
 have o':=o;unfold TF.ord at o;obtain ⟨O,mL⟩:=m.mL;obtain ⟨U,mO⟩:=m.mO;obtain ⟨X,mB⟩:=m.mB;have G:∀ g,g<=r.V->g∉aM p:=fun g Y hi=>by have:=m.OM hi; omega
 refine ar (m.bW.ak j (G _ ad)) rfl aj ?_;intro h2 J u z2;have J:bF h2 r.W 45 [.slice p' l' c']:=J;refine hk h2 ⟨(m.mN.ak j (G _ ad)).ak u (by simp; omega),⟨O,(mL.ak j (G _ ad)).ak u (by simp; omega)⟩,⟨U,(mO.ak j (G _ ad)).ak u (by simp; omega)⟩,⟨X,(mB.ak j (G _ ad)).ak u (by simp; omega)⟩,J,s1.bM u (fun i hi=>by have:=(s1.cr hi).1; simp; omega)⟩
  ⟨Ch.trans (j.mono fun i hi _=>by rw [pB]; simp [hi]) u (fun i hi hl=>by simp at hi; rw [pB]; simp [hi]),hb⟩
def mR.Xb (m:mR r h st p l c) (o:r.ord) (X:r.V<h.size) (hl:l<=2^40) {v:Xaa} {k:T} (hk:∀ h' p' c',mR r h' { st with cZ:=st.cZ++[v] } p' (l+1) c'->qd r p h p' h'->k L K h') :
  T.eh Tryz.prog (Instr.buildSlice 45 1 #[(0,.string v)]) false [(false,[.slice 0])] (fun q m' cc=>T.eh Tryz.prog (Builtin.append_ #[45,45] 45 #[.slice p l c,.slice q m' cc]) false [(false,[.slice 0])] (fun j u G=>T.aC (bx r.W) [.slice j u G] k)) L K h:=by
 refine mz (vs:=Xh v) WU WV rfl ad ad ax rfl rfl m.w ad ad ad ?_;intro p' c' h1 s1 J O;refine m.Vm o J (way':=st.cZ++[v]) (by simpa using s1) (fun i hi=>?_) (fun h' m' s'=>hk h' p' c' m' s');rcases O with rfl | ⟨a,rfl,U⟩
 ·exact .inl hi
 ·simp [aM] at hi; subst hi; exact .inr U
def VQ (aO aB Y:Xax) (O:Xac) (U Z:Nat) (j:Int):T :=
  T.loop [aR] [.int .i64 (0:Int)] <| fun (u:Int) =>
  cond (decide (u<((((Int.toNat (U:Int))-(Int.toNat j)):Nat):Int)))
  (T.need (((0:Int)<=u)/\(u<((((Int.toNat (U:Int))-(Int.toNat j)):Nat):Int))) <|
  T.bG (if (Z=(Int.toNat j)) then O else (Option.map (fun a=>Addr.add a (aP j 1)) O)) <| fun (a39:Xax) =>
  T.ah (a39.add (aP u 1)) [.string] <| fun (G:Xaa) =>
  T.ah aO [.map 9 4] <| fun (r41:Option Nat) =>
  T.et Tryz.prog (Instr.mapUpdate 58 (.map r41) (.string G) (.bool false)) <|
  T.ah aB [.map 9 4] <| fun (V:Option Nat) =>
  T.ah aB [.map 9 4] <| fun (r43:Option Nat) =>
  bU (Instr.lookup 58 (.map r43) (.string G) false) false [cn] <| fun (b44:Bool) =>
  cond b44
   (T.et Tryz.prog (Instr.mapUpdate 58 (.map V) (.string G) (.bool true)) <|
   T.again 1 [.int .i64 (bt (u+(1:Int)))])
   (T.ah Y [.slice 9] <| fun (p45:Xac) (l46:Nat) (l47:Nat) =>
   T.et Tryz.prog (Instr.mapUpdate 58 (.map V) (.string G) (.bool (decide ((bt ((l46:Int)-j))>(1:Int))))) <|
   T.again 1 [.int .i64 (bt (u+(1:Int)))]))
  (T.ah Y [.slice 9] <| fun (X:Xac) (l40:Nat) (J:Nat) =>
  T.need (((0:Int)<=(0:Int))/\(((0:Int)<=j)/\(j<=(J:Int)))) <|
  T.aC Y [.slice (if (J=0) then X else (Option.map (fun a=>Addr.add a 0) X)) ((Int.toNat j)-0) (J-0)] <|
  bn #[])
def TQ {lv:List Xab->Hp->Prop} (lo:Jp r es p0) (hs:∀ s,s∈aZ es->s.size<=maxLen) (m:mR r h st p l c) (co:O6 r h es p0 l0 c0) (hi:oS (aZ es) st) (g:dC (aZ es) st) (hl:l<=2^40) {v:Xaa} (hk0:re v st<=st.cZ.length)
  (hk:∀ h' p' l' c',mR r h' (qR v st) p' l' c'->qd r p h p' h'->K (.tuple #[]) h'):VQ (bx r.O) (bx r.B) (bx r.W) p l c ((re v st:Nat):Int) [lv] K h:=by
 unfold VQ aP bU bt bn aR cn;have hlen:l=st.cZ.length:=by rw [m.w.1,Y0]
 have hcap:=m.w.GB;rw [show Int.toNat ((re v st:Nat):Int)=re v st from ad,show Int.toNat (l:Int)=l from ad];generalize hkk:re v st=k at *;have hbig:decide (1<st.cZ.length-re v st)=decide (1<l-k):=by rw [hkk,hlen]
 unfold qR at hk;rw [hbig,hkk] at hk;refine aX (cs:=[(false,[.int .i64])]) (fun x w h'=>∃ i:Nat,x.1=(i:Int)/\i<=l-k/\w=l-k-i/\mR r h' (((st.cZ.drop k).take i).foldl (pt (decide (1<l-k))) st) p l c/\qd r p h p h') ((0:Int),()) (l-k) rfl ⟨0,rfl,ad,ad,by simpa using m,qd.refl _ _ _⟩ ?_;rintro ⟨n38,⟨⟩⟩ w h2 ⟨i,hi0,hile,rfl,G,s2⟩;simp only at hi0;subst hi0;refine an ?_;have co2:=s2.co lo m co;have J:∀ (w:List Xaa) (st:TS),(w.foldl (pt (decide (1<l-k))) st).cZ=st.cZ:=by
  intro w
  induction w with
  | nil=>intro st; rfl
  | cons x w ih=>intro st; rw [ZH,ih]; rfl
 refine aQ (fun g1=>?_) (fun g1=>?_)
 ·have U:k+i<st.cZ.length:=ad
  refine ay ⟨ad,ad⟩ ?_;rw [Y2 ad];have j:=G.w;rw [J] at j;obtain ⟨a,rfl,hc⟩:=j.cells (i:=k+i) (by simpa using U);rw [Zb] at hc;refine aw rfl ?_;rw [show Int.toNat (i:Int)=i from ad,add_add,<- Z9];have V:st.cZ[k+i]∈aZ es:=hi _ (g.fw _ (Y9 U));have u:(st.cZ.drop k).take (i+1)=(st.cZ.drop k).take i++[st.cZ[k+i]]:=by
   rw [Y3 (by rw [Z2]; omega),List.getElem_drop]
  generalize st.cZ[k+i]=x at hc V u;refine az (x,()) hc (an ?_);have Y:=hs x V;generalize hst2:((st.cZ.drop k).take i).foldl (pt (decide (1<l-k))) st=Z at G;have X:((st.cZ.drop k).take (i+1)).foldl (pt (decide (1<l-k))) st=pt (decide (1<l-k)) Z x:=by rw [u,ZY,hst2]; rfl
  refine af co2.bO (some r.gO,()) rfl (an ?_);refine G.VA lo.ord Y ?_;intro h3 m3 s3 z3;have co3:=s3.co lo G co2;refine af co3.bB (some r.gB,()) rfl (an ?_);refine af co3.bB (some r.gB,()) rfl (an ?_);refine m3.eE x ?_;have hw:=iA i;refine av (fun g2=>?_) (fun g2=>?_)
  ·have g2:(Z.back x).getD false=true:=g2;refine m3.UB lo.ord Y ?_;intro h4 m4 s4 z4;refine aH (cs:=[(false,[.int .i64])]) (((i+1:Nat):Int),()) (l-k-(i+1)) rfl ad (Zl (fun z=>[Value.int .i64 z]) hw) ⟨i+1,rfl,ad,rfl,?_,(s2.trans s3).trans s4⟩;rw [X];unfold pt;rw [g2];exact m4
  ·have g2:(Z.back x).getD false=false:=g2;refine af m3.bW ((_,_,_),()) rfl (an ?_);refine m3.UB lo.ord Y ?_;intro h4 m4 s4 z4;refine aH (cs:=[(false,[.int .i64])]) (((i+1:Nat):Int),()) (l-k-(i+1)) rfl ad (Zl (fun z=>[Value.int .i64 z]) hw) ⟨i+1,rfl,ad,rfl,?_,(s2.trans s3).trans s4⟩;rw [X];unfold pt;rw [g2,bl9];have e:decide ((IntKind.wrap .i64 ((l:Int)-(k:Int)))>(1:Int))=decide (1<l-k):=by
    rw [wrap_i64 ad ad];exact ci9.2 ad
   rw [e] at m4;exact m4
 ·have hii:i=l-k:=ad
  subst hii;have u:(st.cZ.drop k).take (l-k)=st.cZ.drop k:=Zy (by rw [Z2]; omega);rw [u] at G;have hpp:(if c=0 then p else (Option.map (fun a=>Addr.add a 0) p))=p:=by
   split
   ·rfl
   ·cases p with
    | none=>rfl
    | some a=>simp only [Option.map_some,add_zero']
  refine af G.bW ((p,l,c),()) rfl (an ?_);refine ay ⟨ad,ad,ad⟩ ?_;rw [hpp,cx9,cx9];have j:=G.w;rw [J] at j;have hsk:=j.take (k:=k) ad;rw [<- List.map_take] at hsk;refine G.Vm lo.ord (Ch.refl _ _) hsk (fun i hi=>.inl hi) ?_;intro h4 m4 s4;exact hk h4 p k c m4 (s2.trans s4)
end
structure EqsOk (es:List cK):Prop where
 nodup:(aZ es).Nodup
 len:es.length<=2^40
 sz:∀ e,e∈es->e.name.size<=maxLen
 tl:∀ e,e∈es->e.x.ai.length<=2^40
 ts:∀ e,e∈es->∀ t,t∈e.x.ai->t.1.size<=maxLen
def EqsOk.names {es:List cK} (o:EqsOk es):∀ s,s∈aZ es->s.size<=maxLen:=by
 intro s hs;obtain ⟨e,j,rfl⟩:=Za.1 hs;exact o.sz e j
section
variable {r:TF} {es:List cK} {p0:Xac} {l0 c0:Nat}
def LG (eo:EqsOk es) (Z:Jp r es p0):∀ f,Ja es r p0 l0 c0 f:=by
 intro f;have hown:∀ s,cy es s=true->s∈aZ es:=fun s=>(ei es s).1
 have hs:=eo.names;have hnl:(aZ es).length=es.length:=by unfold aZ; rw [Y0]
 induction f with
 | zero =>
  intro v st h p l c m co g hv h0 hu hi
  have:=(g.open eo.nodup hv h0).2
  omega
 | succ f ih =>
  intro v st h p l c m co g hv h0 hu hi;have o:=Z.ord;have o':=o;unfold TF.ord at o';have hlen:=eo.len;refine bd (args:=.string v::r.tF) mixed Tryz.func90 ax (nw v (bx r.N) (bx r.L) (bx r.W) (bx r.O) (bx r.E) (bx r.A) (bx r.B) (bx r.V)) ?_;unfold jt bf bk bH aP cH dN br bU bt aG bn bY aR cn;have hsv:=hs v hv;have hcnt:st.jE<=es.length:=by have:=g.sum; omega
  have hway:=g.cZ;have hll:l=st.cZ.length:=by rw [m.w.1,Y0]
  have hV:=co.bV.lt;refine af co.bN (some r.gN,()) rfl (an ?_);refine af co.bN (some r.gN,()) rfl (an ?_);refine XX (en:=eI) m.mN ?_;refine m.uG o hsv (w:=st.jE+1) (by rw [wrap_i64 ad ad]; omega) ?_;intro h1 m1 s1 z1;have hnone:(st.num v).isSome=false:=by rw [h0]; rfl
  rw [hnone] at m1;simp only [Bool.false_eq_true,if_false] at m1;have co1:=s1.co Z m co;refine af co1.bL (some r.gL,()) rfl (an ?_);refine af co1.bN (some r.gN,()) rfl (an ?_);refine m1.Ep v ?_;refine m1.sL o hsv rfl ?_;intro h2 m2 s2 z2;simp only [cC,Option.getD_some] at m2;have co2:=s2.co Z m1 co1;refine af m2.bW ((p,l,c),()) rfl (an ?_);refine m2.Xb o ad ad ?_;intro h3 p3 c3 m3 s3;have co3:=s3.co Z m2 co2;refine af co3.bO (some r.gO,()) rfl (an ?_);refine m3.VA o hsv ?_;intro h4 m4 s4 z4;have U:=s4.co Z m3 co3;have s04:qd r p h p3 h4:=((s1.trans s2).trans s3).trans s4
  replace m4:mR r h4 (eK v st) p3 (l+1) c3:=m4
  refine af U.bE ((p0,l0,c0),()) rfl (an ?_);refine af U.bA (some r.gA,()) rfl (an ?_);obtain ⟨nA,mA⟩:=U.mA;refine Iw mA v ?_;obtain ⟨k,hk⟩:=DO hv;obtain ⟨X,hkn,hkx⟩:=oq hk;have hl0:=U.vw.len;rw [hk];simp only [Option.getD_some];refine ay ⟨ad,ad⟩ ?_;obtain ⟨a,ha,hc⟩:=U.vw.cells k X;refine aw ha ?_;rw [show Int.toNat (k:Int)=k from ad];have hin:=U.vw.fw es[k] (Y9 X);have hinW:∀ h',O6 r h' es p0 l0 c0->gW h' es[k].p es[k].l es[k].x.ai:=fun h' co'=>co'.vw.fw es[k] (Y9 X)
  have htl:=eo.tl es[k] (Y9 X);have hts:=eo.ts es[k] (Y9 X);have hli:=Z.li es[k] (Y9 X);have hsu:cL (dk es) v=es[k].x.ai.map (·.1):=by unfold cL; rw [hkx]
  generalize es[k]=e at hc hin hinW htl hts hli hsu;refine az ((e.p,e.l,e.c),()) ⟨by rw [add_zero']; exact hc.2.1,trivial⟩ ?_;refine an ?_;have hel:=hin.len;have hgood:=fun l=>KI eo.nodup hown (cL (dk es)) g hv h0 hu l
  have hinn:∀ l:List Xaa,oS (aZ es) (l.foldl (eJ (cy es) (cP (cy es) (cL (dk es)) f) v) (eK v st)):=fun l=>oS.fold hown (fun w st hi hw=>oS.visit hown (cL (dk es)) f w st hi hw) l _ (hi.open hv)
  refine aX (cs:=[(false,[.int .i64])]) (fun x w h'=>∃ (i:Nat) (p':Xac) (l' c':Nat),x.1=(i:Int)/\i<=e.x.ai.length/\w=e.x.ai.length-i/\mR r h' (((e.x.ai.map (·.1)).take i).foldl (eJ (cy es) (cP (cy es) (cL (dk es)) f) v) (eK v st)) p' l' c'/\qd r p h p' h')
   ((0:Int),()) e.x.ai.length rfl ⟨0,p3,l+1,c3,rfl,ad,ad,m4,s04⟩ ?_
  rintro ⟨n26,⟨⟩⟩ w h5 ⟨i,p5,l5,c5,hi0,hile,rfl,J,s5⟩;simp only at hi0;subst hi0;refine an ?_;have Y:=s5.co Z m co;obtain ⟨g5,hu5,G,n5,hn5⟩:=hgood ((e.x.ai.map (·.1)).take i);have hi5:=hinn ((e.x.ai.map (·.1)).take i);have hk5:=fun hi:i<e.x.ai.length=>(show (e.x.ai.map (·.1)).take (i+1)=(e.x.ai.map (·.1)).take i++[e.x.ai[i].1] by
   rw [Y3 (by rw [Y0]; exact hi),Zb])
  have hfin:i=e.x.ai.length->(e.x.ai.map (·.1)).take i=cL (dk es) v:=by
   intro hh;rw [hsu];exact Zy (by rw [Y0]; omega)
  have j:∀ hi:i<e.x.ai.length,((e.x.ai.map (·.1)).take (i+1)).foldl (eJ (cy es) (cP (cy es) (cL (dk es)) f) v) (eK v st)=eJ (cy es) (cP (cy es) (cL (dk es)) f) v (((e.x.ai.map (·.1)).take i).foldl (eJ (cy es) (cP (cy es) (cL (dk es)) f) v) (eK v st)) e.x.ai[i].1:=by
   intro hi;rw [hk5 hi,ZY]; rfl
  have u:cP (cy es) (cL (dk es)) (f+1) v st=(if ur ((cL (dk es) v).foldl (eJ (cy es) (cP (cy es) (cL (dk es)) f) v) (eK v st)) v<sg ((cL (dk es) v).foldl (eJ (cy es) (cP (cy es) (cL (dk es)) f) v) (eK v st)) v then (cL (dk es) v).foldl (eJ (cy es) (cP (cy es) (cL (dk es)) f) v) (eK v st) else qR v ((cL (dk es) v).foldl (eJ (cy es) (cP (cy es) (cL (dk es)) f) v) (eK v st))):=rfl;refine aQ (fun g1=>?_) (fun g1=>?_)
  ·have hilt:i<e.x.ai.length:=ad
   have j:=j hilt;refine ay ⟨ad,ad⟩ ?_;obtain ⟨a2,ha2,hc2⟩:=(hinW h5 Y).cells i hilt;refine aw ha2 ?_;rw [show Int.toNat (i:Int)=i from ad];have htsi:=hts e.x.ai[i] (Y9 hilt);generalize e.x.ai[i]=t at hc2 htsi j;generalize hst5:((e.x.ai.map (·.1)).take i).foldl (eJ (cy es) (cP (cy es) (cL (dk es)) f) v) (eK v st)=st5 at J g5 hu5 hi5 j;refine az (t.1,(t.2:Int),()) hc2 (an ?_);refine bm ?_;intro h6 b6 e6 z6;refine ar b6 rfl aj ?_;intro h7 b7 k7 z7;have b7:bF h7 h5.size 117 [.string t.1,.int .u32 (t.2:Int)]:=b7;have e57:Ext h5 h7:=bR e6 k7;have co7:=Y.mG Z e57 aj;have m7:=J.ak e57;have Vc:qd r p5 h5 p5 h7:=qd.ext e57;have ha7:=Y.bV.lt;have hap:h5.size∉aM p5:=fun hb=>by have:=(J.w.cr hb).2; omega
   have hw:=iA i;refine af co7.bA (some r.gA,()) rfl (an ?_);refine af b7 (t.1,()) rfl (an ?_);obtain ⟨nA7,mA7⟩:=co7.mA;refine Dc mA7 t.1 ?_;refine av (fun g2=>?_) (fun g2=>?_)
   ·have g2:¬ cy es t.1=true:=by
     unfold cy;intro hh;rw [hh] at g2;cases g2
    have hst:eJ (cy es) (cP (cy es) (cL (dk es)) f) v st5 t.1=st5:=Y2 g2;refine aH (cs:=[(false,[.int .i64])]) (((i+1:Nat):Int),()) (e.x.ai.length-(i+1)) rfl ad (Zl (fun z=>[Value.int .i64 z]) hw) ⟨i+1,p5,l5,c5,rfl,ad,rfl,?_,s5.trans Vc⟩;rw [j,hst];exact m7
   ·have g2:cy es t.1=true:=by
     unfold cy;cases hh:(kr es t.1).isSome with
     | true=>rfl
     | false=>rw [hh] at g2; cases g2
    have hwn:=hown _ g2;have hst:eJ (cy es) (cP (cy es) (cL (dk es)) f) v st5 t.1=tf (cP (cy es) (cL (dk es)) f) v t.1 (fz v t.1 st5):=Y8 g2;rw [hst] at j;have g8:=g5.self v t.1;have hu8:qz (aZ es) (fz v t.1 st5)<=f:=by unfold qz; rw [(ix v t.1 st5).1]; exact hu5
    have hi8:oS (aZ es) (fz v t.1 st5):=by intro s hs; rw [(ix v t.1 st5).1] at hs; exact hi5 s hs
    refine af b7 (t.1,()) rfl (an ?_);rw [Vx];refine aQ (fun g3=>?_) (fun g3=>?_)
    ·refine af co7.bB (some r.gB,()) rfl (an ?_);refine m7.UB o hsv ?_;intro h8 m8 s8 z8;have e8:fz v t.1 st5={ st5 with back:=dF st5.back v true }:=Y8 g3;rw [<- e8] at m8;have co8:=s8.co Z m7 co7;have b8:=s8.box (st:=st5) (l:=l5) (c:=c5) o ha7 hap b7;refine Je ih Z hs m8 co8 g8 hu8 hi8 hv hwn ha7 hap b8 (i:Int) ?_;intro h9 p9 l9 c9 m9 s9;refine aH (cs:=[(false,[.int .i64])]) (((i+1:Nat):Int),()) (e.x.ai.length-(i+1)) rfl ad (Zl (fun z=>[Value.int .i64 z]) hw) ⟨i+1,p9,l9,c9,rfl,ad,rfl,?_,((s5.trans Vc).trans s8).trans s9⟩;rw [j];exact m9
    ·have e8:fz v t.1 st5=st5:=Y2 g3;rw [<- e8] at m7;refine Je ih Z hs m7 co7 g8 hu8 hi8 hv hwn ha7 hap b7 (i:Int) ?_;intro h9 p9 l9 c9 m9 s9;refine aH (cs:=[(false,[.int .i64])]) (((i+1:Nat):Int),()) (e.x.ai.length-(i+1)) rfl ad (Zl (fun z=>[Value.int .i64 z]) hw) ⟨i+1,p9,l9,c9,rfl,ad,rfl,?_,(s5.trans Vc).trans s9⟩;rw [j];exact m9
  ·have hii:=hfin ad;rw [hii] at J g5 G hi5 hn5;generalize hst5:(cL (dk es) v).foldl (eJ (cy es) (cP (cy es) (cL (dk es)) f) v) (eK v st)=st5 at J g5 G hi5 hn5 u;refine af Y.bL (some r.gL,()) rfl (an ?_);refine J.AE v ?_;refine af Y.bN (some r.gN,()) rfl (an ?_);refine J.Ep v ?_;refine av (fun g2=>?_) (fun g2=>?_)
   ·have g2:ur st5 v<sg st5 v:=by have:=Y5 g2; unfold ur sg; omega
    rw [Y8 g2] at u;refine ⟨rfl,p5,l5,c5,?_,s5⟩;rw [u];exact J
   ·have g2:¬ ur st5 v<sg st5 v:=by have:=Zc g2; unfold ur sg; omega
    rw [Y2 g2] at u;have hl5:l5=st5.cZ.length:=by rw [J.w.1,Y0]
    have hw5:=g5.cZ;have hc5:st5.jE<=es.length:=by have:=g5.sum; omega
    have hvw:v∈st5.cZ:=G.subset aj;have hpk:re v st5<st5.cZ.length:=by
     unfold re;rw [List.findIdx_lt_length];exact ⟨v,hvw,aj⟩
    refine af J.bW ((p5,l5,c5),()) rfl (an ?_);refine ka (zo J.w v hvw ad) ?_;refine af J.bW ((p5,l5,c5),()) rfl (an ?_);have hcap:=J.w.GB;have hpk':(st5.cZ.findIdx fun x=>decide (v=x))=re v st5:=rfl;rw [hpk'];refine ay ⟨ad,ad,ad⟩ ?_;refine TQ Z hs J Y hi5 g5 ad ad ?_;intro h6 p6 l6 c6 m6 s6;refine ⟨rfl,p6,l6,c6,?_,s5.trans s6⟩;rw [u];exact m6
end
theorem oS.top {names:List Xaa} {own:Xaa->Bool} (hown:∀ s,own s=true->s∈names) (succ:Xaa->List Xaa) (f:Nat):∀ (l:List Xaa) (st:TS),(∀ s,s∈l->s∈names)->oS names st->oS names (l.foldl (wy own succ f) st)
 | [],st,hl,hi=>hi
 | w::l,st,hl,hi=>by
  rw [ZH];refine oS.top hown succ f l _ (fun s hs=>hl s (Zd _ hs)) ?_;unfold wy;split
  ·exact oS.visit hown succ f w st hi (hl w aj)
  ·exact hi
def HG {h:Hp} {p:Xac} {l c:Nat} {es:List cK} (v:tQ h p l es) (eo:EqsOk es) (hp:∀ i,i∈aM p->i<h.size) :
  HC Tryz.prog 63 #[.slice p l c] h fun w h'=>(∃ g n,w=.map (some g)/\dU eB h' g (Gg (cy es) (cL (dk es)) (aZ es)).back n/\h.size<=g)/\Ext h h':=by
 refine bd (args:=[.slice p l c]) mixed Tryz.func63 ax (xz p l c) ?_;unfold th bf bk bH aP bK bU aG bj bY aR;have hown:∀ s,cy es s=true->s∈aZ es:=fun s=>(ei es s).1
 have hnl:(aZ es).length=es.length:=by unfold aZ; rw [Y0]
 have hll:=v.len;have hlen:=eo.len;refine bm ?_;intro h1 b1 e1 z1;refine af b1 ((p,l,c),()) rfl (an ?_);refine aJ (zN (v.ak e1) eo.len eo.nodup eo.sz) ?_;rintro _ h2 ⟨⟨gA,rfl,mA,hgA⟩,e2⟩;refine ⟨(some gA,()),rfl,an ?_⟩;have b2:=b1.ak e2 aj;have hgA2:=mA.lt;refine bm ?_;intro h3 b3 e3 z3;refine ar b3 rfl aj ?_;intro h4 b4 k4 z4;have b4:bF h4 h2.size 89 [.map (some gA)]:=b4;have e24:Ext h2 h4:=bR e3 k4;refine yg (en:=eB) ?_;intro h5 m5 e5 z5;refine bm ?_;intro h6 b6 e6 z6;refine ar b6 rfl aj ?_;intro h7 b7 k7 z7;have b7:bF h7 h5.size 58 [.map (some h4.size)]:=b7;have e57:Ext h5 h7:=bR e6 k7;refine yg (en:=eI) ?_;intro h8 m8 e8 z8;refine yg (en:=eI) ?_;intro h9 m9 e9 z9;refine bm ?_;intro h10 b10 e10 z10;refine bm ?_;intro h11 b11 e11 z11;refine ar (b10.ak e11 aj) rfl aj ?_;intro h12 b12 k12 z12;have b12:bF h12 h9.size 89 [.map (some h7.size)]:=b12;refine ar (b11.ak k12 (by simp; omega)) rfl aj ?_;intro h13 b13 k13 z13;have b13:bF h13 h10.size 89 [.map (some h8.size)]:=b13;have e913:Ext h9 h13:=Ch.trans ((bR (Ext.trans e10 e11) k12):Ext h9 h12) k13 (fun j hj hl=>by simp at hj; omega);refine bm ?_;intro h14 b14 e14 z14;refine yg (en:=eB) ?_;intro h15 m15 e15 z15;refine bm ?_;intro h16 b16 e16 z16;refine ar b16 rfl aj ?_;intro h17 b17 k17 z17;have b17:bF h17 h15.size 58 [.map (some h14.size)]:=b17;have e1517:Ext h15 h17:=bR e16 k17;refine bm ?_;intro h18 b18 e18 z18;refine ar b18 rfl aj ?_;intro h19 b19 k19 z19;have U:Ext h17 h19:=bR e18 k19;have u:=e1517.trans U;have G:Ext h13 h19:=(e14.trans e15).trans u;have X:=e913.trans G;have Y:Ext h7 h19:=(e8.trans e9).trans X;have e419:Ext h4 h19:=(e5.trans e57).trans Y;have Z:=e24.trans e419;have e019:Ext h h19:=(e1.trans e2).trans Z;have hz13:h13.size=h9.size+2:=ad
 have hz9:h9.size=h7.size+2:=ad
 have hz7:h7.size=h4.size+2:=ad
 have hz4:h4.size=h2.size+1:=ad
 generalize hr:(⟨h.size,gA,h2.size,h4.size,h5.size,h7.size,h8.size,h9.size,h10.size,h13.size,h14.size,h15.size,h17.size⟩:TF)=r;have ho:r.ord:=by
  subst hr;unfold TF.ord;dsimp only;omega
 have co:O6 r h19 es p l c:=by
  subst hr;refine ⟨(b2.ak Z aj),b4.ak e419 aj,⟨_,mA.ak Z aj⟩,?_,(b12.ak k13 (by simp; omega)).ak G aj,b13.ak G aj,b17.ak U aj,b7.ak Y aj,v.ak e019⟩;exact b19
 have st:mR r h19 B1 none 0 0:=by
  subst hr;exact ⟨m8.ak (e9.trans X) aj,⟨0,m9.ak X aj⟩,⟨0,m15.ak u aj⟩,⟨0,m5.ak ((e57.trans Y)) aj⟩,b14.ak (e15.trans u) aj,SL.nil _ _ _ _⟩
 have lo:Jp r es p:=by
  subst hr;exact ⟨ho,hp,fun e he hne i hi=>(v.fw e he).UI hne i hi⟩
 have hrE:r.E=h.size:=by subst hr; rfl
 have hbN:r.N=h9.size:=by subst hr; rfl
 have hbV:r.V=h17.size:=by subst hr; rfl
 have hbB:r.B=h5.size:=by subst hr; rfl
 rw [show (⟨h9.size,0,none⟩:Xax)=bx r.N by rw [hbN],show (⟨h17.size,0,none⟩:Xax)=bx r.V by rw [hbV],show (⟨h5.size,0,none⟩:Xax)=bx r.B by rw [hbB],show (⟨h.size,0,none⟩:Xax)=bx r.E by rw [hrE]];refine af co.bE ((p,l,c),()) rfl (an ?_);refine aX (cs:=[(false,[.int .i64])]) (fun x w h'=>∃ (i:Nat) (p':Xac) (l' c':Nat),x.1=(i:Int)/\i<=es.length/\w=es.length-i/\mR r h' (((aZ es).take i).foldl (wy (cy es) (cL (dk es)) (aZ es).length) B1) p' l' c'/\qd r none h19 p' h')
  ((0:Int),()) es.length rfl ⟨0,none,0,0,rfl,ad,ad,st,qd.refl _ _ _⟩ ?_
 rintro ⟨n20,⟨⟩⟩ w h20 ⟨i,p20,l20,c20,hi0,hile,rfl,m20,s20⟩;simp only at hi0;subst hi0;refine an ?_;have co20:=s20.co lo st co;refine aQ (fun g1=>?_) (fun g1=>?_)
 ·have hilt:i<es.length:=ad
  refine ay ⟨ad,ad⟩ ?_;obtain ⟨a2,ha2,hc2⟩:=co20.vw.cells i hilt;refine aw ha2 ?_;rw [show Int.toNat (i:Int)=i from ad];have t20:=CC (own:=cy es) (succ:=cL (dk es)) eo.nodup hown ((aZ es).take i) [] B1 (fun s hs=>Z7 hs) (Wy _);have i20:=oS.top hown (cL (dk es)) (aZ es).length ((aZ es).take i) B1 (fun s hs=>Z7 hs) (fun s hs=>(hs rfl).elim);have htk:(aZ es).take (i+1)=(aZ es).take i++[es[i].name]:=by
   rw [Y3 ad];unfold aZ;rw [Zb]
  have hmem:es[i].name∈aZ es:=Zm (Y9 hilt);generalize es[i]=e at hc2 htk hmem;have J:((aZ es).take (i+1)).foldl (wy (cy es) (cL (dk es)) (aZ es).length) B1=wy (cy es) (cL (dk es)) (aZ es).length (((aZ es).take i).foldl (wy (cy es) (cL (dk es)) (aZ es).length) B1) e.name:=by
   rw [htk,ZY]; rfl
  generalize ((aZ es).take i).foldl (wy (cy es) (cL (dk es)) (aZ es).length) B1=st20 at m20 t20 i20 J;refine az (e.name,(e.p,e.l,e.c),(e.x.num:Int),()) hc2 (an ?_);refine bm ?_;intro h21 b21 e21 z21;refine ar b21 rfl aj ?_;intro h22 b22 k22 z22;have b22:bF h22 h20.size 100 [.string e.name,.slice e.p e.l e.c,.int .u32 e.x.num]:=b22;have O:Ext h20 h22:=bR e21 k22;have co22:=co20.mG lo O aj;have m22:=m20.ak O;have s22:qd r none h19 p20 h22:=s20.trans (qd.ext O);have hw:=iA i;refine af co22.bN (some r.gN,()) rfl (an ?_);refine af b22 (e.name,()) rfl (an ?_);refine m22.Ep e.name ?_;refine av (fun g2=>?_) (fun g2=>?_)
  ·have g2:(st20.num e.name).getD 0=0:=by have:=Y5 g2; omega
   refine af co22.bV (.func (.func 90) #[] r.tF.toArray,()) rfl (an ?_);refine af b22 (e.name,()) rfl (an ?_);refine rc (cap:=r.tF) W2 rfl (LG eo lo (aZ es).length e.name st20 h22 p20 l20 c20 m22 co22 t20.CI hmem (t20.CI.none g2) (Z8 _ _) i20) ?_;rintro _ h23 ⟨rfl,p23,l23,c23,m23,s23⟩;refine ⟨(),rfl,?_⟩;refine aH (cs:=[(false,[.int .i64])]) (((i+1:Nat):Int),()) (es.length-(i+1)) rfl ad (Zl (fun z=>[Value.int .i64 z]) hw) ⟨i+1,p23,l23,c23,rfl,ad,rfl,?_,s22.trans s23⟩;rw [J];unfold wy;rw [Y8 g2];exact m23
  ·have g2:¬ (st20.num e.name).getD 0=0:=by
    intro k;rw [k] at g2;simp at g2
   refine aH (cs:=[(false,[.int .i64])]) (((i+1:Nat):Int),()) (es.length-(i+1)) rfl ad (Zl (fun z=>[Value.int .i64 z]) hw) ⟨i+1,p20,l20,c20,rfl,ad,rfl,?_,s22⟩;rw [J];unfold wy;rw [Y2 g2];exact m22
 ·have htk:(aZ es).take i=aZ es:=Zy ad;rw [htk] at m20;refine af co20.bB (some r.gB,()) rfl (an ?_);obtain ⟨n3,mB⟩:=m20.mB;have o':=ho;unfold TF.ord at o';refine ⟨⟨r.gB,n3,rfl,mB,ad⟩,Ch.trans e019 s20.ch fun j hj hl=>?_⟩;rw [pB] at hj;simp [aM] at hj;omega
def wz {h:Hp} {b:Nat} {e:TypeId} {p:Xac} {l c:Nat} {us:dc} (s:SL h b e 2 p l c (us.map df)):gW h p l us :=
 ⟨by rw [s.1,Y0],fun i hi=>by
  obtain ⟨a,j,hc⟩:=s.cells (i:=i) (by simpa using hi);rw [Zb] at hc;exact ⟨a,j,hc⟩⟩
structure tv (es:List cK):Prop extends EqsOk es where
 U9:(es.flatMap (·.x.ai)).length<=2^20
abbrev eR (es:List cK) (v:Xaa):ct:=Ii (cy es) (dk es) (aZ es) v
abbrev dp (es:List cK):Xaa->Xaa->Prop:=Edge (cy es) (cL (dk es))
def lO {es:List cK} {v:Xaa} (hv:v∈aZ es):∃ e,e∈es/\e.name=v/\dk es v=e.x:=by
 obtain ⟨k,hk⟩:=DO hv;obtain ⟨j,u,G⟩:=oq hk;exact ⟨_,Y9 j,u,G⟩
def gX {α β:Type} (f:α->List β) {l:List α} {a:α} (h:a∈l):(f a).length<=(l.flatMap f).length:=by
 induction l with
 | nil=>simp at h
 | cons b l j =>
  rw [ZG,Y4];rcases Zo.1 h with e | e
  ·subst e; omega
  ·have:=j e; omega
def tv.y5 {es:List cK} (o:tv es) {v:Xaa} (hv:v∈aZ es):(dk es v).ai.length<=2^20:=by
 obtain ⟨e,j,_,hx⟩:=lO hv;rw [hx];exact ZW (gX (fun e:cK=>e.x.ai) j) o.U9
def tv.DK {es:List cK} (o:tv es) (hc:∀ v,¬ kq (dp es) v) {v:Xaa} (hv:v∈aZ es):(eR es v).ai.length<=2^20:=by
 have j:=UD (ei es) hc hv;have G:=wU (ei es) hc hv;have h1:((eR es v).ai.map (·.1)).Nodup:=Z3.2 (j.1.imp fun h=>jD h);have h2:=jO ((eR es v).ai.map (·.1)) ((es.flatMap (·.x.ai)).map (·.1)) h1 (fun s hs=>by
  obtain ⟨t,J,rfl⟩:=Za.1 hs;obtain ⟨_,w,u,hw,hu,e⟩:=G t J;obtain ⟨d,O,_,hx⟩:=lO hw;rw [hx] at hu;rw [<- e];exact Zm (cj9.2 ⟨d,O,hu⟩))
 rw [Y0,Y0] at h2;exact ZW h2 o.U9
def tv.Li {es:List cK} (o:tv es) (hc:∀ v,¬ kq (dp es) v) {v:Xaa} (hv:v∈aZ es):∀ t,t∈(eR es v).ai->t.1.size<=maxLen:=by
 intro t j;obtain ⟨_,w,u,hw,hu,e⟩:=wU (ei es) hc hv t j;obtain ⟨d,G,_,hx⟩:=lO hw;rw [hx] at hu;rw [<- e];exact o.ts d G u hu
theorem pR {of:Xaa->Option ct} {B:Nat} (u:1<=B) (j:∀ s y,of s=some y->y.ai.length<=B):∀ l:dc,(l.flatMap (rh of)).length<=l.length*B
 | []=>aj
 | t::l=>by
  rw [ZG,Y4,ZP,Z9];have G:=pR u j l
  have:(rh of t).length<=B:=by
   unfold rh;cases h:of t.1 with
   | none=>simpa using u
   | some y=>simpa using j _ _ h
  omega
structure SF where
 E:Nat
 gA:Nat
 A:Nat
 gD:Nat
 D:Nat
 V:Nat
def SF.ord (r:SF):Prop:=r.E<r.gA/\r.gA<r.A/\r.A<r.gD/\r.gD<r.D/\r.D<r.V
def SF.tF (r:SF):List Xab:=[.pointer (some (bx r.D)),.pointer (some (bx r.E)),.pointer (some (bx r.A)),.pointer (some (bx r.V))]
structure UZ (r:SF) (h:Hp) (es:List cK) (p0:Xac) (l0 c0:Nat):Prop where
 bE:bF h r.E 44 [.slice p0 l0 c0]
 bA:bF h r.A 89 [.map (some r.gA)]
 mA:∃ n,dU eI h r.gA (kr es) n
 bV:bF h r.V 150 [.func (.func 65) #[] r.tF.toArray]
 bD:bF h r.D 149 [.map (some r.gD)]
 vw:tQ h p0 l0 es
structure X8 (r:SF) (es:List cK) (p0:Xac):Prop where
 ord:r.ord
 l0:∀ i,i∈aM p0->i<r.E
 li:∀ e,e∈es->e.x.ai≠[]->∀ i,i∈aM e.p->i<r.E
def UZ.ak {r:SF} {h h':Hp} {es:List cK} {p0:Xac} {l0 c0:Nat} (m:UZ r h es p0 l0 c0) (j:X8 r es p0) (k:Ch [r.gD] h h'):UZ r h' es p0 l0 c0:=by
 have o:=j.ord;unfold SF.ord at o;obtain ⟨n,mA⟩:=m.mA;exact ⟨m.bE.ak k (by simp; omega),m.bA.ak k (by simp; omega),⟨n,mA.ak k (by simp; omega)⟩,m.bV.ak k (by simp; omega),m.bD.ak k (by simp; omega),m.vw.mG k (fun i hi=>by have:=j.l0 i hi; simp; omega) (fun e G u i hi=>by have:=j.li e G u i hi; simp; omega)⟩
structure SW (r:SF) (h:Hp) (es:List cK) (f:Xaa->Option rm):Prop where
 map:∃ n,GS h r.gD f n
 of:∀ s y,f s=some y->s∈aZ es/\y.x=eR es s/\∀ i,i∈aM y.p->r.V<i/\i<h.size
def SW.ext {r:SF} {h h':Hp} {es:List cK} {f:Xaa->Option rm} (d:SW r h es f) (k:Ext h h'):SW r h' es f:=by
 obtain ⟨n,m⟩:=d.map;exact ⟨⟨n,m.ak k aj (fun s y hy i hi=>aj)⟩,fun s y hy=>by
  obtain ⟨a,b,c⟩:=d.of s y hy;exact ⟨a,b,fun i hi=>⟨(c i hi).1,Nat.lt_of_lt_of_le (c i hi).2 k.size⟩⟩⟩
def Wo (f f':Xaa->Option rm):Prop:=∀ s y,f s=some y->f' s=some y
def R7 (b:Nat) (f f':Xaa->Option rm):Prop:=∀ s y,f' s=some y->f s=some y\/∀ i,i∈aM y.p->b<=i
def Tl:fL Tryz.prog 65=true:=ax
def Mm {r:SF} {es:List cK} {p0:Xac} {l0 c0:Nat} (eo:tv es) (lo:X8 r es p0) (hc:∀ v,¬ kq (dp es) v):∀ (k:Nat) (v:Xaa),Hg (dp es) k v->v∈aZ es->∀ (h:Hp) (f:Xaa->Option rm),UZ r h es p0 l0 c0->SW r h es f ->
  HC Tryz.prog 65 (.string v::r.tF).toArray h fun w h'=>∃ y f',w=eL y/\y.x=eR es v/\SW r h' es f'/\f' v=some y/\Wo f f'/\R7 h.size f f'/\Ch [r.gD] h h':=by
 intro k;have o:=lo.ord;have o':=o;unfold SF.ord at o';have hown:=ei es
 induction k with
 | zero=>intro v hg; exact hg.elim
 | succ k ih =>
  intro v hg hv h f co dn;refine bd (args:=.string v::r.tF) mixed Tryz.func65 ax (pu v (bx r.D) (bx r.E) (bx r.A) (bx r.V)) ?_;unfold kF bf bk bH aP bK bU aG bj bY aR cn;have hV:=co.bV.lt;have G:=eo.toEqsOk.names v hv;refine bm ?_;intro h1 b1 e1 z1;have co1:=co.ak lo (e1.mono aj);have dn1:=dn.ext e1;refine af co1.bD (some r.gD,()) rfl (an ?_);obtain ⟨n1,m1⟩:=dn1.map;refine AE m1.map v (fun y hy1=>?_) (fun hy0=>?_)
  ·refine bm ?_;intro h2 b2 e2 z2;refine ar b2 rfl aj ?_;intro h3 b3 k3 z3;have b3:bF h3 h1.size 69 [.slice y.p y.l y.c,.int .u32 (y.x.num:Int)]:=b3;have Z:Ext h1 h3:=bR e2 k3;refine bC rfl ?_;refine af b3 ((y.p,y.l,y.c),(y.x.num:Int),()) rfl (an ?_);refine ar (b1.ak Z aj) rfl aj ?_;intro h4 b4 k4 z4;have b4:bF h4 h.size 69 [.slice y.p y.l y.c,.int .u32 (y.x.num:Int)]:=b4;refine af b4 ((y.p,y.l,y.c),(y.x.num:Int),()) rfl ?_;have e04:Ext h h4:=bR (e1.trans Z) k4;exact ⟨y,f,rfl,(dn.of v y hy1).2.1,dn.ext e04,hy1,fun s y hy=>hy,fun s y hy=>.inl hy,e04.mono aj⟩
  ·refine bm ?_;intro h2 b2 e2 z2;refine ar b2 rfl aj ?_;intro h3 b3 k3 z3;have Z:Ext h1 h3:=bR e2 k3;refine bP rfl ?_;have e03:=e1.trans Z;have co3:=co.ak lo (e03.mono aj);have dn3:=dn.ext e03;refine af co3.bE ((p0,l0,c0),()) rfl (an ?_);refine af co3.bA (some r.gA,()) rfl (an ?_);obtain ⟨nA,mA⟩:=co3.mA;refine Iw mA v ?_;obtain ⟨q,hq⟩:=DO hv;obtain ⟨hql,hqn,hqx⟩:=oq hq;have hl0:=co3.vw.len;have hlen:=eo.len;rw [hq];simp only [Option.getD_some];refine ay ⟨ad,ad⟩ ?_;obtain ⟨a,ha,hcc⟩:=co3.vw.cells q hql;refine aw ha ?_;rw [show Int.toNat (q:Int)=q from ad];have U:∀ h',UZ r h' es p0 l0 c0->gW h' es[q].p es[q].l es[q].x.ai:=fun h' co'=>co'.vw.fw es[q] (Y9 hql)
   have hts:=eo.ts es[q] (Y9 hql);have hli:=lo.li es[q] (Y9 hql);have hll:=eo.y5 hv;have hsol:=HM hown hc hv;rw [hqx] at hll hsol;have hedge:∀ t,t∈es[q].x.ai->cy es t.1=true->dp es v t.1:=fun t ht Y=>⟨kZ.2 ⟨t,by rw [hqx]; exact ht,rfl⟩,Y⟩
   generalize es[q]=e at hcc U hts hli hll hsol hedge;refine az ((e.p,e.l,e.c),(e.x.num:Int),()) ⟨by rw [add_zero']; exact hcc.2.1,by rw [add_add]; exact hcc.2.2.1,trivial⟩ ?_;refine an ?_;refine bm ?_;intro h5 b5 e5 z5;refine ar b5 rfl aj ?_;intro h6 b6 k6 z6;have b6:bF h6 h3.size 69 [.slice e.p e.l e.c,.int .u32 (e.x.num:Int)]:=b6;have e36:Ext h3 h6:=bR e5 k6;have e06:=e03.trans e36;have hz3:=e03.size;refine af b6 ((e.p,e.l,e.c),()) rfl (an ?_);refine aX (cs:=[(false,[.int .i64])]) (fun x w h'=>∃ (i:Nat) (f':Xaa->Option rm),x.1=(i:Int)/\i<=e.x.ai.length/\w=e.x.ai.length-i/\SW r h' es f'/\Wo f f'/\R7 h6.size f f'/\(∀ t,t∈e.x.ai.take i->cy es t.1=true->∃ y,f' t.1=some y)/\Ch [r.gD] h6 h')
    ((0:Int),()) e.x.ai.length rfl ⟨0,f,rfl,ad,ad,dn.ext e06,fun s y hy=>hy,fun s y hy=>.inl hy,aj,Ch.refl _ _⟩ ?_
   rintro ⟨n23,⟨⟩⟩ w h7 ⟨i,f7,hi0,hile,rfl,J,sb7,na7,dd7,k7⟩;simp only at hi0;subst hi0;refine an ?_;have k07:Ch [r.gD] h h7:=Ch.trans (e06.mono aj) k7 (fun j hj _=>hj);have co7:=co.ak lo k07;have hel:=(U h7 co7).len;refine aQ (fun g1=>?_) (fun g1=>?_)
   ·have hilt:i<e.x.ai.length:=ad
    refine ay ⟨ad,ad⟩ ?_;obtain ⟨a2,ha2,hc2⟩:=(U h7 co7).cells i hilt;refine aw ha2 ?_;rw [show Int.toNat (i:Int)=i from ad];have htk:e.x.ai.take (i+1)=e.x.ai.take i++[e.x.ai[i]]:=Y3 hilt;have hed:=hedge e.x.ai[i] (Y9 hilt);generalize e.x.ai[i]=t at hc2 htk hed;refine az (t.1,(t.2:Int),()) hc2 (an ?_);refine bm ?_;intro h8 b8 e8 z8;refine ar b8 rfl aj ?_;intro h9 b9 k9 z9;have b9:bF h9 h7.size 117 [.string t.1,.int .u32 (t.2:Int)]:=b9;have e79:Ext h7 h9:=bR e8 k9;have k09:Ch [r.gD] h h9:=Ch.trans k07 e79 aj;have X:=co.ak lo k09;have dn9:=J.ext e79;have hw:=iA i;refine af X.bA (some r.gA,()) rfl (an ?_);refine af b9 (t.1,()) rfl (an ?_);obtain ⟨nA9,mA9⟩:=X.mA;refine Dc mA9 t.1 ?_;refine av (fun g2=>?_) (fun g2=>?_)
    ·have g2:cy es t.1=true:=g2;refine af X.bV (.func (.func 65) #[] r.tF.toArray,()) rfl (an ?_);refine af b9 (t.1,()) rfl (an ?_);refine rc (cap:=r.tF) Tl rfl (ih t.1 (hg t.1 (hed g2)) ((hown _).1 g2) h9 f7 X dn9) ?_;rintro _ h10 ⟨y,f10,rfl,hyx,dn10,hfy,sb10,na10,O⟩;refine ⟨((y.p,y.l,y.c),(y.x.num:Int),()),rfl,an ?_⟩;refine aH (cs:=[(false,[.int .i64])]) (((i+1:Nat):Int),()) (e.x.ai.length-(i+1)) rfl ad (Zl (fun z=>[Value.int .i64 z]) hw) ⟨i+1,f10,rfl,ad,rfl,dn10,fun s y hy=>sb10 s y (sb7 s y hy),fun s y hy=>?_,fun u hu Y=>?_,?_⟩
     ·rcases na10 s y hy with h | h
      ·exact na7 s y h
      ·refine .inr fun i hi=>?_
       have:=h i hi
       have:=k7.size
       have:=e79.size
       omega
     ·rw [htk] at hu;rcases Zk.1 hu with h | h
      ·obtain ⟨y,hy⟩:=dd7 u h Y;exact ⟨y,sb10 _ _ hy⟩
      ·rw [Zi.1 h]; exact ⟨y,hfy⟩
     ·exact Ch.trans (Ch.trans k7 e79 aj) O (fun j hj _=>hj)
    ·have g2:¬ cy es t.1=true:=by
      unfold cy;intro k;rw [k] at g2;cases g2
     refine aH (cs:=[(false,[.int .i64])]) (((i+1:Nat):Int),()) (e.x.ai.length-(i+1)) rfl ad (Zl (fun z=>[Value.int .i64 z]) hw) ⟨i+1,f7,rfl,ad,rfl,dn9,sb7,na7,fun u hu Y=>?_,Ch.trans k7 e79 aj⟩;rw [htk] at hu;rcases Zk.1 hu with h | h
     ·exact dd7 u h Y
     ·rw [Zi.1 h] at Y; exact (g2 Y).elim
   ·have hii:e.x.ai.take i=e.x.ai:=Zy ad;rw [hii] at dd7;have b7:=b6.ak k7 (by simp; omega);refine af b7 ((e.p,e.l,e.c),(e.x.num:Int),()) rfl (an ?_);refine af co7.bD (some r.gD,()) rfl (an ?_);obtain ⟨n7,m7⟩:=J.map;have hz7:=k07.size;have hput:de (fun s=>(f7 s).map (·.x)) e.x=eR es v:=by
     show _=Ii (cy es) (dk es) (aZ es) v;rw [hsol];refine pC fun t ht=>?_
     show (f7 t.1).map (·.x)=Jy (cy es) (dk es) (aZ es) t.1;unfold Jy
     by_cases Y:cy es t.1=true
     ·obtain ⟨y,hy⟩:=dd7 t ht Y;rw [hy,Y8 Y,cr9,(J.of _ _ hy).2.1]
     ·rw [Y2 Y];cases hy:f7 t.1 with
      | none=>rfl
      | some y=>exact (Y ((hown _).2 (J.of _ _ hy).1)).elim
    have hlens:∀ s y,f7 s=some y->y.x.ai.length<=2^20:=fun s y hy=>by
     obtain ⟨a,b,_⟩:=J.of s y hy;rw [b]; exact eo.DK hc a
    refine aJ (Eu (c:=e.c) (U h7 co7) m7 ad hts (fun s y hy=>⟨by have:=hlens s y hy; omega,by
      obtain ⟨a,b,_⟩:=J.of s y hy;rw [b]; exact eo.Li hc a⟩) ?_) ?_
    ·have:=pR (of:=fun s=>(f7 s).map (·.x)) (B:=2^20) ad (fun s y hy=>by
      cases hh:f7 s with
      | none=>simp only [hh] at hy; cases hy
      | some z =>
       simp only [hh,Option.map_some,Option.some.injEq] at hy;rw [<- hy]; exact hlens s z hh) e.x.ai
     exact ZW this (ZW (ag9 _ hll) bZ)
    ·rintro _ h8 ⟨⟨p',l',c',rfl,s8⟩,e8⟩;rw [hput] at s8 ⊢;refine ⟨((p',l',c'),((eR es v).num:Int),()),rfl,an ?_⟩;have b8:=b7.ak e8 aj;refine ar b8 rfl aj ?_;intro h9 b9 k9 z9;have b9:bF h9 h3.size 69 [.slice p' l' c',.int .u32 ((eR es v).num:Int)]:=b9;have hz8:=e8.size;have k79:Ch [h3.size] h7 h9:=Ch.trans (e8.mono aj) k9 (fun j hj _=>hj);have k09:Ch [r.gD] h h9:=Ch.trans (Ch.trans k07 e8 aj) k9 (fun j hj hl=>by simp at hj; omega);have X:=co.ak lo k09;have hk7:=k7.size;have hz36:h3.size<h6.size:=ad
     have hblk:∀ s y,f7 s=some y->∀ i,i∈aM y.p->i≠h3.size/\i≠h.size/\i≠r.gD:=by
      intro s y hy i hi;have h1:=(J.of s y hy).2.2 i hi;rcases na7 s y hy with h | h
      ·have:=((dn.of s y h).2.2 i hi).2
       omega
      ·have:=h i hi
       omega
     have m9:GS h9 r.gD f7 n7:=m7.ak k79 (by simp; omega) (fun s y hy i hi=>by
      have:=(hblk s y hy i hi).1
      simpa using this)
     have s9:=s8.bM k9 (fun i hi=>by have:=(s8.cr hi).1; simp; omega);refine af X.bD (some r.gD,()) rfl (an ?_);refine af b9 ((p',l',c'),((eR es v).num:Int),()) rfl (an ?_);refine L0 m9.map G ⟨p',l',c',eR es v⟩ ?_;intro h10 m10 O z10;have b10:=b9.ak O (by simp; omega);refine af b10 ((p',l',c'),((eR es v).num:Int),()) rfl (an ?_);have b110:bF h10 h.size 69 [.slice none 0 0,.int .u32 0]:=((((b1.ak Z aj).ak e36 aj).ak k7 (by simp; omega)).ak k79 (by simp; omega)).ak O (by simp; omega);refine ar b110 rfl aj ?_;intro h11 b11 k11 z11;have b11:bF h11 h.size 69 [.slice p' l' c',.int .u32 ((eR es v).num:Int)]:=b11;refine af b11 ((p',l',c'),((eR es v).num:Int),()) rfl ?_;have k011:Ch [r.gD] h h11:=Ch.trans (Ch.trans k09 O (fun j hj _=>hj)) k11 (fun j hj hl=>by simp at hj; omega);have hz9:=k79.size;refine ⟨⟨p',l',c',eR es v⟩,dF f7 v ⟨p',l',c',eR es v⟩,rfl,rfl,⟨⟨_,m10.ak k11 (by simp; omega),fun s y hy=>?_⟩,fun s y hy=>?_⟩,cC _ _ _,fun s y hy=>?_,fun s y hy=>?_,k011⟩
     ·by_cases G:s=v
      ·subst G;rw [cC] at hy;have hy:=Zn hy;subst hy;exact wz ((s9.bM O (fun i hi=>by have:=(s9.cr hi).1; simp; omega)).bM k11 (fun i hi=>by have:=(s9.cr hi).1; simp; omega))
      ·rw [cj _ _ G] at hy;exact ((m9.fw s y hy).ak O (fun i hi=>by have:=(hblk s y hy i hi).2.2; simpa using this)).ak k11 (fun i hi=>by have:=(hblk s y hy i hi).2.1; simpa using this)
     ·by_cases G:s=v
      ·subst G;rw [cC] at hy;have hy:=Zn hy;subst hy;refine ⟨hv,rfl,fun i hi=>?_⟩
       have:=s9.cr hi
       omega
      ·rw [cj _ _ G] at hy;obtain ⟨a,b,c⟩:=J.of s y hy;refine ⟨a,b,fun i hi=>?_⟩
       have:=c i hi
       omega
     ·have hne:s≠v:=fun e=>by rw [e,hy0] at hy; cases hy
      rw [cj _ _ hne];exact sb7 s y hy
     ·by_cases G:s=v
      ·subst G;rw [cC] at hy;have hy:=Zn hy;subst hy;refine .inr fun i hi=>?_
       have:=s9.cr hi
       omega
      ·rw [cj _ _ G] at hy;rcases na7 s y hy with h | h
       ·exact .inl h
       ·refine .inr fun i hi=>?_
        have:=h i hi
        omega
def lU {P:Program} {h:Hp} {L:Lp} {K:Xab->Hp->Prop} {k:Xac->Nat->Nat->T} {t ty e:TypeId} {z:Xab} {sz by':Nat} (J:P.underlying t=some (.slice e)) (u:(P.info? e).map (fun i=>(i.zero,i.size,i.bytes))=some (some z,sz,by'))
  (O:z.cells.size=sz) {p:Xac} {l c:Nat} {ys:List (List Xab)} (G:(p=none/\ys=[])\/∃ a,p=some a/\aI h a 0 ys.flatten) (hl:l=ys.length) (U:∀ y,y∈ys->y.length=sz) (V:ys.flatten.all cO=true) (X:(2*l+1024)*by'<=2^48) (Y:l<=2^48)
  (hk:∀ p' c' h',SL h' h.size e sz p' l c' ys->Ext h h'->k p' l c' L K h') :
  T.eh P (Instr.buildSlice t 0 #[]) false [(false,[.slice 0])] (fun q m cc=>T.eh P (Builtin.append_ #[t,t] ty #[.slice q m cc,.slice p l c]) false [(false,[.slice 0])] k) L K h:=by
 obtain ⟨i,hi,hz,rfl,rfl⟩:=oK u;refine dz ?_;unfold Instr.buildSlice;rw [ao,aF J];simp only;rw [ao,cd hi,cI hi];rw [Y2 ad,Y8 ad];simp only [Nat.zero_mul,pure_bind];have hf:∀ (f:Nat->Option (Nat × Nat)) (b:Array Xab),Instr.fill f b []=some b:=fun f b=>rfl
 have hb:Array.map (fun x=>(#[]:Array Xab)[x % (#[]:Array Xab).size]!) (Array.range 0)=#[]:=aj
 rw [hf,hb];show ∃ p1 l1 c1,_/\_
 refine ⟨_,_,_,rfl,?_⟩;have s1:SL (h.push (.cells #[] e)) h.size e i.size (some ⟨h.size,0,none⟩) 0 0 []:=⟨rfl,aj,h.size,[],[],rfl,Zh _,ad,bF.new h e [],aj⟩
 have e1:Ext h (h.push (.cells #[] e)):=Ext.push _ _;refine dz ?_;rcases G with ⟨rfl,rfl⟩ | ⟨a,rfl,hc⟩
 ·have Z:l=0:=hl;subst Z;simp [Builtin.append_,ao,aF J,cd hi,Builtin.lenOf,Builtin.firstCells,storeCells];exact ⟨_,_,_,rfl,hk _ _ _ s1 e1⟩
 ·have:=ox (P:=P) (h:=h.push (.cells #[] e)) (K:=fun v h'=>∃ p l c,v=.slice p l c/\k p l c L K h') (ty:=ty) (ys:=ys) J hi hz O s1 hl U (aT e1 aj _ _ hc) V (by simpa using X) (by simpa using Y) aj (cc:=c) ?_
  ·exact this
  ·intro p' c' h2 s2 c2 hp';rw [ZJ,aq9] at *;exact ⟨p',l,c',rfl,hk p' c' h2 s2 (Ch.trans e1 c2 fun j hj hl=>by simp [aM] at hj; omega)⟩
def H2 {h:Hp} {p:Xac} {l:Nat} {us:dc} (v:gW h p l us):(p=none/\us.map df=[])\/∃ a,p=some a/\aI h a 0 (us.map df).flatten:=by
 cases p with
 | none =>
  left
  refine ⟨rfl,?_⟩;cases us with
  | nil=>rfl
  | cons u us =>
   obtain ⟨a,j,_⟩:=v.cells 0 aj;cases j
 | some a=>exact .inr ⟨a,rfl,v.flat⟩
def Ns (us:dc):∀ y,y∈us.map df->y.length=2:=by
 intro y hy;obtain ⟨u,_,rfl⟩:=Za.1 hy;rfl
def Ga {h:Hp} {p:Xac} {l c:Nat} {us:dc} (v:gW h p l us) (hl:us.length<=2^40) :
  HC Tryz.prog 42 #[.slice p l c] h fun w h'=>(∃ p' l' c',w=.slice p' l' c'/\SL h' h.size 117 2 p' l' c' (us.map df))/\Ext h h':=by
 refine bd (args:=[.slice p l c]) mixed Tryz.func42 ax (fT p l c) ?_;unfold ee br bj;have j:=v.len;cases p with
 | none =>
  rcases H2 v with ⟨_,h2⟩ | ⟨a,u,_⟩
  ·refine bC rfl ?_;refine ⟨⟨none,0,0,rfl,?_⟩,Ch.refl _ _⟩;rw [h2];exact SL.nil _ _ _ _
  ·cases u
 | some a =>
  refine bP rfl ?_;refine lU (e:=117) (z:=.agg #[.string ⟨#[]⟩,.int .u32 0]) (sz:=2) (by':=24) zn sZ rfl (H2 v) (by simpa using j) (Ns us) (GL us) ad ad ?_;intro p' c' h' s' e';exact ⟨⟨p',l,c',rfl,s'⟩,e'⟩
structure qK (h:Hp) (b:Nat) (p:Xac) (l c:Nat) (ms:List cK):Prop where
 out:SL h b 100 3 p l c (ms.map zD)
 fw:∀ m,m∈ms->SL h b 117 2 m.p m.l m.c (m.x.ai.map df)
 ap:ms.Pairwise fun x y=>∀ i,i∈aM x.p->∀ j,j∈aM y.p->i<j
 dj:∀ m,m∈ms->∀ j,j∈aM m.p->j∉aM p
def qK.ak {ws:List Nat} {h h':Hp} {b:Nat} {p:Xac} {l c:Nat} {ms:List cK} (o:qK h b p l c ms) (k:Ch ws h h') (hw:∀ i,i∈ws->i<b\/h.size<=i):qK h' b p l c ms :=
 ⟨o.out.bM k (fun i hi h=>by have:=o.out.cr hi; have:=hw i h; omega),fun m hm=>(o.fw m hm).bM k (fun i hi h=>by have:=(o.fw m hm).cr hi; have:=hw i h; omega),o.ap,o.dj⟩
def CD {h:Hp} {b:Nat} {p:Xac} {l c:Nat} {ms:List cK} (o:qK h b p l c ms):tQ h p l ms :=
 ⟨by rw [o.out.1,Y0],fun i hi=>by
  obtain ⟨a,j,hc⟩:=o.out.cells (i:=i) (by simpa using hi);rw [Zb] at hc;exact ⟨a,j,hc⟩,fun m hm=>wz (o.fw m hm)⟩
def BU:Tryz.prog.underlying 44=some (.slice 100):=ax
def Kw:(Tryz.prog.info? 100).map (fun i=>(i.zero,i.size,i.bytes))=some (some (.agg #[.string ⟨#[]⟩,.slice none 0 0,.int .u32 0]),3,48):=ax
def qK.push {h h1:Hp} {b:Nat} {p p':Xac} {l l' c c':Nat} {ms:List cK} (o:qK h b p l c ms) {m:cK} (hm:SL h b 117 2 m.p m.l m.c (m.x.ai.map df)) (G:∀ i,i∈aM m.p->(∀ y,y∈ms->∀ j,j∈aM y.p->j<i)/\i∉aM p)
  (s':SL h1 b 100 3 p' l' c' ((ms++[m]).map zD)) (k:Ch (aM p) h h1) (U:∀ i,i∈aM p'->i∈aM p\/h.size<=i):qK h1 b p' l' c' (ms++[m]):=by
 have J:∀ y,y∈ms++[m]->∀ j,j∈aM y.p->j∉aM p/\j<h.size:=by
  intro y hy j u;rcases Zk.1 hy with h | h
  ·exact ⟨o.dj y h j u,((o.fw y h).cr u).2⟩
  ·rw [Zi.1 h] at u;exact ⟨(G j u).2,(hm.cr u).2⟩
 refine ⟨s',fun y hy=>?_,?_,fun y hy j u O=>?_⟩
 ·have hb:=J y hy;rcases Zk.1 hy with h | h
  ·exact (o.fw y h).bM k fun i hi=>(hb i hi).1
  ·have h:=Zi.1 h;subst h;exact hm.bM k fun i hi=>(hb i hi).1
 ·rw [List.pairwise_append];refine ⟨o.ap,List.pairwise_singleton _ _,fun y hy z V i hi j u=>?_⟩;rw [Zi.1 V] at u;exact (G j u).1 y hy i hi
 ·have:=J y hy j u
  rcases U j O with h | h
  ·exact this.1 h
  ·omega
structure X6 (r:SF) (es:List cK) (i:Nat) (p:Xac) (l c:Nat) (f:Xaa->Option rm) (ms:List cK) (h:Hp):Prop where
 dn:SW r h es f
 own:qK h (r.V+1) p l c ms
 ms:ms.map (fun m=>(m.name,m.x))=(es.take i).map (fun e=>(e.name,eR es e.name))
 dd:∀ s y,f s=some y->∀ j,j∈aM y.p->j∉aM p
def Tb (es:List cK) (h:Hp) (w:Xab) (h':Hp):Prop :=
 (∃ i,∃ hi:i<es.length,kq (dp es) es[i].name/\(∀ j,(u:j<i)->¬ kq (dp es) es[j].name)/\w=.tuple #[.slice none 0 0,.int .i64 (i:Int),.int .i64 24]) \/
 ((∀ v,¬ kq (dp es) v)/\∃ p' l' c' ms,w=.tuple #[.slice p' l' c',.int .i64 0,.int .i64 0]/\qK h' h.size p' l' c' ms/\ms.map (fun m=>(m.name,m.x))=es.map (fun e=>(e.name,eR es e.name)))
abbrev Wn:List fJ:=[(false,[.slice 0]),(false,[.int .i64]),(false,[.int .i64]),(false,[.int .i64])]
def Fk {h:Hp} {p:Xac} {l c:Nat} {es:List cK} (v:tQ h p l es) (eo:tv es) (hp:∀ i,i∈aM p->i<h.size) (hlen:es.length<=2^20) :
  HC Tryz.prog 37 #[.slice p l c] h fun w h'=>Tb es h w h'/\Ext h h':=by
 refine bd (args:=[.slice p l c]) mixed Tryz.func37 ax (AP p l c) ?_;unfold xC bf bk bH aP bK dN br bU aG bn bj bY aR dh;have hown:=ei es;have hll:=v.len;refine bm ?_;intro h1 b1 e1 z1;refine af b1 ((p,l,c),()) rfl (an ?_);refine aJ (HG (c:=c) (v.ak e1) eo.toEqsOk (fun i hi=>by have:=hp i hi; omega)) ?_;rintro _ h2 ⟨⟨g,n,rfl,mB,hg⟩,e2⟩;refine ⟨(some g,()),rfl,an ?_⟩;have U:=Hm (succ:=cL (dk es)) eo.nodup (fun s=>(hown s).1);generalize (Gg (cy es) (cL (dk es)) (aZ es)).back=back at mB U;have b2:=b1.ak e2 aj;have e02:=e1.trans e2;refine af b2 ((p,l,c),()) rfl (an ?_);refine aX (cs:=Wn) (fun x w h'=>∃ i:Nat,x.2.2.2.1=(i:Int)/\i<=es.length/\w=es.length-i/\(∀ j,(u:j<i)->∀ hl:j<es.length,¬ kq (dp es) es[j].name)/\Ext h2 h') ((none,0,0),(0:Int),(0:Int),(0:Int),()) es.length rfl ⟨0,rfl,ad,ad,fun j u=>ad,Ch.refl _ _⟩ ?_;rintro ⟨⟨p9,l10,l11⟩,n12,n13,n14,⟨⟩⟩ w h3 ⟨i,hi,hile,rfl,hno,e3⟩;simp only at hi;subst hi;refine an ?_;have e03:=e02.trans e3;refine aQ (fun g1=>?_) (fun g1=>?_)
 ·have J:i<es.length:=ad
  refine ay ⟨ad,ad⟩ ?_;obtain ⟨a,ha,hc⟩:=(v.ak e03).cells i J;refine aw ha ?_;rw [show Int.toNat (i:Int)=i from ad];have hes:∀ s,kq (dp es) es[i].name↔kq (dp es) es[i].name:=fun s=>Iff.rfl
  generalize hee:es[i]=e at hc hes;refine az (e.name,(e.p,e.l,e.c),(e.x.num:Int),()) hc (an ?_);refine bm ?_;intro h4 b4 e4 z4;refine ar b4 rfl aj ?_;intro h5 b5 k5 z5;have b5:bF h5 h3.size 100 [.string e.name,.slice e.p e.l e.c,.int .u32 e.x.num]:=b5;have e35:Ext h3 h5:=bR e4 k5;refine af b5 (e.name,()) rfl (an ?_);refine MQ ((mB.ak e3 aj).ak e35 aj) e.name ?_;refine av (fun g2=>?_) (fun g2=>?_)
  ·have g2:(back e.name).getD false=true:=g2;refine ⟨.inl ⟨i,J,?_,fun j u=>hno j u ad,rfl⟩,e03.trans e35⟩;rw [hee];exact (U _).1 g2
  ·have g2:(back e.name).getD false=false:=g2;have hw:=iA i;refine aH (cs:=Wn) ((p9,l10,l11),n12,n13,((i+1:Nat):Int),()) (es.length-(i+1)) rfl ad (by rw [hw]; rfl) ⟨i+1,rfl,ad,rfl,fun j u hl=>?_,e3.trans e35⟩
   by_cases hji:j=i
   ·subst hji;rw [hee];intro hc
    have:=(U _).2 hc
    rw [g2] at this; cases this
   ·exact hno j ad hl
 ·have hc:∀ v,¬ kq (dp es) v:=by
   intro s hs;obtain ⟨j,u,hjs⟩:=Zu ((hown s).1 hs.RY);have hj':j<es.length:=by simpa [aZ] using u
   have:es[j].name=s:=by rw [<- hjs]; simp [aZ]
   exact hno j ad hj' (by rw [this]; exact hs)
  have b3:=b2.ak e3 aj;refine af b3 ((p,l,c),()) rfl (an ?_);refine aJ (zN (v.ak e03) eo.len eo.nodup eo.sz) ?_;rintro _ h4 ⟨⟨gA,rfl,mA,hgA⟩,e4⟩;refine ⟨(some gA,()),rfl,an ?_⟩;have hgA4:=mA.lt;refine bm ?_;intro h5 b5 e5 z5;refine ar b5 rfl aj ?_;intro h6 b6 k6 z6;have b6:bF h6 h4.size 89 [.map (some gA)]:=b6;have e46:Ext h4 h6:=bR e5 k6;refine yg (en:=eL) ?_;intro h7 m7 e7 z7;refine bm ?_;intro h8 b8 e8 z8;refine ar b8 rfl aj ?_;intro h9 b9 k9 z9;have b9:bF h9 h7.size 149 [.map (some h6.size)]:=b9;have e79:Ext h7 h9:=bR e8 k9;refine bm ?_;intro h10 b10 e10 z10;refine ar b10 rfl aj ?_;intro h11 b11 k11 z11;have e911:Ext h9 h11:=bR e10 k11;have e711:=e79.trans e911;have e611:=e7.trans e711;have e411:=e46.trans e611;have e011:=(e03.trans e4).trans e411;have hz4:=e4.size;have hz3:=e3.size;have hz2:=e2.size;generalize hr:(⟨h.size,gA,h4.size,h6.size,h7.size,h9.size⟩:SF)=r;have ho:r.ord:=by
   subst hr;unfold SF.ord;dsimp only;omega
  have hrE:r.E=h.size:=by subst hr; rfl
  have hrV:r.V+1=h11.size:=by subst hr; dsimp only; omega
  have hrV':r.V=h9.size:=by subst hr; rfl
  have hrD:r.gD=h6.size:=by subst hr; rfl
  have co:UZ r h11 es p l c:=by
   subst hr;exact ⟨(b3.ak (e4.trans e411) aj),b6.ak e611 aj,⟨_,mA.ak e411 aj⟩,b11,b9.ak e911 aj,v.ak e011⟩
  have dn:SW r h11 es (fun _=>none):=⟨⟨0,(by rw [hrD]; exact m7.ak e711 aj),fun s y hy=>by cases hy⟩,fun s y hy=>by cases hy⟩
  have lo:X8 r es p:=⟨ho,fun i hi=>by rw [hrE]; exact hp i hi,fun e he hne i hi=>by rw [hrE]; exact (v.fw e he).UI hne i hi⟩
  have o':=ho;unfold SF.ord at o';rw [show (⟨h.size,0,none⟩:Xax)=bx r.E by rw [hrE],show (⟨h9.size,0,none⟩:Xax)=bx r.V by rw [hrV']];refine af co.bE ((p,l,c),()) rfl (an ?_);refine aX (cs:=[(false,[.slice 0]),(false,[.int .i64])]) (fun x w h'=>∃ (i:Nat) (p':Xac) (l' c':Nat) (f:Xaa->Option rm) (ms:List cK),x.1=(p',l',c')/\x.2.1=(i:Int)/\i<=es.length/\w=es.length-i/\X6 r es i p' l' c' f ms h'/\Ch [r.gD] h11 h')
   ((none,0,0),(0:Int),()) es.length rfl ⟨0,none,0,0,_,[],rfl,rfl,ad,ad,⟨dn,⟨SL.nil _ _ _ _,aj,List.Pairwise.nil,aj⟩,rfl,fun s y hy=>by cases hy⟩,Ch.refl _ _⟩ ?_
  rintro ⟨⟨p26,l27,l28⟩,n29,⟨⟩⟩ w h12 ⟨i,p',l',c',f,ms,hx,hi,hile,rfl,si,k12⟩;simp only at hx hi;obtain ⟨rfl,rfl,rfl⟩:=hx;subst hi;refine an ?_;have co12:=co.ak lo k12;have hz12:=k12.size;have hmsl:ms.length=i:=by have:=Zl List.length si.ms; simp at this; omega
  refine aQ (fun g2=>?_) (fun g2=>?_)
  ·have J:i<es.length:=ad
   refine ay ⟨ad,ad⟩ ?_;obtain ⟨a,ha,hcc⟩:=co12.vw.cells i J;refine aw ha ?_;rw [show Int.toNat (i:Int)=i from ad];have htk:es.take (i+1)=es.take i++[es[i]]:=Y3 J;have hmem:es[i].name∈aZ es:=Zm (Y9 J);generalize es[i]=e at hcc htk hmem;refine az (e.name,(e.p,e.l,e.c),(e.x.num:Int),()) hcc (an ?_);refine bm ?_;intro h13 b13 e13 z13;refine ar b13 rfl aj ?_;intro h14 b14 k14 z14;have b14:bF h14 h12.size 100 [.string e.name,.slice e.p e.l e.c,.int .u32 e.x.num]:=b14;have G:Ext h12 h14:=bR e13 k14;have co14:=co12.ak lo (G.mono aj);have dn14:=si.dn.ext G;have own14:=si.own.ak G aj;refine af co14.bV (.func (.func 65) #[] r.tF.toArray,()) rfl (an ?_);refine af b14 (e.name,()) rfl (an ?_);refine rc (cap:=r.tF) Tl rfl (Mm eo lo hc (aZ es).length e.name (Hu hown hc hmem) hmem h14 f co14 dn14) ?_;rintro _ h15 ⟨y,f15,rfl,hyx,dn15,hfy,sb15,na15,k15⟩;refine ⟨((y.p,y.l,y.c),(y.x.num:Int),()),rfl,an ?_⟩;have own15:=own14.ak k15 (fun i hi=>.inl (by simp at hi; omega));have co15:=co14.ak lo k15;have hz15:=k15.size;have b15:=b14.ak k15 (by simp; omega);obtain ⟨n15,m15⟩:=dn15.map;have hyv:=m15.fw _ y hfy;refine bm ?_;intro h16 b16 e16 z16;refine ar b16 rfl aj ?_;intro h17 b17 k17 z17;have b17:bF h17 h15.size 69 [.slice y.p y.l y.c,.int .u32 (y.x.num:Int)]:=b17;have O:Ext h15 h17:=bR e16 k17;have b1417:=b15.ak O aj;refine af b1417 (e.name,()) rfl (an ?_);refine af b17 ((y.p,y.l,y.c),()) rfl (an ?_);rw [aE];refine af b17 ((y.x.num:Int),()) rfl (an ?_);have hyl:y.x.ai.length<=2^20:=by rw [hyx]; exact eo.DK hc hmem
   refine aJ (Ga (c:=y.c) (hyv.ak O aj) ad) ?_;rintro _ h18 ⟨⟨pc,lc,cc,rfl,sc⟩,e18⟩;refine ⟨((pc,lc,cc),()),rfl,an ?_⟩;have X:=O.trans e18;have own18:=own15.ak X aj;have Y:=b1417.ak e18 aj;have Z:=b17.ak e18 aj;have dn18:=dn15.ext X;have hz17:=O.size;have hz18:=e18.size;have Xe:∀ h',bF h' h12.size 100 [.string e.name,.slice e.p e.l e.c,.int .u32 e.x.num]->bF h' h15.size 69 [.slice y.p y.l y.c,.int .u32 (y.x.num:Int)]->T.DF h' [(⟨h15.size,0+1,none⟩,[.int .u32 (y.x.num:Int)]),(⟨h15.size,0,none⟩,[.slice y.p y.l y.c]),(⟨h12.size,0,none⟩,[.string e.name])] :=
    fun h' b1 b2=>⟨b2.cells _ rfl,b2.cells _ rfl,b1.cells _ rfl,trivial⟩
   refine ⟨⟨Z.cells _ rfl,Y.cells _ rfl,trivial⟩,?_⟩;have hol:l27=ms.length:=by rw [si.own.out.1,Y0]
   refine gU (vs:=zD ⟨e.name,pc,lc,cc,y.x⟩) BU Kw rfl ad ad ax rfl rfl own18.out ad ad ad (fun h' ex=>Xe h' (Y.ak ex aj) (Z.ak ex aj)) ?_;intro p' c' h19 s19 k19 hp19;have hbb:∀ j,j∈aM p26->r.V<j/\j<h12.size:=fun j u=>by have:=si.own.out.cr u; omega
   refine ⟨Xe h19 (Y.ak k19 (fun u=>by have:=hbb _ u; omega)) (Z.ak k19 (fun u=>by have:=hbb _ u; omega)),?_⟩;have hw:=iA i;have hp19':∀ j,j∈aM p'->j∈aM p26\/h18.size<=j:=by
    intro j u;rcases hp19 with h | ⟨a,h,hle⟩
    ·rw [h] at u; exact .inl u
    ·rw [h] at u; simp [aM] at u; subst u; exact .inr hle
   refine aH (cs:=[(false,[.slice 0]),(false,[.int .i64])]) ((p',l27+1,c'),((i+1:Nat):Int),()) (es.length-(i+1)) rfl ad (by rw [hw]; rfl)
    ⟨i+1,p',l27+1,c',f15,ms++[⟨e.name,pc,lc,cc,y.x⟩],rfl,rfl,ad,rfl,⟨?_,?_,?_,fun s z hz j u hjp=>?_⟩,?_⟩
   ·obtain ⟨n18,m18⟩:=dn18.map;refine ⟨⟨n18,m18.ak k19 (fun u=>by have:=hbb _ u; omega) (fun s z hz j u=>?_)⟩,fun s z hz=>?_⟩
    ·rcases na15 s z hz with h | h
     ·exact si.dd s z h j u
     ·intro hjp
      have:=h j u
      have:=hbb j hjp
      have:=G.size
      omega
    ·obtain ⟨a,b,c⟩:=dn18.of s z hz;refine ⟨a,b,fun i hi=>?_⟩
     have:=c i hi
     have:=k19.size
     omega
   ·refine own18.push (m:=⟨e.name,pc,lc,cc,y.x⟩) (sc.mono ad) (fun j u=>?_) (by simpa using s19) k19 hp19';have hj2:=sc.cr u;refine ⟨fun z hz k hk=>?_,fun hjp=>?_⟩
    ·have:=((own15.fw z hz).cr hk).2
     omega
    ·have:=hbb j hjp
     have:=G.size
     omega
   ·rw [Ze,si.ms,htk,Ze];show _++[(e.name,y.x)]=_;rw [hyx] <;> rfl
   ·rcases hp19' j hjp with h | h
    ·rcases na15 s z hz with k | k
     ·exact si.dd s z k j u h
     ·have:=k j u
      have:=hbb j h
      have:=G.size
      omega
    ·have:=((dn18.of s z hz).2.2 j u).2
     omega
   ·refine Ch.trans (Ch.trans (Ch.trans (Ch.trans k12 G aj) k15 (fun j u _=>u)) X aj) k19 (fun j u hl=>?_)
    have:=(si.own.out.cr u).1
    omega
  ·have htk:es.take i=es:=Zy ad;have hms:=si.ms;rw [htk] at hms;have hr11:=e011.size;refine ⟨.inr ⟨hc,p26,l27,l28,ms,rfl,⟨si.own.out.mono ad,fun m hm=>(si.own.fw m hm).mono ad,si.own.ap,si.own.dj⟩,hms⟩,Ch.trans e011 k12 (fun j u hl=>?_)⟩;simp at u;omega
def xd (es:List cK) (s:Xaa):Option rm:=((kr es s).bind fun k=>es[k]?).map fun e=>⟨e.p,e.l,e.c,e.x⟩
def xm {es:List cK} {s:Xaa} {y:rm} (h:xd es s=some y):∃ e,e∈es/\e.name=s/\y=⟨e.p,e.l,e.c,e.x⟩/\dk es s=e.x:=by
 unfold xd at h;cases j:kr es s with
 | none=>rw [j] at h; cases h
 | some k =>
  obtain ⟨hk,h1,h2⟩:=oq j;rw [j,Z6,Y1 hk] at h;exact ⟨_,Y9 hk,h1,(Zn h).symm,h2⟩
def JI {es:List cK} {e:cK} (hn:∀ d,d∈es->d.name≠e.name):xd (es++[e])=dF (xd es) e.name ⟨e.p,e.l,e.c,e.x⟩:=by
 funext s
 unfold xd;rw [Fx hn]
 by_cases h:s=e.name
 ·subst h;rw [cC,cC,Z6,ZC ad]
  simp
 ·rw [cj _ _ h,cj _ _ h];cases j:kr es s with
  | none=>rfl
  | some k =>
   obtain ⟨hk,_,_⟩:=oq j;rw [Z6,Z6,ZD hk]
def cw (es:List cK) (s:Xaa):Option ct:=if cy es s=true then some (dk es s) else none
def TX (es:List cK):(fun s=>(xd es s).map (·.x))=cw es:=by
 funext s
 unfold cw cy;cases j:kr es s with
 | none=>simp [xd,j]
 | some k =>
  obtain ⟨hk,_,h2⟩:=oq j;simp only [Option.isSome_some,if_true];rw [h2];unfold xd;rw [j,Z6,Y1 hk] <;> rfl
def Mn {h:Hp} {p:Xac} {l c:Nat} {x:ct} (v:gW h p l x.ai) {q:Xac} {m d:Nat} {es:List cK} (u:tQ h q m es) (eo:EqsOk es) (het:∀ e,e∈es->e.x.ai.length<=2^20) (htot:(es.flatMap (·.x.ai)).length<=2^39) (hlen:es.length<=2^20) (hxl:x.ai.length<=2^20) (Y:∀ t,t∈x.ai->t.1.size<=maxLen) :
  HC Tryz.prog 38 #[iI p l c x,.slice q m d] h fun w h'=>(∃ p' l' c',w=iI p' l' c' (lZ (de (cw es) x) tZ)/\SL h' h.size 117 2 p' l' c' ((lZ (de (cw es) x) tZ).ai.map df))/\Ext h h':=by
 refine bd (args:=[iI p l c x,.slice q m d]) mixed Tryz.func38 ax (Dq p l c x.num q m d) ?_;unfold Cl bf bk bH aP bK bU aG bj bY aR;have hll:=u.len;refine bm ?_;intro h1 b1 e1 z1;refine bm ?_;intro h2 b2 e2 z2;refine yg (en:=eL) ?_;intro h3 m3 e3 z3;have b13:=(b1.ak e2 aj).ak e3 aj;have b23:=b2.ak e3 aj;have e03:=(e1.trans e2).trans e3;refine aX (cs:=[(false,[.int .i64])]) (fun y w h'=>∃ (i:Nat) (n:Nat),y.1=(i:Int)/\i<=es.length/\w=es.length-i/\dU eL h' h2.size (xd (es.take i)) n/\Ch [h2.size] h3 h') ((0:Int),()) es.length rfl
  ⟨0,0,rfl,ad,ad,m3,Ch.refl _ _⟩ ?_
 rintro ⟨n5,⟨⟩⟩ w h4 ⟨i,n,hi,hile,rfl,m4,Z⟩;simp only at hi;subst hi;refine an ?_;have J:Ext h h4:=bR e03 Z;have hz4:=Z.size;refine aQ (fun g1=>?_) (fun g1=>?_)
 ·have O:i<es.length:=ad
  refine ay ⟨ad,ad⟩ ?_;obtain ⟨a,ha,hc⟩:=(u.ak J).cells i O;refine aw ha ?_;rw [show Int.toNat (i:Int)=i from ad];have htk:es.take (i+1)=es.take i++[es[i]]:=Y3 O;have hsz:=eo.sz es[i] (Y9 O);have hnd:∀ d,d∈es.take i->d.name≠es[i].name:=by
   intro d hd V;obtain ⟨j,hj,rfl⟩:=Zu hd;rw [Zp] at hj;rw [List.getElem_take] at V;have hn:(es.map (·.name)).Nodup:=eo.nodup;exact bs9.1 hn j i (by rw [Y0]; omega) (by rw [Y0]; omega) ad (by simpa using V)
  generalize es[i]=e at hc htk hsz hnd;refine az (e.name,(e.p,e.l,e.c),(e.x.num:Int),()) hc (an ?_);refine bm ?_;intro h5 b5 e5 z5;refine ar b5 rfl aj ?_;intro h6 X k6 z6;have X:bF h6 h4.size 100 [.string e.name,.slice e.p e.l e.c,.int .u32 e.x.num]:=X;have e46:Ext h4 h6:=bR e5 k6;refine af X (e.name,()) rfl (an ?_);rw [aE];refine af X ((e.p,e.l,e.c),(e.x.num:Int),()) rfl (an ?_);refine L0 (m4.ak e46 aj) hsz ⟨e.p,e.l,e.c,e.x⟩ ?_;intro h7 m7 k7 z7;have hw:=iA i;refine aH (cs:=[(false,[.int .i64])]) (((i+1:Nat):Int),()) (es.length-(i+1)) rfl ad (Zl (fun z=>[Value.int .i64 z]) hw) ⟨i+1,_,rfl,ad,rfl,by rw [htk,JI hnd]; exact m7,Ch.trans (Ch.trans Z e46 aj) k7 (fun j hj _=>hj)⟩
 ·have hii:es.take i=es:=Zy ad;rw [hii] at m4;have b14:=b13.ak Z (by simp; omega);have b24:=b23.ak Z (by simp; omega);refine af b14 ((p,l,c),(x.num:Int),()) rfl (an ?_);have mL:GS h4 h2.size (xd es) n:=⟨m4,fun s y hy=>by
   obtain ⟨e,V,_,rfl,_⟩:=xm hy;exact (u.fw e V).ak J aj⟩
  have U:∀ s y,xd es s=some y->y.x.ai.length<=2^20:=fun s y hy=>by
   obtain ⟨e,V,_,rfl,_⟩:=xm hy;exact het e V
  have hz0:=J.size
  refine aJ (Eu (c:=c) (v.ak J aj) mL ad Y (fun s y hy=>⟨by have:=U s y hy; omega,by
    obtain ⟨e,V,_,rfl,_⟩:=xm hy;exact eo.ts e V⟩) ?_) ?_
  ·have:=pR (of:=fun s=>(xd es s).map (·.x)) (B:=2^20) ad (fun s y hy=>by
    cases hh:xd es s with
    | none=>simp only [hh] at hy; cases hy
    | some z =>
     simp only [hh,Option.map_some,Option.some.injEq] at hy;rw [<- hy]; exact U s z hh) x.ai
   exact ZW this (ZW (ag9 _ hxl) bZ)
  ·rintro _ h5 ⟨⟨p5,l5,c5,rfl,s5⟩,e5⟩;rw [TX] at s5 ⊢;have hlp:(de (cw es) x).ai.length<=2^40:=by
    have hn:=eX (cw es) x;have h1:((de (cw es) x).ai.map (·.1)).Nodup:=Z3.2 (hn.1.imp fun h=>jD h);have h2:=jO ((de (cw es) x).ai.map (·.1)) ((x.ai++es.flatMap (·.x.ai)).map (·.1)) h1 (fun s hs=>by
     obtain ⟨t,ht,rfl⟩:=Za.1 hs;rcases rW ht with ⟨p,hp,e,_⟩ | ⟨p,y,u,hp,G,hu,e⟩
     ·rw [<- e]; exact Zm (Zq _ hp)
     ·rw [<- e];refine Zm (ZE _ ?_);unfold cw at G
      by_cases hw:cy es p.1=true
      ·rw [Y8 hw] at G;obtain ⟨d,hd,_,hx⟩:=lO ((ei es _).1 hw);have G:=Zn G;rw [<- G,hx] at hu;exact cj9.2 ⟨d,hd,hu⟩
      ·rw [Y2 hw] at G; cases G)
    rw [Y0,Y0,Y4] at h2;omega
   refine ⟨((p5,l5,c5),((de (cw es) x).num:Int),()),rfl,an ?_⟩;have hsz5:∀ t,t∈(de (cw es) x).ai->t.1.size<=maxLen:=by
    intro t ht;rcases rW ht with ⟨p,hp,e,_⟩ | ⟨p,y,u,hp,G,hu,e⟩
    ·rw [<- e]; exact Y p hp
    ·unfold cw at G
     by_cases hw:cy es p.1=true
     ·rw [Y8 hw] at G;obtain ⟨d,hd,_,hx⟩:=lO ((ei es _).1 hw);have G:=Zn G;rw [<- G,hx] at hu;rw [<- e]; exact eo.ts d hd u hu
     ·rw [Y2 hw] at G; cases G
   have ha:=Tn (h:=h5) (p:=p5) (q:=none) (l:=l5) (c:=c5) (m:=0) (d:=0) (x:=de (cw es) x) (y:=tZ) (wz s5) ⟨rfl,fun i hi=>by simp [tZ] at hi⟩ (fun i hi=>(s5.cr hi).2) (fun i hi=>by simp [aM] at hi) (by simpa [tZ] using hlp) hsz5 (fun t ht=>by simp [tZ] at ht);refine aJ ha ?_;rintro _ h6 ⟨e6,p6,l6,c6,rfl,s6⟩;refine ⟨((p6,l6,c6),((lZ (de (cw es) x) tZ).num:Int),()),rfl,an ?_⟩;have X:=(b24.ak e5 aj).ak e6 aj;have hz5:=e5.size;refine ar X rfl aj ?_;intro h7 b7 k7 z7;have b7:bF h7 h1.size 69 [.slice p6 l6 c6,.int .u32 ((lZ (de (cw es) x) tZ).num:Int)]:=b7;refine af b7 ((p6,l6,c6),((lZ (de (cw es) x) tZ).num:Int),()) rfl ?_;have e06:=(J.trans e5).trans e6;exact ⟨⟨p6,l6,c6,rfl,(s6.bM k7 (fun j hj=>by have:=(s6.cr hj).1; simp; omega)).mono ad⟩,bR e06 k7⟩
def xS {x:ct} (h:Nf x.ai) (hn:x.num<4294967296):lZ x tZ=x:=by
 unfold lZ tZ;simp only [List.append_nil,Nat.add_zero,EE h,Nat.mod_eq_of_lt hn]
end Go.Sx
namespace Go.Sx.Ob
open Go.Proofs
abbrev Ky:=Nat × Xaa
def Pd (k:Ky):Xab:=.agg #[.int .i64 (k.1:Int),.string k.2]
def Mi (b:Bool) (n:Int) (s:Xaa) (h:Hp) (K:Unit->Hp->Prop):aS Tryz.prog (Instr.checkKey b 10000 105 (.agg #[.int .i64 n,.string s])) h K=K () h:=ax
def L6:Tryz.prog.underlying 105=some (.struct (yk Tryz.prog 105)):=ax
def Ts:Tryz.prog.stoodInHeld 105=false:=ax
def Vv (n m:Int) (s t:Xaa):(yk Tryz.prog 105).all (okF Tryz.prog #[.int .i64 n,.string s] #[.int .i64 m,.string t])=true:=ax
def Ux (n m:Int) (s t:Xaa):(yk Tryz.prog 105).all (Gd #[.int .i64 n,.string s] #[.int .i64 m,.string t])=(n==m && (s==t && true)):=by
 rw [<- ad9]
 kernel_rfl
def Xc:A9 Tryz.prog 105 Pd where
 check b a h K hk:=by rw [show Pd a=.agg #[.int .i64 (a.1:Int),.string a.2] from rfl,Mi]; exact hk
 kind:=⟨_,L6,fun a b=>rfl⟩
 eqv a b h K hk:=by
  show aS Tryz.prog (Op.equal 105 (.agg #[.int .i64 (a.1:Int),.string a.2]) (.agg #[.int .i64 (b.1:Int),.string b.2])) h K;rw [pI L6 Ts (Vv _ _ _ _),Ux];have e:decide (a=b)=(((a.1:Nat):Int)==((b.1:Nat):Int) && (a.2==b.2 && true)):=by
   obtain ⟨j,a2⟩:=a;obtain ⟨b1,u⟩:=b;show decide ((j,a2)=(b1,u))=(((j:Nat):Int)==((b1:Nat):Int) && (a2==u && true));rw [wQ,af9];simp only [Prod.mk.injEq]
   by_cases h1:j=b1
   ·by_cases h2:a2=u
    ·simp [h1,h2]
    ·simp [h1,h2]
   ·have:¬ ((j:Nat):Int)=b1:=ad
    simp only [h1,false_and,decide_false]
    have:(((j:Nat):Int)==((b1:Nat):Int))=false:=by simpa using this
    rw [this,Bool.false_and]
  rw [<- e];exact hk
 bits a:=by
  show ((2:Nat)==2 && _)=true;simp [Instr.sameBits,Pd,wQ]
 inj a b h:=by
  obtain ⟨j,a2⟩:=a;obtain ⟨b1,u⟩:=b;simp only [Pd,Value.agg.injEq,Array.mk.injEq,List.cons.injEq,Value.int.injEq,Value.string.injEq,and_true,true_and] at h;rw [Prod.mk.injEq];exact ⟨ad,h.2⟩
def SL.part {P:Program} {L:Lp} {K:Xab->Hp->Prop} {k:T} {h:Hp} {b:Nat} {e:TypeId} {sz:Nat} {p:Xac} {l c:Nat} {xs:List (List Xab)} (s:SL h b e sz p l c xs) {i:Nat} (hi:i<xs.length) {vs:List Xab} {o:Nat} (ho:o+vs.length<=sz)
  (X:vs.all cO=true) {a:Xax} (Y:p=some a) (hk:∀ h',SL h' b e sz p l c (xs.set i (lz xs[i] o vs))->Ch (aM p) h h'->h'.size=h.size->k L K h'):T.aC ((a.add (i*sz)).add o) vs k L K h:=by
 subst Y;obtain ⟨g,j,rest,rfl,O,U,u,Z⟩:=s.2.2;have V:xs[i].length=sz:=s.2.1 _ (Y9 hi);have hx:(xs.take i).flatten.length=i*sz:=by
  rw [fe _ (fun x hx=>s.2.1 x (Z7 hx)),Zp,ac9 ad]
 have hs:xs[i]=xs[i].take o++((xs[i].drop o).take vs.length++xs[i].drop (o+vs.length)):=by
  rw [<- List.drop_drop,ZL,ZL]
 have e0:xs.flatten=(xs.take i).flatten++(xs[i]++(xs.drop (i+1)).flatten):=by
  conv=>lhs; rw [<- ZL i xs,Zg hi]
  rw [List.flatten_append,bg9]
 have e1:j++(xs.flatten++rest)=(j++(xs.take i).flatten++xs[i].take o)++((xs[i].drop o).take vs.length++(xs[i].drop (o+vs.length)++((xs.drop (i+1)).flatten++rest))):=by
  rw [e0]
  conv=>lhs; rw [hs]
  simp only [List.append_assoc]
 have kR:lz xs[i] o vs=xs[i].take o++(vs++xs[i].drop (o+vs.length)):=by rw [pH _ _ _ ad,Zr]
 have e2:(xs.set i (lz xs[i] o vs)).flatten=(xs.take i).flatten++((lz xs[i] o vs)++(xs.drop (i+1)).flatten):=by
  rw [List.set_eq_take_append_cons_drop,Y8 hi]
  simp
 rw [e1] at u;rw [aE,aE];have G:(j++(xs.take i).flatten++xs[i].take o).length=j.length+i*sz+o:=by rw [Y4,Y4,hx,Zp,ac9 ad]
 rw [<- G];refine ar u X (by simp; omega) ?_;intro h' J k' z';rw [zc (by rw [Zp,Z2]; omega)] at J;refine hk h' ⟨by rw [Z5]; exact s.1,fun x hx=>?_,g,j,rest,rfl,O,U,?_,Z⟩ (by simpa [aM] using k') z'
 ·rcases ai9 hx with hx | rfl
  ·exact s.2.1 x hx
  ·rw [mK]; exact V
 ·rw [e2,kR];simpa [List.append_assoc] using J
def Jd:Tryz.prog.underlying 88=some (.map 105 3):=ax
def Sb:(Tryz.prog.info? 3).bind (·.zero)=some (.int .i64 0):=ax
abbrev Gk (h:Hp) (g:Nat) (f:Ky->Option Nat) (n:Nat):Prop:=zS Pd eI h g f n
section
variable {L:Lp} {K:Xab->Hp->Prop} {h:Hp} {g n:Nat} {f:Ky->Option Nat}
def Gq (m:Gk h g f n) (u:Nat) (s:Xaa) {k:Int->Bool->T} (hk:k (((f (u,s)).getD 0:Nat):Int) (f (u,s)).isSome L K h):T.eh Tryz.prog (Instr.lookup 88 (.map (some g)) (.agg #[.int .i64 (u:Int),.string s]) true) true [(false,[.int .i64]),(false,[.bool])] k L K h:=by
 obtain ⟨D,m,j,hn⟩:=m;show aS Tryz.prog (Instr.lookup 88 (.map (some g)) (Pd (u,s)) true) h _;refine vh Xc Jd Sb m (u,s) true _ ?_;refine ⟨((((f (u,s)).getD 0:Nat):Int),(f (u,s)).isSome,()),?_,hk⟩;rw [Y8 rfl,wC,j (u,s)]
 all_goals (cases f (u,s) <;> rfl)
def T9 (m:Gk h g f n) (u:Nat) (s:Xaa) {k:Int->T} (hk:k (((f (u,s)).getD 0:Nat):Int) L K h):T.eh Tryz.prog (Instr.lookup 88 (.map (some g)) (.agg #[.int .i64 (u:Int),.string s]) false) false [(false,[.int .i64])] k L K h:=by
 obtain ⟨D,m,j,hn⟩:=m;show aS Tryz.prog (Instr.lookup 88 (.map (some g)) (Pd (u,s)) false) h _;refine vh Xc Jd Sb m (u,s) false _ ?_;refine ⟨((((f (u,s)).getD 0:Nat):Int),()),?_,hk⟩;simp only [Bool.false_eq_true,if_false];rw [wC,j (u,s)]
 all_goals (cases f (u,s) <;> rfl)
def R9 (m:Gk h g f n) (u:Nat) (s:Xaa) {v:Int} {w:Nat} (hv:v=(w:Int)) {k:T} (hk:∀ h',Gk h' g (yj f (u,s) w) (if (f (u,s)).isSome then n else n+1)->Ch [g] h h'->h'.size=h.size->k L K h') :
  T.et Tryz.prog (Instr.mapUpdate 88 (.map (some g)) (.agg #[.int .i64 (u:Int),.string s]) (.int .i64 v)) k L K h:=by
 subst hv;exact WR (en:=eI) Xc Jd m (u,s) w hk
def VJ (m:Gk h g f n) {k:Int->T} (hk:k (n:Int) L K h):T.eh Tryz.prog (Builtin.len_ #[88] 3 #[.map (some g)]) false [(false,[.int .i64])] k L K h:=by
 obtain ⟨D,m,O,hn⟩:=m;obtain ⟨es,clock,u,G,J⟩:=m;have j:es.size=n:=by
  have:=Zl List.length G
  simp only [List.length_map,Array.length_toList] at this;omega
 show aS _ _ _ _;unfold Builtin.len_;simp only [List.getElem?_toArray,List.getElem?_cons_zero];rw [ao,aF Jd];simp only [pure_bind];rw [ao];refine fY u aj _ ?_;simp only [pure_bind];exact ⟨((n:Int),()),by rw [j]; rfl,hk⟩
end
def kQ (n:Nat):Xaa:=⟨(Lib.itoa (n:Int)).toArray⟩
def zj {h:Hp} (p:fU h) (n:Nat) (hn:n<=2^60):HC Tryz.prog 40 #[.int .i64 n] h fun v h'=>v=.string (kQ n)/\Ext h h':=by
 intro W j;subst j;refine (Tryz.strconv_Itoa n ad ad W (HQ ax p)).mono ?_;rintro e w' ⟨u,k,os,rfl⟩;refine ⟨_,u,⟨rfl,rfl,rfl⟩,rfl,?_⟩;refine ⟨by show W.heap.size<=(W.heap++os).size; simp,fun i hi _=>?_⟩;show (W.heap++os)[i]?=_;rw [Array.getElem?_append_left hi]
def jw {n:Nat} (hn:n<=2^60):(kQ n).size<=1000:=by
 show (Lib.itoa (n:Int)).toArray.size<=1000
 have:=Lib.itoa_length_le (n:Int) ad ad
 simp
 omega
structure Lb where
 u:Nat
 s:Nat
 i:Nat
 n:Xaa
deriving DecidableEq
def AB (x:Lb):List Xab:=[.int .i64 (x.u:Int),.int .i64 (x.s:Int),.int .i64 (x.i:Int),.string x.n]
structure LW where
 lb:List Lb
 num:Ky->Option Nat
 nn:Nat
 tq:Ky->Option Nat
 ne:Nat
 gl:Xaa->Option Nat
 ng:Nat
def R5:LW:=⟨[],fun _=>none,0,fun _=>none,0,fun _=>none,0⟩
def LW.has (w:LW) (k:Ky):Bool:=(w.num k).isSome || (w.tq k).isSome
def LW.own (w:LW) (u:Nat) (s:Xaa):Option Ky:=if w.has (u,s) then some (u,s) else (w.gl s).map fun o=>(o,s)
def LW.word (w:LW) (k:Ky):Xaa:=match w.num k with
 | some n=>(⟨#[76]⟩:Xaa)++kQ n
 | none=>(⟨#[69]⟩:Xaa)++kQ ((w.tq k).getD 0)
structure LM (h:Hp) (gN gE gG:Nat) (w:LW):Prop where
 n:Gk h gN w.num w.nn
 e:Gk h gE w.tq w.ne
 g:dU eI h gG w.gl w.ng
def LM.ak {ws:List Nat} {h h':Hp} {gN gE gG:Nat} {w:LW} (m:LM h gN gE gG w) (k:Ch ws h h') (h1:gN∉ws) (h2:gE∉ws) (h3:gG∉ws):LM h' gN gE gG w :=
 ⟨m.n.ak k h1,m.e.ak k h2,m.g.ak k h3⟩
structure Pc (w:LW):Prop where
 n:∀ k i,w.num k=some i->i<=2^50
 e:∀ k i,w.tq k=some i->i<=2^50
abbrev O4 (h:Hp) (g:Nat) (us lb:cz) (gN gE gG:Nat) (sp:Int):Prop:=bF h g 92 [us.v,lb.v,.map (some gN),.map (some gE),.map (some gG),.slice none 0 0,.int .i64 sp]
section
variable {h:Hp} {g gN gE gG:Nat} {us lb:cz} {sp:Int} {w:LW}
def K6 (b:O4 h g us lb gN gE gG sp) (m:LM h gN gE gG w) (u:Nat) (s:Xaa):HC Tryz.prog 89 #[ptr g,.agg #[.int .i64 (u:Int),.string s]] h fun v h'=>v=.bool (w.has (u,s))/\Ext h h':=by
 refine bd (args:=[ptr g,.agg #[.int .i64 (u:Int),.string s]]) mixed Tryz.func89 ax (pP (some ⟨g,0,none⟩) u s) ?_;unfold kA bU dP aR cn;refine bm ?_;intro h1 b1 e1 z1;have b':=b.ak e1 aj;have m':=m.ak e1 aj aj aj;refine aw rfl ?_;rw [aE];refine af b' (some gN,()) rfl (an ?_);refine af b1 ((u:Int),s,()) rfl (an ?_);refine Gq m'.n u s ?_;refine aw rfl ?_;rw [aE];refine af b' (some gE,()) rfl (an ?_);refine af b1 ((u:Int),s,()) rfl (an ?_);refine Gq m'.e u s ?_;unfold LW.has;refine av (fun q=>?_) (fun q=>?_)
 ·exact ⟨by rw [q]; rfl,e1⟩
 ·exact ⟨by rw [q]; rfl,e1⟩
def Oa (b:O4 h g us lb gN gE gG sp) (m:LM h gN gE gG w) (u:Nat) (s:Xaa):HC Tryz.prog 62 #[ptr g,.int .i64 (u:Int),.string s] h fun v h'=>v=.tuple #[Pd ((w.own u s).getD (0,s)),.bool (w.own u s).isSome]/\Ext h h':=by
 refine bd (args:=[ptr g,.int .i64 (u:Int),.string s]) mixed Tryz.func62 ax (pN (some ⟨g,0,none⟩) u s) ?_;unfold kL aY bU bn bY aR cn;refine bm ?_;intro h1 b1 e1 z1;refine bm ?_;intro h2 b2 e2 z2;have V:=b1.ak e2 aj;refine ar b2 rfl aj ?_;intro h3 J Z z3;have J:bF h3 h1.size 105 [.int .i64 (u:Int),.string s]:=J;have X:Ext h h3:=bR (e1.trans e2) Z;have O:=V.ak Z (by simp; omega);refine af J ((u:Int),s,()) rfl (an ?_);refine aJ (K6 (b.ak X aj) (m.ak X aj aj aj) u s) ?_;rintro _ h4 ⟨rfl,U⟩;refine ⟨(w.has (u,s),()),rfl,an ?_⟩;have j:=X.trans U;have q3:=J.lt;refine av (fun q=>?_) (fun q=>?_)
 ·have hw:w.own u s=some (u,s):=by unfold LW.own; rw [Y8 q]
  rw [hw];refine af (J.ak U aj) ((u:Int),s,()) rfl (an ?_);refine ar (O.ak U aj) rfl aj ?_;intro h5 G Y z5;have G:bF h5 h.size 105 [.int .i64 (u:Int),.string s]:=G;refine af G ((u:Int),s,()) rfl ?_;exact ⟨rfl,bR j Y⟩
 ·have hw:w.own u s=(w.gl s).map fun o=>(o,s):=by unfold LW.own; rw [Y2 (by rw [q]; simp)]
  rw [hw];refine aw rfl ?_;rw [aE];refine af (b.ak j aj) (some gG,()) rfl (an ?_);refine Dc (m.ak j aj aj aj).g s ?_;refine ar (O.ak U aj) rfl aj ?_;intro h5 G Y z5;have G:bF h5 h.size 105 [.int .i64 (((w.gl s).getD 0:Nat):Int),.string s]:=G;refine af G ((((w.gl s).getD 0:Nat):Int),s,()) rfl ?_;refine ⟨?_,bR j Y⟩
  all_goals (cases w.gl s <;> rfl)
def BI (J:fU h) (b:O4 h g us lb gN gE gG sp) (m:LM h gN gE gG w) (j:Pc w) (u:Nat) (s:Xaa):HC Tryz.prog 35 #[ptr g,.agg #[.int .i64 (u:Int),.string s]] h fun v h'=>v=.string (w.word (u,s))/\Ext h h':=by
 refine bd (args:=[ptr g,.agg #[.int .i64 (u:Int),.string s]]) mixed Tryz.func35 ax (ob (some ⟨g,0,none⟩) u s) ?_;unfold j9 gS bU aR cn;refine bm ?_;intro h1 b1 e1 z1;have b':=b.ak e1 aj;have m':=m.ak e1 aj aj aj;have G:=J.ak e1 aj;refine aw rfl ?_;rw [aE];refine af b' (some gN,()) rfl (an ?_);refine af b1 ((u:Int),s,()) rfl (an ?_);refine Gq m'.n u s ?_;unfold LW.word;cases hn:w.num (u,s) with
 | some n =>
  refine bC rfl ?_;have hs:=j.n _ _ hn;refine aJ (zj G n ad) ?_;rintro _ h2 ⟨rfl,e2⟩;refine ⟨(kQ n,()),rfl,an ?_⟩
  have:=jw (n:=n) ad
  refine ay ad ?_;exact ⟨rfl,e1.trans e2⟩
 | none =>
  refine bP rfl ?_;have hs:(w.tq (u,s)).getD 0<=2^50:=by
   cases O:w.tq (u,s) with
   | none=>simp
   | some i=>exact j.e _ _ O
  refine aw rfl ?_;rw [aE];refine af b' (some gE,()) rfl (an ?_);refine af b1 ((u:Int),s,()) rfl (an ?_);refine T9 m'.e u s ?_;refine aJ (zj G _ ad) ?_;rintro _ h2 ⟨rfl,e2⟩;refine ⟨(kQ ((w.tq (u,s)).getD 0),()),rfl,an ?_⟩;refine ⟨⟨(b1.ak e2 aj).cells _ rfl,(b'.ak e2 aj).cells _ rfl,trivial⟩,?_⟩
  have:=jw (n:=(w.tq (u,s)).getD 0) ad
  refine ay ad ?_;exact ⟨rfl,e1.trans e2⟩
end
end Go.Sx.Ob
namespace Go.Sx.Lk
open Go.Proofs Go.Sx.Ob
def pQ {es:List cK} (hn:(aZ es).Nodup) {e:cK} (j:e∈es):dk es e.name=e.x:=by
 obtain ⟨d,u,h1,h2⟩:=lO (show e.name∈aZ es from Zm j);rw [h2]
 have:∀ l:List cK,(l.map (·.name)).Nodup->d∈l->e∈l->d=e:=by
  intro l
  induction l with
  | nil=>intro _ h; simp at h
  | cons x l G =>
   intro hn u j;rw [ZF,az9] at hn;rcases Zo.1 u with a | a <;> rcases Zo.1 j with b | b
   ·rw [a,b]
   ·exact (hn.1 (by rw [<- a,h1]; exact Zm b)).elim
   ·exact (hn.1 (by rw [<- b,<- h1]; exact Zm a)).elim
   ·exact G hn.2 a b
 rw [this es hn u j]
def _root_.Go.Sx.Ob.LW.bad (w:LW) (u:Nat) (x:ct):Option Xaa:=(x.ai.find? fun t=>(w.own u t.1).isNone).map (·.1)
def lE (s:Xaa):ct:=⟨[(s,1)],0⟩
def _root_.Go.Sx.Ob.LW.lin (w:LW) (u:Nat) (x:ct):ct:=de (fun s=>(w.own u s).map fun k=>lE (w.word k)) x
structure Ex (x:ct):Prop where
 nf:Nf x.ai
 num:x.num<4294967296
 len:x.ai.length<=2^20
 sz:∀ t,t∈x.ai->t.1.size<=maxLen
def jD {a b:Xaa} (h:hZ a b):a≠b:=fun e=>by subst e; exact absurd h (by unfold hZ; simp)
def Ex.nodup {x:ct} (g:Ex x):(x.ai.map (·.1)).Nodup:=by
 rw [ax9,Z3];exact g.nf.S5.imp fun h=>jD h
def Ro (w:LW) (u:Nat) (x:ct) (h:Hp) (v:Xab) (h':Hp):Prop :=
 Ext h h'/\match w.bad u x with
 | some s=>v=.tuple #[iI none 0 0 E6,.string s,.bool false]
 | none=>∃ p l c,v=.tuple #[iI p l c (w.lin u x),.string ⟨#[]⟩,.bool true]/\SL h' h.size 117 2 p l c ((w.lin u x).ai.map df)
def G9:Tryz.prog.underlying 66=some (.slice 117):=ax
def GY (s:Xaa) (n:Int):Instr.fill (fun j=>some (j*2,2)) ((Array.range (1*2)).map ((Value.agg #[.string ⟨#[]⟩,.int .u32 0]).cells[· % (Value.agg #[.string ⟨#[]⟩,.int .u32 0]).cells.size]!)) [(0,.agg #[.string s,.int .u32 n])]=some ([.string s,.int .u32 n]:List Xab).toArray:=ax
def GV (s:Xaa) (p:Xac) (l c:Nat) (n:Int):Instr.fill (fun j=>some (j*3,3)) ((Array.range (1*3)).map ((Value.agg #[.string ⟨#[]⟩,.slice none 0 0,.int .u32 0]).cells[· % (Value.agg #[.string ⟨#[]⟩,.slice none 0 0,.int .u32 0]).cells.size]!)) [(0,.agg #[.string s,.slice p l c,.int .u32 n])]=some ([.string s,.slice p l c,.int .u32 n]:List Xab).toArray:=ax
theorem la {α:Type} (f:α->Bool):∀ (l:List α) (i:Nat) (hi:i<l.length),(∀ j,(u:j<i)->f (l[j]'ad)=false)->f l[i]=true->l.find? f=some l[i]
 | [],i,hi,_,_=>by simp at hi
 | a::l,0,hi,_,h=>by simp at h; simp [h]
 | a::l,i+1,hi,h0,h=>by
  have G:f a=false:=h0 0 ad;rw [cc9,G];simp only [List.getElem_cons_succ] at h ⊢;exact la f l i (by simpa using hi) (fun j u=>h0 (j+1) ad) h
def nM {α:Type} (f:α->Bool) (l:List α) (h:∀ j,(u:j<l.length)->f l[j]=false):l.find? f=none:=by
 rw [List.find?_eq_none];intro x hx;obtain ⟨j,u,rfl⟩:=Zu hx;rw [h j u]
 simp
section
variable {h:Hp} {g gN gE gG:Nat} {us lb:cz} {sp:Int} {w:LW}
def xG (pw:fU h) (b:O4 h g us lb gN gE gG sp) (m:LM h gN gE gG w) (lb':Pc w) (u:Nat) {p:Xac} {l c:Nat} {x:ct} (v:gW h p l x.ai) (gx:Ex x) :
  HC Tryz.prog 34 #[ptr g,.int .i64 (u:Int),iI p l c x] h (Ro w u x h):=by
 refine bd (args:=[ptr g,.int .i64 (u:Int),iI p l c x]) mixed Tryz.func34 ax (mn (some ⟨g,0,none⟩) u p l c x.num) ?_;unfold iV bf bk bH aP gS bK br aG bn bj bY aR cn dh;have hll:=v.len;have hxl:=gx.len;refine bm ?_;intro h1 b1 e1 z1;refine bm ?_;intro h2 b2 e2 z2;have b12:=b1.ak e2 aj;have e02:=e1.trans e2;refine af b12 ((p,l,c),()) rfl (an ?_);obtain ⟨ie,hie,hze,hse,hbe⟩:=oK Kw;refine dz (pJ (l:=0) (c:=l) BU hie hze ad (by rw [hbe]; omega) ad ?_);intro h3 b3 e3 z3;refine ⟨_,_,_,rfl,?_⟩;have e03:=e02.trans e3;have b13:=b12.ak e3 aj;have b23:=b2.ak e3 aj;have s3:SL h3 h2.size 100 3 (some ⟨h2.size,0,none⟩) 0 l (([]:List cK).map zD):=by
  refine ⟨rfl,aj,h2.size,[],_,rfl,Zh _,⟨ad,ad⟩,b3,?_⟩;rw [Y0,ay9,hse];omega
 refine af b13 ((p,l,c),()) rfl (an ?_)
 refine aX (cs:=[(false,[.string]),(false,[.bool]),(false,[.slice 0]),(false,[.int .i64])]) (fun y m' h'=>∃ (i:Nat) (es:List cK),y.2.2.2.1=(i:Int)/\i<=l/\m'=l-i/\Ch [h2.size] h3 h'/\y.2.2.1.2.1=i/\qK h' h2.size y.2.2.1.1 i y.2.2.1.2.2 es/\(∀ j,(V:j<i)->(hl:j<x.ai.length)->(w.own u x.ai[j].1).isSome=true) /\
   es.map (fun e=>(e.name,e.x))=(x.ai.take i).map (fun t=>(t.1,lE (w.word ((w.own u t.1).getD (0,t.1)))))) ((⟨#[]⟩:Xaa),false,(some ⟨h2.size,0,none⟩,0,l),(0:Int),()) l rfl
  ⟨0,[],rfl,ad,ad,Ch.refl _ _,rfl,⟨s3,aj,List.Pairwise.nil,aj⟩,by intro j V; omega,rfl⟩ ?_
 rintro ⟨s14,b15,⟨p16,l17,l18⟩,n19,⟨⟩⟩ m' h4 ⟨i,es,hi,hil,rfl,O,hli,oe,hok,U⟩;simp only at hi hli oe;subst hi hli;refine an ?_;have X:Ext h h4:=Ch.trans e03 O (fun i hi hl=>by simp at hi; have:=e1.size; omega);have hel:es.length=l17:=by
  have:=Zl List.length U
  rw [Y0,Y0,Zp] at this;omega
 have z4:=O.size;have q3:=b3.lt;have q2:=b2.lt;have q1:=b1.lt;refine aQ (fun q=>?_) (fun q=>?_)
 ·have hlt:l17<x.ai.length:=ad
  obtain ⟨a,ha,hc⟩:=v.cells l17 hlt;have htk:x.ai.take (l17+1)=x.ai.take l17++[x.ai[l17]]:=Y3 hlt;have hgt:x.ai[l17]=x.ai[l17]:=rfl;generalize htt:x.ai[l17]=t at hc htk;refine ay ⟨ad,ad⟩ (aw ha ?_);rw [show Int.toNat (l17:Int)=l17 from ad];refine az (t.1,(t.2:Int),()) (aT X aj _ _ hc) (an ?_);refine bm ?_;intro h5 b5 e5 z5;refine ar b5 rfl aj ?_;intro h6 b6 k6 z6;have b6:bF h6 h4.size 117 [.string t.1,.int .u32 (t.2:Int)]:=b6;have e46:Ext h4 h6:=bR e5 k6;have e06:=X.trans e46;refine af b6 (t.1,()) rfl (an ?_);refine aJ (Oa (b.ak e06 aj) (m.ak e06 aj aj aj) u t.1) ?_;rintro _ h7 ⟨rfl,e7⟩;generalize hk:(w.own u t.1).getD (0,t.1)=ky;refine ⟨((ky.1:Int),ky.2,(w.own u t.1).isSome,()),rfl,an ?_⟩;refine bm ?_;intro h8 b8 e8 z8;refine ar b8 rfl aj ?_;intro h9 b9 k9 z9;have b9:bF h9 h7.size 105 [.int .i64 (ky.1:Int),.string ky.2]:=b9;have e79:Ext h7 h9:=bR e8 k9;have e69:=e7.trans e79;have e49:=e46.trans e69;have e09:=X.trans e49;have b69:=b6.ak e69 aj;have q6:=b6.lt;have q7:=e7.size;have q9:=b9.lt;refine av (fun r=>?_) (fun r=>?_)
  ·have r:(w.own u t.1).isSome=false:=by simpa using r
   refine af b69 (t.1,()) rfl (an ?_);refine ar ((b23.ak O (by simp; omega)).ak e49 aj) rfl aj ?_;intro h10 b10 k10 z10;have b10:bF h10 h1.size 69 [.slice none 0 0,.int .u32 0]:=b10;refine ⟨⟨(b69.ak k10 (by simp; omega)).cells _ rfl,trivial⟩,?_⟩;refine af b10 ((none,0,0),(0:Int),()) rfl ?_;refine ⟨bR e09 k10,?_⟩;have hb:w.bad u x=some t.1:=by
    unfold Ob.LW.bad;rw [la _ x.ai l17 hlt (fun j V=>by simpa using hok j V ad) (by rw [htt]; simpa using r),htt] <;> rfl
   rw [hb] <;> rfl
  ·have r:(w.own u t.1).isSome=true:=by simpa using r
   refine af b69 (t.1,()) rfl (an ?_);refine af b9 ((ky.1:Int),ky.2,()) rfl (an ?_);refine aJ (BI (pw.ak e09 aj) (b.ak e09 aj) (m.ak e09 aj aj aj) lb' ky.1 ky.2) ?_;rintro _ h10 ⟨rfl,e10⟩;refine ⟨(w.word (ky.1,ky.2),()),rfl,an ?_⟩;have b6a:=b69.ak e10 aj;have b9a:=b9.ak e10 aj;have q10:=e10.size;refine ⟨⟨b6a.cells _ rfl,trivial⟩,?_⟩;refine km G9 sZ ad ad (GY _ _) ?_;intro h11 b11 e11 z11;have b6b:=b6a.ak e11 aj;have b9b:=b9a.ak e11 aj;refine ⟨⟨b9b.cells _ rfl,b6b.cells _ rfl,trivial⟩,?_⟩;have Y:=(e49.trans e10).trans e11;have o11:=oe.ak Y aj;have q11:=Y.size;refine gU (e:=100) (z:=.agg #[.string ⟨#[]⟩,.slice none 0 0,.int .u32 0]) (sz:=3) (by':=48) BU Kw rfl ad ad (GV _ _ _ _ _) rfl rfl o11.out ad ad ad (fun h' e=>⟨(b9b.ak e aj).cells _ rfl,(b6b.ak e aj).cells _ rfl,trivial⟩) ?_;intro p' c' h12 s12 k12 hp12;have hq:∀ i,i∈aM p16->(i=h2.size\/h3.size<=i)/\i<h4.size:=fun i hi=>by have:=oe.out.cr hi; omega
   have k312:Ch [h2.size] h3 h12:=Ch.trans (O.trans (Y.mono aj) (fun i hi hl=>hi)) k12 (fun i hi hl=>by have:=hq i hi; simp; omega);have nin:∀ i,h4.size<=i->i∉aM p16:=fun i h1 h2=>by have:=hq i h2; omega
   refine ⟨⟨(b9b.ak k12 (nin _ ad)).cells _ rfl,(b6b.ak k12 (nin _ ad)).cells _ rfl,trivial⟩,?_⟩;have hm:SL h11 h2.size 117 2 (some ⟨h10.size,0,none⟩) 1 1 ((lE (w.word ky)).ai.map df) :=
    ⟨rfl,fun y hy=>by rw [Zi.1 hy]; rfl,h10.size,[],[],rfl,ad,⟨ad,ad⟩,b11,by simp [lE]⟩
   have o12:qK h12 h2.size p' (l17+1) c' (es++[⟨t.1,some ⟨h10.size,0,none⟩,1,1,lE (w.word ky)⟩]):=by
    refine o11.push (m:=⟨t.1,some ⟨h10.size,0,none⟩,1,1,lE (w.word ky)⟩) hm (fun i hi=>?_) (by rw [Ze]; exact s12) k12 (fun i hi=>?_)
    ·have hi:i=h10.size:=by simpa [aM] using hi
     subst hi;refine ⟨fun y hy j V=>?_,nin _ ad⟩
     have:=((oe.fw y hy).cr V).2
     omega
    ·rcases hp12 with rfl | ⟨a',rfl,ha'⟩
     ·exact .inl hi
     ·simp [aM] at hi; right; omega
   have hw:=iA l17;rw [hw];refine aH (cs:=[(false,[.string]),(false,[.bool]),(false,[.slice 0]),(false,[.int .i64])]) (s14,b15,(p',l17+1,c'),((l17+1:Nat):Int),()) (l-(l17+1)) rfl ad rfl
    ⟨l17+1,_,rfl,ad,rfl,k312,rfl,o12,fun j V hjl=>?_,?_⟩
   ·by_cases hjl':j<l17
    ·exact hok j hjl' hjl
    ·have:j=l17:=ad
     subst this;rw [htt]; exact r
   ·rw [Ze,U,htk,Ze];simp only [List.map_cons,List.map_nil];rw [hk]
 ·have hi:l17=x.ai.length:=ad
  subst hi;have U:es.map (fun e=>(e.name,e.x))=x.ai.map (fun t=>(t.1,lE (w.word ((w.own u t.1).getD (0,t.1))))):=by rw [U,Zy (Zh _)]
  have hnm:aZ es=x.ai.map (·.1):=by
   have:=Zl (List.map (·.1)) U
   rw [Zv,Zv] at this;exact this
  have G:∀ e,e∈es->∃ t,t∈x.ai/\e.name=t.1/\e.x=lE (w.word ((w.own u t.1).getD (0,t.1))):=by
   intro e J
   have:(e.name,e.x)∈es.map (fun e=>(e.name,e.x)):=Zm J
   rw [U] at this;obtain ⟨t,Z,hte⟩:=Za.1 this;rw [Prod.mk.injEq] at hte;exact ⟨t,Z,hte.1.symm,hte.2.symm⟩
  have hwsz:∀ ky:Ky,(w.word ky).size<=maxLen:=by
   intro ky;unfold LW.word;have hsz:∀ (a:Xaa) n,n<=2^50->a.size=1->(a++kQ n).size<=maxLen:=fun a n hn ha=>by
    rw [au9,ha]
    have:=jw (n:=n) ad
    unfold maxLen;omega
   split
   ·rename_i n hn;exact hsz _ _ (lb'.n _ _ hn) rfl
   ·refine hsz _ _ ?_ rfl;cases J:w.tq ky with
    | none=>simp
    | some i=>exact lb'.e _ _ J
  have eo:EqsOk es:=⟨by rw [hnm]; exact gx.nodup,ad,fun e J=>by obtain ⟨t,Z,h1,_⟩:=G e J; rw [h1]; exact gx.sz t Z,
   fun e J=>by obtain ⟨t,Z,_,h1⟩:=G e J; rw [h1]; show 1<=2^40; decide,
   fun e J t' ht'=>by
    obtain ⟨t,Z,_,h1⟩:=G e J;rw [h1] at ht';rw [Zi.1 ht'];exact hwsz _⟩
  refine af ((b13).ak O (by simp; omega)) ((p,l,c),(x.num:Int),()) rfl ?_;refine an ?_;have ve:=CD oe;have htot:(es.flatMap (·.x.ai)).length<=2^39:=by
   have:∀ l:List cK,(∀ e,e∈l->e.x.ai.length=1)->(l.flatMap (·.x.ai)).length=l.length:=by
    intro l
    induction l with
    | nil=>intro _; rfl
    | cons a l ih=>intro hl; rw [ZG,Y4,ih (fun e J=>hl e (by simp [J])),hl a aj,ZP,Nat.add_comm]
   rw [this es (fun e J=>by obtain ⟨t,Z,_,h1⟩:=G e J; rw [h1]; rfl)];omega
  refine aJ (Mn (v.ak X aj) ve eo (fun e J=>by obtain ⟨t,Z,_,h1⟩:=G e J; rw [h1]; show 1<=2^20; decide) htot ad hxl gx.sz) ?_;rintro _ h5 ⟨⟨p',l',c',rfl,s5⟩,e5⟩;have hlin:lZ (de (cw es) x) tZ=w.lin u x:=by
   rw [xS (eX _ _) (lM gx.num)];unfold Ob.LW.lin;refine pC (fun t Z=>?_);have hin:t.1∈aZ es:=by rw [hnm]; exact Zm Z
   obtain ⟨j,V,rfl⟩:=Zu Z;have hoj:=hok j ad V;obtain ⟨ky,hky⟩:=Z0.1 hoj;unfold cw;rw [Y8 ((ei es _).2 hin),hky];obtain ⟨e,J,hen⟩:=Za.1 hin;obtain ⟨t',ht',h1,h2⟩:=G e J;rw [<- hen,pQ eo.nodup J,h2,<- h1,hen,hky] <;> rfl
  rw [hlin] at s5 ⊢;refine ⟨((p',l',c'),((w.lin u x).num:Int),()),rfl,an ?_⟩;have q5:=e5.size;refine ar ((b23.ak O (by simp; omega)).ak e5 aj) rfl aj ?_;intro h6 b6 k6 z6;have b6:bF h6 h1.size 69 [.slice p' l' c',.int .u32 ((w.lin u x).num:Int)]:=b6;refine af b6 ((p',l',c'),((w.lin u x).num:Int),()) rfl ?_;refine ⟨bR (X.trans e5) k6,?_⟩;have hb:w.bad u x=none:=by
   unfold Ob.LW.bad;rw [nM _ x.ai (fun j V=>by simpa using hok j ad V)] <;> rfl
  rw [hb];exact ⟨p',l',c',rfl,(s5.bM k6 (fun j V=>by have:=(s5.cr V).1; simp; omega)).mono ad⟩
end
theorem xR {h:Hp} {a:Xax}:∀ (vs us:List Xab) (i:Nat),aI h a i vs->aI h a (i+vs.length) us->aI h a i (vs++us)
 | [],us,i,_,h2=>by simpa using h2
 | v::vs,us,i,h1,h2=>⟨h1.1,xR vs us (i+1) h1.2 (by rw [ZP] at h2; rw [show i+1+vs.length=i+(vs.length+1) from ad]; exact h2)⟩
theorem zg {h:Hp} {a:Xax}:∀ (vs:List Xab) (o i:Nat),aI h (a.add o) i vs->aI h a (o+i) vs
 | [],_,_,_=>trivial
 | v::vs,o,i,h1=>⟨by have:=h1.1; rw [add_add] at this; exact this,zg vs o (i+1) h1.2⟩
theorem fR {h:Hp} {a:Xax} {sz:Nat}:∀ (xs:List (List Xab)) (k:Nat),(∀ x,x∈xs->x.length=sz)->(∀ i,(hi:i<xs.length)->aI h (a.add ((k+i)*sz)) 0 xs[i])->aI h a (k*sz) xs.flatten
 | [],_,_,_=>trivial
 | x::xs,k,hl,hc=>by
  rw [bg9];refine xR _ _ _ ?_ ?_
  ·have:=hc 0 aj
   rw [cv9] at this;exact zg _ _ 0 this
  ·rw [hl x aj,<- Nat.succ_mul];exact fR xs (k+1) (fun y hy=>hl y (by simp [hy])) (fun i hi=>by
    have:=hc (i+1) (by simpa using hi)
    rw [show k+1+i=k+(i+1) from ad];exact this)
structure UR (h:Hp) (p:Xac) (l:Nat) (ws:List (cz × cE)):Prop where
 len:l=ws.length
 cells:∀ i,(hi:i<ws.length)->∃ a,p=some a/\aI h (a.add (i*10)) 0 (tp ws[i])
theorem mH {α β:Type} (R:α->β->Prop):∀ (us:List α),(∀ i,(hi:i<us.length)->∃ b,R us[i] b)->∃ j:List β,j.length=us.length/\∀ i,(hi:i<us.length)->(hb:i<j.length)->R us[i] j[i]
 | [],_=>⟨[],rfl,fun i hi=>by simp at hi⟩
 | u::us,h=>by
  obtain ⟨b,hb⟩:=h 0 aj;obtain ⟨j,hl,J⟩:=mH R us (fun i hi=>h (i+1) (by simpa using hi));refine ⟨b::j,by simp [hl],fun i hi G=>?_⟩
  match i with
  | 0=>exact hb
  | i+1=>exact J i (by simpa using hi) (by simpa using G)
def C3 {h:Hp} {p:Xac} {l:Nat} {us:List cE} (v:Dr h p l us):∃ ws:List (cz × cE),ws.map (·.2)=us/\UR h p l ws/\∀ u,u∈ws->iT h u.1.p u.1.l u.2:=by
 have J:∀ i,(hi:i<(List.range us.length).length)->∃ s:cz,∀ Z:(List.range us.length)[i]<us.length,∃ a,p=some a/\aI h (a.add ((List.range us.length)[i]*10)) 0 (Ob.encI s.p s.l s.c us[(List.range us.length)[i]])/\iT h s.p s.l us[(List.range us.length)[i]]:=by
  intro i hi;have U:i<us.length:=by simpa using hi
  obtain ⟨a,q,m,c,O,hc,hv⟩:=v.cells i U;refine ⟨⟨q,m,c⟩,fun Z=>⟨a,O,?_,?_⟩⟩
  ·simp only [List.getElem_range]; exact hc
  ·simp only [List.getElem_range]; exact hv
 obtain ⟨V,X,hb⟩:=mH (fun (j:Nat) (s:cz)=>∀ Z:j<us.length,∃ a,p=some a/\aI h (a.add (j*10)) 0 (Ob.encI s.p s.l s.c us[j])/\iT h s.p s.l us[j]) (List.range us.length) J;rw [ay9] at X;have Y:(V.zip us).map (·.2)=us:=by rw [List.map_snd_zip ad]
 have G:(V.zip us).length=us.length:=by rw [List.length_zip]; omega
 refine ⟨V.zip us,Y,⟨by rw [G]; exact v.len,fun i hi=>?_⟩,fun u hu=>?_⟩
 ·rw [G] at hi;have h1:=hb i (by simpa using hi) ad;simp only [List.getElem_range] at h1;obtain ⟨a,O,hc,_⟩:=h1 hi;refine ⟨a,O,?_⟩;rw [List.getElem_zip];exact hc
 ·obtain ⟨i,hi,rfl⟩:=Zu hu;rw [G] at hi;have h1:=hb i (by simpa using hi) ad;simp only [List.getElem_range] at h1;obtain ⟨a,O,_,hv⟩:=h1 hi;rw [List.getElem_zip];exact hv
def oQ (ws:List (cz × cE)):(ws.map tp).flatten.all cO=true:=by
 rw [Zx];intro v hv;obtain ⟨x,hx,hv⟩:=by9.1 hv;obtain ⟨t,_,rfl⟩:=Za.1 hx;simp only [tp,Ob.encI,List.mem_cons,List.not_mem_nil,or_false] at hv;rcases hv with rfl | rfl | rfl | rfl | rfl | rfl | rfl | rfl | rfl | rfl <;> rfl
def n' (ws:List (cz × cE)):∀ y,y∈ws.map tp->y.length=10:=by
 intro y hy;obtain ⟨u,_,rfl⟩:=Za.1 hy;rfl
def UR.src {h:Hp} {p:Xac} {l:Nat} {ws:List (cz × cE)} (v:UR h p l ws):(p=none/\ws.map tp=[])\/∃ a,p=some a/\aI h a 0 (ws.map tp).flatten:=by
 cases p with
 | none =>
  left
  refine ⟨rfl,?_⟩;cases ws with
  | nil=>rfl
  | cons u us =>
   obtain ⟨a,j,_⟩:=v.cells 0 aj;cases j
 | some a =>
  refine .inr ⟨a,rfl,?_⟩
  have:=fR (h:=h) (a:=a) (sz:=10) (ws.map tp) 0 (n' ws) (fun i hi=>by
   rw [Y0] at hi;obtain ⟨a',j,hc⟩:=v.cells i hi;cases j;rw [Zb,ZJ];exact hc)
  rwa [ck9] at this
def Cq {h:Hp} {p:Xac} {l c:Nat} {ws:List (cz × cE)} (v:UR h p l ws) (hl:ws.length<=2^30) :
  HC Tryz.prog 41 #[.slice p l c] h fun w h'=>(∃ p' c',w=.slice p' l c'/\SL h' h.size 71 10 p' l c' (ws.map tp))/\Ext h h':=by
 refine bd (args:=[.slice p l c]) mixed Tryz.func41 ax (fV p l c) ?_;unfold eb br bj;have j:=v.len;cases p with
 | none =>
  rcases v.src with ⟨_,h2⟩ | ⟨a,u,_⟩
  ·refine bC rfl ?_
   have:ws=[]:=by simpa using h2
   subst this;subst j;exact ⟨⟨none,0,rfl,SL.nil _ _ _ _⟩,Ch.refl _ _⟩
  ·cases u
 | some a =>
  refine bP rfl ?_;refine lU (e:=71) (z:=.agg iz.toArray) (sz:=10) (by':=104) AU Er rfl v.src (by simpa using j) (n' ws) (oQ ws) ad ad ?_;intro p' c' h' s' e';exact ⟨⟨p',c',rfl,s'⟩,e'⟩
structure YI (h:Hp) (b B:Nat) (p:Xac) (l c:Nat) (ws:List (cz × cE)):Prop where
 out:SL h b 71 10 p l c (ws.map tp)
 lt:∀ i,i∈aM p->i<B
 fw:∀ u,u∈ws->SL h B 117 2 u.1.p u.1.l u.1.c (u.2.e.ai.map df)
def _root_.Go.Sx.Ob.LW.yA (w:LW) (u:Nat) (us:List cE):Option Xaa:=us.findSome? fun x=>w.bad u x.e
def _root_.Go.Sx.Ob.LW.eS (w:LW) (u:Nat) (x:cE):cE:={ x with e:=w.lin u x.e }
def UW (w:LW) (u:Nat) (us:List cE) (l:Nat) (h:Hp) (v:Xab) (h':Hp):Prop :=
 Ext h h'/\match w.yA u us with
 | some s=>v=.tuple #[.slice none 0 0,.string s,.bool false]
 | none=>∃ p c B ws,v=.tuple #[.slice p l c,.string ⟨#[]⟩,.bool true]/\YI h' h.size B p l c ws/\h.size<=B/\ws.map (·.2)=us.map (w.eS u)
theorem IJ (w:LW) (u:Nat):∀ (us:List cE) (i:Nat) (hi:i<us.length) (s:Xaa),(∀ j,(J:j<i)->w.bad u (us[j]'ad).e=none)->w.bad u us[i].e=some s->w.yA u us=some s
 | [],i,hi,_,_,_=>by simp at hi
 | a::l,0,hi,s,_,h=>by unfold Ob.LW.yA; simp at h; simp [h]
 | a::l,i+1,hi,s,h0,h=>by
  have O:w.bad u a.e=none:=h0 0 ad;have G:=IJ w u l i (by simpa using hi) s (fun j J=>h0 (j+1) ad) (by simpa using h);unfold Ob.LW.yA at G ⊢;rw [List.findSome?_cons,O];exact G
def KJ (w:LW) (u:Nat) (us:List cE) (h:∀ j,(G:j<us.length)->w.bad u us[j].e=none):w.yA u us=none:=by
 unfold Ob.LW.yA;rw [ZN];intro x hx;obtain ⟨j,G,rfl⟩:=Zu hx;exact h j G
section
variable {h:Hp} {g gN gE gG:Nat} {us lb:cz} {sp:Int} {w:LW}
def zb (pw:fU h) (b:O4 h g us lb gN gE gG sp) (m:LM h gN gE gG w) (lb':Pc w) (u:Nat) {p:Xac} {l c:Nat} {xs:List cE} (v:Dr h p l xs) (hn:xs.length<=2^20) (gx:∀ x,x∈xs->Ex x.e) :
  HC Tryz.prog 33 #[ptr g,.int .i64 (u:Int),.slice p l c] h (UW w u xs l h):=by
 refine bd (args:=[ptr g,.int .i64 (u:Int),.slice p l c]) mixed Tryz.func33 ax (mX (some ⟨g,0,none⟩) u p l c) ?_;unfold jd bf bk bH aP bK aG bn bj bY aR cn dh;have hll:=v.len;obtain ⟨ws,hws,vd,hit⟩:=C3 v;have hwl:ws.length=xs.length:=by rw [<- hws,Y0]
 refine aJ (Cq (c:=c) vd ad) ?_;rintro _ h1 ⟨⟨p3,c3,rfl,s3⟩,e1⟩;refine ⟨((p3,l,c3),()),rfl,an ?_⟩;have G:∀ i,i∈aM p3->h.size<=i/\i<h1.size:=fun i hi=>s3.cr hi
 refine aX (cs:=[(false,[.slice 0]),(false,[.string]),(false,[.bool]),(false,[.int .i64])]) (fun y m' h'=>∃ (i:Nat) (vs:List (cz × cE)),y.2.2.2.1=(i:Int)/\i<=l/\m'=l-i/\Ch (aM p3) h1 h'/\vs.length=l/\SL h' h.size 71 10 p3 l c3 (vs.map tp) /\
   (∀ j,(J:j<i)->(hv:j<vs.length)->SL h' h1.size 117 2 vs[j].1.p vs[j].1.l vs[j].1.c (vs[j].2.e.ai.map df))/\vs.map (·.2)=(xs.take i).map (w.eS u)++xs.drop i/\∀ j,(J:j<i)->(hx:j<xs.length)->w.bad u xs[j].e=none)
  ((none,0,0),(⟨#[]⟩:Xaa),false,(0:Int),()) l rfl ⟨0,ws,rfl,ad,ad,Ch.refl _ _,ad,s3,by intro j J; omega,by simpa using hws,by intro j J; omega⟩ ?_
 rintro ⟨p6,s9,b10,n11,⟨⟩⟩ m' h2 ⟨i,vs,hi,hil,rfl,k2,hvl,s2,own,ef,Z⟩;simp only at hi;subst hi;refine an ?_;have e02:Ext h h2:=Ch.trans e1 k2 (fun i hi hl=>by have:=G i hi; omega);have z1:=e1.size;have z2:=k2.size;refine aQ (fun q=>?_) (fun q=>?_)
 ·have O:i<xs.length:=ad
  obtain ⟨aa,pp,ll,cc,ha,hc0,va0⟩:=v.cells i O;have gxi:=gx xs[i] (Y9 O);have htk:xs.take (i+1)=xs.take i++[xs[i]]:=Y3 O;have hdr:xs.drop i=xs[i]::xs.drop (i+1):=Zg O;generalize hxi:xs[i]=x at hc0 va0 htk gxi hdr;refine ay ⟨ad,ad⟩ (aw ha ?_);rw [show Int.toNat (i:Int)=i from ad];refine az (x.kind,x.name,x.inst.op,x.inst.a,x.inst.b,x.inst.n,x.inst.form,(pp,ll,cc),(x.e.num:Int),x.n,()) (aT e02 aj _ _ hc0) (an ?_);refine bm ?_;intro h3 b3 e3 z3;refine ar b3 rfl aj ?_;intro h4 b4 k4 z4;have b4:bF h4 h2.size 71 (Ob.encI pp ll cc x):=b4;have e24:Ext h2 h4:=bR e3 k4;have U:=e02.trans e24;rw [aE];refine af b4 ((pp,ll,cc),(x.e.num:Int),()) rfl (an ?_);refine aJ (xG (c:=cc) (pw.ak U aj) (b.ak U aj) (m.ak U aj aj aj) lb' u (va0.ak U).lin.vw gxi) ?_;rintro _ h5 ⟨e5,hq⟩;have z4':=b4.lt;have z5:=e5.size;cases hb:w.bad u x.e with
  | some s =>
   rw [hb] at hq;subst hq;refine ⟨((none,0,0),(0:Int),s,false,()),rfl,an ?_⟩;refine bm ?_;intro h6 b6 e6 z6;refine ar b6 rfl aj ?_;intro h7 b7 k7 z7;refine bC rfl ?_;refine ⟨bR ((U.trans e5).trans e6) k7,?_⟩;rw [IJ w u xs i O s (fun j J=>Z j J ad) (by rw [hxi]; exact hb)]
  | none =>
   rw [hb] at hq;obtain ⟨p7,l7,c7,rfl,s7⟩:=hq;refine ⟨((p7,l7,c7),((w.lin u x.e).num:Int),(⟨#[]⟩:Xaa),true,()),rfl,an ?_⟩;refine bm ?_;intro h6 b6 e6 z6;refine ar b6 rfl aj ?_;intro h7 b7 k7 z7;have b7:bF h7 h5.size 69 [.slice p7 l7 c7,.int .u32 ((w.lin u x.e).num:Int)]:=b7;have e57:Ext h5 h7:=bR e6 k7;have X:=(e24.trans e5).trans e57;refine bP rfl ?_;refine af b7 ((p7,l7,c7),((w.lin u x.e).num:Int),()) rfl (an ?_);have s27:=s2.ak X aj;have V:i<vs.length:=ad
   obtain ⟨a3,ha3⟩:∃ a3,p3=some a3:=by
    cases hp3:p3 with
    | some a=>exact ⟨a,rfl⟩
    | none =>
     rw [hp3] at s27;have h1:=s27.2.2.2;have h2:vs=[]:=by simpa using h1
     rw [h2] at V;simp at V
   refine ay ⟨ad,ad⟩ (aw ha3 ?_);refine SL.part (P:=Tryz.prog) s27 (i:=i) (by rw [Y0]; exact V) (o:=7) aj (by simp [cO]) ha3 ?_;intro h8 s8 k8 z8;have hvi:vs[i].2=x:=by
    have h1:(vs.map (·.2))[i]?=some vs[i].2:=by rw [ZO,Y1 V]; rfl
    rw [ef,ZC (by rw [Y0,Zp]; omega),hdr] at h1;rw [Y0,Zp,show i-min i xs.length=0 from ad] at h1;simpa using h1.symm
   have hnew:(vs.map tp).set i (lz ((vs.map tp)[i]'(by rw [Y0]; exact V)) 7 [.slice p7 l7 c7,.int .u32 ((w.lin u x.e).num:Int)])=(vs.set i (⟨p7,l7,c7⟩,w.eS u x)).map tp:=by
    rw [ca9,Zb]
    congr 1
    rcases hvv:vs[i] with ⟨⟨v1,v2,v3⟩,v4⟩
    have:v4=x:=by rw [<- hvi,hvv]
    subst this;rfl
   rw [hnew] at s8;have z7':h2.size<=h7.size:=X.size;have hw:=iA i;rw [hw];refine aH (cs:=[(false,[.slice 0]),(false,[.string]),(false,[.bool]),(false,[.int .i64])]) (p6,s9,b10,((i+1:Nat):Int),()) (l-(i+1)) rfl ad rfl
    ⟨i+1,vs.set i (⟨p7,l7,c7⟩,w.eS u x),rfl,ad,rfl,Ch.trans (k2.trans (X.mono aj) (fun i hi _=>hi)) k8 (fun i hi _=>hi),by rw [Z5]; exact hvl,s8,fun j J hjv=>?_,?_,fun j J hjx=>?_⟩
   ·have nin:∀ x,h1.size<=x->x∉aM p3:=fun x h1 h2=>by have:=G x h2; omega
    by_cases Y:j=i
    ·subst Y;simp only [List.getElem_set_self]
     have:SL h7 h1.size 117 2 p7 l7 c7 ((w.eS u x).e.ai.map df):=Sx.SL.mono (s7.ak e57 aj) (by have:=e24.size; omega)
     exact this.bM k8 (fun x hx=>nin x (this.cr hx).1)
    ·have hjlt:j<i:=ad
     rw [Z5] at hjv;simp only [List.getElem_set_ne (Ne.symm Y)]
     have:=(own j hjlt hjv).ak X aj
     exact this.bM k8 (fun x hx=>nin x (this.cr hx).1)
   ·rw [ca9,ef,htk,Ze,hdr];have hl1:((xs.take i).map (w.eS u)).length=i:=by rw [Y0,Zp]; omega
    rw [List.set_append_right _ _ ad,hl1,cl9,List.set_cons_zero]
    simp
   ·by_cases Y:j=i
    ·subst Y;rw [hxi]; exact hb
    ·exact Z j ad hjx
 ·have hi:i=l:=ad
  subst hi;refine ⟨e02,?_⟩;rw [KJ w u xs (fun j J=>Z j ad J)];refine ⟨p3,c3,h1.size,vs,rfl,⟨s2,fun i hi=>(G i hi).2,fun u hu=>?_⟩,z1,?_⟩
  ·obtain ⟨j,J,rfl⟩:=Zu hu;exact own j ad J
  ·rw [ef,Zy ad,ar9 ad,ZQ]
end
def jz (n sec i:Nat) (x:cE) (w:LW):LW :=
 if x.kind=1 then { w with num:=yj w.num (n,x.name) w.lb.length,nn:=if (w.num (n,x.name)).isSome then w.nn else w.nn+1,lb:=w.lb++[⟨n,sec,i,x.name⟩] } else w
def iJ (n sec:Nat):Nat->List cE->LW->LW
 | _,[],w=>w
 | i,x::l,w=>iJ n sec (i+1) l (jz n sec i x w)
def uz (n:Nat) (w:LW) (e:ry):LW:={ w with tq:=yj w.tq (n,e.1) w.ne,ne:=if (w.tq (n,e.1)).isSome then w.ne else w.ne+1 }
def Fy (n:Nat) (u:bX) (w:LW):LW:=u.bh.foldl (uz n) (iJ n 1 0 u.data (iJ n 0 0 u.text w))
def mW:Nat->List bX->LW->LW
 | _,[],w=>w
 | n,u::us,w=>mW (n+1) us (Fy n u w)
theorem BG (n sec:Nat) (x:cE):∀ (l:List cE) (i:Nat) (w:LW),iJ n sec i (l++[x]) w=jz n sec (i+l.length) x (iJ n sec i l w)
 | [],i,w=>rfl
 | y::l,i,w=>by
  simp only [List.cons_append,iJ,List.length_cons];rw [BG n sec x l (i+1) _,show i+1+l.length=i+(l.length+1) from ad]
theorem BD (u:bX):∀ (l:List bX) (n:Nat) (w:LW),mW n (l++[u]) w=Fy (n+l.length) u (mW n l w)
 | [],n,w=>rfl
 | y::l,n,w=>by
  simp only [List.cons_append,mW,List.length_cons];rw [BD u l (n+1) _,show n+1+l.length=n+(l.length+1) from ad]
def Gm (n sec i:Nat) (x:cE) (w:LW):(jz n sec i x w).lb.length<=w.lb.length+1:=by
 unfold jz;split
 ·simp
 ·omega
theorem lL (n sec:Nat):∀ (l:List cE) (i:Nat) (w:LW),(iJ n sec i l w).lb.length<=w.lb.length+l.length
 | [],i,w=>by simp [iJ]
 | x::l,i,w=>by
  have h1:=lL n sec l (i+1) (jz n sec i x w);have h2:=Gm n sec i x w;simp only [iJ,List.length_cons];omega
theorem Nq (n:Nat):∀ (l:List ry) (w:LW),(l.foldl (uz n) w).lb=w.lb
 | [],w=>rfl
 | e::l,w=>by rw [ZH,Nq n l]; rfl
def Ms (n:Nat) (u:bX) (w:LW):(Fy n u w).lb.length<=w.lb.length+(u.text.length+u.data.length):=by
 unfold Fy;rw [Nq];have h1:=lL n 1 u.data 0 (iJ n 0 0 u.text w);have h2:=lL n 0 u.text 0 w;omega
def oM (us:List bX):Nat:=(us.map fun u=>u.text.length+u.data.length+u.bh.length+u.aU.length).sum
theorem FI:∀ (l:List bX) (n:Nat) (w:LW),(mW n l w).lb.length<=w.lb.length+oM l
 | [],n,w=>by simp [mW,oM]
 | u::l,n,w=>by
  have h1:=FI l (n+1) (Fy n u w);have h2:=Ms n u w;simp only [mW,oM,List.map_cons,List.sum_cons] at *;omega
def Ku (us:List bX) (i:Nat) (hi:i<us.length):oM (us.take i)+(us[i].text.length+us[i].data.length+us[i].bh.length+us[i].aU.length)+oM (us.drop (i+1))=oM us:=by
 have:us=us.take i++us[i]::us.drop (i+1):=by rw [<- Zg hi,ZL]
 conv=>rhs; rw [this]
 unfold oM;rw [Ze,cp9,ZF,ZU];omega
structure DY (h:Hp) (B:Nat) (us lb:cz) (sp:Int) (w:LW):Prop where
 box:O4 h (B+3) us lb B (B+1) (B+2) sp
 maps:LM h B (B+1) (B+2) w
 oT:SL h (B+4) 112 4 lb.p lb.l lb.c (w.lb.map AB)
def DY.ak {h h':Hp} {B:Nat} {us lb:cz} {sp:Int} {w:LW} (s:DY h B us lb sp w) (e:Ext h h'):DY h' B us lb sp w :=
 ⟨s.box.ak e aj,s.maps.ak e aj aj aj,s.oT.ak e aj⟩
def DY.lt {h:Hp} {B:Nat} {us lb:cz} {sp:Int} {w:LW} (s:DY h B us lb sp w):B+4<=h.size:=by have:=s.box.lt; omega
def Sd:Tryz.prog.underlying 90=some (.slice 112):=ax
def Vw:(Tryz.prog.info? 112).map (fun i=>(i.zero,i.size,i.bytes))=some (some (.agg #[.int .i64 0,.int .i64 0,.int .i64 0,.string ⟨#[]⟩]),4,40):=ax
def Mj (a b c:Int) (s:Xaa):Instr.fill (fun j=>some (j*4,4)) ((Array.range (1*4)).map ((Value.agg #[.int .i64 0,.int .i64 0,.int .i64 0,.string ⟨#[]⟩]).cells[· % (Value.agg #[.int .i64 0,.int .i64 0,.int .i64 0,.string ⟨#[]⟩]).cells.size]!)) [(0,.agg #[.int .i64 a,.int .i64 b,.int .i64 c,.string s])]=some ([.int .i64 a,.int .i64 b,.int .i64 c,.string s]:List Xab).toArray:=ax
section
variable {h0:Hp} {B:Nat} {us:cz} {sp:Int}
def Gy {h:Hp} {lb:cz} {w:LW} (hB:h0.size=B) (e0:Ext h0 h) (s:DY h B us lb sp w) {p:Xac} {l c:Nat} {xe:List bX} (v:uH h0 p l xe) (hlen:w.lb.length+oM xe<=2^30) (hnu:xe.length<=2^20) (hwl:lb.l=w.lb.length) :
  HC Tryz.prog 31 #[ptr (B+3),.slice p l c] h fun x h'=>x=.tuple #[]/\∃ J,DY h' B us J sp (mW 0 xe w)/\Ext h0 h':=by
 refine bd (args:=[ptr (B+3),.slice p l c]) mixed Tryz.func31 ax (nj (some ⟨B+3,0,none⟩) p l c) ?_;unfold jm bf bk bH aP br bU aG bn bj bY aR;have hll:=v.len;refine aX (cs:=[(false,[.int .i64])]) (fun y m' h'=>∃ (n:Nat) (J:cz),y.1=(n:Int)/\n<=l/\m'=l-n/\Ext h0 h'/\DY h' B us J sp (mW 0 (xe.take n) w)) ((0:Int),()) l rfl ⟨0,lb,rfl,ad,ad,e0,s⟩ ?_;clear s e0;rintro ⟨n2,⟨⟩⟩ m' h1 ⟨n,lb1,hn,hnl,rfl,e1,s1⟩;simp only at hn;subst hn;refine an ?_;refine aQ (fun q=>?_) (fun q=>?_)
 ·have hlt:n<xe.length:=ad
  obtain ⟨a,U,V,tc,td,ha,hc,hu⟩:=v.cells n hlt;have htk:xe.take (n+1)=xe.take n++[xe[n]]:=Y3 hlt;have hL:=Ku xe n hlt;have hwn:=FI (xe.take n) 0 w;generalize xe[n]=u at hc hu htk hL;generalize hw1:mW 0 (xe.take n) w=w1 at *;refine ay ⟨ad,ad⟩ (aw ha ?_);rw [show Int.toNat (n:Int)=n from ad];refine az ((U.p,U.l,U.c),(V.p,V.l,V.c),(tc.p,tc.l,tc.c),(td.p,td.l,td.c),()) (aT e1 aj _ _ hc) (an ?_);refine bm ?_;intro h2 b2 e2 z2;refine ar b2 rfl aj ?_;intro h3 b3 k3 z3;have b3:bF h3 h1.size 47 [U.v,V.v,tc.v,td.v]:=b3;have e13:Ext h1 h3:=bR e2 k3;refine af b3 ((U.p,U.l,U.c),()) rfl (an ?_);rw [aE];refine af b3 ((V.p,V.l,V.c),()) rfl (an ?_);refine km O2 Xr ad ad (Om U.p U.l U.c V.p V.l V.c) ?_;intro h4 b4 e4 z4;have b4:bF h4 h3.size 43 [U.v,V.v]:=b4;have e14:=e13.trans e4;have b34:=b3.ak e4 aj;have l1:=s1.lt;have q3:=b3.lt;have hsec:∀ k,k<2->∃ s:cz,([U.v,V.v]:List Xab).drop k=s.v::([U.v,V.v]:List Xab).drop (k+1)/\Dr h0 s.p s.l (yM u k):=by
   intro k hk
   have:k=0\/k=1:=ad
   rcases this with rfl | rfl
   ·exact ⟨U,rfl,hu.text⟩
   ·exact ⟨V,rfl,hu.data⟩
  let wS:Nat->LW:=fun k=>if k=0 then w1 else if k=1 then iJ n 0 0 u.text w1 else iJ n 1 0 u.data (iJ n 0 0 u.text w1)
  have hwS:∀ k,k<2->wS (k+1)=iJ n k 0 (yM u k) (wS k):=by
   intro k hk
   have:k=0\/k=1:=ad
   rcases this with rfl | rfl <;> rfl
  have hwSl:∀ k,k<=2->(wS k).lb.length<=w1.lb.length+(if k=0 then 0 else if k=1 then u.text.length else u.text.length+u.data.length):=by
   intro k hk
   have:k=0\/k=1\/k=2:=ad
   rcases this with rfl | rfl | rfl
   ·simp [wS]
   ·exact lL n 0 u.text 0 w1
   ·have h1:=lL n 0 u.text 0 w1;have h2:=lL n 1 u.data 0 (iJ n 0 0 u.text w1);show (iJ n 1 0 u.data (iJ n 0 0 u.text w1)).lb.length<=w1.lb.length+(u.text.length+u.data.length);omega
  refine aX (cs:=[(false,[.int .i64])]) (fun y m' h'=>∃ (k:Nat) (J:cz),y.1=(k:Int)/\k<=2/\m'=2-k/\Ext h0 h'/\DY h' B us J sp (wS k)/\(h1.size∉aM J.p/\h3.size∉aM J.p)/\bF h' h1.size 47 [U.v,V.v,tc.v,td.v]/\bF h' h3.size 43 [U.v,V.v]) ((0:Int),()) 2 rfl
   ⟨0,lb1,rfl,ad,ad,e1.trans e14,s1.ak e14,⟨fun hm=>by have:=(s1.oT.cr hm).2; omega,fun hm=>by have:=(s1.oT.cr hm).2; omega⟩,b34,b4⟩ ?_
  clear b4 b34 e4 e14 b3 z4;rintro ⟨n26,⟨⟩⟩ m' h5 ⟨k,lb2,hk,hk2,rfl,e5,s5,d2,bu,bs⟩;simp only at hk;subst hk;refine an ?_;refine aQ (fun q=>?_) (fun q=>?_)
  ·have hk:k<2:=ad
   obtain ⟨sl,hsl,vs⟩:=hsec k hk;have hwk:=hwS k hk;have hwkl:=hwSl k ad;have hsecl:(yM u k).length+(if k=0 then 0 else if k=1 then u.text.length else u.text.length+u.data.length)<=u.text.length+u.data.length:=by
    have:k=0\/k=1:=ad
    rcases this with rfl | rfl
    ·simp [yM]
    ·simp [yM]; omega
   refine ay ⟨ad,ad⟩ (aw rfl ?_);rw [aE];refine af bs ((sl.p,sl.l,sl.c),()) (by rw [show 0+(k:Int).toNat*1=k from ad,hsl]; rfl) ?_;refine an ?_;generalize hxs:yM u k=xs at vs hwk hsecl;generalize hwkk:wS k=wk at *;have lk:=vs.len;refine aX (cs:=[(false,[.int .i64])]) (fun y m' h'=>∃ (i:Nat) (J:cz),y.1=(i:Int)/\i<=sl.l/\m'=sl.l-i/\Ext h0 h'/\DY h' B us J sp (iJ n k 0 (xs.take i) wk)/\(h1.size∉aM J.p/\h3.size∉aM J.p)/\bF h' h1.size 47 [U.v,V.v,tc.v,td.v]/\bF h' h3.size 43 [U.v,V.v]) ((0:Int),()) sl.l rfl
    ⟨0,lb2,rfl,ad,ad,e5,s5,d2,bu,bs⟩ ?_
   clear e5 s5 bu bs;rintro ⟨n31,⟨⟩⟩ m' h6 ⟨i,G,hi,hil,rfl,e6,s6,d3,bu,bs⟩;simp only at hi;subst hi;refine an ?_;refine aQ (fun q=>?_) (fun q=>?_)
   ·have hix:i<xs.length:=ad
    obtain ⟨aa,pp,ll,cc,haa,hc0,va0⟩:=vs.cells i hix;have htk2:xs.take (i+1)=xs.take i++[xs[i]]:=Y3 hix;have hli:(iJ n k 0 (xs.take i) wk).lb.length<=wk.lb.length+i:=by
     have:=lL n k (xs.take i) 0 wk
     rw [Zp] at this;omega
    have Z:iJ n k 0 (xs.take (i+1)) wk=jz n k i xs[i] (iJ n k 0 (xs.take i) wk):=by
     rw [htk2,BG,Zp,ZJ,ac9 ad]
    generalize xs[i]=x at hc0 va0 Z;generalize hwi:iJ n k 0 (xs.take i) wk=wi at *;refine ay ⟨ad,ad⟩ (aw haa ?_);rw [show Int.toNat (i:Int)=i from ad];refine az (x.kind,x.name,x.inst.op,x.inst.a,x.inst.b,x.inst.n,x.inst.form,(pp,ll,cc),(x.e.num:Int),x.n,()) (aT e6 aj _ _ hc0) (an ?_);refine bm ?_;intro h7 b7 e7 z7;refine ar b7 rfl aj ?_;intro h8 b8 k8 z8;have b8:bF h8 h6.size 71 (Ob.encI pp ll cc x):=b8;have X:Ext h6 h8:=bR e7 k8;have bu8:=bu.ak X aj;have bs8:=bs.ak X aj;have O:=s6.ak X;have hw:=iA i;have l6:=s6.lt;have q6:=b8.lt;refine af b8 (x.kind,()) rfl (an ?_);refine av (fun r=>?_) (fun r=>?_)
    ·have r:x.kind=1:=by simpa using r
     have hp:jz n k i x wi={ wi with num:=yj wi.num (n,x.name) wi.lb.length,nn:=if (wi.num (n,x.name)).isSome then wi.nn else wi.nn+1,lb:=wi.lb++[⟨n,k,i,x.name⟩] }:=by unfold jz; rw [Y8 r]
     refine aw rfl ?_;rw [aE];refine af O.box (some B,()) rfl (an ?_);rw [aE];refine af b8 (x.name,()) rfl (an ?_);refine aw rfl ?_;rw [aE];refine af O.box ((G.p,G.l,G.c),()) rfl (an ?_);have hlb3:G.l=wi.lb.length:=by rw [O.oT.1,Y0]
     refine R9 O.maps.n n x.name (w:=wi.lb.length) ad ?_;intro h9 m9 k9 z9;have x9:=O.box.ak k9 aj;have me9:=O.maps.e.ak k9 aj;have mg9:=O.maps.g.ak k9 aj;have ls9:=O.oT.bM k9 (fun j hj=>by have:=(O.oT.cr hj).1; simp; omega);have b9:=b8.ak k9 (by simp; omega);refine aw rfl ?_;rw [aE];refine af x9 ((G.p,G.l,G.c),()) rfl (an ?_);refine af b9 (x.name,()) rfl (an ?_);refine gU (e:=112) (z:=.agg #[.int .i64 0,.int .i64 0,.int .i64 0,.string ⟨#[]⟩]) (sz:=4) (by':=40) Sd Vw rfl ad ad (Mj _ _ _ _) rfl rfl ls9 ad ad ad (fun h' e=>⟨(b9.ak e aj).cells _ rfl,(x9.ak e aj).cells _ rfl,trivial⟩) ?_;intro p' c' h10 s10 Y hp10;have nin:∀ j,j<B+4->j∉aM G.p:=fun j h1 h2=>by have:=(O.oT.cr h2).1; omega
     have nin2:∀ j,h6.size<=j->j∉aM G.p:=fun j h1 h2=>by have:=(s6.oT.cr h2).2; omega
     have b10:=b9.ak Y (nin2 _ ad);have x10:=x9.ak Y (nin _ ad);refine ⟨⟨b10.cells _ rfl,trivial⟩,?_⟩;refine aw rfl ?_;rw [aE];refine ar x10 rfl aj ?_;intro h11 x11 k11 z11;have x11:O4 h11 (B+3) us ⟨p',G.l+1,c'⟩ B (B+1) (B+2) sp:=x11;rw [hw];have e611:Ext h0 h11:=Ch.trans (Ch.trans (bR (e6.trans X) k9) Y (fun j hj hl=>by have:=(O.oT.cr hj).1; omega)) k11 (fun j hj hl=>by simp at hj; omega);have q56:h1.size<h3.size:=q3;have q36:h3.size<h6.size:=bs.lt;have d4:h1.size∉aM p'/\h3.size∉aM p':=by
      rcases hp10 with rfl | ⟨a',rfl,ha'⟩
      ·exact d3
      ·simp only [aM,List.mem_singleton]; omega
     refine aH (cs:=[(false,[.int .i64])]) (((i+1:Nat):Int),()) (sl.l-(i+1)) rfl ad rfl ⟨i+1,⟨p',G.l+1,c'⟩,rfl,ad,rfl,e611,?_,d4,?_,?_⟩
     ·rw [Z,hp];refine ⟨x11,⟨(m9.ak Y (nin _ ad)).ak k11 aj,(me9.ak Y (nin _ ad)).ak k11 aj,(mg9.ak Y (nin _ ad)).ak k11 aj⟩,?_⟩;show SL h11 (B+4) 112 4 p' (G.l+1) c' ((wi.lb++[(⟨n,k,i,x.name⟩:Lb)]).map AB);rw [Ze];exact s10.bM k11 (fun j hj=>by have:=(s10.cr hj).1; simp; omega)
     ·exact ((bu8.ak k9 (by simp; omega)).ak Y d3.1).ak k11 (by simp; omega)
     ·exact ((bs8.ak k9 (by simp; omega)).ak Y d3.2).ak k11 (by simp; omega)
    ·have r:¬ x.kind=1:=by simpa using r
     have hp:jz n k i x wi=wi:=by unfold jz; rw [Y2 r]
     rw [hw];refine aH (cs:=[(false,[.int .i64])]) (((i+1:Nat):Int),()) (sl.l-(i+1)) rfl ad rfl ⟨i+1,G,rfl,ad,rfl,e6.trans X,by rw [Z,hp]; exact O,d3,bu8,bs8⟩
   ·have hi:i=xs.length:=ad
    subst hi;rw [Zy (Zh _)] at s6;have hw:=iA k;rw [hw];refine aH (cs:=[(false,[.int .i64])]) (((k+1:Nat):Int),()) (2-(k+1)) rfl ad rfl ⟨k+1,G,rfl,ad,rfl,e6,by rw [hwk]; exact s6,d3,bu,bs⟩
  ·have hk:k=2:=ad
   subst hk;clear bs;rw [aE];refine af bu ((tc.p,tc.l,tc.c),()) rfl (an ?_);have ve:=hu.bh;have le:=ve.len;have hw2:wS 2=iJ n 1 0 u.data (iJ n 0 0 u.text w1):=rfl;have hne:∀ (i:Nat),(hi:i<u.bh.length)->(u.bh.take (i+1)).foldl (uz n) (wS 2)=uz n ((u.bh.take i).foldl (uz n) (wS 2)) (u.bh[i]'ad):=by
    intro i hi;rw [Y3 hi,ZY] <;> rfl
   refine aX (cs:=[(false,[.int .i64])]) (fun y m' h'=>∃ (i:Nat),y.1=(i:Int)/\i<=tc.l/\m'=tc.l-i/\Ext h0 h'/\DY h' B us lb2 sp ((u.bh.take i).foldl (uz n) (wS 2))) ((0:Int),()) tc.l rfl
    ⟨0,rfl,ad,ad,e5,s5⟩ ?_
   clear e5 s5 bu;rintro ⟨n30,⟨⟩⟩ m' h6 ⟨i,hi,hil,rfl,e6,s6⟩;simp only at hi;subst hi;refine an ?_;refine aQ (fun q=>?_) (fun q=>?_)
   ·have hix:i<u.bh.length:=ad
    obtain ⟨aa,pp,ll,cc,haa,hc0,va0,hsz⟩:=ve.cells i hix;have hne:=hne i hix;generalize u.bh[i]=x at hc0 va0 hsz hne;generalize hwi:(u.bh.take i).foldl (uz n) (wS 2)=wi at *;refine ay ⟨ad,ad⟩ (aw haa ?_);rw [show Int.toNat (i:Int)=i from ad];refine az (x.1,(pp,ll,cc),(x.2.num:Int),()) (aT e6 aj _ _ hc0) (an ?_);refine bm ?_;intro h7 b7 e7 z7;refine ar b7 rfl aj ?_;intro h8 b8 k8 z8;have b8:bF h8 h6.size 100 [.string x.1,.slice pp ll cc,.int .u32 (x.2.num:Int)]:=b8;have X:Ext h6 h8:=bR e7 k8;have O:=s6.ak X;have l6:=s6.lt;have q6:=b8.lt;refine aw rfl ?_;rw [aE];refine af O.box (some (B+1),()) rfl (an ?_);refine af b8 (x.1,()) rfl (an ?_);refine aw rfl ?_;rw [aE];refine af O.box (some (B+1),()) rfl (an ?_);refine VJ O.maps.e ?_;refine ⟨⟨b8.cells _ rfl,O.box.cells _ rfl,trivial⟩,?_⟩;refine R9 O.maps.e n x.1 (w:=wi.ne) rfl ?_;intro h9 m9 k9 z9;have hw:=iA i;rw [hw];refine aH (cs:=[(false,[.int .i64])]) (((i+1:Nat):Int),()) (tc.l-(i+1)) rfl ad rfl ⟨i+1,rfl,ad,rfl,bR (e6.trans X) k9,?_⟩;rw [hne];exact ⟨O.box.ak k9 aj,⟨O.maps.n.ak k9 aj,m9,O.maps.g.ak k9 aj⟩,O.oT.bM k9 (fun j hj=>by have:=(O.oT.cr hj).1; simp; omega)⟩
   ·have hi:i=u.bh.length:=ad
    subst hi;rw [Zy (Zh _)] at s6;have hw:=iA n;rw [hw];refine aH (cs:=[(false,[.int .i64])]) (((n+1:Nat):Int),()) (l-(n+1)) rfl ad rfl ⟨n+1,lb2,rfl,ad,rfl,e6,?_⟩;rw [htk,BD,Zp,ZJ,ac9 ad,hw1];exact s6
 ·have hn:n=xe.length:=ad
  subst hn;rw [Zy (Zh _)] at s1;exact ⟨rfl,lb1,s1,e1⟩
end
def uP (n:Nat) (w:LW) (s:Xaa):LW:={ w with gl:=dF w.gl s n,ng:=if (w.gl s).isSome then w.ng else w.ng+1 }
def Fu (n:Nat) (u:bX) (w:LW):LW:=u.aU.foldl (uP n) w
def kH:Nat->List bX->LW->Except (Nat × Xaa) LW
 | _,[],w=>.ok w
 | n,u::us,w=>match u.aU.find? fun g=>(w.gl g).isSome with
  | some g=>.error (n,g)
  | none=>kH (n+1) us (Fu n u w)
theorem N8 (n:Nat):∀ (l:List Xaa) (w:LW),(l.foldl (uP n) w).lb=w.lb/\(l.foldl (uP n) w).num=w.num/\(l.foldl (uP n) w).nn=w.nn/\(l.foldl (uP n) w).tq=w.tq/\(l.foldl (uP n) w).ne=w.ne
 | [],w=>⟨rfl,rfl,rfl,rfl,rfl⟩
 | e::l,w=>by rw [ZH]; exact N8 n l _
section
variable {h0:Hp} {B:Nat} {us lb:cz} {sp:Int}
def Jr {h:Hp} {w:LW} (hB:h0.size=B) (e0:Ext h0 h) (s:DY h B us lb sp w) {p:Xac} {l c:Nat} {xe:List bX} (v:uH h0 p l xe) (hnu:xe.length<=2^20) :
  HC Tryz.prog 32 #[ptr (B+3),.slice p l c] h fun x h'=>Ext h0 h'/\match kH 0 xe w with
   | .error q=>x=.tuple #[.agg #[.int .i64 22,.int .i64 (q.1:Int),.string q.2],.bool true]
   | .ok w'=>x=.tuple #[.agg #[.int .i64 0,.int .i64 0,.string ⟨#[]⟩],.bool false]/\DY h' B us lb sp w':=by
 refine bd (args:=[ptr (B+3),.slice p l c]) mixed Tryz.func32 ax (nK (some ⟨B+3,0,none⟩) p l c) ?_;unfold j8 bf bk bH aP bU bn bj bY aR cn;have hll:=v.len;generalize X:kH 0 xe w=M;refine bm ?_;intro h1 b1 e1 z1;have l0:=s.lt;refine aX (cs:=[(false,[.bool]),(false,[.int .i64])]) (fun y m' h'=>∃ (n:Nat) (w':LW),y.2.1=(n:Int)/\n<=l/\m'=l-n/\Ext h0 h'/\DY h' B us lb sp w'/\bF h' h.size 54 [.int .i64 0,.int .i64 0,.string ⟨#[]⟩]/\kH n (xe.drop n) w'=M) (false,(0:Int),()) l rfl
  ⟨0,w,rfl,ad,ad,e0.trans e1,s.ak e1,b1,X⟩ ?_
 have z0:=e0.size;have hlb:∀ i,i∈aM lb.p->i<h.size:=fun i hi=>(s.oT.cr hi).2
 clear X s b1;rintro ⟨b3,n4,⟨⟩⟩ m' h2 ⟨n,w,hn,hnl,rfl,e2,s,b1,X⟩;simp only at hn;subst hn;refine an ?_;have q1:=b1.lt;refine aQ (fun q=>?_) (fun q=>?_)
 ·have hlt:n<xe.length:=ad
  obtain ⟨a,ta,tb,tc,G,ha,hc,hu⟩:=v.cells n hlt;rw [Zg hlt] at X;generalize xe[n]=u at hc hu X;refine ay ⟨ad,ad⟩ (aw ha ?_);rw [show Int.toNat (n:Int)=n from ad];refine az ((ta.p,ta.l,ta.c),(tb.p,tb.l,tb.c),(tc.p,tc.l,tc.c),(G.p,G.l,G.c),()) (aT e2 aj _ _ hc) (an ?_);refine bm ?_;intro h3 J e3 z3;refine ar J rfl aj ?_;intro h4 b4 k4 z4;have b4:bF h4 h2.size 47 [ta.v,tb.v,tc.v,G.v]:=b4;have Z:Ext h2 h4:=bR e3 k4;have e04:=e2.trans Z;have s4:=s.ak Z;have b14:=b1.ak Z aj;have vg:=hu.aU;have lg:=vg.len;have mg:=vg.many;have q4:=b4.lt;have l2:=s.lt;rw [aE];refine af b4 ((G.p,G.l,G.c),()) rfl (an ?_);refine aX (cs:=[(false,[.bool]),(false,[.int .i64])]) (fun y m' h'=>∃ (i:Nat),y.2.1=(i:Int)/\i<=G.l/\m'=G.l-i/\h'=h4/\∀ j,(O:j<i)->(hx:j<u.aU.length)->(w.gl u.aU[j]).isSome=false) (b3,(0:Int),()) G.l rfl
   ⟨0,rfl,ad,ad,rfl,by intro j O; omega⟩ ?_
  rintro ⟨b22,n23,⟨⟩⟩ m' h5 ⟨i,hi,hil,rfl,rfl,hok⟩;simp only at hi;subst hi;refine an ?_;refine aQ (fun q=>?_) (fun q=>?_)
  ·have U:i<u.aU.length:=ad
   obtain ⟨aa,haa,Y,hsz⟩:=vg.cells i U;refine ay ⟨ad,ad⟩ (aw haa ?_);rw [show Int.toNat (i:Int)=i from ad];refine az (u.aU[i],()) (aT e04 aj _ _ Y) (an ?_);refine aw rfl ?_;rw [aE];refine af s4.box (some (B+2),()) rfl (an ?_);refine Dc s4.maps.g u.aU[i] ?_;refine av (fun r=>?_) (fun r=>?_)
   ·refine ar b14 rfl aj ?_;intro h6 b6 k6 z6;have b6:bF h6 h.size 54 [.int .i64 22,.int .i64 (n:Int),.string u.aU[i]]:=b6;refine af b6 ((22:Int),(n:Int),u.aU[i],()) rfl ?_;have hf:M=.error (n,u.aU[i]):=by
     rw [<- X,kH,la _ u.aU i U (fun j O=>hok j O ad) r]
    subst hf;exact ⟨bR e04 k6,rfl⟩
   ·have hw:=iA i;rw [hw];refine aH (cs:=[(false,[.bool]),(false,[.int .i64])]) (b22,((i+1:Nat):Int),()) (G.l-(i+1)) rfl ad rfl ⟨i+1,rfl,ad,rfl,rfl,fun j O hx=>?_⟩
    by_cases hji:j=i
    ·subst hji; exact r
    ·exact hok j ad hx
  ·have hi:i=u.aU.length:=ad
   subst hi;have hM2:kH (n+1) (xe.drop (n+1)) (Fu n u w)=M:=by
    rw [<- X,kH,nM _ u.aU (fun j O=>hok j O O)]
   refine af b4 ((G.p,G.l,G.c),()) rfl (an ?_);refine aX (cs:=[(false,[.int .i64])]) (fun y m' h'=>∃ (i:Nat),y.1=(i:Int)/\i<=G.l/\m'=G.l-i/\Ext h0 h'/\DY h' B us lb sp ((u.aU.take i).foldl (uP n) w)/\bF h' h.size 54 [.int .i64 0,.int .i64 0,.string ⟨#[]⟩]) ((0:Int),()) G.l rfl
    ⟨0,rfl,ad,ad,e04,s4,b14⟩ ?_
   clear s4 b14;rintro ⟨n27,⟨⟩⟩ m' h6 ⟨i,hi,hil',rfl,e6,V,b16⟩;simp only at hi;subst hi;refine an ?_;refine aQ (fun q=>?_) (fun q=>?_)
   ·have U:i<u.aU.length:=ad
    obtain ⟨aa,haa,Y,hsz⟩:=vg.cells i U;have hst:(u.aU.take (i+1)).foldl (uP n) w=uP n ((u.aU.take i).foldl (uP n) w) u.aU[i]:=by
     rw [Y3 U,ZY] <;> rfl
    generalize u.aU[i]=x at Y hsz hst;generalize (u.aU.take i).foldl (uP n) w=wi at *;refine ay ⟨ad,ad⟩ (aw haa ?_);rw [show Int.toNat (i:Int)=i from ad];refine az (x,()) (aT e6 aj _ _ Y) (an ?_);refine aw rfl ?_;rw [aE];refine af V.box (some (B+2),()) rfl (an ?_);have l6:=V.lt;refine qG V.maps.g hsz (w:=n) rfl ?_;intro h7 m7 k7 z7;have hw:=iA i;rw [hw];refine aH (cs:=[(false,[.int .i64])]) (((i+1:Nat):Int),()) (G.l-(i+1)) rfl ad rfl ⟨i+1,rfl,ad,rfl,bR e6 k7,?_,b16.ak k7 (by simp; omega)⟩;rw [hst];exact ⟨V.box.ak k7 aj,⟨V.maps.n.ak k7 aj,V.maps.e.ak k7 aj,m7⟩,V.oT.bM k7 (fun j O=>by have:=(V.oT.cr O).1; simp; omega)⟩
   ·have hi:i=u.aU.length:=ad
    subst hi;rw [Zy (Zh _)] at V;have hw:=iA n;rw [hw];exact aH (cs:=[(false,[.bool]),(false,[.int .i64])]) (b22,((n+1:Nat):Int),()) (l-(n+1)) rfl ad rfl ⟨n+1,_,rfl,ad,rfl,e6,V,b16,hM2⟩
 ·have hn:n=xe.length:=ad
  subst hn;rw [ar9 (Zh _)] at X;subst X;refine ar b1 rfl aj ?_;intro h3 J k3 z3;have J:bF h3 h.size 54 [.int .i64 0,.int .i64 0,.string ⟨#[]⟩]:=J;refine af J ((0:Int),(0:Int),(⟨#[]⟩:Xaa),()) rfl ?_;refine ⟨bR e2 k3,rfl,?_⟩;exact ⟨s.box.ak k3 (by simp; omega),s.maps.ak k3 (by simp; omega) (by simp; omega) (by simp; omega),s.oT.bM k3 (fun j O=>by have:=hlb j O; simp; omega)⟩
end
end Go.Sx.Lk
namespace Go.Sx.Ob
open Go.Proofs
def U2 (x:cE):Bool:=decide (x.kind=2) && oJ x.inst.op
def jT (l:List cE):Nat:=(l.filter U2).length
def Ht (l:List cE) (i:Nat) (hi:i<l.length):jT (l.take (i+1))=jT (l.take i)+if U2 l[i]=true then 1 else 0:=by
 unfold jT;rw [Y3 hi,List.filter_append,Y4]
 congr 1
 by_cases hk:U2 l[i]=true <;> simp [hk]
def zp (l:List cE):jT l<=l.length:=Z8 _ _
def JB {h:Hp} (t:AW h) {a b c d:cz} {u:bX} (v:oB h a b c d u):HC Tryz.prog 36 #[CP a b c d] h fun w h'=>w=.int .i64 ((if dL u=0 then jT u.text else 0:Nat):Int)/\Ext h h':=by
 refine bd (args:=[CP a b c d]) mixed Tryz.func36 ax (yE a.p a.l a.c b.p b.l b.c c.p c.l c.c d.p d.l d.c) ?_;unfold vQ bf bk bH aP aY cH aG bj bY aR;refine bm ?_;intro h1 b1 e1 z1;have b1:bF h1 h.size 47 [a.v,b.v,c.v,d.v]:=b1;refine af b1 ((a.p,a.l,a.c),(b.p,b.l,b.c),(c.p,c.l,c.c),(d.p,d.l,d.c),()) rfl (an ?_);refine aJ (vK (t.ak e1 aj) (v.ak e1)) ?_;rintro _ h2 ⟨rfl,e2⟩;refine ⟨((dL u:Int),()),rfl,an ?_⟩;have J:=e1.trans e2;refine av (fun r=>?_) (fun r=>?_)
 ·have r:¬ dL u=0:=by simpa using r
  rw [Y2 r];exact ⟨rfl,J⟩
 have r:dL u=0:=by simpa using r
 rw [Y8 r];have Z:=b1.ak e2 aj;refine af Z ((a.p,a.l,a.c),()) rfl (an ?_);have n:=v.text.len;have m1:=v.text.many;refine aX (cs:=[(false,[.int .i64]),(false,[.int .i64])]) (fun y m h'=>∃ i:Nat,y.2.1=(i:Int)/\y.1=(jT (u.text.take i):Int)/\m=u.text.length-i/\i<=u.text.length/\Ext h h') ((0:Int),(0:Int),()) u.text.length rfl
  ⟨0,rfl,rfl,rfl,ad,J⟩ ?_
 rintro ⟨n1,n2,⟨⟩⟩ m g ⟨i,hi,hn,rfl,hle,V⟩;simp only at hi hn;subst hi hn;refine an ?_;refine aQ (fun q=>?_) (fun q=>?_)
 ·have O:i<u.text.length:=ad
  obtain ⟨aa,pp,Y,cc,rfl',hc,X⟩:=(v.text.ak V).cells i O;have G:=Ht u.text i O;have hsl:jT (u.text.take i)<=i:=by have:=zp (u.text.take i); rw [Zp] at this; omega
  generalize u.text[i]=x at hc X G;refine ay ⟨ad,ad⟩ (aw rfl' ?_);rw [show Int.toNat (i:Int)=i from ad];refine az (x.kind,x.name,x.inst.op,x.inst.a,x.inst.b,x.inst.n,x.inst.form,(pp,Y,cc),(x.e.num:Int),x.n,()) hc (an ?_);refine bm ?_;intro g1 c1 f1 y1;refine ar c1 rfl aj ?_;intro g2 U k2 y2;have U:bF g2 g.size 71 (encI pp Y cc x):=U;have f2:Ext g g2:=bR f1 k2;have j:=V.trans f2;refine af U (x.kind,()) rfl (an ?_);refine av (fun r=>?_) (fun r=>?_)
  ·have r:x.kind=2:=by simpa using r
   rw [aE];refine af U (x.inst.op,()) rfl (an ?_);refine aJ (Ae (t.ak j aj) x.inst.op X.op.1 X.op.2) ?_;rintro _ g3 ⟨rfl,f3⟩;refine ⟨(oJ x.inst.op,()),rfl,an ?_⟩;refine av (fun s=>?_) (fun s=>?_)
   ·rw [Y8 (by unfold U2; rw [Y6 r,s]; rfl)] at G;refine aH (cs:=[(false,[.int .i64]),(false,[.int .i64])]) (((jT (u.text.take i)+1:Nat):Int),((i+1:Nat):Int),()) (u.text.length-(i+1)) rfl ad (by rw [wrap_i64 ad ad,wrap_i64 ad ad]; rfl) ?_;exact ⟨i+1,rfl,by rw [G],rfl,ad,j.trans f3⟩
   ·rw [Y2 (by unfold U2; rw [Y6 r,s]; decide)] at G;refine aH (cs:=[(false,[.int .i64]),(false,[.int .i64])]) ((jT (u.text.take i):Int),((i+1:Nat):Int),()) (u.text.length-(i+1)) rfl ad (by rw [wrap_i64 ad ad]; rfl) ?_;exact ⟨i+1,rfl,by rw [G]; rfl,rfl,ad,j.trans f3⟩
  ·have r:¬ x.kind=2:=by simpa using r
   rw [Y2 (by unfold U2; rw [Y7 r]; simp)] at G;refine aH (cs:=[(false,[.int .i64]),(false,[.int .i64])]) ((jT (u.text.take i):Int),((i+1:Nat):Int),()) (u.text.length-(i+1)) rfl ad (by rw [wrap_i64 ad ad]; rfl) ?_;exact ⟨i+1,rfl,by rw [G]; rfl,rfl,ad,j⟩
 ·have:i=u.text.length:=ad
  subst this;rw [ZA];exact ⟨rfl,V⟩
end Go.Sx.Ob
namespace Go.Sx.Lk
open Go.Proofs Go.Sx.Ob
variable {h':Hp} {fs:List cK}
structure kz where
 s:cz
 ws:List (cz × cE)
def Wq:kz:=⟨mj,[]⟩
structure my (h:Hp) (b:Nat) (x:kz):Prop where
 out:SL h b 71 10 x.s.p x.s.l x.s.c (x.ws.map tp)
 fw:∀ u,u∈x.ws->SL h b 117 2 u.1.p u.1.l u.1.c (u.2.e.ai.map df)
def my.ak {h:Hp} {b:Nat} {x:kz} {ws:List Nat} (s:my h b x) (k:Ch ws h h') (h1:∀ i,i∈aM x.s.p->i∉ws) (h2:∀ u,u∈x.ws->∀ i,i∈aM u.1.p->i∉ws):my h' b x :=
 ⟨s.out.bM k h1,fun u hu=>(s.fw u hu).bM k (h2 u hu)⟩
def my.ext {h:Hp} {b:Nat} {x:kz} (s:my h b x) (k:Ext h h'):my h' b x:=s.ak k aj aj
def my.mono {h:Hp} {b b':Nat} {x:kz} (s:my h b x) (hb:b'<=b):my h b' x:=⟨s.out.mono hb,fun u hu=>(s.fw u hu).mono hb⟩
structure lf (h:Hp) (b N:Nat) (S:Nat->kz):Prop where
 sec:∀ k,k<N->my h b (S k)
 ap:∀ k j,k<N->j<N->k≠j->∀ x,x∈aM (S k).s.p->x∉aM (S j).s.p
def lf.ext {h:Hp} {b N:Nat} {S:Nat->kz} (s:lf h b N S) (k:Ext h h'):lf h' b N S:=⟨fun j u=>(s.sec j u).ext k,s.ap⟩
def lf.mG {h:Hp} {b N:Nat} {S:Nat->kz} {ws:List Nat} (s:lf h b N S) (k:Ch ws h h') (hw:∀ i,i∈ws->i<b):lf h' b N S :=
 ⟨fun j G=>(s.sec j G).ak k (fun i hi hm=>by have:=((s.sec j G).out.cr hi).1; have:=hw i hm; omega) (fun u hu i hi hm=>by have:=(((s.sec j G).fw u hu).cr hi).1; have:=hw i hm; omega),s.ap⟩
def lf.rp {h:Hp} {b N:Nat} {S:Nat->kz} {J:Nat} {e:TypeId} {sz:Nat} {p:Xac} {l c:Nat} {xs:List (List Xab)} (s:lf h b N S) (t:SL h J e sz p l c xs) (k:Ch (aM p) h h') (h1:e≠71) (h2:e≠117):lf h' b N S :=
 ⟨fun j G=>(s.sec j G).ak k (fun i hi hm=>uV t (s.sec j G).out h1 i hm hi) (fun u hu i hi hm=>uV t ((s.sec j G).fw u hu) h2 i hm hi),s.ap⟩
def kW (S:Nat->kz) (k:Nat) (x:kz):Nat->kz:=fun j=>if j=k then x else S j
def lf.nil (h:Hp) (b:Nat) (S:Nat->kz):lf h b 0 S:=⟨fun k hk=>absurd hk ad,fun k j hk=>absurd hk ad⟩
def lf.add {h:Hp} {b N:Nat} {S:Nat->kz} (s:lf h b N S) (e:Ext h h') (hb:b<=h.size) {x:kz} (hx:my h' h.size x):lf h' b (N+1) (kW S N x):=by
 have s':=s.ext e;refine ⟨fun k hk=>?_,fun k j hk U O y hy u=>?_⟩
 ·unfold kW
  by_cases G:k=N
  ·rw [Y8 G]; exact hx.mono hb
  ·rw [Y2 G]; exact s'.sec k ad
 ·unfold kW at hy u
  by_cases G:k=N <;> by_cases J:j=N
  ·omega
  ·rw [Y8 G] at hy;rw [Y2 J] at u;have h1:=(hx.out.cr hy).1;have h2:=((s.sec j ad).out.cr u).2;omega
  ·rw [Y2 G] at hy;rw [Y8 J] at u;have h1:=(hx.out.cr u).1;have h2:=((s.sec k ad).out.cr hy).2;omega
  ·rw [Y2 G] at hy;rw [Y2 J] at u;exact s.ap k j ad ad O y hy u
def lf.put {h:Hp} {b N:Nat} {S:Nat->kz} (s:lf h b N S) {k:Nat} (hk:k<N) {i:Nat} (hi:i<(S k).ws.length) {q:cz × cE} (X:SL h b 117 2 q.1.p q.1.l q.1.c (q.2.e.ai.map df))
  (Y:SL h' b 71 10 (S k).s.p (S k).s.l (S k).s.c (((S k).ws.set i q).map tp)) (c:Ch (aM (S k).s.p) h h'):lf h' b N (kW S k ⟨(S k).s,(S k).ws.set i q⟩):=by
 have J:∀ {p:Xac} {l c:Nat} {ts:dc},SL h b 117 2 p l c (ts.map df)->SL h' b 117 2 p l c (ts.map df):=fun t=>t.bM c (fun x hx hm=>uV t (s.sec k hk).out bZ x hx hm)
 refine ⟨fun j O=>?_,fun j m O hm V y hy U=>?_⟩
 ·unfold kW
  by_cases G:j=k
  ·rw [Y8 G];refine ⟨Y,fun u hu=>?_⟩;rcases ai9 hu with hu | rfl
   ·exact J ((s.sec k hk).fw u hu)
   ·exact J X
  ·rw [Y2 G];exact ⟨(s.sec j O).out.bM c (fun x hx hm=>s.ap j k O hk G x hx hm),fun u hu=>J ((s.sec j O).fw u hu)⟩
 ·have e1:∀ j,(kW S k ⟨(S k).s,(S k).ws.set i q⟩ j).s=(S j).s:=by
   intro j;unfold kW
   by_cases G:j=k
   ·rw [Y8 G,G]
   ·rw [Y2 G]
  rw [e1] at hy U;exact s.ap j m O hm V y hy U
def xH (S:Nat->kz) (n:Nat):List Xab:=[(S (2*n)).s.v,(S (2*n+1)).s.v,mj.v,mj.v]
def mE (S:Nat->kz) (n:Nat):List (List Xab):=(List.range n).map (xH S)
def Hj (S:Nat->kz) (n:Nat) (a b:kz):mE (kW (kW S (2*n) a) (2*n+1) b) (n+1)=mE S n++[[a.s.v,b.s.v,mj.v,mj.v]]:=by
 unfold mE;rw [cs9,Ze]
 congr 1
 ·apply ZM;intro i hi;have hi:i<n:=aw9.1 hi;unfold xH kW;rw [Y2 ad,Y2 ad,Y2 ad,Y2 ad]
 ·show [xH _ n]=_;unfold xH kW;rw [Y2 ad,Y8 rfl,Y8 rfl]
def jC (S:Nat->kz) (n:Nat):(mE S n).length=n:=by unfold mE; simp
def Cn (S:Nat->kz) (n i:Nat) (hi:i<(mE S n).length):(mE S n)[i]=xH S i:=by
 have:i<n:=by simpa [jC] using hi
 show ((List.range n).map (xH S))[i]'(by simpa using this)=_;rw [Zb,List.getElem_range]
def eU (D:List (Xaa × ct)):List cK:=D.map fun q=>⟨q.1,none,0,0,q.2⟩
def fk (e:cK):Xaa × ct:=(e.name,e.x)
def mI (D:List (Xaa × ct)):(eU D).map fk=D:=by
 unfold eU;rw [Zv];exact List.map_id _
def Kc {es:List cK} (h:es.map fk=fs.map fk):aZ es=aZ fs:=by
 have:=Zl (List.map (·.1)) h
 rw [Zv,Zv] at this;exact this
def Ih {es:List cK} (h:es.map fk=fs.map fk) (s:Xaa):kr es s=kr fs s:=by
 unfold kr;have j:∀ l:List cK,l.findIdx? (fun e=>decide (e.name=s))=(l.map fk).findIdx? fun q=>decide (q.1=s):=by
  intro l;rw [cf9] <;> rfl
 rw [j,j,h]
def CK {es:List cK} (h:es.map fk=fs.map fk):cy es=cy fs:=by
 funext s
 unfold cy;rw [Ih h]
def CJ {es:List cK} (h:es.map fk=fs.map fk):dk es=dk fs:=by
 funext s
 unfold dk;rw [Ih h];cases kr fs s with
 | none=>rfl
 | some k =>
  have hx:es[k]?.map (·.x)=fs[k]?.map (·.x):=by
   have h1:(es.map fk)[k]?=(fs.map fk)[k]?:=by rw [h]
   rw [ZO,ZO] at h1;have h2:=Zl (Option.map (·.2)) h1;rw [Option.map_map,Option.map_map] at h2;exact h2
  show (es[k]?.map (·.x)).getD tZ=(fs[k]?.map (·.x)).getD tZ;rw [hx]
def IM {es:List cK} (h:es.map fk=fs.map fk):eR es=eR fs:=by
 funext s
 unfold eR;rw [CK h,CJ h,Kc h]
def AT {es:List cK} (h:es.map fk=fs.map fk):dp es=dp fs:=by
 unfold dp;rw [CK h,CJ h]
def mu (D:List (Xaa × ct)):List (Xaa × ct):=D.map fun q=>(q.1,eR (eU D) q.1)
def vF (D:List (Xaa × ct)) (x:ct):ct:=de (cw (eU D)) x
def FC {es:List cK} (h:es.map fk=fs.map fk):cw es=cw fs:=by
 funext s
 unfold cw;rw [CK h,CJ h]
def ek:Nat->List bX->List (Nat × ry)
 | _,[]=>[]
 | n,u::us=>u.bh.map (fun e=>(n,e))++ek (n+1) us
theorem nT (u:bX):∀ (l:List bX) (n:Nat),ek n (l++[u])=ek n l++u.bh.map fun e=>(n+l.length,e)
 | [],n=>by simp [ek]
 | y::l,n=>by
  simp only [List.cons_append,ek,List.length_cons];rw [nT u l (n+1),show n+1+l.length=n+(l.length+1) from ad,Zr]
def vG (w:LW) (us:List bX):List (Xaa × ct):=(ek 0 us).map fun q=>(w.word (q.1,q.2.1),w.lin q.1 q.2.2)
def qW (w:LW) (n:Nat) (u:bX):Option Xaa:=(w.yA n u.text).or ((w.yA n u.data).or (u.bh.findSome? fun e=>w.bad n e.2))
def fK (w:LW):Nat->List bX->Option (Nat × Xaa)
 | _,[]=>none
 | n,u::us=>match qW w n u with
  | some s=>some (n,s)
  | none=>fK w (n+1) us
def Aj (w:LW) (us:List bX) (n:Nat) (hn:n<us.length):fK w n (us.drop n)=match qW w n us[n] with
  | some s=>some (n,s)
  | none=>fK w (n+1) (us.drop (n+1)):=by
 rw [Zg hn,fK]
noncomputable def mT (D:List (Xaa × ct)):Option Nat:=by
 classical
 exact D.findIdx? fun q=>decide (kq (dp (eU D)) q.1)
structure Fl where
 nQ:Nat
 unit:Nat
 name:Xaa
structure LP where
 w:LW
 us:List bX
 D:List (Xaa × ct)
def LP.eS (P:LP) (n:Nat) (x:cE):cE:={ x with e:=vF (mu P.D) (P.w.lin n x.e) }
noncomputable def jo (us:List bX):Except Fl LP :=
 if us.length=0 then .error ⟨25,0,dH⟩
 else if 64<us.length then .error ⟨4,0,dH⟩
 else match us.findIdx? fun u=>decide (dL u≠0) with
 | some n=>.error ⟨31,n,dH⟩
 | none=>match kH 0 us (mW 0 us R5) with
  | .error q=>.error ⟨22,q.1,q.2⟩
  | .ok w=>match fK w 0 us with
   | some q=>.error ⟨23,q.1,q.2⟩
   | none=>match mT (vG w us) with
    | some i=>.error ⟨24,((ek 0 us).map fun q=>(q.1,q.2.1)).getD i (0,dH) |>.1,((ek 0 us).map fun q=>(q.1,q.2.1)).getD i (0,dH) |>.2⟩
    | none=>.ok ⟨w,us,vG w us⟩
def cv (u:bX):List ct:=u.text.map (·.e)++u.data.map (·.e)++u.bh.map (·.2)
def F2 {x:ct} (h:O3 x=true):Good x:=by
 unfold O3 at h;simp only [Bool.and_eq_true,decide_eq_true_eq] at h;obtain ⟨t,n⟩:=x;obtain ⟨rfl,rfl⟩:=h;exact ⟨⟨List.Pairwise.nil,aj⟩,aj,bZ⟩
def FU {x:cE} {k:Nat} (h:cB x k=true) (hc:∀ t,t∈x.e.ai->t.2<4294967296) (hn:x.e.num<4294967296):Good x.e:=by
 have z:z3 x=true->Good x.e:=F2;unfold cB at h
 repeat' split at h
 all_goals try simp only [Bool.and_eq_true] at h
 ·exact z h.1.2
 ·have h1:=h.1.1.2;unfold zi at h1;simp only [Bool.and_eq_true] at h1;have h2:=h1.2;split at h2
  ·simp only [Bool.and_eq_true] at h2;exact Dw h2.2 hc hn
  ·simp only [Bool.and_eq_true] at h2;exact F2 h2.2
 ·exact z h.2
 ·exact z h.1.2
 ·exact z h.2
 ·exact Dw h.1.1.1.2 hc hn
 ·exact z h.2
 ·cases h
theorem rf {sec:Nat}:∀ {l:List cE} {D:List Xaa},eW sec D l=true->∀ x,x∈l->cB x sec=true
 | [],_,_,x,hx=>by simp at hx
 | y::l,D,h,x,hx=>by
  unfold eW at h;rw [Zz] at h;rcases Zo.1 hx with rfl | hx
  ·have:=h.1
   unfold xM at this;rw [Zz] at this;exact this.1
  ·exact rf h.2 x hx
theorem tJ:∀ {l:List ry} {D:List Xaa},gy D l=true->∀ e,e∈l->cX e.1.data.toList=true/\nz none e.2.ai=true
 | [],_,_,x,hx=>by simp at hx
 | y::l,D,h,x,hx=>by
  unfold gy at h;rw [Zz] at h;rcases Zo.1 hx with rfl | hx
  ·have:=h.1
   unfold Cp at this;simp only [Bool.and_eq_true] at this;exact ⟨this.1.2,this.2⟩
  ·exact tJ h.2 x hx
def Ax {u:bX} (h:dL u=0) (hc:∀ x,x∈cv u->x.num<4294967296/\∀ t,t∈x.ai->t.2<4294967296):∀ x,x∈cv u->Good x:=by
 have h1:=(wM h).2;unfold tA at h1;simp only [Bool.and_eq_true] at h1;obtain ⟨⟨⟨h1,h2⟩,h3⟩,h4⟩:=h1;intro x hx;have j:=hc x hx;unfold cv at hx;rcases Zk.1 hx with hx | hx
 ·rcases Zk.1 hx with hx | hx
  ·obtain ⟨y,hy,rfl⟩:=Za.1 hx;exact FU (rf h1 y hy) j.2 j.1
  ·obtain ⟨y,hy,rfl⟩:=Za.1 hx;exact FU (rf h2 y hy) j.2 j.1
 ·obtain ⟨y,hy,rfl⟩:=Za.1 hx;exact Dw (tJ h3 y hy).2 j.2 j.1
structure Gj (us:List bX):Prop where
 many:us.length<=2^20
 items:oM us<=2^20
 num:∀ u,u∈us->∀ x,x∈cv u->x.num<4294967296/\∀ t,t∈x.ai->t.2<4294967296
 ai:((us.flatMap cv).flatMap (·.ai)).length<=2^20
def Gj.len {us:List bX} (s:Gj us) {u:bX} (hu:u∈us) {x:ct} (hx:x∈cv u):x.ai.length<=2^20:=by
 have h1:x∈us.flatMap cv:=cj9.2 ⟨u,hu,hx⟩;exact ZW (gX (·.ai) h1) s.ai
def HP (of:Xaa->Option ct) (t:Xaa × Nat):ct:=match of t.1 with
 | none=>⟨[t],0⟩
 | some y=>CB y t.2
def fO (of:Xaa->Option ct) (o:ct) (t:Xaa × Nat):ct:=xx o (HP of t)
def ID (l:dc) {m k:dc} (hk:Nf k) (hc:∀ s,cf k s % 4294967296=cf m s % 4294967296):J5 (DW l) k=DW (l++m) :=
 (Q9 (zX l) hk).QK (zX _) fun s=>by
  have h1:=hc s;have h2:=QZ (DW l) k s;have h3:=AF l s;have h4:=AF (l++m) s;rw [JU] at h4;omega
theorem BJ {of:Xaa->Option ct} (j:∀ s y,of s=some y->Nf y.ai):∀ (ts l:dc) (n:Nat),n<4294967296->(∀ t,t∈ts->t.2≠0/\t.2<4294967296) ->
  ts.foldl (fO of) ⟨DW l,n⟩=⟨DW (l++ts.flatMap (rh of)),ts.foldl (gh of) n⟩
 | [],l,n,_,_=>aj
 | t::ts,l,n,hn,J=>by
  have h1:fO of ⟨DW l,n⟩ t=⟨DW (l++rh of t),gh of n t⟩/\gh of n t<4294967296:=by
   have G:=J t aj;unfold fO HP rh gh xx;cases O:of t.1 with
   | none =>
    refine ⟨?_,hn⟩;simp only [Nat.add_zero];rw [bo9 hn]
    congr 1
    exact ID l ⟨aj,by simpa using G⟩ fun s=>rfl
   | some y =>
    refine ⟨?_,ct9 _ bZ⟩;unfold CB;simp only;rw [cw9 y.num t.2]
    congr 1
    refine ID l (Jq (j _ _ O)) fun s=>?_
    rw [Kv]
    have:=Dl t.2 y.ai s
    rw [<- this]
    congr 2
    exact ZM fun p _=>by rw [cw9]
  rw [ZH,h1.1,BJ j ts _ _ h1.2 (fun u hu=>J u (Zd _ hu)),Zr,ZG,ZH]
def VD:DW []=[]:=EE Nf.nil
def DI {of:Xaa->Option ct} (j:∀ s y,of s=some y->Nf y.ai) {x:ct} (hx:Nf x.ai) (hn:x.num<4294967296):x.ai.foldl (fO of) ⟨[],x.num⟩=de of x:=by
 have:=BJ j x.ai [] x.num hn hx.2
 rw [aq9,VD] at this;exact this
def Bh {of:Xaa->Option ct} (j:∀ s y,of s=some y->Nf y.ai) {x:ct} (hx:Nf x.ai) (hn:x.num<4294967296) (i:Nat):(x.ai.take i).foldl (fO of) ⟨[],x.num⟩=de of ⟨x.ai.take i,x.num⟩ :=
 DI (x:=⟨x.ai.take i,x.num⟩) j ⟨hx.1.sublist (List.take_sublist _ _),fun t u=>hx.2 t (Z7 u)⟩ hn
def zH {of:Xaa->Option ct} {x:ct} {t:Xaa × Nat} (O:t∈(de of x).ai):∃ u,u∈x.ai/\((of u.1=none/\t.1=u.1)\/∃ y w,of u.1=some y/\w∈y.ai/\w.1=t.1):=by
 obtain ⟨p,U,G⟩:=DP O;obtain ⟨u,hu,j⟩:=cj9.1 U;refine ⟨u,hu,?_⟩;unfold rh at j;cases J:of u.1 with
 | none =>
  rw [J] at j;simp only [List.mem_singleton] at j;exact Or.inl ⟨rfl,by rw [<- G,j]⟩
 | some y =>
  rw [J] at j;obtain ⟨w,hw,rfl⟩:=Za.1 j;exact Or.inr ⟨y,w,rfl,hw,G⟩
def zI {l:dc} (h:Nf l) {S:List Xaa} (hs:∀ t,t∈l->t.1∈S):l.length<=S.length:=by
 have:=jO (l.map (·.1)) S (Z3.2 (h.1.imp fun h=>jD h)) (fun s j=>by
  obtain ⟨t,u,rfl⟩:=Za.1 j;exact hs t u)
 rwa [Y0] at this
def QL:Option Nat->Int
 | none=>-1
 | some k=>(k:Int)
def TV {es:List cK} {s:Xaa} {i:Nat} (hi:i<es.length) (h:∀ j,(u:j<i)->(es[j]'ad).name≠s) (G:es[i].name=s):kr es s=some i:=by
 unfold kr;rw [Zs];exact ⟨hi,Y6 G,fun j u=>by simpa using h j u⟩
def E0 {h:Hp} {p:Xac} {l c:Nat} {es:List cK} (v:tQ h p l es) (hl:es.length<=2^60) (s:Xaa):we Tryz.prog 101 [.slice p l c,.string s] h (.int .i64 (QL (kr es s))):=by
 refine eC mixed Tryz.func101 ax (nH p l c s) ?_;unfold kb bf bk bH aP aR;have n:=v.len;refine aX (cs:=[(false,[.int .i64]),(false,[.int .i64])]) (fun y m h'=>∃ i:Nat,y.2.1=(i:Int)/\m=es.length-i/\i<=es.length/\h'=h/\∀ j,j<i->(u:j<es.length)->es[j].name≠s) ((0:Int),(0:Int),()) es.length rfl
  ⟨0,rfl,rfl,ad,rfl,fun j u=>absurd u ad⟩ ?_
 rintro ⟨J,X,⟨⟩⟩ m h' ⟨i,hi,rfl,O,rfl,hn⟩;simp only at hi;subst hi;refine an ?_;refine aQ (fun q=>?_) (fun q=>?_)
 ·have G:i<es.length:=ad
  obtain ⟨a,U,hc⟩:=v.cells i G;refine ay ⟨ad,ad⟩ (aw U ?_);rw [show Int.toNat (i:Int)=i from ad];refine az (es[i].name,()) ⟨hc.1,trivial⟩ (an ?_);rw [qv];refine aQ (fun r=>?_) (fun r=>?_)
  ·refine ⟨Zl (Value.int .i64) ?_,rfl⟩;rw [TV G (fun j u=>hn j u ad) r] <;> rfl
  ·refine aH (cs:=[(false,[.int .i64]),(false,[.int .i64])]) (J,((i+1:Nat):Int),()) (es.length-(i+1)) rfl ad (by rw [wrap_i64 ad ad]; rfl) ?_;exact ⟨i+1,rfl,rfl,ad,rfl,fun j u hx=>by
    by_cases e:j=i
    ·subst e; exact r
    ·exact hn j ad hx⟩
 ·have:i=es.length:=ad
  subst this;refine ⟨Zl (Value.int .i64) ?_,rfl⟩;rw [FQ fun d V=>by
   obtain ⟨j,u,rfl⟩:=Zu V;exact hn j u u]
  rfl
end Go.Sx.Lk
namespace Go.Sx
open Go.Proofs
def Ym (a b:Xaa):Op.bytesLess (ByteArray.toList a) (ByteArray.toList b)=decide (hZ a b):=by
 rw [ByteArray.toList_eq,ByteArray.toList_eq,Proofs.bytesLess_eq] <;> rfl
def TJ (h:Hp) (g7:Nat) (x y:dc) (N:Int) (i j:Nat) (h':Hp):Prop :=
 i<=x.length/\j<=y.length/\Ch [g7] h h'/\∃ O p l c f,bF h' g7 69 [.slice p l c,.int .u32 N]/\SL h' h.size 117 2 p l c (O.map df)/\J5 x y=O++fq f (x.drop i) (y.drop j)/\(x.length-i)+(y.length-j)<=f/\O.length<=i+j
def Lq (f:Nat):fq f [] []=[]:=by cases f <;> rfl
def Tc {f:Nat} {p:Xaa × Nat} {x y:dc} (h:y=[]\/∃ q r,y=q::r/\hZ p.1 q.1):fq (f+1) (p::x) y=p::fq f x y:=by
 rcases h with rfl | ⟨q,r,rfl,h⟩
 ·rfl
 ·show (if hZ p.1 q.1 then _ else _)=_;rw [Y8 h]
def TA {f:Nat} {q:Xaa × Nat} {x y:dc} (h:x=[]\/∃ p r,x=p::r/\hZ q.1 p.1):fq (f+1) x (q::y)=q::fq f x y:=by
 rcases h with rfl | ⟨p,r,rfl,h⟩
 ·rfl
 ·show (if hZ p.1 q.1 then _ else if hZ q.1 p.1 then _ else _)=_;rw [Y2 (BW h),Y8 h]
def Pz {f:Nat} {p q:Xaa × Nat} {x y:dc} (h1:¬ hZ p.1 q.1) (h2:¬ hZ q.1 p.1):fq (f+1) (p::x) (q::y)=if (p.2+q.2) % 4294967296=0 then fq f x y else (p.1,(p.2+q.2) % 4294967296)::fq f x y:=by
 show (if hZ p.1 q.1 then _ else if hZ q.1 p.1 then _ else _)=_;rw [Y2 h1,Y2 h2]
def Xl:dc->dc->Bool
 | [],_=>false
 | _::_,[]=>true
 | p::_,q::_=>decide (hZ p.1 q.1)
def EJ {x y:dc} (h:Xl x y=true):∃ p r,x=p::r/\(y=[]\/∃ q s,y=q::s/\hZ p.1 q.1):=by
 cases x with
 | nil=>cases h
 | cons p r =>
  cases y with
  | nil=>exact ⟨p,r,rfl,.inl rfl⟩
  | cons q s=>exact ⟨p,r,rfl,.inr ⟨q,s,rfl,Y5 h⟩⟩
def Cw {x y:dc} (h:Xl x y=false):x=[]\/∃ p r q s,x=p::r/\y=q::s/\¬ hZ p.1 q.1:=by
 cases x with
 | nil=>exact .inl rfl
 | cons p r =>
  cases y with
  | nil=>cases h
  | cons q s=>exact .inr ⟨p,r,q,s,rfl,rfl,Zc h⟩
def yR {α:Type} {l r:List α} {p:α} {i:Nat} (h:l.drop i=p::r):i<l.length:=by
 rcases ZS i l.length with h1 | h1
 ·exact h1
 ·rw [ZZ h1] at h; cases h
def EL {h:Hp} {p q:Xac} {l c m d:Nat} {x y:ct} (v:gW h p l x.ai) (u:gW h q m y.ai) (hp:∀ i,i∈aM p->i<h.size) (hq:∀ i,i∈aM q->i<h.size)
  (hl:x.ai.length+y.ai.length<=2^40) :
  HC Tryz.prog 75 #[iI p l c x,iI q m d y] h fun w h'=>Ext h h'/\∃ p' l' c',w=iI p' l' c' (xx x y)/\SL h' h.size 117 2 p' l' c' ((xx x y).ai.map df):=by
 refine bd (args:=[.agg #[.slice p l c,.int .u32 x.num],.agg #[.slice q m d,.int .u32 y.num]]) mixed Tryz.func75 ax (qj p l c x.num q m d y.num) ?_;unfold lK bf bk bH aP br aG bj aR cn;have hll:=v.len;have hmm:=u.len;refine bm ?_;intro h1 b1 e1 z1;refine bm ?_;intro h2 b2 e2 z2;refine bm ?_;intro h3 b3 e3 z3;have b1:=(b1.ak e2 aj).ak e3 aj;have b2:=b2.ak e3 aj;rw [aE,aE];refine af b1 ((x.num:Int),()) rfl (an ?_);refine af b2 ((y.num:Int),()) rfl (an ?_);refine bm ?_;intro h4 b4 e4 z4;refine ar b4 rfl aj ?_;intro h5 b5 k5 z5;rw [IC] at b5;have b5:bF h5 h3.size 69 [.slice none 0 0,.int .u32 (((x.num+y.num) % 4294967296:Nat):Int)]:=b5;have e35:Ext h3 h5:=bR e4 k5;have b1:=b1.ak e35 aj;have b2:=b2.ak e35 aj;have b3:=b3.ak e35 aj;have e05:=((e1.trans e2).trans e3).trans e35;have hz5:=e05.size;refine aX (cs:=[(false,[.int .i64]),(false,[.int .i64])]) (fun z w h'=>∃ i j:Nat,z.1=(i:Int)/\z.2.1=(j:Int)/\w=(x.ai.length-i)+(y.ai.length-j)/\TJ h5 h3.size x.ai y.ai (((x.num+y.num) % 4294967296:Nat):Int) i j h')
  ((0:Int),(0:Int),()) (x.ai.length+y.ai.length) rfl ⟨0,0,rfl,rfl,rfl,cg9 _,cg9 _,Ch.refl _ _,[],none,0,0,x.ai.length+y.ai.length,b5,SL.nil _ _ _ _,rfl,ad,aj⟩ ?_
 rintro ⟨n1,n2,⟨⟩⟩ w h6 ⟨i,j,hi,hj,rfl,hil,hjl,k6,O,po,lo,co,f,b6,s6,hO,hf,hOl⟩;simp only at hi hj;subst hi hj;refine an ?_;have hb5:=b5.lt;have hz6:=k6.size;have b1:=b1.ak k6 (by simp; omega);have b2:=b2.ak k6 (by simp; omega);have b3:=b3.ak k6 (by simp; omega);have e06:Ext h h6:=bR e05 k6;have v6:=v.ak e06 aj;have u6:=u.ak e06 aj;have hlo:lo=O.length:=by rw [s6.1,Y0]
 have hwi:=iA i;have hwj:=iA j;have X:∀ i,i∈aM po->h5.size<=i:=fun i hi=>(s6.cr hi).1
 have hpm:∀ (k:Nat) (a:Xax) (w:dc) (vs:List Xab),(some a=p\/some a=q)->aI h6 (a.add (k*2)) 0 vs->∀ h',Ch (aM po) h6 h'->aI h' (a.add (k*2)) 0 vs:=fun k a w vs ha hc h' kk=>aT kk (by
  rw [ig];intro hm;have h1:=X _ hm;rcases ha with ha | ha
  ·have:=hp a.block (by rw [<- ha]; simp [aM]); omega
  ·have:=hq a.block (by rw [<- ha]; simp [aM]); omega) _ _ hc
 have push:∀ (t:Xaa × Nat) (i' j':Nat) (h7:Hp) (p7:Xac) (c7:Nat),i'<=x.ai.length->j'<=y.ai.length->i+j+1<=i'+j'->fq f (x.ai.drop i) (y.ai.drop j)=t::fq (f-1) (x.ai.drop i') (y.ai.drop j')->(x.ai.length-i')+(y.ai.length-j')<=f-1 ->
   SL h7 h5.size 117 2 p7 (lo+1) c7 (O.map df++[df t])->Ch (aM po) h6 h7->∀ h8,bF h8 h3.size 69 [.slice p7 (lo+1) c7,.int .u32 (((x.num+y.num) % 4294967296:Nat):Int)]->Ch [h3.size] h7 h8->TJ h5 h3.size x.ai y.ai (((x.num+y.num) % 4294967296:Nat):Int) i' j' h8:=by
  intro t i' j' h7 p7 c7 hi' hj' hij hF hf' s7 Y h8 b8 k8;refine ⟨hi',hj',Ch.trans (Ch.trans k6 Y (fun j hj hl=>by have:=X j hj; omega)) k8 (fun j hj _=>hj),O++[t],p7,lo+1,c7,f-1,b8,?_,?_,hf',by simp; omega⟩
  ·rw [Ze];exact s7.bM k8 (fun j hj=>by have:=(s7.cr hj).1; simp; omega)
  ·rw [hO,hF]; simp
 refine iF (cs:=[(false,[.bool])]) (fun z h'=>z.1=(decide (i<x.ai.length) || decide (j<y.ai.length))/\h6=h') ?_ ?_
 ·refine af b1 ((p,l,c),()) rfl (an ?_);refine aQ (fun g1=>?_) (fun g1=>?_)
  ·refine dM (cs:=[(false,[.bool])]) (true,()) rfl rfl ⟨?_,rfl⟩;rw [Y6 (show i<x.ai.length from ad)] <;> rfl
  ·refine af b2 ((q,m,d),()) rfl (an ?_);refine dM (cs:=[(false,[.bool])]) (decide ((j:Int)<(m:Int)),()) rfl rfl ⟨?_,rfl⟩;rw [Y7 (show ¬ i<x.ai.length from ad),bl9];show decide ((j:Int)<(m:Int))=decide (j<y.ai.length);rw [ci9];omega
 rintro ⟨b10,⟨⟩⟩ h6' ⟨hb10,rfl⟩;simp only at hb10;subst hb10;refine an ?_;refine av (fun g1=>?_) (fun g1=>?_)
 ·simp only [Bool.or_eq_true,decide_eq_true_eq] at g1;obtain ⟨f',rfl⟩:∃ f',f=f'+1:=⟨f-1,ad⟩
  refine iF (cs:=[(false,[.bool])]) (fun z h'=>z.1=Xl (x.ai.drop i) (y.ai.drop j)/\h6=h') ?_ ?_
  ·refine af b2 ((q,m,d),()) rfl (an ?_);refine av (fun g2=>?_) (fun g2=>?_)
   ·have g2:(j:Int)=(m:Int):=by simpa using g2
    refine dM (cs:=[(false,[.bool])]) (true,()) rfl rfl ⟨?_,rfl⟩;rw [show y.ai.drop j=[] from ZZ ad,Zg (l:=x.ai) (i:=i) ad] <;> rfl
   ·have g2:¬ (j:Int)=(m:Int):=by simpa using g2
    have G:j<y.ai.length:=ad
    refine af b1 ((p,l,c),()) rfl (an ?_);refine aQ (fun Z=>?_) (fun Z=>?_)
    ·have J:i<x.ai.length:=ad
     have U:x.ai.drop i=x.ai[i]::x.ai.drop (i+1):=Zg J;have V:y.ai.drop j=y.ai[j]::y.ai.drop (j+1):=Zg G;obtain ⟨a,ha,hc⟩:=v6.cells i J;obtain ⟨a',ha',hc'⟩:=u6.cells j G;subst ha ha';refine af b1 ((some a,l,c),()) rfl (an ?_);refine ay ⟨ad,ad⟩ (aw rfl ?_);rw [show Int.toNat (i:Int)=i from ad];refine az (x.ai[i].1,()) (cT hc).1 (an ?_);refine af b2 ((some a',m,d),()) rfl (an ?_);refine ay ⟨ad,ad⟩ (aw rfl ?_);rw [show Int.toNat (j:Int)=j from ad];refine az (y.ai[j].1,()) (cT hc').1 (an ?_);rw [Ym];refine dM (cs:=[(false,[.bool])]) (decide (hZ x.ai[i].1 y.ai[j].1),()) rfl rfl ⟨?_,rfl⟩;rw [U,V] <;> rfl
    ·refine dM (cs:=[(false,[.bool])]) (false,()) rfl rfl ⟨?_,rfl⟩;rw [show x.ai.drop i=[] from ZZ ad] <;> rfl
  rintro ⟨b11,⟨⟩⟩ h6' ⟨hb11,rfl⟩;simp only at hb11;subst hb11;refine an ?_;refine av (fun g2=>?_) (fun g2=>?_)
  ·obtain ⟨pp,rr,hdd,hor⟩:=EJ g2;have J:=yR hdd;have U:x.ai.drop i=x.ai[i]::x.ai.drop (i+1):=Zg J;rw [U] at hdd;cases hdd;have hF:fq (f'+1) (x.ai.drop i) (y.ai.drop j)=x.ai[i]::fq (f'+1-1) (x.ai.drop (i+1)) (y.ai.drop j):=by
    rw [U];exact Tc hor
   obtain ⟨a,ha,hc⟩:=v6.cells i J;subst ha;refine af b6 ((po,lo,co),()) rfl (an ?_);refine af b1 ((some a,l,c),()) rfl (an ?_);refine ay ⟨ad,ad⟩ (aw rfl ?_);rw [show Int.toNat (i:Int)=i from ad];refine az (x.ai[i].1,(x.ai[i].2:Int),()) hc (an ?_);refine gU (vs:=df x.ai[i]) zn sZ rfl ad ad ax rfl rfl s6 ad ad ad (fun h' e=>⟨(b1.ak e aj).cells _ rfl,(b6.ak e aj).cells _ rfl,trivial⟩) ?_;intro p7 c7 h7 s7 Y hp7;have b17:=b1.ak Y (fun hh=>by have:=X _ hh; omega);have b67:=b6.ak Y (fun hh=>by have:=X _ hh; omega);refine ⟨⟨hpm i a x.ai _ (.inl rfl) hc h7 Y,b17.cells _ rfl,trivial⟩,?_⟩;refine ar b67 rfl aj ?_;intro h8 b8 k8 z8;refine aH (cs:=[(false,[.int .i64]),(false,[.int .i64])]) (((i+1:Nat):Int),(j:Int),()) ((x.ai.length-(i+1))+(y.ai.length-j)) rfl ad (by rw [hwi]; rfl) ⟨i+1,j,rfl,rfl,rfl,?_⟩;exact push _ (i+1) j h7 p7 c7 ad hjl ad hF ad s7 Y h8 b8 k8
  ·have g2:=Cw g2;refine iF (cs:=[(false,[.bool])]) (fun z h'=>z.1=Xl (y.ai.drop j) (x.ai.drop i)/\h6=h') ?_ ?_
   ·refine af b1 ((p,l,c),()) rfl (an ?_);refine av (fun Z=>?_) (fun Z=>?_)
    ·have Z:(i:Int)=(l:Int):=by simpa using Z
     refine dM (cs:=[(false,[.bool])]) (true,()) rfl rfl ⟨?_,rfl⟩;rw [show x.ai.drop i=[] from ZZ ad,Zg (l:=y.ai) (i:=j) ad] <;> rfl
    ·have Z:¬ (i:Int)=(l:Int):=by simpa using Z
     have J:i<x.ai.length:=ad
     have G:j<y.ai.length:=by
      rcases ZS j y.ai.length with h | h
      ·exact h
      ·rcases g2 with g2 | ⟨_,_,_,_,_,g2,_⟩
       ·have:=List.drop_eq_nil_iff.1 g2; omega
       ·rw [ZZ h] at g2; cases g2
     have U:x.ai.drop i=x.ai[i]::x.ai.drop (i+1):=Zg J;have V:y.ai.drop j=y.ai[j]::y.ai.drop (j+1):=Zg G;obtain ⟨a,ha,hc⟩:=v6.cells i J;obtain ⟨a',ha',hc'⟩:=u6.cells j G;subst ha ha';refine af b2 ((some a',m,d),()) rfl (an ?_);refine ay ⟨ad,ad⟩ (aw rfl ?_);rw [show Int.toNat (j:Int)=j from ad];refine az (y.ai[j].1,()) (cT hc').1 (an ?_);refine af b1 ((some a,l,c),()) rfl (an ?_);refine ay ⟨ad,ad⟩ (aw rfl ?_);rw [show Int.toNat (i:Int)=i from ad];refine az (x.ai[i].1,()) (cT hc).1 (an ?_);rw [Ym];refine dM (cs:=[(false,[.bool])]) (decide (hZ y.ai[j].1 x.ai[i].1),()) rfl rfl ⟨?_,rfl⟩;rw [U,V] <;> rfl
   rintro ⟨b12,⟨⟩⟩ h6' ⟨hb12,rfl⟩;simp only at hb12;subst hb12;refine an ?_;refine av (fun Z=>?_) (fun Z=>?_)
   ·obtain ⟨pp,rr,hdd,hor⟩:=EJ Z;have G:=yR hdd;have V:y.ai.drop j=y.ai[j]::y.ai.drop (j+1):=Zg G;rw [V] at hdd;cases hdd;have hF:fq (f'+1) (x.ai.drop i) (y.ai.drop j)=y.ai[j]::fq (f'+1-1) (x.ai.drop i) (y.ai.drop (j+1)):=by
     rw [V];exact TA hor
    obtain ⟨a,ha,hc⟩:=u6.cells j G;subst ha;refine af b6 ((po,lo,co),()) rfl (an ?_);refine af b2 ((some a,m,d),()) rfl (an ?_);refine ay ⟨ad,ad⟩ (aw rfl ?_);rw [show Int.toNat (j:Int)=j from ad];refine az (y.ai[j].1,(y.ai[j].2:Int),()) hc (an ?_);refine gU (vs:=df y.ai[j]) zn sZ rfl ad ad ax rfl rfl s6 ad ad ad (fun h' e=>⟨(b2.ak e aj).cells _ rfl,(b6.ak e aj).cells _ rfl,trivial⟩) ?_;intro p7 c7 h7 s7 Y hp7;have b27:=b2.ak Y (fun hh=>by have:=X _ hh; omega);have b67:=b6.ak Y (fun hh=>by have:=X _ hh; omega);refine ⟨⟨hpm j a y.ai _ (.inr rfl) hc h7 Y,b27.cells _ rfl,trivial⟩,?_⟩;refine ar b67 rfl aj ?_;intro h8 b8 k8 z8;refine aH (cs:=[(false,[.int .i64]),(false,[.int .i64])]) ((i:Int),((j+1:Nat):Int),()) ((x.ai.length-i)+(y.ai.length-(j+1))) rfl ad (by rw [hwj]; rfl) ⟨i,j+1,rfl,rfl,rfl,?_⟩;exact push _ i (j+1) h7 p7 c7 hil ad ad hF ad s7 Y h8 b8 k8
   ·have Z:=Cw Z;have hb:i<x.ai.length/\j<y.ai.length:=by
     rcases g2 with g2 | ⟨_,_,_,_,e1,e2,_⟩
     ·have h1:=List.drop_eq_nil_iff.1 g2;rcases Z with Z | ⟨_,_,_,_,_,e2,_⟩
      ·have h2:=List.drop_eq_nil_iff.1 Z; omega
      ·rw [g2] at e2; cases e2
     ·exact ⟨yR e1,yR e2⟩
    obtain ⟨J,G⟩:=hb;have U:x.ai.drop i=x.ai[i]::x.ai.drop (i+1):=Zg J;have V:y.ai.drop j=y.ai[j]::y.ai.drop (j+1):=Zg G;have n1:¬ hZ x.ai[i].1 y.ai[j].1:=by
     rcases g2 with g2 | ⟨_,_,_,_,e1,e2,hn⟩
     ·rw [U] at g2; cases g2
     ·rw [U] at e1; rw [V] at e2; cases e1; cases e2; exact hn
    have n2:¬ hZ y.ai[j].1 x.ai[i].1:=by
     rcases Z with Z | ⟨_,_,_,_,e1,e2,hn⟩
     ·rw [V] at Z; cases Z
     ·rw [V] at e1; rw [U] at e2; cases e1; cases e2; exact hn
    have hF:fq (f'+1) (x.ai.drop i) (y.ai.drop j)=if (x.ai[i].2+y.ai[j].2) % 4294967296=0 then fq f' (x.ai.drop (i+1)) (y.ai.drop (j+1)) else (x.ai[i].1,(x.ai[i].2+y.ai[j].2) % 4294967296)::fq f' (x.ai.drop (i+1)) (y.ai.drop (j+1)):=by
     rw [U,V];exact Pz n1 n2
    obtain ⟨a,ha,hc⟩:=v6.cells i J;obtain ⟨a',ha',hc'⟩:=u6.cells j G;subst ha ha';refine af b1 ((some a,l,c),()) rfl (an ?_);refine ay ⟨ad,ad⟩ (aw rfl ?_);rw [show Int.toNat (i:Int)=i from ad];refine az ((x.ai[i].2:Int),()) (cT hc).2 (an ?_);refine af b2 ((some a',m,d),()) rfl (an ?_);refine ay ⟨ad,ad⟩ (aw rfl ?_);rw [show Int.toNat (j:Int)=j from ad];refine az ((y.ai[j].2:Int),()) (cT hc').2 (an ?_);rw [IC];refine iF (cs:=[]) (fun z h'=>TJ h5 h3.size x.ai y.ai (((x.num+y.num) % 4294967296:Nat):Int) (i+1) (j+1) h') ?_ ?_
    ·refine av (fun g4=>?_) (fun g4=>?_)
     ·have g4:¬ (x.ai[i].2+y.ai[j].2) % 4294967296=0:=by
       have:¬ (((x.ai[i].2+y.ai[j].2) % 4294967296:Nat):Int)=0:=by simpa using g4
       omega
      rw [Y2 g4] at hF;refine af b6 ((po,lo,co),()) rfl (an ?_);refine af b1 ((some a,l,c),()) rfl (an ?_);refine ay ⟨ad,ad⟩ (aw rfl ?_);refine az (x.ai[i].1,()) (cT hc).1 (an ?_);refine gU (vs:=df (x.ai[i].1,(x.ai[i].2+y.ai[j].2) % 4294967296)) zn sZ rfl ad ad ax rfl rfl s6 ad ad ad (fun h' e=>⟨aT e aj _ _ (cT hc).1,(b1.ak e aj).cells _ rfl,(b6.ak e aj).cells _ rfl,trivial⟩) ?_;intro p7 c7 h7 s7 Y hp7;have b17:=b1.ak Y (fun hh=>by have:=X _ hh; omega);have b67:=b6.ak Y (fun hh=>by have:=X _ hh; omega);refine ⟨⟨hpm i a x.ai _ (.inl rfl) (cT hc).1 h7 Y,b17.cells _ rfl,trivial⟩,?_⟩;refine ar b67 rfl aj ?_;intro h8 b8 k8 z8;exact dM (cs:=[]) () rfl rfl (push _ (i+1) (j+1) h7 p7 c7 ad ad ad hF ad s7 Y h8 b8 k8)
     ·have g4:(x.ai[i].2+y.ai[j].2) % 4294967296=0:=by
       have:(((x.ai[i].2+y.ai[j].2) % 4294967296:Nat):Int)=0:=by simpa using g4
       omega
      rw [Y8 g4] at hF;exact dM (cs:=[]) () rfl rfl ⟨ad,ad,k6,O,po,lo,co,f',b6,s6,by rw [hO,hF],ad,ad⟩
    ·rintro ⟨⟩ h7 I7;exact aH (cs:=[(false,[.int .i64]),(false,[.int .i64])]) (((i+1:Nat):Int),((j+1:Nat):Int),()) ((x.ai.length-(i+1))+(y.ai.length-(j+1))) rfl ad (by rw [hwi,hwj]; rfl) ⟨i+1,j+1,rfl,rfl,rfl,I7⟩
 ·simp only [Bool.or_eq_false_iff,decide_eq_false_iff_not] at g1;rw [ZZ ad,ZZ ad,Lq,ZQ] at hO;refine af b6 ((po,lo,co),(((x.num+y.num) % 4294967296:Nat):Int),()) rfl (an ?_);refine ar b3 rfl aj ?_;intro h7 b7 Y z7;have b7:bF h7 h2.size 69 [.slice po lo co,.int .u32 (((x.num+y.num) % 4294967296:Nat):Int)]:=b7;refine af b7 ((po,lo,co),(((x.num+y.num) % 4294967296:Nat):Int),()) rfl ?_;refine ⟨bR e06 Y,po,lo,co,rfl,?_⟩;show SL h7 h.size 117 2 po lo co ((J5 x.ai y.ai).map df);rw [hO];exact (s6.bM Y (fun j hj=>by have:=X j hj; simp; omega)).mono ad
end Go.Sx
namespace Go.Sx.Lk
open Go.Proofs Go.Sx.Ob
def R2 (lv:Nat) (a5 j:Xax) (n6:Int):T :=
  T.ah a5 [.slice 117,.int .u32] <| fun (u:Xac) (G:Nat) (J:Nat) (O:Int) =>
  T.ah j [.slice 117,.int .u32] <| fun (U:Xac) (V:Nat) (X:Nat) (Y:Int) =>
  bK 75 [.agg #[.slice u G J,aG O],.agg #[.slice U V X,aG Y]] false [(true,[.slice 117,.int .u32])] <| fun (Z:Xac) (l49:Nat) (l50:Nat) (n51:Int) =>
  T.aC a5 [.slice Z l49 l50,aG n51] <|
  T.again lv [.int .i64 (bt (n6+(1:Int)))]
def FY {L:Lp} {K:Xab->Hp->Prop} {h:Hp} {lv u G O c5 U c6:Nat} {p5 J:Xac} {n6:Int} {o y:ct} (V:bF h u 69 [.slice p5 O c5,.int .u32 o.num]) (X:bF h G 69 [.slice J U c6,.int .u32 y.num])
  (vo:gW h p5 O o.ai) (vy:gW h J U y.ai) (ho:∀ i,i∈aM p5->i<h.size) (hy:∀ i,i∈aM J->i<h.size) (hl:o.ai.length+y.ai.length<=2^40)
  (hk:∀ p' l' c' h',Ch [u] h h'->bF h' u 69 [.slice p' l' c',.int .u32 (xx o y).num]->SL h' h.size 117 2 p' l' c' ((xx o y).ai.map df)->T.again lv [.int .i64 (IntKind.wrap .i64 (n6+(1:Int)))] L K h') :
  R2 lv ⟨u,0,none⟩ ⟨G,0,none⟩ n6 L K h:=by
 unfold R2 bK bt aG;refine af V ((p5,O,c5),(o.num:Int),()) rfl (an ?_);refine af X ((J,U,c6),(y.num:Int),()) rfl (an ?_);refine aJ (EL vo vy ho hy hl) ?_;rintro _ h1 ⟨e1,p',l',c',rfl,s1⟩;refine ⟨((p',l',c'),((xx o y).num:Int),()),rfl,an ?_⟩;refine ar (V.ak e1 aj) rfl aj ?_;intro h2 Y k2 z2;have Y:bF h2 u 69 [.slice p' l' c',.int .u32 ((xx o y).num:Int)]:=Y;have hg:=V.lt;exact hk p' l' c' h2 (Ch.trans (Ch.mono e1 aj) k2 (fun j Z hl=>Z)) Y (s1.bM k2 (fun j Z=>by have:=(s1.cr Z).1; simp; omega))
def VI {h:Hp} {g:Nat} {s:Xaa} {n:Nat} (b:bF h g 117 [.string s,.int .u32 n]):gW h (some ⟨g,0,none⟩) 1 [(s,n)] :=
 ⟨rfl,fun i hi=>by
  have:i=0:=by simpa using hi
  subst this;exact ⟨_,rfl,by rw [aE]; exact b.cells _ rfl⟩⟩
def Bu {es:List cK} {s:Xaa} {k:Nat} (h:kr es s=some k):∃ hk:k<es.length,cw es s=some es[k].x:=by
 have h0:=h;unfold kr at h;rw [Zs] at h;obtain ⟨hk,_⟩:=h;refine ⟨hk,?_⟩;unfold cw cy dk;rw [h0];simp [hk]
def BL {es:List cK} {s:Xaa} (h:kr es s=none):cw es s=none:=by
 unfold cw cy;rw [h,Y2 aj]
def FB {es:List cK} {s:Xaa} {y:ct} (h:cw es s=some y):∃ e,e∈es/\y=e.x:=by
 cases j:kr es s with
 | none=>rw [BL j] at h; cases h
 | some k =>
  obtain ⟨hk,h1⟩:=Bu j;rw [h1] at h;exact ⟨_,Y9 hk,(Zn h).symm⟩
def Iv {es:List cK} {x:ct} {S:List Xaa} (j:∀ t,t∈x.ai->t.1∈S) (G:∀ e,e∈es->∀ t,t∈e.x.ai->t.1∈S):∀ t,t∈(de (cw es) x).ai->t.1∈S:=by
 intro t O;obtain ⟨u,hu,h | ⟨y,w,hy,hw,U⟩⟩:=zH O
 ·rw [h.2]; exact j u hu
 ·obtain ⟨e,J,rfl⟩:=FB hy;rw [<- U]; exact G e J w hw
def IL {h:Hp} {p q:Xac} {l c m d:Nat} {x:ct} {es:List cK} (v:gW h p l x.ai) (u:tQ h q m es) (hp:∀ i,i∈aM p->i<h.size) (hb:∀ e,e∈es->∀ i,i∈aM e.p->i<h.size)
  (hm:es.length<=2^40) (hx:Nf x.ai) (hn:x.num<4294967296) (hes:∀ e,e∈es->Nf e.x.ai) {S:List Xaa} (hS:S.length<=2^30) (hSx:∀ t,t∈x.ai->t.1∈S) (hSe:∀ e,e∈es->∀ t,t∈e.x.ai->t.1∈S) :
  HC Tryz.prog 77 #[iI p l c x,.slice q m d] h fun w h'=>Ext h h'/\∃ p' l' c',w=iI p' l' c' (de (cw es) x)/\SL h' h.size 117 2 p' l' c' ((de (cw es) x).ai.map df):=by
 refine bd (args:=[.agg #[.slice p l c,.int .u32 x.num],.slice q m d]) mixed Tryz.func77 ax (pK p l c x.num q m d) ?_;unfold kI bf bk bH aP cH bK br aG bj aR;have hll:=v.len;have hmm:=u.len;have hof:∀ s y,cw es s=some y->Nf y.ai:=fun s y hy=>by
  obtain ⟨e,he,rfl⟩:=FB hy;exact hes e he
 have hlx:=zI hx hSx;refine bm ?_;intro h1 b1 e1 z1;refine bm ?_;intro h2 b2 e2 z2;have b1:=b1.ak e2 aj;rw [aE];refine af b1 ((x.num:Int),()) rfl (an ?_);refine bm ?_;intro h3 b3 e3 z3;refine ar b3 rfl aj ?_;intro h4 b4 k4 z4;have b4:bF h4 h2.size 69 [.slice none 0 0,.int .u32 (x.num:Int)]:=b4;have e24:Ext h2 h4:=bR e3 k4;have b1:=b1.ak e24 aj;have b2:=b2.ak e24 aj;have e04:=(e1.trans e2).trans e24;have hb4:=b4.lt;have hz04:=e04.size;refine aX (cs:=[(false,[.int .i64])]) (fun y w h'=>∃ (i:Nat) (q:Xac) (m d:Nat),y.1=(i:Int)/\i<=x.ai.length/\w=x.ai.length-i/\Ch [h2.size] h4 h'/\bF h' h2.size 69 [.slice q m d,.int .u32 (((x.ai.take i).foldl (fO (cw es)) ⟨[],x.num⟩).num:Int)] /\
  SL h' h4.size 117 2 q m d (((x.ai.take i).foldl (fO (cw es)) ⟨[],x.num⟩).ai.map df)) ((0:Int),()) x.ai.length rfl ⟨0,none,0,0,rfl,ad,ad,Ch.refl _ _,b4,SL.nil _ _ _ _⟩ ?_
 rintro ⟨n8,⟨⟩⟩ w h5 ⟨i,q5,m5,d5,hi,hile,rfl,k5,b5,s5⟩;simp only at hi;subst hi;refine an ?_;have Z:=b1.ak k5 (by simp; omega);have hz5:=k5.size;have e05:Ext h h5:=bR e04 k5;have v5:=v.ak e05 aj;have u5:=u.ak e05;refine af Z ((p,l,c),()) rfl (an ?_);have hw:=iA i;have hacc:=Bh hof hx hn i;have hal:((x.ai.take i).foldl (fO (cw es)) ⟨[],x.num⟩).ai.length<=S.length:=by
  rw [hacc];exact zI (eX _ _) (Iv (fun t ht=>hSx t (Z7 ht)) hSe)
 refine aQ (fun g1=>?_) (fun g1=>?_)
 ·have U:i<x.ai.length:=ad
  have htk:(x.ai.take (i+1)).foldl (fO (cw es)) ⟨[],x.num⟩=fO (cw es) ((x.ai.take i).foldl (fO (cw es)) ⟨[],x.num⟩) x.ai[i]:=by
   rw [Y3 U,ZY] <;> rfl
  obtain ⟨a,rfl,hc⟩:=v5.cells i U;have htm:=Y9 U;generalize x.ai[i]=t at hc htk htm;generalize hA:(x.ai.take i).foldl (fO (cw es)) ⟨[],x.num⟩=A at b5 s5 hal htk hacc;obtain ⟨c1,c2⟩:=cT hc;have hab:=hp a.block (by simp [aM]);refine af Z ((some a,l,c),()) rfl (an ?_);refine ay ⟨ad,ad⟩ (aw rfl ?_);rw [show Int.toNat (i:Int)=i from ad];refine az (t.1,()) c1 (an ?_);refine ka (E0 u5 ad t.1) ?_;refine af Z ((some a,l,c),()) rfl (an ?_);refine ay ⟨ad,ad⟩ (aw rfl ?_);refine az (t.1,(t.2:Int),()) hc (an ?_);refine km G9 sZ ad ad (GY _ _) ?_;intro h6 b6 e6 z6;refine bm ?_;intro h7 b7 e7 z7;refine ar b7 rfl aj ?_;intro h8 b8 k8 z8;have b8:bF h8 h6.size 69 [.slice (some ⟨h5.size,0,none⟩) 1 1,.int .u32 ((0:Nat):Int)]:=b8;have G:Ext h5 h8:=bR (e6.trans e7) k8;have b68:=b6.ak (bR e7 k8:Ext h6 h8) aj;have b58:=b5.ak G aj;have b18:=Z.ak G aj;have s8:=s5.bM G (fun j J=>aj)
  have V:∀ y:ct,HP (cw es) t=y->∀ p' l' c' h',Ext h5 h8->∀ h9,Ch [h6.size] h8 h9->Ch [h2.size] h9 h'->bF h' h2.size 69 [.slice p' l' c',.int .u32 (xx A y).num] ->
    SL h' h9.size 117 2 p' l' c' ((xx A y).ai.map df)->Ch [h2.size] h4 h'/\bF h' h2.size 69 [.slice p' l' c',.int .u32 (((x.ai.take (i+1)).foldl (fO (cw es)) ⟨[],x.num⟩).num:Int)] /\
     SL h' h4.size 117 2 p' l' c' (((x.ai.take (i+1)).foldl (fO (cw es)) ⟨[],x.num⟩).ai.map df):=by
   intro y hy p' l' c' h' _ h9 e9 k9 b9 s9;rw [htk];unfold fO;rw [hy]
   have:=G.size
   have:=e9.size
   exact ⟨Ch.trans (Ch.trans (Ch.trans k5 G aj) e9 (fun j J hl=>by simp at J; omega)) k9 (fun j J _=>J),b9,s9.mono ad⟩
  refine aQ (fun g2=>?_) (fun g2=>?_)
  ·cases O:kr es t.1 with
   | none=>rw [O] at g2; exact absurd g2 (by unfold QL; decide)
   | some k =>
    obtain ⟨hk,hlo⟩:=Bu O;obtain ⟨ae,rfl,hce⟩:=(u5.ak G).cells k hk;have X:=Y9 hk;have vy:=(u5.ak G).fw _ X;generalize es[k]=e at hce X vy hlo;have hble:=hb e X;have hyl:=zI (hes e X) (hSe e X);refine ay ⟨by show (0:Int)<=(k:Int); omega,by show (k:Int)<_; omega⟩ (aw rfl ?_);rw [show Int.toNat (QL (some k))=k from Int.toNat_natCast k];refine az ((e.p,e.l,e.c),(e.x.num:Int),()) ⟨by rw [add_add]; exact hce.2.1,by rw [add_add]; exact hce.2.2.1,trivial⟩ ?_;refine an ?_;refine af b18 ((some a,l,c),()) rfl (an ?_);refine ay ⟨ad,ad⟩ (aw rfl ?_);refine az ((t.2:Int),()) (aT G aj _ _ c2) (an ?_)
    have:=G.size
    refine aJ (Ha vy ad (fun j J=>by have:=hble j J; omega) t.2) ?_;rintro _ h9 ⟨e9,p9,l9,c9,rfl,s9⟩;refine ⟨((p9,l9,c9),((CB e.x t.2).num:Int),()),rfl,an ?_⟩;refine ⟨⟨(b18.ak e9 aj).cells _ rfl,trivial⟩,?_⟩;refine ar (b8.ak e9 aj) rfl aj ?_;intro h10 b10 k10 z10;have b10:bF h10 h6.size 69 [.slice p9 l9 c9,.int .u32 ((CB e.x t.2).num:Int)]:=b10;have k810:Ch [h6.size] h8 h10:=Ch.trans (Ch.mono e9 aj) k10 (fun j J hl=>J);have Y:Ext h5 h10:=bR G k810;refine FY (lv:=0) (o:=A) (y:=CB e.x t.2) (b5.ak Y aj) b10 (s5.bM Y (fun j J=>aj)).RP (s9.bM k10 (fun j J=>by have:=(s9.cr J).1; simp; omega)).RP
     (fun j J=>by have:=(s5.cr J).2; have:=Y.size; omega) (fun j J=>by have:=(s9.cr J).2; omega) (by have:=A7 t.2 e.x.ai; show A.ai.length+(fo t.2 e.x.ai).length<=_; omega) ?_
    intro p' l' c' h11 k11 b11 s11;obtain ⟨r1,r2,r3⟩:=V (CB e.x t.2) (by unfold HP; rw [hlo]) p' l' c' h11 G h10 k810 k11 b11 s11;exact aH (cs:=[(false,[.int .i64])]) (((i+1:Nat):Int),()) (x.ai.length-(i+1)) rfl ad (Zl (fun z=>[Value.int .i64 z]) hw) ⟨i+1,p',l',c',rfl,ad,rfl,r1,r2,r3⟩
  ·have O:kr es t.1=none:=by
    cases O:kr es t.1 with
    | none=>rfl
    | some k=>rw [O] at g2; exact absurd (show (0:Int)<=((k:Nat):Int) from ad) g2
   refine FY (lv:=0) (o:=A) (y:=⟨[t],0⟩) b58 b8 s8.RP (VI b68) (fun j J=>by have:=(s5.cr J).2; have:=G.size; omega) (fun j J=>by simp [aM] at J; have:=G.size; have:=b68.lt; omega) (by show A.ai.length+1<=_; omega) ?_;intro p' l' c' h11 k11 b11 s11;obtain ⟨r1,r2,r3⟩:=V ⟨[t],0⟩ (by unfold HP; rw [BL O]) p' l' c' h11 G h8 ((Ch.refl [h6.size] h8)) k11 b11 s11;exact aH (cs:=[(false,[.int .i64])]) (((i+1:Nat):Int),()) (x.ai.length-(i+1)) rfl ad (Zl (fun z=>[Value.int .i64 z]) hw) ⟨i+1,p',l',c',rfl,ad,rfl,r1,r2,r3⟩
 ·have hi:i=x.ai.length:=ad
  subst hi;rw [ZA,DI hof hx hn] at b5 s5;refine af b5 ((q5,m5,d5),((de (cw es) x).num:Int),()) rfl (an ?_);refine ar (b2.ak k5 (by simp; omega)) rfl aj ?_;intro h7 b7 k7 z7;have b7:bF h7 h1.size 69 [.slice q5 m5 d5,.int .u32 ((de (cw es) x).num:Int)]:=b7;refine af b7 ((q5,m5,d5),((de (cw es) x).num:Int),()) rfl ?_;exact ⟨bR e05 k7,q5,m5,d5,rfl,(s5.bM k7 (fun j J=>by have:=(s5.cr J).1; simp; omega)).mono ad⟩
end Go.Sx.Lk
