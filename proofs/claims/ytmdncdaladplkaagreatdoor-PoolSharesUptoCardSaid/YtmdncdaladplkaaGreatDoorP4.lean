/- Contracts over heaps, part 4. Condition: as each statement says. -/
import Derived.Test.YtmdncdaladplkaaGreatDoorP3
import Derived.Test.YtmdncdaladplkaaGreatDoorSxK
import Derived.Test.YtmdncdaladplkaaGreatDoorBtF
set_option linter.all false
set_option maxRecDepth 100000
set_option maxHeartbeats 4000000
namespace Go.Sx
open Go.Proofs
variable {O:Xac} {H V Y:Nat}
def qG {P:Program} {h:Hp} {L:Lp} {K:Xab->Hp->Prop} {k:Xac->Nat->Nat->T} {t n e:TypeId} {z:Xab} {sz by':Nat} (ht:P.underlying t=some (.slice e)) (d:(P.info? e).map (fun i=>(i.zero,i.size,i.bytes))=some (some z,sz,by'))
  (o:z.cells.size=sz) {ys:List (List Xab)} (g:(O=none/\ys=[])\/∃ a,O=some a/\aH h a 0 ys.flatten) (hl:H=ys.length) (r:∀ y,y∈ys->y.length=sz) (s:ys.flatten.all dr=true) (u:(2*H+1024)*by'<=2^48) (w:H<=2^48)
  (hk:∀ p' c' h',SL h' h.size e sz p' H c' ys->Ext h h'->k p' H c' L K h') :
  T.eH P (Instr.buildSlice t 0 #[]) false [(false,[.slice 0])] (fun q m C=>T.eH P (Builtin.append_ #[t,t] n #[.slice q m C,.slice O H V]) false [(false,[.slice 0])] k) L K h:=by
 obtain ⟨i,hi,E,rfl,rfl⟩:=pO d;refine dA ?_;unfold Instr.buildSlice;rw [av,aC ht];simp only;rw [av,cd hi,cS hi];rw [ac9 ad,ag9 ad];simp only [Nat.zero_mul,pure_bind];have F:∀ (f:Nat->Option (Nat × Nat)) (b:Array Xab),Instr.fill f b []=some b:=fun f b=>rfl
 have G:Array.map (fun x=>(#[]:Array Xab)[x % (#[]:Array Xab).size]!) (Array.range 0)=#[]:=aj
 rw [F,G];show ∃ Q R S,_/\_
 refine ⟨_,_,_,rfl,?_⟩;have D:SL (h.push (.cells #[] e)) h.size e i.size (some ⟨h.size,0,none⟩) 0 0 []:=⟨rfl,aj,h.size,[],[],rfl,aq9 _,ad,bC.new h e [],aj⟩
 have A:Ext h (h.push (.cells #[] e)):=Ext.push _ _;refine dA ?_;rcases g with ⟨rfl,rfl⟩ | ⟨a,rfl,hc⟩
 ·have B:H=0:=hl;subst B;simp [Builtin.append_,av,aC ht,cd hi,Builtin.lenOf,Builtin.firstCells,storeCells];exact ⟨_,_,_,rfl,hk _ _ _ D A⟩
 ·have:=pD (P:=P) (h:=h.push (.cells #[] e)) (K:=fun v h'=>∃ O H V,v=.slice O H V/\k O H V L K h') (ty:=n) (ys:=ys) ht hi E o D hl r (aM A aj _ _ hc) s (by simpa using u) (by simpa using w) aj (cc:=V) ?_
  ·exact this
  ·intro p' c' h2 I J M;rw [bu9,dj9] at *;exact ⟨p',H,c',rfl,hk p' c' h2 I (Ch.trans A J fun j N hl=>by simp [aJ] at N; omega)⟩
variable {U:Hp}
def J6 {us:dt} (v:iD U O H us):(O=none/\us.map dp=[])\/∃ a,O=some a/\aH U a 0 (us.map dp).flatten:=by
 cases O with
 | none =>
  left
  refine ⟨rfl,?_⟩;cases us with
  | nil=>rfl
  | cons u us =>
   obtain ⟨a,b,_⟩:=v.cells 0 aj;cases b
 | some a=>exact .inr ⟨a,rfl,v.flat⟩
def P4 (us:dt):∀ y,y∈us.map dp->y.length=2:=by
 intro y a;obtain ⟨u,_,rfl⟩:=an9.1 a;rfl
def HW {c:Nat} {us:dt} (v:iD U O H us) (hl:us.length<=2^40) :
  HC Xaz 65 #[.slice O H c] U fun w h'=>(∃ p' l' c',w=.slice p' l' c'/\SL h' U.size 64 2 p' l' c' (us.map dp))/\Ext U h':=by
 refine bd (args:=[.slice O H c]) mixed Tryz.func65 ax (gy O H c) ?_;unfold eF bn bg;have hll:=v.len;cases O with
 | none =>
  rcases J6 v with ⟨_,h2⟩ | ⟨a,b,_⟩
  ·refine cj rfl ?_;refine ⟨⟨none,0,0,rfl,?_⟩,Ch.refl _ _⟩;rw [h2];exact SL.nil _ _ _ _
  ·cases b
 | some a =>
  refine cg rfl ?_;refine qG (e:=64) (z:=.agg #[.string ⟨#[]⟩,.int .u32 0]) (sz:=2) (by':=24) AK uq rfl (J6 v) (by simpa using hll) (P4 us) (IF us) ad ad ?_;intro p' c' h' f g;exact ⟨⟨p',H,c',rfl,f⟩,g⟩
structure rW (h:Hp) (b:Nat) (p:Xac) (l c:Nat) (ms:List cV):Prop where
 out:SL h b 116 3 p l c (ms.map A0)
 fC:∀ m,m∈ms->SL h b 64 2 m.p m.l m.c (m.x.ah.map dp)
 ap:ms.Pairwise fun x y=>∀ i,i∈aJ x.p->∀ j,j∈aJ y.p->i<j
 dj:∀ m,m∈ms->∀ j,j∈aJ m.p->j∉aJ p
def rW.an {ws:List Nat} {h':Hp} {ms:List cV} (o:rW U H O V Y ms) (k:Ch ws U h') (a:∀ i,i∈ws->i<H\/U.size<=i):rW h' H O V Y ms :=
 ⟨o.out.bK k (fun i hi U=>by have:=o.out.cB hi; have:=a i U; omega),fun m d=>(o.fC m d).bK k (fun i hi U=>by have:=(o.fC m d).cB hi; have:=a i U; omega),o.ap,o.dj⟩
def Ec {ms:List cV} (o:rW U H O V Y ms):uV U O V ms :=
 ⟨by rw [o.out.1,ab9],fun i hi=>by
  obtain ⟨a,d,hc⟩:=o.out.cells (i:=i) (by simpa using hi);rw [am9] at hc;exact ⟨a,d,hc⟩,fun m e=>xP (o.fC m e)⟩
def Du:Tryz.prog.underlying 67=some (.slice 116):=ax
def MP:(Tryz.prog.info? 116).map (fun i=>(i.zero,i.size,i.bytes))=some (some (.agg #[.string ⟨#[]⟩,.slice none 0 0,.int .u32 0]),3,48):=ax
def rW.push {h h1:Hp} {p':Xac} {l' c':Nat} {ms:List cV} (o:rW h H O V Y ms) {m:cV} (n:SL h H 64 2 m.p m.l m.c (m.x.ah.map dp)) (d:∀ i,i∈aJ m.p->(∀ y,y∈ms->∀ j,j∈aJ y.p->j<i)/\i∉aJ O)
  (q:SL h1 H 116 3 p' l' c' ((ms++[m]).map A0)) (k:Ch (aJ O) h h1) (r:∀ i,i∈aJ p'->i∈aJ O\/h.size<=i):rW h1 H p' l' c' (ms++[m]):=by
 have f:∀ y,y∈ms++[m]->∀ j,j∈aJ y.p->j∉aJ O/\j<h.size:=by
  intro y e j a;rcases ar9.1 e with h | h
  ·exact ⟨o.dj y h j a,((o.fC y h).cB a).2⟩
  ·rw [ai9.1 h] at a;exact ⟨(d j a).2,(n.cB a).2⟩
 refine ⟨q,fun y e=>?_,?_,fun y e j a g=>?_⟩
 ·have hb:=f y e;rcases ar9.1 e with h | h
  ·exact (o.fC y h).bK k fun i hi=>(hb i hi).1
  ·have h:=ai9.1 h;subst h;exact n.bK k fun i hi=>(hb i hi).1
 ·rw [List.pairwise_append];refine ⟨o.ap,List.pairwise_singleton _ _,fun y e z s i hi j a=>?_⟩;rw [ai9.1 s] at a;exact (d j a).1 y e i hi
 ·have:=f y e j a
  rcases r j g with h | h
  ·exact this.1 h
  ·omega
structure aab (r:SF) (es:List cV) (i:Nat) (p:Xac) (l c:Nat) (f:Xaa->Option sO) (ms:List cV) (h:Hp):Prop where
 dn:Vz r h es f
 own:rW h (r.V+1) p l c ms
 ms:ms.map (fun m=>(m.name,m.x))=(es.take i).map (fun e=>(e.name,fq es e.name))
 dd:∀ s y,f s=some y->∀ j,j∈aJ y.p->j∉aJ p
def VM (es:List cV) (h:Hp) (w:Xab) (h':Hp):Prop :=
 (∃ i,∃ hi:i<es.length,kS (dF es) es[i].name/\(∀ j,(a:j<i)->¬ kS (dF es) es[j].name)/\w=.tuple #[.slice none 0 0,vI (i:Int),vI 24]) \/
 ((∀ v,¬ kS (dF es) v)/\∃ p' l' c' ms,w=.tuple #[.slice p' l' c',vI 0,vI 0]/\rW h' h.size p' l' c' ms/\ms.map (fun m=>(m.name,m.x))=es.map (fun e=>(e.name,fq es e.name)))
abbrev YU:List ep:=[(false,[.slice 0]),(false,[.int .i64]),(false,[.int .i64]),(false,[.int .i64])]
def G7 {p:Xac} {c:Nat} {es:List cV} (v:uV U p H es) (Y:uC es) (hp:∀ i,i∈aJ p->i<U.size) (hlen:es.length<=2^20) :
  HC Xaz 37 #[.slice p H c] U fun w h'=>VM es U w h'/\Ext U h':=by
 refine bd (args:=[.slice p H c]) mixed Tryz.func37 ax (Cl p H c) ?_;unfold yS aY bh bt aI bP fh bn bQ aF bG bg cm aQ cY;have hown:=dV es;have hll:=v.len;refine br ?_;intro h1 b1 e1 z1;refine az b1 ((p,H,c),()) (ao ?_);refine aK (JK (c:=c) (v.an e1) Y.toEqsOk (fun i hi=>by have:=hp i hi; omega)) ?_;rintro _ h2 ⟨⟨g,n,rfl,mB,hg⟩,e2⟩;refine ⟨(some g,()),rfl,ao ?_⟩;have hback:=Jq (succ:=cU (dB es)) Y.nodup (fun s=>(hown s).1);generalize (H3 (cF es) (cU (dB es)) (aX es)).back=back at mB hback;have b2:=b1.an e2 aj;have e02:=e1.trans e2;refine az b2 ((p,H,c),()) (ao ?_);refine aT (cs:=YU) (fun x w h'=>∃ i:Nat,x.2.2.2.1=(i:Int)/\i<=es.length/\w=es.length-i/\(∀ j,(d:j<i)->∀ hl:j<es.length,¬ kS (dF es) es[j].name)/\Ext h2 h') ((none,0,0),(0:Int),(0:Int),(0:Int),()) es.length rfl ⟨0,rfl,ad,ad,fun j d=>ad,Ch.refl _ _⟩ ?_;rintro ⟨⟨p9,l10,l11⟩,n12,n13,n14,⟨⟩⟩ w h3 ⟨i,hi,hile,rfl,Z,e3⟩;simp only at hi;subst hi;refine ao ?_;have e03:=e02.trans e3;refine aR ?_ ?_<;>intro g1
 ·have q:i<es.length:=ad
  refine hZ ?_;obtain ⟨a,ha,hc⟩:=(v.an e03).cells i q;refine bm ha ?_;rw [cr i];have hes:∀ s,kS (dF es) es[i].name↔kS (dF es) es[i].name:=fun s=>Iff.rfl
  generalize hee:es[i]=e at hc hes;refine ay (e.name,(e.p,e.l,e.c),(e.x.num:Int),()) hc (ao ?_);refine br ?_;intro h4 b4 e4 z4;refine bR b4 ?_;intro h5 b5 k5 z5;have b5:bC h5 h3.size 116 [.string e.name,.slice e.p e.l e.c,.int .u32 e.x.num]:=b5;have e35:Ext h3 h5:=bY e4 k5;refine az b5 (e.name,()) (ao ?_);refine Ps ((mB.an e3 aj).an e35 aj) e.name ?_;refine aw ?_ ?_<;>intro L
  ·have L:(back e.name).getD false=true:=L;refine ⟨.inl ⟨i,q,?_,fun j d=>Z j d ad,rfl⟩,e03.trans e35⟩;rw [hee];exact (hback _).1 L
  ·have L:(back e.name).getD false=false:=L;have hw:=ic i;refine aG (cs:=YU) ((p9,l10,l11),n12,n13,((i+1:Nat):Int),()) (es.length-(i+1)) rfl ad (by rw [hw]; rfl) ⟨i+1,rfl,ad,rfl,fun j d hl=>?_,e3.trans e35⟩
   by_cases hji:j=i
   ·subst hji;rw [hee];intro hc
    have:=(hback _).2 hc
    rw [L] at this; cases this
   ·exact Z j ad hl
 ·have hc:∀ v,¬ kS (dF es) v:=by
   intro s hs;obtain ⟨j,d,hjs⟩:=bg9 ((hown s).1 hs.UL);have hj':j<es.length:=by simpa [aX] using d
   have:es[j].name=s:=by rw [<- hjs]; simp [aX]
   exact Z j ad hj' (by rw [this]; exact hs)
  have b3:=b2.an e3 aj;refine az b3 ((p,H,c),()) (ao ?_);refine aK (Bd (v.an e03) Y.len Y.nodup Y.sz) ?_;rintro _ h4 ⟨⟨gA,rfl,mA,hgA⟩,e4⟩;refine ⟨(some gA,()),rfl,ao ?_⟩;have hgA4:=mA.lt;refine br ?_;intro h5 b5 e5 z5;refine bR b5 ?_;intro h6 b6 k6 z6;have b6:bC h6 h4.size 105 [.map (some gA)]:=b6;have e46:Ext h4 h6:=bY e5 k6;refine zI (en:=eL) ?_;intro h7 m7 e7 z7;refine br ?_;intro h8 b8 e8 z8;refine bR b8 ?_;intro h9 b9 k9 z9;have b9:bC h9 h7.size 165 [.map (some h6.size)]:=b9;have e79:Ext h7 h9:=bY e8 k9;refine br ?_;intro h10 b10 e10 z10;refine bR b10 ?_;intro h11 b11 k11 z11;have R:Ext h9 h11:=bY e10 k11;have e711:=e79.trans R;have e611:=e7.trans e711;have e411:=e46.trans e611;have e011:=(e03.trans e4).trans e411;have hz4:=e4.size;have hz3:=e3.size;have hz2:=e2.size;generalize hr:(⟨U.size,gA,h4.size,h6.size,h7.size,h9.size⟩:SF)=r;have ho:r.ord:=by
   subst hr;unfold SF.ord;dsimp only;omega
  have hrE:r.E=U.size:=by subst hr; rfl
  have hrV:r.V+1=h11.size:=by subst hr; dsimp only; omega
  have hrV':r.V=h9.size:=by subst hr; rfl
  have hrD:r.gD=h6.size:=by subst hr; rfl
  have co:XC r h11 es p H c:=by
   subst hr;exact ⟨(b3.an (e4.trans e411) aj),b6.an e611 aj,⟨_,mA.an e411 aj⟩,b11,b9.an R aj,v.an e011⟩
  have dn:Vz r h11 es (fun _=>none):=⟨⟨0,(by rw [hrD]; exact m7.an e711 aj),fun s y hy=>by cases hy⟩,fun s y hy=>by cases hy⟩
  have lo:LoS r es p:=⟨ho,fun i hi=>by rw [hrE]; exact hp i hi,fun e he hne i hi=>by rw [hrE]; exact (v.fC e he).Xr hne i hi⟩
  have o':=ho;unfold SF.ord at o';rw [show (⟨U.size,0,none⟩:Xax)=bx r.E by rw [hrE],show (⟨h9.size,0,none⟩:Xax)=bx r.V by rw [hrV']];refine az co.bE ((p,H,c),()) (ao ?_);refine aT (cs:=lM) (fun x w h'=>∃ (i:Nat) (p':Xac) (l' c':Nat) (f:Xaa->Option sO) (ms:List cV),x.1=(p',l',c')/\x.2.1=(i:Int)/\i<=es.length/\w=es.length-i/\aab r es i p' l' c' f ms h'/\Ch [r.gD] h11 h')
   ((none,0,0),(0:Int),()) es.length rfl ⟨0,none,0,0,_,[],rfl,rfl,ad,ad,⟨dn,⟨SL.nil _ _ _ _,aj,List.Pairwise.nil,aj⟩,rfl,fun s y hy=>by cases hy⟩,Ch.refl _ _⟩ ?_
  rintro ⟨⟨p26,M,l28⟩,n29,⟨⟩⟩ w D ⟨i,p',l',c',f,ms,hx,hi,hile,rfl,u,N⟩;simp only at hx hi;obtain ⟨rfl,rfl,rfl⟩:=hx;subst hi;refine ao ?_;have co12:=co.an lo N;have hz12:=N.size;have hmsl:ms.length=i:=by have:=as9 List.length u.ms; simp at this; omega
  refine aR ?_ ?_<;>intro L
  ·have q:i<es.length:=ad
   refine hZ ?_;obtain ⟨a,ha,hcc⟩:=co12.vw.cells i q;refine bm ha ?_;rw [cr i];have O:es.take (i+1)=es.take i++[es[i]]:=ae9 q;have A:es[i].name∈aX es:=bc9 (al9 q);generalize es[i]=e at hcc O A;refine ay (e.name,(e.p,e.l,e.c),(e.x.num:Int),()) hcc (ao ?_);refine br ?_;intro h13 b13 e13 z13;refine bR b13 ?_;intro h14 P k14 z14;have P:bC h14 D.size 116 [.string e.name,.slice e.p e.l e.c,.int .u32 e.x.num]:=P;have o:Ext D h14:=bY e13 k14;have co14:=co12.an lo (o.mono aj);have dn14:=u.dn.ext o;have own14:=u.own.an o aj;refine az co14.bV (.func (.func 63) #[] r.uJ.toArray,()) (ao ?_);refine az P (e.name,()) (ao ?_);refine wQ (cap:=r.uJ) VX rfl (OS Y lo hc (aX es).length e.name (Jw hown hc A) A h14 f co14 dn14) ?_;rintro _ F ⟨y,f15,rfl,hyx,S,hfy,sb15,W,G⟩;refine ⟨((y.p,y.l,y.c),(y.x.num:Int),()),rfl,ao ?_⟩;have own15:=own14.an G (fun i hi=>.inl (by simp at hi; omega));have co15:=co14.an lo G;have hz15:=G.size;have b15:=P.an G (by simp; omega);obtain ⟨n15,m15⟩:=S.map;have hyv:=m15.fC _ y hfy;refine br ?_;intro h16 b16 e16 z16;refine bR b16 ?_;intro h17 I k17 z17;have I:bC h17 F.size 53 [.slice y.p y.l y.c,.int .u32 (y.x.num:Int)]:=I;have t:Ext F h17:=bY e16 k17;have b1417:=b15.an t aj;refine az b1417 (e.name,()) (ao ?_);refine az I ((y.p,y.l,y.c),()) (ao ?_);rw [aE];refine az I ((y.x.num:Int),()) (ao ?_);have hyl:y.x.ah.length<=2^20:=by rw [hyx]; exact Y.Fz hc A
   refine aK (HW (c:=y.c) (hyv.an t aj) ad) ?_;rintro _ h18 ⟨⟨pc,lc,cc,rfl,sc⟩,Q⟩;refine ⟨((pc,lc,cc),()),rfl,ao ?_⟩;have e1518:=t.trans Q;have own18:=own15.an e1518 aj;have b1418:=b1417.an Q aj;have b1718:=I.an Q aj;have dn18:=S.ext e1518;have hz17:=t.size;have hz18:=Q.size;have stB:∀ h',bC h' D.size 116 [.string e.name,.slice e.p e.l e.c,.int .u32 e.x.num]->bC h' F.size 53 [.slice y.p y.l y.c,.int .u32 (y.x.num:Int)]->T.B7 h' [(⟨F.size,0+1,none⟩,[.int .u32 (y.x.num:Int)]),(⟨F.size,0,none⟩,[.slice y.p y.l y.c]),(⟨D.size,0,none⟩,[.string e.name])] :=
    fun h' b1 b2=>⟨b2.cells _ rfl,b2.cells _ rfl,b1.cells _ rfl,trivial⟩
   refine ⟨⟨b1718.cells _ rfl,b1418.cells _ rfl,trivial⟩,?_⟩;have hol:M=ms.length:=by rw [u.own.out.1,ab9]
   refine gR (vs:=A0 ⟨e.name,pc,lc,cc,y.x⟩) Du MP rfl ad ad ax rfl rfl own18.out ad ad ad (fun h' ex=>stB h' (b1418.an ex aj) (b1718.an ex aj)) ?_;intro p' c' h19 s19 B hp19;have C:∀ j,j∈aJ p26->r.V<j/\j<D.size:=fun j d=>by have:=u.own.out.cB d; omega
   refine ⟨stB h19 (b1418.an B (fun d=>by have:=C _ d; omega)) (b1718.an B (fun d=>by have:=C _ d; omega)),?_⟩;have hw:=ic i;have J:∀ j,j∈aJ p'->j∈aJ p26\/h18.size<=j:=by
    intro j d;rcases hp19 with U | ⟨a,U,hle⟩
    ·rw [U] at d; exact .inl d
    ·rw [U] at d; simp [aJ] at d; subst d; exact .inr hle
   refine aG (cs:=lM) ((p',M+1,c'),((i+1:Nat):Int),()) (es.length-(i+1)) rfl ad (by rw [hw]; rfl)
    ⟨i+1,p',M+1,c',f15,ms++[⟨e.name,pc,lc,cc,y.x⟩],rfl,rfl,ad,rfl,⟨?_,?_,?_,fun s z X j d K=>?_⟩,?_⟩
   ·obtain ⟨n18,m18⟩:=dn18.map;refine ⟨⟨n18,m18.an B (fun d=>by have:=C _ d; omega) (fun s z X j d=>?_)⟩,fun s z X=>?_⟩
    ·rcases W s z X with U | U
     ·exact u.dd s z U j d
     ·intro K
      have:=U j d
      have:=C j K
      have:=o.size
      omega
    ·obtain ⟨a,b,c⟩:=dn18.of s z X;refine ⟨a,b,fun i hi=>?_⟩
     have:=c i hi
     have:=B.size
     omega
   ·refine own18.push (m:=⟨e.name,pc,lc,cc,y.x⟩) (sc.mono ad) (fun j d=>?_) (by simpa using s19) B J;have hj2:=sc.cB d;refine ⟨fun z X k hk=>?_,fun K=>?_⟩
    ·have:=((own15.fC z X).cB hk).2
     omega
    ·have:=C j K
     have:=o.size
     omega
   ·rw [ao9,u.ms,O,ao9];show _++[(e.name,y.x)]=_;rw [hyx] <;> rfl
   ·rcases J j K with U | U
    ·rcases W s z X with k | k
     ·exact u.dd s z k j d U
     ·have:=k j d
      have:=C j U
      have:=o.size
      omega
    ·have:=((dn18.of s z X).2.2 j d).2
     omega
   ·refine Ch.trans (Ch.trans (Ch.trans (Ch.trans N o aj) G (fun j d _=>d)) e1518 aj) B (fun j d hl=>?_)
    have:=(u.own.out.cB d).1
    omega
  ·have O:es.take i=es:=bv9 ad;have hms:=u.ms;rw [O] at hms;have hr11:=e011.size;refine ⟨.inr ⟨hc,p26,M,l28,ms,rfl,⟨u.own.out.mono ad,fun m hm=>(u.own.fC m hm).mono ad,u.own.ap,u.own.dj⟩,hms⟩,Ch.trans e011 N (fun j d hl=>?_)⟩;simp at d;omega
def yv (es:List cV) (s:Xaa):Option sO:=((kT es s).bind fun k=>es[k]?).map fun e=>⟨e.p,e.l,e.c,e.x⟩
def yB {es:List cV} {s:Xaa} {y:sO} (h:yv es s=some y):∃ e,e∈es/\e.name=s/\y=⟨e.p,e.l,e.c,e.x⟩/\dB es s=e.x:=by
 unfold yv at h;cases a:kT es s with
 | none=>rw [a] at h; cases h
 | some k =>
  obtain ⟨hk,h1,h2⟩:=pu a;rw [a,dk9,ad9 hk] at h;exact ⟨_,al9 hk,h1,(bb9 h).symm,h2⟩
def LY {es:List cV} {e:cV} (hn:∀ d,d∈es->d.name≠e.name):yv (es++[e])=dT (yv es) e.name ⟨e.p,e.l,e.c,e.x⟩:=by
 funext s
 unfold yv;rw [Hd hn]
 by_cases h:s=e.name
 ·subst h;rw [cK,cK,dk9,bi9 ad]
  simp
 ·rw [cw _ _ h,cw _ _ h];cases a:kT es s with
  | none=>rfl
  | some k =>
   obtain ⟨hk,_,_⟩:=pu a;rw [dk9,dk9,bp9 hk]
def cG (es:List cV) (s:Xaa):Option bM:=if cF es s=true then some (dB es s) else none
def WE (es:List cV):(fun s=>(yv es s).map (·.x))=cG es:=by
 funext s
 unfold cG cF;cases a:kT es s with
 | none=>simp [yv,a]
 | some k =>
  obtain ⟨hk,_,h2⟩:=pu a;simp only [Option.isSome_some,if_true];rw [h2];unfold yv;rw [a,dk9,ad9 hk] <;> rfl
def OT {c:Nat} {x:bM} (v:iD U O H x.ah) {q:Xac} {d:Nat} {es:List cV} (u:uV U q V es) (M:EqsOk es) (het:∀ e,e∈es->e.x.ah.length<=2^20) (htot:(es.flatMap (·.x.ah)).length<=2^39) (hlen:es.length<=2^20) (S:x.ah.length<=2^20) (r:∀ t,t∈x.ah->t.1.size<=maxLen) :
  HC Xaz 38 #[ik O H c x,.slice q V d] U fun w h'=>(∃ p' l' c',w=ik p' l' c' (nl (dz (cG es) x) vj)/\SL h' U.size 64 2 p' l' c' ((nl (dz (cG es) x) vj).ah.map dp))/\Ext U h':=by
 refine bd (args:=[ik O H c x,.slice q V d]) mixed Tryz.func38 ax (E4 O H c x.num q V d) ?_;unfold DW aY bh bt aI bP bQ aF bg cm aQ;have hll:=u.len;refine br ?_;intro h1 b1 e1 z1;refine br ?_;intro h2 b2 e2 z2;refine zI (en:=eL) ?_;intro h3 m3 W z3;have b13:=(b1.an e2 aj).an W aj;have b23:=b2.an W aj;have e03:=(e1.trans e2).trans W;refine aT (cs:=cI) (fun y w h'=>∃ (i n:Nat),y.1=(i:Int)/\i<=es.length/\w=es.length-i/\ej eL h' h2.size (yv (es.take i)) n/\Ch [h2.size] h3 h') ((0:Int),()) es.length rfl
  ⟨0,0,rfl,ad,ad,m3,Ch.refl _ _⟩ ?_
 rintro ⟨n5,⟨⟩⟩ w h4 ⟨i,n,hi,hile,rfl,X,A⟩;simp only at hi;subst hi;refine ao ?_;have b:Ext U h4:=bY e03 A;have hz4:=A.size;refine aR ?_ ?_<;>intro g1
 ·have f:i<es.length:=ad
  refine hZ ?_;obtain ⟨a,ha,hc⟩:=(u.an b).cells i f;refine bm ha ?_;rw [cr i];have C:es.take (i+1)=es.take i++[es[i]]:=ae9 f;have hsz:=M.sz es[i] (al9 f);have D:∀ d,d∈es.take i->d.name≠es[i].name:=by
   intro d E o;obtain ⟨j,F,rfl⟩:=bg9 E;rw [az9] at F;rw [List.getElem_take] at o;have hn:(es.map (·.name)).Nodup:=M.nodup;exact ev9.1 hn j i (by rw [ab9]; omega) (by rw [ab9]; omega) ad (by simpa using o)
  generalize es[i]=e at hc C hsz D;refine ay (e.name,(e.p,e.l,e.c),(e.x.num:Int),()) hc (ao ?_);refine br ?_;intro h5 b5 G z5;refine bR b5 ?_;intro h6 b6 k6 z6;have b6:bC h6 h4.size 116 [.string e.name,.slice e.p e.l e.c,.int .u32 e.x.num]:=b6;have I:Ext h4 h6:=bY G k6;refine az b6 (e.name,()) (ao ?_);rw [aE];refine az b6 ((e.p,e.l,e.c),(e.x.num:Int),()) (ao ?_);refine Ox (X.an I aj) hsz ⟨e.p,e.l,e.c,e.x⟩ ?_;intro h7 m7 N z7;have hw:=ic i;refine aG (cs:=cI) (((i+1:Nat):Int),()) (es.length-(i+1)) rfl ad (as9 (fun z=>[Value.int .i64 z]) hw) ⟨i+1,_,rfl,ad,rfl,by rw [C,LY D]; exact m7,Ch.trans (Ch.trans A I aj) N (fun j F _=>F)⟩
 ·have Y:es.take i=es:=bv9 ad;rw [Y] at X;have b14:=b13.an A (by simp; omega);have b24:=b23.an A (by simp; omega);refine az b14 ((O,H,c),(x.num:Int),()) (ao ?_);have mL:IQ h4 h2.size (yv es) n:=⟨X,fun s y g=>by
   obtain ⟨e,o,_,rfl,_⟩:=yB g;exact (u.fC e o).an b aj⟩
  have k:∀ s y,yv es s=some y->y.x.ah.length<=2^20:=fun s y g=>by
   obtain ⟨e,o,_,rfl,_⟩:=yB g;exact het e o
  have hz0:=b.size
  refine aK (Gi (c:=c) (v.an b aj) mL ad r (fun s y g=>⟨by have:=k s y g; omega,by
    obtain ⟨e,o,_,rfl,_⟩:=yB g;exact M.ts e o⟩) ?_) ?_
  ·have:=qR (of:=fun s=>(yv es s).map (·.x)) (B:=2^20) ad (fun s y g=>by
    cases Z:yv es s with
    | none=>simp only [Z] at g; cases g
    | some z =>
     simp only [Z,Option.map_some,Option.some.injEq] at g;rw [<- g]; exact k s z Z) x.ah
   exact cq9 this (cq9 (cl9 _ S) bT)
  ·rintro _ h5 ⟨⟨p5,l5,c5,rfl,s5⟩,G⟩;rw [WE] at s5 ⊢;have hlp:(dz (cG es) x).ah.length<=2^40:=by
    have hn:=eP (cG es) x;have h1:((dz (cG es) x).ah.map (·.1)).Nodup:=cr9.2 (hn.1.imp fun U=>jX U);have h2:=kb ((dz (cG es) x).ah.map (·.1)) ((x.ah++es.flatMap (·.x.ah)).map (·.1)) h1 (fun s hs=>by
     obtain ⟨t,ht,rfl⟩:=an9.1 hs;rcases pW ht with ⟨O,J,e,_⟩ | ⟨O,y,u,J,ho,K,e⟩
     ·rw [<- e]; exact bc9 (bh9 _ J)
     ·rw [<- e];refine bc9 (br9 _ ?_);unfold cG at ho
      by_cases hw:cF es O.1=true
      ·rw [ag9 hw] at ho;obtain ⟨d,E,_,hx⟩:=kG ((dV es _).1 hw);have ho:=bb9 ho;rw [<- ho,hx] at K;exact ec9.2 ⟨d,E,K⟩
      ·rw [ac9 hw] at ho; cases ho)
    rw [ab9,ab9,af9] at h2;omega
   refine ⟨((p5,l5,c5),((dz (cG es) x).num:Int),()),rfl,ao ?_⟩;have L:∀ t,t∈(dz (cG es) x).ah->t.1.size<=maxLen:=by
    intro t ht;rcases pW ht with ⟨O,J,e,_⟩ | ⟨O,y,u,J,ho,K,e⟩
    ·rw [<- e]; exact r O J
    ·unfold cG at ho
     by_cases hw:cF es O.1=true
     ·rw [ag9 hw] at ho;obtain ⟨d,E,_,hx⟩:=kG ((dV es _).1 hw);have ho:=bb9 ho;rw [<- ho,hx] at K;rw [<- e]; exact M.ts d E u K
     ·rw [ac9 hw] at ho; cases ho
   have ha:=V0 (h:=h5) (p:=p5) (q:=none) (l:=l5) (c:=c5) (m:=0) (d:=0) (x:=dz (cG es) x) (y:=vj) (xP s5) ⟨rfl,fun i hi=>by simp [vj] at hi⟩ (fun i hi=>(s5.cB hi).2) (fun i hi=>by simp [aJ] at hi) (by simpa [vj] using hlp) L (fun t ht=>by simp [vj] at ht);refine aK ha ?_;rintro _ h6 ⟨e6,P,Q,R,rfl,s6⟩;refine ⟨((P,Q,R),((nl (dz (cG es) x) vj).num:Int),()),rfl,ao ?_⟩;have b6:=(b24.an G aj).an e6 aj;have hz5:=G.size;refine bR b6 ?_;intro h7 b7 N z7;have b7:bC h7 h1.size 53 [.slice P Q R,.int .u32 ((nl (dz (cG es) x) vj).num:Int)]:=b7;refine az b7 ((P,Q,R),((nl (dz (cG es) x) vj).num:Int),()) ?_;have e06:=(b.trans G).trans e6;exact ⟨⟨P,Q,R,rfl,(s6.bK N (fun j F=>by have:=(s6.cB F).1; simp; omega)).mono ad⟩,bY e06 N⟩
def zj {x:bM} (h:Nf x.ah) (hn:x.num<4294967296):nl x vj=x:=by
 unfold nl vj;simp only [List.append_nil,Nat.add_zero,Gt h,Nat.mod_eq_of_lt hn]
end Go.Sx
namespace Go.Sx.Ob
open Go.Proofs
abbrev Ky:=Nat × Xaa
def Fv (k:Ky):Xab:=.agg #[vI (k.1:Int),.string k.2]
def ON (b:Bool) (n:Int) (s:Xaa) (h:Hp) (K:Unit->Hp->Prop):aS Xaz (Instr.checkKey b 10000 121 (.agg #[vI n,.string s])) h K=K () h:=ax
def OA:Tryz.prog.underlying 121=some (.struct (vU Xaz 121)):=ax
def V6:Tryz.prog.stoodInHeld 121=false:=ax
def X8 (n m:Int) (s t:Xaa):(vU Xaz 121).all (okF Xaz #[vI n,.string s] #[vI m,.string t])=true:=ax
def Xi (n m:Int) (s t:Xaa):(vU Xaz 121).all (HZ #[vI n,.string s] #[vI m,.string t])=(n==m && (s==t && true)):=by
 rw [<- dd9]
 kernel_rfl
def Zq:wA Xaz 121 Fv where
 check b a h K hk:=by rw [show Fv a=.agg #[vI (a.1:Int),.string a.2] from rfl,ON]; exact hk
 kind:=⟨_,OA,fun a b=>rfl⟩
 eqv a b h K hk:=by
  show aS Xaz (Op.equal 121 (.agg #[vI (a.1:Int),.string a.2]) (.agg #[vI (b.1:Int),.string b.2])) h K;rw [gW OA V6 (X8 _ _ _ _),Xi];have e:decide (a=b)=(((a.1:Nat):Int)==((b.1:Nat):Int) && (a.2==b.2 && true)):=by
   obtain ⟨c,d⟩:=a;obtain ⟨b1,f⟩:=b;show decide ((c,d)=(b1,f))=(((c:Nat):Int)==((b1:Nat):Int) && (d==f && true));rw [sg,cz9];simp only [Prod.mk.injEq]
   by_cases h1:c=b1
   ·by_cases h2:d=f
    ·simp [h1,h2]
    ·simp [h1,h2]
   ·have:¬ ((c:Nat):Int)=b1:=ad
    simp only [h1,false_and,decide_false]
    have:(((c:Nat):Int)==((b1:Nat):Int))=false:=by simpa using this
    rw [this,Bool.false_and]
  rw [<- e];exact hk
 bits a:=by
  show ((2:Nat)==2 && _)=true;simp [Instr.sameBits,Fv,sg]
 inj a b h:=by
  obtain ⟨c,d⟩:=a;obtain ⟨b1,f⟩:=b;simp only [Fv,Value.agg.injEq,Array.mk.injEq,List.cons.injEq,Value.int.injEq,Value.string.injEq,and_true,true_and] at h;rw [Prod.mk.injEq];exact ⟨ad,h.2⟩
def SL.part {P:Program} {L:Lp} {K:Xab->Hp->Prop} {k:T} {h:Hp} {b:Nat} {e:TypeId} {sz:Nat} {p:Xac} {l c:Nat} {xs:List (List Xab)} (s:SL h b e sz p l c xs) {i:Nat} (hi:i<xs.length) {vs:List Xab} {o:Nat} (D:o+vs.length<=sz)
  (u:vs.all dr=true) {a:Xax} (w:p=some a) (hk:∀ h',SL h' b e sz p l c (xs.set i (lK xs[i] o vs))->Ch (aJ p) h h'->h'.size=h.size->k L K h'):T.aD ((a.add (i*sz)).add o) vs k L K h:=by
 subst w;obtain ⟨g,d,rest,rfl,q,r,f,y⟩:=s.2.2;have t:xs[i].length=sz:=s.2.1 _ (al9 hi);have j:(xs.take i).flatten.length=i*sz:=by
  rw [fy _ (fun x j=>s.2.1 x (cv9 j)),az9,dc9 ad]
 have z:xs[i]=xs[i].take o++((xs[i].drop o).take vs.length++xs[i].drop (o+vs.length)):=by
  rw [<- fi9,ce9,ce9]
 have e0:xs.flatten=(xs.take i).flatten++(xs[i]++(xs.drop (i+1)).flatten):=by
  conv=>lhs; rw [<- ce9 i xs,aw9 hi]
  rw [List.flatten_append,eo9]
 have A:d++(xs.flatten++rest)=(d++(xs.take i).flatten++xs[i].take o)++((xs[i].drop o).take vs.length++(xs[i].drop (o+vs.length)++((xs.drop (i+1)).flatten++rest))):=by
  rw [e0]
  conv=>lhs; rw [z]
  simp only [List.append_assoc]
 have lG:lK xs[i] o vs=xs[i].take o++(vs++xs[i].drop (o+vs.length)):=by rw [qE _ _ _ ad,ay9]
 have B:(xs.set i (lK xs[i] o vs)).flatten=(xs.take i).flatten++((lK xs[i] o vs)++(xs.drop (i+1)).flatten):=by
  rw [List.set_eq_take_append_cons_drop,ag9 hi]
  simp
 rw [A] at f;rw [aE,aE];have m:(d++(xs.take i).flatten++xs[i].take o).length=d.length+i*sz+o:=by rw [af9,af9,j,az9,dc9 ad]
 rw [<- m];refine dc f u (by simp; omega) ?_;intro h' n k' C;rw [Ax (by rw [az9,bw9]; omega)] at n;refine hk h' ⟨by rw [cy9]; exact s.1,fun x j=>?_,g,d,rest,rfl,q,r,?_,y⟩ (by simpa [aJ] using k') C
 ·rcases dh9 j with j | rfl
  ·exact s.2.1 x j
  ·rw [nJ]; exact t
 ·rw [B,lG];simpa [List.append_assoc] using n
def Li:Tryz.prog.underlying 104=some (.map 121 3):=ax
def U0:(Tryz.prog.info? 3).bind (·.zero)=some (vI 0):=ax
abbrev H8 (h:Hp) (g:Nat) (f:Ky->Option Nat) (n:Nat):Prop:=fx Fv eI h g f n
section
variable {L:Lp} {K:Xab->Hp->Prop} {h:Hp} {g n:Nat} {f:Ky->Option Nat}
def Ic (m:H8 h g f n) (u:Nat) (s:Xaa) {k:Int->Bool->T} (hk:k (((f (u,s)).getD 0:Nat):Int) (f (u,s)).isSome L K h):T.eH Xaz (Instr.lookup 104 (.map (some g)) (.agg #[vI (u:Int),.string s]) true) true [(false,[.int .i64]),(false,[.bool])] k L K h:=by
 obtain ⟨D,m,a,hn⟩:=m;show aS Xaz (Instr.lookup 104 (.map (some g)) (Fv (u,s)) true) h _;refine oS Zq Li U0 m (u,s) true _ ?_;refine ⟨((((f (u,s)).getD 0:Nat):Int),(f (u,s)).isSome,()),?_,hk⟩;rw [ag9 rfl,oG,a (u,s)]
 all_goals (cases f (u,s) <;> rfl)
variable {H:Int->T}
def WT (m:H8 h g f n) (u:Nat) (s:Xaa) (hk:H (((f (u,s)).getD 0:Nat):Int) L K h):T.eH Xaz (Instr.lookup 104 (.map (some g)) (.agg #[vI (u:Int),.string s]) false) false [(false,[.int .i64])] H L K h:=by
 obtain ⟨D,m,a,hn⟩:=m;show aS Xaz (Instr.lookup 104 (.map (some g)) (Fv (u,s)) false) h _;refine oS Zq Li U0 m (u,s) false _ ?_;refine ⟨((((f (u,s)).getD 0:Nat):Int),()),?_,hk⟩;simp only [Bool.false_eq_true,if_false];rw [oG,a (u,s)]
 all_goals (cases f (u,s) <;> rfl)
def UX (m:H8 h g f n) (u:Nat) (s:Xaa) {v:Int} {w:Nat} (hv:v=(w:Int)) {k:T} (hk:∀ h',H8 h' g (pT f (u,s) w) (if (f (u,s)).isSome then n else n+1)->Ch [g] h h'->h'.size=h.size->k L K h') :
  T.dX Xaz (Instr.mapUpdate 104 (.map (some g)) (.agg #[vI (u:Int),.string s]) (vI v)) k L K h:=by
 subst hv;exact HF (en:=eI) Zq Li m (u,s) w hk
def Yl (m:H8 h g f n) (hk:H (n:Int) L K h):T.eH Xaz (Builtin.len_ #[104] 3 #[.map (some g)]) false [(false,[.int .i64])] H L K h:=by
 obtain ⟨D,m,e,hn⟩:=m;obtain ⟨es,clock,b,c,d⟩:=m;have a:es.size=n:=by
  have:=as9 List.length c
  simp only [List.length_map,Array.length_toList] at this;omega
 show aS _ _ _ _;unfold Builtin.len_;simp only [List.getElem?_toArray,List.getElem?_cons_zero];rw [av,aC Li];simp only [pure_bind];rw [av];refine fF b aj _ ?_;simp only [pure_bind];exact ⟨((n:Int),()),by rw [a]; rfl,hk⟩
end
def lF (n:Nat):Xaa:=⟨(Lib.itoa (n:Int)).toArray⟩
def FY {h:Hp} (p:eM h) (n:Nat) (hn:n<=2^60):HC Xaz 59 #[vI n] h fun v h'=>v=.string (lF n)/\Ext h h':=by
 intro W a;subst a;refine (Tryz.strconv_Itoa n ad ad W (JS ax p)).mono ?_;rintro e w' ⟨b,k,os,rfl⟩;refine ⟨_,b,⟨rfl,rfl,rfl⟩,rfl,?_⟩;refine ⟨by show W.heap.size<=(W.heap++os).size; simp,fun i hi _=>?_⟩;show (W.heap++os)[i]?=_;rw [Array.getElem?_append_left hi]
def ma {n:Nat} (hn:n<=2^60):(lF n).size<=1000:=by
 show (Lib.itoa (n:Int)).toArray.size<=1000
 have:=Lib.itoa_length_le (n:Int) ad ad
 simp
 omega
structure Lb where
 u:Nat
 s:Nat
 i:Nat
 n:Xaa
deriving DecidableEq
def QV (x:Lb):List Xab:=[vI (x.u:Int),vI (x.s:Int),vI (x.i:Int),.string x.n]
structure LW where
 lb:List Lb
 num:Ky->Option Nat
 nn:Nat
 sK:Ky->Option Nat
 ne:Nat
 gl:Xaa->Option Nat
 ng:Nat
def UR:LW:=⟨[],fun _=>none,0,fun _=>none,0,fun _=>none,0⟩
def LW.has (w:LW) (k:Ky):Bool:=(w.num k).isSome || (w.sK k).isSome
def LW.own (w:LW) (u:Nat) (s:Xaa):Option Ky:=if w.has (u,s) then some (u,s) else (w.gl s).map fun o=>(o,s)
def LW.word (w:LW) (k:Ky):Xaa:=match w.num k with
 | some n=>(⟨#[76]⟩:Xaa)++lF n
 | none=>(⟨#[69]⟩:Xaa)++lF ((w.sK k).getD 0)
structure LM (h:Hp) (gN gE gG:Nat) (w:LW):Prop where
 n:H8 h gN w.num w.nn
 e:H8 h gE w.sK w.ne
 g:ej eI h gG w.gl w.ng
def LM.an {ws:List Nat} {h h':Hp} {gN gE gG:Nat} {w:LW} (m:LM h gN gE gG w) (k:Ch ws h h') (h1:gN∉ws) (h2:gE∉ws) (a:gG∉ws):LM h' gN gE gG w :=
 ⟨m.n.an k h1,m.e.an k h2,m.g.an k a⟩
structure Q3 (w:LW):Prop where
 n:∀ k i,w.num k=some i->i<=2^50
 e:∀ k i,w.sK k=some i->i<=2^50
abbrev RX (h:Hp) (g:Nat) (us lb:bU) (gN gE gG:Nat) (sp:Int):Prop:=bC h g 108 [us.v,lb.v,.map (some gN),.map (some gE),.map (some gG),.slice none 0 0,vI sp]
section
variable {h:Hp} {g gN gE gG:Nat} {us lb:bU} {sp:Int} {w:LW}
def NA (b:RX h g us lb gN gE gG sp) (m:LM h gN gE gG w) (u:Nat) (s:Xaa):HC Xaz 85 #[ptr g,.agg #[vI (u:Int),.string s]] h fun v h'=>v=.bool (w.has (u,s))/\Ext h h':=by
 refine bd (args:=[ptr g,.agg #[vI (u:Int),.string s]]) mixed Tryz.func85 ax (qP (some ⟨g,0,none⟩) u s) ?_;unfold kW bQ ez aQ cn;refine br ?_;intro h1 c a z1;have b':=b.an a aj;have m':=m.an a aj aj aj;refine bm rfl ?_;rw [aE];refine az b' (some gN,()) (ao ?_);refine az c ((u:Int),s,()) (ao ?_);refine Ic m'.n u s ?_;refine bm rfl ?_;rw [aE];refine az b' (some gE,()) (ao ?_);refine az c ((u:Int),s,()) (ao ?_);refine Ic m'.e u s ?_;unfold LW.has;refine aw ?_ ?_<;>intro q
 ·exact ⟨by rw [q]; rfl,a⟩
 ·exact ⟨by rw [q]; rfl,a⟩
def QY (b:RX h g us lb gN gE gG sp) (m:LM h gN gE gG w) (u:Nat) (s:Xaa):HC Xaz 58 #[ptr g,vI (u:Int),.string s] h fun v h'=>v=.tuple #[Fv ((w.own u s).getD (0,s)),.bool (w.own u s).isSome]/\Ext h h':=by
 refine bd (args:=[ptr g,vI (u:Int),.string s]) mixed Tryz.func58 ax (qM (some ⟨g,0,none⟩) u s) ?_;unfold lz aZ bQ bG cm aQ cn;refine br ?_;intro h1 n p z1;refine br ?_;intro h2 r k z2;have b12:=n.an k aj;refine bR r ?_;intro h3 c l z3;have c:bC h3 h1.size 121 [vI (u:Int),.string s]:=c;have e:Ext h h3:=bY (p.trans k) l;have b13:=b12.an l (by simp; omega);refine az c ((u:Int),s,()) (ao ?_);refine aK (NA (b.an e aj) (m.an e aj aj aj) u s) ?_;rintro _ x ⟨rfl,d⟩;refine ⟨(w.has (u,s),()),rfl,ao ?_⟩;have e04:=e.trans d;have q3:=c.lt;refine aw ?_ ?_<;>intro q
 ·have f:w.own u s=some (u,s):=by unfold LW.own; rw [ag9 q]
  rw [f];refine az (c.an d aj) ((u:Int),s,()) (ao ?_);refine bR (b13.an d aj) ?_;intro i a j t;have a:bC i h.size 121 [vI (u:Int),.string s]:=a;refine az a ((u:Int),s,()) ?_;exact ⟨rfl,bY e04 j⟩
 ·have f:w.own u s=(w.gl s).map fun o=>(o,s):=by unfold LW.own; rw [ac9 (by rw [q]; simp)]
  rw [f];refine bm rfl ?_;rw [aE];refine az (b.an e04 aj) (some gG,()) (ao ?_);refine EK (m.an e04 aj aj aj).g s ?_;refine bR (b13.an d aj) ?_;intro i a j t;have a:bC i h.size 121 [vI (((w.gl s).getD 0:Nat):Int),.string s]:=a;refine az a ((((w.gl s).getD 0:Nat):Int),s,()) ?_;refine ⟨?_,bY e04 j⟩
  all_goals (cases w.gl s <;> rfl)
def Dh (pw:eM h) (b:RX h g us lb gN gE gG sp) (m:LM h gN gE gG w) (a:Q3 w) (u:Nat) (s:Xaa):HC Xaz 35 #[ptr g,.agg #[vI (u:Int),.string s]] h fun v h'=>v=.string (w.word (u,s))/\Ext h h':=by
 refine bd (args:=[ptr g,.agg #[vI (u:Int),.string s]]) mixed Tryz.func35 ax (pd (some ⟨g,0,none⟩) u s) ?_;unfold kJ eG bQ aQ cn;refine br ?_;intro h1 f c z1;have b':=b.an c aj;have m':=m.an c aj aj aj;have pw1:=pw.an c aj;refine bm rfl ?_;rw [aE];refine az b' (some gN,()) (ao ?_);refine az f ((u:Int),s,()) (ao ?_);refine Ic m'.n u s ?_;unfold LW.word;cases hn:w.num (u,s) with
 | some n =>
  refine cj rfl ?_;have hs:=a.n _ _ hn;refine aK (FY pw1 n ad) ?_;rintro _ h2 ⟨rfl,d⟩;refine ⟨(lF n,()),rfl,ao ?_⟩
  have:=ma (n:=n) ad
  refine dC ad ?_;exact ⟨rfl,c.trans d⟩
 | none =>
  refine cg rfl ?_;have hs:(w.sK (u,s)).getD 0<=2^50:=by
   cases j:w.sK (u,s) with
   | none=>simp
   | some i=>exact a.e _ _ j
  refine bm rfl ?_;rw [aE];refine az b' (some gE,()) (ao ?_);refine az f ((u:Int),s,()) (ao ?_);refine WT m'.e u s ?_;refine aK (FY pw1 _ ad) ?_;rintro _ h2 ⟨rfl,d⟩;refine ⟨(lF ((w.sK (u,s)).getD 0),()),rfl,ao ?_⟩;refine ⟨⟨(f.an d aj).cells _ rfl,(b'.an d aj).cells _ rfl,trivial⟩,?_⟩
  have:=ma (n:=(w.sK (u,s)).getD 0) ad
  refine dC ad ?_;exact ⟨rfl,c.trans d⟩
end
end Go.Sx.Ob
namespace Go.Sx.Lk
open Go.Proofs Go.Sx.Ob
def qQ {es:List cV} (hn:(aX es).Nodup) {e:cV} (c:e∈es):dB es e.name=e.x:=by
 obtain ⟨d,f,h1,h2⟩:=kG (show e.name∈aX es from bc9 c);rw [h2]
 have:∀ l:List cV,(l.map (·.name)).Nodup->d∈l->e∈l->d=e:=by
  intro l
  induction l with
  | nil=>intro _ h; simp at h
  | cons x l g =>
   intro hn f c;rw [bq9,ef9] at hn;rcases be9.1 f with a | a <;> rcases be9.1 c with b | b
   ·rw [a,b]
   ·exact (hn.1 (by rw [<- a,h1]; exact bc9 b)).elim
   ·exact (hn.1 (by rw [<- b,<- h1]; exact bc9 a)).elim
   ·exact g hn.2 a b
 rw [this es hn f c]
def _root_.Go.Sx.Ob.LW.bad (w:LW) (u:Nat) (x:bM):Option Xaa:=(x.ah.find? fun t=>(w.own u t.1).isNone).map (·.1)
def mC (s:Xaa):bM:=⟨[(s,1)],0⟩
def _root_.Go.Sx.Ob.LW.lin (w:LW) (u:Nat) (x:bM):bM:=dz (fun s=>(w.own u s).map fun k=>mC (w.word k)) x
structure Gl (x:bM):Prop where
 nf:Nf x.ah
 num:x.num<4294967296
 len:x.ah.length<=2^20
 sz:∀ t,t∈x.ah->t.1.size<=maxLen
def jX {a b:Xaa} (h:iK a b):a≠b:=fun e=>by subst e; exact absurd h (by unfold iK; simp)
def Gl.nodup {x:bM} (g:Gl x):(x.ah.map (·.1)).Nodup:=by
 rw [ee9,cr9];exact g.nf.VE.imp fun h=>jX h
def Uh (w:LW) (u:Nat) (x:bM) (h:Hp) (v:Xab) (h':Hp):Prop :=
 Ext h h'/\match w.bad u x with
 | some s=>v=.tuple #[ik none 0 0 GX,.string s,.bool false]
 | none=>∃ p l c,v=.tuple #[ik p l c (w.lin u x),.string ⟨#[]⟩,.bool true]/\SL h' h.size 64 2 p l c ((w.lin u x).ah.map dp)
def Jb:Tryz.prog.underlying 50=some (.slice 64):=ax
def IX (s:Xaa) (n:Int):Instr.fill (fun j=>some (j*2,2)) ((Array.range (1*2)).map ((Value.agg #[.string ⟨#[]⟩,.int .u32 0]).cells[· % (Value.agg #[.string ⟨#[]⟩,.int .u32 0]).cells.size]!)) [(0,.agg #[.string s,.int .u32 n])]=some ([.string s,.int .u32 n]:List Xab).toArray:=ax
def IS (s:Xaa) (p:Xac) (l c:Nat) (n:Int):Instr.fill (fun j=>some (j*3,3)) ((Array.range (1*3)).map ((Value.agg #[.string ⟨#[]⟩,.slice none 0 0,.int .u32 0]).cells[· % (Value.agg #[.string ⟨#[]⟩,.slice none 0 0,.int .u32 0]).cells.size]!)) [(0,.agg #[.string s,.slice p l c,.int .u32 n])]=some ([.string s,.slice p l c,.int .u32 n]:List Xab).toArray:=ax
theorem lQ {α:Type} (f:α->Bool):∀ (l:List α) (i:Nat) (hi:i<l.length),(∀ j,(b:j<i)->f (l[j]'ad)=false)->f l[i]=true->l.find? f=some l[i]
 | [],i,hi,_,_=>by simp at hi
 | a::l,0,hi,_,h=>by simp at h; simp [h]
 | a::l,i+1,hi,h0,h=>by
  have c:f a=false:=h0 0 ad;rw [fd9,c];simp only [List.getElem_cons_succ] at h ⊢;exact lQ f l i (by simpa using hi) (fun j b=>h0 (j+1) ad) h
def oL {α:Type} (f:α->Bool) (l:List α) (h:∀ j,(a:j<l.length)->f l[j]=false):l.find? f=none:=by
 rw [List.find?_eq_none];intro x b;obtain ⟨j,a,rfl⟩:=bg9 b;rw [h j a]
 simp
section
variable {h:Hp} {g gN gE gG:Nat} {us lb:bU} {sp:Int} {w:LW}
def yZ (pw:eM h) (b:RX h g us lb gN gE gG sp) (m:LM h gN gE gG w) (G:Q3 w) (u:Nat) {p:Xac} {l c:Nat} {x:bM} (v:iD h p l x.ah) (O:Gl x) :
  HC Xaz 34 #[ptr g,vI (u:Int),ik p l c x] h (Uh w u x h):=by
 refine bd (args:=[ptr g,vI (u:Int),ik p l c x]) mixed Tryz.func34 ax (nw (some ⟨g,0,none⟩) u p l c x.num) ?_;unfold ju aY bh bt aI eG bP bn aF bG bg cm aQ cn cY;have hll:=v.len;have hxl:=O.len;refine br ?_;intro h1 b1 e1 z1;refine br ?_;intro h2 b2 e2 z2;have b12:=b1.an e2 aj;have e02:=e1.trans e2;refine az b12 ((p,l,c),()) (ao ?_);obtain ⟨ie,hie,hze,hse,hbe⟩:=pO MP;refine dA (qH (l:=0) (c:=l) Du hie hze ad (by rw [hbe]; omega) ad ?_);intro h3 b3 e3 z3;refine ⟨_,_,_,rfl,?_⟩;have e03:=e02.trans e3;have b13:=b12.an e3 aj;have b23:=b2.an e3 aj;have s3:SL h3 h2.size 116 3 (some ⟨h2.size,0,none⟩) 0 l (([]:List cV).map A0):=by
  refine ⟨rfl,aj,h2.size,[],_,rfl,aq9 _,⟨ad,ad⟩,b3,?_⟩;rw [ab9,du9,hse];omega
 refine az b13 ((p,l,c),()) (ao ?_)
 refine aT (cs:=Yu) (fun y m' h'=>∃ (i:Nat) (es:List cV),y.2.2.2.1=(i:Int)/\i<=l/\m'=l-i/\Ch [h2.size] h3 h'/\y.2.2.1.2.1=i/\rW h' h2.size y.2.2.1.1 i y.2.2.1.2.2 es/\(∀ j,(A:j<i)->(hl:j<x.ah.length)->(w.own u x.ah[j].1).isSome=true) /\
   es.map (fun e=>(e.name,e.x))=(x.ah.take i).map (fun t=>(t.1,mC (w.word ((w.own u t.1).getD (0,t.1)))))) ((⟨#[]⟩:Xaa),false,(some ⟨h2.size,0,none⟩,0,l),(0:Int),()) l rfl
  ⟨0,[],rfl,ad,ad,Ch.refl _ _,rfl,⟨s3,aj,List.Pairwise.nil,aj⟩,by intro j A; omega,rfl⟩ ?_
 rintro ⟨s14,b15,⟨p16,l17,l18⟩,n19,⟨⟩⟩ m' h4 ⟨i,es,hi,hil,rfl,o,P,Q,C,s⟩;simp only at hi P Q;subst hi P;refine ao ?_;have B:Ext h h4:=Ch.trans e03 o (fun i hi hl=>by simp at hi; have:=e1.size; omega);have hel:es.length=l17:=by
  have:=as9 List.length s
  rw [ab9,ab9,az9] at this;omega
 have z4:=o.size;have q3:=b3.lt;have q2:=b2.lt;have q1:=b1.lt;refine aR ?_ ?_<;>intro q
 ·have H:l17<x.ah.length:=ad
  obtain ⟨a,ha,hc⟩:=v.cells l17 H;have R:x.ah.take (l17+1)=x.ah.take l17++[x.ah[l17]]:=ae9 H;have hgt:x.ah[l17]=x.ah[l17]:=rfl;generalize I:x.ah[l17]=t at hc R;refine bS ha ?_;rw [cr l17];refine ay (t.1,(t.2:Int),()) (aM B aj _ _ hc) (ao ?_);refine br ?_;intro h5 b5 S z5;refine bR b5 ?_;intro h6 D k6 z6;have D:bC h6 h4.size 64 [.string t.1,.int .u32 (t.2:Int)]:=D;have U:Ext h4 h6:=bY S k6;have e06:=B.trans U;refine az D (t.1,()) (ao ?_);refine aK (QY (b.an e06 aj) (m.an e06 aj aj aj) u t.1) ?_;rintro _ h7 ⟨rfl,e7⟩;generalize hk:(w.own u t.1).getD (0,t.1)=ky;refine ⟨((ky.1:Int),ky.2,(w.own u t.1).isSome,()),rfl,ao ?_⟩;refine br ?_;intro h8 b8 e8 z8;refine bR b8 ?_;intro h9 V k9 z9;have V:bC h9 h7.size 121 [vI (ky.1:Int),.string ky.2]:=V;have e79:Ext h7 h9:=bY e8 k9;have e69:=e7.trans e79;have e49:=U.trans e69;have e09:=B.trans e49;have b69:=D.an e69 aj;have q6:=D.lt;have q7:=e7.size;have q9:=V.lt;refine aw ?_ ?_<;>intro r
  ·have r:(w.own u t.1).isSome=false:=by simpa using r
   refine az b69 (t.1,()) (ao ?_);refine bR ((b23.an o (by simp; omega)).an e49 aj) ?_;intro k J W z10;have J:bC k h1.size 53 [.slice none 0 0,.int .u32 0]:=J;refine ⟨⟨(b69.an W (by simp; omega)).cells _ rfl,trivial⟩,?_⟩;refine az J ((none,0,0),(0:Int),()) ?_;refine ⟨bY e09 W,?_⟩;have hb:w.bad u x=some t.1:=by
    unfold Ob.LW.bad;rw [lQ _ x.ah l17 H (fun j A=>by simpa using C j A ad) (by rw [I]; simpa using r),I] <;> rfl
   rw [hb] <;> rfl
  ·have r:(w.own u t.1).isSome=true:=by simpa using r
   refine az b69 (t.1,()) (ao ?_);refine az V ((ky.1:Int),ky.2,()) (ao ?_);refine aK (Dh (pw.an e09 aj) (b.an e09 aj) (m.an e09 aj aj aj) G ky.1 ky.2) ?_;rintro _ k ⟨rfl,E⟩;refine ⟨(w.word (ky.1,ky.2),()),rfl,ao ?_⟩;have b6a:=b69.an E aj;have b9a:=V.an E aj;have q10:=E.size;refine ⟨⟨b6a.cells _ rfl,trivial⟩,?_⟩;refine nS Jb uq ad ad (IX _ _) ?_;intro h11 b11 K z11;have b6b:=b6a.an K aj;have b9b:=b9a.an K aj;refine ⟨⟨b9b.cells _ rfl,b6b.cells _ rfl,trivial⟩,?_⟩;have e411:=(e49.trans E).trans K;have o11:=Q.an e411 aj;have q11:=e411.size;refine gR (e:=116) (z:=.agg #[.string ⟨#[]⟩,.slice none 0 0,.int .u32 0]) (sz:=3) (by':=48) Du MP rfl ad ad (IS _ _ _ _ _) rfl rfl o11.out ad ad ad (fun h' e=>⟨(b9b.an e aj).cells _ rfl,(b6b.an e aj).cells _ rfl,trivial⟩) ?_;intro p' c' h12 s12 F X;have hq:∀ i,i∈aJ p16->(i=h2.size\/h3.size<=i)/\i<h4.size:=fun i hi=>by have:=Q.out.cB hi; omega
   have Y:Ch [h2.size] h3 h12:=Ch.trans (o.trans (e411.mono aj) (fun i hi hl=>hi)) F (fun i hi hl=>by have:=hq i hi; simp; omega);have L:∀ i,h4.size<=i->i∉aJ p16:=fun i h1 h2=>by have:=hq i h2; omega
   refine ⟨⟨(b9b.an F (L _ ad)).cells _ rfl,(b6b.an F (L _ ad)).cells _ rfl,trivial⟩,?_⟩;have hm:SL h11 h2.size 64 2 (some ⟨k.size,0,none⟩) 1 1 ((mC (w.word ky)).ah.map dp) :=
    ⟨rfl,fun y hy=>by rw [ai9.1 hy]; rfl,k.size,[],[],rfl,ad,⟨ad,ad⟩,b11,by simp [mC]⟩
   have o12:rW h12 h2.size p' (l17+1) c' (es++[⟨t.1,some ⟨k.size,0,none⟩,1,1,mC (w.word ky)⟩]):=by
    refine o11.push (m:=⟨t.1,some ⟨k.size,0,none⟩,1,1,mC (w.word ky)⟩) hm (fun i hi=>?_) (by rw [ao9]; exact s12) F (fun i hi=>?_)
    ·have hi:i=k.size:=by simpa [aJ] using hi
     subst hi;refine ⟨fun y hy j A=>?_,L _ ad⟩
     have:=((Q.fC y hy).cB A).2
     omega
    ·rcases X with rfl | ⟨a',rfl,ha'⟩
     ·exact .inl hi
     ·simp [aJ] at hi; right; omega
   have hw:=ic l17;rw [hw];refine aG (cs:=Yu) (s14,b15,(p',l17+1,c'),((l17+1:Nat):Int),()) (l-(l17+1)) rfl ad rfl
    ⟨l17+1,_,rfl,ad,rfl,Y,rfl,o12,fun j A hjl=>?_,?_⟩
   ·by_cases Z:j<l17
    ·exact C j Z hjl
    ·have:j=l17:=ad
     subst this;rw [I]; exact r
   ·rw [ao9,s,R,ao9];simp only [List.map_cons,List.map_nil];rw [hk]
 ·have hi:l17=x.ah.length:=ad
  subst hi;have s:es.map (fun e=>(e.name,e.x))=x.ah.map (fun t=>(t.1,mC (w.word ((w.own u t.1).getD (0,t.1))))):=by rw [s,bv9 (aq9 _)]
  have hnm:aX es=x.ah.map (·.1):=by
   have:=as9 (List.map (·.1)) s
   rw [bf9,bf9] at this;exact this
  have d:∀ e,e∈es->∃ t,t∈x.ah/\e.name=t.1/\e.x=mC (w.word ((w.own u t.1).getD (0,t.1))):=by
   intro e f
   have:(e.name,e.x)∈es.map (fun e=>(e.name,e.x)):=bc9 f
   rw [s] at this;obtain ⟨t,ht,M⟩:=an9.1 this;rw [Prod.mk.injEq] at M;exact ⟨t,ht,M.1.symm,M.2.symm⟩
  have hwsz:∀ ky:Ky,(w.word ky).size<=maxLen:=by
   intro ky;unfold LW.word;have hsz:∀ (a:Xaa) n,n<=2^50->a.size=1->(a++lF n).size<=maxLen:=fun a n hn ha=>by
    rw [eh9,ha]
    have:=ma (n:=n) ad
    unfold maxLen;omega
   split
   ·rename_i n hn;exact hsz _ _ (G.n _ _ hn) rfl
   ·refine hsz _ _ ?_ rfl;cases f:w.sK ky with
    | none=>simp
    | some i=>exact G.e _ _ f
  have eo:EqsOk es:=⟨by rw [hnm]; exact O.nodup,ad,fun e f=>by obtain ⟨t,ht,h1,_⟩:=d e f; rw [h1]; exact O.sz t ht,
   fun e f=>by obtain ⟨t,ht,_,h1⟩:=d e f; rw [h1]; show 1<=2^40; decide,
   fun e f t' N=>by
    obtain ⟨t,ht,_,h1⟩:=d e f;rw [h1] at N;rw [ai9.1 N];exact hwsz _⟩
  refine az ((b13).an o (by simp; omega)) ((p,l,c),(x.num:Int),()) ?_;refine ao ?_;have ve:=Ec Q;have htot:(es.flatMap (·.x.ah)).length<=2^39:=by
   have:∀ l:List cV,(∀ e,e∈l->e.x.ah.length=1)->(l.flatMap (·.x.ah)).length=l.length:=by
    intro l
    induction l with
    | nil=>intro _; rfl
    | cons a l ih=>intro hl; rw [cd9,af9,ih (fun e f=>hl e (by simp [f])),hl a aj,cj9,Nat.add_comm]
   rw [this es (fun e f=>by obtain ⟨t,ht,_,h1⟩:=d e f; rw [h1]; rfl)];omega
  refine aK (OT (v.an B aj) ve eo (fun e f=>by obtain ⟨t,ht,_,h1⟩:=d e f; rw [h1]; show 1<=2^20; decide) htot ad hxl O.sz) ?_;rintro _ h5 ⟨⟨p',l',c',rfl,s5⟩,S⟩;have hlin:nl (dz (cG es) x) vj=w.lin u x:=by
   rw [zj (eP _ _) (jl O.num)];unfold Ob.LW.lin;refine qz (fun t ht=>?_);have hin:t.1∈aX es:=by rw [hnm]; exact bc9 ht
   obtain ⟨j,A,rfl⟩:=bg9 ht;have hoj:=C j ad A;obtain ⟨ky,hky⟩:=cg9.1 hoj;unfold cG;rw [ag9 ((dV es _).2 hin),hky];obtain ⟨e,f,hen⟩:=an9.1 hin;obtain ⟨t',N,h1,h2⟩:=d e f;rw [<- hen,qQ eo.nodup f,h2,<- h1,hen,hky] <;> rfl
  rw [hlin] at s5 ⊢;refine ⟨((p',l',c'),((w.lin u x).num:Int),()),rfl,ao ?_⟩;have q5:=S.size;refine bR ((b23.an o (by simp; omega)).an S aj) ?_;intro h6 D k6 z6;have D:bC h6 h1.size 53 [.slice p' l' c',.int .u32 ((w.lin u x).num:Int)]:=D;refine az D ((p',l',c'),((w.lin u x).num:Int),()) ?_;refine ⟨bY (B.trans S) k6,?_⟩;have hb:w.bad u x=none:=by
   unfold Ob.LW.bad;rw [oL _ x.ah (fun j A=>by simpa using C j ad A)] <;> rfl
  rw [hb];exact ⟨p',l',c',rfl,(s5.bK k6 (fun j A=>by have:=(s5.cB A).1; simp; omega)).mono ad⟩
end
theorem zi {h:Hp} {a:Xax}:∀ (b us:List Xab) (i:Nat),aH h a i b->aH h a (i+b.length) us->aH h a i (b++us)
 | [],us,i,_,h2=>by simpa using h2
 | v::b,us,i,h1,h2=>⟨h1.1,zi b us (i+1) h1.2 (by rw [cj9] at h2; rw [show i+1+b.length=i+(b.length+1) from ad]; exact h2)⟩
theorem AE {h:Hp} {a:Xax}:∀ (b:List Xab) (o i:Nat),aH h (a.add o) i b->aH h a (o+i) b
 | [],_,_,_=>trivial
 | v::b,o,i,h1=>⟨by have:=h1.1; rw [add_add] at this; exact this,AE b o (i+1) h1.2⟩
theorem mv {h:Hp} {a:Xax} {sz:Nat}:∀ (xs:List (List Xab)) (k:Nat),(∀ x,x∈xs->x.length=sz)->(∀ i,(hi:i<xs.length)->aH h (a.add ((k+i)*sz)) 0 xs[i])->aH h a (k*sz) xs.flatten
 | [],_,_,_=>trivial
 | x::xs,k,hl,hc=>by
  rw [eo9];refine zi _ _ _ ?_ ?_
  ·have:=hc 0 aj
   rw [ek9] at this;exact AE _ _ 0 this
  ·rw [hl x aj,<- Nat.succ_mul];exact mv xs (k+1) (fun y b=>hl y (by simp [b])) (fun i hi=>by
    have:=hc (i+1) (by simpa using hi)
    rw [show k+1+i=k+(i+1) from ad];exact this)
structure Xx (h:Hp) (p:Xac) (l:Nat) (ws:List (bU × cC)):Prop where
 len:l=ws.length
 cells:∀ i,(hi:i<ws.length)->∃ a,p=some a/\aH h (a.add (i*10)) 0 (ub ws[i])
theorem zn {α β:Type} (R:α->β->Prop):∀ (us:List α),(∀ i,(hi:i<us.length)->∃ b,R us[i] b)->∃ a:List β,a.length=us.length/\∀ i,(hi:i<us.length)->(d:i<a.length)->R us[i] a[i]
 | [],_=>⟨[],rfl,fun i hi=>by simp at hi⟩
 | u::us,h=>by
  obtain ⟨b,d⟩:=h 0 aj;obtain ⟨a,hl,e⟩:=zn R us (fun i hi=>h (i+1) (by simpa using hi));refine ⟨b::a,by simp [hl],fun i hi c=>?_⟩
  match i with
  | 0=>exact d
  | i+1=>exact e i (by simpa using hi) (by simpa using c)
variable {H:Hp} {O:Xac} {U:Nat}
def ED {us:List cC} (v:FJ H O U us):∃ ws:List (bU × cC),ws.map (·.2)=us/\Xx H O U ws/\∀ u,u∈ws->iV H u.1.p u.1.l u.2:=by
 have d:∀ i,(hi:i<(List.range us.length).length)->∃ s:bU,∀ o:(List.range us.length)[i]<us.length,∃ a,O=some a/\aH H (a.add ((List.range us.length)[i]*10)) 0 (Ob.encI s.p s.l s.c us[(List.range us.length)[i]])/\iV H s.p s.l us[(List.range us.length)[i]]:=by
  intro i hi;have f:i<us.length:=by simpa using hi
  obtain ⟨a,q,m,c,e,hc,hv⟩:=v.cells i f;refine ⟨⟨q,m,c⟩,fun o=>⟨a,e,?_,?_⟩⟩
  ·simp only [List.getElem_range]; exact hc
  ·simp only [List.getElem_range]; exact hv
 obtain ⟨g,k,r⟩:=zn (fun (j:Nat) (s:bU)=>∀ o:j<us.length,∃ a,O=some a/\aH H (a.add (j*10)) 0 (Ob.encI s.p s.l s.c us[j])/\iV H s.p s.l us[j]) (List.range us.length) d;rw [du9] at k;have n:(g.zip us).map (·.2)=us:=by rw [List.map_snd_zip ad]
 have b:(g.zip us).length=us.length:=by rw [List.length_zip]; omega
 refine ⟨g.zip us,n,⟨by rw [b]; exact v.len,fun i hi=>?_⟩,fun u t=>?_⟩
 ·rw [b] at hi;have h1:=r i (by simpa using hi) ad;simp only [List.getElem_range] at h1;obtain ⟨a,e,hc,_⟩:=h1 hi;refine ⟨a,e,?_⟩;rw [List.getElem_zip];exact hc
 ·obtain ⟨i,hi,rfl⟩:=bg9 t;rw [b] at hi;have h1:=r i (by simpa using hi) ad;simp only [List.getElem_range] at h1;obtain ⟨a,e,_,hv⟩:=h1 hi;rw [List.getElem_zip];exact hv
def pV (ws:List (bU × cC)):(ws.map ub).flatten.all dr=true:=by
 rw [bn9];intro v hv;obtain ⟨x,a,hv⟩:=List.mem_flatten.1 hv;obtain ⟨t,_,rfl⟩:=an9.1 a;simp only [ub,Ob.encI,List.mem_cons,List.not_mem_nil,or_false] at hv;rcases hv with rfl | rfl | rfl | rfl | rfl | rfl | rfl | rfl | rfl | rfl <;> rfl
def o7 (ws:List (bU × cC)):∀ y,y∈ws.map ub->y.length=10:=by
 intro y a;obtain ⟨u,_,rfl⟩:=an9.1 a;rfl
def Xx.src {ws:List (bU × cC)} (v:Xx H O U ws):(O=none/\ws.map ub=[])\/∃ a,O=some a/\aH H a 0 (ws.map ub).flatten:=by
 cases O with
 | none =>
  left
  refine ⟨rfl,?_⟩;cases ws with
  | nil=>rfl
  | cons u us =>
   obtain ⟨a,b,_⟩:=v.cells 0 aj;cases b
 | some a =>
  refine .inr ⟨a,rfl,?_⟩
  have:=mv (h:=H) (a:=a) (sz:=10) (ws.map ub) 0 (o7 ws) (fun i hi=>by
   rw [ab9] at hi;obtain ⟨a',b,hc⟩:=v.cells i hi;cases b;rw [am9,bu9];exact hc)
  rwa [Nat.zero_mul] at this
def D2 {c:Nat} {ws:List (bU × cC)} (v:Xx H O U ws) (hl:ws.length<=2^30) :
  HC Xaz 57 #[.slice O U c] H fun w h'=>(∃ p' c',w=.slice p' U c'/\SL h' H.size 55 10 p' U c' (ws.map ub))/\Ext H h':=by
 refine bd (args:=[.slice O U c]) mixed Tryz.func57 ax (gz O U c) ?_;unfold eD bn bg;have hll:=v.len;cases O with
 | none =>
  rcases v.src with ⟨_,h2⟩ | ⟨a,b,_⟩
  ·refine cj rfl ?_
   have:ws=[]:=by simpa using h2
   subst this;subst hll;exact ⟨⟨none,0,rfl,SL.nil _ _ _ _⟩,Ch.refl _ _⟩
  ·cases b
 | some a =>
  refine cg rfl ?_;refine qG (e:=55) (z:=.agg iz.toArray) (sz:=10) (by':=104) Co Gf rfl v.src (by simpa using hll) (o7 ws) (pV ws) ad ad ?_;intro p' c' h' f g;exact ⟨⟨p',c',rfl,f⟩,g⟩
structure LcB (h:Hp) (b B:Nat) (p:Xac) (l c:Nat) (ws:List (bU × cC)):Prop where
 out:SL h b 55 10 p l c (ws.map ub)
 lt:∀ i,i∈aJ p->i<B
 fC:∀ u,u∈ws->SL h B 64 2 u.1.p u.1.l u.1.c (u.2.e.ah.map dp)
def _root_.Go.Sx.Ob.LW.zX (w:LW) (u:Nat) (us:List cC):Option Xaa:=us.findSome? fun x=>w.bad u x.e
def _root_.Go.Sx.Ob.LW.fD (w:LW) (u:Nat) (x:cC):cC:={ x with e:=w.lin u x.e }
def XA (w:LW) (u:Nat) (us:List cC) (l:Nat) (h:Hp) (v:Xab) (h':Hp):Prop :=
 Ext h h'/\match w.zX u us with
 | some s=>v=.tuple #[.slice none 0 0,.string s,.bool false]
 | none=>∃ p c B ws,v=.tuple #[.slice p l c,.string ⟨#[]⟩,.bool true]/\LcB h' h.size B p l c ws/\h.size<=B/\ws.map (·.2)=us.map (w.fD u)
theorem KN (w:LW) (u:Nat):∀ (us:List cC) (i:Nat) (hi:i<us.length) (s:Xaa),(∀ j,(b:j<i)->w.bad u (us[j]'ad).e=none)->w.bad u us[i].e=some s->w.zX u us=some s
 | [],i,hi,_,_,_=>by simp at hi
 | a::l,0,hi,s,_,h=>by unfold Ob.LW.zX; simp at h; simp [h]
 | a::l,i+1,hi,s,h0,h=>by
  have c:w.bad u a.e=none:=h0 0 ad;have ih:=KN w u l i (by simpa using hi) s (fun j b=>h0 (j+1) ad) (by simpa using h);unfold Ob.LW.zX at ih ⊢;rw [List.findSome?_cons,c];exact ih
def M8 (w:LW) (u:Nat) (us:List cC) (h:∀ j,(a:j<us.length)->w.bad u us[j].e=none):w.zX u us=none:=by
 unfold Ob.LW.zX;rw [cx9];intro x b;obtain ⟨j,a,rfl⟩:=bg9 b;exact h j a
section
variable {h:Hp} {g gN gE gG:Nat} {us lb:bU} {sp:Int} {w:LW}
def Aw (pw:eM h) (b:RX h g us lb gN gE gG sp) (m:LM h gN gE gG w) (lb':Q3 w) (u:Nat) {p:Xac} {l c:Nat} {xs:List cC} (v:FJ h p l xs) (hn:xs.length<=2^20) (gx:∀ x,x∈xs->Gl x.e) :
  HC Xaz 33 #[ptr g,vI (u:Int),.slice p l c] h (XA w u xs l h):=by
 refine bd (args:=[ptr g,vI (u:Int),.slice p l c]) mixed Tryz.func33 ax (nV (some ⟨g,0,none⟩) u p l c) ?_;unfold jA aY bh bt aI bP aF bG bg cm aQ cn cY;have hll:=v.len;obtain ⟨ws,H,vd,hit⟩:=ED v;have hwl:ws.length=xs.length:=by rw [<- H,ab9]
 refine aK (D2 (c:=c) vd ad) ?_;rintro _ h1 ⟨⟨p3,c3,rfl,s3⟩,e1⟩;refine ⟨((p3,l,c3),()),rfl,ao ?_⟩;have f:∀ i,i∈aJ p3->h.size<=i/\i<h1.size:=fun i hi=>s3.cB hi
 refine aT (cs:=XY) (fun y m' h'=>∃ (i:Nat) (d:List (bU × cC)),y.2.2.2.1=(i:Int)/\i<=l/\m'=l-i/\Ch (aJ p3) h1 h'/\d.length=l/\SL h' h.size 55 10 p3 l c3 (d.map ub) /\
   (∀ j,(k:j<i)->(hv:j<d.length)->SL h' h1.size 64 2 d[j].1.p d[j].1.l d[j].1.c (d[j].2.e.ah.map dp))/\d.map (·.2)=(xs.take i).map (w.fD u)++xs.drop i/\∀ j,(k:j<i)->(U:j<xs.length)->w.bad u xs[j].e=none)
  ((none,0,0),(⟨#[]⟩:Xaa),false,(0:Int),()) l rfl ⟨0,ws,rfl,ad,ad,Ch.refl _ _,ad,s3,by intro j k; omega,by simpa using H,by intro j k; omega⟩ ?_
 rintro ⟨p6,s9,b10,n11,⟨⟩⟩ m' h2 ⟨i,d,hi,hil,rfl,k2,hvl,s2,own,et,A⟩;simp only at hi;subst hi;refine ao ?_;have B:Ext h h2:=Ch.trans e1 k2 (fun i hi hl=>by have:=f i hi; omega);have z1:=e1.size;have z2:=k2.size;refine aR ?_ ?_<;>intro q
 ·have r:i<xs.length:=ad
  obtain ⟨aa,pp,ll,V,ha,I,J⟩:=v.cells i r;have gxi:=gx xs[i] (al9 r);have K:xs.take (i+1)=xs.take i++[xs[i]]:=ae9 r;have C:xs.drop i=xs[i]::xs.drop (i+1):=aw9 r;generalize L:xs[i]=x at I J K gxi C;refine bS ha ?_;rw [cr i];refine ay (x.kind,x.name,x.inst.op,x.inst.a,x.inst.b,x.inst.n,x.inst.form,(pp,ll,V),(x.e.num:Int),x.n,()) (aM B aj _ _ I) (ao ?_);refine br ?_;intro h3 b3 e3 z3;refine bR b3 ?_;intro h4 W k4 z4;have W:bC h4 h2.size 55 (Ob.encI pp ll V x):=W;have D:Ext h2 h4:=bY e3 k4;have e04:=B.trans D;rw [aE];refine az W ((pp,ll,V),(x.e.num:Int),()) (ao ?_);refine aK (yZ (c:=V) (pw.an e04 aj) (b.an e04 aj) (m.an e04 aj aj aj) lb' u (J.an e04).lin.vw gxi) ?_;rintro _ h5 ⟨e5,X⟩;have z4':=W.lt;have z5:=e5.size;cases Y:w.bad u x.e with
  | some s =>
   rw [Y] at X;subst X;refine ⟨((none,0,0),(0:Int),s,false,()),rfl,ao ?_⟩;refine br ?_;intro h6 b6 e6 z6;refine bR b6 ?_;intro h7 Z k7 z7;refine cj rfl ?_;refine ⟨bY ((e04.trans e5).trans e6) k7,?_⟩;rw [KN w u xs i r s (fun j k=>A j k ad) (by rw [L]; exact Y)]
  | none =>
   rw [Y] at X;obtain ⟨E,F,G,rfl,s7⟩:=X;refine ⟨((E,F,G),((w.lin u x.e).num:Int),(⟨#[]⟩:Xaa),true,()),rfl,ao ?_⟩;refine br ?_;intro h6 b6 e6 z6;refine bR b6 ?_;intro h7 Z k7 z7;have Z:bC h7 h5.size 53 [.slice E F G,.int .u32 ((w.lin u x.e).num:Int)]:=Z;have M:Ext h5 h7:=bY e6 k7;have e27:=(D.trans e5).trans M;refine cg rfl ?_;refine az Z ((E,F,G),((w.lin u x.e).num:Int),()) (ao ?_);have s27:=s2.an e27 aj;have t:i<d.length:=ad
   obtain ⟨a3,N⟩:∃ a3,p3=some a3:=by
    cases hp3:p3 with
    | some a=>exact ⟨a,rfl⟩
    | none =>
     rw [hp3] at s27;have h1:=s27.2.2.2;have h2:d=[]:=by simpa using h1
     rw [h2] at t;simp at t
   refine bS N ?_;refine SL.part (P:=Xaz) s27 (i:=i) (by rw [ab9]; exact t) (o:=7) aj (by simp [dr]) N ?_;intro h8 s8 k8 z8;have hvi:d[i].2=x:=by
    have h1:(d.map (·.2))[i]?=some d[i].2:=by rw [ci9,ad9 t]; rfl
    rw [et,bi9 (by rw [ab9,az9]; omega),C] at h1;rw [ab9,az9,show i-min i xs.length=0 from ad] at h1;simpa using h1.symm
   have O:(d.map ub).set i (lK ((d.map ub)[i]'(by rw [ab9]; exact t)) 7 [.slice E F G,.int .u32 ((w.lin u x.e).num:Int)])=(d.set i (⟨E,F,G⟩,w.fD u x)).map ub:=by
    rw [fc9,am9]
    congr 1
    rcases hvv:d[i] with ⟨⟨v1,v2,v3⟩,v4⟩
    have:v4=x:=by rw [<- hvi,hvv]
    subst this;rfl
   rw [O] at s8;have z7':h2.size<=h7.size:=e27.size;have hw:=ic i;rw [hw];refine aG (cs:=XY) (p6,s9,b10,((i+1:Nat):Int),()) (l-(i+1)) rfl ad rfl
    ⟨i+1,d.set i (⟨E,F,G⟩,w.fD u x),rfl,ad,rfl,Ch.trans (k2.trans (e27.mono aj) (fun i hi _=>hi)) k8 (fun i hi _=>hi),by rw [cy9]; exact hvl,s8,fun j k Q=>?_,?_,fun j k hjx=>?_⟩
   ·have R:∀ x,h1.size<=x->x∉aJ p3:=fun x h1 h2=>by have:=f x h2; omega
    by_cases z:j=i
    ·subst z;simp only [List.getElem_set_self]
     have:SL h7 h1.size 64 2 E F G ((w.fD u x).e.ah.map dp):=Sx.SL.mono (s7.an M aj) (by have:=D.size; omega)
     exact this.bK k8 (fun x U=>R x (this.cB U).1)
    ·have S:j<i:=ad
     rw [cy9] at Q;simp only [List.getElem_set_ne (Ne.symm z)]
     have:=(own j S Q).an e27 aj
     exact this.bK k8 (fun x U=>R x (this.cB U).1)
   ·rw [fc9,et,K,ao9,C];have hl1:((xs.take i).map (w.fD u)).length=i:=by rw [ab9,az9]; omega
    rw [List.set_append_right _ _ ad,hl1,ex9,List.set_cons_zero]
    simp
   ·by_cases z:j=i
    ·subst z;rw [L]; exact Y
    ·exact A j ad hjx
 ·have hi:i=l:=ad
  subst hi;refine ⟨B,?_⟩;rw [M8 w u xs (fun j k=>A j ad k)];refine ⟨p3,c3,h1.size,d,rfl,⟨s2,fun i hi=>(f i hi).2,fun u hu=>?_⟩,z1,?_⟩
  ·obtain ⟨j,k,rfl⟩:=bg9 hu;exact own j ad k
  ·rw [et,bv9 ad,eq9 ad,bz9]
end
def jT (n sec i:Nat) (x:cC) (w:LW):LW :=
 if x.kind=1 then { w with num:=pT w.num (n,x.name) w.lb.length,nn:=if (w.num (n,x.name)).isSome then w.nn else w.nn+1,lb:=w.lb++[⟨n,sec,i,x.name⟩] } else w
def je (n sec:Nat):Nat->List cC->LW->LW
 | _,[],w=>w
 | i,x::l,w=>je n sec (i+1) l (jT n sec i x w)
def vP (n:Nat) (w:LW) (e:sS):LW:={ w with sK:=pT w.sK (n,e.1) w.ne,ne:=if (w.sK (n,e.1)).isSome then w.ne else w.ne+1 }
def He (n:Nat) (u:cv) (w:LW):LW:=u.bj.foldl (vP n) (je n 1 0 u.data (je n 0 0 u.text w))
def nU:Nat->List cv->LW->LW
 | _,[],w=>w
 | n,u::us,w=>nU (n+1) us (He n u w)
theorem De (n sec:Nat) (x:cC):∀ (l:List cC) (i:Nat) (w:LW),je n sec i (l++[x]) w=jT n sec (i+l.length) x (je n sec i l w)
 | [],i,w=>rfl
 | y::l,i,w=>by
  simp only [List.cons_append,je,List.length_cons];rw [De n sec x l (i+1) _,show i+1+l.length=i+(l.length+1) from ad]
theorem Db (u:cv):∀ (l:List cv) (n:Nat) (w:LW),nU n (l++[u]) w=He (n+l.length) u (nU n l w)
 | [],n,w=>rfl
 | y::l,n,w=>by
  simp only [List.cons_append,nU,List.length_cons];rw [Db u l (n+1) _,show n+1+l.length=n+(l.length+1) from ad]
def H' (n sec i:Nat) (x:cC) (w:LW):(jT n sec i x w).lb.length<=w.lb.length+1:=by
 unfold jT;split
 ·simp
 ·omega
theorem mK (n sec:Nat):∀ (l:List cC) (i:Nat) (w:LW),(je n sec i l w).lb.length<=w.lb.length+l.length
 | [],i,w=>by simp [je]
 | x::l,i,w=>by
  have h1:=mK n sec l (i+1) (jT n sec i x w);have h2:=H' n sec i x w;simp only [je,List.length_cons];omega
theorem P2 (n:Nat):∀ (l:List sS) (w:LW),(l.foldl (vP n) w).lb=w.lb
 | [],w=>rfl
 | e::l,w=>by rw [bt9,P2 n l]; rfl
def O1 (n:Nat) (u:cv) (w:LW):(He n u w).lb.length<=w.lb.length+(u.text.length+u.data.length):=by
 unfold He;rw [P2];have h1:=mK n 1 u.data 0 (je n 0 0 u.text w);have h2:=mK n 0 u.text 0 w;omega
def vR (us:List cv):Nat:=(us.map fun u=>u.text.length+u.data.length+u.bj.length+u.aU.length).sum
theorem Hq:∀ (l:List cv) (n:Nat) (w:LW),(nU n l w).lb.length<=w.lb.length+vR l
 | [],n,w=>by simp [nU,vR]
 | u::l,n,w=>by
  have h1:=Hq l (n+1) (He n u w);have h2:=O1 n u w;simp only [nU,vR,List.map_cons,List.sum_cons] at *;omega
def MN (us:List cv) (i:Nat) (hi:i<us.length):vR (us.take i)+(us[i].text.length+us[i].data.length+us[i].bj.length+us[i].aU.length)+vR (us.drop (i+1))=vR us:=by
 have:us=us.take i++us[i]::us.drop (i+1):=by rw [<- aw9 hi,ce9]
 conv=>rhs; rw [this]
 unfold vR;rw [ao9,fq9,bq9,cn9];omega
structure FN (h:Hp) (B:Nat) (us lb:bU) (sp:Int) (w:LW):Prop where
 box:RX h (B+3) us lb B (B+1) (B+2) sp
 maps:LM h B (B+1) (B+2) w
 qW:SL h (B+4) 157 4 lb.p lb.l lb.c (w.lb.map QV)
def FN.an {h h':Hp} {B:Nat} {us lb:bU} {sp:Int} {w:LW} (s:FN h B us lb sp w) (e:Ext h h'):FN h' B us lb sp w :=
 ⟨s.box.an e aj,s.maps.an e aj aj aj,s.qW.an e aj⟩
def FN.lt {h:Hp} {B:Nat} {us lb:bU} {sp:Int} {w:LW} (s:FN h B us lb sp w):B+4<=h.size:=by have:=s.box.lt; omega
def Yx:Tryz.prog.underlying 106=some (.slice 157):=ax
def ZE:(Tryz.prog.info? 157).map (fun i=>(i.zero,i.size,i.bytes))=some (some (.agg #[vI 0,vI 0,vI 0,.string ⟨#[]⟩]),4,40):=ax
def OO (a b c:Int) (s:Xaa):Instr.fill (fun j=>some (j*4,4)) ((Array.range (1*4)).map ((Value.agg #[vI 0,vI 0,vI 0,.string ⟨#[]⟩]).cells[· % (Value.agg #[vI 0,vI 0,vI 0,.string ⟨#[]⟩]).cells.size]!)) [(0,.agg #[vI a,vI b,vI c,.string s])]=some ([vI a,vI b,vI c,.string s]:List Xab).toArray:=ax
section
variable {h0:Hp} {B:Nat} {us:bU} {sp:Int}
def Im {h:Hp} {lb:bU} {w:LW} (hB:h0.size=B) (e0:Ext h0 h) (s:FN h B us lb sp w) {p:Xac} {l c:Nat} {yw:List cv} (v:xA h0 p l yw) (hlen:w.lb.length+vR yw<=2^30) (hnu:yw.length<=2^20) (hwl:lb.l=w.lb.length) :
  HC Xaz 31 #[ptr (B+3),.slice p l c] h fun x h'=>x=.tuple #[]/\∃ f,FN h' B us f sp (nU 0 yw w)/\Ext h0 h':=by
 refine bd (args:=[ptr (B+3),.slice p l c]) mixed Tryz.func31 ax (ob (some ⟨B+3,0,none⟩) p l c) ?_;unfold jJ aY bh bt aI bn bQ aF bG bg cm aQ;have hll:=v.len;refine aT (cs:=cI) (fun y H h'=>∃ (n:Nat) (f:bU),y.1=(n:Int)/\n<=l/\H=l-n/\Ext h0 h'/\FN h' B us f sp (nU 0 (yw.take n) w)) ((0:Int),()) l rfl ⟨0,lb,rfl,ad,ad,e0,s⟩ ?_;clear s e0;rintro ⟨n2,⟨⟩⟩ H h1 ⟨n,lb1,hn,hnl,rfl,e1,s1⟩;simp only at hn;subst hn;refine ao ?_;refine aR ?_ ?_<;>intro q
 ·have R:n<yw.length:=ad
  obtain ⟨a,m,o,F,td,ha,hc,hu⟩:=v.cells n R;have htk:yw.take (n+1)=yw.take n++[yw[n]]:=ae9 R;have hL:=MN yw n R;have hwn:=Hq (yw.take n) 0 w;generalize yw[n]=u at hc hu htk hL;generalize hw1:nU 0 (yw.take n) w=L at *;refine bS ha ?_;rw [cr n];refine ay ((m.p,m.l,m.c),(o.p,o.l,o.c),(F.p,F.l,F.c),(td.p,td.l,td.c),()) (aM e1 aj _ _ hc) (ao ?_);refine br ?_;intro h2 b2 e2 z2;refine bR b2 ?_;intro h3 S k3 z3;have S:bC h3 h1.size 70 [m.v,o.v,F.v,td.v]:=S;have e13:Ext h1 h3:=bY e2 k3;refine az S ((m.p,m.l,m.c),()) (ao ?_);rw [aE];refine az S ((o.p,o.l,o.c),()) (ao ?_);refine nS RU ZB ad ad (Q9 m.p m.l m.c o.p o.l o.c) ?_;intro h4 b4 e4 z4;have b4:bC h4 h3.size 46 [m.v,o.v]:=b4;have e14:=e13.trans e4;have b34:=S.an e4 aj;have l1:=s1.lt;have q3:=S.lt;have hsec:∀ k,k<2->∃ s:bU,([m.v,o.v]:List Xab).drop k=s.v::([m.v,o.v]:List Xab).drop (k+1)/\FJ h0 s.p s.l (Ae u k):=by
   intro k hk
   have:k=0\/k=1:=ad
   rcases this with rfl | rfl
   ·exact ⟨m,rfl,hu.text⟩
   ·exact ⟨o,rfl,hu.data⟩
  let I:Nat->LW:=fun k=>if k=0 then L else if k=1 then je n 0 0 u.text L else je n 1 0 u.data (je n 0 0 u.text L)
  have hwS:∀ k,k<2->I (k+1)=je n k 0 (Ae u k) (I k):=by
   intro k hk
   have:k=0\/k=1:=ad
   rcases this with rfl | rfl <;> rfl
  have hwSl:∀ k,k<=2->(I k).lb.length<=L.lb.length+(if k=0 then 0 else if k=1 then u.text.length else u.text.length+u.data.length):=by
   intro k hk
   have:k=0\/k=1\/k=2:=ad
   rcases this with rfl | rfl | rfl
   ·simp [I]
   ·exact mK n 0 u.text 0 L
   ·have h1:=mK n 0 u.text 0 L;have h2:=mK n 1 u.data 0 (je n 0 0 u.text L);show (je n 1 0 u.data (je n 0 0 u.text L)).lb.length<=L.lb.length+(u.text.length+u.data.length);omega
  refine aT (cs:=cI) (fun y H h'=>∃ (k:Nat) (f:bU),y.1=(k:Int)/\k<=2/\H=2-k/\Ext h0 h'/\FN h' B us f sp (I k)/\(h1.size∉aJ f.p/\h3.size∉aJ f.p)/\bC h' h1.size 70 [m.v,o.v,F.v,td.v]/\bC h' h3.size 46 [m.v,o.v]) ((0:Int),()) 2 rfl
   ⟨0,lb1,rfl,ad,ad,e1.trans e14,s1.an e14,⟨fun hm=>by have:=(s1.qW.cB hm).2; omega,fun hm=>by have:=(s1.qW.cB hm).2; omega⟩,b34,b4⟩ ?_
  clear b4 b34 e4 e14 S z4;rintro ⟨n26,⟨⟩⟩ H h5 ⟨k,lb2,hk,hk2,rfl,e5,s5,d2,U,P⟩;simp only at hk;subst hk;refine ao ?_;refine aR ?_ ?_<;>intro q
  ·have hk:k<2:=ad
   obtain ⟨sl,hsl,vs⟩:=hsec k hk;have hwk:=hwS k hk;have hwkl:=hwSl k ad;have V:(Ae u k).length+(if k=0 then 0 else if k=1 then u.text.length else u.text.length+u.data.length)<=u.text.length+u.data.length:=by
    have:k=0\/k=1:=ad
    rcases this with rfl | rfl
    ·simp [Ae]
    ·simp [Ae]; omega
   refine bS rfl ?_;rw [aE];refine bI P ((sl.p,sl.l,sl.c),()) (by rw [show 0+(k:Int).toNat*1=k from ad,hsl]; rfl) ?_;refine ao ?_;generalize hxs:Ae u k=xs at vs hwk V;generalize hwkk:I k=W at *;have lk:=vs.len;refine aT (cs:=cI) (fun y H h'=>∃ (i:Nat) (f:bU),y.1=(i:Int)/\i<=sl.l/\H=sl.l-i/\Ext h0 h'/\FN h' B us f sp (je n k 0 (xs.take i) W)/\(h1.size∉aJ f.p/\h3.size∉aJ f.p)/\bC h' h1.size 70 [m.v,o.v,F.v,td.v]/\bC h' h3.size 46 [m.v,o.v]) ((0:Int),()) sl.l rfl
    ⟨0,lb2,rfl,ad,ad,e5,s5,d2,U,P⟩ ?_
   clear e5 s5 U P;rintro ⟨n31,⟨⟩⟩ H X ⟨i,d,hi,hil,rfl,Q,M,d3,U,P⟩;simp only at hi;subst hi;refine ao ?_;refine aR ?_ ?_<;>intro q
   ·have J:i<xs.length:=ad
    obtain ⟨aa,pp,ll,cc,Y,K,Z⟩:=vs.cells i J;have htk2:xs.take (i+1)=xs.take i++[xs[i]]:=ae9 J;have hli:(je n k 0 (xs.take i) W).lb.length<=W.lb.length+i:=by
     have:=mK n k (xs.take i) 0 W
     rw [az9] at this;omega
    have C:je n k 0 (xs.take (i+1)) W=jT n k i xs[i] (je n k 0 (xs.take i) W):=by
     rw [htk2,De,az9,bu9,dc9 ad]
    generalize xs[i]=x at K Z C;generalize hwi:je n k 0 (xs.take i) W=wi at *;refine bS Y ?_;rw [cr i];refine ay (x.kind,x.name,x.inst.op,x.inst.a,x.inst.b,x.inst.n,x.inst.form,(pp,ll,cc),(x.e.num:Int),x.n,()) (aM Q aj _ _ K) (ao ?_);refine br ?_;intro h7 b7 e7 z7;refine bR b7 ?_;intro h8 G k8 z8;have G:bC h8 X.size 55 (Ob.encI pp ll cc x):=G;have t:Ext X h8:=bY e7 k8;have bu8:=U.an t aj;have bs8:=P.an t aj;have s8:=M.an t;have hw:=ic i;have l6:=M.lt;have q6:=G.lt;refine az G (x.kind,()) (ao ?_);refine aw ?_ ?_<;>intro r
    ·have r:x.kind=1:=by simpa using r
     have hp:jT n k i x wi={ wi with num:=pT wi.num (n,x.name) wi.lb.length,nn:=if (wi.num (n,x.name)).isSome then wi.nn else wi.nn+1,lb:=wi.lb++[⟨n,k,i,x.name⟩] }:=by unfold jT; rw [ag9 r]
     refine bm rfl ?_;rw [aE];refine az s8.box (some B,()) (ao ?_);rw [aE];refine az G (x.name,()) (ao ?_);refine bm rfl ?_;rw [aE];refine az s8.box ((d.p,d.l,d.c),()) (ao ?_);have hlb3:d.l=wi.lb.length:=by rw [s8.qW.1,ab9]
     refine UX s8.maps.n n x.name (w:=wi.lb.length) ad ?_;intro h9 m9 E z9;have x9:=s8.box.an E aj;have me9:=s8.maps.e.an E aj;have mg9:=s8.maps.g.an E aj;have ls9:=s8.qW.bK E (fun j N=>by have:=(s8.qW.cB N).1; simp; omega);have b9:=G.an E (by simp; omega);refine bm rfl ?_;rw [aE];refine az x9 ((d.p,d.l,d.c),()) (ao ?_);refine az b9 (x.name,()) (ao ?_);refine gR (e:=157) (z:=.agg #[vI 0,vI 0,vI 0,.string ⟨#[]⟩]) (sz:=4) (by':=40) Yx ZE rfl ad ad (OO _ _ _ _) rfl rfl ls9 ad ad ad (fun h' e=>⟨(b9.an e aj).cells _ rfl,(x9.an e aj).cells _ rfl,trivial⟩) ?_;intro p' c' h10 s10 A hp10;have O:∀ j,j<B+4->j∉aJ d.p:=fun j h1 h2=>by have:=(s8.qW.cB h2).1; omega
     have nin2:∀ j,X.size<=j->j∉aJ d.p:=fun j h1 h2=>by have:=(M.qW.cB h2).2; omega
     have b10:=b9.an A (nin2 _ ad);have x10:=x9.an A (O _ ad);refine ⟨⟨b10.cells _ rfl,trivial⟩,?_⟩;refine bm rfl ?_;rw [aE];refine bR x10 ?_;intro h11 x11 D z11;have x11:RX h11 (B+3) us ⟨p',d.l+1,c'⟩ B (B+1) (B+2) sp:=x11;rw [hw];have e611:Ext h0 h11:=Ch.trans (Ch.trans (bY (Q.trans t) E) A (fun j N hl=>by have:=(s8.qW.cB N).1; omega)) D (fun j N hl=>by simp at N; omega);have q56:h1.size<h3.size:=q3;have q36:h3.size<X.size:=P.lt;have d4:h1.size∉aJ p'/\h3.size∉aJ p':=by
      rcases hp10 with rfl | ⟨a',rfl,ha'⟩
      ·exact d3
      ·simp only [aJ,List.mem_singleton]; omega
     refine aG (cs:=cI) (((i+1:Nat):Int),()) (sl.l-(i+1)) rfl ad rfl ⟨i+1,⟨p',d.l+1,c'⟩,rfl,ad,rfl,e611,?_,d4,?_,?_⟩
     ·rw [C,hp];refine ⟨x11,⟨(m9.an A (O _ ad)).an D aj,(me9.an A (O _ ad)).an D aj,(mg9.an A (O _ ad)).an D aj⟩,?_⟩;show SL h11 (B+4) 157 4 p' (d.l+1) c' ((wi.lb++[(⟨n,k,i,x.name⟩:Lb)]).map QV);rw [ao9];exact s10.bK D (fun j N=>by have:=(s10.cB N).1; simp; omega)
     ·exact ((bu8.an E (by simp; omega)).an A d3.1).an D (by simp; omega)
     ·exact ((bs8.an E (by simp; omega)).an A d3.2).an D (by simp; omega)
    ·have r:¬ x.kind=1:=by simpa using r
     have hp:jT n k i x wi=wi:=by unfold jT; rw [ac9 r]
     rw [hw];refine aG (cs:=cI) (((i+1:Nat):Int),()) (sl.l-(i+1)) rfl ad rfl ⟨i+1,d,rfl,ad,rfl,Q.trans t,by rw [C,hp]; exact s8,d3,bu8,bs8⟩
   ·have hi:i=xs.length:=ad
    subst hi;rw [bv9 (aq9 _)] at M;have hw:=ic k;rw [hw];refine aG (cs:=cI) (((k+1:Nat):Int),()) (2-(k+1)) rfl ad rfl ⟨k+1,d,rfl,ad,rfl,Q,by rw [hwk]; exact M,d3,U,P⟩
  ·have hk:k=2:=ad
   subst hk;clear P;rw [aE];refine az U ((F.p,F.l,F.c),()) (ao ?_);have ve:=hu.bj;have le:=ve.len;have hw2:I 2=je n 1 0 u.data (je n 0 0 u.text L):=rfl;have hne:∀ (i:Nat),(hi:i<u.bj.length)->(u.bj.take (i+1)).foldl (vP n) (I 2)=vP n ((u.bj.take i).foldl (vP n) (I 2)) (u.bj[i]'ad):=by
    intro i hi;rw [ae9 hi,ch9] <;> rfl
   refine aT (cs:=cI) (fun y H h'=>∃ (i:Nat),y.1=(i:Int)/\i<=F.l/\H=F.l-i/\Ext h0 h'/\FN h' B us lb2 sp ((u.bj.take i).foldl (vP n) (I 2))) ((0:Int),()) F.l rfl
    ⟨0,rfl,ad,ad,e5,s5⟩ ?_
   clear e5 s5 U;rintro ⟨n30,⟨⟩⟩ H X ⟨i,hi,hil,rfl,Q,M⟩;simp only at hi;subst hi;refine ao ?_;refine aR ?_ ?_<;>intro q
   ·have J:i<u.bj.length:=ad
    obtain ⟨aa,pp,ll,cc,Y,K,Z,hsz⟩:=ve.cells i J;have hne:=hne i J;generalize u.bj[i]=x at K Z hsz hne;generalize hwi:(u.bj.take i).foldl (vP n) (I 2)=wi at *;refine bS Y ?_;rw [cr i];refine ay (x.1,(pp,ll,cc),(x.2.num:Int),()) (aM Q aj _ _ K) (ao ?_);refine br ?_;intro h7 b7 e7 z7;refine bR b7 ?_;intro h8 G k8 z8;have G:bC h8 X.size 116 [.string x.1,.slice pp ll cc,.int .u32 (x.2.num:Int)]:=G;have t:Ext X h8:=bY e7 k8;have s8:=M.an t;have l6:=M.lt;have q6:=G.lt;refine bm rfl ?_;rw [aE];refine az s8.box (some (B+1),()) (ao ?_);refine az G (x.1,()) (ao ?_);refine bm rfl ?_;rw [aE];refine az s8.box (some (B+1),()) (ao ?_);refine Yl s8.maps.e ?_;refine ⟨⟨G.cells _ rfl,s8.box.cells _ rfl,trivial⟩,?_⟩;refine UX s8.maps.e n x.1 (w:=wi.ne) rfl ?_;intro h9 m9 E z9;have hw:=ic i;rw [hw];refine aG (cs:=cI) (((i+1:Nat):Int),()) (F.l-(i+1)) rfl ad rfl ⟨i+1,rfl,ad,rfl,bY (Q.trans t) E,?_⟩;rw [hne];exact ⟨s8.box.an E aj,⟨s8.maps.n.an E aj,m9,s8.maps.g.an E aj⟩,s8.qW.bK E (fun j N=>by have:=(s8.qW.cB N).1; simp; omega)⟩
   ·have hi:i=u.bj.length:=ad
    subst hi;rw [bv9 (aq9 _)] at M;have hw:=ic n;rw [hw];refine aG (cs:=cI) (((n+1:Nat):Int),()) (l-(n+1)) rfl ad rfl ⟨n+1,lb2,rfl,ad,rfl,Q,?_⟩;rw [htk,Db,az9,bu9,dc9 ad,hw1];exact M
 ·have hn:n=yw.length:=ad
  subst hn;rw [bv9 (aq9 _)] at s1;exact ⟨rfl,lb1,s1,e1⟩
end
def wj (n:Nat) (w:LW) (s:Xaa):LW:={ w with gl:=dT w.gl s n,ng:=if (w.gl s).isSome then w.ng else w.ng+1 }
def Hb (n:Nat) (u:cv) (w:LW):LW:=u.aU.foldl (wj n) w
def lr:Nat->List cv->LW->Except (Nat × Xaa) LW
 | _,[],w=>.ok w
 | n,u::us,w=>match u.aU.find? fun g=>(w.gl g).isSome with
  | some g=>.error (n,g)
  | none=>lr (n+1) us (Hb n u w)
theorem QP (n:Nat):∀ (l:List Xaa) (w:LW),(l.foldl (wj n) w).lb=w.lb/\(l.foldl (wj n) w).num=w.num/\(l.foldl (wj n) w).nn=w.nn/\(l.foldl (wj n) w).sK=w.sK/\(l.foldl (wj n) w).ne=w.ne
 | [],w=>⟨rfl,rfl,rfl,rfl,rfl⟩
 | e::l,w=>by rw [bt9]; exact QP n l _
section
variable {h0:Hp} {B:Nat} {us lb:bU} {sp:Int}
def LG {h:Hp} {w:LW} (hB:h0.size=B) (e0:Ext h0 h) (s:FN h B us lb sp w) {p:Xac} {l c:Nat} {yw:List cv} (v:xA h0 p l yw) (hnu:yw.length<=2^20) :
  HC Xaz 32 #[ptr (B+3),.slice p l c] h fun x h'=>Ext h0 h'/\match lr 0 yw w with
   | .error q=>x=.tuple #[.agg #[vI 22,vI (q.1:Int),.string q.2],.bool true]
   | .ok w'=>x=.tuple #[.agg #[vI 0,vI 0,.string ⟨#[]⟩],.bool false]/\FN h' B us lb sp w':=by
 refine bd (args:=[ptr (B+3),.slice p l c]) mixed Tryz.func32 ax (oI (some ⟨B+3,0,none⟩) p l c) ?_;unfold kI aY bh bt aI bQ bG bg cm aQ cn;have hll:=v.len;generalize o:lr 0 yw w=M;refine br ?_;intro h1 F Y z1;have l0:=s.lt;refine aT (cs:=gT) (fun y z h'=>∃ (n:Nat) (w':LW),y.2.1=(n:Int)/\n<=l/\z=l-n/\Ext h0 h'/\FN h' B us lb sp w'/\bC h' h.size 77 [vI 0,vI 0,.string ⟨#[]⟩]/\lr n (yw.drop n) w'=M) (false,(0:Int),()) l rfl
  ⟨0,w,rfl,ad,ad,e0.trans Y,s.an Y,F,o⟩ ?_
 have z0:=e0.size;have R:∀ i,i∈aJ lb.p->i<h.size:=fun i hi=>(s.qW.cB hi).2
 clear o s F;rintro ⟨b3,n4,⟨⟩⟩ z h2 ⟨n,w,hn,hnl,rfl,S,s,F,o⟩;simp only at hn;subst hn;refine ao ?_;have q1:=F.lt;refine aR ?_ ?_<;>intro q
 ·have H:n<yw.length:=ad
  obtain ⟨a,N,O,P,b,ha,hc,Z⟩:=v.cells n H;rw [aw9 H] at o;generalize yw[n]=u at hc Z o;refine bS ha ?_;rw [cr n];refine ay ((N.p,N.l,N.c),(O.p,O.l,O.c),(P.p,P.l,P.c),(b.p,b.l,b.c),()) (aM S aj _ _ hc) (ao ?_);refine br ?_;intro h3 d e3 z3;refine bR d ?_;intro h4 I k4 z4;have I:bC h4 h2.size 70 [N.v,O.v,P.v,b.v]:=I;have A:Ext h2 h4:=bY e3 k4;have e04:=S.trans A;have s4:=s.an A;have b14:=F.an A aj;have vg:=Z.aU;have lg:=vg.len;have mg:=vg.many;have q4:=I.lt;have l2:=s.lt;rw [aE];refine az I ((b.p,b.l,b.c),()) (ao ?_);refine aT (cs:=gT) (fun y z h'=>∃ (i:Nat),y.2.1=(i:Int)/\i<=b.l/\z=b.l-i/\h'=h4/\∀ j,(f:j<i)->(hx:j<u.aU.length)->(w.gl u.aU[j]).isSome=false) (b3,(0:Int),()) b.l rfl
   ⟨0,rfl,ad,ad,rfl,by intro j f; omega⟩ ?_
  rintro ⟨J,n23,⟨⟩⟩ z h5 ⟨i,hi,hil,rfl,rfl,C⟩;simp only at hi;subst hi;refine ao ?_;refine aR ?_ ?_<;>intro q
  ·have k:i<u.aU.length:=ad
   obtain ⟨aa,D,t,E⟩:=vg.cells i k;refine bS D ?_;rw [cr i];refine ay (u.aU[i],()) (aM e04 aj _ _ t) (ao ?_);refine bm rfl ?_;rw [aE];refine az s4.box (some (B+2),()) (ao ?_);refine EK s4.maps.g u.aU[i] ?_;refine aw ?_ ?_<;>intro r
   ·refine bR b14 ?_;intro h6 U k6 z6;have U:bC h6 h.size 77 [vI 22,vI (n:Int),.string u.aU[i]]:=U;refine az U ((22:Int),(n:Int),u.aU[i],()) ?_;have hf:M=.error (n,u.aU[i]):=by
     rw [<- o,lr,lQ _ u.aU i k (fun j f=>C j f ad) r]
    subst hf;exact ⟨bY e04 k6,rfl⟩
   ·have hw:=ic i;rw [hw];refine aG (cs:=gT) (J,((i+1:Nat):Int),()) (b.l-(i+1)) rfl ad rfl ⟨i+1,rfl,ad,rfl,rfl,fun j f hx=>?_⟩
    by_cases V:j=i
    ·subst V; exact r
    ·exact C j ad hx
  ·have hi:i=u.aU.length:=ad
   subst hi;have W:lr (n+1) (yw.drop (n+1)) (Hb n u w)=M:=by
    rw [<- o,lr,oL _ u.aU (fun j f=>C j f f)]
   refine az I ((b.p,b.l,b.c),()) (ao ?_);refine aT (cs:=cI) (fun y z h'=>∃ (i:Nat),y.1=(i:Int)/\i<=b.l/\z=b.l-i/\Ext h0 h'/\FN h' B us lb sp ((u.aU.take i).foldl (wj n) w)/\bC h' h.size 77 [vI 0,vI 0,.string ⟨#[]⟩]) ((0:Int),()) b.l rfl
    ⟨0,rfl,ad,ad,e04,s4,b14⟩ ?_
   clear s4 b14;rintro ⟨n27,⟨⟩⟩ z h6 ⟨i,hi,hil',rfl,X,m,K⟩;simp only at hi;subst hi;refine ao ?_;refine aR ?_ ?_<;>intro q
   ·have k:i<u.aU.length:=ad
    obtain ⟨aa,D,t,E⟩:=vg.cells i k;have L:(u.aU.take (i+1)).foldl (wj n) w=wj n ((u.aU.take i).foldl (wj n) w) u.aU[i]:=by
     rw [ae9 k,ch9] <;> rfl
    generalize u.aU[i]=x at t E L;generalize (u.aU.take i).foldl (wj n) w=wi at *;refine bS D ?_;rw [cr i];refine ay (x,()) (aM X aj _ _ t) (ao ?_);refine bm rfl ?_;rw [aE];refine az m.box (some (B+2),()) (ao ?_);have l6:=m.lt;refine rT m.maps.g E (w:=n) rfl ?_;intro h7 m7 G z7;have hw:=ic i;rw [hw];refine aG (cs:=cI) (((i+1:Nat):Int),()) (b.l-(i+1)) rfl ad rfl ⟨i+1,rfl,ad,rfl,bY X G,?_,K.an G (by simp; omega)⟩;rw [L];exact ⟨m.box.an G aj,⟨m.maps.n.an G aj,m.maps.e.an G aj,m7⟩,m.qW.bK G (fun j f=>by have:=(m.qW.cB f).1; simp; omega)⟩
   ·have hi:i=u.aU.length:=ad
    subst hi;rw [bv9 (aq9 _)] at m;have hw:=ic n;rw [hw];exact aG (cs:=gT) (J,((n+1:Nat):Int),()) (l-(n+1)) rfl ad rfl ⟨n+1,_,rfl,ad,rfl,X,m,K,W⟩
 ·have hn:n=yw.length:=ad
  subst hn;rw [eq9 (aq9 _)] at o;subst o;refine bR F ?_;intro h3 d Q z3;have d:bC h3 h.size 77 [vI 0,vI 0,.string ⟨#[]⟩]:=d;refine az d ((0:Int),(0:Int),(⟨#[]⟩:Xaa),()) ?_;refine ⟨bY S Q,rfl,?_⟩;exact ⟨s.box.an Q (by simp; omega),s.maps.an Q (by simp; omega) (by simp; omega) (by simp; omega),s.qW.bK Q (fun j f=>by have:=R j f; simp; omega)⟩
end
end Go.Sx.Lk
namespace Go.Sx.Ob
open Go.Proofs
def XF (x:cC):Bool:=decide (x.kind=2) && tR x.inst.op
def km (l:List cC):Nat:=(l.filter XF).length
def Jv (l:List cC) (i:Nat) (hi:i<l.length):km (l.take (i+1))=km (l.take i)+if XF l[i]=true then 1 else 0:=by
 unfold km;rw [ae9 hi,List.filter_append,af9]
 congr 1
 by_cases hk:XF l[i]=true <;> simp [hk]
def AN (l:List cC):km l<=l.length:=do9 _ _
def LR {h:Hp} (t:yO h) {a b c d:bU} {u:cv} (v:uD h a b c d u):HC Xaz 36 #[F9 a b c d] h fun w h'=>w=vI ((if fz u=0 then km u.text else 0:Nat):Int)/\Ext h h':=by
 refine bd (args:=[F9 a b c d]) mixed Tryz.func36 ax (Aa a.p a.l a.c b.p b.l b.c c.p c.l c.c d.p d.l d.c) ?_;unfold xj aY bh bt aI aZ cQ aF bg cm aQ;refine br ?_;intro h1 j o z1;have j:bC h1 h.size 70 [a.v,b.v,c.v,d.v]:=j;refine az j ((a.p,a.l,a.c),(b.p,b.l,b.c),(c.p,c.l,c.c),(d.p,d.l,d.c),()) (ao ?_);refine aK (w9 (t.an o aj) (v.an o)) ?_;rintro _ h2 ⟨rfl,B⟩;refine ⟨((fz u:Int),()),rfl,ao ?_⟩;have e02:=o.trans B;refine aw ?_ ?_<;>intro r
 ·have r:¬ fz u=0:=by simpa using r
  rw [ac9 r];exact ⟨rfl,e02⟩
 have r:fz u=0:=by simpa using r
 rw [ag9 r];have b2:=j.an B aj;refine az b2 ((a.p,a.l,a.c),()) (ao ?_);have n:=v.text.len;have m1:=v.text.many;refine aT (cs:=gb) (fun y m h'=>∃ i:Nat,y.2.1=(i:Int)/\y.1=(km (u.text.take i):Int)/\m=u.text.length-i/\i<=u.text.length/\Ext h h') ((0:Int),(0:Int),()) u.text.length rfl
  ⟨0,rfl,rfl,rfl,ad,e02⟩ ?_
 rintro ⟨L,M,⟨⟩⟩ m g ⟨i,hi,hn,rfl,F,z⟩;simp only at hi hn;subst hi hn;refine ao ?_;refine aR ?_ ?_<;>intro q
 ·have f:i<u.text.length:=ad
  obtain ⟨N,pp,C,D,rfl',hc,A⟩:=(v.text.an z).cells i f;have ht:=Jv u.text i f;have G:km (u.text.take i)<=i:=by have:=AN (u.text.take i); rw [az9] at this; omega
  generalize u.text[i]=x at hc A ht;refine hZ (bm rfl' ?_);rw [cr i];refine ay (x.kind,x.name,x.inst.op,x.inst.a,x.inst.b,x.inst.n,x.inst.form,(pp,C,D),(x.e.num:Int),x.n,()) hc (ao ?_);refine br ?_;intro O H I P;refine bR H ?_;intro g2 k J Q;have k:bC g2 g.size 55 (encI pp C D x):=k;have K:Ext g g2:=bY I J;have eg2:=z.trans K;refine az k (x.kind,()) (ao ?_);refine aw ?_ ?_<;>intro r
  ·have r:x.kind=2:=by simpa using r
   rw [aE];refine az k (x.inst.op,()) (ao ?_);refine aK (G4 (t.an eg2 aj) x.inst.op A.op.1 A.op.2) ?_;rintro _ R ⟨rfl,E⟩;refine ⟨(tR x.inst.op,()),rfl,ao ?_⟩;refine aw ?_ ?_<;>intro s
   ·rw [ag9 (by unfold XF; rw [aj9 r,s]; rfl)] at ht;refine aG (cs:=gb) (((km (u.text.take i)+1:Nat):Int),((i+1:Nat):Int),()) (u.text.length-(i+1)) rfl ad (by rw [wrap_i64 ad ad,wrap_i64 ad ad]; rfl) ?_;exact ⟨i+1,rfl,by rw [ht],rfl,ad,eg2.trans E⟩
   ·rw [ac9 (by unfold XF; rw [aj9 r,s]; decide)] at ht;refine aG (cs:=gb) ((km (u.text.take i):Int),((i+1:Nat):Int),()) (u.text.length-(i+1)) rfl ad (by rw [wrap_i64 ad ad]; rfl) ?_;exact ⟨i+1,rfl,by rw [ht]; rfl,rfl,ad,eg2.trans E⟩
  ·have r:¬ x.kind=2:=by simpa using r
   rw [ac9 (by unfold XF; rw [ak9 r]; simp)] at ht;refine aG (cs:=gb) ((km (u.text.take i):Int),((i+1:Nat):Int),()) (u.text.length-(i+1)) rfl ad (by rw [wrap_i64 ad ad]; rfl) ?_;exact ⟨i+1,rfl,by rw [ht]; rfl,rfl,ad,eg2⟩
 ·have:i=u.text.length:=ad
  subst this;rw [bj9];exact ⟨rfl,z⟩
end Go.Sx.Ob
namespace Go.Sx.Lk
open Go.Proofs Go.Sx.Ob
variable {fs:List cV}
structure kV where
 s:bU
 ws:List (bU × cC)
def YY:kV:=⟨nu,[]⟩
structure nB (h:Hp) (b:Nat) (x:kV):Prop where
 out:SL h b 55 10 x.s.p x.s.l x.s.c (x.ws.map ub)
 fC:∀ u,u∈x.ws->SL h b 64 2 u.1.p u.1.l u.1.c (u.2.e.ah.map dp)
variable {O:Hp} {H U V:Nat}
def nB.an {h':Hp} {x:kV} {ws:List Nat} (s:nB O H x) (k:Ch ws O h') (h1:∀ i,i∈aJ x.s.p->i∉ws) (h2:∀ u,u∈x.ws->∀ i,i∈aJ u.1.p->i∉ws):nB h' H x :=
 ⟨s.out.bK k h1,fun u a=>(s.fC u a).bK k (h2 u a)⟩
def nB.ext {h':Hp} {x:kV} (s:nB O H x) (k:Ext O h'):nB h' H x:=s.an k aj aj
def nB.mono {h:Hp} {b b':Nat} {x:kV} (s:nB h b x) (a:b'<=b):nB h b' x:=⟨s.out.mono a,fun u c=>(s.fC u c).mono a⟩
structure lU (h:Hp) (b N:Nat) (S:Nat->kV):Prop where
 sec:∀ k,k<N->nB h b (S k)
 ap:∀ k j,k<N->j<N->k≠j->∀ x,x∈aJ (S k).s.p->x∉aJ (S j).s.p
def lU.ext {h h':Hp} {b N:Nat} {S:Nat->kV} (s:lU h b N S) (k:Ext h h'):lU h' b N S:=⟨fun j a=>(s.sec j a).ext k,s.ap⟩
def lU.nH {h':Hp} {S:Nat->kV} {ws:List Nat} (s:lU O H U S) (k:Ch ws O h') (d:∀ i,i∈ws->i<H):lU h' H U S :=
 ⟨fun j a=>(s.sec j a).an k (fun i hi c=>by have:=((s.sec j a).out.cB hi).1; have:=d i c; omega) (fun u e i hi c=>by have:=(((s.sec j a).fC u e).cB hi).1; have:=d i c; omega),s.ap⟩
variable {Y:Xac}
def lU.sQ {h':Hp} {S:Nat->kV} {e:TypeId} {sz l c:Nat} {xs:List (List Xab)} (s:lU O H U S) (t:SL O V e sz Y l c xs) (k:Ch (aJ Y) O h') (h1:e≠55) (h2:e≠64):lU h' H U S :=
 ⟨fun j a=>(s.sec j a).an k (fun i hi d=>wy t (s.sec j a).out h1 i d hi) (fun u f i hi d=>wy t ((s.sec j a).fC u f) h2 i d hi),s.ap⟩
def lN (S:Nat->kV) (k:Nat) (x:kV):Nat->kV:=fun j=>if j=k then x else S j
def lU.nil (h:Hp) (b:Nat) (S:Nat->kV):lU h b 0 S:=⟨fun k hk=>absurd hk ad,fun k j hk=>absurd hk ad⟩
variable {Z:Nat->kV}
def lU.add {h':Hp} (s:lU O H U Z) (e:Ext O h') (l:H<=O.size) {x:kV} (g:nB h' O.size x):lU h' H (U+1) (lN Z U x):=by
 have s':=s.ext e;refine ⟨fun k hk=>?_,fun k j hk m i y d a=>?_⟩
 ·unfold lN
  by_cases c:k=U
  ·rw [ag9 c]; exact g.mono l
  ·rw [ac9 c]; exact s'.sec k ad
 ·unfold lN at d a
  by_cases c:k=U <;> by_cases f:j=U
  ·omega
  ·rw [ag9 c] at d;rw [ac9 f] at a;have h1:=(g.out.cB d).1;have h2:=((s.sec j ad).out.cB a).2;omega
  ·rw [ac9 c] at d;rw [ag9 f] at a;have h1:=(g.out.cB a).1;have h2:=((s.sec k ad).out.cB d).2;omega
  ·rw [ac9 c] at d;rw [ac9 f] at a;exact s.ap k j ad ad i y d a
def lU.put {h':Hp} (s:lU O H U Z) (hk:V<U) {i:Nat} (hi:i<(Z V).ws.length) {q:bU × cC} (A:SL O H 64 2 q.1.p q.1.l q.1.c (q.2.e.ah.map dp))
  (B:SL h' H 55 10 (Z V).s.p (Z V).s.l (Z V).s.c (((Z V).ws.set i q).map ub)) (c:Ch (aJ (Z V).s.p) O h'):lU h' H U (lN Z V ⟨(Z V).s,(Z V).ws.set i q⟩):=by
 have d:∀ {p:Xac} {l c:Nat} {ts:dt},SL O H 64 2 p l c (ts.map dp)->SL h' H 64 2 p l c (ts.map dp):=fun t=>t.bK c (fun x r f=>wy t (s.sec V hk).out bT x r f)
 refine ⟨fun j g=>?_,fun j m g f w y z n=>?_⟩
 ·unfold lN
  by_cases a:j=V
  ·rw [ag9 a];refine ⟨B,fun u o=>?_⟩;rcases dh9 o with o | rfl
   ·exact d ((s.sec V hk).fC u o)
   ·exact d A
  ·rw [ac9 a];exact ⟨(s.sec j g).out.bK c (fun x r f=>s.ap j V g hk a x r f),fun u o=>d ((s.sec j g).fC u o)⟩
 ·have C:∀ j,(lN Z V ⟨(Z V).s,(Z V).ws.set i q⟩ j).s=(Z j).s:=by
   intro j;unfold lN
   by_cases a:j=V
   ·rw [ag9 a,a]
   ·rw [ac9 a]
  rw [C] at z n;exact s.ap j m g f w y z n
def y6 (S:Nat->kV) (n:Nat):List Xab:=[(S (2*n)).s.v,(S (2*n+1)).s.v,nu.v,nu.v]
def nE (S:Nat->kV) (n:Nat):List (List Xab):=(List.range n).map (y6 S)
def Jn (S:Nat->kV) (n:Nat) (a b:kV):nE (lN (lN S (2*n) a) (2*n+1) b) (n+1)=nE S n++[[a.s.v,b.s.v,nu.v,nu.v]]:=by
 unfold nE;rw [fs9,ao9]
 congr 1
 ·apply ck9;intro i hi;have hi:i<n:=dv9.1 hi;unfold y6 lN;rw [ac9 ad,ac9 ad,ac9 ad,ac9 ad]
 ·show [y6 _ n]=_;unfold y6 lN;rw [ac9 ad,ag9 rfl,ag9 rfl]
def jW (S:Nat->kV) (n:Nat):(nE S n).length=n:=by unfold nE; simp
def DY (S:Nat->kV) (n i:Nat) (hi:i<(nE S n).length):(nE S n)[i]=y6 S i:=by
 have:i<n:=by simpa [jW] using hi
 show ((List.range n).map (y6 S))[i]'(by simpa using this)=_;rw [am9,List.getElem_range]
def fg (D:List (Xaa × bM)):List cV:=D.map fun q=>⟨q.1,none,0,0,q.2⟩
def fJ (e:cV):Xaa × bM:=(e.name,e.x)
def qv (D:List (Xaa × bM)):(fg D).map fJ=D:=by
 unfold fg;rw [bf9];exact List.map_id _
def Mx {es:List cV} (h:es.map fJ=fs.map fJ):aX es=aX fs:=by
 have:=as9 (List.map (·.1)) h
 rw [bf9,bf9] at this;exact this
def Kk {es:List cV} (h:es.map fJ=fs.map fJ) (s:Xaa):kT es s=kT fs s:=by
 unfold kT;have a:∀ l:List cV,l.findIdx? (fun e=>decide (e.name=s))=(l.map fJ).findIdx? fun q=>decide (q.1=s):=by
  intro l;rw [fh9] <;> rfl
 rw [a,a,h]
def Eh {es:List cV} (h:es.map fJ=fs.map fJ):cF es=cF fs:=by
 funext s
 unfold cF;rw [Kk h]
def Eg {es:List cV} (h:es.map fJ=fs.map fJ):dB es=dB fs:=by
 funext s
 unfold dB;rw [Kk h];cases kT fs s with
 | none=>rfl
 | some k =>
  have a:es[k]?.map (·.x)=fs[k]?.map (·.x):=by
   have h1:(es.map fJ)[k]?=(fs.map fJ)[k]?:=by rw [h]
   rw [ci9,ci9] at h1;have h2:=as9 (Option.map (·.2)) h1;rw [Option.map_map,Option.map_map] at h2;exact h2
  show (es[k]?.map (·.x)).getD vj=(fs[k]?.map (·.x)).getD vj;rw [a]
def KR {es:List cV} (h:es.map fJ=fs.map fJ):fq es=fq fs:=by
 funext s
 unfold fq;rw [Eh h,Eg h,Mx h]
def Cn {es:List cV} (h:es.map fJ=fs.map fJ):dF es=dF fs:=by
 unfold dF;rw [Eh h,Eg h]
def jr (D:List (Xaa × bM)):List (Xaa × bM):=D.map fun q=>(q.1,fq (fg D) q.1)
def oh (D:List (Xaa × bM)) (x:bM):bM:=dz (cG (fg D)) x
def Hj {es:List cV} (h:es.map fJ=fs.map fJ):cG es=cG fs:=by
 funext s
 unfold cG;rw [Eh h,Eg h]
def eJ:Nat->List cv->List (Nat × sS)
 | _,[]=>[]
 | n,u::us=>u.bj.map (fun e=>(n,e))++eJ (n+1) us
theorem sA (u:cv):∀ (l:List cv) (n:Nat),eJ n (l++[u])=eJ n l++u.bj.map fun e=>(n+l.length,e)
 | [],n=>by simp [eJ]
 | y::l,n=>by
  simp only [List.cons_append,eJ,List.length_cons];rw [sA u l (n+1),show n+1+l.length=n+(l.length+1) from ad,ay9]
def om (w:LW) (us:List cv):List (Xaa × bM):=(eJ 0 us).map fun q=>(w.word (q.1,q.2.1),w.lin q.1 q.2.2)
def sB (w:LW) (n:Nat) (u:cv):Option Xaa:=(w.zX n u.text).or ((w.zX n u.data).or (u.bj.findSome? fun e=>w.bad n e.2))
def fO (w:LW):Nat->List cv->Option (Nat × Xaa)
 | _,[]=>none
 | n,u::us=>match sB w n u with
  | some s=>some (n,s)
  | none=>fO w (n+1) us
def BH (w:LW) (us:List cv) (n:Nat) (hn:n<us.length):fO w n (us.drop n)=match sB w n us[n] with
  | some s=>some (n,s)
  | none=>fO w (n+1) (us.drop (n+1)):=by
 rw [aw9 hn,fO]
noncomputable def lZ (D:List (Xaa × bM)):Option Nat:=by
 classical
 exact D.findIdx? fun q=>decide (kS (dF (fg D)) q.1)
structure Fl where
 rD:Nat
 unit:Nat
 name:Xaa
structure LP where
 w:LW
 us:List cv
 D:List (Xaa × bM)
def LP.fD (P:LP) (n:Nat) (x:cC):cC:={ x with e:=oh (jr P.D) (P.w.lin n x.e) }
noncomputable def mP (us:List cv):Except Fl LP :=
 if us.length=0 then .error ⟨25,0,dW⟩
 else if 64<us.length then .error ⟨4,0,dW⟩
 else match us.findIdx? fun u=>decide (fz u≠0) with
 | some n=>.error ⟨31,n,dW⟩
 | none=>match lr 0 us (nU 0 us UR) with
  | .error q=>.error ⟨22,q.1,q.2⟩
  | .ok w=>match fO w 0 us with
   | some q=>.error ⟨23,q.1,q.2⟩
   | none=>match lZ (om w us) with
    | some i=>.error ⟨24,((eJ 0 us).map fun q=>(q.1,q.2.1)).getD i (0,dW) |>.1,((eJ 0 us).map fun q=>(q.1,q.2.1)).getD i (0,dW) |>.2⟩
    | none=>.ok ⟨w,us,om w us⟩
def cR (u:cv):List bM:=u.text.map (·.e)++u.data.map (·.e)++u.bj.map (·.2)
def HL {x:bM} (h:RW x=true):Good x:=by
 unfold RW at h;simp only [Bool.and_eq_true,decide_eq_true_eq] at h;obtain ⟨t,n⟩:=x;obtain ⟨rfl,rfl⟩:=h;exact ⟨⟨List.Pairwise.nil,aj⟩,aj,bT⟩
def HB {x:cC} (h:cJ x H=true) (hc:∀ t,t∈x.e.ah->t.2<4294967296) (hn:x.e.num<4294967296):Good x.e:=by
 have z:z3 x=true->Good x.e:=HL;unfold cJ at h
 repeat' split at h
 all_goals try simp only [Bool.and_eq_true] at h
 ·exact z h.1.2
 ·have h1:=h.1.1.2;unfold AI at h1;simp only [Bool.and_eq_true] at h1;have h2:=h1.2;split at h2
  ·simp only [Bool.and_eq_true] at h2;exact Fg h2.2 hc hn
  ·simp only [Bool.and_eq_true] at h2;exact HL h2.2
 ·exact z h.2
 ·exact z h.1.2
 ·exact z h.2
 ·exact Fg h.1.1.1.2 hc hn
 ·exact z h.2
 ·cases h
theorem sH {sec:Nat}:∀ {l:List cC} {D:List Xaa},fo sec D l=true->∀ x,x∈l->cJ x sec=true
 | [],_,_,x,a=>by simp at a
 | y::l,D,h,x,a=>by
  unfold fo at h;rw [bm9] at h;rcases be9.1 a with rfl | a
  ·have:=h.1
   unfold zd at this;rw [bm9] at this;exact this.1
  ·exact sH h.2 x a
theorem uN:∀ {l:List sS} {D:List Xaa},hY D l=true->∀ e,e∈l->cE e.1.data.toList=true/\ox none e.2.ah=true
 | [],_,_,x,a=>by simp at a
 | y::l,D,h,x,a=>by
  unfold hY at h;rw [bm9] at h;rcases be9.1 a with rfl | a
  ·have:=h.1
   unfold D1 at this;simp only [Bool.and_eq_true] at this;exact ⟨this.1.2,this.2⟩
  ·exact uN h.2 x a
variable {a:cv}
def BW (h:fz a=0) (hc:∀ x,x∈cR a->x.num<4294967296/\∀ t,t∈x.ah->t.2<4294967296):∀ x,x∈cR a->Good x:=by
 have h1:=(A9 h).2;unfold xr at h1;simp only [Bool.and_eq_true] at h1;obtain ⟨⟨⟨h1,h2⟩,d⟩,e⟩:=h1;intro x b;have hcx:=hc x b;unfold cR at b;rcases ar9.1 b with b | b
 ·rcases ar9.1 b with b | b
  ·obtain ⟨y,c,rfl⟩:=an9.1 b;exact HB (sH h1 y c) hcx.2 hcx.1
  ·obtain ⟨y,c,rfl⟩:=an9.1 b;exact HB (sH h2 y c) hcx.2 hcx.1
 ·obtain ⟨y,c,rfl⟩:=an9.1 b;exact Fg (uN d y c).2 hcx.2 hcx.1
structure H7 (us:List cv):Prop where
 many:us.length<=2^20
 items:vR us<=2^20
 num:∀ u,u∈us->∀ x,x∈cR u->x.num<4294967296/\∀ t,t∈x.ah->t.2<4294967296
 ah:((us.flatMap cR).flatMap (·.ah)).length<=2^20
variable {b:bM}
def H7.len {us:List cv} (s:H7 us) (c:a∈us) (d:b∈cR a):b.ah.length<=2^20:=by
 have h1:b∈us.flatMap cR:=ec9.2 ⟨a,c,d⟩;exact cq9 (iF (·.ah) h1) s.ah
def JR (of:Xaa->Option bM) (t:Xaa × Nat):bM:=match of t.1 with
 | none=>⟨[t],0⟩
 | some y=>vL y t.2
def gn (of:Xaa->Option bM) (o:bM) (t:Xaa × Nat):bM:=j3 o (JR of t)
variable {c:dt}
def KI (l:dt) {k:dt} (hk:Nf k) (hc:∀ s,cf k s % 4294967296=cf c s % 4294967296):GH (FK l) k=FK (l++c) :=
 (Fj (Bp l) hk).MH (Bp _) fun s=>by
  have h1:=hc s;have h2:=Ff (FK l) k s;have h3:=B5 l s;have h4:=B5 (l++c) s;rw [Dc] at h4;omega
theorem Di {of:Xaa->Option bM} (a:∀ s y,of s=some y->Nf y.ah):∀ (ts l:dt) (n:Nat),n<4294967296->(∀ t,t∈ts->t.2≠0/\t.2<4294967296) ->
  ts.foldl (gn of) ⟨FK l,n⟩=⟨FK (l++ts.flatMap (sI of)),ts.foldl (gU of) n⟩
 | [],l,n,_,_=>aj
 | t::ts,l,n,hn,ht=>by
  have h1:gn of ⟨FK l,n⟩ t=⟨FK (l++sI of t),gU of n t⟩/\gU of n t<4294967296:=by
   have ht0:=ht t aj;unfold gn JR sI gU j3;cases b:of t.1 with
   | none =>
    refine ⟨?_,hn⟩;simp only [Nat.add_zero];rw [dx9 hn]
    congr 1
    exact KI l ⟨aj,by simpa using ht0⟩ fun s=>rfl
   | some y =>
    refine ⟨?_,ft9 _ bT⟩;unfold vL;simp only;rw [fm9 y.num t.2]
    congr 1
    refine KI l (LF (a _ _ b)) fun s=>?_
    rw [MO]
    have:=EW t.2 y.ah s
    rw [<- this]
    congr 2
    exact ck9 fun p _=>by rw [fm9]
  rw [bt9,h1.1,Di a ts _ _ h1.2 (fun u c=>ht u (ap9 _ c)),ay9,cd9,bt9]
def Yc:FK []=[]:=Gt Nf.nil
def Fx {of:Xaa->Option bM} (a:∀ s y,of s=some y->Nf y.ah) {x:bM} (b:Nf x.ah) (hn:x.num<4294967296):x.ah.foldl (gn of) ⟨[],x.num⟩=dz of x:=by
 have:=Di a x.ah [] x.num hn b.2
 rw [dj9,Yc] at this;exact this
def CM {of:Xaa->Option bM} (a:∀ s y,of s=some y->Nf y.ah) {x:bM} (b:Nf x.ah) (hn:x.num<4294967296) (i:Nat):(x.ah.take i).foldl (gn of) ⟨[],x.num⟩=dz of ⟨x.ah.take i,x.num⟩ :=
 Fx (x:=⟨x.ah.take i,x.num⟩) a ⟨b.1.sublist (List.take_sublist _ _),fun t ht=>b.2 t (cv9 ht)⟩ hn
def A5 {of:Xaa->Option bM} {t:Xaa × Nat} (ht:t∈(dz of b).ah):∃ u,u∈b.ah/\((of u.1=none/\t.1=u.1)\/∃ y w,of u.1=some y/\w∈y.ah/\w.1=t.1):=by
 obtain ⟨p,e,c⟩:=FE ht;obtain ⟨u,f,a⟩:=ec9.1 e;refine ⟨u,f,?_⟩;unfold sI at a;cases d:of u.1 with
 | none =>
  rw [d] at a;simp only [List.mem_singleton] at a;exact Or.inl ⟨rfl,by rw [<- c,a]⟩
 | some y =>
  rw [d] at a;obtain ⟨w,g,rfl⟩:=an9.1 a;exact Or.inr ⟨y,w,rfl,g,c⟩
def A6 (h:Nf c) {S:List Xaa} (b:∀ t,t∈c->t.1∈S):c.length<=S.length:=by
 have:=kb (c.map (·.1)) S (cr9.2 (h.1.imp fun h=>jX h)) (fun s a=>by
  obtain ⟨t,ht,rfl⟩:=an9.1 a;exact b t ht)
 rwa [ab9] at this
def TN:Option Nat->Int
 | none=>-1
 | some k=>(k:Int)
def WC {es:List cV} {s:Xaa} {i:Nat} (hi:i<es.length) (h:∀ j,(a:j<i)->(es[j]'ad).name≠s) (b:es[i].name=s):kT es s=some i:=by
 unfold kT;rw [bd9];exact ⟨hi,aj9 b,fun j a=>by simpa using h j a⟩
def GS {es:List cV} (v:uV O Y H es) (hl:es.length<=2^60) (s:Xaa):uu Xaz 101 [.slice Y H U,.string s] O (vI (TN (kT es s))):=by
 refine ff mixed Tryz.func101 ax (oE Y H U s) ?_;unfold kL aY bh bt aI aQ;have n:=v.len;refine aT (cs:=gb) (fun y m h'=>∃ i:Nat,y.2.1=(i:Int)/\m=es.length-i/\i<=es.length/\h'=O/\∀ j,j<i->(b:j<es.length)->es[j].name≠s) ((0:Int),(0:Int),()) es.length rfl
  ⟨0,rfl,rfl,ad,rfl,fun j b=>absurd b ad⟩ ?_
 rintro ⟨g,w,⟨⟩⟩ m h' ⟨i,hi,rfl,k,rfl,hn⟩;simp only at hi;subst hi;refine ao ?_;refine aR ?_ ?_<;>intro q
 ·have f:i<es.length:=ad
  obtain ⟨a,o,hc⟩:=v.cells i f;refine bS o ?_;rw [cr i];refine ay (es[i].name,()) ⟨hc.1,trivial⟩ (ao ?_);rw [rJ];refine aR ?_ ?_<;>intro r
  ·refine ⟨as9 (Value.int .i64) ?_,rfl⟩;rw [WC f (fun j b=>hn j b ad) r] <;> rfl
  ·refine aG (cs:=gb) (g,((i+1:Nat):Int),()) (es.length-(i+1)) rfl ad (by rw [wrap_i64 ad ad]; rfl) ?_;exact ⟨i+1,rfl,rfl,ad,rfl,fun j b t=>by
    by_cases e:j=i
    ·subst e; exact r
    ·exact hn j ad t⟩
 ·have:i=es.length:=ad
  subst this;refine ⟨as9 (Value.int .i64) ?_,rfl⟩;rw [Hy fun d u=>by
   obtain ⟨j,b,rfl⟩:=bg9 u;exact hn j b b]
  rfl
end Go.Sx.Lk
namespace Go.Sx
open Go.Proofs
def ltB (a b:Xaa):Op.bytesLess (ByteArray.toList a) (ByteArray.toList b)=decide (iK a b):=by
 rw [ByteArray.toList_eq,ByteArray.toList_eq,Proofs.bytesLess_eq] <;> rfl
def Wu (h:Hp) (a:Nat) (x y:dt) (N:Int) (i j:Nat) (h':Hp):Prop :=
 i<=x.length/\j<=y.length/\Ch [a] h h'/\∃ O p l c f,bC h' a 53 [.slice p l c,.int .u32 N]/\SL h' h.size 64 2 p l c (O.map dp)/\GH x y=O++fL f (x.drop i) (y.drop j)/\(x.length-i)+(y.length-j)<=f/\O.length<=i+j
def NX (f:Nat):fL f [] []=[]:=by cases f <;> rfl
variable {H:Nat} {U:Xaa × Nat} {O V:dt}
def VN {y:dt} (h:y=[]\/∃ q r,y=q::r/\iK U.1 q.1):fL (H+1) (U::O) y=U::fL H O y:=by
 rcases h with rfl | ⟨q,r,rfl,h⟩
 ·rfl
 ·show (if iK U.1 q.1 then _ else _)=_;rw [ag9 h]
def Wg {y:dt} (h:O=[]\/∃ p r,O=p::r/\iK U.1 p.1):fL (H+1) O (U::y)=U::fL H O y:=by
 rcases h with rfl | ⟨p,r,rfl,h⟩
 ·rfl
 ·show (if iK p.1 U.1 then _ else if iK U.1 p.1 then _ else _)=_;rw [ac9 (Dw h),ag9 h]
def Sl {q:Xaa × Nat} {y:dt} (h1:¬ iK U.1 q.1) (h2:¬ iK q.1 U.1):fL (H+1) (U::O) (q::y)=if (U.2+q.2) % 4294967296=0 then fL H O y else (U.1,(U.2+q.2) % 4294967296)::fL H O y:=by
 show (if iK U.1 q.1 then _ else if iK q.1 U.1 then _ else _)=_;rw [ac9 h1,ac9 h2]
def Zx:dt->dt->Bool
 | [],_=>false
 | _::_,[]=>true
 | p::_,q::_=>decide (iK p.1 q.1)
def Gz (h:Zx O V=true):∃ p r,O=p::r/\(V=[]\/∃ q s,V=q::s/\iK p.1 q.1):=by
 cases O with
 | nil=>cases h
 | cons p r =>
  cases V with
  | nil=>exact ⟨p,r,rfl,.inl rfl⟩
  | cons q s=>exact ⟨p,r,rfl,.inr ⟨q,s,rfl,ah9 h⟩⟩
def D6 (h:Zx O V=false):O=[]\/∃ p r q s,O=p::r/\V=q::s/\¬ iK p.1 q.1:=by
 cases O with
 | nil=>exact .inl rfl
 | cons p r =>
  cases V with
  | nil=>cases h
  | cons q s=>exact .inr ⟨p,r,q,s,rfl,rfl,av9 h⟩
def Aj {α:Type} {l r:List α} {p:α} (h:l.drop H=p::r):H<l.length:=by
 rcases cm9 H l.length with h1 | h1
 ·exact h1
 ·rw [cc9 h1] at h; cases h
def GB {h:Hp} {p q:Xac} {c m d:Nat} {x y:bM} (v:iD h p H x.ah) (u:iD h q m y.ah) (hp:∀ i,i∈aJ p->i<h.size) (hq:∀ i,i∈aJ q->i<h.size)
  (hl:x.ah.length+y.ah.length<=2^40) :
  HC Xaz 74 #[ik p H c x,ik q m d y] h fun w h'=>Ext h h'/\∃ p' l' c',w=ik p' l' c' (j3 x y)/\SL h' h.size 64 2 p' l' c' ((j3 x y).ah.map dp):=by
 refine bd (args:=[.agg #[.slice p H c,.int .u32 x.num],.agg #[.slice q m d,.int .u32 y.num]]) mixed Tryz.func74 ax (ru p H c x.num q m d y.num) ?_;unfold mJ aY bh bt aI bn aF bg aQ cn;have hll:=v.len;have hmm:=u.len;refine br ?_;intro h1 b1 N z1;refine br ?_;intro h2 b2 B z2;refine br ?_;intro W b3 e3 z3;have b1:=(b1.an B aj).an e3 aj;have b2:=b2.an e3 aj;rw [aE,aE];refine az b1 ((x.num:Int),()) (ao ?_);refine az b2 ((y.num:Int),()) (ao ?_);refine br ?_;intro h4 b4 e4 z4;refine bR b4 ?_;intro h5 b5 k5 z5;rw [KH] at b5;have b5:bC h5 W.size 53 [.slice none 0 0,.int .u32 (((x.num+y.num) % 4294967296:Nat):Int)]:=b5;have P:Ext W h5:=bY e4 k5;have b1:=b1.an P aj;have b2:=b2.an P aj;have b3:=b3.an P aj;have e05:=((N.trans B).trans e3).trans P;have hz5:=e05.size;refine aT (cs:=gb) (fun z w h'=>∃ i j:Nat,z.1=(i:Int)/\z.2.1=(j:Int)/\w=(x.ah.length-i)+(y.ah.length-j)/\Wu h5 W.size x.ah y.ah (((x.num+y.num) % 4294967296:Nat):Int) i j h')
  ((0:Int),(0:Int),()) (x.ah.length+y.ah.length) rfl ⟨0,0,rfl,rfl,rfl,em9 _,em9 _,Ch.refl _ _,[],none,0,0,x.ah.length+y.ah.length,b5,SL.nil _ _ _ _,rfl,ad,aj⟩ ?_
 rintro ⟨n1,n2,⟨⟩⟩ w h6 ⟨i,j,hi,I,rfl,hil,hjl,X,O,C,lo,co,f,D,Y,hO,hf,hOl⟩;simp only at hi I;subst hi I;refine ao ?_;have hb5:=b5.lt;have hz6:=X.size;have b1:=b1.an X (by simp; omega);have b2:=b2.an X (by simp; omega);have b3:=b3.an X (by simp; omega);have Z:Ext h h6:=bY e05 X;have v6:=v.an Z aj;have u6:=u.an Z aj;have hlo:lo=O.length:=by rw [Y.1,ab9]
 have hwi:=ic i;have hwj:=ic j;have n:∀ i,i∈aJ C->h5.size<=i:=fun i hi=>(Y.cB hi).1
 have hpm:∀ (k:Nat) (a:Xax) (w:dt) (vs:List Xab),(some a=p\/some a=q)->aH h6 (a.add (k*2)) 0 vs->∀ h',Ch (aJ C) h6 h'->aH h' (a.add (k*2)) 0 vs:=fun k a w vs s hc h' kk=>aM kk (by
  rw [iO];intro hm;have h1:=n _ hm;rcases s with s | s
  ·have:=hp a.block (by rw [<- s]; simp [aJ]); omega
  ·have:=hq a.block (by rw [<- s]; simp [aJ]); omega) _ _ hc
 have push:∀ (t:Xaa × Nat) (i' j':Nat) (r:Hp) (J:Xac) (K:Nat),i'<=x.ah.length->j'<=y.ah.length->i+j+1<=i'+j'->fL f (x.ah.drop i) (y.ah.drop j)=t::fL (f-1) (x.ah.drop i') (y.ah.drop j')->(x.ah.length-i')+(y.ah.length-j')<=f-1 ->
   SL r h5.size 64 2 J (lo+1) K (O.map dp++[dp t])->Ch (aJ C) h6 r->∀ h8,bC h8 W.size 53 [.slice J (lo+1) K,.int .u32 (((x.num+y.num) % 4294967296:Nat):Int)]->Ch [W.size] r h8->Wu h5 W.size x.ah y.ah (((x.num+y.num) % 4294967296:Nat):Int) i' j' h8:=by
  intro t i' j' r J K hi' hj' hij L hf' Q o h8 b8 R;refine ⟨hi',hj',Ch.trans (Ch.trans X o (fun j I hl=>by have:=n j I; omega)) R (fun j I _=>I),O++[t],J,lo+1,K,f-1,b8,?_,?_,hf',by simp; omega⟩
  ·rw [ao9];exact Q.bK R (fun j I=>by have:=(Q.cB I).1; simp; omega)
  ·rw [hO,L]; simp
 refine jb (cs:=pA) (fun z h'=>z.1=(decide (i<x.ah.length) || decide (j<y.ah.length))/\h6=h') ?_ ?_
 ·refine az b1 ((p,H,c),()) (ao ?_);refine aR ?_ ?_<;>intro g1
  ·refine dZ (cs:=pA) (true,()) rfl rfl ⟨?_,rfl⟩;rw [aj9 (show i<x.ah.length from ad)] <;> rfl
  ·refine az b2 ((q,m,d),()) (ao ?_);refine dZ (cs:=pA) (decide ((j:Int)<(m:Int)),()) rfl rfl ⟨?_,rfl⟩;rw [ak9 (show ¬ i<x.ah.length from ad),ey9];show decide ((j:Int)<(m:Int))=decide (j<y.ah.length);rw [fn9];omega
 rintro ⟨b10,⟨⟩⟩ h6' ⟨S,rfl⟩;simp only at S;subst S;refine ao ?_;refine aw ?_ ?_<;>intro g1
 ·simp only [Bool.or_eq_true,decide_eq_true_eq] at g1;obtain ⟨M,rfl⟩:∃ M,f=M+1:=⟨f-1,ad⟩
  refine jb (cs:=pA) (fun z h'=>z.1=Zx (x.ah.drop i) (y.ah.drop j)/\h6=h') ?_ ?_
  ·refine az b2 ((q,m,d),()) (ao ?_);refine aw ?_ ?_<;>intro g2
   ·have g2:(j:Int)=(m:Int):=by simpa using g2
    refine dZ (cs:=pA) (true,()) rfl rfl ⟨?_,rfl⟩;rw [show y.ah.drop j=[] from cc9 ad,aw9 (l:=x.ah) (i:=i) ad] <;> rfl
   ·have g2:¬ (j:Int)=(m:Int):=by simpa using g2
    have hjlt:j<y.ah.length:=ad
    refine az b1 ((p,H,c),()) (ao ?_);refine aR ?_ ?_<;>intro g3
    ·have hilt:i<x.ah.length:=ad
     have b:x.ah.drop i=x.ah[i]::x.ah.drop (i+1):=aw9 hilt;have g:y.ah.drop j=y.ah[j]::y.ah.drop (j+1):=aw9 hjlt;obtain ⟨a,s,hc⟩:=v6.cells i hilt;obtain ⟨a',E,F⟩:=u6.cells j hjlt;subst s E;refine az b1 ((some a,H,c),()) (ao ?_);refine bS rfl ?_;rw [cr i];refine ay (x.ah[i].1,()) (de hc).1 (ao ?_);refine az b2 ((some a',m,d),()) (ao ?_);refine bS rfl ?_;rw [cr j];refine ay (y.ah[j].1,()) (de F).1 (ao ?_);rw [ltB];refine dZ (cs:=pA) (decide (iK x.ah[i].1 y.ah[j].1),()) rfl rfl ⟨?_,rfl⟩;rw [b,g] <;> rfl
    ·refine dZ (cs:=pA) (false,()) rfl rfl ⟨?_,rfl⟩;rw [show x.ah.drop i=[] from cc9 ad] <;> rfl
  rintro ⟨b11,⟨⟩⟩ h6' ⟨U,rfl⟩;simp only at U;subst U;refine ao ?_;refine aw ?_ ?_<;>intro g2
  ·obtain ⟨pp,rr,A,hor⟩:=Gz g2;have hilt:=Aj A;have b:x.ah.drop i=x.ah[i]::x.ah.drop (i+1):=aw9 hilt;rw [b] at A;cases A;have L:fL (M+1) (x.ah.drop i) (y.ah.drop j)=x.ah[i]::fL (M+1-1) (x.ah.drop (i+1)) (y.ah.drop j):=by
    rw [b];exact VN hor
   obtain ⟨a,s,hc⟩:=v6.cells i hilt;subst s;refine az D ((C,lo,co),()) (ao ?_);refine az b1 ((some a,H,c),()) (ao ?_);refine bS rfl ?_;rw [cr i];refine ay (x.ah[i].1,(x.ah[i].2:Int),()) hc (ao ?_);refine gR (vs:=dp x.ah[i]) AK uq rfl ad ad ax rfl rfl Y ad ad ad (fun h' e=>⟨(b1.an e aj).cells _ rfl,(D.an e aj).cells _ rfl,trivial⟩) ?_;intro J K r Q o hp7;have b17:=b1.an o (fun G=>by have:=n _ G; omega);have b67:=D.an o (fun G=>by have:=n _ G; omega);refine ⟨⟨hpm i a x.ah _ (.inl rfl) hc r o,b17.cells _ rfl,trivial⟩,?_⟩;refine bR b67 ?_;intro h8 b8 R z8;refine aG (cs:=gb) (((i+1:Nat):Int),(j:Int),()) ((x.ah.length-(i+1))+(y.ah.length-j)) rfl ad (by rw [hwi]; rfl) ⟨i+1,j,rfl,rfl,rfl,?_⟩;exact push _ (i+1) j r J K ad hjl ad L ad Q o h8 b8 R
  ·have g2:=D6 g2;refine jb (cs:=pA) (fun z h'=>z.1=Zx (y.ah.drop j) (x.ah.drop i)/\h6=h') ?_ ?_
   ·refine az b1 ((p,H,c),()) (ao ?_);refine aw ?_ ?_<;>intro g3
    ·have g3:(i:Int)=(H:Int):=by simpa using g3
     refine dZ (cs:=pA) (true,()) rfl rfl ⟨?_,rfl⟩;rw [show x.ah.drop i=[] from cc9 ad,aw9 (l:=y.ah) (i:=j) ad] <;> rfl
    ·have g3:¬ (i:Int)=(H:Int):=by simpa using g3
     have hilt:i<x.ah.length:=ad
     have hjlt:j<y.ah.length:=by
      rcases cm9 j y.ah.length with h | h
      ·exact h
      ·rcases g2 with g2 | ⟨_,_,_,_,_,g2,_⟩
       ·have:=fj9.1 g2; omega
       ·rw [cc9 h] at g2; cases g2
     have b:x.ah.drop i=x.ah[i]::x.ah.drop (i+1):=aw9 hilt;have g:y.ah.drop j=y.ah[j]::y.ah.drop (j+1):=aw9 hjlt;obtain ⟨a,s,hc⟩:=v6.cells i hilt;obtain ⟨a',E,F⟩:=u6.cells j hjlt;subst s E;refine az b2 ((some a',m,d),()) (ao ?_);refine bS rfl ?_;rw [cr j];refine ay (y.ah[j].1,()) (de F).1 (ao ?_);refine az b1 ((some a,H,c),()) (ao ?_);refine bS rfl ?_;rw [cr i];refine ay (x.ah[i].1,()) (de hc).1 (ao ?_);rw [ltB];refine dZ (cs:=pA) (decide (iK y.ah[j].1 x.ah[i].1),()) rfl rfl ⟨?_,rfl⟩;rw [b,g] <;> rfl
   rintro ⟨b12,⟨⟩⟩ h6' ⟨V,rfl⟩;simp only at V;subst V;refine ao ?_;refine aw ?_ ?_<;>intro g3
   ·obtain ⟨pp,rr,A,hor⟩:=Gz g3;have hjlt:=Aj A;have g:y.ah.drop j=y.ah[j]::y.ah.drop (j+1):=aw9 hjlt;rw [g] at A;cases A;have L:fL (M+1) (x.ah.drop i) (y.ah.drop j)=y.ah[j]::fL (M+1-1) (x.ah.drop i) (y.ah.drop (j+1)):=by
     rw [g];exact Wg hor
    obtain ⟨a,s,hc⟩:=u6.cells j hjlt;subst s;refine az D ((C,lo,co),()) (ao ?_);refine az b2 ((some a,m,d),()) (ao ?_);refine bS rfl ?_;rw [cr j];refine ay (y.ah[j].1,(y.ah[j].2:Int),()) hc (ao ?_);refine gR (vs:=dp y.ah[j]) AK uq rfl ad ad ax rfl rfl Y ad ad ad (fun h' e=>⟨(b2.an e aj).cells _ rfl,(D.an e aj).cells _ rfl,trivial⟩) ?_;intro J K r Q o hp7;have b27:=b2.an o (fun G=>by have:=n _ G; omega);have b67:=D.an o (fun G=>by have:=n _ G; omega);refine ⟨⟨hpm j a y.ah _ (.inr rfl) hc r o,b27.cells _ rfl,trivial⟩,?_⟩;refine bR b67 ?_;intro h8 b8 R z8;refine aG (cs:=gb) ((i:Int),((j+1:Nat):Int),()) ((x.ah.length-i)+(y.ah.length-(j+1))) rfl ad (by rw [hwj]; rfl) ⟨i,j+1,rfl,rfl,rfl,?_⟩;exact push _ i (j+1) r J K hil ad ad L ad Q o h8 b8 R
   ·have g3:=D6 g3;have hb:i<x.ah.length/\j<y.ah.length:=by
     rcases g2 with g2 | ⟨_,_,_,_,N,B,_⟩
     ·have h1:=fj9.1 g2;rcases g3 with g3 | ⟨_,_,_,_,_,B,_⟩
      ·have h2:=fj9.1 g3; omega
      ·rw [g2] at B; cases B
     ·exact ⟨Aj N,Aj B⟩
    obtain ⟨hilt,hjlt⟩:=hb;have b:x.ah.drop i=x.ah[i]::x.ah.drop (i+1):=aw9 hilt;have g:y.ah.drop j=y.ah[j]::y.ah.drop (j+1):=aw9 hjlt;have n1:¬ iK x.ah[i].1 y.ah[j].1:=by
     rcases g2 with g2 | ⟨_,_,_,_,N,B,hn⟩
     ·rw [b] at g2; cases g2
     ·rw [b] at N; rw [g] at B; cases N; cases B; exact hn
    have n2:¬ iK y.ah[j].1 x.ah[i].1:=by
     rcases g3 with g3 | ⟨_,_,_,_,N,B,hn⟩
     ·rw [g] at g3; cases g3
     ·rw [g] at N; rw [b] at B; cases N; cases B; exact hn
    have L:fL (M+1) (x.ah.drop i) (y.ah.drop j)=if (x.ah[i].2+y.ah[j].2) % 4294967296=0 then fL M (x.ah.drop (i+1)) (y.ah.drop (j+1)) else (x.ah[i].1,(x.ah[i].2+y.ah[j].2) % 4294967296)::fL M (x.ah.drop (i+1)) (y.ah.drop (j+1)):=by
     rw [b,g];exact Sl n1 n2
    obtain ⟨a,s,hc⟩:=v6.cells i hilt;obtain ⟨a',E,F⟩:=u6.cells j hjlt;subst s E;refine az b1 ((some a,H,c),()) (ao ?_);refine bS rfl ?_;rw [cr i];refine ay ((x.ah[i].2:Int),()) (de hc).2 (ao ?_);refine az b2 ((some a',m,d),()) (ao ?_);refine bS rfl ?_;rw [cr j];refine ay ((y.ah[j].2:Int),()) (de F).2 (ao ?_);rw [KH];refine jb (cs:=[]) (fun z h'=>Wu h5 W.size x.ah y.ah (((x.num+y.num) % 4294967296:Nat):Int) (i+1) (j+1) h') ?_ ?_
    ·refine aw ?_ ?_<;>intro g4
     ·have g4:¬ (x.ah[i].2+y.ah[j].2) % 4294967296=0:=by
       have:¬ (((x.ah[i].2+y.ah[j].2) % 4294967296:Nat):Int)=0:=by simpa using g4
       omega
      rw [ac9 g4] at L;refine az D ((C,lo,co),()) (ao ?_);refine az b1 ((some a,H,c),()) (ao ?_);refine bS rfl ?_;refine ay (x.ah[i].1,()) (de hc).1 (ao ?_);refine gR (vs:=dp (x.ah[i].1,(x.ah[i].2+y.ah[j].2) % 4294967296)) AK uq rfl ad ad ax rfl rfl Y ad ad ad (fun h' e=>⟨aM e aj _ _ (de hc).1,(b1.an e aj).cells _ rfl,(D.an e aj).cells _ rfl,trivial⟩) ?_;intro J K r Q o hp7;have b17:=b1.an o (fun G=>by have:=n _ G; omega);have b67:=D.an o (fun G=>by have:=n _ G; omega);refine ⟨⟨hpm i a x.ah _ (.inl rfl) (de hc).1 r o,b17.cells _ rfl,trivial⟩,?_⟩;refine bR b67 ?_;intro h8 b8 R z8;exact dZ (cs:=[]) () rfl rfl (push _ (i+1) (j+1) r J K ad ad ad L ad Q o h8 b8 R)
     ·have g4:(x.ah[i].2+y.ah[j].2) % 4294967296=0:=by
       have:(((x.ah[i].2+y.ah[j].2) % 4294967296:Nat):Int)=0:=by simpa using g4
       omega
      rw [ag9 g4] at L;exact dZ (cs:=[]) () rfl rfl ⟨ad,ad,X,O,C,lo,co,M,D,Y,by rw [hO,L],ad,ad⟩
    ·rintro ⟨⟩ r I7;exact aG (cs:=gb) (((i+1:Nat):Int),((j+1:Nat):Int),()) ((x.ah.length-(i+1))+(y.ah.length-(j+1))) rfl ad (by rw [hwi,hwj]; rfl) ⟨i+1,j+1,rfl,rfl,rfl,I7⟩
 ·simp only [Bool.or_eq_false_iff,decide_eq_false_iff_not] at g1;rw [cc9 ad,cc9 ad,NX,bz9] at hO;refine az D ((C,lo,co),(((x.num+y.num) % 4294967296:Nat):Int),()) (ao ?_);refine bR b3 ?_;intro r b7 o z7;have b7:bC r h2.size 53 [.slice C lo co,.int .u32 (((x.num+y.num) % 4294967296:Nat):Int)]:=b7;refine az b7 ((C,lo,co),(((x.num+y.num) % 4294967296:Nat):Int),()) ?_;refine ⟨bY Z o,C,lo,co,rfl,?_⟩;show SL r h.size 64 2 C lo co ((GH x.ah y.ah).map dp);rw [hO];exact (Y.bK o (fun j I=>by have:=n j I; simp; omega)).mono ad
end Go.Sx
namespace Go.Sx.Lk
open Go.Proofs Go.Sx.Ob
def UO (q:Nat) (p b:Xax) (r:Int):T :=
  T.af p [.slice 64,.int .u32] <| fun (c:Xac) (d e:Nat) (f:Int) =>
  T.af b [.slice 64,.int .u32] <| fun (g:Xac) (h j:Nat) (k:Int) =>
  bP 74 [.agg #[.slice c d e,aF f],.agg #[.slice g h j,aF k]] false [(true,[.slice 64,.int .u32])] <| fun (l:Xac) (m n:Nat) (o:Int) =>
  T.aD p [.slice l m n,aF o] <|
  T.again q [vI (bq (r+(1:Int)))]
variable {V:Lp} {Y:Xab->Hp->Prop} {O Z:Xac}
def HH {h:Hp} {lv b c d c5 e m:Nat} {n:Int} {o y:bM} (f:bC h b 53 [.slice O d c5,.int .u32 o.num]) (g:bC h c 53 [.slice Z e m,.int .u32 y.num])
  (s:iD h O d o.ah) (t:iD h Z e y.ah) (u:∀ i,i∈aJ O->i<h.size) (w:∀ i,i∈aJ Z->i<h.size) (hl:o.ah.length+y.ah.length<=2^40)
  (hk:∀ p' l' c' h',Ch [b] h h'->bC h' b 53 [.slice p' l' c',.int .u32 (j3 o y).num]->SL h' h.size 64 2 p' l' c' ((j3 o y).ah.map dp)->T.again lv [vI (IntKind.wrap .i64 (n+(1:Int)))] V Y h') :
  UO lv ⟨b,0,none⟩ ⟨c,0,none⟩ n V Y h:=by
 unfold UO bP bq aF;refine az f ((O,d,c5),(o.num:Int),()) (ao ?_);refine az g ((Z,e,m),(y.num:Int),()) (ao ?_);refine aK (GB s t u w hl) ?_;rintro _ h1 ⟨p,p',l',c',rfl,q⟩;refine ⟨((p',l',c'),((j3 o y).num:Int),()),rfl,ao ?_⟩;refine bR (f.an p aj) ?_;intro h2 k r z2;have k:bC h2 b 53 [.slice p' l' c',.int .u32 ((j3 o y).num:Int)]:=k;have hg:=f.lt;exact hk p' l' c' h2 (Ch.trans (Ch.mono p aj) r (fun j l hl=>l)) k (q.bK r (fun j l=>by have:=(q.cB l).1; simp; omega))
variable {H:Hp}
def Yk {g:Nat} {s:Xaa} {n:Nat} (b:bC H g 64 [.string s,.int .u32 n]):iD H (some ⟨g,0,none⟩) 1 [(s,n)] :=
 ⟨rfl,fun i hi=>by
  have:i=0:=by simpa using hi
  subst this;exact ⟨_,rfl,by rw [aE]; exact b.cells _ rfl⟩⟩
def C5 {es:List cV} {s:Xaa} {k:Nat} (h:kT es s=some k):∃ hk:k<es.length,cG es s=some es[k].x:=by
 have h0:=h;unfold kT at h;rw [bd9] at h;obtain ⟨hk,_⟩:=h;refine ⟨hk,?_⟩;unfold cG cF dB;rw [h0];simp [hk]
def Dl {es:List cV} {s:Xaa} (h:kT es s=none):cG es s=none:=by
 unfold cG cF;rw [h,ac9 aj]
variable {U:bM}
def Hi {es:List cV} {s:Xaa} (h:cG es s=some U):∃ e,e∈es/\U=e.x:=by
 cases b:kT es s with
 | none=>rw [Dl b] at h; cases h
 | some k =>
  obtain ⟨hk,h1⟩:=C5 b;rw [h1] at h;exact ⟨_,al9 hk,(bb9 h).symm⟩
def Kz {es:List cV} {S:List Xaa} (b:∀ t,t∈U.ah->t.1∈S) (c:∀ e,e∈es->∀ t,t∈e.x.ah->t.1∈S):∀ t,t∈(dz (cG es) U).ah->t.1∈S:=by
 intro t ht;obtain ⟨u,f,h | ⟨y,w,g,j,k⟩⟩:=A5 ht
 ·rw [h.2]; exact b u f
 ·obtain ⟨e,d,rfl⟩:=Hi g;rw [<- k]; exact c e d w j
def KP {l c m d:Nat} {es:List cV} (v:iD H O l U.ah) (u:uV H Z m es) (hp:∀ i,i∈aJ O->i<H.size) (hb:∀ e,e∈es->∀ i,i∈aJ e.p->i<H.size)
  (hm:es.length<=2^40) (hx:Nf U.ah) (hn:U.num<4294967296) (R:∀ e,e∈es->Nf e.x.ah) {S:List Xaa} (hS:S.length<=2^30) (V:∀ t,t∈U.ah->t.1∈S) (X:∀ e,e∈es->∀ t,t∈e.x.ah->t.1∈S) :
  HC Xaz 76 #[ik O l c U,.slice Z m d] H fun w h'=>Ext H h'/\∃ p' l' c',w=ik p' l' c' (dz (cG es) U)/\SL h' H.size 64 2 p' l' c' ((dz (cG es) U).ah.map dp):=by
 refine bd (args:=[.agg #[.slice O l c,.int .u32 U.num],.slice Z m d]) mixed Tryz.func76 ax (qI O l c U.num Z m d) ?_;unfold lu aY bh bt aI cQ bP bn aF bg aQ;have hll:=v.len;have hmm:=u.len;have Y:∀ s y,cG es s=some y->Nf y.ah:=fun s y hy=>by
  obtain ⟨e,he,rfl⟩:=Hi hy;exact R e he
 have hlx:=A6 hx V;refine br ?_;intro h1 b1 e1 z1;refine br ?_;intro h2 b2 e2 z2;have b1:=b1.an e2 aj;rw [aE];refine az b1 ((U.num:Int),()) (ao ?_);refine br ?_;intro h3 b3 e3 z3;refine bR b3 ?_;intro h4 b4 k4 z4;have b4:bC h4 h2.size 53 [.slice none 0 0,.int .u32 (U.num:Int)]:=b4;have E:Ext h2 h4:=bY e3 k4;have b1:=b1.an E aj;have b2:=b2.an E aj;have e04:=(e1.trans e2).trans E;have hb4:=b4.lt;have hz04:=e04.size;refine aT (cs:=cI) (fun y w h'=>∃ (i:Nat) (Z:Xac) (m d:Nat),y.1=(i:Int)/\i<=U.ah.length/\w=U.ah.length-i/\Ch [h2.size] h4 h'/\bC h' h2.size 53 [.slice Z m d,.int .u32 (((U.ah.take i).foldl (gn (cG es)) ⟨[],U.num⟩).num:Int)] /\
  SL h' h4.size 64 2 Z m d (((U.ah.take i).foldl (gn (cG es)) ⟨[],U.num⟩).ah.map dp)) ((0:Int),()) U.ah.length rfl ⟨0,none,0,0,rfl,ad,ad,Ch.refl _ _,b4,SL.nil _ _ _ _⟩ ?_
 rintro ⟨n8,⟨⟩⟩ w h5 ⟨i,q5,m5,d5,hi,hile,rfl,k5,b5,C⟩;simp only at hi;subst hi;refine ao ?_;have b15:=b1.an k5 (by simp; omega);have hz5:=k5.size;have F:Ext H h5:=bY e04 k5;have v5:=v.an F aj;have u5:=u.an F;refine az b15 ((O,l,c),()) (ao ?_);have hw:=ic i;have hacc:=CM Y hx hn i;have hal:((U.ah.take i).foldl (gn (cG es)) ⟨[],U.num⟩).ah.length<=S.length:=by
  rw [hacc];exact A6 (eP _ _) (Kz (fun t ht=>V t (cv9 ht)) X)
 refine aR ?_ ?_<;>intro g1
 ·have n:i<U.ah.length:=ad
  have G:(U.ah.take (i+1)).foldl (gn (cG es)) ⟨[],U.num⟩=gn (cG es) ((U.ah.take i).foldl (gn (cG es)) ⟨[],U.num⟩) U.ah[i]:=by
   rw [ae9 n,ch9] <;> rfl
  obtain ⟨a,rfl,hc⟩:=v5.cells i n;have htm:=al9 n;generalize U.ah[i]=t at hc G htm;generalize hA:(U.ah.take i).foldl (gn (cG es)) ⟨[],U.num⟩=A at b5 C hal G hacc;obtain ⟨c1,c2⟩:=de hc;have hab:=hp a.block (by simp [aJ]);refine az b15 ((some a,l,c),()) (ao ?_);refine bS rfl ?_;rw [cr i];refine ay (t.1,()) c1 (ao ?_);refine jo (GS u5 ad t.1) ?_;refine az b15 ((some a,l,c),()) (ao ?_);refine bS rfl ?_;refine ay (t.1,(t.2:Int),()) hc (ao ?_);refine nS Jb uq ad ad (IX _ _) ?_;intro P b6 e6 z6;refine br ?_;intro h7 b7 e7 z7;refine bR b7 ?_;intro h8 b8 k8 z8;have b8:bC h8 P.size 53 [.slice (some ⟨h5.size,0,none⟩) 1 1,.int .u32 ((0:Nat):Int)]:=b8;have b:Ext h5 h8:=bY (e6.trans e7) k8;have b68:=b6.an (bY e7 k8:Ext P h8) aj;have b58:=b5.an b aj;have b18:=b15.an b aj;have s8:=C.bK b (fun j f=>aj)
  have r:∀ y:bM,JR (cG es) t=y->∀ p' l' c' h',Ext h5 h8->∀ h9,Ch [P.size] h8 h9->Ch [h2.size] h9 h'->bC h' h2.size 53 [.slice p' l' c',.int .u32 (j3 A y).num] ->
    SL h' h9.size 64 2 p' l' c' ((j3 A y).ah.map dp)->Ch [h2.size] h4 h'/\bC h' h2.size 53 [.slice p' l' c',.int .u32 (((U.ah.take (i+1)).foldl (gn (cG es)) ⟨[],U.num⟩).num:Int)] /\
     SL h' h4.size 64 2 p' l' c' (((U.ah.take (i+1)).foldl (gn (cG es)) ⟨[],U.num⟩).ah.map dp):=by
   intro y hy p' l' c' h' _ h9 Q k9 b9 s9;rw [G];unfold gn;rw [hy]
   have:=b.size
   have:=Q.size
   exact ⟨Ch.trans (Ch.trans (Ch.trans k5 b aj) Q (fun j f hl=>by simp at f; omega)) k9 (fun j f _=>f),b9,s9.mono ad⟩
  refine aR ?_ ?_<;>intro g2
  ·cases g:kT es t.1 with
   | none=>rw [g] at g2; exact absurd g2 (by unfold TN; decide)
   | some k =>
    obtain ⟨hk,hlo⟩:=C5 g;obtain ⟨ae,rfl,I⟩:=(u5.an b).cells k hk;have hem:=al9 hk;have vy:=(u5.an b).fC _ hem;generalize es[k]=e at I hem vy hlo;have hble:=hb e hem;have hyl:=A6 (R e hem) (X e hem);refine dC ⟨by show (0:Int)<=(k:Int); omega,by show (k:Int)<_; omega⟩ (bm rfl ?_);rw [show Int.toNat (TN (some k))=k from Int.toNat_natCast k];refine ay ((e.p,e.l,e.c),(e.x.num:Int),()) ⟨by rw [add_add]; exact I.2.1,by rw [add_add]; exact I.2.2.1,trivial⟩ ?_;refine ao ?_;refine az b18 ((some a,l,c),()) (ao ?_);refine bS rfl ?_;refine ay ((t.2:Int),()) (aM b aj _ _ c2) (ao ?_)
    have:=b.size
    refine aK (Je vy ad (fun j f=>by have:=hble j f; omega) t.2) ?_;rintro _ h9 ⟨Q,p9,l9,c9,rfl,s9⟩;refine ⟨((p9,l9,c9),((vL e.x t.2).num:Int),()),rfl,ao ?_⟩;refine ⟨⟨(b18.an Q aj).cells _ rfl,trivial⟩,?_⟩;refine bR (b8.an Q aj) ?_;intro h10 J k10 z10;have J:bC h10 P.size 53 [.slice p9 l9 c9,.int .u32 ((vL e.x t.2).num:Int)]:=J;have D:Ch [P.size] h8 h10:=Ch.trans (Ch.mono Q aj) k10 (fun j f hl=>f);have B:Ext h5 h10:=bY b D;refine HH (lv:=0) (o:=A) (y:=vL e.x t.2) (b5.an B aj) J (C.bK B (fun j f=>aj)).NF (s9.bK k10 (fun j f=>by have:=(s9.cB f).1; simp; omega)).NF
     (fun j f=>by have:=(C.cB f).2; have:=B.size; omega) (fun j f=>by have:=(s9.cB f).2; omega) (by have:=CA t.2 e.x.ah; show A.ah.length+(fv t.2 e.x.ah).length<=_; omega) ?_
    intro p' l' c' K L M N;obtain ⟨r1,r2,r3⟩:=r (vL e.x t.2) (by unfold JR; rw [hlo]) p' l' c' K b h10 D L M N;exact aG (cs:=cI) (((i+1:Nat):Int),()) (U.ah.length-(i+1)) rfl ad (as9 (fun z=>[Value.int .i64 z]) hw) ⟨i+1,p',l',c',rfl,ad,rfl,r1,r2,r3⟩
  ·have g:kT es t.1=none:=by
    cases g:kT es t.1 with
    | none=>rfl
    | some k=>rw [g] at g2; exact absurd (show (0:Int)<=((k:Nat):Int) from ad) g2
   refine HH (lv:=0) (o:=A) (y:=⟨[t],0⟩) b58 b8 s8.NF (Yk b68) (fun j f=>by have:=(C.cB f).2; have:=b.size; omega) (fun j f=>by simp [aJ] at f; have:=b.size; have:=b68.lt; omega) (by show A.ah.length+1<=_; omega) ?_;intro p' l' c' K L M N;obtain ⟨r1,r2,r3⟩:=r ⟨[t],0⟩ (by unfold JR; rw [Dl g]) p' l' c' K b h8 ((Ch.refl [P.size] h8)) L M N;exact aG (cs:=cI) (((i+1:Nat):Int),()) (U.ah.length-(i+1)) rfl ad (as9 (fun z=>[Value.int .i64 z]) hw) ⟨i+1,p',l',c',rfl,ad,rfl,r1,r2,r3⟩
 ·have hi:i=U.ah.length:=ad
  subst hi;rw [bj9,Fx Y hx hn] at b5 C;refine az b5 ((q5,m5,d5),((dz (cG es) U).num:Int),()) (ao ?_);refine bR (b2.an k5 (by simp; omega)) ?_;intro h7 b7 k7 z7;have b7:bC h7 h1.size 53 [.slice q5 m5 d5,.int .u32 ((dz (cG es) U).num:Int)]:=b7;refine az b7 ((q5,m5,d5),((dz (cG es) U).num:Int),()) ?_;exact ⟨bY F k7,q5,m5,d5,rfl,(C.bK k7 (fun j f=>by have:=(C.cB f).1; simp; omega)).mono ad⟩
def vO {es:List cV} {s:Xaa} {j:Nat} (h:kT es s=some j):∃ e,es[j]?=some e/\e.name=s:=by
 unfold kT at h;rw [bd9] at h;obtain ⟨b,h1,_⟩:=h;exact ⟨es[j],ad9 b,by simpa using h1⟩
def Ue {es:List cV} (hn:(aX es).Nodup) {i j:Nat} {d e:cV} (hi:es[i]?=some d) (b:es[j]?=some e) (h:d.name=e.name):i=j:=by
 obtain ⟨h1,rfl⟩:=ax9.1 hi;obtain ⟨h2,rfl⟩:=ax9.1 b;refine (List.getElem_inj (h₀:=by unfold aX; rw [ab9]; exact h1) (h₁:=by unfold aX; rw [ab9]; exact h2) hn).1 ?_;unfold aX;rw [am9,am9];exact h
def K6 {es:List cV} (hn:(aX es).Nodup) {k j:Nat} {e:cV} (f:es[k]?=some e) {t:Xaa × Nat} (ht:t∈e.x.ah) (c:kT es t.1=some j):∃ d,es[j]?=some d/\dF es e.name d.name:=by
 obtain ⟨d,g,b⟩:=vO c;refine ⟨d,g,?_,?_⟩
 ·rw [lP,qQ hn (cp9 f)];exact ⟨t,ht,b.symm⟩
 ·unfold cF;rw [b,c] <;> rfl
def TE {es:List cV} (hn:(aX es).Nodup) {k:Nat} {e:cV} (f:es[k]?=some e) {z:Xaa} (h:dF es e.name z):∃ t,t∈e.x.ah/\∃ j d,kT es t.1=some j/\es[j]?=some d/\d.name=z:=by
 obtain ⟨h1,h2⟩:=h;rw [lP,qQ hn (cp9 f)] at h1;obtain ⟨t,ht,rfl⟩:=h1;unfold cF at h2;obtain ⟨j,c⟩:=cg9.1 h2;obtain ⟨d,g,b⟩:=vO c;exact ⟨t,ht,j,d,c,g,b⟩
structure qo (es:List cV) (i0:Nat) (a:Xaa) (kc i:Nat) (W:List Nat) (sn:List Bool):Prop where
 len:sn.length=es.length
 Vg:∀ w,w∈W->∃ e,es[w]?=some e/\qB (dF es) a e.name
 src:sn[i0]?≠some true
 cl:∀ k e,es[k]?=some e->(k=i0\/sn[k]?=some true)->k∉W->∀ m t,e.x.ah[m]?=some t->(k=kc->m<i)->∀ j,kT es t.1=some j->j≠i0/\sn[j]?=some true
variable {es:List cV} {i0 kc i:Nat} {a:Xaa} {W:List Nat} {sn:List Bool}
def qo.start {e:cV} (b:es[i0]?=some e) (f:e.name=a):qo es i0 a es.length 0 [i0] (List.replicate es.length false):=by
 have c:∀ k:Nat,(List.replicate es.length false)[k]?≠some true:=by
  intro k h
  have:=cp9 h
  rw [List.mem_replicate] at this;cases this.2
 refine ⟨aj,fun w d=>?_,c i0,fun k e b h hk=>?_⟩
 ·rw [ai9] at d;subst d;exact ⟨e,b,by rw [f]; exact .refl _⟩
 ·rcases h with h | h
  ·subst h; simp at hk
  ·exact absurd h (c k)
def qo.pop (s:qo es i0 a es.length 0 (W++[kc]) sn):qo es i0 a kc 0 W sn/\∃ e,es[kc]?=some e/\qB (dF es) a e.name:=by
 refine ⟨⟨s.len,fun w d=>s.Vg w (by simp [d]),s.src,fun k e c h hk m t ht f j g=>?_⟩,s.Vg kc aj⟩
 by_cases b:k=kc
 ·exact absurd (f b) ad
 ·refine s.cl k e c h (by simp [hk,b]) m t ht (fun l=>?_) j g;obtain ⟨hl,_⟩:=ax9.1 c;omega
def qo.skip (s:qo es i0 a kc i W sn) {e:cV} (n:es[kc]?=some e) {t:Xaa × Nat} (ht:e.x.ah[i]?=some t) (h:∀ j,kT es t.1=some j->j≠i0/\sn[j]?=some true):qo es i0 a kc (i+1) W sn:=by
 refine ⟨s.len,s.Vg,s.src,fun k d c o hk m u f p j l=>?_⟩
 by_cases hc:k=kc/\m=i
 ·obtain ⟨rfl,rfl⟩:=hc;rw [n] at c;cases c;rw [ht] at f;cases f;exact h j l
 ·refine s.cl k d c o hk m u f (fun b=>?_) j l
  have:=p b
  have:m≠i:=fun g=>hc ⟨b,g⟩
  omega
def qo.push (s:qo es i0 a kc i W sn) (hn:(aX es).Nodup) {e:cV} (B:es[kc]?=some e) (F:qB (dF es) a e.name) {t:Xaa × Nat} (ht:e.x.ah[i]?=some t) {j:Nat} (C:kT es t.1=some j) (h0:j≠i0) :
  qo es i0 a kc (i+1) (W++[j]) (sn.set j true):=by
 obtain ⟨d,D,n⟩:=K6 hn B (cp9 ht) C;obtain ⟨o,_⟩:=ax9.1 D;have c:(sn.set j true)[j]?=some true:=by rw [er9 (by rw [s.len]; exact o)]
 have p:∀ x:Nat,sn[x]?=some true->(sn.set j true)[x]?=some true:=by
  intro x q
  by_cases g:j=x
  ·subst g; exact c
  ·rw [dq9 g]; exact q
 refine ⟨by rw [cy9]; exact s.len,fun w l=>?_,by rw [dq9 h0]; exact s.src,fun k f r E hk m u y G H b=>?_⟩
 ·rw [ar9,ai9] at l;rcases l with l | rfl
  ·exact s.Vg w l
  ·exact ⟨d,D,F.trans (.one n)⟩
 ·rw [ar9,ai9] at hk;have z:j≠k:=fun e=>hk (Or.inr e.symm)
  rw [dq9 z] at E
  by_cases hc:k=kc/\m=i
  ·obtain ⟨rfl,rfl⟩:=hc;rw [B] at r;cases r;rw [ht] at y;cases y;rw [C] at b;cases b;exact ⟨h0,c⟩
  ·obtain ⟨h1,h2⟩:=s.cl k f r E (fun q=>hk (Or.inl q)) m u y (fun h=>by
    have:=G h
    have:m≠i:=fun A=>hc ⟨h,A⟩
    omega) H b
   exact ⟨h1,p _ h2⟩
def qo.done (s:qo es i0 a kc i W sn) {e:cV} (g:es[kc]?=some e) (hi:e.x.ah.length<=i):qo es i0 a es.length 0 W sn:=by
 refine ⟨s.len,s.Vg,s.src,fun k d b h hk m u f n j l=>s.cl k d b h hk m u f (fun c=>?_) j l⟩;subst c;rw [g] at b;cases b;obtain ⟨hl,_⟩:=ax9.1 f;omega
def qo.no (s:qo es i0 a es.length 0 [] sn) (hn:(aX es).Nodup) {e:cV} (b:es[i0]?=some e) (o:e.name=a):¬ kS (dF es) a:=by
 have c:∀ k e,es[k]?=some e->(k=i0\/sn[k]?=some true)->∀ z,dF es e.name z->∃ j d,es[j]?=some d/\d.name=z/\j≠i0/\sn[j]?=some true:=by
  intro k e b h z q;obtain ⟨t,ht,j,d,u,f,g⟩:=TE hn b q;obtain ⟨m,w⟩:=List.getElem?_of_mem ht;obtain ⟨x,_⟩:=ax9.1 b;obtain ⟨h1,h2⟩:=s.cl k e b h aj m t w (fun C=>ad) j u;exact ⟨j,d,f,g,h1,h2⟩
 have l:∀ y z,qB (dF es) y z->z=a->(∃ j d,es[j]?=some d/\d.name=y/\j≠i0/\sn[j]?=some true)->False:=by
  intro y z r
  induction r with
  | refl y =>
   rintro rfl ⟨j,d,f,n,h1,_⟩;exact h1 (Ue hn f b (n.trans o.symm))
  | head A r B =>
   rintro rfl ⟨j,d,f,rfl,h1,h2⟩;exact B rfl (c j d f (Or.inr h2) _ A)
 rintro ⟨y,p,r⟩;rw [<- o] at p;exact l y a r rfl (c i0 e b (Or.inl rfl) y p)
def TI (hn:(aX es).Nodup) {e:cV} (f:es[kc]?=some e) (g:qB (dF es) a e.name) {t:Xaa × Nat} (ht:t∈e.x.ah) {d:cV} (h:es[i0]?=some d) (j:d.name=a) (k:kT es t.1=some i0):kS (dF es) a:=by
 obtain ⟨l,c,b⟩:=K6 hn f ht k;rw [h] at c;cases c;rw [j] at b;cases g with
 | refl _=>exact ⟨_,b,.refl _⟩
 | head h1 h2=>exact ⟨_,h1,h2.trans (.one b)⟩
def Wm:Tryz.prog.underlying 243=some (.slice 4):=ax
def Y':(Tryz.prog.info? 4).map (fun i=>(i.zero,i.size,i.bytes))=some (some (.bool false),1,1):=ax
def uO:Tryz.prog.underlying 135=some (.slice 3):=ax
def T8:(Tryz.prog.info? 3).map (fun i=>(i.zero,i.size,i.bytes))=some (some (vI 0),1,8):=ax
def UP (b:Bool):List Xab:=[.bool b]
def Nr (n:Nat):List Xab:=[vI (n:Int)]
def PS {α:Type} (f:α->Xab) (l:List α):(l.map fun x=>[f x]).flatten=l.map f:=by
 induction l with
 | nil=>rfl
 | cons a l b=>rw [bq9,eo9,b]; rfl
def Y7 {g:Nat} {e:TypeId} {sz:Nat} {cells:List Xab} (xs:List (List Xab)) (b:bC H g e cells) (hc:cells=xs.flatten) (hl:∀ x,x∈xs->x.length=sz) (hn:xs.length<9223372036854775808):SL H g e sz (some ⟨g,0,none⟩) xs.length xs.length xs:=by
 subst hc;exact ⟨rfl,hl,g,[],[],rfl,aq9 _,⟨aq9 _,hn⟩,by simpa using b,aj⟩
def FB (n:Int):Instr.fill (fun j=>some (j*1,1)) ((Array.range (1*1)).map ((Value.int .i64 0).cells[· % (Value.int .i64 0).cells.size]!)) [(0,vI n)]=some ([vI n]:List Xab).toArray:=ax
def Pf {h:Hp} {n:Nat} (hn:n<=2^40) {k:Xac->Nat->Nat->T} (hk:∀ h',SL h' h.size 4 1 (some ⟨h.size,0,none⟩) n n ((List.replicate n false).map UP)->Ext h h'->h'.size=h.size+1->k (some ⟨h.size,0,none⟩) n n V Y h') :
  T.eH Xaz (Instr.makeSlice 243 (vI (n:Int)) (vI (n:Int))) false [(false,[.slice 0])] k V Y h:=by
 obtain ⟨q,d,e,f,g⟩:=pO Y';refine dA (qH (l:=n) (c:=n) Wm d e (aq9 _) (by rw [g]; omega) ad ?_);intro j m o p;refine ⟨_,_,_,rfl,hk j ?_ o p⟩;have hc:(List.range (n*q.size)).map ((Value.bool false).cells[· % (Value.bool false).cells.size]!)=((List.replicate n false).map UP).flatten:=by
  rw [f,Nat.mul_one];show _=((List.replicate n false).map fun b=>[Value.bool b]).flatten;rw [PS];apply fo9
  ·simp
  ·intro i h1 h2;rw [am9,am9,List.getElem_replicate];show (#[Value.bool false]:Array Xab)[((List.range n)[i]'(by simpa using h1)) % 1]! = _;rw [Nat.mod_one] <;> rfl
 have:=Y7 ((List.replicate n false).map UP) m hc (fun x r=>by obtain ⟨b,_,rfl⟩:=an9.1 r; rfl) (by simp; omega)
 rw [ab9,List.length_replicate] at this;exact this
def nF (sn:List Bool):Nat:=sn.count false
theorem PD:∀ (sn:List Bool) (j:Nat),sn[j]?=some false->nF (sn.set j true)+1=nF sn
 | [],j,h=>by simp at h
 | b::l,0,h=>by
  simp at h;subst h;simp [nF]
 | b::l,j+1,h=>by
  have ih:=PD l j (by simpa using h);unfold nF at ih ⊢;rw [List.set_cons_succ,List.count_cons,List.count_cons];omega
def Sg (sn:List Bool) (j:Nat):(sn.map UP).set j [.bool true]=(sn.set j true).map UP:=by rw [fc9]; rfl
def N2 (p:Xac) (c:Nat):(if c=0 then p else Option.map (fun a=>Addr.add a 0) p)=p:=by
 split
 ·rfl
 ·cases p with
  | none=>rfl
  | some a=>show some (a.add 0)=some a; rw [add_zero']
open Classical in
def SS {l c:Nat} {es:List cV} (v:uV H O l es) (hn:(aX es).Nodup) (hl:es.length<=2^40) (ht:∀ e,e∈es->e.x.ah.length<=2^40) {i0:Nat} {e0:cV} (F:es[i0]?=some e0) :
  HC Xaz 100 #[.slice O l c,vI (i0:Int),vI (i0:Int)] H fun w h'=>Ext H h'/\w=.bool (decide (kS (dF es) e0.name)):=by
 refine bd (args:=[.slice O l c,vI (i0:Int),vI (i0:Int)]) mixed Tryz.func100 ax (qw O l c i0 i0) ?_;unfold lB aY bh bt aI cQ bn bq bz ez aQ cn cY;obtain rfl:=v.len;obtain ⟨hi0,_⟩:=ax9.1 F;refine Pf hl ?_;intro h1 sB1 e1 z1;refine nS uO T8 ad ad (FB _) ?_;intro h2 b2 e2 z2;have sW2:SL h2 h1.size 3 1 (some ⟨h1.size,0,none⟩) 1 1 ([i0].map Nr):=Y7 [[vI (i0:Int)]] b2 rfl aj aj;have sB2:=sB1.bK e2 aj;have e02:=e1.trans e2;refine aT (cs:=[(false,[.bool]),(false,[.slice 0])]) (fun y m h'=>∃ (W:List Nat) (sn:List Bool),m=nF sn+W.length/\m<=es.length+1/\Ext H h'/\h1.size<=h'.size/\SL h' H.size 4 1 (some ⟨H.size,0,none⟩) es.length es.length (sn.map UP)/\SL h' h1.size 3 1 y.2.1.1 y.2.1.2.1 y.2.1.2.2 (W.map Nr)/\qo es i0 e0.name es.length 0 W sn)
  (false,(some ⟨h1.size,0,none⟩,1,1),()) _ rfl ⟨[i0],List.replicate es.length false,rfl,by simp [nF],e02,ad,sB2,sW2,qo.start F rfl⟩ ?_
 rintro ⟨b9,⟨p10,R,l12⟩,⟨⟩⟩ m h3 ⟨W,sn,rfl,hM,e3,z3,sB3,s,I3⟩;simp only at s;refine ao ?_;have u:R=W.length:=by have:=s.1; rwa [ab9] at this
 have hWn:∀ w,w∈W->w<es.length:=fun w hw=>by
  obtain ⟨e,E,_⟩:=I3.Vg w hw;exact (ax9.1 E).1
 refine aR ?_ ?_<;>intro g1
 ·rcases List.eq_nil_or_concat W with rfl | ⟨r,kc,rfl⟩
  ·simp at u; omega
  ·rw [List.concat_eq_append] at u s I3 hWn hM;have hM':nF sn+(r.length+1)<=es.length+1:=by simpa using hM
   have u:R=r.length+1:=by simpa using u
   subst u;obtain ⟨I4,e,E,hr⟩:=I3.pop;have hkc:=(ax9.1 E).1;have hem:=cp9 E;have hw1:IntKind.wrap .i64 (((r.length+1:Nat):Int)-1)=(r.length:Int):=by rw [wrap_i64 ad ad]; omega
   obtain ⟨a,rfl,hc⟩:=SL.cells s (i:=r.length) aj;have hc:aH h3 (a.add (r.length*1)) 0 [vI (kc:Int)]:=by simpa [Nr] using hc
   rw [hw1,show Int.toNat (r.length:Int)=r.length from ad];refine bS rfl ?_;refine ay ((kc:Int),()) hc (ao ?_);have hcap:r.length+1<=l12:=by
    obtain ⟨g,pre,rest,_,_,hlc,_⟩:=s.2.2;exact hlc.1
   refine dC ⟨ad,ad,ad⟩ ?_;rw [N2,fv9,fv9];have sW4:=SL.take s (k:=r.length) ad;rw [<- List.map_take,el9] at sW4;have hte:=ht e hem;refine aT (cs:=TT) (fun y m h'=>∃ (W:List Nat) (b:List Bool) (i:Nat),y.2.2.1=(i:Int)/\i<=e.x.ah.length/\m=e.x.ah.length-i/\nF b+W.length+1=nF sn+(r.length+1)/\Ext H h'/\h1.size<=h'.size /\
    SL h' H.size 4 1 (some ⟨H.size,0,none⟩) es.length es.length (b.map UP)/\SL h' h1.size 3 1 y.2.1.1 y.2.1.2.1 y.2.1.2.2 (W.map Nr)/\qo es i0 e0.name kc i W b)
    (b9,(some a,r.length,l12),(0:Int),()) _ rfl ⟨r,sn,0,rfl,ad,rfl,ad,e3,z3,sB3,sW4,I4⟩ ?_
   rintro ⟨n,⟨A,l17,B⟩,n19,⟨⟩⟩ m5 h5 ⟨W,b,i,hi,hile,rfl,S,Q,z5,C,o,U⟩;simp only at hi o;subst hi;refine ao ?_;have V:l17=W.length:=by have:=o.1; rwa [ab9] at this
   subst V;have v5:=v.an Q;obtain ⟨ae,rfl,X⟩:=v5.cells kc hkc;have hek:es[kc]=e:=(ax9.1 E).2;rw [hek] at X;have vt:=v5.fC e hem;have hll:=vt.len;have hw:=ic i;have Y:aH h5 ((ae.add (kc*3)).add 1) 0 [.slice e.p e.l e.c]:=⟨by rw [add_add]; exact X.2.1,trivial⟩
   refine bS rfl ?_;rw [cr kc];refine ay ((e.p,e.l,e.c),()) Y (ao ?_);refine aR ?_ ?_<;>intro g2
   ·have J:i<e.x.ah.length:=ad
    refine bS rfl ?_;refine ay ((e.p,e.l,e.c),()) Y (ao ?_);obtain ⟨at',hp',Z⟩:=vt.cells i J;have G:e.x.ah[i]?=some e.x.ah[i]:=ad9 J;have htm:=al9 J;generalize e.x.ah[i]=t at Z G htm;refine hZ (bm hp' ?_);rw [cr i];refine ay (t.1,()) ⟨Z.1,trivial⟩ (ao ?_);refine jo (GS v5 ad t.1) ?_;refine aw ?_ ?_<;>intro D
    ·have D:TN (kT es t.1)=(i0:Int):=by simpa using D
     have K:kT es t.1=some i0:=by
      cases f:kT es t.1 with
      | none=>rw [f] at D; exact absurd D (by show ¬ ((-1:Int)=_); omega)
      | some j =>
       rw [f] at D
       have:(j:Int)=i0:=D
       rw [show j=i0 from ad]
     refine ⟨Q,?_⟩;rw [aj9 (TI hn E hr htm F rfl K)]
    ·have D:¬ TN (kT es t.1)=(i0:Int):=by simpa using D
     cases f:kT es t.1 with
     | none =>
      refine cg (by show decide ((-1:Int)>=0)=false; decide) ?_;refine aG (cs:=TT) (n,(A,W.length,B),((i+1:Nat):Int),()) (e.x.ah.length-(i+1)) rfl ad (as9 (fun z=>[Value.bool n,.slice A W.length B,Value.int .i64 z]) hw)
       ⟨W,b,i+1,rfl,ad,rfl,S,Q,z5,C,o,U.skip E G (fun j K=>by rw [f] at K; cases K)⟩
     | some j =>
      rw [f] at D;have hj0:j≠i0:=fun hh=>D (by rw [hh]; rfl)
      obtain ⟨d,hd,_⟩:=vO f;have hjl:=(ax9.1 hd).1;refine cj (aj9 (show (0:Int)<=((j:Nat):Int) from ad)) ?_;have L:j<b.length:=by rw [U.len]; exact hjl
      obtain ⟨ab,M,hcb⟩:=SL.cells C (i:=j) (by rw [ab9]; exact L);rw [am9] at hcb;refine dC ⟨by show (0:Int)<=(j:Int); omega,by show (j:Int)<_; omega⟩ (bm M ?_);rw [show Int.toNat (TN (some j))=j from Int.toNat_natCast j];refine ay (b[j],()) hcb (ao ?_);have I:b[j]?=some b[j]:=ad9 L;cases hb:b[j] with
      | true =>
       rw [hb] at I;refine cg rfl ?_;refine aG (cs:=TT) (n,(A,W.length,B),((i+1:Nat):Int),()) (e.x.ah.length-(i+1)) rfl ad (as9 (fun z=>[Value.bool n,.slice A W.length B,Value.int .i64 z]) hw)
        ⟨W,b,i+1,rfl,ad,rfl,S,Q,z5,C,o,U.skip E G (fun j' K=>by rw [f] at K; cases K; exact ⟨hj0,I⟩)⟩
      | false =>
       rw [hb] at I;refine cj rfl ?_;refine dC ⟨by show (0:Int)<=(j:Int); omega,by show (j:Int)<_; omega⟩ (bm M ?_);refine SL.store (P:=Xaz) C (i:=j) (by rw [ab9]; exact L) (vs:=[.bool true]) rfl rfl M ?_;intro h6 sB6 k6 z6;rw [Sg] at sB6;have N:∀ q,q∈aJ (some (⟨H.size,0,none⟩:Xax))->q=H.size:=fun q f=>by simpa [aJ] using f
       have sW6:=o.bK k6 (fun q f hm=>by have:=(o.cB f).1; have:=N q hm; omega);have e6:Ext H h6:=Ch.trans Q k6 (fun q f hl=>by have:=N q f; omega);refine gh (vs:=Nr j) uO T8 rfl ad ad (FB _) rfl rfl sW6 ad ad ad ?_;intro p' c' h7 sW7 k7 hp7;have e7:Ext H h7:=Ch.trans e6 k7 (fun q f hl=>by have:=(sW6.cB f).1; omega);have sB7:=sB6.bK k7 (fun q f hm=>by have:=N q f; have:=(sW6.cB hm).1; omega);have hnf:=PD b j I;refine aG (cs:=TT) (n,(p',W.length+1,c'),((i+1:Nat):Int),()) (e.x.ah.length-(i+1)) rfl ad (as9 (fun z=>[Value.bool n,.slice p' (W.length+1) c',Value.int .i64 z]) hw)
        ⟨W++[j],b.set j true,i+1,rfl,ad,rfl,by rw [af9]; show nF (b.set j true)+(W.length+1)+1=_; omega,e7,by have:=k7.size; omega,sB7,by rw [ao9]; exact sW7,U.push hn E hr G f hj0⟩
   ·refine aG (cs:=[(false,[.bool]),(false,[.slice 0])]) (n,(A,W.length,B),()) (nF b+W.length) rfl (by rw [List.concat_eq_append,af9]; show nF b+W.length<nF sn+(r.length+1); omega) rfl ⟨W,b,rfl,ad,Q,z5,C,o,U.done E ad⟩
 ·have hW:W=[]:=dy9.1 ad;subst hW;refine ⟨e3,?_⟩;rw [ak9 (I3.no hn F rfl)]
noncomputable def WM (es:List cV) (i:Nat):Bool:=by
 classical
 exact decide (∃ e,es[i]?=some e/\kS (dF es) e.name)
def Ea {es:List cV} {i:Nat} {e:cV} (c:es[i]?=some e) {d:Decidable (kS (dF es) e.name)}:decide (kS (dF es) e.name)=WM es i:=by
 unfold WM;refine fn9.2 ⟨fun h=>⟨e,c,h⟩,?_⟩;rintro ⟨f,b,h⟩;rw [c] at b;cases b;exact h
noncomputable def mF (es:List cV) (n:Nat):List Nat:=(List.range n).filter (WM es)
def Iw (es:List cV) (i:Nat):mF es (i+1)=mF es i++if WM es i=true then [i] else []:=by
 unfold mF;rw [fs9,List.filter_append]
 congr 1
 by_cases h:WM es i=true <;> simp [h]
def LS (es:List cV) (i:Nat):(mF es i).length<=i:=by
 unfold mF
 have:=do9 (WM es) (List.range i)
 simpa using this
def Qx {l c:Nat} {es:List cV} (v:uV H O l es) (hn:(aX es).Nodup) (hl:es.length<=2^40) (ht:∀ e,e∈es->e.x.ah.length<=2^40) :
  HC Xaz 75 #[.slice O l c] H fun w h'=>Ext H h'/\∃ p' l' c',w=.slice p' l' c'/\SL h' H.size 3 1 p' l' c' ((mF es es.length).map Nr):=by
 refine bd (args:=[.slice O l c]) mixed Tryz.func75 ax (pM O l c) ?_;unfold kF bh bt aZ bn bg aQ cY;have hll:=v.len;refine aT (cs:=lM) (fun y m h'=>∃ i:Nat,y.2.1=(i:Int)/\m=es.length-i/\i<=es.length/\Ext H h'/\SL h' H.size 3 1 y.1.1 y.1.2.1 y.1.2.2 ((mF es i).map Nr)) ((none,0,0),(0:Int),()) es.length rfl
  ⟨0,rfl,rfl,ad,Ch.refl _ _,SL.nil _ _ _ _⟩ ?_
 rintro ⟨⟨k,b,n⟩,D,⟨⟩⟩ m h1 ⟨i,hi,rfl,s,d,f⟩;simp only at hi f;subst hi;refine ao ?_;have t:b=(mF es i).length:=by have:=f.1; rwa [ab9] at this
 have hbl:=LS es i;refine aR ?_ ?_<;>intro q
 ·have o:i<es.length:=ad
  have hw:=ic i;have he:=ad9 o;have hbs:=Iw es i;refine aK (SS (c:=c) (v.an d) hn hl ht he) ?_;rintro _ h2 ⟨g,rfl⟩;rw [Ea he];refine ⟨(WM es i,()),rfl,ao ?_⟩;have s2:=f.bK g aj;refine aw ?_ ?_<;>intro r
  ·rw [ag9 r] at hbs
   have:=(d.trans g).size
   refine gh (vs:=Nr i) uO T8 rfl ad ad (FB _) rfl rfl s2 ad ad ad ?_;intro p' c' F u A B;refine aG (cs:=lM) ((p',b+1,c'),((i+1:Nat):Int),()) (es.length-(i+1)) rfl ad (as9 (fun z=>[Value.slice p' (b+1) c',Value.int .i64 z]) hw) ?_;exact ⟨i+1,rfl,rfl,ad,Ch.trans (d.trans g) A (fun j C hl=>by have:=(s2.cB C).1; omega),by rw [hbs,ao9]; exact u⟩
  ·rw [ac9 (by rw [r]; simp),bz9] at hbs;refine aG (cs:=lM) ((k,b,n),((i+1:Nat):Int),()) (es.length-(i+1)) rfl ad (as9 (fun z=>[Value.slice k b n,Value.int .i64 z]) hw) ?_;exact ⟨i+1,rfl,rfl,ad,d.trans g,by rw [hbs]; exact s2⟩
 ·have:i=es.length:=ad
  subst this;exact ⟨d,k,b,n,rfl,f⟩
noncomputable def dQ (es:List cV):Option Nat:=by
 classical
 exact es.findIdx? fun e=>decide (kS (dF es) e.name)
def Jx {es:List cV} {i:Nat} {r:List Nat} (h:mF es es.length=i::r):i<es.length/\dQ es=some i:=by
 unfold mF at h;obtain ⟨b,f,h1,h2,g,_⟩:=List.filter_eq_cons_iff.1 h;have e:es.length=b.length+(f.length+1):=by
  have:=as9 List.length h1
  simpa using this
 have c:b.length=i:=by
  have:=as9 (fun l:List Nat=>l[b.length]?) h1
  simp only [List.getElem?_append_right (Nat.le_refl _),Nat.sub_self,List.getElem?_cons_zero] at this;rw [dl9 ad] at this;exact bb9 this
 subst c;have d:b.length<es.length:=ad
 refine ⟨d,?_⟩;unfold dQ;rw [bd9];refine ⟨d,?_,fun j k=>?_⟩
 ·rw [Ea (ad9 d)];exact g
 ·rw [Ea (ad9 ad)];refine h2 j ?_
  have:=as9 (fun l:List Nat=>l[j]?) h1
  simp only [List.getElem?_append_left k] at this;rw [dl9 ad] at this;exact cp9 this.symm
def Me {es:List cV} (h:mF es es.length=[]):dQ es=none:=by
 unfold mF at h;unfold dQ;rw [ca9];intro e b;obtain ⟨i,hi⟩:=List.getElem?_of_mem b;rw [Ea hi]
 have:=List.filter_eq_nil_iff.1 h i (dv9.2 (ax9.1 hi).1)
 simpa using this
def U2 (of:Xaa->Option bM):Nat->bM->bM
 | 0,x=>x
 | t+1,x=>dz of (U2 of t x)
theorem tO (of:Xaa->Option bM):∀ (l:dt) (n:Nat),n<4294967296->l.foldl (gU of) n<4294967296
 | [],n,h=>h
 | t::l,n,h=>by
  rw [bt9];refine tO of l _ ?_;unfold gU;split
  ·exact h
  ·exact ft9 _ bT
structure ue (S:List Xaa) (x:bM):Prop where
 nf:Nf x.ah
 num:x.num<4294967296
 fC:∀ t,t∈x.ah->t.1∈S
def ue.put {S:List Xaa} {es:List cV} (b:∀ e,e∈es->ue S e.x) (h:ue S U):ue S (dz (cG es) U) :=
 ⟨eP _ _,tO _ _ _ h.num,Kz h.fC fun e c=>(b e c).fC⟩
theorem ue.it {S:List Xaa} {es:List cV} (b:∀ e,e∈es->ue S e.x) {x:bM} (h:ue S x):∀ t,ue S (U2 (cG es) t x)
 | 0=>h
 | t+1=>(ue.it b h t).put b
structure Te (B:Nat) (h0 h':Hp) (p:Xac) (l c:Nat) (es ms:List cV) (f:Nat->Nat):Prop where
 out:SL h' h0.size 116 3 p l c (ms.map A0)
 len:ms.length=es.length
 eq:∀ j e m,es[j]?=some e->ms[j]?=some m->m.name=e.name/\m.x=U2 (cG es) (f j) e.x
 fC:∀ m,m∈ms->iD h' m.p m.l m.x.ah
 low:∀ m,m∈ms->∀ i,i∈aJ m.p->(B<=i/\i<h'.size)/\i∉aJ p
def Ss (ms:List cV) (i:Nat) (m:cV):(ms.map A0).set i (A0 m)=(ms.set i m).map A0:=by rw [fc9]
def S5 {l:Nat} {es:List cV} (v:uV H O l es):(O=none/\es.map A0=[])\/∃ a,O=some a/\aH H a 0 (es.map A0).flatten:=by
 cases O with
 | none =>
  refine .inl ⟨rfl,?_⟩;cases es with
  | nil=>rfl
  | cons e es =>
   obtain ⟨a,b,_⟩:=v.cells 0 aj;cases b
 | some a =>
  refine .inr ⟨a,rfl,?_⟩
  have:=mv (h:=H) (a:=a) (sz:=3) (es.map A0) 0 (fun x c=>by obtain ⟨e,_,rfl⟩:=an9.1 c; rfl) (fun i hi=>by
   obtain ⟨a',b,hc⟩:=v.cells i (by simpa using hi);cases b;rw [am9,bu9];exact hc)
  rwa [Nat.zero_mul] at this
def Mv (e:cV):(A0 e).all dr=true:=by unfold A0; simp [dr]
def IR (es:List cV):(es.map A0).flatten.all dr=true:=by
 rw [bn9];intro x c;obtain ⟨l,hl,b⟩:=List.mem_flatten.1 c;obtain ⟨e,_,rfl⟩:=an9.1 hl;exact bn9.1 (Mv e) x b
def Mw {l c:Nat} {es:List cV} {B:Nat} (hB:B<=H.size) (v:uV H O l es) (hb:∀ e,e∈es->∀ i,i∈aJ e.p->B<=i/\i<H.size) (hn:(aX es).Nodup) (hl:es.length<=2^30) {S:List Xaa} (hS:S.length<=2^30) (u:∀ e,e∈es->ue S e.x) :
  HC Xaz 47 #[.slice O l c] H fun w h'=>Ext H h'/\match dQ es with
   | some i=>w=.tuple #[.slice none 0 0,vI (i:Int),vI 24]
   | none=>∃ p' l' c' ms,w=.tuple #[.slice p' l' c',vI 0,vI 0]/\Te B H h' p' l' c' es ms (fun _=>es.length):=by
 refine bd (args:=[.slice O l c]) mixed Tryz.func47 ax (ot O l c) ?_;unfold jC aY bh bt aI bP bn lh aF bG bg aQ;have hll:=v.len;have hlt:∀ e,e∈es->e.x.ah.length<=2^40:=fun e A=>by have:=A6 (u e A).nf (u e A).fC; omega
 refine aK (Qx (c:=c) v hn ad hlt) ?_;rintro _ h1 ⟨X,p1,l1,c1,rfl,s1⟩;refine ⟨((p1,l1,c1),()),rfl,ao ?_⟩;have L:l1=(mF es es.length).length:=by have:=s1.1; rwa [ab9] at this
 refine aR ?_ ?_<;>intro g
 ·cases C:mF es es.length with
  | nil=>rw [C] at L; simp at L; omega
  | cons i r =>
   obtain ⟨hi,hf⟩:=Jx C;obtain ⟨a,rfl,hc⟩:=SL.cells s1 (i:=0) (by rw [ab9,C]; simp);have hc:aH h1 a 0 [vI (i:Int)]:=by
    rw [am9,Nat.zero_mul,add_zero'] at hc;simp only [C,List.getElem_cons_zero] at hc;exact hc
   refine bS rfl ?_;refine ay ((i:Int),()) hc (ao ?_);refine ⟨⟨hc,trivial⟩,X,?_⟩;rw [hf]
 ·have hbn:mF es es.length=[]:=dy9.1 ad;rw [Me hbn];refine qG (ys:=es.map A0) Du MP rfl (S5 (v.an X)) (by rw [ab9]; exact hll) (fun y hy=>by obtain ⟨e,_,rfl⟩:=an9.1 hy; rfl) (IR es) ad ad ?_;intro Y Z h2 s2 e2;have z1:=X.size;have e02:=X.trans e2;have o0:Te B H h2 Y l Z es es fun _=>0:=⟨s2.mono z1,rfl,fun j e m A E=>by rw [A] at E; cases E; exact ⟨rfl,rfl⟩,fun m E=>(v.fC m E).an e02 aj,fun m E i hi=>by
   have h1:=hb m E i hi
   have:=e02.size
   exact ⟨⟨h1.1,ad⟩,fun M=>by have:=(s2.cB M).1; omega⟩⟩
  refine aT (cs:=cI) (fun y m h'=>∃ (t:Nat) (ms:List cV),y.1=(t:Int)/\m=es.length-t/\t<=es.length/\Ext H h'/\Te B H h' Y l Z es ms fun _=>t) ((0:Int),()) es.length rfl ⟨0,es,rfl,rfl,ad,e02,o0⟩ ?_;rintro ⟨n10,⟨⟩⟩ m3 h3 ⟨t,ms,hi,rfl,hle,e3,o3⟩;simp only at hi;subst hi;refine ao ?_;refine aR ?_ ?_<;>intro q
  ·have hwt:=ic t;refine aT (cs:=cI) (fun y m h'=>∃ (i:Nat) (ms:List cV),y.1=(i:Int)/\m=es.length-i/\i<=es.length/\Ext H h'/\Te B H h' Y l Z es ms fun j=>if j<i then t+1 else t) ((0:Int),()) es.length rfl ⟨0,ms,rfl,rfl,ad,e3,by simpa using o3⟩ ?_;rintro ⟨n11,⟨⟩⟩ m4 h4 ⟨i,f,hi,rfl,hle4,e4,k⟩;simp only at hi;subst hi;refine ao ?_;refine aR ?_ ?_<;>intro r
   ·have D:i<es.length:=ad
    have n:i<f.length:=by rw [k.len]; exact D
    have hwi:=ic i;obtain ⟨a,rfl,hc⟩:=SL.cells k.out (i:=i) (by rw [ab9]; exact n);rw [am9] at hc;obtain ⟨F,N⟩:=k.eq i es[i] f[i] (ad9 D) (ad9 n);have hmm:=al9 n;have hemm:=al9 D;have vm:=k.fC _ hmm;have lm:=k.low _ hmm;rw [ac9 ad] at N;have Q:f[i]?=some f[i]:=ad9 n;have R:es[i]?=some es[i]:=ad9 D;generalize f[i]=m at hc F N hmm vm lm Q;generalize es[i]=e at F N hemm R;have G:ue S m.x:=by rw [N]; exact ue.it u (u e hemm) t
    refine bS rfl ?_;rw [cr i];refine ay ((m.p,m.l,m.c),(m.x.num:Int),()) ⟨by rw [add_add]; exact hc.2.1,by rw [add_add]; exact hc.2.2.1,trivial⟩ ?_;refine ao ?_;have z4:=e4.size;refine aK (KP (c:=m.c) (d:=c) vm (v.an e4) (fun j s=>(lm j s).1.2) (fun e A j s=>by have:=hb e A j s; omega) ad G.nf G.num (fun e A=>(u e A).nf) hS G.fC fun e A=>(u e A).fC) ?_;rintro _ h5 ⟨e5,p5,l5,c5,rfl,s5⟩;refine ⟨((p5,l5,c5),((dz (cG es) m.x).num:Int),()),rfl,ao ?_⟩;have z5:=e5.size;refine bS rfl ?_;have so:=k.out.bK e5 aj;refine SL.part (P:=Xaz) so (i:=i) (by rw [ab9]; exact n) (vs:=[.slice p5 l5 c5,.int .u32 ((dz (cG es) m.x).num:Int)]) (o:=1) aj (by simp [dr]) rfl ?_;intro h6 s6 k6 z6;have hse:(f.map A0).set i (lK ((f.map A0)[i]'(by rw [ab9]; exact n)) 1 [.slice p5 l5 c5,.int .u32 ((dz (cG es) m.x).num:Int)])=(f.set i ⟨m.name,p5,l5,c5,dz (cG es) m.x⟩).map A0:=by
     rw [<- Ss]
     congr 1
     rw [am9]
     have:f[i]=m:=(ax9.1 Q).2
     rw [this] <;> rfl
    rw [hse] at s6;have I:∀ j,j∈aJ (some a)->H.size<=j/\j<h4.size:=fun j s=>k.out.cB s
    have e6:Ext H h6:=Ch.trans (e4.trans e5) k6 (fun j s hl=>by have:=I j s; omega);refine aG (cs:=cI) (((i+1:Nat):Int),()) (es.length-(i+1)) rfl ad (as9 (fun z=>[Value.int .i64 z]) hwi) ⟨i+1,_,rfl,rfl,ad,e6,⟨s6,by rw [cy9]; exact k.len,fun j e' K J b=>?_,fun K b=>?_,fun K b j s=>?_⟩⟩
    ·by_cases U:i=j
     ·subst U;rw [er9 n] at b;cases b;rw [R] at J;cases J;refine ⟨F,?_⟩;rw [ag9 ad];show dz (cG es) m.x=dz (cG es) (U2 (cG es) t e.x);rw [N]
     ·rw [dq9 U] at b;obtain ⟨h1,h2⟩:=k.eq j e' K J b;refine ⟨h1,h2.trans ?_⟩
      by_cases V:j<i
      ·rw [ag9 V,ag9 ad]
      ·rw [ac9 V,ac9 ad]
    ·rcases dh9 b with b | rfl
     ·exact ((k.fC K b).an e5 aj).an k6 (fun j s=>(k.low K b j s).2)
     ·exact (s5.bK k6 (fun j s M=>by have:=(s5.cB s).1; have:=I j M; omega)).NF
    ·rcases dh9 b with b | rfl
     ·obtain ⟨h1,h2⟩:=k.low K b j s;exact ⟨⟨h1.1,ad⟩,h2⟩
     ·obtain ⟨h1,h2⟩:=s5.cB s;exact ⟨⟨ad,ad⟩,fun M=>by have:=I j M; omega⟩
   ·have:i=es.length:=ad
    subst this;refine aG (cs:=cI) (((t+1:Nat):Int),()) (es.length-(t+1)) rfl ad (as9 (fun z=>[Value.int .i64 z]) hwt) ⟨t+1,f,rfl,rfl,ad,e4,⟨k.out,k.len,fun j e m A E=>?_,k.fC,k.low⟩⟩;obtain ⟨h1,h2⟩:=k.eq j e m A E;rw [ag9 (ax9.1 A).1] at h2;exact ⟨h1,h2⟩
  ·have:t=es.length:=ad
   subst this;exact ⟨e3,Y,l,Z,ms,rfl,o3⟩
theorem rY (s:Xaa):∀ l:dt,gX (fun r=>if r=s then 1 else 0) l=cf l s
 | []=>rfl
 | p::l=>by
  rw [ft,fm,rY s l]
  congr 1
  split <;> simp
theorem pn:∀ l:dt,gX (fun _=>0) l=0
 | []=>rfl
 | p::l=>by rw [ft,pn l]; simp
def Kr {y:bM} (e:Nf U.ah) (g:Nf y.ah) (nx:U.num<4294967296) (j:y.num<4294967296) (h:∀ f,jU f U=jU f y):U=y:=by
 have h0:=h fun _=>0
 unfold jU at h0;rw [pn,pn] at h0;have hn:U.num=y.num:=ad
 have ht:U.ah=y.ah:=e.MH g fun s=>by
  have h1:=h fun r=>if r=s then 1 else 0
  unfold jU at h1;rw [rY,rY] at h1;omega
 obtain ⟨a,b⟩:=U;obtain ⟨c,d⟩:=y;simp only at hn ht;rw [hn,ht]
def JB (of:Xaa->Option bM) (f:Xaa->Nat) (s:Xaa):Nat:=match of s with
 | none=>f s
 | some y=>jU f y
def fY (of:Xaa->Option bM) (f:Xaa->Nat) (x:bM):jU f (dz of x)=jU (JB of f) x:=Oj (fun s=>by unfold JB; rfl) x
theorem Br {f g:Xaa->Nat}:∀ {l:dt},(∀ t,t∈l->f t.1=g t.1)->gX f l=gX g l
 | [],_=>rfl
 | p::l,h=>by rw [ft,ft,h p aj,Br fun t ht=>h t (ap9 _ ht)]
def pP {f g:Xaa->Nat} {x:bM} (h:∀ t,t∈x.ah->f t.1=g t.1):jU f x=jU g x:=by
 unfold jU;rw [Br h]
section
variable {own:Xaa->Bool} {lin:Xaa->bM}
def WW (own:Xaa->Bool) (lin:Xaa->bM) (t:Nat) (s:Xaa):Option bM:=if own s=true then some (rM own lin t s) else none
def zG (own:Xaa->Bool) (lin:Xaa->bM) (s:Xaa):Option bM:=if own s=true then some (lin s) else none
def tn (t:Nat) (v:Xaa):rM own lin (t+1) v=dz (WW own lin t) (lin v):=rfl
theorem Dr (b:∀ v,own v=true->(lin v).num<4294967296):∀ (t:Nat) (v:Xaa),own v=true->dz (zG own lin) (rM own lin t v)=rM own lin (t+1) v
 | 0,v,hv=>rfl
 | t+1,v,hv=>by
  rw [tn (t+1) v,tn t v];refine Kr (eP _ _) (eP _ _) (tO _ _ _ (tO _ _ _ (b v hv))) (tO _ _ _ (b v hv)) fun f=>?_
  rw [fY,fY,fY];refine pP fun u _=>?_
  generalize u.1=s;unfold JB WW
  by_cases c:own s=true
  ·rw [ag9 c,ag9 c];show jU (JB (zG own lin) f) (rM own lin t s)=jU f (rM own lin (t+1) s);rw [<- Dr b t s c,fY]
  ·rw [ac9 c,ac9 c];show (match zG own lin s with | none=>f s | some y=>jU f y)=f s;unfold zG;rw [ac9 c]
theorem FX (b:∀ v,own v=true->(lin v).num<4294967296):∀ (t:Nat) (v:Xaa),own v=true->U2 (zG own lin) t (lin v)=rM own lin t v
 | 0,v,hv=>rfl
 | t+1,v,hv=>by
  show dz (zG own lin) (U2 (zG own lin) t (lin v))=_;rw [FX b t v hv,Dr b t v hv]
end
def Tu {es:List cV} (hn:(aX es).Nodup) (c:∀ e,e∈es->e.x.num<4294967296) {e:cV} (j:e∈es):U2 (cG es) es.length e.x=fq es e.name:=by
 have f:cF es e.name=true:=by
  unfold cF;cases g:kT es e.name with
  | some k=>rfl
  | none =>
   unfold kT at g;rw [ca9] at g
   have:=g e j
   simp at this
 have b:∀ v,cF es v=true->(dB es v).num<4294967296:=by
  intro v hv;unfold cF at hv;obtain ⟨k,hk⟩:=cg9.1 hv;obtain ⟨d,l,h⟩:=vO hk;rw [<- h,qQ hn (cp9 l)];exact c d (cp9 l)
 have h1:=FX b es.length e.name f;rw [qQ hn j] at h1;have h2:zG (cF es) (dB es)=cG es:=rfl;rw [h2] at h1;rw [h1];unfold fq Kl aX;rw [ab9]
def Ac (K:Ky->Prop) (a b:Ky->Xaa) (x y:bM):Prop:=∀ f g:Xaa->Nat,(∀ k,K k->f (a k)=g (b k))->jU f x=jU g y
def Ac.symm {K:Ky->Prop} {a b:Ky->Xaa} {x y:bM} (h:Ac K a b x y):Ac K b a y x:=fun f g c=>(h g f fun k hk=>(c k hk).symm).symm
structure wC {δ:Type} (Q:List δ) (ky:δ->Ky) (K:Ky->Prop) (a b:Ky->Xaa) (xa xb:δ->bM):Prop where
 nd:(Q.map ky).Nodup
 R0:∀ q,q∈Q->K (ky q)
 ia:∀ k k',K k->K k'->a k=a k'->k=k'
 ib:∀ k k',K k->K k'->b k=b k'->k=k'
 UI:∀ k,K k->k∉Q.map ky->a k=b k
 rel:∀ q,q∈Q->Ac K a b (xa q) (xb q)
 fa:∀ q,q∈Q->Nf (xa q).ah
 fb:∀ q,q∈Q->Nf (xb q).ah
def wC.symm {δ:Type} {Q:List δ} {ky:δ->Ky} {K:Ky->Prop} {a b:Ky->Xaa} {xa xb:δ->bM} (t:wC Q ky K a b xa xb):wC Q ky K b a xb xa :=
 ⟨t.nd,t.R0,t.ib,t.ia,fun k hk hn=>(t.UI k hk hn).symm,fun q c=>(t.rel q c).symm,t.fb,t.fa⟩
def wD {δ:Type} (Q:List δ) (ky:δ->Ky) (a:Ky->Xaa) (xa:δ->bM):List (Xaa × bM):=Q.map fun q=>(a (ky q),xa q)
def w8 (D:List (Xaa × bM)):Sx.aX (fg D)=D.map (·.1):=by
 have:=as9 (List.map (·.1)) (qv D)
 rw [bf9] at this;exact this
def tI {D:List (Xaa × bM)} {s:Xaa}:cF (fg D) s=true↔s∈D.map (·.1):=by rw [dV,w8]
theorem Vf:∀ {l:dt} {t:Xaa × Nat},Nf l->t∈l->cf l t.1=t.2
 | [],t,_,h=>by simp at h
 | p::l,t,n,h=>by
  rcases be9.1 h with h | h
  ·subst h;exact n.nK
  ·rw [fm,ac9 (jX (n.head t h)),bu9];exact Vf n.tail h
def PB {l:dt} (n:Nf l) {s:Xaa}:s∈l.map (·.1)↔cf l s % 4294967296≠0:=by
 constructor
 ·intro h;obtain ⟨t,ht,rfl⟩:=an9.1 h;rw [Vf n ht]
  have:=n.2 t ht
  omega
 ·intro h;apply ew9;intro k;exact h (by rw [Ak fun p b e=>k (an9.2 ⟨p,b,e⟩)])
section
variable {δ:Type} {Q:List δ} {ky:δ->Ky} {K:Ky->Prop} {a b:Ky->Xaa} {xa xb:δ->bM}
def Bj:(wD Q ky a xa).map (·.1)=(Q.map ky).map a:=by
 unfold wD;rw [bf9,bf9] <;> rfl
def wC.WO (t:wC Q ky K a b xa xb):((wD Q ky a xa).map (·.1)).Nodup:=by
 rw [Bj];have h:=t.nd;rw [ee9] at h ⊢;rw [cr9];refine List.Pairwise.imp_of_mem ?_ h;intro k k' hk c d e;obtain ⟨q,f,rfl⟩:=an9.1 hk;obtain ⟨r,g,rfl⟩:=an9.1 c;exact d (t.ia _ _ (t.R0 q f) (t.R0 r g) e)
def wC.own (t:wC Q ky K a b xa xb) {k:Ky} (hk:K k):cF (fg (wD Q ky a xa)) (a k)=true↔k∈Q.map ky:=by
 rw [tI,Bj,an9];constructor
 ·rintro ⟨k',c,e⟩;obtain ⟨q,d,rfl⟩:=an9.1 c;rw [<- t.ia _ _ (t.R0 q d) hk e];exact c
 ·intro h;exact ⟨k,h,rfl⟩
def wC.lin (t:wC Q ky K a b xa xb) {q:δ} (c:q∈Q):dB (fg (wD Q ky a xa)) (a (ky q))=xa q:=by
 have h2:(⟨a (ky q),none,0,0,xa q⟩:cV)∈fg (wD Q ky a xa):=an9.2 ⟨(a (ky q),xa q),an9.2 ⟨q,c,rfl⟩,rfl⟩;exact qQ (by rw [w8]; exact t.WO) h2
def Ac.cf {x y:bM} (h:Ac K a b x y) {k:Ky} (d:∀ k',K k'->a k'=a k->k'=k) (f:∀ k',K k'->b k'=b k->k'=k):cf x.ah (a k) % 4294967296=cf y.ah (b k) % 4294967296:=by
 have h0:=h (fun _=>0) (fun _=>0) fun _ _=>rfl
 have h1:=h (fun r=>if r=a k then 1 else 0) (fun r=>if r=b k then 1 else 0) fun k' c=>by
  by_cases e:k'=k
  ·subst e
   simp
  ·rw [ac9 fun x=>e (d k' c x),ac9 fun x=>e (f k' c x)]
 unfold jU at h0 h1;rw [pn,pn] at h0;rw [rY,rY] at h1;omega
def wC.Ym (t:wC Q ky K a b xa xb) {q r:δ} (d:q∈Q) (f:r∈Q) (h:dF (fg (wD Q ky a xa)) (a (ky q)) (a (ky r))):dF (fg (wD Q ky b xb)) (b (ky q)) (b (ky r)):=by
 obtain ⟨h1,h2⟩:=h;refine ⟨?_,(t.symm.own (t.R0 r f)).2 (bc9 f)⟩;unfold cU at h1 ⊢;rw [t.lin d,PB (t.fa q d)] at h1;rw [t.symm.lin d,PB (t.fb q d)];rw [(t.rel q d).cf (fun k' c e=>t.ia _ _ c (t.R0 r f) e) (fun k' c e=>t.ib _ _ c (t.R0 r f) e)] at h1;exact h1
def wC.zP (t:wC Q ky K a b xa xb) {s u:Xaa} (h:dF (fg (wD Q ky a xa)) s u):∃ r,r∈Q/\u=a (ky r):=by
 have h2:=h.2;rw [tI,Bj] at h2;obtain ⟨k,hk,rfl⟩:=an9.1 h2;obtain ⟨r,c,rfl⟩:=an9.1 hk;exact ⟨r,c,rfl⟩
def wC.Vg (t:wC Q ky K a b xa xb) {u v:Xaa} (h:qB (dF (fg (wD Q ky a xa))) u v):∀ q r,q∈Q->r∈Q->u=a (ky q)->v=a (ky r)->qB (dF (fg (wD Q ky b xb))) (b (ky q)) (b (ky r)):=by
 induction h with
 | refl u =>
  intro q r c d f g;rw [t.ia _ _ (t.R0 q c) (t.R0 r d) (f.symm.trans g)];exact .refl _
 | head e _ k =>
  intro q r c d f g;subst f;obtain ⟨m,j,rfl⟩:=t.zP e;exact .head (t.Ym c j e) (k m r j d rfl g)
def wC.YM (t:wC Q ky K a b xa xb) {q:δ} (c:q∈Q) (h:kS (dF (fg (wD Q ky a xa))) (a (ky q))):kS (dF (fg (wD Q ky b xb))) (b (ky q)):=by
 obtain ⟨y,h1,h2⟩:=h;obtain ⟨m,d,rfl⟩:=t.zP h1;exact ⟨_,t.Ym c d h1,t.Vg h2 m q d c rfl rfl⟩
def wC.onc (t:wC Q ky K a b xa xb) {q:δ} (c:q∈Q):kS (dF (fg (wD Q ky a xa))) (a (ky q))↔kS (dF (fg (wD Q ky b xb))) (b (ky q)):=⟨t.YM c,t.symm.YM c⟩
def wC.X7 (t:wC Q ky K a b xa xb):lZ (wD Q ky a xa)=dQ (fg (wD Q ky b xb)):=by
 classical
 unfold lZ dQ;have h2:∀ D:List (Xaa × bM),∀ P:Xaa->Bool,(fg D).findIdx? (fun e=>P e.name)=D.findIdx? fun y=>P y.1:=by
  intro D P;unfold fg;rw [fh9] <;> rfl
 have h3:=h2 (wD Q ky b xb) (fun s=>decide (kS (dF (fg (wD Q ky b xb))) s));rw [h3];have c:∀ l:List δ,(∀ q,q∈l->q∈Q)->(l.map fun q=>(a (ky q),xa q)).findIdx? (fun y=>decide (kS (dF (fg (wD Q ky a xa))) y.1))=(l.map fun q=>(b (ky q),xb q)).findIdx? (fun y=>decide (kS (dF (fg (wD Q ky b xb))) y.1)):=by
  intro l
  induction l with
  | nil=>intro _; rfl
  | cons q l d =>
   intro hl;rw [bq9,bq9,List.findIdx?_cons,List.findIdx?_cons,d fun r f=>hl r (ap9 _ f)];have g:decide (kS (dF (fg (wD Q ky a xa))) (a (ky q)))=decide (kS (dF (fg (wD Q ky b xb))) (b (ky q))):=fn9.2 (t.onc (hl q (cw9 ..)));simp only [g]
 exact c Q fun q h=>h
theorem wC.Kl (t:wC Q ky K a b xa xb):∀ (n:Nat) (q:δ),q∈Q->Ac K a b (rM (cF (fg (wD Q ky a xa))) (dB (fg (wD Q ky a xa))) n (a (ky q))) (rM (cF (fg (wD Q ky b xb))) (dB (fg (wD Q ky b xb))) n (b (ky q)))
 | 0,q,c=>by
  show Ac K a b (dB (fg (wD Q ky a xa)) (a (ky q))) (dB (fg (wD Q ky b xb)) (b (ky q)));rw [t.lin c,t.symm.lin c];exact t.rel q c
 | n+1,q,c=>by
  intro f g d;rw [tn,tn,fY,fY,t.lin c,t.symm.lin c];refine t.rel q c _ _ fun k hk=>?_
  unfold JB WW
  by_cases e:k∈Q.map ky
  ·rw [ag9 ((t.own hk).2 e),ag9 ((t.symm.own hk).2 e)];obtain ⟨r,j,rfl⟩:=an9.1 e;exact wC.Kl t n r j f g d
  ·rw [ac9 fun h=>e ((t.own hk).1 h),ac9 fun h=>e ((t.symm.own hk).1 h)];exact d k hk
def Un {D:List (Xaa × bM)} (s:Xaa):fq (fg D) s=rM (cF (fg D)) (dB (fg D)) D.length s:=by
 unfold fq Kl;rw [w8,ab9]
def Pe {D:List (Xaa × bM)} (s:Xaa):cF (fg (jr D)) s=cF (fg D) s:=by
 have h:(jr D).map (·.1)=D.map (·.1):=by
  unfold jr;rw [bf9] <;> rfl
 rw [ds9,tI,tI,h]
def sq {D:List (Xaa × bM)} (hn:(D.map (·.1)).Nodup) (s:Xaa):cG (fg (jr D)) s=if cF (fg D) s=true then some (fq (fg D) s) else none:=by
 unfold cG;rw [Pe]
 by_cases h:cF (fg D) s=true
 ·rw [ag9 h,ag9 h];rw [tI] at h;obtain ⟨y,c,rfl⟩:=an9.1 h;have h0:(jr D).map (·.1)=D.map (·.1):=by
   unfold jr;rw [bf9] <;> rfl
  have h2:(⟨y.1,none,0,0,fq (fg D) y.1⟩:cV)∈fg (jr D):=an9.2 ⟨(y.1,fq (fg D) y.1),an9.2 ⟨y,c,rfl⟩,rfl⟩;exact as9 some (qQ (by rw [w8,h0]; exact hn) h2)
 ·rw [ac9 h,ac9 h]
def wC.put (t:wC Q ky K a b xa xb) {x y:bM} (h:Ac K a b x y):Ac K a b (oh (jr (wD Q ky a xa)) x) (oh (jr (wD Q ky b xb)) y):=by
 intro f g c;unfold oh;rw [fY,fY];refine h _ _ fun k hk=>?_
 unfold JB;rw [sq t.WO,sq t.symm.WO]
 by_cases d:k∈Q.map ky
 ·rw [ag9 ((t.own hk).2 d),ag9 ((t.symm.own hk).2 d)];obtain ⟨r,e,rfl⟩:=an9.1 d;have j:(wD Q ky a xa).length=Q.length:=by unfold wD; rw [ab9]
  have l:(wD Q ky b xb).length=Q.length:=by unfold wD; rw [ab9]
  simp only [Un,j,l];exact t.Kl Q.length r e f g c
 ·rw [ac9 fun h=>d ((t.own hk).1 h),ac9 fun h=>d ((t.symm.own hk).1 h)];exact c k hk
def Ki {D:List (Xaa × bM)} (hn:(D.map (·.1)).Nodup) (hc:∀ v,¬ kS (dF (fg D)) v) {x:bM}:∀ u,u∈(oh (jr D) x).ah->cF (fg D) u.1=false:=by
 intro u d;unfold oh at d;rcases pW d with ⟨p,f,e,ho⟩ | ⟨p,y,v,f,ho,hv,e⟩
 ·rw [sq hn] at ho;cases c:cF (fg D) u.1 with
  | false=>rfl
  | true=>rw [ag9 c] at ho; cases ho
 ·rw [sq hn] at ho
  by_cases c:cF (fg D) p.1=true
  ·rw [ag9 c] at ho;have ho:=bb9 ho;subst ho
   have:=(tC (own:=cF (fg D)) (lin:=dB (fg D)) (names:=Sx.aX (fg D)) (fun s=>dV _ s) hc ((dV _ _).1 c) v hv).1
   rw [<- e];exact this
  ·rw [ac9 c] at ho; cases ho
def JA {D:List (Xaa × bM)} (h:lZ D=none):∀ v,¬ kS (dF (fg D)) v:=by
 classical
 intro v hv;unfold lZ at h;rw [ca9] at h;have c:∃ u,cF (fg D) u=true/\kS (dF (fg D)) u:=by
  obtain ⟨y,h1,h2⟩:=hv;refine ⟨y,h1.2,?_⟩;have d:qB (dF (fg D)) v y:=.one h1;cases h2 with
  | refl=>exact ⟨_,h1,.refl _⟩
  | head e r=>exact ⟨_,e,r.trans d⟩
 obtain ⟨u,h1,h2⟩:=c;rw [tI] at h1;obtain ⟨q,f,rfl⟩:=an9.1 h1
 have:=h q f
 exact absurd h2 (av9 this)
def wC.same (t:wC Q ky K a b xa xb) (hc:lZ (wD Q ky a xa)=none) {x y:bM} (h:Ac K a b x y) (e:x.num<4294967296) (g:y.num<4294967296):oh (jr (wD Q ky a xa)) x=oh (jr (wD Q ky b xb)) y:=by
 classical
 have ca:=JA hc;have j:∀ v,¬ kS (dF (fg (wD Q ky b xb))) v:=JA (by
  have h1:=t.X7;have h2:=t.symm.X7;rw [hc] at h1
  have:lZ (wD Q ky b xb)=dQ (fg (wD Q ky b xb)):=by
   unfold lZ dQ fg;rw [fh9] <;> rfl
  rw [this,<- h1])
 refine Kr (eP _ _) (eP _ _) (jl e) (jl g) fun f=>?_
 have l:jU f (oh (jr (wD Q ky a xa)) x)=jU (fun s=>if cF (fg (wD Q ky a xa)) s=true then 0 else f s) (oh (jr (wD Q ky a xa)) x):=pP fun u d=>by
  rw [Ki t.WO ca u d] <;> rfl
 have m:jU f (oh (jr (wD Q ky b xb)) y)=jU (fun s=>if cF (fg (wD Q ky b xb)) s=true then 0 else f s) (oh (jr (wD Q ky b xb)) y):=pP fun u d=>by
  rw [Ki t.symm.WO j u d] <;> rfl
 rw [l,m];refine t.put h _ _ fun k hk=>?_
 by_cases c:k∈Q.map ky
 ·rw [ag9 ((t.own hk).2 c),ag9 ((t.symm.own hk).2 c)]
 ·rw [ac9 fun h=>c ((t.own hk).1 h),ac9 fun h=>c ((t.symm.own hk).1 h),t.UI k hk c]
end
def K7 {l c:Nat} {xs:List Xaa} (n:l=xs.length) (hc:∀ i,(hi:i<xs.length)->∃ a,O=some a/\aH H (a.add (i*1)) 0 [.string xs[i]]) (hl:xs.length<=2^61) (s:Xaa):uu Xaz 52 [.slice O l c,.string s] H (.bool (gP xs s)):=by
 refine ff mixed Tryz.func52 ax (jI O l c s) ?_;unfold iH aY bh bt aI bz ez aQ cn;refine aT (cs:=gT) (fun y m h'=>∃ i:Nat,y.2.1=(i:Int)/\m=xs.length-i/\i<=xs.length/\h'=H/\gP (xs.take i) s=false) (false,(0:Int),()) xs.length rfl
  ⟨0,rfl,rfl,ad,rfl,rfl⟩ ?_
 rintro ⟨e,j,⟨⟩⟩ m h' ⟨i,hi,rfl,f,rfl,hn⟩;simp only at hi;subst hi;refine ao ?_;refine aR ?_ ?_<;>intro q
 ·have b:i<xs.length:=ad
  obtain ⟨a,g,d⟩:=hc i b;refine bS g ?_;rw [cr i];refine ay (xs[i],()) d (ao ?_);have hs:=Zb xs s i b;rw [rJ];refine aw ?_ ?_<;>intro r
  ·have r:=ah9 r;refine ⟨as9 Value.bool ?_,rfl⟩;unfold gP;exact (dz9.2 ⟨_,al9 b,aj9 r⟩).symm
  ·rw [hn,r] at hs;refine aG (cs:=gT) (e,((i+1:Nat):Int),()) (xs.length-(i+1)) rfl ad (by rw [wrap_i64 ad ad]; rfl) ?_;exact ⟨i+1,rfl,rfl,ad,rfl,hs⟩
 ·have:i=xs.length:=ad
  subst this;rw [bj9] at hn;exact ⟨by rw [hn],rfl⟩
def jQ (us:List cv) (n:Nat) (s:Xaa):Option Nat :=
 if (us[n]?.map fun u=>gP (fR u) s)=some true then some n else us.findIdx? fun u=>gP u.aU s
structure Ng (us:List cv):Prop where
 many:us.length<=2^20
 text:∀ u,u∈us->u.text.length<=2^20
 data:∀ u,u∈us->u.data.length<=2^20
 bj:∀ u,u∈us->u.bj.length<=2^20
def GL {l c:Nat} {us:List cv} (v:xA H O l us) (sz:Ng us) {n:Nat} (hn:n<us.length) (s:Xaa) :
  HC Xaz 72 #[.slice O l c,vI (n:Int),.string s] H fun w h'=>w=vI (TN (jQ us n s))/\Ext H h':=by
 refine bd (args:=[.slice O l c,vI (n:Int),.string s]) mixed Tryz.func72 ax (nW O l c n s) ?_;unfold jK aY bh bt aI aZ bP aQ;have hll:=v.len;have hmany:=sz.many;have d:us[n]?=some us[n]:=ad9 hn;obtain ⟨a,sa,sb,sc,sd,rfl,hc,C⟩:=v.cells n hn;have hm:=al9 hn;generalize us[n]=u at d hc C hm;refine bS rfl ?_;rw [cr n];refine ay ((sa.p,sa.l,sa.c),(sb.p,sb.l,sb.c),(sc.p,sc.l,sc.c),(sd.p,sd.l,sd.c),()) hc (ao ?_);refine aK (EV C (sz.text u hm) (sz.data u hm) (sz.bj u hm)) ?_;rintro _ h1 ⟨D,E,F,rfl,G,o⟩;refine ⟨((D,E,F),()),rfl,ao ?_⟩;have t:(fR u).length<=2^61:=by
  have h1:=sz.text u hm;have h2:=sz.data u hm;have h3:=sz.bj u hm;unfold fR eK;rw [af9,af9,ab9,ab9,ab9];have h4:=do9 (fun x:cC=>decide (x.kind=1)) u.text;have h5:=do9 (fun x:cC=>decide (x.kind=1)) u.data;omega
 refine aP (Ex G t s) ?_;refine aw ?_ ?_<;>intro q
 ·refine ⟨?_,o⟩;unfold jQ;rw [d,fr9,q,ag9 rfl] <;> rfl
 ·have I:jQ us n s=us.findIdx? fun u=>gP u.aU s:=by
   unfold jQ;rw [d,fr9,q,ac9 aj]
  rw [I];refine aT (cs:=gb) (fun y m h'=>∃ i:Nat,y.2.1=(i:Int)/\m=us.length-i/\i<=us.length/\h'=h1/\∀ j,j<i->(b:j<us.length)->gP us[j].aU s=false) ((0:Int),(0:Int),()) us.length rfl
   ⟨0,rfl,rfl,ad,rfl,fun j b=>absurd b ad⟩ ?_
  rintro ⟨J,P,⟨⟩⟩ m h' ⟨i,hi,rfl,K,rfl,f⟩;simp only at hi;subst hi;refine ao ?_;refine aR ?_ ?_<;>intro q
  ·have k:i<us.length:=ad
   obtain ⟨a',Q,R,S,z,A,B,g⟩:=(v.an o).cells i k;refine hZ (bm A ?_);rw [cr i];refine ay ((z.p,z.l,z.c),()) ⟨by rw [add_add]; exact B.2.2.2.1,trivial⟩ ?_;refine ao ?_;refine aP (K7 g.aU.len (fun j b=>by
    obtain ⟨a,L,hc,_⟩:=g.aU.cells j b;exact ⟨a,L,hc⟩) (by have:=g.aU.many; omega) s) ?_
   refine aw ?_ ?_<;>intro r
   ·refine ⟨?_,o⟩;rw [show us.findIdx? (fun u=>gP u.aU s)=some i from by
     rw [bd9];exact ⟨k,r,fun j b=>by rw [f j b ad]; simp⟩]
    rfl
   ·refine aG (cs:=gb) (J,((i+1:Nat):Int),()) (us.length-(i+1)) rfl ad (by rw [wrap_i64 ad ad]; rfl) ?_;exact ⟨i+1,rfl,rfl,ad,rfl,fun j b M=>by
     by_cases e:j=i
     ·subst e; exact r
     ·exact f j ad M⟩
  ·have:i=us.length:=ad
   subst this;refine ⟨?_,o⟩;rw [show us.findIdx? (fun u=>gP u.aU s)=none from by
    rw [ca9];intro u N;obtain ⟨j,b,rfl⟩:=bg9 N;exact f j b b]
   rfl
end Go.Sx.Lk
