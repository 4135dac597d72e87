/- Contracts over heaps, part 4. Condition: as each statement says. -/
import Derived.Test.YtmdncdaladplkaaGreatDoorP3
import Derived.Test.YtmdncdaladplkaaGreatDoorSxK
import Derived.Test.YtmdncdaladplkaaGreatDoorBtF
set_option linter.all false
set_option maxRecDepth 100000
set_option maxHeartbeats 4000000
namespace Go.Sx
open Go.Proofs
variable {O:Xac} {H V Y:Nat}
def qI {P:Program} {h:Hp} {L:Lp} {K:Xab->Hp->Prop} {k:Xac->Nat->Nat->T} {t n e:TypeId} {z:Xab} {sz by':Nat} (ht:P.underlying t=some (.slice e)) (d:(P.info? e).map (fun i=>(i.zero,i.size,i.bytes))=some (some z,sz,by'))
  (o:z.cells.size=sz) {ys:List (List Xab)} (g:(O=none/\ys=[])\/∃ a,O=some a/\aF h a 0 ys.flatten) (hl:H=ys.length) (r:∀ y,y∈ys->y.length=sz) (s:ys.flatten.all dl=true) (u:(2*H+1024)*by'<=2^48) (w:H<=2^48)
  (hk:∀ p' c' h',SL h' h.size e sz p' H c' ys->Ext h h'->k p' H c' L K h') :
  T.ef P (Instr.buildSlice t 0 #[]) false [(false,[.slice 0])] (fun q m C=>T.ef P (Builtin.append_ #[t,t] n #[.slice q m C,.slice O H V]) false [(false,[.slice 0])] k) L K h:=by
 obtain ⟨i,hi,E,rfl,rfl⟩:=pR d;refine dt ?_;unfold Instr.buildSlice;rw [an,az ht];simp only;rw [an,bY hi,cP hi];rw [ac9 ad,af9 ad];simp only [Nat.zero_mul,pure_bind];have F:∀ (f:Nat->Option (Nat × Nat)) (b:Array Xab),Instr.fill f b []=some b:=fun f b=>rfl
 have G:Array.map (fun x=>(#[]:Array Xab)[x % (#[]:Array Xab).size]!) (Array.range 0)=#[]:=ai
 rw [F,G];show ∃ Q R S,_/\_
 refine ⟨_,_,_,rfl,?_⟩;have D:SL (h.push (.cells #[] e)) h.size e i.size (some ⟨h.size,0,none⟩) 0 0 []:=⟨rfl,ai,h.size,[],[],rfl,au9 _,ad,br.new h e [],ai⟩
 have A:Ext h (h.push (.cells #[] e)):=Ext.push _ _;refine dt ?_;rcases g with ⟨rfl,rfl⟩ | ⟨a,rfl,hc⟩
 ·have B:H=0:=hl;subst B;simp [Builtin.append_,an,az ht,bY hi,Builtin.lenOf,Builtin.firstCells,storeCells];exact ⟨_,_,_,rfl,hk _ _ _ D A⟩
 ·have:=pG (P:=P) (h:=h.push (.cells #[] e)) (K:=fun v h'=>∃ O H V,v=.slice O H V/\k O H V L K h') (ty:=n) (ys:=ys) ht hi E o D hl r (aI A ai _ _ hc) s (by simpa using u) (by simpa using w) ai (cc:=V) ?_
  ·exact this
  ·intro p' c' h2 I J M;rw [bv9,dc9] at *;exact ⟨p',H,c',rfl,hk p' c' h2 I (Ch.trans A J fun j N hl=>by simp [aG] at N; omega)⟩
variable {U:Hp}
def J2 {us:dm} (v:ik U O H us):(O=none/\us.map df=[])\/∃ a,O=some a/\aF U a 0 (us.map df).flatten:=by
 cases O with
 | none =>
  left
  refine ⟨rfl,?_⟩;cases us with
  | nil=>rfl
  | cons u us =>
   obtain ⟨a,b,_⟩:=v.cells 0 ai;cases b
 | some a=>exact .inr ⟨a,rfl,v.flat⟩
def PU (us:dm):∀ y,y∈us.map df->y.length=2:=by
 intro y a;obtain ⟨u,_,rfl⟩:=an9.1 a;rfl
def HR {c:Nat} {us:dm} (v:ik U O H us) (hl:us.length<=2^40) :
  HC Xaz 65 #[.slice O H c] U fun w h'=>(∃ p' l' c',w=.slice p' l' c'/\SL h' U.size 64 2 p' l' c' (us.map df))/\Ext U h':=by
 refine aX (args:=[.slice O H c]) mixed Tryz.func65 av (gg O H c) ?_;unfold eD bd aZ;have hll:=v.len;cases O with
 | none =>
  rcases J2 v with ⟨_,h2⟩ | ⟨a,b,_⟩
  ·refine bX rfl ?_;refine ⟨⟨none,0,0,rfl,?_⟩,Ch.refl _ _⟩;rw [h2];exact SL.nil _ _ _ _
  ·cases b
 | some a =>
  refine cv rfl ?_;refine qI (e:=64) (z:=.agg #[.string ⟨#[]⟩,.int .u32 0]) (sz:=2) (by':=24) AD ul rfl (J2 v) (by simpa using hll) (PU us) (IB us) ad ad ?_;intro p' c' h' f g;exact ⟨⟨p',H,c',rfl,f⟩,g⟩
structure rT (h:Hp) (b:Nat) (p:Xac) (l c:Nat) (ms:List cT):Prop where
 out:SL h b 116 3 p l c (ms.map AS)
 fx:∀ m,m∈ms->SL h b 64 2 m.p m.l m.c (m.x.ah.map df)
 ap:ms.Pairwise fun x y=>∀ i,i∈aG x.p->∀ j,j∈aG y.p->i<j
 dj:∀ m,m∈ms->∀ j,j∈aG m.p->j∉aG p
def rT.aj {ws:List Nat} {h':Hp} {ms:List cT} (o:rT U H O V Y ms) (k:Ch ws U h') (a:∀ i,i∈ws->i<H\/U.size<=i):rT h' H O V Y ms :=
 ⟨o.out.bF k (fun i hi U=>by have:=o.out.cw hi; have:=a i U; omega),fun m d=>(o.fx m d).bF k (fun i hi U=>by have:=(o.fx m d).cw hi; have:=a i U; omega),o.ap,o.dj⟩
def D2 {ms:List cT} (o:rT U H O V Y ms):uS U O V ms :=
 ⟨by rw [o.out.1,ab9],fun i hi=>by
  obtain ⟨a,d,hc⟩:=o.out.cells (i:=i) (by simpa using hi);rw [am9] at hc;exact ⟨a,d,hc⟩,fun m e=>xG (o.fx m e)⟩
def Di:Tryz.prog.underlying 67=some (.slice 116):=av
def MH:(Tryz.prog.info? 116).map (fun i=>(i.zero,i.size,i.bytes))=some (some (.agg #[.string ⟨#[]⟩,.slice none 0 0,.int .u32 0]),3,48):=av
def rT.push {h h1:Hp} {p':Xac} {l' c':Nat} {ms:List cT} (o:rT h H O V Y ms) {m:cT} (n:SL h H 64 2 m.p m.l m.c (m.x.ah.map df)) (d:∀ i,i∈aG m.p->(∀ y,y∈ms->∀ j,j∈aG y.p->j<i)/\i∉aG O)
  (q:SL h1 H 116 3 p' l' c' ((ms++[m]).map AS)) (k:Ch (aG O) h h1) (r:∀ i,i∈aG p'->i∈aG O\/h.size<=i):rT h1 H p' l' c' (ms++[m]):=by
 have f:∀ y,y∈ms++[m]->∀ j,j∈aG y.p->j∉aG O/\j<h.size:=by
  intro y e j a;rcases as9.1 e with h | h
  ·exact ⟨o.dj y h j a,((o.fx y h).cw a).2⟩
  ·rw [ak9.1 h] at a;exact ⟨(d j a).2,(n.cw a).2⟩
 refine ⟨q,fun y e=>?_,?_,fun y e j a g=>?_⟩
 ·have hb:=f y e;rcases as9.1 e with h | h
  ·exact (o.fx y h).bF k fun i hi=>(hb i hi).1
  ·have h:=ak9.1 h;subst h;exact n.bF k fun i hi=>(hb i hi).1
 ·rw [List.pairwise_append];refine ⟨o.ap,List.pairwise_singleton _ _,fun y e z s i hi j a=>?_⟩;rw [ak9.1 s] at a;exact (d j a).1 y e i hi
 ·have:=f y e j a
  rcases r j g with h | h
  ·exact this.1 h
  ·omega
structure ZU (r:SF) (es:List cT) (i:Nat) (p:Xac) (l c:Nat) (f:Xaa->Option sK) (ms:List cT) (h:Hp):Prop where
 dn:Vl r h es f
 own:rT h (r.V+1) p l c ms
 ms:ms.map (fun m=>(m.name,m.x))=(es.take i).map (fun e=>(e.name,fl es e.name))
 dd:∀ s y,f s=some y->∀ j,j∈aG y.p->j∉aG p
def Vy (es:List cT) (h:Hp) (w:Xab) (h':Hp):Prop :=
 (∃ i,∃ hi:i<es.length,kV (dA es) es[i].name/\(∀ j,(a:j<i)->¬ kV (dA es) es[j].name)/\w=.tuple #[.slice none 0 0,vI (i:Int),vI 24]) \/
 ((∀ v,¬ kV (dA es) v)/\∃ p' l' c' ms,w=.tuple #[.slice p' l' c',vI 0,vI 0]/\rT h' h.size p' l' c' ms/\ms.map (fun m=>(m.name,m.x))=es.map (fun e=>(e.name,fl es e.name)))
abbrev YE:List ee:=[(false,[.slice 0]),(false,[.int .i64]),(false,[.int .i64]),(false,[.int .i64])]
def G2 {p:Xac} {c:Nat} {es:List cT} (v:uS U p H es) (Y:uz es) (hp:∀ i,i∈aG p->i<U.size) (hlen:es.length<=2^20) :
  HC Xaz 37 #[.slice p H c] U fun w h'=>Vy es U w h'/\Ext U h':=by
 refine aX (args:=[.slice p H c]) mixed Tryz.func37 av (Cb p H c) ?_;unfold yA aR aY bq aH bM eZ bd bR aC bj aZ bZ aM cR;have hown:=dQ es;have hll:=v.len;refine bm ?_;intro h1 b1 e1 z1;refine aw b1 ((p,H,c),()) (ak ?_);refine aE (JF (c:=c) (v.aj e1) Y.toEqsOk (fun i hi=>by have:=hp i hi; omega)) ?_;rintro _ h2 ⟨⟨g,n,rfl,mB,hg⟩,e2⟩;refine ⟨(some g,()),rfl,ak ?_⟩;have hback:=Jk (succ:=cS (du es)) Y.nodup (fun s=>(hown s).1);generalize (HZ (cC es) (cS (du es)) (aU es)).back=back at mB hback;have b2:=b1.aj e2 ai;have e02:=e1.trans e2;refine aw b2 ((p,H,c),()) (ak ?_);refine aQ (cs:=YE) (fun x w h'=>∃ i:Nat,x.2.2.2.1=(i:Int)/\i<=es.length/\w=es.length-i/\(∀ j,(d:j<i)->∀ hl:j<es.length,¬ kV (dA es) es[j].name)/\Ext h2 h') ((none,0,0),(0:Int),(0:Int),(0:Int),()) es.length rfl ⟨0,rfl,ad,ad,fun j d=>ad,Ch.refl _ _⟩ ?_;rintro ⟨⟨p9,l10,l11⟩,n12,n13,n14,⟨⟩⟩ w h3 ⟨i,hi,hile,rfl,Z,e3⟩;simp only at hi;subst hi;refine ak ?_;have e03:=e02.trans e3;refine aK ?_ ?_<;>intro g1
 ·have q:i<es.length:=ad
  refine gR ?_;obtain ⟨a,ha,hc⟩:=(v.aj e03).cells i q;refine bf ha ?_;rw [cr i];have hes:∀ s,kV (dA es) es[i].name↔kV (dA es) es[i].name:=fun s=>Iff.rfl
  generalize hee:es[i]=e at hc hes;refine ar (e.name,(e.p,e.l,e.c),(e.x.num:Int),()) hc (ak ?_);refine bm ?_;intro h4 b4 e4 z4;refine bP b4 ?_;intro h5 b5 k5 z5;have b5:br h5 h3.size 116 [.string e.name,.slice e.p e.l e.c,.int .u32 e.x.num]:=b5;have e35:Ext h3 h5:=bU e4 k5;refine aw b5 (e.name,()) (ak ?_);refine Pg ((mB.aj e3 ai).aj e35 ai) e.name ?_;refine ao ?_ ?_<;>intro L
  ·have L:(back e.name).getD false=true:=L;refine ⟨.inl ⟨i,q,?_,fun j d=>Z j d ad,rfl⟩,e03.trans e35⟩;rw [hee];exact (hback _).1 L
  ·have L:(back e.name).getD false=false:=L;have hw:=hY i;refine aD (cs:=YE) ((p9,l10,l11),n12,n13,((i+1:Nat):Int),()) (es.length-(i+1)) rfl ad (by rw [hw]; rfl) ⟨i+1,rfl,ad,rfl,fun j d hl=>?_,e3.trans e35⟩
   by_cases hji:j=i
   ·subst hji;rw [hee];intro hc
    have:=(hback _).2 hc
    rw [L] at this; cases this
   ·exact Z j ad hl
 ·have hc:∀ v,¬ kV (dA es) v:=by
   intro s hs;obtain ⟨j,d,hjs⟩:=bg9 ((hown s).1 hs.Uy);have hj':j<es.length:=by simpa [aU] using d
   have:es[j].name=s:=by rw [<- hjs]; simp [aU]
   exact Z j ad hj' (by rw [this]; exact hs)
  have b3:=b2.aj e3 ai;refine aw b3 ((p,H,c),()) (ak ?_);refine aE (A5 (v.aj e03) Y.len Y.nodup Y.sz) ?_;rintro _ h4 ⟨⟨gA,rfl,mA,hgA⟩,e4⟩;refine ⟨(some gA,()),rfl,ak ?_⟩;have hgA4:=mA.lt;refine bm ?_;intro h5 b5 e5 z5;refine bP b5 ?_;intro h6 b6 k6 z6;have b6:br h6 h4.size 105 [.map (some gA)]:=b6;have e46:Ext h4 h6:=bU e5 k6;refine zp (en:=eL) ?_;intro h7 m7 e7 z7;refine bm ?_;intro h8 b8 e8 z8;refine bP b8 ?_;intro h9 b9 k9 z9;have b9:br h9 h7.size 165 [.map (some h6.size)]:=b9;have e79:Ext h7 h9:=bU e8 k9;refine bm ?_;intro h10 b10 e10 z10;refine bP b10 ?_;intro h11 b11 k11 z11;have R:Ext h9 h11:=bU e10 k11;have e711:=e79.trans R;have e611:=e7.trans e711;have e411:=e46.trans e611;have e011:=(e03.trans e4).trans e411;have hz4:=e4.size;have hz3:=e3.size;have hz2:=e2.size;generalize hr:(⟨U.size,gA,h4.size,h6.size,h7.size,h9.size⟩:SF)=r;have ho:r.ord:=by
   subst hr;unfold SF.ord;dsimp only;omega
  have hrE:r.E=U.size:=by subst hr; rfl
  have hrV:r.V+1=h11.size:=by subst hr; dsimp only; omega
  have hrV':r.V=h9.size:=by subst hr; rfl
  have hrD:r.gD=h6.size:=by subst hr; rfl
  have co:Xp r h11 es p H c:=by
   subst hr;exact ⟨(b3.aj (e4.trans e411) ai),b6.aj e611 ai,⟨_,mA.aj e411 ai⟩,b11,b9.aj R ai,v.aj e011⟩
  have dn:Vl r h11 es (fun _=>none):=⟨⟨0,(by rw [hrD]; exact m7.aj e711 ai),fun s y hy=>by cases hy⟩,fun s y hy=>by cases hy⟩
  have lo:ZW r es p:=⟨ho,fun i hi=>by rw [hrE]; exact hp i hi,fun e he hne i hi=>by rw [hrE]; exact (v.fx e he).Xd hne i hi⟩
  have o':=ho;unfold SF.ord at o';rw [show (⟨U.size,0,none⟩:Xax)=bx r.E by rw [hrE],show (⟨h9.size,0,none⟩:Xax)=bx r.V by rw [hrV']];refine aw co.bE ((p,H,c),()) (ak ?_);refine aQ (cs:=kA) (fun x w h'=>∃ (i:Nat) (p':Xac) (l' c':Nat) (f:Xaa->Option sK) (ms:List cT),x.1=(p',l',c')/\x.2.1=(i:Int)/\i<=es.length/\w=es.length-i/\ZU r es i p' l' c' f ms h'/\Ch [r.gD] h11 h')
   ((none,0,0),(0:Int),()) es.length rfl ⟨0,none,0,0,_,[],rfl,rfl,ad,ad,⟨dn,⟨SL.nil _ _ _ _,ai,List.Pairwise.nil,ai⟩,rfl,fun s y hy=>by cases hy⟩,Ch.refl _ _⟩ ?_
  rintro ⟨⟨p26,M,l28⟩,n29,⟨⟩⟩ w D ⟨i,p',l',c',f,ms,hx,hi,hile,rfl,u,N⟩;simp only at hx hi;obtain ⟨rfl,rfl,rfl⟩:=hx;subst hi;refine ak ?_;have co12:=co.aj lo N;have hz12:=N.size;have hmsl:ms.length=i:=by have:=aq9 List.length u.ms; simp at this; omega
  refine aK ?_ ?_<;>intro L
  ·have q:i<es.length:=ad
   refine gR ?_;obtain ⟨a,ha,hcc⟩:=co12.vw.cells i q;refine bf ha ?_;rw [cr i];have O:es.take (i+1)=es.take i++[es[i]]:=ag9 q;have A:es[i].name∈aU es:=bc9 (al9 q);generalize es[i]=e at hcc O A;refine ar (e.name,(e.p,e.l,e.c),(e.x.num:Int),()) hcc (ak ?_);refine bm ?_;intro h13 b13 e13 z13;refine bP b13 ?_;intro h14 P k14 z14;have P:br h14 D.size 116 [.string e.name,.slice e.p e.l e.c,.int .u32 e.x.num]:=P;have o:Ext D h14:=bU e13 k14;have co14:=co12.aj lo (o.mono ai);have dn14:=u.dn.ext o;have own14:=u.own.aj o ai;refine aw co14.bV (.func (.func 63) #[] r.uG.toArray,()) (ak ?_);refine aw P (e.name,()) (ak ?_);refine wK (cap:=r.uG) VH rfl (OJ Y lo hc (aU es).length e.name (Jr hown hc A) A h14 f co14 dn14) ?_;rintro _ F ⟨y,f15,rfl,hyx,S,hfy,sb15,W,G⟩;refine ⟨((y.p,y.l,y.c),(y.x.num:Int),()),rfl,ak ?_⟩;have own15:=own14.aj G (fun i hi=>.inl (by simp at hi; omega));have co15:=co14.aj lo G;have hz15:=G.size;have b15:=P.aj G (by simp; omega);obtain ⟨n15,m15⟩:=S.map;have hyv:=m15.fx _ y hfy;refine bm ?_;intro h16 b16 e16 z16;refine bP b16 ?_;intro h17 I k17 z17;have I:br h17 F.size 53 [.slice y.p y.l y.c,.int .u32 (y.x.num:Int)]:=I;have t:Ext F h17:=bU e16 k17;have b1417:=b15.aj t ai;refine aw b1417 (e.name,()) (ak ?_);refine aw I ((y.p,y.l,y.c),()) (ak ?_);rw [ay];refine aw I ((y.x.num:Int),()) (ak ?_);have hyl:y.x.ah.length<=2^20:=by rw [hyx]; exact Y.Fo hc A
   refine aE (HR (c:=y.c) (hyv.aj t ai) ad) ?_;rintro _ h18 ⟨⟨pc,lc,cc,rfl,sc⟩,Q⟩;refine ⟨((pc,lc,cc),()),rfl,ak ?_⟩;have e1518:=t.trans Q;have own18:=own15.aj e1518 ai;have b1418:=b1417.aj Q ai;have b1718:=I.aj Q ai;have dn18:=S.ext e1518;have hz17:=t.size;have hz18:=Q.size;have stB:∀ h',br h' D.size 116 [.string e.name,.slice e.p e.l e.c,.int .u32 e.x.num]->br h' F.size 53 [.slice y.p y.l y.c,.int .u32 (y.x.num:Int)]->T.BY h' [(⟨F.size,0+1,none⟩,[.int .u32 (y.x.num:Int)]),(⟨F.size,0,none⟩,[.slice y.p y.l y.c]),(⟨D.size,0,none⟩,[.string e.name])] :=
    fun h' b1 b2=>⟨b2.cells _ rfl,b2.cells _ rfl,b1.cells _ rfl,trivial⟩
   refine ⟨⟨b1718.cells _ rfl,b1418.cells _ rfl,trivial⟩,?_⟩;have hol:M=ms.length:=by rw [u.own.out.1,ab9]
   refine gz (vs:=AS ⟨e.name,pc,lc,cc,y.x⟩) Di MH rfl ad ad av rfl rfl own18.out ad ad ad (fun h' ex=>stB h' (b1418.aj ex ai) (b1718.aj ex ai)) ?_;intro p' c' h19 s19 B hp19;have C:∀ j,j∈aG p26->r.V<j/\j<D.size:=fun j d=>by have:=u.own.out.cw d; omega
   refine ⟨stB h19 (b1418.aj B (fun d=>by have:=C _ d; omega)) (b1718.aj B (fun d=>by have:=C _ d; omega)),?_⟩;have hw:=hY i;have J:∀ j,j∈aG p'->j∈aG p26\/h18.size<=j:=by
    intro j d;rcases hp19 with U | ⟨a,U,hle⟩
    ·rw [U] at d; exact .inl d
    ·rw [U] at d; simp [aG] at d; subst d; exact .inr hle
   refine aD (cs:=kA) ((p',M+1,c'),((i+1:Nat):Int),()) (es.length-(i+1)) rfl ad (by rw [hw]; rfl)
    ⟨i+1,p',M+1,c',f15,ms++[⟨e.name,pc,lc,cc,y.x⟩],rfl,rfl,ad,rfl,⟨?_,?_,?_,fun s z X j d K=>?_⟩,?_⟩
   ·obtain ⟨n18,m18⟩:=dn18.map;refine ⟨⟨n18,m18.aj B (fun d=>by have:=C _ d; omega) (fun s z X j d=>?_)⟩,fun s z X=>?_⟩
    ·rcases W s z X with U | U
     ·exact u.dd s z U j d
     ·intro K
      have:=U j d
      have:=C j K
      have:=o.size
      omega
    ·obtain ⟨a,b,c⟩:=dn18.of s z X;refine ⟨a,b,fun i hi=>?_⟩
     have:=c i hi
     have:=B.size
     omega
   ·refine own18.push (m:=⟨e.name,pc,lc,cc,y.x⟩) (sc.mono ad) (fun j d=>?_) (by simpa using s19) B J;have hj2:=sc.cw d;refine ⟨fun z X k hk=>?_,fun K=>?_⟩
    ·have:=((own15.fx z X).cw hk).2
     omega
    ·have:=C j K
     have:=o.size
     omega
   ·rw [ao9,u.ms,O,ao9];show _++[(e.name,y.x)]=_;rw [hyx] <;> rfl
   ·rcases J j K with U | U
    ·rcases W s z X with k | k
     ·exact u.dd s z k j d U
     ·have:=k j d
      have:=C j U
      have:=o.size
      omega
    ·have:=((dn18.of s z X).2.2 j d).2
     omega
   ·refine Ch.trans (Ch.trans (Ch.trans (Ch.trans N o ai) G (fun j d _=>d)) e1518 ai) B (fun j d hl=>?_)
    have:=(u.own.out.cw d).1
    omega
  ·have O:es.take i=es:=bw9 ad;have hms:=u.ms;rw [O] at hms;have hr11:=e011.size;refine ⟨.inr ⟨hc,p26,M,l28,ms,rfl,⟨u.own.out.mono ad,fun m hm=>(u.own.fx m hm).mono ad,u.own.ap,u.own.dj⟩,hms⟩,Ch.trans e011 N (fun j d hl=>?_)⟩;simp at d;omega
def yd (es:List cT) (s:Xaa):Option sK:=((kW es s).bind fun k=>es[k]?).map fun e=>⟨e.p,e.l,e.c,e.x⟩
def yj {es:List cT} {s:Xaa} {y:sK} (h:yd es s=some y):∃ e,e∈es/\e.name=s/\y=⟨e.p,e.l,e.c,e.x⟩/\du es s=e.x:=by
 unfold yd at h;cases a:kW es s with
 | none=>rw [a] at h; cases h
 | some k =>
  obtain ⟨hk,h1,h2⟩:=pv a;rw [a,dk9,ad9 hk] at h;exact ⟨_,al9 hk,h1,(ay9 h).symm,h2⟩
def LS {es:List cT} {e:cT} (hn:∀ d,d∈es->d.name≠e.name):yd (es++[e])=dO (yd es) e.name ⟨e.p,e.l,e.c,e.x⟩:=by
 funext s
 unfold yd;rw [G9 hn]
 by_cases h:s=e.name
 ·subst h;rw [cH,cH,dk9,bn9 ad]
  simp
 ·rw [cj _ _ h,cj _ _ h];cases a:kW es s with
  | none=>rfl
  | some k =>
   obtain ⟨hk,_,_⟩:=pv a;rw [dk9,dk9,bt9 hk]
def cD (es:List cT) (s:Xaa):Option bJ:=if cC es s=true then some (du es s) else none
def Wq (es:List cT):(fun s=>(yd es s).map (·.x))=cD es:=by
 funext s
 unfold cD cC;cases a:kW es s with
 | none=>simp [yd,a]
 | some k =>
  obtain ⟨hk,_,h2⟩:=pv a;simp only [Option.isSome_some,if_true];rw [h2];unfold yd;rw [a,dk9,ad9 hk] <;> rfl
def OK {c:Nat} {x:bJ} (v:ik U O H x.ah) {q:Xac} {d:Nat} {es:List cT} (u:uS U q V es) (M:EqsOk es) (het:∀ e,e∈es->e.x.ah.length<=2^20) (htot:(es.flatMap (·.x.ah)).length<=2^39) (hlen:es.length<=2^20) (S:x.ah.length<=2^20) (r:∀ t,t∈x.ah->t.1.size<=maxLen) :
  HC Xaz 38 #[gU O H c x,.slice q V d] U fun w h'=>(∃ p' l' c',w=gU p' l' c' (nl (dr (cD es) x) vf)/\SL h' U.size 64 2 p' l' c' ((nl (dr (cD es) x) vf).ah.map df))/\Ext U h':=by
 refine aX (args:=[gU O H c x,.slice q V d]) mixed Tryz.func38 av (ET O H c x.num q V d) ?_;unfold DK aR aY bq aH bM bR aC aZ bZ aM;have hll:=u.len;refine bm ?_;intro h1 b1 e1 z1;refine bm ?_;intro h2 b2 e2 z2;refine zp (en:=eL) ?_;intro h3 m3 W z3;have b13:=(b1.aj e2 ai).aj W ai;have b23:=b2.aj W ai;have e03:=(e1.trans e2).trans W;refine aQ (cs:=cF) (fun y w h'=>∃ (i n:Nat),y.1=(i:Int)/\i<=es.length/\w=es.length-i/\ej eL h' h2.size (yd (es.take i)) n/\Ch [h2.size] h3 h') ((0:Int),()) es.length rfl
  ⟨0,0,rfl,ad,ad,m3,Ch.refl _ _⟩ ?_
 rintro ⟨n5,⟨⟩⟩ w h4 ⟨i,n,hi,hile,rfl,X,A⟩;simp only at hi;subst hi;refine ak ?_;have b:Ext U h4:=bU e03 A;have hz4:=A.size;refine aK ?_ ?_<;>intro g1
 ·have f:i<es.length:=ad
  refine gR ?_;obtain ⟨a,ha,hc⟩:=(u.aj b).cells i f;refine bf ha ?_;rw [cr i];have C:es.take (i+1)=es.take i++[es[i]]:=ag9 f;have hsz:=M.sz es[i] (al9 f);have D:∀ d,d∈es.take i->d.name≠es[i].name:=by
   intro d E o;obtain ⟨j,F,rfl⟩:=bg9 E;rw [az9] at F;rw [List.getElem_take] at o;have hn:(es.map (·.name)).Nodup:=M.nodup;exact ev9.1 hn j i (by rw [ab9]; omega) (by rw [ab9]; omega) ad (by simpa using o)
  generalize es[i]=e at hc C hsz D;refine ar (e.name,(e.p,e.l,e.c),(e.x.num:Int),()) hc (ak ?_);refine bm ?_;intro h5 b5 G z5;refine bP b5 ?_;intro h6 b6 k6 z6;have b6:br h6 h4.size 116 [.string e.name,.slice e.p e.l e.c,.int .u32 e.x.num]:=b6;have I:Ext h4 h6:=bU G k6;refine aw b6 (e.name,()) (ak ?_);rw [ay];refine aw b6 ((e.p,e.l,e.c),(e.x.num:Int),()) (ak ?_);refine Oj (X.aj I ai) hsz ⟨e.p,e.l,e.c,e.x⟩ ?_;intro h7 m7 N z7;have hw:=hY i;refine aD (cs:=cF) (((i+1:Nat):Int),()) (es.length-(i+1)) rfl ad (aq9 (fun z=>[Value.int .i64 z]) hw) ⟨i+1,_,rfl,ad,rfl,by rw [C,LS D]; exact m7,Ch.trans (Ch.trans A I ai) N (fun j F _=>F)⟩
 ·have Y:es.take i=es:=bw9 ad;rw [Y] at X;have b14:=b13.aj A (by simp; omega);have b24:=b23.aj A (by simp; omega);refine aw b14 ((O,H,c),(x.num:Int),()) (ak ?_);have mL:IL h4 h2.size (yd es) n:=⟨X,fun s y g=>by
   obtain ⟨e,o,_,rfl,_⟩:=yj g;exact (u.fx e o).aj b ai⟩
  have k:∀ s y,yd es s=some y->y.x.ah.length<=2^20:=fun s y g=>by
   obtain ⟨e,o,_,rfl,_⟩:=yj g;exact het e o
  have hz0:=b.size
  refine aE (Gd (c:=c) (v.aj b ai) mL ad r (fun s y g=>⟨by have:=k s y g; omega,by
    obtain ⟨e,o,_,rfl,_⟩:=yj g;exact M.ts e o⟩) ?_) ?_
  ·have:=qR (of:=fun s=>(yd es s).map (·.x)) (B:=2^20) ad (fun s y g=>by
    cases Z:yd es s with
    | none=>simp only [Z] at g; cases g
    | some z =>
     simp only [Z,Option.map_some,Option.some.injEq] at g;rw [<- g]; exact k s z Z) x.ah
   exact cn9 this (cn9 (cu9 _ S) bQ)
  ·rintro _ h5 ⟨⟨p5,l5,c5,rfl,s5⟩,G⟩;rw [Wq] at s5 ⊢;have hlp:(dr (cD es) x).ah.length<=2^40:=by
    have hn:=eM (cD es) x;have h1:((dr (cD es) x).ah.map (·.1)).Nodup:=cp9.2 (hn.1.imp fun U=>jT U);have h2:=kb ((dr (cD es) x).ah.map (·.1)) ((x.ah++es.flatMap (·.x.ah)).map (·.1)) h1 (fun s hs=>by
     obtain ⟨t,ht,rfl⟩:=an9.1 hs;rcases pY ht with ⟨O,J,e,_⟩ | ⟨O,y,u,J,ho,K,e⟩
     ·rw [<- e]; exact bc9 (bh9 _ J)
     ·rw [<- e];refine bc9 (bp9 _ ?_);unfold cD at ho
      by_cases hw:cC es O.1=true
      ·rw [af9 hw] at ho;obtain ⟨d,E,_,hx⟩:=kG ((dQ es _).1 hw);have ho:=ay9 ho;rw [<- ho,hx] at K;exact ei9.2 ⟨d,E,K⟩
      ·rw [ac9 hw] at ho; cases ho)
    rw [ab9,ab9,ae9] at h2;omega
   refine ⟨((p5,l5,c5),((dr (cD es) x).num:Int),()),rfl,ak ?_⟩;have L:∀ t,t∈(dr (cD es) x).ah->t.1.size<=maxLen:=by
    intro t ht;rcases pY ht with ⟨O,J,e,_⟩ | ⟨O,y,u,J,ho,K,e⟩
    ·rw [<- e]; exact r O J
    ·unfold cD at ho
     by_cases hw:cC es O.1=true
     ·rw [af9 hw] at ho;obtain ⟨d,E,_,hx⟩:=kG ((dQ es _).1 hw);have ho:=ay9 ho;rw [<- ho,hx] at K;rw [<- e]; exact M.ts d E u K
     ·rw [ac9 hw] at ho; cases ho
   have ha:=VK (h:=h5) (p:=p5) (q:=none) (l:=l5) (c:=c5) (m:=0) (d:=0) (x:=dr (cD es) x) (y:=vf) (xG s5) ⟨rfl,fun i hi=>by simp [vf] at hi⟩ (fun i hi=>(s5.cw hi).2) (fun i hi=>by simp [aG] at hi) (by simpa [vf] using hlp) L (fun t ht=>by simp [vf] at ht);refine aE ha ?_;rintro _ h6 ⟨e6,P,Q,R,rfl,s6⟩;refine ⟨((P,Q,R),((nl (dr (cD es) x) vf).num:Int),()),rfl,ak ?_⟩;have b6:=(b24.aj G ai).aj e6 ai;have hz5:=G.size;refine bP b6 ?_;intro h7 b7 N z7;have b7:br h7 h1.size 53 [.slice P Q R,.int .u32 ((nl (dr (cD es) x) vf).num:Int)]:=b7;refine aw b7 ((P,Q,R),((nl (dr (cD es) x) vf).num:Int),()) ?_;have e06:=(b.trans G).trans e6;exact ⟨⟨P,Q,R,rfl,(s6.bF N (fun j F=>by have:=(s6.cw F).1; simp; omega)).mono ad⟩,bU e06 N⟩
def yV {x:bJ} (h:Nf x.ah) (hn:x.num<4294967296):nl x vf=x:=by
 unfold nl vf;simp only [List.append_nil,Nat.add_zero,Gn h,Nat.mod_eq_of_lt hn]
end Go.Sx
namespace Go.Sx.Ob
open Go.Proofs
abbrev Ky:=Nat × Xaa
def Fi (k:Ky):Xab:=.agg #[vI (k.1:Int),.string k.2]
def OE (b:Bool) (n:Int) (s:Xaa) (h:Hp) (K:Unit->Hp->Prop):aP Xaz (Instr.checkKey b 10000 121 (.agg #[vI n,.string s])) h K=K () h:=av
def On:Tryz.prog.underlying 121=some (.struct (vP Xaz 121)):=av
def VP:Tryz.prog.stoodInHeld 121=false:=av
def XU (n m:Int) (s t:Xaa):(vP Xaz 121).all (okF Xaz #[vI n,.string s] #[vI m,.string t])=true:=av
def W4 (n m:Int) (s t:Xaa):(vP Xaz 121).all (HW #[vI n,.string s] #[vI m,.string t])=(n==m && (s==t && true)):=by
 rw [<- dd9]
 kernel_rfl
def Za:xV Xaz 121 Fi where
 check b a h K hk:=by rw [show Fi a=.agg #[vI (a.1:Int),.string a.2] from rfl,OE]; exact hk
 kind:=⟨_,On,fun a b=>rfl⟩
 eqv a b h K hk:=by
  show aP Xaz (Op.equal 121 (.agg #[vI (a.1:Int),.string a.2]) (.agg #[vI (b.1:Int),.string b.2])) h K;rw [gH On VP (XU _ _ _ _),W4];have e:decide (a=b)=(((a.1:Nat):Int)==((b.1:Nat):Int) && (a.2==b.2 && true)):=by
   obtain ⟨c,d⟩:=a;obtain ⟨b1,f⟩:=b;show decide ((c,d)=(b1,f))=(((c:Nat):Int)==((b1:Nat):Int) && (d==f && true));rw [r7,dg9];simp only [Prod.mk.injEq]
   by_cases h1:c=b1
   ·by_cases h2:d=f
    ·simp [h1,h2]
    ·simp [h1,h2]
   ·have:¬ ((c:Nat):Int)=b1:=ad
    simp only [h1,false_and,decide_false]
    have:(((c:Nat):Int)==((b1:Nat):Int))=false:=by simpa using this
    rw [this,Bool.false_and]
  rw [<- e];exact hk
 bits a:=by
  show ((2:Nat)==2 && _)=true;simp [Instr.sameBits,Fi,r7]
 inj a b h:=by
  obtain ⟨c,d⟩:=a;obtain ⟨b1,f⟩:=b;simp only [Fi,Value.agg.injEq,Array.mk.injEq,List.cons.injEq,Value.int.injEq,Value.string.injEq,and_true,true_and] at h;rw [Prod.mk.injEq];exact ⟨ad,h.2⟩
def SL.part {P:Program} {L:Lp} {K:Xab->Hp->Prop} {k:T} {h:Hp} {b:Nat} {e:TypeId} {sz:Nat} {p:Xac} {l c:Nat} {xs:List (List Xab)} (s:SL h b e sz p l c xs) {i:Nat} (hi:i<xs.length) {vs:List Xab} {o:Nat} (D:o+vs.length<=sz)
  (u:vs.all dl=true) {a:Xax} (w:p=some a) (hk:∀ h',SL h' b e sz p l c (xs.set i (lN xs[i] o vs))->Ch (aG p) h h'->h'.size=h.size->k L K h'):T.ax ((a.add (i*sz)).add o) vs k L K h:=by
 subst w;obtain ⟨g,d,rest,rfl,q,r,f,y⟩:=s.2.2;have t:xs[i].length=sz:=s.2.1 _ (al9 hi);have j:(xs.take i).flatten.length=i*sz:=by
  rw [fq _ (fun x j=>s.2.1 x (cy9 j)),az9,db9 ad]
 have z:xs[i]=xs[i].take o++((xs[i].drop o).take vs.length++xs[i].drop (o+vs.length)):=by
  rw [<- fj9,ce9,ce9]
 have e0:xs.flatten=(xs.take i).flatten++(xs[i]++(xs.drop (i+1)).flatten):=by
  conv=>lhs; rw [<- ce9 i xs,aw9 hi]
  rw [List.flatten_append,em9]
 have A:d++(xs.flatten++rest)=(d++(xs.take i).flatten++xs[i].take o)++((xs[i].drop o).take vs.length++(xs[i].drop (o+vs.length)++((xs.drop (i+1)).flatten++rest))):=by
  rw [e0]
  conv=>lhs; rw [z]
  simp only [List.append_assoc]
 have lJ:lN xs[i] o vs=xs[i].take o++(vs++xs[i].drop (o+vs.length)):=by rw [qG _ _ _ ad,bb9]
 have B:(xs.set i (lN xs[i] o vs)).flatten=(xs.take i).flatten++((lN xs[i] o vs)++(xs.drop (i+1)).flatten):=by
  rw [List.set_eq_take_append_cons_drop,af9 hi]
  simp
 rw [A] at f;rw [ay,ay];have m:(d++(xs.take i).flatten++xs[i].take o).length=d.length+i*sz+o:=by rw [ae9,ae9,j,az9,db9 ad]
 rw [<- m];refine cZ f u (by simp; omega) ?_;intro h' n k' C;rw [Ap (by rw [az9,cb9]; omega)] at n;refine hk h' ⟨by rw [cx9]; exact s.1,fun x j=>?_,g,d,rest,rfl,q,r,?_,y⟩ (by simpa [aG] using k') C
 ·rcases di9 j with j | rfl
  ·exact s.2.1 x j
  ·rw [nJ]; exact t
 ·rw [B,lJ];simpa [List.append_assoc] using n
def Lf:Tryz.prog.underlying 104=some (.map 121 3):=av
def UL:(Tryz.prog.info? 3).bind (·.zero)=some (vI 0):=av
abbrev H4 (h:Hp) (g:Nat) (f:Ky->Option Nat) (n:Nat):Prop:=gZ Fi eI h g f n
section
variable {L:Lp} {K:Xab->Hp->Prop} {h:Hp} {g n:Nat} {f:Ky->Option Nat}
def H9 (m:H4 h g f n) (u:Nat) (s:Xaa) {k:Int->Bool->T} (hk:k (((f (u,s)).getD 0:Nat):Int) (f (u,s)).isSome L K h):T.ef Xaz (Instr.lookup 104 (.map (some g)) (.agg #[vI (u:Int),.string s]) true) true [(false,[.int .i64]),(false,[.bool])] k L K h:=by
 obtain ⟨D,m,a,hn⟩:=m;show aP Xaz (Instr.lookup 104 (.map (some g)) (Fi (u,s)) true) h _;refine oT Za Lf UL m (u,s) true _ ?_;refine ⟨((((f (u,s)).getD 0:Nat):Int),(f (u,s)).isSome,()),?_,hk⟩;rw [af9 rfl,oH,a (u,s)]
 all_goals (cases f (u,s) <;> rfl)
variable {H:Int->T}
def WC (m:H4 h g f n) (u:Nat) (s:Xaa) (hk:H (((f (u,s)).getD 0:Nat):Int) L K h):T.ef Xaz (Instr.lookup 104 (.map (some g)) (.agg #[vI (u:Int),.string s]) false) false [(false,[.int .i64])] H L K h:=by
 obtain ⟨D,m,a,hn⟩:=m;show aP Xaz (Instr.lookup 104 (.map (some g)) (Fi (u,s)) false) h _;refine oT Za Lf UL m (u,s) false _ ?_;refine ⟨((((f (u,s)).getD 0:Nat):Int),()),?_,hk⟩;simp only [Bool.false_eq_true,if_false];rw [oH,a (u,s)]
 all_goals (cases f (u,s) <;> rfl)
def UI (m:H4 h g f n) (u:Nat) (s:Xaa) {v:Int} {w:Nat} (hv:v=(w:Int)) {k:T} (hk:∀ h',H4 h' g (tR f (u,s) w) (if (f (u,s)).isSome then n else n+1)->Ch [g] h h'->h'.size=h.size->k L K h') :
  T.dZ Xaz (Instr.mapUpdate 104 (.map (some g)) (.agg #[vI (u:Int),.string s]) (vI v)) k L K h:=by
 subst hv;exact K8 (en:=eI) Za Lf m (u,s) w hk
def X8 (m:H4 h g f n) (hk:H (n:Int) L K h):T.ef Xaz (Builtin.len_ #[104] 3 #[.map (some g)]) false [(false,[.int .i64])] H L K h:=by
 obtain ⟨D,m,e,hn⟩:=m;obtain ⟨es,clock,b,c,d⟩:=m;have a:es.size=n:=by
  have:=aq9 List.length c
  simp only [List.length_map,Array.length_toList] at this;omega
 show aP _ _ _ _;unfold Builtin.len_;simp only [List.getElem?_toArray,List.getElem?_cons_zero];rw [an,az Lf];simp only [pure_bind];rw [an];refine gj b ai _ ?_;simp only [pure_bind];exact ⟨((n:Int),()),by rw [a]; rfl,hk⟩
end
def lI (n:Nat):Xaa:=⟨(Lib.itoa (n:Int)).toArray⟩
def FR {h:Hp} (p:eH h) (n:Nat) (hn:n<=2^60):HC Xaz 59 #[vI n] h fun v h'=>v=.string (lI n)/\Ext h h':=by
 intro W a;subst a;refine (Tryz.strconv_Itoa n ad ad W (JO av p)).mono ?_;rintro e w' ⟨b,k,os,rfl⟩;refine ⟨_,b,⟨rfl,rfl,rfl⟩,rfl,?_⟩;refine ⟨by show W.heap.size<=(W.heap++os).size; simp,fun i hi _=>?_⟩;show (W.heap++os)[i]?=_;rw [Array.getElem?_append_left hi]
def me {n:Nat} (hn:n<=2^60):(lI n).size<=1000:=by
 show (Lib.itoa (n:Int)).toArray.size<=1000
 have:=Lib.itoa_length_le (n:Int) ad ad
 simp
 omega
structure Lb where
 u:Nat
 s:Nat
 i:Nat
 n:Xaa
deriving DecidableEq
def QH (x:Lb):List Xab:=[vI (x.u:Int),vI (x.s:Int),vI (x.i:Int),.string x.n]
structure LW where
 lb:List Lb
 num:Ky->Option Nat
 nn:Nat
 sG:Ky->Option Nat
 ne:Nat
 gl:Xaa->Option Nat
 ng:Nat
def UE:LW:=⟨[],fun _=>none,0,fun _=>none,0,fun _=>none,0⟩
def LW.has (w:LW) (k:Ky):Bool:=(w.num k).isSome || (w.sG k).isSome
def LW.own (w:LW) (u:Nat) (s:Xaa):Option Ky:=if w.has (u,s) then some (u,s) else (w.gl s).map fun o=>(o,s)
def LW.word (w:LW) (k:Ky):Xaa:=match w.num k with
 | some n=>(⟨#[76]⟩:Xaa)++lI n
 | none=>(⟨#[69]⟩:Xaa)++lI ((w.sG k).getD 0)
structure LM (h:Hp) (gN gE gG:Nat) (w:LW):Prop where
 n:H4 h gN w.num w.nn
 e:H4 h gE w.sG w.ne
 g:ej eI h gG w.gl w.ng
def LM.aj {ws:List Nat} {h h':Hp} {gN gE gG:Nat} {w:LW} (m:LM h gN gE gG w) (k:Ch ws h h') (h1:gN∉ws) (h2:gE∉ws) (a:gG∉ws):LM h' gN gE gG w :=
 ⟨m.n.aj k h1,m.e.aj k h2,m.g.aj k a⟩
structure QQ (w:LW):Prop where
 n:∀ k i,w.num k=some i->i<=2^50
 e:∀ k i,w.sG k=some i->i<=2^50
abbrev RL (h:Hp) (g:Nat) (us lb:bI) (gN gE gG:Nat) (sp:Int):Prop:=br h g 108 [us.v,lb.v,.map (some gN),.map (some gE),.map (some gG),.slice none 0 0,vI sp]
section
variable {h:Hp} {g gN gE gG:Nat} {us lb:bI} {sp:Int} {w:LW}
def No (b:RL h g us lb gN gE gG sp) (m:LM h gN gE gG w) (u:Nat) (s:Xaa):HC Xaz 85 #[ptr g,.agg #[vI (u:Int),.string s]] h fun v h'=>v=.bool (w.has (u,s))/\Ext h h':=by
 refine aX (args:=[ptr g,.agg #[vI (u:Int),.string s]]) mixed Tryz.func85 av (qP (some ⟨g,0,none⟩) u s) ?_;unfold la bR dX aM ct;refine bm ?_;intro h1 c a z1;have b':=b.aj a ai;have m':=m.aj a ai ai ai;refine bf rfl ?_;rw [ay];refine aw b' (some gN,()) (ak ?_);refine aw c ((u:Int),s,()) (ak ?_);refine H9 m'.n u s ?_;refine bf rfl ?_;rw [ay];refine aw b' (some gE,()) (ak ?_);refine aw c ((u:Int),s,()) (ak ?_);refine H9 m'.e u s ?_;unfold LW.has;refine ao ?_ ?_<;>intro q
 ·exact ⟨by rw [q]; rfl,a⟩
 ·exact ⟨by rw [q]; rfl,a⟩
def QL (b:RL h g us lb gN gE gG sp) (m:LM h gN gE gG w) (u:Nat) (s:Xaa):HC Xaz 58 #[ptr g,vI (u:Int),.string s] h fun v h'=>v=.tuple #[Fi ((w.own u s).getD (0,s)),.bool (w.own u s).isSome]/\Ext h h':=by
 refine aX (args:=[ptr g,vI (u:Int),.string s]) mixed Tryz.func58 av (qN (some ⟨g,0,none⟩) u s) ?_;unfold lC aT bR bj bZ aM ct;refine bm ?_;intro h1 n p z1;refine bm ?_;intro h2 r k z2;have b12:=n.aj k ai;refine bP r ?_;intro h3 c l z3;have c:br h3 h1.size 121 [vI (u:Int),.string s]:=c;have e:Ext h h3:=bU (p.trans k) l;have b13:=b12.aj l (by simp; omega);refine aw c ((u:Int),s,()) (ak ?_);refine aE (No (b.aj e ai) (m.aj e ai ai ai) u s) ?_;rintro _ x ⟨rfl,d⟩;refine ⟨(w.has (u,s),()),rfl,ak ?_⟩;have e04:=e.trans d;have q3:=c.lt;refine ao ?_ ?_<;>intro q
 ·have f:w.own u s=some (u,s):=by unfold LW.own; rw [af9 q]
  rw [f];refine aw (c.aj d ai) ((u:Int),s,()) (ak ?_);refine bP (b13.aj d ai) ?_;intro i a j t;have a:br i h.size 121 [vI (u:Int),.string s]:=a;refine aw a ((u:Int),s,()) ?_;exact ⟨rfl,bU e04 j⟩
 ·have f:w.own u s=(w.gl s).map fun o=>(o,s):=by unfold LW.own; rw [ac9 (by rw [q]; simp)]
  rw [f];refine bf rfl ?_;rw [ay];refine aw (b.aj e04 ai) (some gG,()) (ak ?_);refine EB (m.aj e04 ai ai ai).g s ?_;refine bP (b13.aj d ai) ?_;intro i a j t;have a:br i h.size 121 [vI (((w.gl s).getD 0:Nat):Int),.string s]:=a;refine aw a ((((w.gl s).getD 0:Nat):Int),s,()) ?_;refine ⟨?_,bU e04 j⟩
  all_goals (cases w.gl s <;> rfl)
def C6 (pw:eH h) (b:RL h g us lb gN gE gG sp) (m:LM h gN gE gG w) (a:QQ w) (u:Nat) (s:Xaa):HC Xaz 35 #[ptr g,.agg #[vI (u:Int),.string s]] h fun v h'=>v=.string (w.word (u,s))/\Ext h h':=by
 refine aX (args:=[ptr g,.agg #[vI (u:Int),.string s]]) mixed Tryz.func35 av (pe (some ⟨g,0,none⟩) u s) ?_;unfold kK eE bR aM ct;refine bm ?_;intro h1 f c z1;have b':=b.aj c ai;have m':=m.aj c ai ai ai;have pw1:=pw.aj c ai;refine bf rfl ?_;rw [ay];refine aw b' (some gN,()) (ak ?_);refine aw f ((u:Int),s,()) (ak ?_);refine H9 m'.n u s ?_;unfold LW.word;cases hn:w.num (u,s) with
 | some n =>
  refine bX rfl ?_;have hs:=a.n _ _ hn;refine aE (FR pw1 n ad) ?_;rintro _ h2 ⟨rfl,d⟩;refine ⟨(lI n,()),rfl,ak ?_⟩
  have:=me (n:=n) ad
  refine dy ad ?_;exact ⟨rfl,c.trans d⟩
 | none =>
  refine cv rfl ?_;have hs:(w.sG (u,s)).getD 0<=2^50:=by
   cases j:w.sG (u,s) with
   | none=>simp
   | some i=>exact a.e _ _ j
  refine bf rfl ?_;rw [ay];refine aw b' (some gE,()) (ak ?_);refine aw f ((u:Int),s,()) (ak ?_);refine WC m'.e u s ?_;refine aE (FR pw1 _ ad) ?_;rintro _ h2 ⟨rfl,d⟩;refine ⟨(lI ((w.sG (u,s)).getD 0),()),rfl,ak ?_⟩;refine ⟨⟨(f.aj d ai).cells _ rfl,(b'.aj d ai).cells _ rfl,trivial⟩,?_⟩
  have:=me (n:=(w.sG (u,s)).getD 0) ad
  refine dy ad ?_;exact ⟨rfl,c.trans d⟩
end
end Go.Sx.Ob
namespace Go.Sx.Lk
open Go.Proofs Go.Sx.Ob
def qQ {es:List cT} (hn:(aU es).Nodup) {e:cT} (c:e∈es):du es e.name=e.x:=by
 obtain ⟨d,f,h1,h2⟩:=kG (show e.name∈aU es from bc9 c);rw [h2]
 have:∀ l:List cT,(l.map (·.name)).Nodup->d∈l->e∈l->d=e:=by
  intro l
  induction l with
  | nil=>intro _ h; simp at h
  | cons x l g =>
   intro hn f c;rw [bo9,ed9] at hn;rcases bd9.1 f with a | a <;> rcases bd9.1 c with b | b
   ·rw [a,b]
   ·exact (hn.1 (by rw [<- a,h1]; exact bc9 b)).elim
   ·exact (hn.1 (by rw [<- b,<- h1]; exact bc9 a)).elim
   ·exact g hn.2 a b
 rw [this es hn f c]
def _root_.Go.Sx.Ob.LW.bad (w:LW) (u:Nat) (x:bJ):Option Xaa:=(x.ah.find? fun t=>(w.own u t.1).isNone).map (·.1)
def mC (s:Xaa):bJ:=⟨[(s,1)],0⟩
def _root_.Go.Sx.Ob.LW.lin (w:LW) (u:Nat) (x:bJ):bJ:=dr (fun s=>(w.own u s).map fun k=>mC (w.word k)) x
structure Gg (x:bJ):Prop where
 nf:Nf x.ah
 num:x.num<4294967296
 len:x.ah.length<=2^20
 sz:∀ t,t∈x.ah->t.1.size<=maxLen
def jT {a b:Xaa} (h:iB a b):a≠b:=fun e=>by subst e; exact absurd h (by unfold iB; simp)
def Gg.nodup {x:bJ} (g:Gg x):(x.ah.map (·.1)).Nodup:=by
 rw [eb9,cp9];exact g.nf.Vq.imp fun h=>jT h
def T5 (w:LW) (u:Nat) (x:bJ) (h:Hp) (v:Xab) (h':Hp):Prop :=
 Ext h h'/\match w.bad u x with
 | some s=>v=.tuple #[gU none 0 0 GR,.string s,.bool false]
 | none=>∃ p l c,v=.tuple #[gU p l c (w.lin u x),.string ⟨#[]⟩,.bool true]/\SL h' h.size 64 2 p l c ((w.lin u x).ah.map df)
def I6:Tryz.prog.underlying 50=some (.slice 64):=av
def IS (s:Xaa) (n:Int):Instr.fill (fun j=>some (j*2,2)) ((Array.range (1*2)).map ((Value.agg #[.string ⟨#[]⟩,.int .u32 0]).cells[· % (Value.agg #[.string ⟨#[]⟩,.int .u32 0]).cells.size]!)) [(0,.agg #[.string s,.int .u32 n])]=some ([.string s,.int .u32 n]:List Xab).toArray:=av
def IN (s:Xaa) (p:Xac) (l c:Nat) (n:Int):Instr.fill (fun j=>some (j*3,3)) ((Array.range (1*3)).map ((Value.agg #[.string ⟨#[]⟩,.slice none 0 0,.int .u32 0]).cells[· % (Value.agg #[.string ⟨#[]⟩,.slice none 0 0,.int .u32 0]).cells.size]!)) [(0,.agg #[.string s,.slice p l c,.int .u32 n])]=some ([.string s,.slice p l c,.int .u32 n]:List Xab).toArray:=av
theorem lS {α:Type} (f:α->Bool):∀ (l:List α) (i:Nat) (hi:i<l.length),(∀ j,(b:j<i)->f (l[j]'ad)=false)->f l[i]=true->l.find? f=some l[i]
 | [],i,hi,_,_=>by simp at hi
 | a::l,0,hi,_,h=>by simp at h; simp [h]
 | a::l,i+1,hi,h0,h=>by
  have c:f a=false:=h0 0 ad;rw [fe9,c];simp only [List.getElem_cons_succ] at h ⊢;exact lS f l i (by simpa using hi) (fun j b=>h0 (j+1) ad) h
def oM {α:Type} (f:α->Bool) (l:List α) (h:∀ j,(a:j<l.length)->f l[j]=false):l.find? f=none:=by
 rw [List.find?_eq_none];intro x b;obtain ⟨j,a,rfl⟩:=bg9 b;rw [h j a]
 simp
section
variable {h:Hp} {g gN gE gG:Nat} {us lb:bI} {sp:Int} {w:LW}
def yF (pw:eH h) (b:RL h g us lb gN gE gG sp) (m:LM h gN gE gG w) (G:QQ w) (u:Nat) {p:Xac} {l c:Nat} {x:bJ} (v:ik h p l x.ah) (O:Gg x) :
  HC Xaz 34 #[ptr g,vI (u:Int),gU p l c x] h (T5 w u x h):=by
 refine aX (args:=[ptr g,vI (u:Int),gU p l c x]) mixed Tryz.func34 av (nz (some ⟨g,0,none⟩) u p l c x.num) ?_;unfold jj aR aY bq aH eE bM bd aC bj aZ bZ aM ct cR;have hll:=v.len;have hxl:=O.len;refine bm ?_;intro h1 b1 e1 z1;refine bm ?_;intro h2 b2 e2 z2;have b12:=b1.aj e2 ai;have e02:=e1.trans e2;refine aw b12 ((p,l,c),()) (ak ?_);obtain ⟨ie,hie,hze,hse,hbe⟩:=pR MH;refine dt (qJ (l:=0) (c:=l) Di hie hze ad (by rw [hbe]; omega) ad ?_);intro h3 b3 e3 z3;refine ⟨_,_,_,rfl,?_⟩;have e03:=e02.trans e3;have b13:=b12.aj e3 ai;have b23:=b2.aj e3 ai;have s3:SL h3 h2.size 116 3 (some ⟨h2.size,0,none⟩) 0 l (([]:List cT).map AS):=by
  refine ⟨rfl,ai,h2.size,[],_,rfl,au9 _,⟨ad,ad⟩,b3,?_⟩;rw [ab9,dt9,hse];omega
 refine aw b13 ((p,l,c),()) (ak ?_)
 refine aQ (cs:=XK) (fun y m' h'=>∃ (i:Nat) (es:List cT),y.2.2.2.1=(i:Int)/\i<=l/\m'=l-i/\Ch [h2.size] h3 h'/\y.2.2.1.2.1=i/\rT h' h2.size y.2.2.1.1 i y.2.2.1.2.2 es/\(∀ j,(A:j<i)->(hl:j<x.ah.length)->(w.own u x.ah[j].1).isSome=true) /\
   es.map (fun e=>(e.name,e.x))=(x.ah.take i).map (fun t=>(t.1,mC (w.word ((w.own u t.1).getD (0,t.1)))))) ((⟨#[]⟩:Xaa),false,(some ⟨h2.size,0,none⟩,0,l),(0:Int),()) l rfl
  ⟨0,[],rfl,ad,ad,Ch.refl _ _,rfl,⟨s3,ai,List.Pairwise.nil,ai⟩,by intro j A; omega,rfl⟩ ?_
 rintro ⟨s14,b15,⟨p16,l17,l18⟩,n19,⟨⟩⟩ m' h4 ⟨i,es,hi,hil,rfl,o,P,Q,C,s⟩;simp only at hi P Q;subst hi P;refine ak ?_;have B:Ext h h4:=Ch.trans e03 o (fun i hi hl=>by simp at hi; have:=e1.size; omega);have hel:es.length=l17:=by
  have:=aq9 List.length s
  rw [ab9,ab9,az9] at this;omega
 have z4:=o.size;have q3:=b3.lt;have q2:=b2.lt;have q1:=b1.lt;refine aK ?_ ?_<;>intro q
 ·have H:l17<x.ah.length:=ad
  obtain ⟨a,ha,hc⟩:=v.cells l17 H;have R:x.ah.take (l17+1)=x.ah.take l17++[x.ah[l17]]:=ag9 H;have hgt:x.ah[l17]=x.ah[l17]:=rfl;generalize I:x.ah[l17]=t at hc R;refine bK ha ?_;rw [cr l17];refine ar (t.1,(t.2:Int),()) (aI B ai _ _ hc) (ak ?_);refine bm ?_;intro h5 b5 S z5;refine bP b5 ?_;intro h6 D k6 z6;have D:br h6 h4.size 64 [.string t.1,.int .u32 (t.2:Int)]:=D;have U:Ext h4 h6:=bU S k6;have e06:=B.trans U;refine aw D (t.1,()) (ak ?_);refine aE (QL (b.aj e06 ai) (m.aj e06 ai ai ai) u t.1) ?_;rintro _ h7 ⟨rfl,e7⟩;generalize hk:(w.own u t.1).getD (0,t.1)=ky;refine ⟨((ky.1:Int),ky.2,(w.own u t.1).isSome,()),rfl,ak ?_⟩;refine bm ?_;intro h8 b8 e8 z8;refine bP b8 ?_;intro h9 V k9 z9;have V:br h9 h7.size 121 [vI (ky.1:Int),.string ky.2]:=V;have e79:Ext h7 h9:=bU e8 k9;have e69:=e7.trans e79;have e49:=U.trans e69;have e09:=B.trans e49;have b69:=D.aj e69 ai;have q6:=D.lt;have q7:=e7.size;have q9:=V.lt;refine ao ?_ ?_<;>intro r
  ·have r:(w.own u t.1).isSome=false:=by simpa using r
   refine aw b69 (t.1,()) (ak ?_);refine bP ((b23.aj o (by simp; omega)).aj e49 ai) ?_;intro k J W z10;have J:br k h1.size 53 [.slice none 0 0,.int .u32 0]:=J;refine ⟨⟨(b69.aj W (by simp; omega)).cells _ rfl,trivial⟩,?_⟩;refine aw J ((none,0,0),(0:Int),()) ?_;refine ⟨bU e09 W,?_⟩;have hb:w.bad u x=some t.1:=by
    unfold Ob.LW.bad;rw [lS _ x.ah l17 H (fun j A=>by simpa using C j A ad) (by rw [I]; simpa using r),I] <;> rfl
   rw [hb] <;> rfl
  ·have r:(w.own u t.1).isSome=true:=by simpa using r
   refine aw b69 (t.1,()) (ak ?_);refine aw V ((ky.1:Int),ky.2,()) (ak ?_);refine aE (C6 (pw.aj e09 ai) (b.aj e09 ai) (m.aj e09 ai ai ai) G ky.1 ky.2) ?_;rintro _ k ⟨rfl,E⟩;refine ⟨(w.word (ky.1,ky.2),()),rfl,ak ?_⟩;have b6a:=b69.aj E ai;have b9a:=V.aj E ai;have q10:=E.size;refine ⟨⟨b6a.cells _ rfl,trivial⟩,?_⟩;refine nS I6 ul ad ad (IS _ _) ?_;intro h11 b11 K z11;have b6b:=b6a.aj K ai;have b9b:=b9a.aj K ai;refine ⟨⟨b9b.cells _ rfl,b6b.cells _ rfl,trivial⟩,?_⟩;have e411:=(e49.trans E).trans K;have o11:=Q.aj e411 ai;have q11:=e411.size;refine gz (e:=116) (z:=.agg #[.string ⟨#[]⟩,.slice none 0 0,.int .u32 0]) (sz:=3) (by':=48) Di MH rfl ad ad (IN _ _ _ _ _) rfl rfl o11.out ad ad ad (fun h' e=>⟨(b9b.aj e ai).cells _ rfl,(b6b.aj e ai).cells _ rfl,trivial⟩) ?_;intro p' c' h12 s12 F X;have hq:∀ i,i∈aG p16->(i=h2.size\/h3.size<=i)/\i<h4.size:=fun i hi=>by have:=Q.out.cw hi; omega
   have Y:Ch [h2.size] h3 h12:=Ch.trans (o.trans (e411.mono ai) (fun i hi hl=>hi)) F (fun i hi hl=>by have:=hq i hi; simp; omega);have L:∀ i,h4.size<=i->i∉aG p16:=fun i h1 h2=>by have:=hq i h2; omega
   refine ⟨⟨(b9b.aj F (L _ ad)).cells _ rfl,(b6b.aj F (L _ ad)).cells _ rfl,trivial⟩,?_⟩;have hm:SL h11 h2.size 64 2 (some ⟨k.size,0,none⟩) 1 1 ((mC (w.word ky)).ah.map df) :=
    ⟨rfl,fun y hy=>by rw [ak9.1 hy]; rfl,k.size,[],[],rfl,ad,⟨ad,ad⟩,b11,by simp [mC]⟩
   have o12:rT h12 h2.size p' (l17+1) c' (es++[⟨t.1,some ⟨k.size,0,none⟩,1,1,mC (w.word ky)⟩]):=by
    refine o11.push (m:=⟨t.1,some ⟨k.size,0,none⟩,1,1,mC (w.word ky)⟩) hm (fun i hi=>?_) (by rw [ao9]; exact s12) F (fun i hi=>?_)
    ·have hi:i=k.size:=by simpa [aG] using hi
     subst hi;refine ⟨fun y hy j A=>?_,L _ ad⟩
     have:=((Q.fx y hy).cw A).2
     omega
    ·rcases X with rfl | ⟨a',rfl,ha'⟩
     ·exact .inl hi
     ·simp [aG] at hi; right; omega
   have hw:=hY l17;rw [hw];refine aD (cs:=XK) (s14,b15,(p',l17+1,c'),((l17+1:Nat):Int),()) (l-(l17+1)) rfl ad rfl
    ⟨l17+1,_,rfl,ad,rfl,Y,rfl,o12,fun j A hjl=>?_,?_⟩
   ·by_cases Z:j<l17
    ·exact C j Z hjl
    ·have:j=l17:=ad
     subst this;rw [I]; exact r
   ·rw [ao9,s,R,ao9];simp only [List.map_cons,List.map_nil];rw [hk]
 ·have hi:l17=x.ah.length:=ad
  subst hi;have s:es.map (fun e=>(e.name,e.x))=x.ah.map (fun t=>(t.1,mC (w.word ((w.own u t.1).getD (0,t.1))))):=by rw [s,bw9 (au9 _)]
  have hnm:aU es=x.ah.map (·.1):=by
   have:=aq9 (List.map (·.1)) s
   rw [bf9,bf9] at this;exact this
  have d:∀ e,e∈es->∃ t,t∈x.ah/\e.name=t.1/\e.x=mC (w.word ((w.own u t.1).getD (0,t.1))):=by
   intro e f
   have:(e.name,e.x)∈es.map (fun e=>(e.name,e.x)):=bc9 f
   rw [s] at this;obtain ⟨t,ht,M⟩:=an9.1 this;rw [Prod.mk.injEq] at M;exact ⟨t,ht,M.1.symm,M.2.symm⟩
  have hwsz:∀ ky:Ky,(w.word ky).size<=maxLen:=by
   intro ky;unfold LW.word;have hsz:∀ (a:Xaa) n,n<=2^50->a.size=1->(a++lI n).size<=maxLen:=fun a n hn ha=>by
    rw [ef9,ha]
    have:=me (n:=n) ad
    unfold maxLen;omega
   split
   ·rename_i n hn;exact hsz _ _ (G.n _ _ hn) rfl
   ·refine hsz _ _ ?_ rfl;cases f:w.sG ky with
    | none=>simp
    | some i=>exact G.e _ _ f
  have eo:EqsOk es:=⟨by rw [hnm]; exact O.nodup,ad,fun e f=>by obtain ⟨t,ht,h1,_⟩:=d e f; rw [h1]; exact O.sz t ht,
   fun e f=>by obtain ⟨t,ht,_,h1⟩:=d e f; rw [h1]; show 1<=2^40; decide,
   fun e f t' N=>by
    obtain ⟨t,ht,_,h1⟩:=d e f;rw [h1] at N;rw [ak9.1 N];exact hwsz _⟩
  refine aw ((b13).aj o (by simp; omega)) ((p,l,c),(x.num:Int),()) ?_;refine ak ?_;have ve:=D2 Q;have htot:(es.flatMap (·.x.ah)).length<=2^39:=by
   have:∀ l:List cT,(∀ e,e∈l->e.x.ah.length=1)->(l.flatMap (·.x.ah)).length=l.length:=by
    intro l
    induction l with
    | nil=>intro _; rfl
    | cons a l ih=>intro hl; rw [cd9,ae9,ih (fun e f=>hl e (by simp [f])),hl a ai,ck9,Nat.add_comm]
   rw [this es (fun e f=>by obtain ⟨t,ht,_,h1⟩:=d e f; rw [h1]; rfl)];omega
  refine aE (OK (v.aj B ai) ve eo (fun e f=>by obtain ⟨t,ht,_,h1⟩:=d e f; rw [h1]; show 1<=2^20; decide) htot ad hxl O.sz) ?_;rintro _ h5 ⟨⟨p',l',c',rfl,s5⟩,S⟩;have hlin:nl (dr (cD es) x) vf=w.lin u x:=by
   rw [yV (eM _ _) (jc O.num)];unfold Ob.LW.lin;refine qB (fun t ht=>?_);have hin:t.1∈aU es:=by rw [hnm]; exact bc9 ht
   obtain ⟨j,A,rfl⟩:=bg9 ht;have hoj:=C j ad A;obtain ⟨ky,hky⟩:=cl9.1 hoj;unfold cD;rw [af9 ((dQ es _).2 hin),hky];obtain ⟨e,f,hen⟩:=an9.1 hin;obtain ⟨t',N,h1,h2⟩:=d e f;rw [<- hen,qQ eo.nodup f,h2,<- h1,hen,hky] <;> rfl
  rw [hlin] at s5 ⊢;refine ⟨((p',l',c'),((w.lin u x).num:Int),()),rfl,ak ?_⟩;have q5:=S.size;refine bP ((b23.aj o (by simp; omega)).aj S ai) ?_;intro h6 D k6 z6;have D:br h6 h1.size 53 [.slice p' l' c',.int .u32 ((w.lin u x).num:Int)]:=D;refine aw D ((p',l',c'),((w.lin u x).num:Int),()) ?_;refine ⟨bU (B.trans S) k6,?_⟩;have hb:w.bad u x=none:=by
   unfold Ob.LW.bad;rw [oM _ x.ah (fun j A=>by simpa using C j ad A)] <;> rfl
  rw [hb];exact ⟨p',l',c',rfl,(s5.bF k6 (fun j A=>by have:=(s5.cw A).1; simp; omega)).mono ad⟩
end
theorem yT {h:Hp} {a:Xax}:∀ (b us:List Xab) (i:Nat),aF h a i b->aF h a (i+b.length) us->aF h a i (b++us)
 | [],us,i,_,h2=>by simpa using h2
 | v::b,us,i,h1,h2=>⟨h1.1,yT b us (i+1) h1.2 (by rw [ck9] at h2; rw [show i+1+b.length=i+(b.length+1) from ad]; exact h2)⟩
theorem Aw {h:Hp} {a:Xax}:∀ (b:List Xab) (o i:Nat),aF h (a.add o) i b->aF h a (o+i) b
 | [],_,_,_=>trivial
 | v::b,o,i,h1=>⟨by have:=h1.1; rw [add_add] at this; exact this,Aw b o (i+1) h1.2⟩
theorem mv {h:Hp} {a:Xax} {sz:Nat}:∀ (xs:List (List Xab)) (k:Nat),(∀ x,x∈xs->x.length=sz)->(∀ i,(hi:i<xs.length)->aF h (a.add ((k+i)*sz)) 0 xs[i])->aF h a (k*sz) xs.flatten
 | [],_,_,_=>trivial
 | x::xs,k,hl,hc=>by
  rw [em9];refine yT _ _ _ ?_ ?_
  ·have:=hc 0 ai
   rw [eo9] at this;exact Aw _ _ 0 this
  ·rw [hl x ai,<- Nat.succ_mul];exact mv xs (k+1) (fun y b=>hl y (by simp [b])) (fun i hi=>by
    have:=hc (i+1) (by simpa using hi)
    rw [show k+1+i=k+(i+1) from ad];exact this)
structure Xj (h:Hp) (p:Xac) (l:Nat) (ws:List (bI × cz)):Prop where
 len:l=ws.length
 cells:∀ i,(hi:i<ws.length)->∃ a,p=some a/\aF h (a.add (i*10)) 0 (tY ws[i])
theorem yY {α β:Type} (R:α->β->Prop):∀ (us:List α),(∀ i,(hi:i<us.length)->∃ b,R us[i] b)->∃ a:List β,a.length=us.length/\∀ i,(hi:i<us.length)->(d:i<a.length)->R us[i] a[i]
 | [],_=>⟨[],rfl,fun i hi=>by simp at hi⟩
 | u::us,h=>by
  obtain ⟨b,d⟩:=h 0 ai;obtain ⟨a,hl,e⟩:=yY R us (fun i hi=>h (i+1) (by simpa using hi));refine ⟨b::a,by simp [hl],fun i hi c=>?_⟩
  match i with
  | 0=>exact d
  | i+1=>exact e i (by simpa using hi) (by simpa using c)
variable {H:Hp} {O:Xac} {U:Nat}
def Es {us:List cz} (v:FD H O U us):∃ ws:List (bI × cz),ws.map (·.2)=us/\Xj H O U ws/\∀ u,u∈ws->iM H u.1.p u.1.l u.2:=by
 have d:∀ i,(hi:i<(List.range us.length).length)->∃ s:bI,∀ o:(List.range us.length)[i]<us.length,∃ a,O=some a/\aF H (a.add ((List.range us.length)[i]*10)) 0 (Ob.encI s.p s.l s.c us[(List.range us.length)[i]])/\iM H s.p s.l us[(List.range us.length)[i]]:=by
  intro i hi;have f:i<us.length:=by simpa using hi
  obtain ⟨a,q,m,c,e,hc,hv⟩:=v.cells i f;refine ⟨⟨q,m,c⟩,fun o=>⟨a,e,?_,?_⟩⟩
  ·simp only [List.getElem_range]; exact hc
  ·simp only [List.getElem_range]; exact hv
 obtain ⟨g,k,r⟩:=yY (fun (j:Nat) (s:bI)=>∀ o:j<us.length,∃ a,O=some a/\aF H (a.add (j*10)) 0 (Ob.encI s.p s.l s.c us[j])/\iM H s.p s.l us[j]) (List.range us.length) d;rw [dt9] at k;have n:(g.zip us).map (·.2)=us:=by rw [List.map_snd_zip ad]
 have b:(g.zip us).length=us.length:=by rw [List.length_zip]; omega
 refine ⟨g.zip us,n,⟨by rw [b]; exact v.len,fun i hi=>?_⟩,fun u t=>?_⟩
 ·rw [b] at hi;have h1:=r i (by simpa using hi) ad;simp only [List.getElem_range] at h1;obtain ⟨a,e,hc,_⟩:=h1 hi;refine ⟨a,e,?_⟩;rw [List.getElem_zip];exact hc
 ·obtain ⟨i,hi,rfl⟩:=bg9 t;rw [b] at hi;have h1:=r i (by simpa using hi) ad;simp only [List.getElem_range] at h1;obtain ⟨a,e,_,hv⟩:=h1 hi;rw [List.getElem_zip];exact hv
def pX (ws:List (bI × cz)):(ws.map tY).flatten.all dl=true:=by
 rw [bm9];intro v hv;obtain ⟨x,a,hv⟩:=List.mem_flatten.1 hv;obtain ⟨t,_,rfl⟩:=an9.1 a;simp only [tY,Ob.encI,List.mem_cons,List.not_mem_nil,or_false] at hv;rcases hv with rfl | rfl | rfl | rfl | rfl | rfl | rfl | rfl | rfl | rfl <;> rfl
def pa (ws:List (bI × cz)):∀ y,y∈ws.map tY->y.length=10:=by
 intro y a;obtain ⟨u,_,rfl⟩:=an9.1 a;rfl
def Xj.src {ws:List (bI × cz)} (v:Xj H O U ws):(O=none/\ws.map tY=[])\/∃ a,O=some a/\aF H a 0 (ws.map tY).flatten:=by
 cases O with
 | none =>
  left
  refine ⟨rfl,?_⟩;cases ws with
  | nil=>rfl
  | cons u us =>
   obtain ⟨a,b,_⟩:=v.cells 0 ai;cases b
 | some a =>
  refine .inr ⟨a,rfl,?_⟩
  have:=mv (h:=H) (a:=a) (sz:=10) (ws.map tY) 0 (pa ws) (fun i hi=>by
   rw [ab9] at hi;obtain ⟨a',b,hc⟩:=v.cells i hi;cases b;rw [am9,bv9];exact hc)
  rwa [Nat.zero_mul] at this
def DP {c:Nat} {ws:List (bI × cz)} (v:Xj H O U ws) (hl:ws.length<=2^30) :
  HC Xaz 57 #[.slice O U c] H fun w h'=>(∃ p' c',w=.slice p' U c'/\SL h' H.size 55 10 p' U c' (ws.map tY))/\Ext H h':=by
 refine aX (args:=[.slice O U c]) mixed Tryz.func57 av (gh O U c) ?_;unfold eA bd aZ;have hll:=v.len;cases O with
 | none =>
  rcases v.src with ⟨_,h2⟩ | ⟨a,b,_⟩
  ·refine bX rfl ?_
   have:ws=[]:=by simpa using h2
   subst this;subst hll;exact ⟨⟨none,0,rfl,SL.nil _ _ _ _⟩,Ch.refl _ _⟩
  ·cases b
 | some a =>
  refine cv rfl ?_;refine qI (e:=55) (z:=.agg iz.toArray) (sz:=10) (by':=104) Ce Ga rfl v.src (by simpa using hll) (pa ws) (pX ws) ad ad ?_;intro p' c' h' f g;exact ⟨⟨p',c',rfl,f⟩,g⟩
structure LcB (h:Hp) (b B:Nat) (p:Xac) (l c:Nat) (ws:List (bI × cz)):Prop where
 out:SL h b 55 10 p l c (ws.map tY)
 lt:∀ i,i∈aG p->i<B
 fx:∀ u,u∈ws->SL h B 64 2 u.1.p u.1.l u.1.c (u.2.e.ah.map df)
def _root_.Go.Sx.Ob.LW.zJ (w:LW) (u:Nat) (us:List cz):Option Xaa:=us.findSome? fun x=>w.bad u x.e
def _root_.Go.Sx.Ob.LW.fy (w:LW) (u:Nat) (x:cz):cz:={ x with e:=w.lin u x.e }
def Xm (w:LW) (u:Nat) (us:List cz) (l:Nat) (h:Hp) (v:Xab) (h':Hp):Prop :=
 Ext h h'/\match w.zJ u us with
 | some s=>v=.tuple #[.slice none 0 0,.string s,.bool false]
 | none=>∃ p c B ws,v=.tuple #[.slice p l c,.string ⟨#[]⟩,.bool true]/\LcB h' h.size B p l c ws/\h.size<=B/\ws.map (·.2)=us.map (w.fy u)
theorem KK (w:LW) (u:Nat):∀ (us:List cz) (i:Nat) (hi:i<us.length) (s:Xaa),(∀ j,(b:j<i)->w.bad u (us[j]'ad).e=none)->w.bad u us[i].e=some s->w.zJ u us=some s
 | [],i,hi,_,_,_=>by simp at hi
 | a::l,0,hi,s,_,h=>by unfold Ob.LW.zJ; simp at h; simp [h]
 | a::l,i+1,hi,s,h0,h=>by
  have c:w.bad u a.e=none:=h0 0 ad;have ih:=KK w u l i (by simpa using hi) s (fun j b=>h0 (j+1) ad) (by simpa using h);unfold Ob.LW.zJ at ih ⊢;rw [List.findSome?_cons,c];exact ih
def MY (w:LW) (u:Nat) (us:List cz) (h:∀ j,(a:j<us.length)->w.bad u us[j].e=none):w.zJ u us=none:=by
 unfold Ob.LW.zJ;rw [cw9];intro x b;obtain ⟨j,a,rfl⟩:=bg9 b;exact h j a
section
variable {h:Hp} {g gN gE gG:Nat} {us lb:bI} {sp:Int} {w:LW}
def Ao (pw:eH h) (b:RL h g us lb gN gE gG sp) (m:LM h gN gE gG w) (lb':QQ w) (u:Nat) {p:Xac} {l c:Nat} {xs:List cz} (v:FD h p l xs) (hn:xs.length<=2^20) (gx:∀ x,x∈xs->Gg x.e) :
  HC Xaz 33 #[ptr g,vI (u:Int),.slice p l c] h (Xm w u xs l h):=by
 refine aX (args:=[ptr g,vI (u:Int),.slice p l c]) mixed Tryz.func33 av (nV (some ⟨g,0,none⟩) u p l c) ?_;unfold jt aR aY bq aH bM aC bj aZ bZ aM ct cR;have hll:=v.len;obtain ⟨ws,H,vd,hit⟩:=Es v;have hwl:ws.length=xs.length:=by rw [<- H,ab9]
 refine aE (DP (c:=c) vd ad) ?_;rintro _ h1 ⟨⟨p3,c3,rfl,s3⟩,e1⟩;refine ⟨((p3,l,c3),()),rfl,ak ?_⟩;have f:∀ i,i∈aG p3->h.size<=i/\i<h1.size:=fun i hi=>s3.cw hi
 refine aQ (cs:=YW) (fun y m' h'=>∃ (i:Nat) (d:List (bI × cz)),y.2.2.2.1=(i:Int)/\i<=l/\m'=l-i/\Ch (aG p3) h1 h'/\d.length=l/\SL h' h.size 55 10 p3 l c3 (d.map tY) /\
   (∀ j,(k:j<i)->(hv:j<d.length)->SL h' h1.size 64 2 d[j].1.p d[j].1.l d[j].1.c (d[j].2.e.ah.map df))/\d.map (·.2)=(xs.take i).map (w.fy u)++xs.drop i/\∀ j,(k:j<i)->(U:j<xs.length)->w.bad u xs[j].e=none)
  ((none,0,0),(⟨#[]⟩:Xaa),false,(0:Int),()) l rfl ⟨0,ws,rfl,ad,ad,Ch.refl _ _,ad,s3,by intro j k; omega,by simpa using H,by intro j k; omega⟩ ?_
 rintro ⟨p6,s9,b10,n11,⟨⟩⟩ m' h2 ⟨i,d,hi,hil,rfl,k2,hvl,s2,own,ep,A⟩;simp only at hi;subst hi;refine ak ?_;have B:Ext h h2:=Ch.trans e1 k2 (fun i hi hl=>by have:=f i hi; omega);have z1:=e1.size;have z2:=k2.size;refine aK ?_ ?_<;>intro q
 ·have r:i<xs.length:=ad
  obtain ⟨aa,pp,ll,V,ha,I,J⟩:=v.cells i r;have gxi:=gx xs[i] (al9 r);have K:xs.take (i+1)=xs.take i++[xs[i]]:=ag9 r;have C:xs.drop i=xs[i]::xs.drop (i+1):=aw9 r;generalize L:xs[i]=x at I J K gxi C;refine bK ha ?_;rw [cr i];refine ar (x.kind,x.name,x.inst.op,x.inst.a,x.inst.b,x.inst.n,x.inst.form,(pp,ll,V),(x.e.num:Int),x.n,()) (aI B ai _ _ I) (ak ?_);refine bm ?_;intro h3 b3 e3 z3;refine bP b3 ?_;intro h4 W k4 z4;have W:br h4 h2.size 55 (Ob.encI pp ll V x):=W;have D:Ext h2 h4:=bU e3 k4;have e04:=B.trans D;rw [ay];refine aw W ((pp,ll,V),(x.e.num:Int),()) (ak ?_);refine aE (yF (c:=V) (pw.aj e04 ai) (b.aj e04 ai) (m.aj e04 ai ai ai) lb' u (J.aj e04).lin.vw gxi) ?_;rintro _ h5 ⟨e5,X⟩;have z4':=W.lt;have z5:=e5.size;cases Y:w.bad u x.e with
  | some s =>
   rw [Y] at X;subst X;refine ⟨((none,0,0),(0:Int),s,false,()),rfl,ak ?_⟩;refine bm ?_;intro h6 b6 e6 z6;refine bP b6 ?_;intro h7 Z k7 z7;refine bX rfl ?_;refine ⟨bU ((e04.trans e5).trans e6) k7,?_⟩;rw [KK w u xs i r s (fun j k=>A j k ad) (by rw [L]; exact Y)]
  | none =>
   rw [Y] at X;obtain ⟨E,F,G,rfl,s7⟩:=X;refine ⟨((E,F,G),((w.lin u x.e).num:Int),(⟨#[]⟩:Xaa),true,()),rfl,ak ?_⟩;refine bm ?_;intro h6 b6 e6 z6;refine bP b6 ?_;intro h7 Z k7 z7;have Z:br h7 h5.size 53 [.slice E F G,.int .u32 ((w.lin u x.e).num:Int)]:=Z;have M:Ext h5 h7:=bU e6 k7;have e27:=(D.trans e5).trans M;refine cv rfl ?_;refine aw Z ((E,F,G),((w.lin u x.e).num:Int),()) (ak ?_);have s27:=s2.aj e27 ai;have t:i<d.length:=ad
   obtain ⟨a3,N⟩:∃ a3,p3=some a3:=by
    cases hp3:p3 with
    | some a=>exact ⟨a,rfl⟩
    | none =>
     rw [hp3] at s27;have h1:=s27.2.2.2;have h2:d=[]:=by simpa using h1
     rw [h2] at t;simp at t
   refine bK N ?_;refine SL.part (P:=Xaz) s27 (i:=i) (by rw [ab9]; exact t) (o:=7) ai (by simp [dl]) N ?_;intro h8 s8 k8 z8;have hvi:d[i].2=x:=by
    have h1:(d.map (·.2))[i]?=some d[i].2:=by rw [ch9,ad9 t]; rfl
    rw [ep,bn9 (by rw [ab9,az9]; omega),C] at h1;rw [ab9,az9,show i-min i xs.length=0 from ad] at h1;simpa using h1.symm
   have O:(d.map tY).set i (lN ((d.map tY)[i]'(by rw [ab9]; exact t)) 7 [.slice E F G,.int .u32 ((w.lin u x.e).num:Int)])=(d.set i (⟨E,F,G⟩,w.fy u x)).map tY:=by
    rw [fd9,am9]
    congr 1
    rcases hvv:d[i] with ⟨⟨v1,v2,v3⟩,v4⟩
    have:v4=x:=by rw [<- hvi,hvv]
    subst this;rfl
   rw [O] at s8;have z7':h2.size<=h7.size:=e27.size;have hw:=hY i;rw [hw];refine aD (cs:=YW) (p6,s9,b10,((i+1:Nat):Int),()) (l-(i+1)) rfl ad rfl
    ⟨i+1,d.set i (⟨E,F,G⟩,w.fy u x),rfl,ad,rfl,Ch.trans (k2.trans (e27.mono ai) (fun i hi _=>hi)) k8 (fun i hi _=>hi),by rw [cx9]; exact hvl,s8,fun j k Q=>?_,?_,fun j k hjx=>?_⟩
   ·have R:∀ x,h1.size<=x->x∉aG p3:=fun x h1 h2=>by have:=f x h2; omega
    by_cases z:j=i
    ·subst z;simp only [List.getElem_set_self]
     have:SL h7 h1.size 64 2 E F G ((w.fy u x).e.ah.map df):=Sx.SL.mono (s7.aj M ai) (by have:=D.size; omega)
     exact this.bF k8 (fun x U=>R x (this.cw U).1)
    ·have S:j<i:=ad
     rw [cx9] at Q;simp only [List.getElem_set_ne (Ne.symm z)]
     have:=(own j S Q).aj e27 ai
     exact this.bF k8 (fun x U=>R x (this.cw U).1)
   ·rw [fd9,ep,K,ao9,C];have hl1:((xs.take i).map (w.fy u)).length=i:=by rw [ab9,az9]; omega
    rw [List.set_append_right _ _ ad,hl1,fc9,List.set_cons_zero]
    simp
   ·by_cases z:j=i
    ·subst z;rw [L]; exact Y
    ·exact A j ad hjx
 ·have hi:i=l:=ad
  subst hi;refine ⟨B,?_⟩;rw [MY w u xs (fun j k=>A j ad k)];refine ⟨p3,c3,h1.size,d,rfl,⟨s2,fun i hi=>(f i hi).2,fun u hu=>?_⟩,z1,?_⟩
  ·obtain ⟨j,k,rfl⟩:=bg9 hu;exact own j ad k
  ·rw [ep,bw9 ad,ep9 ad,bz9]
end
def jO (n sec i:Nat) (x:cz) (w:LW):LW :=
 if x.kind=1 then { w with num:=tR w.num (n,x.name) w.lb.length,nn:=if (w.num (n,x.name)).isSome then w.nn else w.nn+1,lb:=w.lb++[⟨n,sec,i,x.name⟩] } else w
def iV (n sec:Nat):Nat->List cz->LW->LW
 | _,[],w=>w
 | i,x::l,w=>iV n sec (i+1) l (jO n sec i x w)
def vL (n:Nat) (w:LW) (e:sO):LW:={ w with sG:=tR w.sG (n,e.1) w.ne,ne:=if (w.sG (n,e.1)).isSome then w.ne else w.ne+1 }
def G' (n:Nat) (u:cg) (w:LW):LW:=u.bg.foldl (vL n) (iV n 1 0 u.data (iV n 0 0 u.text w))
def nU:Nat->List cg->LW->LW
 | _,[],w=>w
 | n,u::us,w=>nU (n+1) us (G' n u w)
theorem C4 (n sec:Nat) (x:cz):∀ (l:List cz) (i:Nat) (w:LW),iV n sec i (l++[x]) w=jO n sec (i+l.length) x (iV n sec i l w)
 | [],i,w=>rfl
 | y::l,i,w=>by
  simp only [List.cons_append,iV,List.length_cons];rw [C4 n sec x l (i+1) _,show i+1+l.length=i+(l.length+1) from ad]
theorem C1 (u:cg):∀ (l:List cg) (n:Nat) (w:LW),nU n (l++[u]) w=G' (n+l.length) u (nU n l w)
 | [],n,w=>rfl
 | y::l,n,w=>by
  simp only [List.cons_append,nU,List.length_cons];rw [C1 u l (n+1) _,show n+1+l.length=n+(l.length+1) from ad]
def H6 (n sec i:Nat) (x:cz) (w:LW):(jO n sec i x w).lb.length<=w.lb.length+1:=by
 unfold jO;split
 ·simp
 ·omega
theorem mK (n sec:Nat):∀ (l:List cz) (i:Nat) (w:LW),(iV n sec i l w).lb.length<=w.lb.length+l.length
 | [],i,w=>by simp [iV]
 | x::l,i,w=>by
  have h1:=mK n sec l (i+1) (jO n sec i x w);have h2:=H6 n sec i x w;simp only [iV,List.length_cons];omega
theorem PS (n:Nat):∀ (l:List sO) (w:LW),(l.foldl (vL n) w).lb=w.lb
 | [],w=>rfl
 | e::l,w=>by rw [br9,PS n l]; rfl
def OS (n:Nat) (u:cg) (w:LW):(G' n u w).lb.length<=w.lb.length+(u.text.length+u.data.length):=by
 unfold G';rw [PS];have h1:=mK n 1 u.data 0 (iV n 0 0 u.text w);have h2:=mK n 0 u.text 0 w;omega
def vN (us:List cg):Nat:=(us.map fun u=>u.text.length+u.data.length+u.bg.length+u.aS.length).sum
theorem Hk:∀ (l:List cg) (n:Nat) (w:LW),(nU n l w).lb.length<=w.lb.length+vN l
 | [],n,w=>by simp [nU,vN]
 | u::l,n,w=>by
  have h1:=Hk l (n+1) (G' n u w);have h2:=OS n u w;simp only [nU,vN,List.map_cons,List.sum_cons] at *;omega
def MF (us:List cg) (i:Nat) (hi:i<us.length):vN (us.take i)+(us[i].text.length+us[i].data.length+us[i].bg.length+us[i].aS.length)+vN (us.drop (i+1))=vN us:=by
 have:us=us.take i++us[i]::us.drop (i+1):=by rw [<- aw9 hi,ce9]
 conv=>rhs; rw [this]
 unfold vN;rw [ao9,List.sum_append,bo9,cr9];omega
structure FH (h:Hp) (B:Nat) (us lb:bI) (sp:Int) (w:LW):Prop where
 box:RL h (B+3) us lb B (B+1) (B+2) sp
 maps:LM h B (B+1) (B+2) w
 qW:SL h (B+4) 157 4 lb.p lb.l lb.c (w.lb.map QH)
def FH.aj {h h':Hp} {B:Nat} {us lb:bI} {sp:Int} {w:LW} (s:FH h B us lb sp w) (e:Ext h h'):FH h' B us lb sp w :=
 ⟨s.box.aj e ai,s.maps.aj e ai ai ai,s.qW.aj e ai⟩
def FH.lt {h:Hp} {B:Nat} {us lb:bI} {sp:Int} {w:LW} (s:FH h B us lb sp w):B+4<=h.size:=by have:=s.box.lt; omega
def Yi:Tryz.prog.underlying 106=some (.slice 157):=av
def Zo:(Tryz.prog.info? 157).map (fun i=>(i.zero,i.size,i.bytes))=some (some (.agg #[vI 0,vI 0,vI 0,.string ⟨#[]⟩]),4,40):=av
def OF (a b c:Int) (s:Xaa):Instr.fill (fun j=>some (j*4,4)) ((Array.range (1*4)).map ((Value.agg #[vI 0,vI 0,vI 0,.string ⟨#[]⟩]).cells[· % (Value.agg #[vI 0,vI 0,vI 0,.string ⟨#[]⟩]).cells.size]!)) [(0,.agg #[vI a,vI b,vI c,.string s])]=some ([vI a,vI b,vI c,.string s]:List Xab).toArray:=av
section
variable {h0:Hp} {B:Nat} {us:bI} {sp:Int}
def Ii {h:Hp} {lb:bI} {w:LW} (hB:h0.size=B) (e0:Ext h0 h) (s:FH h B us lb sp w) {p:Xac} {l c:Nat} {ye:List cg} (v:xt h0 p l ye) (hlen:w.lb.length+vN ye<=2^30) (hnu:ye.length<=2^20) (hwl:lb.l=w.lb.length) :
  HC Xaz 31 #[ptr (B+3),.slice p l c] h fun x h'=>x=.tuple #[]/\∃ f,FH h' B us f sp (nU 0 ye w)/\Ext h0 h':=by
 refine aX (args:=[ptr (B+3),.slice p l c]) mixed Tryz.func31 av (oc (some ⟨B+3,0,none⟩) p l c) ?_;unfold jD aR aY bq aH bd bR aC bj aZ bZ aM;have hll:=v.len;refine aQ (cs:=cF) (fun y H h'=>∃ (n:Nat) (f:bI),y.1=(n:Int)/\n<=l/\H=l-n/\Ext h0 h'/\FH h' B us f sp (nU 0 (ye.take n) w)) ((0:Int),()) l rfl ⟨0,lb,rfl,ad,ad,e0,s⟩ ?_;clear s e0;rintro ⟨n2,⟨⟩⟩ H h1 ⟨n,lb1,hn,hnl,rfl,e1,s1⟩;simp only at hn;subst hn;refine ak ?_;refine aK ?_ ?_<;>intro q
 ·have R:n<ye.length:=ad
  obtain ⟨a,m,o,F,td,ha,hc,hu⟩:=v.cells n R;have htk:ye.take (n+1)=ye.take n++[ye[n]]:=ag9 R;have hL:=MF ye n R;have hwn:=Hk (ye.take n) 0 w;generalize ye[n]=u at hc hu htk hL;generalize hw1:nU 0 (ye.take n) w=L at *;refine bK ha ?_;rw [cr n];refine ar ((m.p,m.l,m.c),(o.p,o.l,o.c),(F.p,F.l,F.c),(td.p,td.l,td.c),()) (aI e1 ai _ _ hc) (ak ?_);refine bm ?_;intro h2 b2 e2 z2;refine bP b2 ?_;intro h3 S k3 z3;have S:br h3 h1.size 70 [m.v,o.v,F.v,td.v]:=S;have e13:Ext h1 h3:=bU e2 k3;refine aw S ((m.p,m.l,m.c),()) (ak ?_);rw [ay];refine aw S ((o.p,o.l,o.c),()) (ak ?_);refine nS RI Zl ad ad (Q0 m.p m.l m.c o.p o.l o.c) ?_;intro h4 b4 e4 z4;have b4:br h4 h3.size 46 [m.v,o.v]:=b4;have e14:=e13.trans e4;have b34:=S.aj e4 ai;have l1:=s1.lt;have q3:=S.lt;have hsec:∀ k,k<2->∃ s:bI,([m.v,o.v]:List Xab).drop k=s.v::([m.v,o.v]:List Xab).drop (k+1)/\FD h0 s.p s.l (zU u k):=by
   intro k hk
   have:k=0\/k=1:=ad
   rcases this with rfl | rfl
   ·exact ⟨m,rfl,hu.text⟩
   ·exact ⟨o,rfl,hu.data⟩
  let I:Nat->LW:=fun k=>if k=0 then L else if k=1 then iV n 0 0 u.text L else iV n 1 0 u.data (iV n 0 0 u.text L)
  have hwS:∀ k,k<2->I (k+1)=iV n k 0 (zU u k) (I k):=by
   intro k hk
   have:k=0\/k=1:=ad
   rcases this with rfl | rfl <;> rfl
  have hwSl:∀ k,k<=2->(I k).lb.length<=L.lb.length+(if k=0 then 0 else if k=1 then u.text.length else u.text.length+u.data.length):=by
   intro k hk
   have:k=0\/k=1\/k=2:=ad
   rcases this with rfl | rfl | rfl
   ·simp [I]
   ·exact mK n 0 u.text 0 L
   ·have h1:=mK n 0 u.text 0 L;have h2:=mK n 1 u.data 0 (iV n 0 0 u.text L);show (iV n 1 0 u.data (iV n 0 0 u.text L)).lb.length<=L.lb.length+(u.text.length+u.data.length);omega
  refine aQ (cs:=cF) (fun y H h'=>∃ (k:Nat) (f:bI),y.1=(k:Int)/\k<=2/\H=2-k/\Ext h0 h'/\FH h' B us f sp (I k)/\(h1.size∉aG f.p/\h3.size∉aG f.p)/\br h' h1.size 70 [m.v,o.v,F.v,td.v]/\br h' h3.size 46 [m.v,o.v]) ((0:Int),()) 2 rfl
   ⟨0,lb1,rfl,ad,ad,e1.trans e14,s1.aj e14,⟨fun hm=>by have:=(s1.qW.cw hm).2; omega,fun hm=>by have:=(s1.qW.cw hm).2; omega⟩,b34,b4⟩ ?_
  clear b4 b34 e4 e14 S z4;rintro ⟨n26,⟨⟩⟩ H h5 ⟨k,lb2,hk,hk2,rfl,e5,s5,d2,U,P⟩;simp only at hk;subst hk;refine ak ?_;refine aK ?_ ?_<;>intro q
  ·have hk:k<2:=ad
   obtain ⟨sl,hsl,vs⟩:=hsec k hk;have hwk:=hwS k hk;have hwkl:=hwSl k ad;have V:(zU u k).length+(if k=0 then 0 else if k=1 then u.text.length else u.text.length+u.data.length)<=u.text.length+u.data.length:=by
    have:k=0\/k=1:=ad
    rcases this with rfl | rfl
    ·simp [zU]
    ·simp [zU]; omega
   refine bK rfl ?_;rw [ay];refine bC P ((sl.p,sl.l,sl.c),()) (by rw [show 0+(k:Int).toNat*1=k from ad,hsl]; rfl) ?_;refine ak ?_;generalize hxs:zU u k=xs at vs hwk V;generalize hwkk:I k=W at *;have lk:=vs.len;refine aQ (cs:=cF) (fun y H h'=>∃ (i:Nat) (f:bI),y.1=(i:Int)/\i<=sl.l/\H=sl.l-i/\Ext h0 h'/\FH h' B us f sp (iV n k 0 (xs.take i) W)/\(h1.size∉aG f.p/\h3.size∉aG f.p)/\br h' h1.size 70 [m.v,o.v,F.v,td.v]/\br h' h3.size 46 [m.v,o.v]) ((0:Int),()) sl.l rfl
    ⟨0,lb2,rfl,ad,ad,e5,s5,d2,U,P⟩ ?_
   clear e5 s5 U P;rintro ⟨n31,⟨⟩⟩ H X ⟨i,d,hi,hil,rfl,Q,M,d3,U,P⟩;simp only at hi;subst hi;refine ak ?_;refine aK ?_ ?_<;>intro q
   ·have J:i<xs.length:=ad
    obtain ⟨aa,pp,ll,cc,Y,K,Z⟩:=vs.cells i J;have htk2:xs.take (i+1)=xs.take i++[xs[i]]:=ag9 J;have hli:(iV n k 0 (xs.take i) W).lb.length<=W.lb.length+i:=by
     have:=mK n k (xs.take i) 0 W
     rw [az9] at this;omega
    have C:iV n k 0 (xs.take (i+1)) W=jO n k i xs[i] (iV n k 0 (xs.take i) W):=by
     rw [htk2,C4,az9,bv9,db9 ad]
    generalize xs[i]=x at K Z C;generalize hwi:iV n k 0 (xs.take i) W=wi at *;refine bK Y ?_;rw [cr i];refine ar (x.kind,x.name,x.inst.op,x.inst.a,x.inst.b,x.inst.n,x.inst.form,(pp,ll,cc),(x.e.num:Int),x.n,()) (aI Q ai _ _ K) (ak ?_);refine bm ?_;intro h7 b7 e7 z7;refine bP b7 ?_;intro h8 G k8 z8;have G:br h8 X.size 55 (Ob.encI pp ll cc x):=G;have t:Ext X h8:=bU e7 k8;have bu8:=U.aj t ai;have bs8:=P.aj t ai;have s8:=M.aj t;have hw:=hY i;have l6:=M.lt;have q6:=G.lt;refine aw G (x.kind,()) (ak ?_);refine ao ?_ ?_<;>intro r
    ·have r:x.kind=1:=by simpa using r
     have hp:jO n k i x wi={ wi with num:=tR wi.num (n,x.name) wi.lb.length,nn:=if (wi.num (n,x.name)).isSome then wi.nn else wi.nn+1,lb:=wi.lb++[⟨n,k,i,x.name⟩] }:=by unfold jO; rw [af9 r]
     refine bf rfl ?_;rw [ay];refine aw s8.box (some B,()) (ak ?_);rw [ay];refine aw G (x.name,()) (ak ?_);refine bf rfl ?_;rw [ay];refine aw s8.box ((d.p,d.l,d.c),()) (ak ?_);have hlb3:d.l=wi.lb.length:=by rw [s8.qW.1,ab9]
     refine UI s8.maps.n n x.name (w:=wi.lb.length) ad ?_;intro h9 m9 E z9;have x9:=s8.box.aj E ai;have me9:=s8.maps.e.aj E ai;have mg9:=s8.maps.g.aj E ai;have ls9:=s8.qW.bF E (fun j N=>by have:=(s8.qW.cw N).1; simp; omega);have b9:=G.aj E (by simp; omega);refine bf rfl ?_;rw [ay];refine aw x9 ((d.p,d.l,d.c),()) (ak ?_);refine aw b9 (x.name,()) (ak ?_);refine gz (e:=157) (z:=.agg #[vI 0,vI 0,vI 0,.string ⟨#[]⟩]) (sz:=4) (by':=40) Yi Zo rfl ad ad (OF _ _ _ _) rfl rfl ls9 ad ad ad (fun h' e=>⟨(b9.aj e ai).cells _ rfl,(x9.aj e ai).cells _ rfl,trivial⟩) ?_;intro p' c' h10 s10 A hp10;have O:∀ j,j<B+4->j∉aG d.p:=fun j h1 h2=>by have:=(s8.qW.cw h2).1; omega
     have nin2:∀ j,X.size<=j->j∉aG d.p:=fun j h1 h2=>by have:=(M.qW.cw h2).2; omega
     have b10:=b9.aj A (nin2 _ ad);have x10:=x9.aj A (O _ ad);refine ⟨⟨b10.cells _ rfl,trivial⟩,?_⟩;refine bf rfl ?_;rw [ay];refine bP x10 ?_;intro h11 x11 D z11;have x11:RL h11 (B+3) us ⟨p',d.l+1,c'⟩ B (B+1) (B+2) sp:=x11;rw [hw];have e611:Ext h0 h11:=Ch.trans (Ch.trans (bU (Q.trans t) E) A (fun j N hl=>by have:=(s8.qW.cw N).1; omega)) D (fun j N hl=>by simp at N; omega);have q56:h1.size<h3.size:=q3;have q36:h3.size<X.size:=P.lt;have d4:h1.size∉aG p'/\h3.size∉aG p':=by
      rcases hp10 with rfl | ⟨a',rfl,ha'⟩
      ·exact d3
      ·simp only [aG,List.mem_singleton]; omega
     refine aD (cs:=cF) (((i+1:Nat):Int),()) (sl.l-(i+1)) rfl ad rfl ⟨i+1,⟨p',d.l+1,c'⟩,rfl,ad,rfl,e611,?_,d4,?_,?_⟩
     ·rw [C,hp];refine ⟨x11,⟨(m9.aj A (O _ ad)).aj D ai,(me9.aj A (O _ ad)).aj D ai,(mg9.aj A (O _ ad)).aj D ai⟩,?_⟩;show SL h11 (B+4) 157 4 p' (d.l+1) c' ((wi.lb++[(⟨n,k,i,x.name⟩:Lb)]).map QH);rw [ao9];exact s10.bF D (fun j N=>by have:=(s10.cw N).1; simp; omega)
     ·exact ((bu8.aj E (by simp; omega)).aj A d3.1).aj D (by simp; omega)
     ·exact ((bs8.aj E (by simp; omega)).aj A d3.2).aj D (by simp; omega)
    ·have r:¬ x.kind=1:=by simpa using r
     have hp:jO n k i x wi=wi:=by unfold jO; rw [ac9 r]
     rw [hw];refine aD (cs:=cF) (((i+1:Nat):Int),()) (sl.l-(i+1)) rfl ad rfl ⟨i+1,d,rfl,ad,rfl,Q.trans t,by rw [C,hp]; exact s8,d3,bu8,bs8⟩
   ·have hi:i=xs.length:=ad
    subst hi;rw [bw9 (au9 _)] at M;have hw:=hY k;rw [hw];refine aD (cs:=cF) (((k+1:Nat):Int),()) (2-(k+1)) rfl ad rfl ⟨k+1,d,rfl,ad,rfl,Q,by rw [hwk]; exact M,d3,U,P⟩
  ·have hk:k=2:=ad
   subst hk;clear P;rw [ay];refine aw U ((F.p,F.l,F.c),()) (ak ?_);have ve:=hu.bg;have le:=ve.len;have hw2:I 2=iV n 1 0 u.data (iV n 0 0 u.text L):=rfl;have hne:∀ (i:Nat),(hi:i<u.bg.length)->(u.bg.take (i+1)).foldl (vL n) (I 2)=vL n ((u.bg.take i).foldl (vL n) (I 2)) (u.bg[i]'ad):=by
    intro i hi;rw [ag9 hi,cg9] <;> rfl
   refine aQ (cs:=cF) (fun y H h'=>∃ (i:Nat),y.1=(i:Int)/\i<=F.l/\H=F.l-i/\Ext h0 h'/\FH h' B us lb2 sp ((u.bg.take i).foldl (vL n) (I 2))) ((0:Int),()) F.l rfl
    ⟨0,rfl,ad,ad,e5,s5⟩ ?_
   clear e5 s5 U;rintro ⟨n30,⟨⟩⟩ H X ⟨i,hi,hil,rfl,Q,M⟩;simp only at hi;subst hi;refine ak ?_;refine aK ?_ ?_<;>intro q
   ·have J:i<u.bg.length:=ad
    obtain ⟨aa,pp,ll,cc,Y,K,Z,hsz⟩:=ve.cells i J;have hne:=hne i J;generalize u.bg[i]=x at K Z hsz hne;generalize hwi:(u.bg.take i).foldl (vL n) (I 2)=wi at *;refine bK Y ?_;rw [cr i];refine ar (x.1,(pp,ll,cc),(x.2.num:Int),()) (aI Q ai _ _ K) (ak ?_);refine bm ?_;intro h7 b7 e7 z7;refine bP b7 ?_;intro h8 G k8 z8;have G:br h8 X.size 116 [.string x.1,.slice pp ll cc,.int .u32 (x.2.num:Int)]:=G;have t:Ext X h8:=bU e7 k8;have s8:=M.aj t;have l6:=M.lt;have q6:=G.lt;refine bf rfl ?_;rw [ay];refine aw s8.box (some (B+1),()) (ak ?_);refine aw G (x.1,()) (ak ?_);refine bf rfl ?_;rw [ay];refine aw s8.box (some (B+1),()) (ak ?_);refine X8 s8.maps.e ?_;refine ⟨⟨G.cells _ rfl,s8.box.cells _ rfl,trivial⟩,?_⟩;refine UI s8.maps.e n x.1 (w:=wi.ne) rfl ?_;intro h9 m9 E z9;have hw:=hY i;rw [hw];refine aD (cs:=cF) (((i+1:Nat):Int),()) (F.l-(i+1)) rfl ad rfl ⟨i+1,rfl,ad,rfl,bU (Q.trans t) E,?_⟩;rw [hne];exact ⟨s8.box.aj E ai,⟨s8.maps.n.aj E ai,m9,s8.maps.g.aj E ai⟩,s8.qW.bF E (fun j N=>by have:=(s8.qW.cw N).1; simp; omega)⟩
   ·have hi:i=u.bg.length:=ad
    subst hi;rw [bw9 (au9 _)] at M;have hw:=hY n;rw [hw];refine aD (cs:=cF) (((n+1:Nat):Int),()) (l-(n+1)) rfl ad rfl ⟨n+1,lb2,rfl,ad,rfl,Q,?_⟩;rw [htk,C1,az9,bv9,db9 ad,hw1];exact M
 ·have hn:n=ye.length:=ad
  subst hn;rw [bw9 (au9 _)] at s1;exact ⟨rfl,lb1,s1,e1⟩
end
def wb (n:Nat) (w:LW) (s:Xaa):LW:={ w with gl:=dO w.gl s n,ng:=if (w.gl s).isSome then w.ng else w.ng+1 }
def G7 (n:Nat) (u:cg) (w:LW):LW:=u.aS.foldl (wb n) w
def ly:Nat->List cg->LW->Except (Nat × Xaa) LW
 | _,[],w=>.ok w
 | n,u::us,w=>match u.aS.find? fun g=>(w.gl g).isSome with
  | some g=>.error (n,g)
  | none=>ly (n+1) us (G7 n u w)
theorem QF (n:Nat):∀ (l:List Xaa) (w:LW),(l.foldl (wb n) w).lb=w.lb/\(l.foldl (wb n) w).num=w.num/\(l.foldl (wb n) w).nn=w.nn/\(l.foldl (wb n) w).sG=w.sG/\(l.foldl (wb n) w).ne=w.ne
 | [],w=>⟨rfl,rfl,rfl,rfl,rfl⟩
 | e::l,w=>by rw [br9]; exact QF n l _
section
variable {h0:Hp} {B:Nat} {us lb:bI} {sp:Int}
def LA {h:Hp} {w:LW} (hB:h0.size=B) (e0:Ext h0 h) (s:FH h B us lb sp w) {p:Xac} {l c:Nat} {ye:List cg} (v:xt h0 p l ye) (hnu:ye.length<=2^20) :
  HC Xaz 32 #[ptr (B+3),.slice p l c] h fun x h'=>Ext h0 h'/\match ly 0 ye w with
   | .error q=>x=.tuple #[.agg #[vI 22,vI (q.1:Int),.string q.2],.bool true]
   | .ok w'=>x=.tuple #[.agg #[vI 0,vI 0,.string ⟨#[]⟩],.bool false]/\FH h' B us lb sp w':=by
 refine aX (args:=[ptr (B+3),.slice p l c]) mixed Tryz.func32 av (oJ (some ⟨B+3,0,none⟩) p l c) ?_;unfold kJ aR aY bq aH bR bj aZ bZ aM ct;have hll:=v.len;generalize o:ly 0 ye w=M;refine bm ?_;intro h1 F Y z1;have l0:=s.lt;refine aQ (cs:=jP) (fun y z h'=>∃ (n:Nat) (w':LW),y.2.1=(n:Int)/\n<=l/\z=l-n/\Ext h0 h'/\FH h' B us lb sp w'/\br h' h.size 77 [vI 0,vI 0,.string ⟨#[]⟩]/\ly n (ye.drop n) w'=M) (false,(0:Int),()) l rfl
  ⟨0,w,rfl,ad,ad,e0.trans Y,s.aj Y,F,o⟩ ?_
 have z0:=e0.size;have R:∀ i,i∈aG lb.p->i<h.size:=fun i hi=>(s.qW.cw hi).2
 clear o s F;rintro ⟨b3,n4,⟨⟩⟩ z h2 ⟨n,w,hn,hnl,rfl,S,s,F,o⟩;simp only at hn;subst hn;refine ak ?_;have q1:=F.lt;refine aK ?_ ?_<;>intro q
 ·have H:n<ye.length:=ad
  obtain ⟨a,N,O,P,b,ha,hc,Z⟩:=v.cells n H;rw [aw9 H] at o;generalize ye[n]=u at hc Z o;refine bK ha ?_;rw [cr n];refine ar ((N.p,N.l,N.c),(O.p,O.l,O.c),(P.p,P.l,P.c),(b.p,b.l,b.c),()) (aI S ai _ _ hc) (ak ?_);refine bm ?_;intro h3 d e3 z3;refine bP d ?_;intro h4 I k4 z4;have I:br h4 h2.size 70 [N.v,O.v,P.v,b.v]:=I;have A:Ext h2 h4:=bU e3 k4;have e04:=S.trans A;have s4:=s.aj A;have b14:=F.aj A ai;have vg:=Z.aS;have lg:=vg.len;have mg:=vg.many;have q4:=I.lt;have l2:=s.lt;rw [ay];refine aw I ((b.p,b.l,b.c),()) (ak ?_);refine aQ (cs:=jP) (fun y z h'=>∃ (i:Nat),y.2.1=(i:Int)/\i<=b.l/\z=b.l-i/\h'=h4/\∀ j,(f:j<i)->(hx:j<u.aS.length)->(w.gl u.aS[j]).isSome=false) (b3,(0:Int),()) b.l rfl
   ⟨0,rfl,ad,ad,rfl,by intro j f; omega⟩ ?_
  rintro ⟨J,n23,⟨⟩⟩ z h5 ⟨i,hi,hil,rfl,rfl,C⟩;simp only at hi;subst hi;refine ak ?_;refine aK ?_ ?_<;>intro q
  ·have k:i<u.aS.length:=ad
   obtain ⟨aa,D,t,E⟩:=vg.cells i k;refine bK D ?_;rw [cr i];refine ar (u.aS[i],()) (aI e04 ai _ _ t) (ak ?_);refine bf rfl ?_;rw [ay];refine aw s4.box (some (B+2),()) (ak ?_);refine EB s4.maps.g u.aS[i] ?_;refine ao ?_ ?_<;>intro r
   ·refine bP b14 ?_;intro h6 U k6 z6;have U:br h6 h.size 77 [vI 22,vI (n:Int),.string u.aS[i]]:=U;refine aw U ((22:Int),(n:Int),u.aS[i],()) ?_;have hf:M=.error (n,u.aS[i]):=by
     rw [<- o,ly,lS _ u.aS i k (fun j f=>C j f ad) r]
    subst hf;exact ⟨bU e04 k6,rfl⟩
   ·have hw:=hY i;rw [hw];refine aD (cs:=jP) (J,((i+1:Nat):Int),()) (b.l-(i+1)) rfl ad rfl ⟨i+1,rfl,ad,rfl,rfl,fun j f hx=>?_⟩
    by_cases V:j=i
    ·subst V; exact r
    ·exact C j ad hx
  ·have hi:i=u.aS.length:=ad
   subst hi;have W:ly (n+1) (ye.drop (n+1)) (G7 n u w)=M:=by
    rw [<- o,ly,oM _ u.aS (fun j f=>C j f f)]
   refine aw I ((b.p,b.l,b.c),()) (ak ?_);refine aQ (cs:=cF) (fun y z h'=>∃ (i:Nat),y.1=(i:Int)/\i<=b.l/\z=b.l-i/\Ext h0 h'/\FH h' B us lb sp ((u.aS.take i).foldl (wb n) w)/\br h' h.size 77 [vI 0,vI 0,.string ⟨#[]⟩]) ((0:Int),()) b.l rfl
    ⟨0,rfl,ad,ad,e04,s4,b14⟩ ?_
   clear s4 b14;rintro ⟨n27,⟨⟩⟩ z h6 ⟨i,hi,hil',rfl,X,m,K⟩;simp only at hi;subst hi;refine ak ?_;refine aK ?_ ?_<;>intro q
   ·have k:i<u.aS.length:=ad
    obtain ⟨aa,D,t,E⟩:=vg.cells i k;have L:(u.aS.take (i+1)).foldl (wb n) w=wb n ((u.aS.take i).foldl (wb n) w) u.aS[i]:=by
     rw [ag9 k,cg9] <;> rfl
    generalize u.aS[i]=x at t E L;generalize (u.aS.take i).foldl (wb n) w=wi at *;refine bK D ?_;rw [cr i];refine ar (x,()) (aI X ai _ _ t) (ak ?_);refine bf rfl ?_;rw [ay];refine aw m.box (some (B+2),()) (ak ?_);have l6:=m.lt;refine rQ m.maps.g E (w:=n) rfl ?_;intro h7 m7 G z7;have hw:=hY i;rw [hw];refine aD (cs:=cF) (((i+1:Nat):Int),()) (b.l-(i+1)) rfl ad rfl ⟨i+1,rfl,ad,rfl,bU X G,?_,K.aj G (by simp; omega)⟩;rw [L];exact ⟨m.box.aj G ai,⟨m.maps.n.aj G ai,m.maps.e.aj G ai,m7⟩,m.qW.bF G (fun j f=>by have:=(m.qW.cw f).1; simp; omega)⟩
   ·have hi:i=u.aS.length:=ad
    subst hi;rw [bw9 (au9 _)] at m;have hw:=hY n;rw [hw];exact aD (cs:=jP) (J,((n+1:Nat):Int),()) (l-(n+1)) rfl ad rfl ⟨n+1,_,rfl,ad,rfl,X,m,K,W⟩
 ·have hn:n=ye.length:=ad
  subst hn;rw [ep9 (au9 _)] at o;subst o;refine bP F ?_;intro h3 d Q z3;have d:br h3 h.size 77 [vI 0,vI 0,.string ⟨#[]⟩]:=d;refine aw d ((0:Int),(0:Int),(⟨#[]⟩:Xaa),()) ?_;refine ⟨bU S Q,rfl,?_⟩;exact ⟨s.box.aj Q (by simp; omega),s.maps.aj Q (by simp; omega) (by simp; omega) (by simp; omega),s.qW.bF Q (fun j f=>by have:=R j f; simp; omega)⟩
end
end Go.Sx.Lk
namespace Go.Sx.Ob
open Go.Proofs
def Xr (x:cz):Bool:=decide (x.kind=2) && tN x.inst.op
def km (l:List cz):Nat:=(l.filter Xr).length
def Jq (l:List cz) (i:Nat) (hi:i<l.length):km (l.take (i+1))=km (l.take i)+if Xr l[i]=true then 1 else 0:=by
 unfold km;rw [ag9 hi,List.filter_append,ae9]
 congr 1
 by_cases hk:Xr l[i]=true <;> simp [hk]
def AG (l:List cz):km l<=l.length:=do9 _ _
def LL {h:Hp} (t:yx h) {a b c d:bI} {u:cg} (v:uA h a b c d u):HC Xaz 36 #[F5 a b c d] h fun w h'=>w=vI ((if ft u=0 then km u.text else 0:Nat):Int)/\Ext h h':=by
 refine aX (args:=[F5 a b c d]) mixed Tryz.func36 av (zO a.p a.l a.c b.p b.l b.c c.p c.l c.c d.p d.l d.c) ?_;unfold xd aR aY bq aH aT cE aC aZ bZ aM;refine bm ?_;intro h1 j o z1;have j:br h1 h.size 70 [a.v,b.v,c.v,d.v]:=j;refine aw j ((a.p,a.l,a.c),(b.p,b.l,b.c),(c.p,c.l,c.c),(d.p,d.l,d.c),()) (ak ?_);refine aE (wW (t.aj o ai) (v.aj o)) ?_;rintro _ h2 ⟨rfl,B⟩;refine ⟨((ft u:Int),()),rfl,ak ?_⟩;have e02:=o.trans B;refine ao ?_ ?_<;>intro r
 ·have r:¬ ft u=0:=by simpa using r
  rw [ac9 r];exact ⟨rfl,e02⟩
 have r:ft u=0:=by simpa using r
 rw [af9 r];have b2:=j.aj B ai;refine aw b2 ((a.p,a.l,a.c),()) (ak ?_);have n:=v.text.len;have m1:=v.text.many;refine aQ (cs:=fH) (fun y m h'=>∃ i:Nat,y.2.1=(i:Int)/\y.1=(km (u.text.take i):Int)/\m=u.text.length-i/\i<=u.text.length/\Ext h h') ((0:Int),(0:Int),()) u.text.length rfl
  ⟨0,rfl,rfl,rfl,ad,e02⟩ ?_
 rintro ⟨L,M,⟨⟩⟩ m g ⟨i,hi,hn,rfl,F,z⟩;simp only at hi hn;subst hi hn;refine ak ?_;refine aK ?_ ?_<;>intro q
 ·have f:i<u.text.length:=ad
  obtain ⟨N,pp,C,D,rfl',hc,A⟩:=(v.text.aj z).cells i f;have ht:=Jq u.text i f;have G:km (u.text.take i)<=i:=by have:=AG (u.text.take i); rw [az9] at this; omega
  generalize u.text[i]=x at hc A ht;refine gR (bf rfl' ?_);rw [cr i];refine ar (x.kind,x.name,x.inst.op,x.inst.a,x.inst.b,x.inst.n,x.inst.form,(pp,C,D),(x.e.num:Int),x.n,()) hc (ak ?_);refine bm ?_;intro O H I P;refine bP H ?_;intro g2 k J Q;have k:br g2 g.size 55 (encI pp C D x):=k;have K:Ext g g2:=bU I J;have eg2:=z.trans K;refine aw k (x.kind,()) (ak ?_);refine ao ?_ ?_<;>intro r
  ·have r:x.kind=2:=by simpa using r
   rw [ay];refine aw k (x.inst.op,()) (ak ?_);refine aE (GZ (t.aj eg2 ai) x.inst.op A.op.1 A.op.2) ?_;rintro _ R ⟨rfl,E⟩;refine ⟨(tN x.inst.op,()),rfl,ak ?_⟩;refine ao ?_ ?_<;>intro s
   ·rw [af9 (by unfold Xr; rw [ai9 r,s]; rfl)] at ht;refine aD (cs:=fH) (((km (u.text.take i)+1:Nat):Int),((i+1:Nat):Int),()) (u.text.length-(i+1)) rfl ad (by rw [wrap_i64 ad ad,wrap_i64 ad ad]; rfl) ?_;exact ⟨i+1,rfl,by rw [ht],rfl,ad,eg2.trans E⟩
   ·rw [ac9 (by unfold Xr; rw [ai9 r,s]; decide)] at ht;refine aD (cs:=fH) ((km (u.text.take i):Int),((i+1:Nat):Int),()) (u.text.length-(i+1)) rfl ad (by rw [wrap_i64 ad ad]; rfl) ?_;exact ⟨i+1,rfl,by rw [ht]; rfl,rfl,ad,eg2.trans E⟩
  ·have r:¬ x.kind=2:=by simpa using r
   rw [ac9 (by unfold Xr; rw [aj9 r]; simp)] at ht;refine aD (cs:=fH) ((km (u.text.take i):Int),((i+1:Nat):Int),()) (u.text.length-(i+1)) rfl ad (by rw [wrap_i64 ad ad]; rfl) ?_;exact ⟨i+1,rfl,by rw [ht]; rfl,rfl,ad,eg2⟩
 ·have:i=u.text.length:=ad
  subst this;rw [bl9];exact ⟨rfl,z⟩
end Go.Sx.Ob
namespace Go.Sx.Lk
open Go.Proofs Go.Sx.Ob
variable {fs:List cT}
structure kZ where
 s:bI
 ws:List (bI × cz)
def YI:kZ:=⟨nv,[]⟩
structure nB (h:Hp) (b:Nat) (x:kZ):Prop where
 out:SL h b 55 10 x.s.p x.s.l x.s.c (x.ws.map tY)
 fx:∀ u,u∈x.ws->SL h b 64 2 u.1.p u.1.l u.1.c (u.2.e.ah.map df)
variable {O:Hp} {H U V:Nat}
def nB.aj {h':Hp} {x:kZ} {ws:List Nat} (s:nB O H x) (k:Ch ws O h') (h1:∀ i,i∈aG x.s.p->i∉ws) (h2:∀ u,u∈x.ws->∀ i,i∈aG u.1.p->i∉ws):nB h' H x :=
 ⟨s.out.bF k h1,fun u a=>(s.fx u a).bF k (h2 u a)⟩
def nB.ext {h':Hp} {x:kZ} (s:nB O H x) (k:Ext O h'):nB h' H x:=s.aj k ai ai
def nB.mono {h:Hp} {b b':Nat} {x:kZ} (s:nB h b x) (a:b'<=b):nB h b' x:=⟨s.out.mono a,fun u c=>(s.fx u c).mono a⟩
structure lV (h:Hp) (b N:Nat) (S:Nat->kZ):Prop where
 sec:∀ k,k<N->nB h b (S k)
 ap:∀ k j,k<N->j<N->k≠j->∀ x,x∈aG (S k).s.p->x∉aG (S j).s.p
def lV.ext {h h':Hp} {b N:Nat} {S:Nat->kZ} (s:lV h b N S) (k:Ext h h'):lV h' b N S:=⟨fun j a=>(s.sec j a).ext k,s.ap⟩
def lV.nH {h':Hp} {S:Nat->kZ} {ws:List Nat} (s:lV O H U S) (k:Ch ws O h') (d:∀ i,i∈ws->i<H):lV h' H U S :=
 ⟨fun j a=>(s.sec j a).aj k (fun i hi c=>by have:=((s.sec j a).out.cw hi).1; have:=d i c; omega) (fun u e i hi c=>by have:=(((s.sec j a).fx u e).cw hi).1; have:=d i c; omega),s.ap⟩
variable {Y:Xac}
def lV.sM {h':Hp} {S:Nat->kZ} {e:TypeId} {sz l c:Nat} {xs:List (List Xab)} (s:lV O H U S) (t:SL O V e sz Y l c xs) (k:Ch (aG Y) O h') (h1:e≠55) (h2:e≠64):lV h' H U S :=
 ⟨fun j a=>(s.sec j a).aj k (fun i hi d=>wo t (s.sec j a).out h1 i d hi) (fun u f i hi d=>wo t ((s.sec j a).fx u f) h2 i d hi),s.ap⟩
def lP (S:Nat->kZ) (k:Nat) (x:kZ):Nat->kZ:=fun j=>if j=k then x else S j
def lV.nil (h:Hp) (b:Nat) (S:Nat->kZ):lV h b 0 S:=⟨fun k hk=>absurd hk ad,fun k j hk=>absurd hk ad⟩
variable {Z:Nat->kZ}
def lV.add {h':Hp} (s:lV O H U Z) (e:Ext O h') (l:H<=O.size) {x:kZ} (g:nB h' O.size x):lV h' H (U+1) (lP Z U x):=by
 have s':=s.ext e;refine ⟨fun k hk=>?_,fun k j hk m i y d a=>?_⟩
 ·unfold lP
  by_cases c:k=U
  ·rw [af9 c]; exact g.mono l
  ·rw [ac9 c]; exact s'.sec k ad
 ·unfold lP at d a
  by_cases c:k=U <;> by_cases f:j=U
  ·omega
  ·rw [af9 c] at d;rw [ac9 f] at a;have h1:=(g.out.cw d).1;have h2:=((s.sec j ad).out.cw a).2;omega
  ·rw [ac9 c] at d;rw [af9 f] at a;have h1:=(g.out.cw a).1;have h2:=((s.sec k ad).out.cw d).2;omega
  ·rw [ac9 c] at d;rw [ac9 f] at a;exact s.ap k j ad ad i y d a
def lV.put {h':Hp} (s:lV O H U Z) (hk:V<U) {i:Nat} (hi:i<(Z V).ws.length) {q:bI × cz} (A:SL O H 64 2 q.1.p q.1.l q.1.c (q.2.e.ah.map df))
  (B:SL h' H 55 10 (Z V).s.p (Z V).s.l (Z V).s.c (((Z V).ws.set i q).map tY)) (c:Ch (aG (Z V).s.p) O h'):lV h' H U (lP Z V ⟨(Z V).s,(Z V).ws.set i q⟩):=by
 have d:∀ {p:Xac} {l c:Nat} {ts:dm},SL O H 64 2 p l c (ts.map df)->SL h' H 64 2 p l c (ts.map df):=fun t=>t.bF c (fun x r f=>wo t (s.sec V hk).out bQ x r f)
 refine ⟨fun j g=>?_,fun j m g f w y z n=>?_⟩
 ·unfold lP
  by_cases a:j=V
  ·rw [af9 a];refine ⟨B,fun u o=>?_⟩;rcases di9 o with o | rfl
   ·exact d ((s.sec V hk).fx u o)
   ·exact d A
  ·rw [ac9 a];exact ⟨(s.sec j g).out.bF c (fun x r f=>s.ap j V g hk a x r f),fun u o=>d ((s.sec j g).fx u o)⟩
 ·have C:∀ j,(lP Z V ⟨(Z V).s,(Z V).ws.set i q⟩ j).s=(Z j).s:=by
   intro j;unfold lP
   by_cases a:j=V
   ·rw [af9 a,a]
   ·rw [ac9 a]
  rw [C] at z n;exact s.ap j m g f w y z n
def yH (S:Nat->kZ) (n:Nat):List Xab:=[(S (2*n)).s.v,(S (2*n+1)).s.v,nv.v,nv.v]
def nE (S:Nat->kZ) (n:Nat):List (List Xab):=(List.range n).map (yH S)
def Jh (S:Nat->kZ) (n:Nat) (a b:kZ):nE (lP (lP S (2*n) a) (2*n+1) b) (n+1)=nE S n++[[a.s.v,b.s.v,nv.v,nv.v]]:=by
 unfold nE;rw [fr9,ao9]
 congr 1
 ·apply ci9;intro i hi;have hi:i<n:=du9.1 hi;unfold yH lP;rw [ac9 ad,ac9 ad,ac9 ad,ac9 ad]
 ·show [yH _ n]=_;unfold yH lP;rw [ac9 ad,af9 rfl,af9 rfl]
def jS (S:Nat->kZ) (n:Nat):(nE S n).length=n:=by unfold nE; simp
def DM (S:Nat->kZ) (n i:Nat) (hi:i<(nE S n).length):(nE S n)[i]=yH S i:=by
 have:i<n:=by simpa [jS] using hi
 show ((List.range n).map (yH S))[i]'(by simpa using this)=_;rw [am9,List.getElem_range]
def eY (D:List (Xaa × bJ)):List cT:=D.map fun q=>⟨q.1,none,0,0,q.2⟩
def fD (e:cT):Xaa × bJ:=(e.name,e.x)
def qx (D:List (Xaa × bJ)):(eY D).map fD=D:=by
 unfold eY;rw [bf9];exact List.map_id _
def Mo {es:List cT} (h:es.map fD=fs.map fD):aU es=aU fs:=by
 have:=aq9 (List.map (·.1)) h
 rw [bf9,bf9] at this;exact this
def Kh {es:List cT} (h:es.map fD=fs.map fD) (s:Xaa):kW es s=kW fs s:=by
 unfold kW;have a:∀ l:List cT,l.findIdx? (fun e=>decide (e.name=s))=(l.map fD).findIdx? fun q=>decide (q.1=s):=by
  intro l;rw [fi9] <;> rfl
 rw [a,a,h]
def D7 {es:List cT} (h:es.map fD=fs.map fD):cC es=cC fs:=by
 funext s
 unfold cC;rw [Kh h]
def D6 {es:List cT} (h:es.map fD=fs.map fD):du es=du fs:=by
 funext s
 unfold du;rw [Kh h];cases kW fs s with
 | none=>rfl
 | some k =>
  have a:es[k]?.map (·.x)=fs[k]?.map (·.x):=by
   have h1:(es.map fD)[k]?=(fs.map fD)[k]?:=by rw [h]
   rw [ch9,ch9] at h1;have h2:=aq9 (Option.map (·.2)) h1;rw [Option.map_map,Option.map_map] at h2;exact h2
  show (es[k]?.map (·.x)).getD vf=(fs[k]?.map (·.x)).getD vf;rw [a]
def KO {es:List cT} (h:es.map fD=fs.map fD):fl es=fl fs:=by
 funext s
 unfold fl;rw [D7 h,D6 h,Mo h]
def Cd {es:List cT} (h:es.map fD=fs.map fD):dA es=dA fs:=by
 unfold dA;rw [D7 h,D6 h]
def jg (D:List (Xaa × bJ)):List (Xaa × bJ):=D.map fun q=>(q.1,fl (eY D) q.1)
def oi (D:List (Xaa × bJ)) (x:bJ):bJ:=dr (cD (eY D)) x
def Hd {es:List cT} (h:es.map fD=fs.map fD):cD es=cD fs:=by
 funext s
 unfold cD;rw [D7 h,D6 h]
def eF:Nat->List cg->List (Nat × sO)
 | _,[]=>[]
 | n,u::us=>u.bg.map (fun e=>(n,e))++eF (n+1) us
theorem sg (u:cg):∀ (l:List cg) (n:Nat),eF n (l++[u])=eF n l++u.bg.map fun e=>(n+l.length,e)
 | [],n=>by simp [eF]
 | y::l,n=>by
  simp only [List.cons_append,eF,List.length_cons];rw [sg u l (n+1),show n+1+l.length=n+(l.length+1) from ad,bb9]
def oo (w:LW) (us:List cg):List (Xaa × bJ):=(eF 0 us).map fun q=>(w.word (q.1,q.2.1),w.lin q.1 q.2.2)
def sq (w:LW) (n:Nat) (u:cg):Option Xaa:=(w.zJ n u.text).or ((w.zJ n u.data).or (u.bg.findSome? fun e=>w.bad n e.2))
def fK (w:LW):Nat->List cg->Option (Nat × Xaa)
 | _,[]=>none
 | n,u::us=>match sq w n u with
  | some s=>some (n,s)
  | none=>fK w (n+1) us
def By (w:LW) (us:List cg) (n:Nat) (hn:n<us.length):fK w n (us.drop n)=match sq w n us[n] with
  | some s=>some (n,s)
  | none=>fK w (n+1) (us.drop (n+1)):=by
 rw [aw9 hn,fK]
noncomputable def ma (D:List (Xaa × bJ)):Option Nat:=by
 classical
 exact D.findIdx? fun q=>decide (kV (dA (eY D)) q.1)
structure Fl where
 rA:Nat
 unit:Nat
 name:Xaa
structure LP where
 w:LW
 us:List cg
 D:List (Xaa × bJ)
def LP.fy (P:LP) (n:Nat) (x:cz):cz:={ x with e:=oi (jg P.D) (P.w.lin n x.e) }
noncomputable def mP (us:List cg):Except Fl LP :=
 if us.length=0 then .error ⟨25,0,dS⟩
 else if 64<us.length then .error ⟨4,0,dS⟩
 else match us.findIdx? fun u=>decide (ft u≠0) with
 | some n=>.error ⟨31,n,dS⟩
 | none=>match ly 0 us (nU 0 us UE) with
  | .error q=>.error ⟨22,q.1,q.2⟩
  | .ok w=>match fK w 0 us with
   | some q=>.error ⟨23,q.1,q.2⟩
   | none=>match ma (oo w us) with
    | some i=>.error ⟨24,((eF 0 us).map fun q=>(q.1,q.2.1)).getD i (0,dS) |>.1,((eF 0 us).map fun q=>(q.1,q.2.1)).getD i (0,dS) |>.2⟩
    | none=>.ok ⟨w,us,oo w us⟩
def cO (u:cg):List bJ:=u.text.map (·.e)++u.data.map (·.e)++u.bg.map (·.2)
def HF {x:bJ} (h:RJ x=true):Good x:=by
 unfold RJ at h;simp only [Bool.and_eq_true,decide_eq_true_eq] at h;obtain ⟨t,n⟩:=x;obtain ⟨rfl,rfl⟩:=h;exact ⟨⟨List.Pairwise.nil,ai⟩,ai,bQ⟩
def Hw {x:cz} (h:cG x H=true) (hc:∀ t,t∈x.e.ah->t.2<4294967296) (hn:x.e.num<4294967296):Good x.e:=by
 have z:z3 x=true->Good x.e:=HF;unfold cG at h
 repeat' split at h
 all_goals try simp only [Bool.and_eq_true] at h
 ·exact z h.1.2
 ·have h1:=h.1.1.2;unfold AA at h1;simp only [Bool.and_eq_true] at h1;have h2:=h1.2;split at h2
  ·simp only [Bool.and_eq_true] at h2;exact E0 h2.2 hc hn
  ·simp only [Bool.and_eq_true] at h2;exact HF h2.2
 ·exact z h.2
 ·exact z h.1.2
 ·exact z h.2
 ·exact E0 h.1.1.1.2 hc hn
 ·exact z h.2
 ·cases h
theorem sD {sec:Nat}:∀ {l:List cz} {D:List Xaa},fj sec D l=true->∀ x,x∈l->cG x sec=true
 | [],_,_,x,a=>by simp at a
 | y::l,D,h,x,a=>by
  unfold fj at h;rw [bk9] at h;rcases bd9.1 a with rfl | a
  ·have:=h.1
   unfold yO at this;rw [bk9] at this;exact this.1
  ·exact sD h.2 x a
theorem uK:∀ {l:List sO} {D:List Xaa},gQ D l=true->∀ e,e∈l->cB e.1.data.toList=true/\oz none e.2.ah=true
 | [],_,_,x,a=>by simp at a
 | y::l,D,h,x,a=>by
  unfold gQ at h;rw [bk9] at h;rcases bd9.1 a with rfl | a
  ·have:=h.1
   unfold DO at this;simp only [Bool.and_eq_true] at this;exact ⟨this.1.2,this.2⟩
  ·exact uK h.2 x a
variable {a:cg}
def BP (h:ft a=0) (hc:∀ x,x∈cO a->x.num<4294967296/\∀ t,t∈x.ah->t.2<4294967296):∀ x,x∈cO a->Good x:=by
 have h1:=(A0 h).2;unfold xj at h1;simp only [Bool.and_eq_true] at h1;obtain ⟨⟨⟨h1,h2⟩,d⟩,e⟩:=h1;intro x b;have hcx:=hc x b;unfold cO at b;rcases as9.1 b with b | b
 ·rcases as9.1 b with b | b
  ·obtain ⟨y,c,rfl⟩:=an9.1 b;exact Hw (sD h1 y c) hcx.2 hcx.1
  ·obtain ⟨y,c,rfl⟩:=an9.1 b;exact Hw (sD h2 y c) hcx.2 hcx.1
 ·obtain ⟨y,c,rfl⟩:=an9.1 b;exact E0 (uK d y c).2 hcx.2 hcx.1
structure H3 (us:List cg):Prop where
 many:us.length<=2^20
 items:vN us<=2^20
 num:∀ u,u∈us->∀ x,x∈cO u->x.num<4294967296/\∀ t,t∈x.ah->t.2<4294967296
 ah:((us.flatMap cO).flatMap (·.ah)).length<=2^20
variable {b:bJ}
def H3.len {us:List cg} (s:H3 us) (c:a∈us) (d:b∈cO a):b.ah.length<=2^20:=by
 have h1:b∈us.flatMap cO:=ei9.2 ⟨a,c,d⟩;exact cn9 (ir (·.ah) h1) s.ah
def JN (of:Xaa->Option bJ) (t:Xaa × Nat):bJ:=match of t.1 with
 | none=>⟨[t],0⟩
 | some y=>vG y t.2
def gb (of:Xaa->Option bJ) (o:bJ) (t:Xaa × Nat):bJ:=j1 o (JN of t)
variable {c:dm}
def KF (l:dm) {k:dm} (hk:Nf k) (hc:∀ s,cf k s % 4294967296=cf c s % 4294967296):GB (FE l) k=FE (l++c) :=
 (E4 (Bh l) hk).Mz (Bh _) fun s=>by
  have h1:=hc s;have h2:=EZ (FE l) k s;have h3:=BX l s;have h4:=BX (l++c) s;rw [C2] at h4;omega
theorem C7 {of:Xaa->Option bJ} (a:∀ s y,of s=some y->Nf y.ah):∀ (ts l:dm) (n:Nat),n<4294967296->(∀ t,t∈ts->t.2≠0/\t.2<4294967296) ->
  ts.foldl (gb of) ⟨FE l,n⟩=⟨FE (l++ts.flatMap (sE of)),ts.foldl (gC of) n⟩
 | [],l,n,_,_=>ai
 | t::ts,l,n,hn,ht=>by
  have h1:gb of ⟨FE l,n⟩ t=⟨FE (l++sE of t),gC of n t⟩/\gC of n t<4294967296:=by
   have ht0:=ht t ai;unfold gb JN sE gC j1;cases b:of t.1 with
   | none =>
    refine ⟨?_,hn⟩;simp only [Nat.add_zero];rw [dw9 hn]
    congr 1
    exact KF l ⟨ai,by simpa using ht0⟩ fun s=>rfl
   | some y =>
    refine ⟨?_,fs9 _ bQ⟩;unfold vG;simp only;rw [fn9 y.num t.2]
    congr 1
    refine KF l (Ly (a _ _ b)) fun s=>?_
    rw [MG]
    have:=EK t.2 y.ah s
    rw [<- this]
    congr 2
    exact ci9 fun p _=>by rw [fn9]
  rw [br9,h1.1,C7 a ts _ _ h1.2 (fun u c=>ht u (ap9 _ c)),bb9,cd9,br9]
def XZ:FE []=[]:=Gn Nf.nil
def Fk {of:Xaa->Option bJ} (a:∀ s y,of s=some y->Nf y.ah) {x:bJ} (b:Nf x.ah) (hn:x.num<4294967296):x.ah.foldl (gb of) ⟨[],x.num⟩=dr of x:=by
 have:=C7 a x.ah [] x.num hn b.2
 rw [dc9,XZ] at this;exact this
def CD {of:Xaa->Option bJ} (a:∀ s y,of s=some y->Nf y.ah) {x:bJ} (b:Nf x.ah) (hn:x.num<4294967296) (i:Nat):(x.ah.take i).foldl (gb of) ⟨[],x.num⟩=dr of ⟨x.ah.take i,x.num⟩ :=
 Fk (x:=⟨x.ah.take i,x.num⟩) a ⟨b.1.sublist (List.take_sublist _ _),fun t ht=>b.2 t (cy9 ht)⟩ hn
def AW {of:Xaa->Option bJ} {t:Xaa × Nat} (ht:t∈(dr of b).ah):∃ u,u∈b.ah/\((of u.1=none/\t.1=u.1)\/∃ y w,of u.1=some y/\w∈y.ah/\w.1=t.1):=by
 obtain ⟨p,e,c⟩:=Fx ht;obtain ⟨u,f,a⟩:=ei9.1 e;refine ⟨u,f,?_⟩;unfold sE at a;cases d:of u.1 with
 | none =>
  rw [d] at a;simp only [List.mem_singleton] at a;exact Or.inl ⟨rfl,by rw [<- c,a]⟩
 | some y =>
  rw [d] at a;obtain ⟨w,g,rfl⟩:=an9.1 a;exact Or.inr ⟨y,w,rfl,g,c⟩
def AX (h:Nf c) {S:List Xaa} (b:∀ t,t∈c->t.1∈S):c.length<=S.length:=by
 have:=kb (c.map (·.1)) S (cp9.2 (h.1.imp fun h=>jT h)) (fun s a=>by
  obtain ⟨t,ht,rfl⟩:=an9.1 a;exact b t ht)
 rwa [ab9] at this
def Ty:Option Nat->Int
 | none=>-1
 | some k=>(k:Int)
def Wo {es:List cT} {s:Xaa} {i:Nat} (hi:i<es.length) (h:∀ j,(a:j<i)->(es[j]'ad).name≠s) (b:es[i].name=s):kW es s=some i:=by
 unfold kW;rw [be9];exact ⟨hi,ai9 b,fun j a=>by simpa using h j a⟩
def GN {es:List cT} (v:uS O Y H es) (hl:es.length<=2^60) (s:Xaa):uo Xaz 101 [.slice Y H U,.string s] O (vI (Ty (kW es s))):=by
 refine eX mixed Tryz.func101 av (oF Y H U s) ?_;unfold kM aR aY bq aH aM;have n:=v.len;refine aQ (cs:=fH) (fun y m h'=>∃ i:Nat,y.2.1=(i:Int)/\m=es.length-i/\i<=es.length/\h'=O/\∀ j,j<i->(b:j<es.length)->es[j].name≠s) ((0:Int),(0:Int),()) es.length rfl
  ⟨0,rfl,rfl,ad,rfl,fun j b=>absurd b ad⟩ ?_
 rintro ⟨g,w,⟨⟩⟩ m h' ⟨i,hi,rfl,k,rfl,hn⟩;simp only at hi;subst hi;refine ak ?_;refine aK ?_ ?_<;>intro q
 ·have f:i<es.length:=ad
  obtain ⟨a,o,hc⟩:=v.cells i f;refine bK o ?_;rw [cr i];refine ar (es[i].name,()) ⟨hc.1,trivial⟩ (ak ?_);rw [rG];refine aK ?_ ?_<;>intro r
  ·refine ⟨aq9 (Value.int .i64) ?_,rfl⟩;rw [Wo f (fun j b=>hn j b ad) r] <;> rfl
  ·refine aD (cs:=fH) (g,((i+1:Nat):Int),()) (es.length-(i+1)) rfl ad (by rw [wrap_i64 ad ad]; rfl) ?_;exact ⟨i+1,rfl,rfl,ad,rfl,fun j b t=>by
    by_cases e:j=i
    ·subst e; exact r
    ·exact hn j ad t⟩
 ·have:i=es.length:=ad
  subst this;refine ⟨aq9 (Value.int .i64) ?_,rfl⟩;rw [Ht fun d u=>by
   obtain ⟨j,b,rfl⟩:=bg9 u;exact hn j b b]
  rfl
end Go.Sx.Lk
namespace Go.Sx
open Go.Proofs
def Z8 (a b:Xaa):Op.bytesLess (ByteArray.toList a) (ByteArray.toList b)=decide (iB a b):=by
 rw [ByteArray.toList_eq,ByteArray.toList_eq,Proofs.bytesLess_eq] <;> rfl
def Wf (h:Hp) (a:Nat) (x y:dm) (N:Int) (i j:Nat) (h':Hp):Prop :=
 i<=x.length/\j<=y.length/\Ch [a] h h'/\∃ O p l c f,br h' a 53 [.slice p l c,.int .u32 N]/\SL h' h.size 64 2 p l c (O.map df)/\GB x y=O++fF f (x.drop i) (y.drop j)/\(x.length-i)+(y.length-j)<=f/\O.length<=i+j
def NJ (f:Nat):fF f [] []=[]:=by cases f <;> rfl
variable {H:Nat} {U:Xaa × Nat} {O V:dm}
def Vz {y:dm} (h:y=[]\/∃ q r,y=q::r/\iB U.1 q.1):fF (H+1) (U::O) y=U::fF H O y:=by
 rcases h with rfl | ⟨q,r,rfl,h⟩
 ·rfl
 ·show (if iB U.1 q.1 then _ else _)=_;rw [af9 h]
def V1 {y:dm} (h:O=[]\/∃ p r,O=p::r/\iB U.1 p.1):fF (H+1) O (U::y)=U::fF H O y:=by
 rcases h with rfl | ⟨p,r,rfl,h⟩
 ·rfl
 ·show (if iB p.1 U.1 then _ else if iB U.1 p.1 then _ else _)=_;rw [ac9 (Dk h),af9 h]
def R7 {q:Xaa × Nat} {y:dm} (h1:¬ iB U.1 q.1) (h2:¬ iB q.1 U.1):fF (H+1) (U::O) (q::y)=if (U.2+q.2) % 4294967296=0 then fF H O y else (U.1,(U.2+q.2) % 4294967296)::fF H O y:=by
 show (if iB U.1 q.1 then _ else if iB q.1 U.1 then _ else _)=_;rw [ac9 h1,ac9 h2]
def Zg:dm->dm->Bool
 | [],_=>false
 | _::_,[]=>true
 | p::_,q::_=>decide (iB p.1 q.1)
def Gu (h:Zg O V=true):∃ p r,O=p::r/\(V=[]\/∃ q s,V=q::s/\iB p.1 q.1):=by
 cases O with
 | nil=>cases h
 | cons p r =>
  cases V with
  | nil=>exact ⟨p,r,rfl,.inl rfl⟩
  | cons q s=>exact ⟨p,r,rfl,.inr ⟨q,s,rfl,ah9 h⟩⟩
def DV (h:Zg O V=false):O=[]\/∃ p r q s,O=p::r/\V=q::s/\¬ iB p.1 q.1:=by
 cases O with
 | nil=>exact .inl rfl
 | cons p r =>
  cases V with
  | nil=>cases h
  | cons q s=>exact .inr ⟨p,r,q,s,rfl,rfl,ar9 h⟩
def Ac {α:Type} {l r:List α} {p:α} (h:l.drop H=p::r):H<l.length:=by
 rcases cj9 H l.length with h1 | h1
 ·exact h1
 ·rw [cc9 h1] at h; cases h
def Gw {h:Hp} {p q:Xac} {c m d:Nat} {x y:bJ} (v:ik h p H x.ah) (u:ik h q m y.ah) (hp:∀ i,i∈aG p->i<h.size) (hq:∀ i,i∈aG q->i<h.size)
  (hl:x.ah.length+y.ah.length<=2^40) :
  HC Xaz 74 #[gU p H c x,gU q m d y] h fun w h'=>Ext h h'/\∃ p' l' c',w=gU p' l' c' (j1 x y)/\SL h' h.size 64 2 p' l' c' ((j1 x y).ah.map df):=by
 refine aX (args:=[.agg #[.slice p H c,.int .u32 x.num],.agg #[.slice q m d,.int .u32 y.num]]) mixed Tryz.func74 av (rn p H c x.num q m d y.num) ?_;unfold mJ aR aY bq aH bd aC aZ aM ct;have hll:=v.len;have hmm:=u.len;refine bm ?_;intro h1 b1 N z1;refine bm ?_;intro h2 b2 B z2;refine bm ?_;intro W b3 e3 z3;have b1:=(b1.aj B ai).aj e3 ai;have b2:=b2.aj e3 ai;rw [ay,ay];refine aw b1 ((x.num:Int),()) (ak ?_);refine aw b2 ((y.num:Int),()) (ak ?_);refine bm ?_;intro h4 b4 e4 z4;refine bP b4 ?_;intro h5 b5 k5 z5;rw [KE] at b5;have b5:br h5 W.size 53 [.slice none 0 0,.int .u32 (((x.num+y.num) % 4294967296:Nat):Int)]:=b5;have P:Ext W h5:=bU e4 k5;have b1:=b1.aj P ai;have b2:=b2.aj P ai;have b3:=b3.aj P ai;have e05:=((N.trans B).trans e3).trans P;have hz5:=e05.size;refine aQ (cs:=fH) (fun z w h'=>∃ i j:Nat,z.1=(i:Int)/\z.2.1=(j:Int)/\w=(x.ah.length-i)+(y.ah.length-j)/\Wf h5 W.size x.ah y.ah (((x.num+y.num) % 4294967296:Nat):Int) i j h')
  ((0:Int),(0:Int),()) (x.ah.length+y.ah.length) rfl ⟨0,0,rfl,rfl,rfl,ek9 _,ek9 _,Ch.refl _ _,[],none,0,0,x.ah.length+y.ah.length,b5,SL.nil _ _ _ _,rfl,ad,ai⟩ ?_
 rintro ⟨n1,n2,⟨⟩⟩ w h6 ⟨i,j,hi,I,rfl,hil,hjl,X,O,C,lo,co,f,D,Y,hO,hf,hOl⟩;simp only at hi I;subst hi I;refine ak ?_;have hb5:=b5.lt;have hz6:=X.size;have b1:=b1.aj X (by simp; omega);have b2:=b2.aj X (by simp; omega);have b3:=b3.aj X (by simp; omega);have Z:Ext h h6:=bU e05 X;have v6:=v.aj Z ai;have u6:=u.aj Z ai;have hlo:lo=O.length:=by rw [Y.1,ab9]
 have hwi:=hY i;have hwj:=hY j;have n:∀ i,i∈aG C->h5.size<=i:=fun i hi=>(Y.cw hi).1
 have hpm:∀ (k:Nat) (a:Xax) (w:dm) (vs:List Xab),(some a=p\/some a=q)->aF h6 (a.add (k*2)) 0 vs->∀ h',Ch (aG C) h6 h'->aF h' (a.add (k*2)) 0 vs:=fun k a w vs s hc h' kk=>aI kk (by
  rw [iF];intro hm;have h1:=n _ hm;rcases s with s | s
  ·have:=hp a.block (by rw [<- s]; simp [aG]); omega
  ·have:=hq a.block (by rw [<- s]; simp [aG]); omega) _ _ hc
 have push:∀ (t:Xaa × Nat) (i' j':Nat) (r:Hp) (J:Xac) (K:Nat),i'<=x.ah.length->j'<=y.ah.length->i+j+1<=i'+j'->fF f (x.ah.drop i) (y.ah.drop j)=t::fF (f-1) (x.ah.drop i') (y.ah.drop j')->(x.ah.length-i')+(y.ah.length-j')<=f-1 ->
   SL r h5.size 64 2 J (lo+1) K (O.map df++[df t])->Ch (aG C) h6 r->∀ h8,br h8 W.size 53 [.slice J (lo+1) K,.int .u32 (((x.num+y.num) % 4294967296:Nat):Int)]->Ch [W.size] r h8->Wf h5 W.size x.ah y.ah (((x.num+y.num) % 4294967296:Nat):Int) i' j' h8:=by
  intro t i' j' r J K hi' hj' hij L hf' Q o h8 b8 R;refine ⟨hi',hj',Ch.trans (Ch.trans X o (fun j I hl=>by have:=n j I; omega)) R (fun j I _=>I),O++[t],J,lo+1,K,f-1,b8,?_,?_,hf',by simp; omega⟩
  ·rw [ao9];exact Q.bF R (fun j I=>by have:=(Q.cw I).1; simp; omega)
  ·rw [hO,L]; simp
 refine iS (cs:=pA) (fun z h'=>z.1=(decide (i<x.ah.length) || decide (j<y.ah.length))/\h6=h') ?_ ?_
 ·refine aw b1 ((p,H,c),()) (ak ?_);refine aK ?_ ?_<;>intro g1
  ·refine dV (cs:=pA) (true,()) rfl rfl ⟨?_,rfl⟩;rw [ai9 (show i<x.ah.length from ad)] <;> rfl
  ·refine aw b2 ((q,m,d),()) (ak ?_);refine dV (cs:=pA) (decide ((j:Int)<(m:Int)),()) rfl rfl ⟨?_,rfl⟩;rw [aj9 (show ¬ i<x.ah.length from ad),ey9];show decide ((j:Int)<(m:Int))=decide (j<y.ah.length);rw [fo9];omega
 rintro ⟨b10,⟨⟩⟩ h6' ⟨S,rfl⟩;simp only at S;subst S;refine ak ?_;refine ao ?_ ?_<;>intro g1
 ·simp only [Bool.or_eq_true,decide_eq_true_eq] at g1;obtain ⟨M,rfl⟩:∃ M,f=M+1:=⟨f-1,ad⟩
  refine iS (cs:=pA) (fun z h'=>z.1=Zg (x.ah.drop i) (y.ah.drop j)/\h6=h') ?_ ?_
  ·refine aw b2 ((q,m,d),()) (ak ?_);refine ao ?_ ?_<;>intro g2
   ·have g2:(j:Int)=(m:Int):=by simpa using g2
    refine dV (cs:=pA) (true,()) rfl rfl ⟨?_,rfl⟩;rw [show y.ah.drop j=[] from cc9 ad,aw9 (l:=x.ah) (i:=i) ad] <;> rfl
   ·have g2:¬ (j:Int)=(m:Int):=by simpa using g2
    have hjlt:j<y.ah.length:=ad
    refine aw b1 ((p,H,c),()) (ak ?_);refine aK ?_ ?_<;>intro g3
    ·have hilt:i<x.ah.length:=ad
     have b:x.ah.drop i=x.ah[i]::x.ah.drop (i+1):=aw9 hilt;have g:y.ah.drop j=y.ah[j]::y.ah.drop (j+1):=aw9 hjlt;obtain ⟨a,s,hc⟩:=v6.cells i hilt;obtain ⟨a',E,F⟩:=u6.cells j hjlt;subst s E;refine aw b1 ((some a,H,c),()) (ak ?_);refine bK rfl ?_;rw [cr i];refine ar (x.ah[i].1,()) (da hc).1 (ak ?_);refine aw b2 ((some a',m,d),()) (ak ?_);refine bK rfl ?_;rw [cr j];refine ar (y.ah[j].1,()) (da F).1 (ak ?_);rw [Z8];refine dV (cs:=pA) (decide (iB x.ah[i].1 y.ah[j].1),()) rfl rfl ⟨?_,rfl⟩;rw [b,g] <;> rfl
    ·refine dV (cs:=pA) (false,()) rfl rfl ⟨?_,rfl⟩;rw [show x.ah.drop i=[] from cc9 ad] <;> rfl
  rintro ⟨b11,⟨⟩⟩ h6' ⟨U,rfl⟩;simp only at U;subst U;refine ak ?_;refine ao ?_ ?_<;>intro g2
  ·obtain ⟨pp,rr,A,hor⟩:=Gu g2;have hilt:=Ac A;have b:x.ah.drop i=x.ah[i]::x.ah.drop (i+1):=aw9 hilt;rw [b] at A;cases A;have L:fF (M+1) (x.ah.drop i) (y.ah.drop j)=x.ah[i]::fF (M+1-1) (x.ah.drop (i+1)) (y.ah.drop j):=by
    rw [b];exact Vz hor
   obtain ⟨a,s,hc⟩:=v6.cells i hilt;subst s;refine aw D ((C,lo,co),()) (ak ?_);refine aw b1 ((some a,H,c),()) (ak ?_);refine bK rfl ?_;rw [cr i];refine ar (x.ah[i].1,(x.ah[i].2:Int),()) hc (ak ?_);refine gz (vs:=df x.ah[i]) AD ul rfl ad ad av rfl rfl Y ad ad ad (fun h' e=>⟨(b1.aj e ai).cells _ rfl,(D.aj e ai).cells _ rfl,trivial⟩) ?_;intro J K r Q o hp7;have b17:=b1.aj o (fun G=>by have:=n _ G; omega);have b67:=D.aj o (fun G=>by have:=n _ G; omega);refine ⟨⟨hpm i a x.ah _ (.inl rfl) hc r o,b17.cells _ rfl,trivial⟩,?_⟩;refine bP b67 ?_;intro h8 b8 R z8;refine aD (cs:=fH) (((i+1:Nat):Int),(j:Int),()) ((x.ah.length-(i+1))+(y.ah.length-j)) rfl ad (by rw [hwi]; rfl) ⟨i+1,j,rfl,rfl,rfl,?_⟩;exact push _ (i+1) j r J K ad hjl ad L ad Q o h8 b8 R
  ·have g2:=DV g2;refine iS (cs:=pA) (fun z h'=>z.1=Zg (y.ah.drop j) (x.ah.drop i)/\h6=h') ?_ ?_
   ·refine aw b1 ((p,H,c),()) (ak ?_);refine ao ?_ ?_<;>intro g3
    ·have g3:(i:Int)=(H:Int):=by simpa using g3
     refine dV (cs:=pA) (true,()) rfl rfl ⟨?_,rfl⟩;rw [show x.ah.drop i=[] from cc9 ad,aw9 (l:=y.ah) (i:=j) ad] <;> rfl
    ·have g3:¬ (i:Int)=(H:Int):=by simpa using g3
     have hilt:i<x.ah.length:=ad
     have hjlt:j<y.ah.length:=by
      rcases cj9 j y.ah.length with h | h
      ·exact h
      ·rcases g2 with g2 | ⟨_,_,_,_,_,g2,_⟩
       ·have:=fk9.1 g2; omega
       ·rw [cc9 h] at g2; cases g2
     have b:x.ah.drop i=x.ah[i]::x.ah.drop (i+1):=aw9 hilt;have g:y.ah.drop j=y.ah[j]::y.ah.drop (j+1):=aw9 hjlt;obtain ⟨a,s,hc⟩:=v6.cells i hilt;obtain ⟨a',E,F⟩:=u6.cells j hjlt;subst s E;refine aw b2 ((some a',m,d),()) (ak ?_);refine bK rfl ?_;rw [cr j];refine ar (y.ah[j].1,()) (da F).1 (ak ?_);refine aw b1 ((some a,H,c),()) (ak ?_);refine bK rfl ?_;rw [cr i];refine ar (x.ah[i].1,()) (da hc).1 (ak ?_);rw [Z8];refine dV (cs:=pA) (decide (iB y.ah[j].1 x.ah[i].1),()) rfl rfl ⟨?_,rfl⟩;rw [b,g] <;> rfl
   rintro ⟨b12,⟨⟩⟩ h6' ⟨V,rfl⟩;simp only at V;subst V;refine ak ?_;refine ao ?_ ?_<;>intro g3
   ·obtain ⟨pp,rr,A,hor⟩:=Gu g3;have hjlt:=Ac A;have g:y.ah.drop j=y.ah[j]::y.ah.drop (j+1):=aw9 hjlt;rw [g] at A;cases A;have L:fF (M+1) (x.ah.drop i) (y.ah.drop j)=y.ah[j]::fF (M+1-1) (x.ah.drop i) (y.ah.drop (j+1)):=by
     rw [g];exact V1 hor
    obtain ⟨a,s,hc⟩:=u6.cells j hjlt;subst s;refine aw D ((C,lo,co),()) (ak ?_);refine aw b2 ((some a,m,d),()) (ak ?_);refine bK rfl ?_;rw [cr j];refine ar (y.ah[j].1,(y.ah[j].2:Int),()) hc (ak ?_);refine gz (vs:=df y.ah[j]) AD ul rfl ad ad av rfl rfl Y ad ad ad (fun h' e=>⟨(b2.aj e ai).cells _ rfl,(D.aj e ai).cells _ rfl,trivial⟩) ?_;intro J K r Q o hp7;have b27:=b2.aj o (fun G=>by have:=n _ G; omega);have b67:=D.aj o (fun G=>by have:=n _ G; omega);refine ⟨⟨hpm j a y.ah _ (.inr rfl) hc r o,b27.cells _ rfl,trivial⟩,?_⟩;refine bP b67 ?_;intro h8 b8 R z8;refine aD (cs:=fH) ((i:Int),((j+1:Nat):Int),()) ((x.ah.length-i)+(y.ah.length-(j+1))) rfl ad (by rw [hwj]; rfl) ⟨i,j+1,rfl,rfl,rfl,?_⟩;exact push _ i (j+1) r J K hil ad ad L ad Q o h8 b8 R
   ·have g3:=DV g3;have hb:i<x.ah.length/\j<y.ah.length:=by
     rcases g2 with g2 | ⟨_,_,_,_,N,B,_⟩
     ·have h1:=fk9.1 g2;rcases g3 with g3 | ⟨_,_,_,_,_,B,_⟩
      ·have h2:=fk9.1 g3; omega
      ·rw [g2] at B; cases B
     ·exact ⟨Ac N,Ac B⟩
    obtain ⟨hilt,hjlt⟩:=hb;have b:x.ah.drop i=x.ah[i]::x.ah.drop (i+1):=aw9 hilt;have g:y.ah.drop j=y.ah[j]::y.ah.drop (j+1):=aw9 hjlt;have n1:¬ iB x.ah[i].1 y.ah[j].1:=by
     rcases g2 with g2 | ⟨_,_,_,_,N,B,hn⟩
     ·rw [b] at g2; cases g2
     ·rw [b] at N; rw [g] at B; cases N; cases B; exact hn
    have n2:¬ iB y.ah[j].1 x.ah[i].1:=by
     rcases g3 with g3 | ⟨_,_,_,_,N,B,hn⟩
     ·rw [g] at g3; cases g3
     ·rw [g] at N; rw [b] at B; cases N; cases B; exact hn
    have L:fF (M+1) (x.ah.drop i) (y.ah.drop j)=if (x.ah[i].2+y.ah[j].2) % 4294967296=0 then fF M (x.ah.drop (i+1)) (y.ah.drop (j+1)) else (x.ah[i].1,(x.ah[i].2+y.ah[j].2) % 4294967296)::fF M (x.ah.drop (i+1)) (y.ah.drop (j+1)):=by
     rw [b,g];exact R7 n1 n2
    obtain ⟨a,s,hc⟩:=v6.cells i hilt;obtain ⟨a',E,F⟩:=u6.cells j hjlt;subst s E;refine aw b1 ((some a,H,c),()) (ak ?_);refine bK rfl ?_;rw [cr i];refine ar ((x.ah[i].2:Int),()) (da hc).2 (ak ?_);refine aw b2 ((some a',m,d),()) (ak ?_);refine bK rfl ?_;rw [cr j];refine ar ((y.ah[j].2:Int),()) (da F).2 (ak ?_);rw [KE];refine iS (cs:=[]) (fun z h'=>Wf h5 W.size x.ah y.ah (((x.num+y.num) % 4294967296:Nat):Int) (i+1) (j+1) h') ?_ ?_
    ·refine ao ?_ ?_<;>intro g4
     ·have g4:¬ (x.ah[i].2+y.ah[j].2) % 4294967296=0:=by
       have:¬ (((x.ah[i].2+y.ah[j].2) % 4294967296:Nat):Int)=0:=by simpa using g4
       omega
      rw [ac9 g4] at L;refine aw D ((C,lo,co),()) (ak ?_);refine aw b1 ((some a,H,c),()) (ak ?_);refine bK rfl ?_;refine ar (x.ah[i].1,()) (da hc).1 (ak ?_);refine gz (vs:=df (x.ah[i].1,(x.ah[i].2+y.ah[j].2) % 4294967296)) AD ul rfl ad ad av rfl rfl Y ad ad ad (fun h' e=>⟨aI e ai _ _ (da hc).1,(b1.aj e ai).cells _ rfl,(D.aj e ai).cells _ rfl,trivial⟩) ?_;intro J K r Q o hp7;have b17:=b1.aj o (fun G=>by have:=n _ G; omega);have b67:=D.aj o (fun G=>by have:=n _ G; omega);refine ⟨⟨hpm i a x.ah _ (.inl rfl) (da hc).1 r o,b17.cells _ rfl,trivial⟩,?_⟩;refine bP b67 ?_;intro h8 b8 R z8;exact dV (cs:=[]) () rfl rfl (push _ (i+1) (j+1) r J K ad ad ad L ad Q o h8 b8 R)
     ·have g4:(x.ah[i].2+y.ah[j].2) % 4294967296=0:=by
       have:(((x.ah[i].2+y.ah[j].2) % 4294967296:Nat):Int)=0:=by simpa using g4
       omega
      rw [af9 g4] at L;exact dV (cs:=[]) () rfl rfl ⟨ad,ad,X,O,C,lo,co,M,D,Y,by rw [hO,L],ad,ad⟩
    ·rintro ⟨⟩ r I7;exact aD (cs:=fH) (((i+1:Nat):Int),((j+1:Nat):Int),()) ((x.ah.length-(i+1))+(y.ah.length-(j+1))) rfl ad (by rw [hwi,hwj]; rfl) ⟨i+1,j+1,rfl,rfl,rfl,I7⟩
 ·simp only [Bool.or_eq_false_iff,decide_eq_false_iff_not] at g1;rw [cc9 ad,cc9 ad,NJ,bz9] at hO;refine aw D ((C,lo,co),(((x.num+y.num) % 4294967296:Nat):Int),()) (ak ?_);refine bP b3 ?_;intro r b7 o z7;have b7:br r h2.size 53 [.slice C lo co,.int .u32 (((x.num+y.num) % 4294967296:Nat):Int)]:=b7;refine aw b7 ((C,lo,co),(((x.num+y.num) % 4294967296:Nat):Int),()) ?_;refine ⟨bU Z o,C,lo,co,rfl,?_⟩;show SL r h.size 64 2 C lo co ((GB x.ah y.ah).map df);rw [hO];exact (Y.bF o (fun j I=>by have:=n j I; simp; omega)).mono ad
end Go.Sx
namespace Go.Sx.Lk
open Go.Proofs Go.Sx.Ob
def UB (q:Nat) (p b:Xax) (r:Int):T :=
  T.af p [.slice 64,.int .u32] <| fun (c:Xac) (d e:Nat) (f:Int) =>
  T.af b [.slice 64,.int .u32] <| fun (g:Xac) (h j:Nat) (k:Int) =>
  bM 74 [.agg #[.slice c d e,aC f],.agg #[.slice g h j,aC k]] false [(true,[.slice 64,.int .u32])] <| fun (l:Xac) (m n:Nat) (o:Int) =>
  T.ax p [.slice l m n,aC o] <|
  T.again q [vI (bn (r+(1:Int)))]
variable {V:Lp} {Y:Xab->Hp->Prop} {O Z:Xac}
def HA {h:Hp} {lv b c d c5 e m:Nat} {n:Int} {o y:bJ} (f:br h b 53 [.slice O d c5,.int .u32 o.num]) (g:br h c 53 [.slice Z e m,.int .u32 y.num])
  (s:ik h O d o.ah) (t:ik h Z e y.ah) (u:∀ i,i∈aG O->i<h.size) (w:∀ i,i∈aG Z->i<h.size) (hl:o.ah.length+y.ah.length<=2^40)
  (hk:∀ p' l' c' h',Ch [b] h h'->br h' b 53 [.slice p' l' c',.int .u32 (j1 o y).num]->SL h' h.size 64 2 p' l' c' ((j1 o y).ah.map df)->T.again lv [vI (IntKind.wrap .i64 (n+(1:Int)))] V Y h') :
  UB lv ⟨b,0,none⟩ ⟨c,0,none⟩ n V Y h:=by
 unfold UB bM bn aC;refine aw f ((O,d,c5),(o.num:Int),()) (ak ?_);refine aw g ((Z,e,m),(y.num:Int),()) (ak ?_);refine aE (Gw s t u w hl) ?_;rintro _ h1 ⟨p,p',l',c',rfl,q⟩;refine ⟨((p',l',c'),((j1 o y).num:Int),()),rfl,ak ?_⟩;refine bP (f.aj p ai) ?_;intro h2 k r z2;have k:br h2 b 53 [.slice p' l' c',.int .u32 ((j1 o y).num:Int)]:=k;have hg:=f.lt;exact hk p' l' c' h2 (Ch.trans (Ch.mono p ai) r (fun j l hl=>l)) k (q.bF r (fun j l=>by have:=(q.cw l).1; simp; omega))
variable {H:Hp}
def X7 {g:Nat} {s:Xaa} {n:Nat} (b:br H g 64 [.string s,.int .u32 n]):ik H (some ⟨g,0,none⟩) 1 [(s,n)] :=
 ⟨rfl,fun i hi=>by
  have:i=0:=by simpa using hi
  subst this;exact ⟨_,rfl,by rw [ay]; exact b.cells _ rfl⟩⟩
def CU {es:List cT} {s:Xaa} {k:Nat} (h:kW es s=some k):∃ hk:k<es.length,cD es s=some es[k].x:=by
 have h0:=h;unfold kW at h;rw [be9] at h;obtain ⟨hk,_⟩:=h;refine ⟨hk,?_⟩;unfold cD cC du;rw [h0];simp [hk]
def C' {es:List cT} {s:Xaa} (h:kW es s=none):cD es s=none:=by
 unfold cD cC;rw [h,ac9 ai]
variable {U:bJ}
def Hc {es:List cT} {s:Xaa} (h:cD es s=some U):∃ e,e∈es/\U=e.x:=by
 cases b:kW es s with
 | none=>rw [C' b] at h; cases h
 | some k =>
  obtain ⟨hk,h1⟩:=CU b;rw [h1] at h;exact ⟨_,al9 hk,(ay9 h).symm⟩
def Kv {es:List cT} {S:List Xaa} (b:∀ t,t∈U.ah->t.1∈S) (c:∀ e,e∈es->∀ t,t∈e.x.ah->t.1∈S):∀ t,t∈(dr (cD es) U).ah->t.1∈S:=by
 intro t ht;obtain ⟨u,f,h | ⟨y,w,g,j,k⟩⟩:=AW ht
 ·rw [h.2]; exact b u f
 ·obtain ⟨e,d,rfl⟩:=Hc g;rw [<- k]; exact c e d w j
def KM {l c m d:Nat} {es:List cT} (v:ik H O l U.ah) (u:uS H Z m es) (hp:∀ i,i∈aG O->i<H.size) (hb:∀ e,e∈es->∀ i,i∈aG e.p->i<H.size)
  (hm:es.length<=2^40) (hx:Nf U.ah) (hn:U.num<4294967296) (R:∀ e,e∈es->Nf e.x.ah) {S:List Xaa} (hS:S.length<=2^30) (V:∀ t,t∈U.ah->t.1∈S) (X:∀ e,e∈es->∀ t,t∈e.x.ah->t.1∈S) :
  HC Xaz 76 #[gU O l c U,.slice Z m d] H fun w h'=>Ext H h'/\∃ p' l' c',w=gU p' l' c' (dr (cD es) U)/\SL h' H.size 64 2 p' l' c' ((dr (cD es) U).ah.map df):=by
 refine aX (args:=[.agg #[.slice O l c,.int .u32 U.num],.slice Z m d]) mixed Tryz.func76 av (qK O l c U.num Z m d) ?_;unfold lz aR aY bq aH cE bM bd aC aZ aM;have hll:=v.len;have hmm:=u.len;have Y:∀ s y,cD es s=some y->Nf y.ah:=fun s y hy=>by
  obtain ⟨e,he,rfl⟩:=Hc hy;exact R e he
 have hlx:=AX hx V;refine bm ?_;intro h1 b1 e1 z1;refine bm ?_;intro h2 b2 e2 z2;have b1:=b1.aj e2 ai;rw [ay];refine aw b1 ((U.num:Int),()) (ak ?_);refine bm ?_;intro h3 b3 e3 z3;refine bP b3 ?_;intro h4 b4 k4 z4;have b4:br h4 h2.size 53 [.slice none 0 0,.int .u32 (U.num:Int)]:=b4;have E:Ext h2 h4:=bU e3 k4;have b1:=b1.aj E ai;have b2:=b2.aj E ai;have e04:=(e1.trans e2).trans E;have hb4:=b4.lt;have hz04:=e04.size;refine aQ (cs:=cF) (fun y w h'=>∃ (i:Nat) (Z:Xac) (m d:Nat),y.1=(i:Int)/\i<=U.ah.length/\w=U.ah.length-i/\Ch [h2.size] h4 h'/\br h' h2.size 53 [.slice Z m d,.int .u32 (((U.ah.take i).foldl (gb (cD es)) ⟨[],U.num⟩).num:Int)] /\
  SL h' h4.size 64 2 Z m d (((U.ah.take i).foldl (gb (cD es)) ⟨[],U.num⟩).ah.map df)) ((0:Int),()) U.ah.length rfl ⟨0,none,0,0,rfl,ad,ad,Ch.refl _ _,b4,SL.nil _ _ _ _⟩ ?_
 rintro ⟨n8,⟨⟩⟩ w h5 ⟨i,q5,m5,d5,hi,hile,rfl,k5,b5,C⟩;simp only at hi;subst hi;refine ak ?_;have b15:=b1.aj k5 (by simp; omega);have hz5:=k5.size;have F:Ext H h5:=bU e04 k5;have v5:=v.aj F ai;have u5:=u.aj F;refine aw b15 ((O,l,c),()) (ak ?_);have hw:=hY i;have hacc:=CD Y hx hn i;have hal:((U.ah.take i).foldl (gb (cD es)) ⟨[],U.num⟩).ah.length<=S.length:=by
  rw [hacc];exact AX (eM _ _) (Kv (fun t ht=>V t (cy9 ht)) X)
 refine aK ?_ ?_<;>intro g1
 ·have n:i<U.ah.length:=ad
  have G:(U.ah.take (i+1)).foldl (gb (cD es)) ⟨[],U.num⟩=gb (cD es) ((U.ah.take i).foldl (gb (cD es)) ⟨[],U.num⟩) U.ah[i]:=by
   rw [ag9 n,cg9] <;> rfl
  obtain ⟨a,rfl,hc⟩:=v5.cells i n;have htm:=al9 n;generalize U.ah[i]=t at hc G htm;generalize hA:(U.ah.take i).foldl (gb (cD es)) ⟨[],U.num⟩=A at b5 C hal G hacc;obtain ⟨c1,c2⟩:=da hc;have hab:=hp a.block (by simp [aG]);refine aw b15 ((some a,l,c),()) (ak ?_);refine bK rfl ?_;rw [cr i];refine ar (t.1,()) c1 (ak ?_);refine je (GN u5 ad t.1) ?_;refine aw b15 ((some a,l,c),()) (ak ?_);refine bK rfl ?_;refine ar (t.1,(t.2:Int),()) hc (ak ?_);refine nS I6 ul ad ad (IS _ _) ?_;intro P b6 e6 z6;refine bm ?_;intro h7 b7 e7 z7;refine bP b7 ?_;intro h8 b8 k8 z8;have b8:br h8 P.size 53 [.slice (some ⟨h5.size,0,none⟩) 1 1,.int .u32 ((0:Nat):Int)]:=b8;have b:Ext h5 h8:=bU (e6.trans e7) k8;have b68:=b6.aj (bU e7 k8:Ext P h8) ai;have b58:=b5.aj b ai;have b18:=b15.aj b ai;have s8:=C.bF b (fun j f=>ai)
  have r:∀ y:bJ,JN (cD es) t=y->∀ p' l' c' h',Ext h5 h8->∀ h9,Ch [P.size] h8 h9->Ch [h2.size] h9 h'->br h' h2.size 53 [.slice p' l' c',.int .u32 (j1 A y).num] ->
    SL h' h9.size 64 2 p' l' c' ((j1 A y).ah.map df)->Ch [h2.size] h4 h'/\br h' h2.size 53 [.slice p' l' c',.int .u32 (((U.ah.take (i+1)).foldl (gb (cD es)) ⟨[],U.num⟩).num:Int)] /\
     SL h' h4.size 64 2 p' l' c' (((U.ah.take (i+1)).foldl (gb (cD es)) ⟨[],U.num⟩).ah.map df):=by
   intro y hy p' l' c' h' _ h9 Q k9 b9 s9;rw [G];unfold gb;rw [hy]
   have:=b.size
   have:=Q.size
   exact ⟨Ch.trans (Ch.trans (Ch.trans k5 b ai) Q (fun j f hl=>by simp at f; omega)) k9 (fun j f _=>f),b9,s9.mono ad⟩
  refine aK ?_ ?_<;>intro g2
  ·cases g:kW es t.1 with
   | none=>rw [g] at g2; exact absurd g2 (by unfold Ty; decide)
   | some k =>
    obtain ⟨hk,hlo⟩:=CU g;obtain ⟨ae,rfl,I⟩:=(u5.aj b).cells k hk;have hem:=al9 hk;have vy:=(u5.aj b).fx _ hem;generalize es[k]=e at I hem vy hlo;have hble:=hb e hem;have hyl:=AX (R e hem) (X e hem);refine dy ⟨by show (0:Int)<=(k:Int); omega,by show (k:Int)<_; omega⟩ (bf rfl ?_);rw [show Int.toNat (Ty (some k))=k from Int.toNat_natCast k];refine ar ((e.p,e.l,e.c),(e.x.num:Int),()) ⟨by rw [add_add]; exact I.2.1,by rw [add_add]; exact I.2.2.1,trivial⟩ ?_;refine ak ?_;refine aw b18 ((some a,l,c),()) (ak ?_);refine bK rfl ?_;refine ar ((t.2:Int),()) (aI b ai _ _ c2) (ak ?_)
    have:=b.size
    refine aE (Ja vy ad (fun j f=>by have:=hble j f; omega) t.2) ?_;rintro _ h9 ⟨Q,p9,l9,c9,rfl,s9⟩;refine ⟨((p9,l9,c9),((vG e.x t.2).num:Int),()),rfl,ak ?_⟩;refine ⟨⟨(b18.aj Q ai).cells _ rfl,trivial⟩,?_⟩;refine bP (b8.aj Q ai) ?_;intro h10 J k10 z10;have J:br h10 P.size 53 [.slice p9 l9 c9,.int .u32 ((vG e.x t.2).num:Int)]:=J;have D:Ch [P.size] h8 h10:=Ch.trans (Ch.mono Q ai) k10 (fun j f hl=>f);have B:Ext h5 h10:=bU b D;refine HA (lv:=0) (o:=A) (y:=vG e.x t.2) (b5.aj B ai) J (C.bF B (fun j f=>ai)).Nt (s9.bF k10 (fun j f=>by have:=(s9.cw f).1; simp; omega)).Nt
     (fun j f=>by have:=(C.cw f).2; have:=B.size; omega) (fun j f=>by have:=(s9.cw f).2; omega) (by have:=Cp t.2 e.x.ah; show A.ah.length+(fo t.2 e.x.ah).length<=_; omega) ?_
    intro p' l' c' K L M N;obtain ⟨r1,r2,r3⟩:=r (vG e.x t.2) (by unfold JN; rw [hlo]) p' l' c' K b h10 D L M N;exact aD (cs:=cF) (((i+1:Nat):Int),()) (U.ah.length-(i+1)) rfl ad (aq9 (fun z=>[Value.int .i64 z]) hw) ⟨i+1,p',l',c',rfl,ad,rfl,r1,r2,r3⟩
  ·have g:kW es t.1=none:=by
    cases g:kW es t.1 with
    | none=>rfl
    | some k=>rw [g] at g2; exact absurd (show (0:Int)<=((k:Nat):Int) from ad) g2
   refine HA (lv:=0) (o:=A) (y:=⟨[t],0⟩) b58 b8 s8.Nt (X7 b68) (fun j f=>by have:=(C.cw f).2; have:=b.size; omega) (fun j f=>by simp [aG] at f; have:=b.size; have:=b68.lt; omega) (by show A.ah.length+1<=_; omega) ?_;intro p' l' c' K L M N;obtain ⟨r1,r2,r3⟩:=r ⟨[t],0⟩ (by unfold JN; rw [C' g]) p' l' c' K b h8 ((Ch.refl [P.size] h8)) L M N;exact aD (cs:=cF) (((i+1:Nat):Int),()) (U.ah.length-(i+1)) rfl ad (aq9 (fun z=>[Value.int .i64 z]) hw) ⟨i+1,p',l',c',rfl,ad,rfl,r1,r2,r3⟩
 ·have hi:i=U.ah.length:=ad
  subst hi;rw [bl9,Fk Y hx hn] at b5 C;refine aw b5 ((q5,m5,d5),((dr (cD es) U).num:Int),()) (ak ?_);refine bP (b2.aj k5 (by simp; omega)) ?_;intro h7 b7 k7 z7;have b7:br h7 h1.size 53 [.slice q5 m5 d5,.int .u32 ((dr (cD es) U).num:Int)]:=b7;refine aw b7 ((q5,m5,d5),((dr (cD es) U).num:Int),()) ?_;exact ⟨bU F k7,q5,m5,d5,rfl,(C.bF k7 (fun j f=>by have:=(C.cw f).1; simp; omega)).mono ad⟩
def vK {es:List cT} {s:Xaa} {j:Nat} (h:kW es s=some j):∃ e,es[j]?=some e/\e.name=s:=by
 unfold kW at h;rw [be9] at h;obtain ⟨b,h1,_⟩:=h;exact ⟨es[j],ad9 b,by simpa using h1⟩
def T2 {es:List cT} (hn:(aU es).Nodup) {i j:Nat} {d e:cT} (hi:es[i]?=some d) (b:es[j]?=some e) (h:d.name=e.name):i=j:=by
 obtain ⟨h1,rfl⟩:=ax9.1 hi;obtain ⟨h2,rfl⟩:=ax9.1 b;refine (List.getElem_inj (h₀:=by unfold aU; rw [ab9]; exact h1) (h₁:=by unfold aU; rw [ab9]; exact h2) hn).1 ?_;unfold aU;rw [am9,am9];exact h
def K3 {es:List cT} (hn:(aU es).Nodup) {k j:Nat} {e:cT} (f:es[k]?=some e) {t:Xaa × Nat} (ht:t∈e.x.ah) (c:kW es t.1=some j):∃ d,es[j]?=some d/\dA es e.name d.name:=by
 obtain ⟨d,g,b⟩:=vK c;refine ⟨d,g,?_,?_⟩
 ·rw [lR,qQ hn (cm9 f)];exact ⟨t,ht,b.symm⟩
 ·unfold cC;rw [b,c] <;> rfl
def Tq {es:List cT} (hn:(aU es).Nodup) {k:Nat} {e:cT} (f:es[k]?=some e) {z:Xaa} (h:dA es e.name z):∃ t,t∈e.x.ah/\∃ j d,kW es t.1=some j/\es[j]?=some d/\d.name=z:=by
 obtain ⟨h1,h2⟩:=h;rw [lR,qQ hn (cm9 f)] at h1;obtain ⟨t,ht,rfl⟩:=h1;unfold cC at h2;obtain ⟨j,c⟩:=cl9.1 h2;obtain ⟨d,g,b⟩:=vK c;exact ⟨t,ht,j,d,c,g,b⟩
structure qp (es:List cT) (i0:Nat) (a:Xaa) (kc i:Nat) (W:List Nat) (sn:List Bool):Prop where
 len:sn.length=es.length
 U3:∀ w,w∈W->∃ e,es[w]?=some e/\qD (dA es) a e.name
 src:sn[i0]?≠some true
 cl:∀ k e,es[k]?=some e->(k=i0\/sn[k]?=some true)->k∉W->∀ m t,e.x.ah[m]?=some t->(k=kc->m<i)->∀ j,kW es t.1=some j->j≠i0/\sn[j]?=some true
variable {es:List cT} {i0 kc i:Nat} {a:Xaa} {W:List Nat} {sn:List Bool}
def qp.start {e:cT} (b:es[i0]?=some e) (f:e.name=a):qp es i0 a es.length 0 [i0] (List.replicate es.length false):=by
 have c:∀ k:Nat,(List.replicate es.length false)[k]?≠some true:=by
  intro k h
  have:=cm9 h
  rw [List.mem_replicate] at this;cases this.2
 refine ⟨ai,fun w d=>?_,c i0,fun k e b h hk=>?_⟩
 ·rw [ak9] at d;subst d;exact ⟨e,b,by rw [f]; exact .refl _⟩
 ·rcases h with h | h
  ·subst h; simp at hk
  ·exact absurd h (c k)
def qp.pop (s:qp es i0 a es.length 0 (W++[kc]) sn):qp es i0 a kc 0 W sn/\∃ e,es[kc]?=some e/\qD (dA es) a e.name:=by
 refine ⟨⟨s.len,fun w d=>s.U3 w (by simp [d]),s.src,fun k e c h hk m t ht f j g=>?_⟩,s.U3 kc ai⟩
 by_cases b:k=kc
 ·exact absurd (f b) ad
 ·refine s.cl k e c h (by simp [hk,b]) m t ht (fun l=>?_) j g;obtain ⟨hl,_⟩:=ax9.1 c;omega
def qp.skip (s:qp es i0 a kc i W sn) {e:cT} (n:es[kc]?=some e) {t:Xaa × Nat} (ht:e.x.ah[i]?=some t) (h:∀ j,kW es t.1=some j->j≠i0/\sn[j]?=some true):qp es i0 a kc (i+1) W sn:=by
 refine ⟨s.len,s.U3,s.src,fun k d c o hk m u f p j l=>?_⟩
 by_cases hc:k=kc/\m=i
 ·obtain ⟨rfl,rfl⟩:=hc;rw [n] at c;cases c;rw [ht] at f;cases f;exact h j l
 ·refine s.cl k d c o hk m u f (fun b=>?_) j l
  have:=p b
  have:m≠i:=fun g=>hc ⟨b,g⟩
  omega
def qp.push (s:qp es i0 a kc i W sn) (hn:(aU es).Nodup) {e:cT} (B:es[kc]?=some e) (F:qD (dA es) a e.name) {t:Xaa × Nat} (ht:e.x.ah[i]?=some t) {j:Nat} (C:kW es t.1=some j) (h0:j≠i0) :
  qp es i0 a kc (i+1) (W++[j]) (sn.set j true):=by
 obtain ⟨d,D,n⟩:=K3 hn B (cm9 ht) C;obtain ⟨o,_⟩:=ax9.1 D;have c:(sn.set j true)[j]?=some true:=by rw [eq9 (by rw [s.len]; exact o)]
 have p:∀ x:Nat,sn[x]?=some true->(sn.set j true)[x]?=some true:=by
  intro x q
  by_cases g:j=x
  ·subst g; exact c
  ·rw [dq9 g]; exact q
 refine ⟨by rw [cx9]; exact s.len,fun w l=>?_,by rw [dq9 h0]; exact s.src,fun k f r E hk m u y G H b=>?_⟩
 ·rw [as9,ak9] at l;rcases l with l | rfl
  ·exact s.U3 w l
  ·exact ⟨d,D,F.trans (.one n)⟩
 ·rw [as9,ak9] at hk;have z:j≠k:=fun e=>hk (Or.inr e.symm)
  rw [dq9 z] at E
  by_cases hc:k=kc/\m=i
  ·obtain ⟨rfl,rfl⟩:=hc;rw [B] at r;cases r;rw [ht] at y;cases y;rw [C] at b;cases b;exact ⟨h0,c⟩
  ·obtain ⟨h1,h2⟩:=s.cl k f r E (fun q=>hk (Or.inl q)) m u y (fun h=>by
    have:=G h
    have:m≠i:=fun A=>hc ⟨h,A⟩
    omega) H b
   exact ⟨h1,p _ h2⟩
def qp.done (s:qp es i0 a kc i W sn) {e:cT} (g:es[kc]?=some e) (hi:e.x.ah.length<=i):qp es i0 a es.length 0 W sn:=by
 refine ⟨s.len,s.U3,s.src,fun k d b h hk m u f n j l=>s.cl k d b h hk m u f (fun c=>?_) j l⟩;subst c;rw [g] at b;cases b;obtain ⟨hl,_⟩:=ax9.1 f;omega
def qp.no (s:qp es i0 a es.length 0 [] sn) (hn:(aU es).Nodup) {e:cT} (b:es[i0]?=some e) (o:e.name=a):¬ kV (dA es) a:=by
 have c:∀ k e,es[k]?=some e->(k=i0\/sn[k]?=some true)->∀ z,dA es e.name z->∃ j d,es[j]?=some d/\d.name=z/\j≠i0/\sn[j]?=some true:=by
  intro k e b h z q;obtain ⟨t,ht,j,d,u,f,g⟩:=Tq hn b q;obtain ⟨m,w⟩:=List.getElem?_of_mem ht;obtain ⟨x,_⟩:=ax9.1 b;obtain ⟨h1,h2⟩:=s.cl k e b h ai m t w (fun C=>ad) j u;exact ⟨j,d,f,g,h1,h2⟩
 have l:∀ y z,qD (dA es) y z->z=a->(∃ j d,es[j]?=some d/\d.name=y/\j≠i0/\sn[j]?=some true)->False:=by
  intro y z r
  induction r with
  | refl y =>
   rintro rfl ⟨j,d,f,n,h1,_⟩;exact h1 (T2 hn f b (n.trans o.symm))
  | head A r B =>
   rintro rfl ⟨j,d,f,rfl,h1,h2⟩;exact B rfl (c j d f (Or.inr h2) _ A)
 rintro ⟨y,p,r⟩;rw [<- o] at p;exact l y a r rfl (c i0 e b (Or.inl rfl) y p)
def Tt (hn:(aU es).Nodup) {e:cT} (f:es[kc]?=some e) (g:qD (dA es) a e.name) {t:Xaa × Nat} (ht:t∈e.x.ah) {d:cT} (h:es[i0]?=some d) (j:d.name=a) (k:kW es t.1=some i0):kV (dA es) a:=by
 obtain ⟨l,c,b⟩:=K3 hn f ht k;rw [h] at c;cases c;rw [j] at b;cases g with
 | refl _=>exact ⟨_,b,.refl _⟩
 | head h1 h2=>exact ⟨_,h1,h2.trans (.one b)⟩
def V6:Tryz.prog.underlying 243=some (.slice 4):=av
def YU:(Tryz.prog.info? 4).map (fun i=>(i.zero,i.size,i.bytes))=some (some (.bool false),1,1):=av
def uL:Tryz.prog.underlying 135=some (.slice 3):=av
def TU:(Tryz.prog.info? 3).map (fun i=>(i.zero,i.size,i.bytes))=some (some (vI 0),1,8):=av
def UC (b:Bool):List Xab:=[.bool b]
def Nb (n:Nat):List Xab:=[vI (n:Int)]
def PH {α:Type} (f:α->Xab) (l:List α):(l.map fun x=>[f x]).flatten=l.map f:=by
 induction l with
 | nil=>rfl
 | cons a l b=>rw [bo9,em9,b]; rfl
def YR {g:Nat} {e:TypeId} {sz:Nat} {cells:List Xab} (xs:List (List Xab)) (b:br H g e cells) (hc:cells=xs.flatten) (hl:∀ x,x∈xs->x.length=sz) (hn:xs.length<9223372036854775808):SL H g e sz (some ⟨g,0,none⟩) xs.length xs.length xs:=by
 subst hc;exact ⟨rfl,hl,g,[],[],rfl,au9 _,⟨au9 _,hn⟩,by simpa using b,ai⟩
def Fq (n:Int):Instr.fill (fun j=>some (j*1,1)) ((Array.range (1*1)).map ((Value.int .i64 0).cells[· % (Value.int .i64 0).cells.size]!)) [(0,vI n)]=some ([vI n]:List Xab).toArray:=av
def O6 {h:Hp} {n:Nat} (hn:n<=2^40) {k:Xac->Nat->Nat->T} (hk:∀ h',SL h' h.size 4 1 (some ⟨h.size,0,none⟩) n n ((List.replicate n false).map UC)->Ext h h'->h'.size=h.size+1->k (some ⟨h.size,0,none⟩) n n V Y h') :
  T.ef Xaz (Instr.makeSlice 243 (vI (n:Int)) (vI (n:Int))) false [(false,[.slice 0])] k V Y h:=by
 obtain ⟨q,d,e,f,g⟩:=pR YU;refine dt (qJ (l:=n) (c:=n) V6 d e (au9 _) (by rw [g]; omega) ad ?_);intro j m o p;refine ⟨_,_,_,rfl,hk j ?_ o p⟩;have hc:(List.range (n*q.size)).map ((Value.bool false).cells[· % (Value.bool false).cells.size]!)=((List.replicate n false).map UC).flatten:=by
  rw [f,Nat.mul_one];show _=((List.replicate n false).map fun b=>[Value.bool b]).flatten;rw [PH];apply fp9
  ·simp
  ·intro i h1 h2;rw [am9,am9,List.getElem_replicate];show (#[Value.bool false]:Array Xab)[((List.range n)[i]'(by simpa using h1)) % 1]! = _;rw [Nat.mod_one] <;> rfl
 have:=YR ((List.replicate n false).map UC) m hc (fun x r=>by obtain ⟨b,_,rfl⟩:=an9.1 r; rfl) (by simp; omega)
 rw [ab9,List.length_replicate] at this;exact this
def nF (sn:List Bool):Nat:=sn.count false
theorem Pu:∀ (sn:List Bool) (j:Nat),sn[j]?=some false->nF (sn.set j true)+1=nF sn
 | [],j,h=>by simp at h
 | b::l,0,h=>by
  simp at h;subst h;simp [nF]
 | b::l,j+1,h=>by
  have ih:=Pu l j (by simpa using h);unfold nF at ih ⊢;rw [List.set_cons_succ,List.count_cons,List.count_cons];omega
def R3 (sn:List Bool) (j:Nat):(sn.map UC).set j [.bool true]=(sn.set j true).map UC:=by rw [fd9]; rfl
def NP (p:Xac) (c:Nat):(if c=0 then p else Option.map (fun a=>Addr.add a 0) p)=p:=by
 split
 ·rfl
 ·cases p with
  | none=>rfl
  | some a=>show some (a.add 0)=some a; rw [add_zero']
open Classical in
def SB {l c:Nat} {es:List cT} (v:uS H O l es) (hn:(aU es).Nodup) (hl:es.length<=2^40) (ht:∀ e,e∈es->e.x.ah.length<=2^40) {i0:Nat} {e0:cT} (F:es[i0]?=some e0) :
  HC Xaz 100 #[.slice O l c,vI (i0:Int),vI (i0:Int)] H fun w h'=>Ext H h'/\w=.bool (decide (kV (dA es) e0.name)):=by
 refine aX (args:=[.slice O l c,vI (i0:Int),vI (i0:Int)]) mixed Tryz.func100 av (qy O l c i0 i0) ?_;unfold lF aR aY bq aH cE bd bn bH dX aM ct cR;obtain rfl:=v.len;obtain ⟨hi0,_⟩:=ax9.1 F;refine O6 hl ?_;intro h1 sB1 e1 z1;refine nS uL TU ad ad (Fq _) ?_;intro h2 b2 e2 z2;have sW2:SL h2 h1.size 3 1 (some ⟨h1.size,0,none⟩) 1 1 ([i0].map Nb):=YR [[vI (i0:Int)]] b2 rfl ai ai;have sB2:=sB1.bF e2 ai;have e02:=e1.trans e2;refine aQ (cs:=[(false,[.bool]),(false,[.slice 0])]) (fun y m h'=>∃ (W:List Nat) (sn:List Bool),m=nF sn+W.length/\m<=es.length+1/\Ext H h'/\h1.size<=h'.size/\SL h' H.size 4 1 (some ⟨H.size,0,none⟩) es.length es.length (sn.map UC)/\SL h' h1.size 3 1 y.2.1.1 y.2.1.2.1 y.2.1.2.2 (W.map Nb)/\qp es i0 e0.name es.length 0 W sn)
  (false,(some ⟨h1.size,0,none⟩,1,1),()) _ rfl ⟨[i0],List.replicate es.length false,rfl,by simp [nF],e02,ad,sB2,sW2,qp.start F rfl⟩ ?_
 rintro ⟨b9,⟨p10,R,l12⟩,⟨⟩⟩ m h3 ⟨W,sn,rfl,hM,e3,z3,sB3,s,I3⟩;simp only at s;refine ak ?_;have u:R=W.length:=by have:=s.1; rwa [ab9] at this
 have hWn:∀ w,w∈W->w<es.length:=fun w hw=>by
  obtain ⟨e,E,_⟩:=I3.U3 w hw;exact (ax9.1 E).1
 refine aK ?_ ?_<;>intro g1
 ·rcases List.eq_nil_or_concat W with rfl | ⟨r,kc,rfl⟩
  ·simp at u; omega
  ·rw [List.concat_eq_append] at u s I3 hWn hM;have hM':nF sn+(r.length+1)<=es.length+1:=by simpa using hM
   have u:R=r.length+1:=by simpa using u
   subst u;obtain ⟨I4,e,E,hr⟩:=I3.pop;have hkc:=(ax9.1 E).1;have hem:=cm9 E;have hw1:IntKind.wrap .i64 (((r.length+1:Nat):Int)-1)=(r.length:Int):=by rw [wrap_i64 ad ad]; omega
   obtain ⟨a,rfl,hc⟩:=SL.cells s (i:=r.length) ai;have hc:aF h3 (a.add (r.length*1)) 0 [vI (kc:Int)]:=by simpa [Nb] using hc
   rw [hw1,show Int.toNat (r.length:Int)=r.length from ad];refine bK rfl ?_;refine ar ((kc:Int),()) hc (ak ?_);have hcap:r.length+1<=l12:=by
    obtain ⟨g,pre,rest,_,_,hlc,_⟩:=s.2.2;exact hlc.1
   refine dy ⟨ad,ad,ad⟩ ?_;rw [NP,fu9,fu9];have sW4:=SL.take s (k:=r.length) ad;rw [<- List.map_take,ej9] at sW4;have hte:=ht e hem;refine aQ (cs:=Sj) (fun y m h'=>∃ (W:List Nat) (b:List Bool) (i:Nat),y.2.2.1=(i:Int)/\i<=e.x.ah.length/\m=e.x.ah.length-i/\nF b+W.length+1=nF sn+(r.length+1)/\Ext H h'/\h1.size<=h'.size /\
    SL h' H.size 4 1 (some ⟨H.size,0,none⟩) es.length es.length (b.map UC)/\SL h' h1.size 3 1 y.2.1.1 y.2.1.2.1 y.2.1.2.2 (W.map Nb)/\qp es i0 e0.name kc i W b)
    (b9,(some a,r.length,l12),(0:Int),()) _ rfl ⟨r,sn,0,rfl,ad,rfl,ad,e3,z3,sB3,sW4,I4⟩ ?_
   rintro ⟨n,⟨A,l17,B⟩,n19,⟨⟩⟩ m5 h5 ⟨W,b,i,hi,hile,rfl,S,Q,z5,C,o,U⟩;simp only at hi o;subst hi;refine ak ?_;have V:l17=W.length:=by have:=o.1; rwa [ab9] at this
   subst V;have v5:=v.aj Q;obtain ⟨ae,rfl,X⟩:=v5.cells kc hkc;have hek:es[kc]=e:=(ax9.1 E).2;rw [hek] at X;have vt:=v5.fx e hem;have hll:=vt.len;have hw:=hY i;have Y:aF h5 ((ae.add (kc*3)).add 1) 0 [.slice e.p e.l e.c]:=⟨by rw [add_add]; exact X.2.1,trivial⟩
   refine bK rfl ?_;rw [cr kc];refine ar ((e.p,e.l,e.c),()) Y (ak ?_);refine aK ?_ ?_<;>intro g2
   ·have J:i<e.x.ah.length:=ad
    refine bK rfl ?_;refine ar ((e.p,e.l,e.c),()) Y (ak ?_);obtain ⟨at',hp',Z⟩:=vt.cells i J;have G:e.x.ah[i]?=some e.x.ah[i]:=ad9 J;have htm:=al9 J;generalize e.x.ah[i]=t at Z G htm;refine gR (bf hp' ?_);rw [cr i];refine ar (t.1,()) ⟨Z.1,trivial⟩ (ak ?_);refine je (GN v5 ad t.1) ?_;refine ao ?_ ?_<;>intro D
    ·have D:Ty (kW es t.1)=(i0:Int):=by simpa using D
     have K:kW es t.1=some i0:=by
      cases f:kW es t.1 with
      | none=>rw [f] at D; exact absurd D (by show ¬ ((-1:Int)=_); omega)
      | some j =>
       rw [f] at D
       have:(j:Int)=i0:=D
       rw [show j=i0 from ad]
     refine ⟨Q,?_⟩;rw [ai9 (Tt hn E hr htm F rfl K)]
    ·have D:¬ Ty (kW es t.1)=(i0:Int):=by simpa using D
     cases f:kW es t.1 with
     | none =>
      refine cv (by show decide ((-1:Int)>=0)=false; decide) ?_;refine aD (cs:=Sj) (n,(A,W.length,B),((i+1:Nat):Int),()) (e.x.ah.length-(i+1)) rfl ad (aq9 (fun z=>[Value.bool n,.slice A W.length B,Value.int .i64 z]) hw)
       ⟨W,b,i+1,rfl,ad,rfl,S,Q,z5,C,o,U.skip E G (fun j K=>by rw [f] at K; cases K)⟩
     | some j =>
      rw [f] at D;have hj0:j≠i0:=fun hh=>D (by rw [hh]; rfl)
      obtain ⟨d,hd,_⟩:=vK f;have hjl:=(ax9.1 hd).1;refine bX (ai9 (show (0:Int)<=((j:Nat):Int) from ad)) ?_;have L:j<b.length:=by rw [U.len]; exact hjl
      obtain ⟨ab,M,hcb⟩:=SL.cells C (i:=j) (by rw [ab9]; exact L);rw [am9] at hcb;refine dy ⟨by show (0:Int)<=(j:Int); omega,by show (j:Int)<_; omega⟩ (bf M ?_);rw [show Int.toNat (Ty (some j))=j from Int.toNat_natCast j];refine ar (b[j],()) hcb (ak ?_);have I:b[j]?=some b[j]:=ad9 L;cases hb:b[j] with
      | true =>
       rw [hb] at I;refine cv rfl ?_;refine aD (cs:=Sj) (n,(A,W.length,B),((i+1:Nat):Int),()) (e.x.ah.length-(i+1)) rfl ad (aq9 (fun z=>[Value.bool n,.slice A W.length B,Value.int .i64 z]) hw)
        ⟨W,b,i+1,rfl,ad,rfl,S,Q,z5,C,o,U.skip E G (fun j' K=>by rw [f] at K; cases K; exact ⟨hj0,I⟩)⟩
      | false =>
       rw [hb] at I;refine bX rfl ?_;refine dy ⟨by show (0:Int)<=(j:Int); omega,by show (j:Int)<_; omega⟩ (bf M ?_);refine SL.store (P:=Xaz) C (i:=j) (by rw [ab9]; exact L) (vs:=[.bool true]) rfl rfl M ?_;intro h6 sB6 k6 z6;rw [R3] at sB6;have N:∀ q,q∈aG (some (⟨H.size,0,none⟩:Xax))->q=H.size:=fun q f=>by simpa [aG] using f
       have sW6:=o.bF k6 (fun q f hm=>by have:=(o.cw f).1; have:=N q hm; omega);have e6:Ext H h6:=Ch.trans Q k6 (fun q f hl=>by have:=N q f; omega);refine fg (vs:=Nb j) uL TU rfl ad ad (Fq _) rfl rfl sW6 ad ad ad ?_;intro p' c' h7 sW7 k7 hp7;have e7:Ext H h7:=Ch.trans e6 k7 (fun q f hl=>by have:=(sW6.cw f).1; omega);have sB7:=sB6.bF k7 (fun q f hm=>by have:=N q f; have:=(sW6.cw hm).1; omega);have hnf:=Pu b j I;refine aD (cs:=Sj) (n,(p',W.length+1,c'),((i+1:Nat):Int),()) (e.x.ah.length-(i+1)) rfl ad (aq9 (fun z=>[Value.bool n,.slice p' (W.length+1) c',Value.int .i64 z]) hw)
        ⟨W++[j],b.set j true,i+1,rfl,ad,rfl,by rw [ae9]; show nF (b.set j true)+(W.length+1)+1=_; omega,e7,by have:=k7.size; omega,sB7,by rw [ao9]; exact sW7,U.push hn E hr G f hj0⟩
   ·refine aD (cs:=[(false,[.bool]),(false,[.slice 0])]) (n,(A,W.length,B),()) (nF b+W.length) rfl (by rw [List.concat_eq_append,ae9]; show nF b+W.length<nF sn+(r.length+1); omega) rfl ⟨W,b,rfl,ad,Q,z5,C,o,U.done E ad⟩
 ·have hW:W=[]:=dx9.1 ad;subst hW;refine ⟨e3,?_⟩;rw [aj9 (I3.no hn F rfl)]
noncomputable def Ww (es:List cT) (i:Nat):Bool:=by
 classical
 exact decide (∃ e,es[i]?=some e/\kV (dA es) e.name)
def DZ {es:List cT} {i:Nat} {e:cT} (c:es[i]?=some e) {d:Decidable (kV (dA es) e.name)}:decide (kV (dA es) e.name)=Ww es i:=by
 unfold Ww;refine fo9.2 ⟨fun h=>⟨e,c,h⟩,?_⟩;rintro ⟨f,b,h⟩;rw [c] at b;cases b;exact h
noncomputable def mF (es:List cT) (n:Nat):List Nat:=(List.range n).filter (Ww es)
def Ir (es:List cT) (i:Nat):mF es (i+1)=mF es i++if Ww es i=true then [i] else []:=by
 unfold mF;rw [fr9,List.filter_append]
 congr 1
 by_cases h:Ww es i=true <;> simp [h]
def LN (es:List cT) (i:Nat):(mF es i).length<=i:=by
 unfold mF
 have:=do9 (Ww es) (List.range i)
 simpa using this
def Qo {l c:Nat} {es:List cT} (v:uS H O l es) (hn:(aU es).Nodup) (hl:es.length<=2^40) (ht:∀ e,e∈es->e.x.ah.length<=2^40) :
  HC Xaz 75 #[.slice O l c] H fun w h'=>Ext H h'/\∃ p' l' c',w=.slice p' l' c'/\SL h' H.size 3 1 p' l' c' ((mF es es.length).map Nb):=by
 refine aX (args:=[.slice O l c]) mixed Tryz.func75 av (pO O l c) ?_;unfold kF aY bq aT bd aZ aM cR;have hll:=v.len;refine aQ (cs:=kA) (fun y m h'=>∃ i:Nat,y.2.1=(i:Int)/\m=es.length-i/\i<=es.length/\Ext H h'/\SL h' H.size 3 1 y.1.1 y.1.2.1 y.1.2.2 ((mF es i).map Nb)) ((none,0,0),(0:Int),()) es.length rfl
  ⟨0,rfl,rfl,ad,Ch.refl _ _,SL.nil _ _ _ _⟩ ?_
 rintro ⟨⟨k,b,n⟩,D,⟨⟩⟩ m h1 ⟨i,hi,rfl,s,d,f⟩;simp only at hi f;subst hi;refine ak ?_;have t:b=(mF es i).length:=by have:=f.1; rwa [ab9] at this
 have hbl:=LN es i;refine aK ?_ ?_<;>intro q
 ·have o:i<es.length:=ad
  have hw:=hY i;have he:=ad9 o;have hbs:=Ir es i;refine aE (SB (c:=c) (v.aj d) hn hl ht he) ?_;rintro _ h2 ⟨g,rfl⟩;rw [DZ he];refine ⟨(Ww es i,()),rfl,ak ?_⟩;have s2:=f.bF g ai;refine ao ?_ ?_<;>intro r
  ·rw [af9 r] at hbs
   have:=(d.trans g).size
   refine fg (vs:=Nb i) uL TU rfl ad ad (Fq _) rfl rfl s2 ad ad ad ?_;intro p' c' F u A B;refine aD (cs:=kA) ((p',b+1,c'),((i+1:Nat):Int),()) (es.length-(i+1)) rfl ad (aq9 (fun z=>[Value.slice p' (b+1) c',Value.int .i64 z]) hw) ?_;exact ⟨i+1,rfl,rfl,ad,Ch.trans (d.trans g) A (fun j C hl=>by have:=(s2.cw C).1; omega),by rw [hbs,ao9]; exact u⟩
  ·rw [ac9 (by rw [r]; simp),bz9] at hbs;refine aD (cs:=kA) ((k,b,n),((i+1:Nat):Int),()) (es.length-(i+1)) rfl ad (aq9 (fun z=>[Value.slice k b n,Value.int .i64 z]) hw) ?_;exact ⟨i+1,rfl,rfl,ad,d.trans g,by rw [hbs]; exact s2⟩
 ·have:i=es.length:=ad
  subst this;exact ⟨d,k,b,n,rfl,f⟩
noncomputable def dM (es:List cT):Option Nat:=by
 classical
 exact es.findIdx? fun e=>decide (kV (dA es) e.name)
def Js {es:List cT} {i:Nat} {r:List Nat} (h:mF es es.length=i::r):i<es.length/\dM es=some i:=by
 unfold mF at h;obtain ⟨b,f,h1,h2,g,_⟩:=List.filter_eq_cons_iff.1 h;have e:es.length=b.length+(f.length+1):=by
  have:=aq9 List.length h1
  simpa using this
 have c:b.length=i:=by
  have:=aq9 (fun l:List Nat=>l[b.length]?) h1
  simp only [List.getElem?_append_right (Nat.le_refl _),Nat.sub_self,List.getElem?_cons_zero] at this;rw [dl9 ad] at this;exact ay9 this
 subst c;have d:b.length<es.length:=ad
 refine ⟨d,?_⟩;unfold dM;rw [be9];refine ⟨d,?_,fun j k=>?_⟩
 ·rw [DZ (ad9 d)];exact g
 ·rw [DZ (ad9 ad)];refine h2 j ?_
  have:=aq9 (fun l:List Nat=>l[j]?) h1
  simp only [List.getElem?_append_left k] at this;rw [dl9 ad] at this;exact cm9 this.symm
def L8 {es:List cT} (h:mF es es.length=[]):dM es=none:=by
 unfold mF at h;unfold dM;rw [bu9];intro e b;obtain ⟨i,hi⟩:=List.getElem?_of_mem b;rw [DZ hi]
 have:=List.filter_eq_nil_iff.1 h i (du9.2 (ax9.1 hi).1)
 simpa using this
def UN (of:Xaa->Option bJ):Nat->bJ->bJ
 | 0,x=>x
 | t+1,x=>dr of (UN of t x)
theorem tK (of:Xaa->Option bJ):∀ (l:dm) (n:Nat),n<4294967296->l.foldl (gC of) n<4294967296
 | [],n,h=>h
 | t::l,n,h=>by
  rw [br9];refine tK of l _ ?_;unfold gC;split
  ·exact h
  ·exact fs9 _ bQ
structure ua (S:List Xaa) (x:bJ):Prop where
 nf:Nf x.ah
 num:x.num<4294967296
 fx:∀ t,t∈x.ah->t.1∈S
def ua.put {S:List Xaa} {es:List cT} (b:∀ e,e∈es->ua S e.x) (h:ua S U):ua S (dr (cD es) U) :=
 ⟨eM _ _,tK _ _ _ h.num,Kv h.fx fun e c=>(b e c).fx⟩
theorem ua.it {S:List Xaa} {es:List cT} (b:∀ e,e∈es->ua S e.x) {x:bJ} (h:ua S x):∀ t,ua S (UN (cD es) t x)
 | 0=>h
 | t+1=>(ua.it b h t).put b
structure SX (B:Nat) (h0 h':Hp) (p:Xac) (l c:Nat) (es ms:List cT) (f:Nat->Nat):Prop where
 out:SL h' h0.size 116 3 p l c (ms.map AS)
 len:ms.length=es.length
 eq:∀ j e m,es[j]?=some e->ms[j]?=some m->m.name=e.name/\m.x=UN (cD es) (f j) e.x
 fx:∀ m,m∈ms->ik h' m.p m.l m.x.ah
 low:∀ m,m∈ms->∀ i,i∈aG m.p->(B<=i/\i<h'.size)/\i∉aG p
def Sd (ms:List cT) (i:Nat) (m:cT):(ms.map AS).set i (AS m)=(ms.set i m).map AS:=by rw [fd9]
def SM {l:Nat} {es:List cT} (v:uS H O l es):(O=none/\es.map AS=[])\/∃ a,O=some a/\aF H a 0 (es.map AS).flatten:=by
 cases O with
 | none =>
  refine .inl ⟨rfl,?_⟩;cases es with
  | nil=>rfl
  | cons e es =>
   obtain ⟨a,b,_⟩:=v.cells 0 ai;cases b
 | some a =>
  refine .inr ⟨a,rfl,?_⟩
  have:=mv (h:=H) (a:=a) (sz:=3) (es.map AS) 0 (fun x c=>by obtain ⟨e,_,rfl⟩:=an9.1 c; rfl) (fun i hi=>by
   obtain ⟨a',b,hc⟩:=v.cells i (by simpa using hi);cases b;rw [am9,bv9];exact hc)
  rwa [Nat.zero_mul] at this
def Mm (e:cT):(AS e).all dl=true:=by unfold AS; simp [dl]
def IM (es:List cT):(es.map AS).flatten.all dl=true:=by
 rw [bm9];intro x c;obtain ⟨l,hl,b⟩:=List.mem_flatten.1 c;obtain ⟨e,_,rfl⟩:=an9.1 hl;exact bm9.1 (Mm e) x b
def Mn {l c:Nat} {es:List cT} {B:Nat} (hB:B<=H.size) (v:uS H O l es) (hb:∀ e,e∈es->∀ i,i∈aG e.p->B<=i/\i<H.size) (hn:(aU es).Nodup) (hl:es.length<=2^30) {S:List Xaa} (hS:S.length<=2^30) (u:∀ e,e∈es->ua S e.x) :
  HC Xaz 47 #[.slice O l c] H fun w h'=>Ext H h'/\match dM es with
   | some i=>w=.tuple #[.slice none 0 0,vI (i:Int),vI 24]
   | none=>∃ p' l' c' ms,w=.tuple #[.slice p' l' c',vI 0,vI 0]/\SX B H h' p' l' c' es ms (fun _=>es.length):=by
 refine aX (args:=[.slice O l c]) mixed Tryz.func47 av (ov O l c) ?_;unfold jv aR aY bq aH bM bd lr aC bj aZ aM;have hll:=v.len;have hlt:∀ e,e∈es->e.x.ah.length<=2^40:=fun e A=>by have:=AX (u e A).nf (u e A).fx; omega
 refine aE (Qo (c:=c) v hn ad hlt) ?_;rintro _ h1 ⟨X,p1,l1,c1,rfl,s1⟩;refine ⟨((p1,l1,c1),()),rfl,ak ?_⟩;have L:l1=(mF es es.length).length:=by have:=s1.1; rwa [ab9] at this
 refine aK ?_ ?_<;>intro g
 ·cases C:mF es es.length with
  | nil=>rw [C] at L; simp at L; omega
  | cons i r =>
   obtain ⟨hi,hf⟩:=Js C;obtain ⟨a,rfl,hc⟩:=SL.cells s1 (i:=0) (by rw [ab9,C]; simp);have hc:aF h1 a 0 [vI (i:Int)]:=by
    rw [am9,Nat.zero_mul,add_zero'] at hc;simp only [C,List.getElem_cons_zero] at hc;exact hc
   refine bK rfl ?_;refine ar ((i:Int),()) hc (ak ?_);refine ⟨⟨hc,trivial⟩,X,?_⟩;rw [hf]
 ·have hbn:mF es es.length=[]:=dx9.1 ad;rw [L8 hbn];refine qI (ys:=es.map AS) Di MH rfl (SM (v.aj X)) (by rw [ab9]; exact hll) (fun y hy=>by obtain ⟨e,_,rfl⟩:=an9.1 hy; rfl) (IM es) ad ad ?_;intro Y Z h2 s2 e2;have z1:=X.size;have e02:=X.trans e2;have o0:SX B H h2 Y l Z es es fun _=>0:=⟨s2.mono z1,rfl,fun j e m A E=>by rw [A] at E; cases E; exact ⟨rfl,rfl⟩,fun m E=>(v.fx m E).aj e02 ai,fun m E i hi=>by
   have h1:=hb m E i hi
   have:=e02.size
   exact ⟨⟨h1.1,ad⟩,fun M=>by have:=(s2.cw M).1; omega⟩⟩
  refine aQ (cs:=cF) (fun y m h'=>∃ (t:Nat) (ms:List cT),y.1=(t:Int)/\m=es.length-t/\t<=es.length/\Ext H h'/\SX B H h' Y l Z es ms fun _=>t) ((0:Int),()) es.length rfl ⟨0,es,rfl,rfl,ad,e02,o0⟩ ?_;rintro ⟨n10,⟨⟩⟩ m3 h3 ⟨t,ms,hi,rfl,hle,e3,o3⟩;simp only at hi;subst hi;refine ak ?_;refine aK ?_ ?_<;>intro q
  ·have hwt:=hY t;refine aQ (cs:=cF) (fun y m h'=>∃ (i:Nat) (ms:List cT),y.1=(i:Int)/\m=es.length-i/\i<=es.length/\Ext H h'/\SX B H h' Y l Z es ms fun j=>if j<i then t+1 else t) ((0:Int),()) es.length rfl ⟨0,ms,rfl,rfl,ad,e3,by simpa using o3⟩ ?_;rintro ⟨n11,⟨⟩⟩ m4 h4 ⟨i,f,hi,rfl,hle4,e4,k⟩;simp only at hi;subst hi;refine ak ?_;refine aK ?_ ?_<;>intro r
   ·have D:i<es.length:=ad
    have n:i<f.length:=by rw [k.len]; exact D
    have hwi:=hY i;obtain ⟨a,rfl,hc⟩:=SL.cells k.out (i:=i) (by rw [ab9]; exact n);rw [am9] at hc;obtain ⟨F,N⟩:=k.eq i es[i] f[i] (ad9 D) (ad9 n);have hmm:=al9 n;have hemm:=al9 D;have vm:=k.fx _ hmm;have lm:=k.low _ hmm;rw [ac9 ad] at N;have Q:f[i]?=some f[i]:=ad9 n;have R:es[i]?=some es[i]:=ad9 D;generalize f[i]=m at hc F N hmm vm lm Q;generalize es[i]=e at F N hemm R;have G:ua S m.x:=by rw [N]; exact ua.it u (u e hemm) t
    refine bK rfl ?_;rw [cr i];refine ar ((m.p,m.l,m.c),(m.x.num:Int),()) ⟨by rw [add_add]; exact hc.2.1,by rw [add_add]; exact hc.2.2.1,trivial⟩ ?_;refine ak ?_;have z4:=e4.size;refine aE (KM (c:=m.c) (d:=c) vm (v.aj e4) (fun j s=>(lm j s).1.2) (fun e A j s=>by have:=hb e A j s; omega) ad G.nf G.num (fun e A=>(u e A).nf) hS G.fx fun e A=>(u e A).fx) ?_;rintro _ h5 ⟨e5,p5,l5,c5,rfl,s5⟩;refine ⟨((p5,l5,c5),((dr (cD es) m.x).num:Int),()),rfl,ak ?_⟩;have z5:=e5.size;refine bK rfl ?_;have so:=k.out.bF e5 ai;refine SL.part (P:=Xaz) so (i:=i) (by rw [ab9]; exact n) (vs:=[.slice p5 l5 c5,.int .u32 ((dr (cD es) m.x).num:Int)]) (o:=1) ai (by simp [dl]) rfl ?_;intro h6 s6 k6 z6;have hse:(f.map AS).set i (lN ((f.map AS)[i]'(by rw [ab9]; exact n)) 1 [.slice p5 l5 c5,.int .u32 ((dr (cD es) m.x).num:Int)])=(f.set i ⟨m.name,p5,l5,c5,dr (cD es) m.x⟩).map AS:=by
     rw [<- Sd]
     congr 1
     rw [am9]
     have:f[i]=m:=(ax9.1 Q).2
     rw [this] <;> rfl
    rw [hse] at s6;have I:∀ j,j∈aG (some a)->H.size<=j/\j<h4.size:=fun j s=>k.out.cw s
    have e6:Ext H h6:=Ch.trans (e4.trans e5) k6 (fun j s hl=>by have:=I j s; omega);refine aD (cs:=cF) (((i+1:Nat):Int),()) (es.length-(i+1)) rfl ad (aq9 (fun z=>[Value.int .i64 z]) hwi) ⟨i+1,_,rfl,rfl,ad,e6,⟨s6,by rw [cx9]; exact k.len,fun j e' K J b=>?_,fun K b=>?_,fun K b j s=>?_⟩⟩
    ·by_cases U:i=j
     ·subst U;rw [eq9 n] at b;cases b;rw [R] at J;cases J;refine ⟨F,?_⟩;rw [af9 ad];show dr (cD es) m.x=dr (cD es) (UN (cD es) t e.x);rw [N]
     ·rw [dq9 U] at b;obtain ⟨h1,h2⟩:=k.eq j e' K J b;refine ⟨h1,h2.trans ?_⟩
      by_cases V:j<i
      ·rw [af9 V,af9 ad]
      ·rw [ac9 V,ac9 ad]
    ·rcases di9 b with b | rfl
     ·exact ((k.fx K b).aj e5 ai).aj k6 (fun j s=>(k.low K b j s).2)
     ·exact (s5.bF k6 (fun j s M=>by have:=(s5.cw s).1; have:=I j M; omega)).Nt
    ·rcases di9 b with b | rfl
     ·obtain ⟨h1,h2⟩:=k.low K b j s;exact ⟨⟨h1.1,ad⟩,h2⟩
     ·obtain ⟨h1,h2⟩:=s5.cw s;exact ⟨⟨ad,ad⟩,fun M=>by have:=I j M; omega⟩
   ·have:i=es.length:=ad
    subst this;refine aD (cs:=cF) (((t+1:Nat):Int),()) (es.length-(t+1)) rfl ad (aq9 (fun z=>[Value.int .i64 z]) hwt) ⟨t+1,f,rfl,rfl,ad,e4,⟨k.out,k.len,fun j e m A E=>?_,k.fx,k.low⟩⟩;obtain ⟨h1,h2⟩:=k.eq j e m A E;rw [af9 (ax9.1 A).1] at h2;exact ⟨h1,h2⟩
  ·have:t=es.length:=ad
   subst this;exact ⟨e3,Y,l,Z,ms,rfl,o3⟩
theorem rV (s:Xaa):∀ l:dm,gI (fun r=>if r=s then 1 else 0) l=cf l s
 | []=>rfl
 | p::l=>by
  rw [fm,fh,rV s l]
  congr 1
  split <;> simp
theorem pt:∀ l:dm,gI (fun _=>0) l=0
 | []=>rfl
 | p::l=>by rw [fm,pt l]; simp
def Ko {y:bJ} (e:Nf U.ah) (g:Nf y.ah) (nx:U.num<4294967296) (j:y.num<4294967296) (h:∀ f,jQ f U=jQ f y):U=y:=by
 have h0:=h fun _=>0
 unfold jQ at h0;rw [pt,pt] at h0;have hn:U.num=y.num:=ad
 have ht:U.ah=y.ah:=e.Mz g fun s=>by
  have h1:=h fun r=>if r=s then 1 else 0
  unfold jQ at h1;rw [rV,rV] at h1;omega
 obtain ⟨a,b⟩:=U;obtain ⟨c,d⟩:=y;simp only at hn ht;rw [hn,ht]
def Jw (of:Xaa->Option bJ) (f:Xaa->Nat) (s:Xaa):Nat:=match of s with
 | none=>f s
 | some y=>jQ f y
def fU (of:Xaa->Option bJ) (f:Xaa->Nat) (x:bJ):jQ f (dr of x)=jQ (Jw of f) x:=N8 (fun s=>by unfold Jw; rfl) x
theorem Bj {f g:Xaa->Nat}:∀ {l:dm},(∀ t,t∈l->f t.1=g t.1)->gI f l=gI g l
 | [],_=>rfl
 | p::l,h=>by rw [fm,fm,h p ai,Bj fun t ht=>h t (ap9 _ ht)]
def pS {f g:Xaa->Nat} {x:bJ} (h:∀ t,t∈x.ah->f t.1=g t.1):jQ f x=jQ g x:=by
 unfold jQ;rw [Bj h]
section
variable {own:Xaa->Bool} {lin:Xaa->bJ}
def WG (own:Xaa->Bool) (lin:Xaa->bJ) (t:Nat) (s:Xaa):Option bJ:=if own s=true then some (rJ own lin t s) else none
def zn (own:Xaa->Bool) (lin:Xaa->bJ) (s:Xaa):Option bJ:=if own s=true then some (lin s) else none
def tg (t:Nat) (v:Xaa):rJ own lin (t+1) v=dr (WG own lin t) (lin v):=rfl
theorem Df (b:∀ v,own v=true->(lin v).num<4294967296):∀ (t:Nat) (v:Xaa),own v=true->dr (zn own lin) (rJ own lin t v)=rJ own lin (t+1) v
 | 0,v,hv=>rfl
 | t+1,v,hv=>by
  rw [tg (t+1) v,tg t v];refine Ko (eM _ _) (eM _ _) (tK _ _ _ (tK _ _ _ (b v hv))) (tK _ _ _ (b v hv)) fun f=>?_
  rw [fU,fU,fU];refine pS fun u _=>?_
  generalize u.1=s;unfold Jw WG
  by_cases c:own s=true
  ·rw [af9 c,af9 c];show jQ (Jw (zn own lin) f) (rJ own lin t s)=jQ f (rJ own lin (t+1) s);rw [<- Df b t s c,fU]
  ·rw [ac9 c,ac9 c];show (match zn own lin s with | none=>f s | some y=>jQ f y)=f s;unfold zn;rw [ac9 c]
theorem FQ (b:∀ v,own v=true->(lin v).num<4294967296):∀ (t:Nat) (v:Xaa),own v=true->UN (zn own lin) t (lin v)=rJ own lin t v
 | 0,v,hv=>rfl
 | t+1,v,hv=>by
  show dr (zn own lin) (UN (zn own lin) t (lin v))=_;rw [FQ b t v hv,Df b t v hv]
end
def Tg {es:List cT} (hn:(aU es).Nodup) (c:∀ e,e∈es->e.x.num<4294967296) {e:cT} (j:e∈es):UN (cD es) es.length e.x=fl es e.name:=by
 have f:cC es e.name=true:=by
  unfold cC;cases g:kW es e.name with
  | some k=>rfl
  | none =>
   unfold kW at g;rw [bu9] at g
   have:=g e j
   simp at this
 have b:∀ v,cC es v=true->(du es v).num<4294967296:=by
  intro v hv;unfold cC at hv;obtain ⟨k,hk⟩:=cl9.1 hv;obtain ⟨d,l,h⟩:=vK hk;rw [<- h,qQ hn (cm9 l)];exact c d (cm9 l)
 have h1:=FQ b es.length e.name f;rw [qQ hn j] at h1;have h2:zn (cC es) (du es)=cD es:=rfl;rw [h2] at h1;rw [h1];unfold fl Ki aU;rw [ab9]
def zP (K:Ky->Prop) (a b:Ky->Xaa) (x y:bJ):Prop:=∀ f g:Xaa->Nat,(∀ k,K k->f (a k)=g (b k))->jQ f x=jQ g y
def zP.symm {K:Ky->Prop} {a b:Ky->Xaa} {x y:bJ} (h:zP K a b x y):zP K b a y x:=fun f g c=>(h g f fun k hk=>(c k hk).symm).symm
structure wv {δ:Type} (Q:List δ) (ky:δ->Ky) (K:Ky->Prop) (a b:Ky->Xaa) (xa xb:δ->bJ):Prop where
 nd:(Q.map ky).Nodup
 RO:∀ q,q∈Q->K (ky q)
 ia:∀ k k',K k->K k'->a k=a k'->k=k'
 ib:∀ k k',K k->K k'->b k=b k'->k=k'
 Uv:∀ k,K k->k∉Q.map ky->a k=b k
 rel:∀ q,q∈Q->zP K a b (xa q) (xb q)
 fa:∀ q,q∈Q->Nf (xa q).ah
 fb:∀ q,q∈Q->Nf (xb q).ah
def wv.symm {δ:Type} {Q:List δ} {ky:δ->Ky} {K:Ky->Prop} {a b:Ky->Xaa} {xa xb:δ->bJ} (t:wv Q ky K a b xa xb):wv Q ky K b a xb xa :=
 ⟨t.nd,t.RO,t.ib,t.ia,fun k hk hn=>(t.Uv k hk hn).symm,fun q c=>(t.rel q c).symm,t.fb,t.fa⟩
def wD {δ:Type} (Q:List δ) (ky:δ->Ky) (a:Ky->Xaa) (xa:δ->bJ):List (Xaa × bJ):=Q.map fun q=>(a (ky q),xa q)
def wV (D:List (Xaa × bJ)):Sx.aU (eY D)=D.map (·.1):=by
 have:=aq9 (List.map (·.1)) (qx D)
 rw [bf9] at this;exact this
def tE {D:List (Xaa × bJ)} {s:Xaa}:cC (eY D) s=true↔s∈D.map (·.1):=by rw [dQ,wV]
theorem U2:∀ {l:dm} {t:Xaa × Nat},Nf l->t∈l->cf l t.1=t.2
 | [],t,_,h=>by simp at h
 | p::l,t,n,h=>by
  rcases bd9.1 h with h | h
  ·subst h;exact n.nK
  ·rw [fh,ac9 (jT (n.head t h)),bv9];exact U2 n.tail h
def Ps {l:dm} (n:Nf l) {s:Xaa}:s∈l.map (·.1)↔cf l s % 4294967296≠0:=by
 constructor
 ·intro h;obtain ⟨t,ht,rfl⟩:=an9.1 h;rw [U2 n ht]
  have:=n.2 t ht
  omega
 ·intro h;apply ew9;intro k;exact h (by rw [Ad fun p b e=>k (an9.2 ⟨p,b,e⟩)])
section
variable {δ:Type} {Q:List δ} {ky:δ->Ky} {K:Ky->Prop} {a b:Ky->Xaa} {xa xb:δ->bJ}
def Ba:(wD Q ky a xa).map (·.1)=(Q.map ky).map a:=by
 unfold wD;rw [bf9,bf9] <;> rfl
def wv.Wy (t:wv Q ky K a b xa xb):((wD Q ky a xa).map (·.1)).Nodup:=by
 rw [Ba];have h:=t.nd;rw [eb9] at h ⊢;rw [cp9];refine List.Pairwise.imp_of_mem ?_ h;intro k k' hk c d e;obtain ⟨q,f,rfl⟩:=an9.1 hk;obtain ⟨r,g,rfl⟩:=an9.1 c;exact d (t.ia _ _ (t.RO q f) (t.RO r g) e)
def wv.own (t:wv Q ky K a b xa xb) {k:Ky} (hk:K k):cC (eY (wD Q ky a xa)) (a k)=true↔k∈Q.map ky:=by
 rw [tE,Ba,an9];constructor
 ·rintro ⟨k',c,e⟩;obtain ⟨q,d,rfl⟩:=an9.1 c;rw [<- t.ia _ _ (t.RO q d) hk e];exact c
 ·intro h;exact ⟨k,h,rfl⟩
def wv.lin (t:wv Q ky K a b xa xb) {q:δ} (c:q∈Q):du (eY (wD Q ky a xa)) (a (ky q))=xa q:=by
 have h2:(⟨a (ky q),none,0,0,xa q⟩:cT)∈eY (wD Q ky a xa):=an9.2 ⟨(a (ky q),xa q),an9.2 ⟨q,c,rfl⟩,rfl⟩;exact qQ (by rw [wV]; exact t.Wy) h2
def zP.cf {x y:bJ} (h:zP K a b x y) {k:Ky} (d:∀ k',K k'->a k'=a k->k'=k) (f:∀ k',K k'->b k'=b k->k'=k):cf x.ah (a k) % 4294967296=cf y.ah (b k) % 4294967296:=by
 have h0:=h (fun _=>0) (fun _=>0) fun _ _=>rfl
 have h1:=h (fun r=>if r=a k then 1 else 0) (fun r=>if r=b k then 1 else 0) fun k' c=>by
  by_cases e:k'=k
  ·subst e
   simp
  ·rw [ac9 fun x=>e (d k' c x),ac9 fun x=>e (f k' c x)]
 unfold jQ at h0 h1;rw [pt,pt] at h0;rw [rV,rV] at h1;omega
def wv.X9 (t:wv Q ky K a b xa xb) {q r:δ} (d:q∈Q) (f:r∈Q) (h:dA (eY (wD Q ky a xa)) (a (ky q)) (a (ky r))):dA (eY (wD Q ky b xb)) (b (ky q)) (b (ky r)):=by
 obtain ⟨h1,h2⟩:=h;refine ⟨?_,(t.symm.own (t.RO r f)).2 (bc9 f)⟩;unfold cS at h1 ⊢;rw [t.lin d,Ps (t.fa q d)] at h1;rw [t.symm.lin d,Ps (t.fb q d)];rw [(t.rel q d).cf (fun k' c e=>t.ia _ _ c (t.RO r f) e) (fun k' c e=>t.ib _ _ c (t.RO r f) e)] at h1;exact h1
def wv.zB (t:wv Q ky K a b xa xb) {s u:Xaa} (h:dA (eY (wD Q ky a xa)) s u):∃ r,r∈Q/\u=a (ky r):=by
 have h2:=h.2;rw [tE,Ba] at h2;obtain ⟨k,hk,rfl⟩:=an9.1 h2;obtain ⟨r,c,rfl⟩:=an9.1 hk;exact ⟨r,c,rfl⟩
def wv.U3 (t:wv Q ky K a b xa xb) {u v:Xaa} (h:qD (dA (eY (wD Q ky a xa))) u v):∀ q r,q∈Q->r∈Q->u=a (ky q)->v=a (ky r)->qD (dA (eY (wD Q ky b xb))) (b (ky q)) (b (ky r)):=by
 induction h with
 | refl u =>
  intro q r c d f g;rw [t.ia _ _ (t.RO q c) (t.RO r d) (f.symm.trans g)];exact .refl _
 | head e _ k =>
  intro q r c d f g;subst f;obtain ⟨m,j,rfl⟩:=t.zB e;exact .head (t.X9 c j e) (k m r j d rfl g)
def wv.Yw (t:wv Q ky K a b xa xb) {q:δ} (c:q∈Q) (h:kV (dA (eY (wD Q ky a xa))) (a (ky q))):kV (dA (eY (wD Q ky b xb))) (b (ky q)):=by
 obtain ⟨y,h1,h2⟩:=h;obtain ⟨m,d,rfl⟩:=t.zB h1;exact ⟨_,t.X9 c d h1,t.U3 h2 m q d c rfl rfl⟩
def wv.onc (t:wv Q ky K a b xa xb) {q:δ} (c:q∈Q):kV (dA (eY (wD Q ky a xa))) (a (ky q))↔kV (dA (eY (wD Q ky b xb))) (b (ky q)):=⟨t.Yw c,t.symm.Yw c⟩
def wv.XT (t:wv Q ky K a b xa xb):ma (wD Q ky a xa)=dM (eY (wD Q ky b xb)):=by
 classical
 unfold ma dM;have h2:∀ D:List (Xaa × bJ),∀ P:Xaa->Bool,(eY D).findIdx? (fun e=>P e.name)=D.findIdx? fun y=>P y.1:=by
  intro D P;unfold eY;rw [fi9] <;> rfl
 have h3:=h2 (wD Q ky b xb) (fun s=>decide (kV (dA (eY (wD Q ky b xb))) s));rw [h3];have c:∀ l:List δ,(∀ q,q∈l->q∈Q)->(l.map fun q=>(a (ky q),xa q)).findIdx? (fun y=>decide (kV (dA (eY (wD Q ky a xa))) y.1))=(l.map fun q=>(b (ky q),xb q)).findIdx? (fun y=>decide (kV (dA (eY (wD Q ky b xb))) y.1)):=by
  intro l
  induction l with
  | nil=>intro _; rfl
  | cons q l d =>
   intro hl;rw [bo9,bo9,List.findIdx?_cons,List.findIdx?_cons,d fun r f=>hl r (ap9 _ f)];have g:decide (kV (dA (eY (wD Q ky a xa))) (a (ky q)))=decide (kV (dA (eY (wD Q ky b xb))) (b (ky q))):=fo9.2 (t.onc (hl q (cv9 ..)));simp only [g]
 exact c Q fun q h=>h
theorem wv.Ki (t:wv Q ky K a b xa xb):∀ (n:Nat) (q:δ),q∈Q->zP K a b (rJ (cC (eY (wD Q ky a xa))) (du (eY (wD Q ky a xa))) n (a (ky q))) (rJ (cC (eY (wD Q ky b xb))) (du (eY (wD Q ky b xb))) n (b (ky q)))
 | 0,q,c=>by
  show zP K a b (du (eY (wD Q ky a xa)) (a (ky q))) (du (eY (wD Q ky b xb)) (b (ky q)));rw [t.lin c,t.symm.lin c];exact t.rel q c
 | n+1,q,c=>by
  intro f g d;rw [tg,tg,fU,fU,t.lin c,t.symm.lin c];refine t.rel q c _ _ fun k hk=>?_
  unfold Jw WG
  by_cases e:k∈Q.map ky
  ·rw [af9 ((t.own hk).2 e),af9 ((t.symm.own hk).2 e)];obtain ⟨r,j,rfl⟩:=an9.1 e;exact wv.Ki t n r j f g d
  ·rw [ac9 fun h=>e ((t.own hk).1 h),ac9 fun h=>e ((t.symm.own hk).1 h)];exact d k hk
def Ua {D:List (Xaa × bJ)} (s:Xaa):fl (eY D) s=rJ (cC (eY D)) (du (eY D)) D.length s:=by
 unfold fl Ki;rw [wV,ab9]
def O4 {D:List (Xaa × bJ)} (s:Xaa):cC (eY (jg D)) s=cC (eY D) s:=by
 have h:(jg D).map (·.1)=D.map (·.1):=by
  unfold jg;rw [bf9] <;> rfl
 rw [ec9,tE,tE,h]
def r8 {D:List (Xaa × bJ)} (hn:(D.map (·.1)).Nodup) (s:Xaa):cD (eY (jg D)) s=if cC (eY D) s=true then some (fl (eY D) s) else none:=by
 unfold cD;rw [O4]
 by_cases h:cC (eY D) s=true
 ·rw [af9 h,af9 h];rw [tE] at h;obtain ⟨y,c,rfl⟩:=an9.1 h;have h0:(jg D).map (·.1)=D.map (·.1):=by
   unfold jg;rw [bf9] <;> rfl
  have h2:(⟨y.1,none,0,0,fl (eY D) y.1⟩:cT)∈eY (jg D):=an9.2 ⟨(y.1,fl (eY D) y.1),an9.2 ⟨y,c,rfl⟩,rfl⟩;exact aq9 some (qQ (by rw [wV,h0]; exact hn) h2)
 ·rw [ac9 h,ac9 h]
def wv.put (t:wv Q ky K a b xa xb) {x y:bJ} (h:zP K a b x y):zP K a b (oi (jg (wD Q ky a xa)) x) (oi (jg (wD Q ky b xb)) y):=by
 intro f g c;unfold oi;rw [fU,fU];refine h _ _ fun k hk=>?_
 unfold Jw;rw [r8 t.Wy,r8 t.symm.Wy]
 by_cases d:k∈Q.map ky
 ·rw [af9 ((t.own hk).2 d),af9 ((t.symm.own hk).2 d)];obtain ⟨r,e,rfl⟩:=an9.1 d;have j:(wD Q ky a xa).length=Q.length:=by unfold wD; rw [ab9]
  have l:(wD Q ky b xb).length=Q.length:=by unfold wD; rw [ab9]
  simp only [Ua,j,l];exact t.Ki Q.length r e f g c
 ·rw [ac9 fun h=>d ((t.own hk).1 h),ac9 fun h=>d ((t.symm.own hk).1 h)];exact c k hk
def Kf {D:List (Xaa × bJ)} (hn:(D.map (·.1)).Nodup) (hc:∀ v,¬ kV (dA (eY D)) v) {x:bJ}:∀ u,u∈(oi (jg D) x).ah->cC (eY D) u.1=false:=by
 intro u d;unfold oi at d;rcases pY d with ⟨p,f,e,ho⟩ | ⟨p,y,v,f,ho,hv,e⟩
 ·rw [r8 hn] at ho;cases c:cC (eY D) u.1 with
  | false=>rfl
  | true=>rw [af9 c] at ho; cases ho
 ·rw [r8 hn] at ho
  by_cases c:cC (eY D) p.1=true
  ·rw [af9 c] at ho;have ho:=ay9 ho;subst ho
   have:=(tv (own:=cC (eY D)) (lin:=du (eY D)) (names:=Sx.aU (eY D)) (fun s=>dQ _ s) hc ((dQ _ _).1 c) v hv).1
   rw [<- e];exact this
  ·rw [ac9 c] at ho; cases ho
def Jv {D:List (Xaa × bJ)} (h:ma D=none):∀ v,¬ kV (dA (eY D)) v:=by
 classical
 intro v hv;unfold ma at h;rw [bu9] at h;have c:∃ u,cC (eY D) u=true/\kV (dA (eY D)) u:=by
  obtain ⟨y,h1,h2⟩:=hv;refine ⟨y,h1.2,?_⟩;have d:qD (dA (eY D)) v y:=.one h1;cases h2 with
  | refl=>exact ⟨_,h1,.refl _⟩
  | head e r=>exact ⟨_,e,r.trans d⟩
 obtain ⟨u,h1,h2⟩:=c;rw [tE] at h1;obtain ⟨q,f,rfl⟩:=an9.1 h1
 have:=h q f
 exact absurd h2 (ar9 this)
def wv.same (t:wv Q ky K a b xa xb) (hc:ma (wD Q ky a xa)=none) {x y:bJ} (h:zP K a b x y) (e:x.num<4294967296) (g:y.num<4294967296):oi (jg (wD Q ky a xa)) x=oi (jg (wD Q ky b xb)) y:=by
 classical
 have ca:=Jv hc;have j:∀ v,¬ kV (dA (eY (wD Q ky b xb))) v:=Jv (by
  have h1:=t.XT;have h2:=t.symm.XT;rw [hc] at h1
  have:ma (wD Q ky b xb)=dM (eY (wD Q ky b xb)):=by
   unfold ma dM eY;rw [fi9] <;> rfl
  rw [this,<- h1])
 refine Ko (eM _ _) (eM _ _) (jc e) (jc g) fun f=>?_
 have l:jQ f (oi (jg (wD Q ky a xa)) x)=jQ (fun s=>if cC (eY (wD Q ky a xa)) s=true then 0 else f s) (oi (jg (wD Q ky a xa)) x):=pS fun u d=>by
  rw [Kf t.Wy ca u d] <;> rfl
 have m:jQ f (oi (jg (wD Q ky b xb)) y)=jQ (fun s=>if cC (eY (wD Q ky b xb)) s=true then 0 else f s) (oi (jg (wD Q ky b xb)) y):=pS fun u d=>by
  rw [Kf t.symm.Wy j u d] <;> rfl
 rw [l,m];refine t.put h _ _ fun k hk=>?_
 by_cases c:k∈Q.map ky
 ·rw [af9 ((t.own hk).2 c),af9 ((t.symm.own hk).2 c)]
 ·rw [ac9 fun h=>c ((t.own hk).1 h),ac9 fun h=>c ((t.symm.own hk).1 h),t.Uv k hk c]
end
def K4 {l c:Nat} {xs:List Xaa} (n:l=xs.length) (hc:∀ i,(hi:i<xs.length)->∃ a,O=some a/\aF H (a.add (i*1)) 0 [.string xs[i]]) (hl:xs.length<=2^61) (s:Xaa):uo Xaz 52 [.slice O l c,.string s] H (.bool (gw xs s)):=by
 refine eX mixed Tryz.func52 av (jC O l c s) ?_;unfold iw aR aY bq aH bH dX aM ct;refine aQ (cs:=jP) (fun y m h'=>∃ i:Nat,y.2.1=(i:Int)/\m=xs.length-i/\i<=xs.length/\h'=H/\gw (xs.take i) s=false) (false,(0:Int),()) xs.length rfl
  ⟨0,rfl,rfl,ad,rfl,rfl⟩ ?_
 rintro ⟨e,j,⟨⟩⟩ m h' ⟨i,hi,rfl,f,rfl,hn⟩;simp only at hi;subst hi;refine ak ?_;refine aK ?_ ?_<;>intro q
 ·have b:i<xs.length:=ad
  obtain ⟨a,g,d⟩:=hc i b;refine bK g ?_;rw [cr i];refine ar (xs[i],()) d (ak ?_);have hs:=YV xs s i b;rw [rG];refine ao ?_ ?_<;>intro r
  ·have r:=ah9 r;refine ⟨aq9 Value.bool ?_,rfl⟩;unfold gw;exact (dy9.2 ⟨_,al9 b,ai9 r⟩).symm
  ·rw [hn,r] at hs;refine aD (cs:=jP) (e,((i+1:Nat):Int),()) (xs.length-(i+1)) rfl ad (by rw [wrap_i64 ad ad]; rfl) ?_;exact ⟨i+1,rfl,rfl,ad,rfl,hs⟩
 ·have:i=xs.length:=ad
  subst this;rw [bl9] at hn;exact ⟨by rw [hn],rfl⟩
def jL (us:List cg) (n:Nat) (s:Xaa):Option Nat :=
 if (us[n]?.map fun u=>gw (fN u) s)=some true then some n else us.findIdx? fun u=>gw u.aS s
structure M4 (us:List cg):Prop where
 many:us.length<=2^20
 text:∀ u,u∈us->u.text.length<=2^20
 data:∀ u,u∈us->u.data.length<=2^20
 bg:∀ u,u∈us->u.bg.length<=2^20
def GG {l c:Nat} {us:List cg} (v:xt H O l us) (sz:M4 us) {n:Nat} (hn:n<us.length) (s:Xaa) :
  HC Xaz 72 #[.slice O l c,vI (n:Int),.string s] H fun w h'=>w=vI (Ty (jL us n s))/\Ext H h':=by
 refine aX (args:=[.slice O l c,vI (n:Int),.string s]) mixed Tryz.func72 av (nW O l c n s) ?_;unfold jE aR aY bq aH aT bM aM;have hll:=v.len;have hmany:=sz.many;have d:us[n]?=some us[n]:=ad9 hn;obtain ⟨a,sa,sb,sc,sd,rfl,hc,C⟩:=v.cells n hn;have hm:=al9 hn;generalize us[n]=u at d hc C hm;refine bK rfl ?_;rw [cr n];refine ar ((sa.p,sa.l,sa.c),(sb.p,sb.l,sb.c),(sc.p,sc.l,sc.c),(sd.p,sd.l,sd.c),()) hc (ak ?_);refine aE (EJ C (sz.text u hm) (sz.data u hm) (sz.bg u hm)) ?_;rintro _ h1 ⟨D,E,F,rfl,G,o⟩;refine ⟨((D,E,F),()),rfl,ak ?_⟩;have t:(fN u).length<=2^61:=by
  have h1:=sz.text u hm;have h2:=sz.data u hm;have h3:=sz.bg u hm;unfold fN eG;rw [ae9,ae9,ab9,ab9,ab9];have h4:=do9 (fun x:cz=>decide (x.kind=1)) u.text;have h5:=do9 (fun x:cz=>decide (x.kind=1)) u.data;omega
 refine aJ (Ek G t s) ?_;refine ao ?_ ?_<;>intro q
 ·refine ⟨?_,o⟩;unfold jL;rw [d,fq9,q,af9 rfl] <;> rfl
 ·have I:jL us n s=us.findIdx? fun u=>gw u.aS s:=by
   unfold jL;rw [d,fq9,q,ac9 ai]
  rw [I];refine aQ (cs:=fH) (fun y m h'=>∃ i:Nat,y.2.1=(i:Int)/\m=us.length-i/\i<=us.length/\h'=h1/\∀ j,j<i->(b:j<us.length)->gw us[j].aS s=false) ((0:Int),(0:Int),()) us.length rfl
   ⟨0,rfl,rfl,ad,rfl,fun j b=>absurd b ad⟩ ?_
  rintro ⟨J,P,⟨⟩⟩ m h' ⟨i,hi,rfl,K,rfl,f⟩;simp only at hi;subst hi;refine ak ?_;refine aK ?_ ?_<;>intro q
  ·have k:i<us.length:=ad
   obtain ⟨a',Q,R,S,z,A,B,g⟩:=(v.aj o).cells i k;refine gR (bf A ?_);rw [cr i];refine ar ((z.p,z.l,z.c),()) ⟨by rw [add_add]; exact B.2.2.2.1,trivial⟩ ?_;refine ak ?_;refine aJ (K4 g.aS.len (fun j b=>by
    obtain ⟨a,L,hc,_⟩:=g.aS.cells j b;exact ⟨a,L,hc⟩) (by have:=g.aS.many; omega) s) ?_
   refine ao ?_ ?_<;>intro r
   ·refine ⟨?_,o⟩;rw [show us.findIdx? (fun u=>gw u.aS s)=some i from by
     rw [be9];exact ⟨k,r,fun j b=>by rw [f j b ad]; simp⟩]
    rfl
   ·refine aD (cs:=fH) (J,((i+1:Nat):Int),()) (us.length-(i+1)) rfl ad (by rw [wrap_i64 ad ad]; rfl) ?_;exact ⟨i+1,rfl,rfl,ad,rfl,fun j b M=>by
     by_cases e:j=i
     ·subst e; exact r
     ·exact f j ad M⟩
  ·have:i=us.length:=ad
   subst this;refine ⟨?_,o⟩;rw [show us.findIdx? (fun u=>gw u.aS s)=none from by
    rw [bu9];intro u N;obtain ⟨j,b,rfl⟩:=bg9 N;exact f j b b]
   rfl
end Go.Sx.Lk
