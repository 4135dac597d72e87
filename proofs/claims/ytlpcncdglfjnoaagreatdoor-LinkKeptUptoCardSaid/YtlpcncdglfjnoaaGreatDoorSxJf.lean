/- Part of the framework. No condition. -/
import Derived.Test.YtlpcncdglfjnoaaGreatDoorSxJe
set_option linter.all false
set_option maxHeartbeats 4000000
namespace Go.Sx.Cr
section
variable {C:Cx} {h0:Hp} {ρ:ix} {s s1:CS} {h:Hp} {e:Ev} {e':Env} {L:Lp} {K:Xab->Hp->Prop} {kk:Xab->T}
def JX {c a:List Xab} {v:Xab} (hv:eC ρ c a) (b:L5 c=some v):∃ v',a=[v']/\VR ρ v v':=by
 unfold L5 at b;split at b
 ·cases b;cases hv with
  | cons h t=>cases t; exact ⟨_,rfl,h⟩
 ·cases b
def QD (R:Rel C h0 ρ s.σ h) {c:Call} {t:TypeId} {v v' u:Xab} (hv:VR ρ v v') (a:Ug s ((c.argTypes[0]?).bind C.P.underlying) v=some u):VR ρ u u/\∀ (kk:Xab->T) (L:Lp) (K:Xab->Hp->Prop),kk u L K h->AG C.P c t [v'] kk L K h:=by
 unfold Ug at a;cases f:(c.argTypes[0]?).bind C.P.underlying with
 | none=>rw [f] at a; cases a
 | some d =>
  rw [f] at a;cases d <;> first | (cases a; done) | skip
  case string =>
   cases hv <;> first | (cases a; done) | skip
   cases a;refine ⟨.int _ _,fun kk L K hk=>?_⟩;unfold AG;simp only [f];exact hk
  case slice r =>
   cases hv <;> first | (cases a; done) | skip
   ·cases a;refine ⟨.int _ _,fun kk L K hk=>?_⟩;unfold AG;simp only [f];exact hk
   ·cases a;refine ⟨.int _ _,fun kk L K hk=>?_⟩;unfold AG;simp only [f];exact hk
  case map k r =>
   cases hv <;> first | (cases a; done) | skip
   rename_i b pl i;obtain ⟨n,hn,a⟩:=YX.1 a;cases a;obtain ⟨o,j,hn⟩:=YX.1 hn;have l:∃ (es:Array MapEntry) (clock:Nat),h[pl.cj]?=some (.map es clock)/\es.size=n:=by
    cases o <;> first | (cases hn; done) | skip
    ·cases hn;obtain ⟨_,q,⟨es,clock,h1,h2,_⟩,g⟩:=R.row j i;refine ⟨es,clock,h1,?_⟩
     have:=Zg List.length h2
     simp only [List.length_map,Array.length_toList] at this;rw [this,g.length]
    ·cases hn;obtain ⟨_,q,⟨es,clock,h1,h2,_⟩,g⟩:=R.row j i;refine ⟨es,clock,h1,?_⟩
     have:=Zg List.length h2
     simp only [List.length_map,Array.length_toList] at this;rw [this,g.length]
    ·cases hn;obtain ⟨_,q,⟨es,clock,h1,h2,_⟩,g⟩:=R.row j i;refine ⟨es,clock,h1,?_⟩
     have:=Zg List.length h2
     simp only [List.length_map,Array.length_toList] at this;rw [this,g.length]
   obtain ⟨es,clock,h1,h2⟩:=l;refine ⟨.int _ _,fun kk L K hk=>?_⟩;unfold AG;simp only [f];obtain ⟨w,m,p⟩:=YX.1 f;show aZ _ _ _ _;unfold Builtin.len_;simp only [m,List.getElem?_toArray,List.getElem?_cons_zero];rw [an,aE p];simp only [pure_bind];rw [an];refine gR h1 aj _ ?_;simp only [pure_bind];exact ⟨((n:Int),()),by rw [h2]; rfl,hk⟩
def RI {f c:List Xab} {v:Xab} (hv:eC ρ f c) (d:Sj f=some v):∃ a b:Nat,c=[.int .i64 a,.int .i64 b]/\v=.int .i64 ((Nat.min a b:Nat):Int):=by
 unfold Sj at d;split at d
 ·cases d;cases hv with
  | cons h1 t =>
  cases t with
  | cons h2 t =>
  cases t; cases h1; cases h2;exact ⟨_,_,rfl,rfl⟩
 ·cases d
variable {H:TypeId}
def Ro {ts:Array TypeId} {f c:List Xab} {u:Xab} (hv:eC ρ f c) (d:(Sj f).bind (TY C.P H)=some u):VR ρ u u/\∀ (kk:Xab->T) (L:Lp) (K:Xab->Hp->Prop),kk u L K h ->
  T.eN C.P (Builtin.min_ ts H c.toArray) false [cM C.P H] (jW _ fun l=>kk (rv false [cM C.P H] l)) L K h:=by
 obtain ⟨v,h1,d⟩:=YX.1 d;obtain ⟨i,d⟩:=bI.1 (show gu _ _=some u from d);cases d;obtain ⟨a,b,rfl,rfl⟩:=RI hv h1;refine ⟨.int _ _,fun kk L K hk=>?_⟩;obtain ⟨y,g⟩:=xn (ρ:=ρ) (q:=(false,[cM C.P H])) (.int _ _) (by
  show (D4 (cM C.P H) _ && true)=true;rw [i]; rfl)
 show aZ _ _ _ _;refine ⟨y,?_,?_⟩
 ·rw [<- g];show Value.int .i64 (if (b:Int)<(a:Int) then (b:Int) else (a:Int))=.int .i64 ((Nat.min a b:Nat):Int)
  congr 1
  show _=((min a b:Nat):Int);split <;> omega
 ·rw [dX]
  have:rv false [cM C.P H] (eA _ y)=_:=g.symm
  rw [this]; exact hk
def PL {d:TypeDesc} {x y b c:Xab} (f:VR ρ x b) (g:VR ρ y c) (a:S6 d x y=true):b=x/\c=y:=by
 cases d <;> cases f <;> cases g <;> first | exact ⟨rfl,rfl⟩ | (simp [S6] at a; done)
def all_congr {α:Type} {p q:α->Bool} {arr:Array α} (h:∀ a∈arr,p a=q a):arr.all p=arr.all q:=by
 rw [<- aj9,<- aj9]
 have:∀ l:List α,(∀ a∈l,p a=q a)->l.all p=l.all q:=by
  intro l
  induction l with
  | nil=>intro _; rfl
  | cons a l c=>intro h; simp only [List.all_cons]; rw [h a aj,c fun b d=>h b (by simp [d])]
 exact this _ fun a f=>h a (by simpa using f)
def LL (a b:Xab):EP a b=Xn a b:=by
 cases a <;> cases b <;> first | rfl | skip
 show qb _ _=(_==_);rw [me,vF]
def R8 {op:BinOp} {x y:Operand} {a a' b b' v:Xab} (F:VR ρ a a') (G:VR ρ b b') (c:Up C.P op H a b=some v):VR ρ v v/\∀ (kk:Xab->T) (L:Lp) (K:Xab->Hp->Prop),kk v L K h ->
  Qv C.P op H x y a' b' kk L K h:=by
 unfold Up at c;split at c
 ·rename_i I J j A;obtain ⟨h1,c⟩:=bI.1 c;simp only [Bool.and_eq_true,Bool.not_eq_true'] at h1;obtain ⟨⟨h1,h2⟩,l⟩:=h1;obtain ⟨m⟩:=I;obtain ⟨n⟩:=J;cases F with
  | @agg _ d o =>
  cases G with
  | @agg _ g p =>
  have k:∀ f∈j,okF C.P ⟨d⟩ ⟨g⟩ f=true/\EP ((⟨m⟩:Array Xab)[f.offset]?.getD .nilIface) ((⟨n⟩:Array Xab)[f.offset]?.getD .nilIface)=HB ⟨d⟩ ⟨g⟩ f:=by
   intro f k;have l:(j.toList.all (okF C.P ⟨m⟩ ⟨n⟩))=true:=by rw [aj9]; exact l
   have:=Zx.1 l f (by simpa using k)
   obtain ⟨dd,u,w,M,q,r,B,N,R⟩:=Gx this;rw [bq9] at q r;obtain ⟨S,D,O⟩:=o.get q;obtain ⟨w',E,Q⟩:=p.get r;obtain ⟨rfl,rfl⟩:=PL O Q B;refine ⟨?_,?_⟩
   ·unfold okF;simp only [M,List.getElem?_toArray,D,E,B,Bool.true_and];simpa using N
   ·unfold HB;simp only [List.getElem?_toArray,D,E,q,r,Option.getD_some];exact LL _ _
  have i:j.all (okF C.P ⟨d⟩ ⟨g⟩)=true:=by
   rw [<- aj9];exact Zx.2 fun f h=>(k f (by simpa using h)).1
  have z:(j.all fun f=>EP ((⟨m⟩:Array Xab)[f.offset]?.getD .nilIface) ((⟨n⟩:Array Xab)[f.offset]?.getD .nilIface))=j.all (HB ⟨d⟩ ⟨g⟩):=all_congr fun f h=>(k f h).2
  rw [z] at c;refine ⟨ob c,fun kk L K hk=>?_⟩;unfold q8 at c;unfold Qv;split at c
  ·cases c;exact F6 A h1 h2 i _ ⟨(_,()),rfl,hk⟩
  ·cases c;exact rZ A h1 h2 i _ ⟨(_,()),rfl,hk⟩
  ·cases c
 ·cases c
def Sf {op:BinOp} {x y:Operand} {a a' b b' v:Xab} (f:VR ρ a a') (g:VR ρ b b') (c:Vp C.P op H x y a b=some v):VR ρ v v/\∀ (kk:Xab->T) (L:Lp) (K:Xab->Hp->Prop),kk v L K h ->
  EF C.P op H x y a' b' kk L K h:=by
 unfold Vp at c;cases d:tz C.P H x y with
 | true =>
  rw [d] at c;refine ⟨(Fs (L:=[]) (K:=fun _ _=>True) (h:=h) (kk:=fun _ _ _ _=>True) f g c trivial).2,fun kk L K hk=>?_⟩;unfold EF;rw [d];exact (Fs f g c hk).1
 | false =>
  rw [d] at c;obtain ⟨h1,h2⟩:=R8 (h:=h) (x:=x) (y:=y) f g c;refine ⟨h1,fun kk L K hk=>?_⟩;unfold EF;rw [d];exact h2 kk L K hk
def vG {r:VS} {v:Xab}:Bq C.P H r=some (v,s1)↔r=some (v,s1)/\IE (lN C.P H) v=true:=by
 unfold Bq;constructor
 ·intro h;obtain ⟨⟨u,c⟩,h1,h2⟩:=YX.1 h;obtain ⟨a,b⟩:=bI.1 (show gu _ _=some (v,s1) from h2);cases b;exact ⟨h1,a⟩
 ·rintro ⟨rfl,h2⟩;show gu (IE (lN C.P H) v) (some (v,s1))=_;rw [h2]; rfl
def D7 {f:FuncId} {a:List Xab} {t:TypeId} {v:Xab} (hc:HC C.P f a.toArray h fun v' h'=>∃ ρ1,Le ρ ρ1/\Rel C h0 ρ1 s1.σ h'/\VR ρ1 v v') (c:IE (lN C.P t) v=true) (P:pA C h0 ρ s1 v kk L K) :
  T.call C.P f a (lN C.P t).1 (lN C.P t).2 (jW _ fun l=>kk (rv (lN C.P t).1 (lN C.P t).2 l)) L K h:=by
 refine hc.mono ?_;rintro v' h' ⟨ρ1,le,d,hv⟩;obtain ⟨x,b⟩:=xn hv c;refine ⟨x,b,?_⟩;rw [dX,<- b];exact P ρ1 v' h' le d hv
def Jg (O:Ok C) (R:Rel C h0 ρ s.σ h) {vs w:List Xab} {v:Xab} (hv:eC ρ vs w) (d:Ez C vs s=some (v,s1)) :
  HC C.P C.TA w.toArray h fun v' h'=>∃ ρ1,Le ρ ρ1/\Rel C h0 ρ1 s1.σ h'/\VR ρ1 v v':=by
 unfold Ez at d;obtain ⟨a,ha,d⟩:=YX.1 d;obtain ⟨⟨q,off⟩,G,d⟩:=YX.1 d;obtain ⟨J,d⟩:=bI.1 d;obtain rfl:off=0:=Zd J;obtain ⟨l,hl,d⟩:=YX.1 d;obtain ⟨m,H,d⟩:=YX.1 d;obtain ⟨b,I,d⟩:=YX.1 d;obtain ⟨o,ho,d⟩:=YX.1 d;obtain ⟨a',rfl,M⟩:=JX hv ha;obtain ⟨pl,N,rfl⟩:∃ pl,ρ q=some pl/\a'=.func (.func C.seq) #[] #[.pointer (some ⟨pl.cj,pl.sh+0,none⟩)]:=by
  unfold Pt at G;split at G
  ·rename_i f p;obtain ⟨h1,h2⟩:=bI.1 G;obtain rfl:f=C.seq:=Zd h1
   have:=j8.1 h2
   subst this;cases M with
   | func f h1 h2 =>
   cases h1;cases h2 with
   | cons h2 t =>
   cases t;obtain ⟨pl,h3,rfl⟩:=h2.wJ;exact ⟨pl,h3,rfl⟩
  ·cases G
 obtain ⟨cs,Q,f,z,hg,i⟩:∃ (cs:Array Xab),pl.sh=0/\∃ f z,h[pl.cj]?=some (.cells cs z f)/\∃ m',cs[0]?=some m'/\VR ρ m m':=by
  unfold WT at hl;split at hl
  ·rename_i c z mm S;obtain ⟨h1,h2⟩:=bI.1 hl;cases h2;obtain rfl:mm=0:=Zd h1;obtain ⟨cs,f,e1,e2,_,e4⟩:=R.row S N;have hs:=e4.2 rfl;obtain ⟨m',e5,e6⟩:=e2 0 m (by
    unfold L5 at H;split at H
    ·cases H; rfl
    ·cases H)
   exact ⟨cs,hs,f,z,e1,m',by rw [hs] at e5; exact e5,e6⟩
  ·cases hl
 obtain ⟨m',i,U⟩:=i;obtain ⟨V,A,W⟩:∃ pl,ρ b=some pl/\m'=.map (some pl.cj):=by
  unfold Nk at I;split at I
  ·cases I;cases U with
   | map h=>exact ⟨_,h,rfl⟩
  ·cases I
 subst W;unfold Kg at d;split at d
 ·rename_i D;obtain ⟨hD1,d⟩:=bI.1 d;have hD1:=Zw hD1;obtain ⟨_,r,hD,u⟩:=R.row ho A;rw [Q];refine (O.TA h pl.cj V.cj r cs z f hg i hD (by rw [<- u.length]; exact hD1)).mono ?_;rintro v' h' ⟨k,B⟩;cases D with
  | nil =>
   have:r=[]:=Z6 (by rw [<- u.length]; rfl)
   subst this;cases d;have X:v'=.slice none 0 0:=B;subst X;exact ⟨ρ,Le.refl _,R.ext k,.lZ (Zc _)⟩
  | cons p D =>
   cases r with
   | nil=>have:=u.length; simp at this
   | cons p' r =>
    obtain ⟨s2,Y,d⟩:=YX.1 (show (Ac s (.row _ 9 1)).bind _=some (v,s1) from d);obtain ⟨hn,h2⟩:=jC.1 Y;subst h2;cases d;obtain ⟨g,rest,cap,g1,rfl,g2,g3,g4,g5⟩:=B;have j:∀ l:List Xaa,eC ρ (l.map .string) (l.map .string):=by
     intro l
     induction l with
     | nil=>exact .nil
     | cons a l E=>exact .cons (.string _) E
    have F:∀ l:List Xaa,(sO l).length=l.length:=by
     intro l
     induction l with
     | nil=>rfl
     | cons a l E =>
      have hi:∀ (x:Xaa) (l:List Xaa),(EZ x l).length=l.length+1:=by
       intro x l
       induction l with
       | nil=>rfl
       | cons y l E =>
        unfold EZ;split
        ·rfl
        ·simp [E]
      unfold sO;rw [hi,E]; rfl
    rw [<- u.1] at g5;have Z:((sO ((p::D).map (·.1))).map Value.string).length=(p'::r).length:=by rw [YY,F,YY,u.length]
    obtain ⟨R1,le⟩:=R.new (n:=s.nx) (pl:=⟨g,0,cap⟩) hn g1 k (I1 (e:=9) (m:=1) (cap:=cap) (ZK R.size g1) (j _) (Le.kR (R.Qp _ hn)) g5 fun _=>⟨by rw [g3,Z],g2⟩);refine ⟨_,le,R1,?_⟩;have hv:=VR.sl (ρ:=kR ρ s.nx ⟨g,0,cap⟩) (c:=rj) (c':=cap) 0 (p'::r).length (fS _ _ _) (.inr ⟨Nat.le_of_lt xH,rfl⟩) g4;rw [u.length];simpa using hv
 ·cases d
end
end Go.Sx.Cr
