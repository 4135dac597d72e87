/- Part of the framework. No condition. -/
import Derived.Test.YtmdncdaladplkaaGreatDoorSxJe
set_option linter.all false
set_option maxHeartbeats 4000000
namespace Go.Sx.Cr
section
variable {C:Cx} {h0:Hp} {ρ:iG} {s s1:CS} {h:Hp} {e:Ev} {e':Env} {L:Lp} {K:Xab->Hp->Prop} {kk:Xab->T}
def Lj {c a:List Xab} {v:Xab} (hv:eA ρ c a) (b:NJ c=some v):∃ v',a=[v']/\VR ρ v v':=by
 unfold NJ at b;split at b
 ·cases b;cases hv with
  | cons h t=>cases t; exact ⟨_,rfl,h⟩
 ·cases b
def Tb (R:Rel C h0 ρ s.σ h) {c:Call} {t:TypeId} {v v' u:Xab} (hv:VR ρ v v') (a:WG s ((c.argTypes[0]?).bind C.P.underlying) v=some u):VR ρ u u/\∀ (kk:Xab->T) (L:Lp) (K:Xab->Hp->Prop),kk u L K h->A' C.P c t [v'] kk L K h:=by
 unfold WG at a;cases f:(c.argTypes[0]?).bind C.P.underlying with
 | none=>rw [f] at a; cases a
 | some d =>
  rw [f] at a;cases d <;> first | (cases a; done) | skip
  case string =>
   cases hv <;> first | (cases a; done) | skip
   cases a;refine ⟨.int _ _,λkk L K hk=>?_⟩;unfold A';simp only [f];exact hk
  case slice r =>
   cases hv <;> first | (cases a; done) | skip
   ·cases a;refine ⟨.int _ _,λkk L K hk=>?_⟩;unfold A';simp only [f];exact hk
   ·cases a;refine ⟨.int _ _,λkk L K hk=>?_⟩;unfold A';simp only [f];exact hk
  case map k r =>
   cases hv <;> first | (cases a; done) | skip
   rename_i b pl i;obtain ⟨n,hn,a⟩:=aa9.1 a;cases a;obtain ⟨o,j,hn⟩:=aa9.1 hn;have l:∃ (es:Array MapEntry) (clock:Nat),h[pl.cj]?=some (.map es clock)/\es.size=n:=by
    cases o <;> first | (cases hn; done) | skip
    ·cases hn;obtain ⟨_,q,⟨es,clock,h1,h2,_⟩,g⟩:=R.row j i;refine ⟨es,clock,h1,?_⟩
     have:=as9 List.length h2
     simp only [List.length_map,Array.length_toList] at this;rw [this,g.length]
    ·cases hn;obtain ⟨_,q,⟨es,clock,h1,h2,_⟩,g⟩:=R.row j i;refine ⟨es,clock,h1,?_⟩
     have:=as9 List.length h2
     simp only [List.length_map,Array.length_toList] at this;rw [this,g.length]
    ·cases hn;obtain ⟨_,q,⟨es,clock,h1,h2,_⟩,g⟩:=R.row j i;refine ⟨es,clock,h1,?_⟩
     have:=as9 List.length h2
     simp only [List.length_map,Array.length_toList] at this;rw [this,g.length]
   obtain ⟨es,clock,h1,h2⟩:=l;refine ⟨.int _ _,λkk L K hk=>?_⟩;unfold A';simp only [f];obtain ⟨w,m,p⟩:=aa9.1 f;show aQ _ _ _ _;unfold Builtin.len_;simp only [m,List.getElem?_toArray,List.getElem?_cons_zero];rw [an,az p];simp only [pure_bind];rw [an];refine gU h1 ai _ ?_;simp only [pure_bind];exact ⟨((n:Int),()),by rw [h2]; rfl,hk⟩
def Ui {f c:List Xab} {v:Xab} (hv:eA ρ f c) (d:UP f=some v):∃ a b:Nat,c=[.int .i64 a,.int .i64 b]/\v=.int .i64 ((Nat.min a b:Nat):Int):=by
 unfold UP at d;split at d
 ·cases d;cases hv with
  | cons h1 t =>
  cases t with
  | cons h2 t =>
  cases t; cases h1; cases h2;exact ⟨_,_,rfl,rfl⟩
 ·cases d
variable {H:TypeId}
def TY {ts:Array TypeId} {f c:List Xab} {u:Xab} (hv:eA ρ f c) (d:(UP f).bind (Wi C.P H)=some u):VR ρ u u/\∀ (kk:Xab->T) (L:Lp) (K:Xab->Hp->Prop),kk u L K h ->
  T.dP C.P (Builtin.min_ ts H c.toArray) false [cM C.P H] (j7 _ λl=>kk (rv false [cM C.P H] l)) L K h:=by
 obtain ⟨v,h1,d⟩:=aa9.1 d;obtain ⟨i,d⟩:=bt.1 (show gF _ _=some u from d);cases d;obtain ⟨a,b,rfl,rfl⟩:=Ui hv h1;refine ⟨.int _ _,λkk L K hk=>?_⟩;obtain ⟨y,g⟩:=xC (ρ:=ρ) (q:=(false,[cM C.P H])) (.int _ _) (by
  show (EP (cM C.P H) _ && true)=true;rw [i]; rfl)
 show aQ _ _ _ _;refine ⟨y,?_,?_⟩
 ·rw [<- g];show Value.int .i64 (if (b:Int)<(a:Int) then (b:Int) else (a:Int))=.int .i64 ((Nat.min a b:Nat):Int)
  congr 1
  show _=((min a b:Nat):Int);split <;> omega
 ·rw [dX]
  have:rv false [cM C.P H] (et _ y)=_:=g.symm
  rw [this]; exact hk
def RW {d:TypeDesc} {x y b c:Xab} (f:VR ρ x b) (g:VR ρ y c) (a:Vv d x y=true):b=x/\c=y:=by
 cases d <;> cases f <;> cases g <;> first | exact ⟨rfl,rfl⟩ | (simp [Vv] at a; done)
def all_congr {α:Type} {p q:α->Bool} {c:Array α} (h:∀ a∈c,p a=q a):c.all p=c.all q:=by
 rw [<- df9,<- df9]
 have:∀ l:List α,(∀ a∈l,p a=q a)->l.all p=l.all q:=by
  intro l
  induction l with
  | nil=>intro _; rfl
  | cons a l d=>intro h; simp only [List.all_cons]; rw [h a ai,d λb f=>h b (by simp [f])]
 exact this _ λa g=>h a (by simpa using g)
def Ns (a b:Xab):FQ a b=Z' a b:=by
 cases a <;> cases b <;> first | rfl | skip
 show qh _ _=(_==_);rw [mH,sV]
def UI {op:BinOp} {x y:Operand} {a a' b b' v:Xab} (E:VR ρ a a') (F:VR ρ b b') (c:WR C.P op H a b=some v):VR ρ v v/\∀ (kk:Xab->T) (L:Lp) (K:Xab->Hp->Prop),kk v L K h ->
  S4 C.P op H x y a' b' kk L K h:=by
 unfold WR at c;split at c
 ·rename_i xs ys j z;obtain ⟨h1,c⟩:=bt.1 c;simp only [Bool.and_eq_true,Bool.not_eq_true'] at h1;obtain ⟨⟨h1,h2⟩,l⟩:=h1;obtain ⟨xl⟩:=xs;obtain ⟨m⟩:=ys;cases E with
  | @agg _ d n =>
  cases F with
  | @agg _ g o =>
  have k:∀ f∈j,okF C.P ⟨d⟩ ⟨g⟩ f=true/\FQ ((⟨xl⟩:Array Xab)[f.offset]?.getD .nilIface) ((⟨m⟩:Array Xab)[f.offset]?.getD .nilIface)=IB ⟨d⟩ ⟨g⟩ f:=by
   intro f k;have l:(j.toList.all (okF C.P ⟨xl⟩ ⟨m⟩))=true:=by rw [df9]; exact l
   have:=bn9.1 l f (by simpa using k)
   obtain ⟨dd,u,w,G,p,q,A,I,N⟩:=HB this;rw [ex9] at p q;obtain ⟨O,B,J⟩:=n.get p;obtain ⟨w',D,M⟩:=o.get q;obtain ⟨rfl,rfl⟩:=RW J M A;refine ⟨?_,?_⟩
   ·unfold okF;simp only [G,List.getElem?_toArray,B,D,A,Bool.true_and];simpa using I
   ·unfold IB;simp only [List.getElem?_toArray,B,D,p,q,Option.getD_some];exact Ns _ _
  have i:j.all (okF C.P ⟨d⟩ ⟨g⟩)=true:=by
   rw [<- df9];exact bn9.2 λf h=>(k f (by simpa using h)).1
  have r:(j.all λf=>FQ ((⟨xl⟩:Array Xab)[f.offset]?.getD .nilIface) ((⟨m⟩:Array Xab)[f.offset]?.getD .nilIface))=j.all (IB ⟨d⟩ ⟨g⟩):=all_congr λf h=>(k f h).2
  rw [r] at c;refine ⟨oq c,λkk L K hk=>?_⟩;unfold rn at c;unfold S4;split at c
  ·cases c;exact G7 z h1 h2 i _ ⟨(_,()),rfl,hk⟩
  ·cases c;exact AS z h1 h2 i _ ⟨(_,()),rfl,hk⟩
  ·cases c
 ·cases c
def UL {op:BinOp} {x y:Operand} {a a' b b' v:Xab} (f:VR ρ a a') (g:VR ρ b b') (c:X3 C.P op H x y a b=some v):VR ρ v v/\∀ (kk:Xab->T) (L:Lp) (K:Xab->Hp->Prop),kk v L K h ->
  FB C.P op H x y a' b' kk L K h:=by
 unfold X3 at c;cases d:tJ C.P H x y with
 | true =>
  rw [d] at c;refine ⟨(Gm (L:=[]) (K:=λ_ _=>True) (h:=h) (kk:=λ_ _ _ _=>True) f g c trivial).2,λkk L K hk=>?_⟩;unfold FB;rw [d];exact (Gm f g c hk).1
 | false =>
  rw [d] at c;obtain ⟨h1,h2⟩:=UI (h:=h) (x:=x) (y:=y) f g c;refine ⟨h1,λkk L K hk=>?_⟩;unfold FB;rw [d];exact h2 kk L K hk
def vP {r:VS} {v:Xab}:B5 C.P H r=some (v,s1)↔r=some (v,s1)/\J2 (mv C.P H) v=true:=by
 unfold B5;constructor
 ·intro h;obtain ⟨⟨u,c⟩,h1,h2⟩:=aa9.1 h;obtain ⟨a,b⟩:=bt.1 (show gF _ _=some (v,s1) from h2);cases b;exact ⟨h1,a⟩
 ·rintro ⟨rfl,h2⟩;show gF (J2 (mv C.P H) v) (some (v,s1))=_;rw [h2]; rfl
def EV {f:FuncId} {a:List Xab} {t:TypeId} {v:Xab} (hc:HC C.P f a.toArray h λv' h'=>∃ ρ1,Le ρ ρ1/\Rel C h0 ρ1 s1.σ h'/\VR ρ1 v v') (c:J2 (mv C.P t) v=true) (P:pJ C h0 ρ s1 v kk L K) :
  T.call C.P f a (mv C.P t).1 (mv C.P t).2 (j7 _ λl=>kk (rv (mv C.P t).1 (mv C.P t).2 l)) L K h:=by
 refine hc.mono ?_;rintro v' h' ⟨ρ1,le,d,hv⟩;obtain ⟨x,b⟩:=xC hv c;refine ⟨x,b,?_⟩;rw [dX,<- b];exact P ρ1 v' h' le d hv
def KA (O:Ok C) (R:Rel C h0 ρ s.σ h) {vs w:List Xab} {v:Xab} (hv:eA ρ vs w) (d:Fo C vs s=some (v,s1)) :
  HC C.P C.VY w.toArray h λv' h'=>∃ ρ1,Le ρ ρ1/\Rel C h0 ρ1 s1.σ h'/\VR ρ1 v v':=by
 unfold Fo at d;obtain ⟨a,ha,d⟩:=aa9.1 d;obtain ⟨⟨q,off⟩,G,d⟩:=aa9.1 d;obtain ⟨J,d⟩:=bt.1 d;obtain rfl:off=0:=av9 J;obtain ⟨l,hl,d⟩:=aa9.1 d;obtain ⟨m,H,d⟩:=aa9.1 d;obtain ⟨b,I,d⟩:=aa9.1 d;obtain ⟨o,ho,d⟩:=aa9.1 d;obtain ⟨a',rfl,M⟩:=Lj hv ha;obtain ⟨pl,N,rfl⟩:∃ pl,ρ q=some pl/\a'=.func (.func C.seq) #[] #[.pointer (some ⟨pl.cj,pl.sh+0,none⟩)]:=by
  unfold Ry at G;split at G
  ·rename_i f p;obtain ⟨h1,h2⟩:=bt.1 G;obtain rfl:f=C.seq:=av9 h1
   have:=kw.1 h2
   subst this;cases M with
   | func f h1 h2 =>
   cases h1;cases h2 with
   | cons h2 t =>
   cases t;obtain ⟨pl,h3,rfl⟩:=h2.wT;exact ⟨pl,h3,rfl⟩
  ·cases G
 obtain ⟨cs,Q,f,z,hg,i⟩:∃ (cs:Array Xab),pl.sh=0/\∃ f z,h[pl.cj]?=some (.cells cs z f)/\∃ m',cs[0]?=some m'/\VR ρ m m':=by
  unfold ZF at hl;split at hl
  ·rename_i c z mm S;obtain ⟨h1,h2⟩:=bt.1 hl;cases h2;obtain rfl:mm=0:=av9 h1;obtain ⟨cs,f,e1,e2,_,e4⟩:=R.row S N;have hs:=e4.2 rfl;obtain ⟨m',e5,e6⟩:=e2 0 m (by
    unfold NJ at H;split at H
    ·cases H; rfl
    ·cases H)
   exact ⟨cs,hs,f,z,e1,m',by rw [hs] at e5; exact e5,e6⟩
  ·cases hl
 obtain ⟨m',i,U⟩:=i;obtain ⟨V,A,W⟩:∃ pl,ρ b=some pl/\m'=.map (some pl.cj):=by
  unfold O2 at I;split at I
  ·cases I;cases U with
   | map h=>exact ⟨_,h,rfl⟩
  ·cases I
 subst W;unfold LI at d;split at d
 ·rename_i D;obtain ⟨hD1,d⟩:=bt.1 d;have hD1:=bk9 hD1;obtain ⟨_,r,hD,u⟩:=R.row ho A;rw [Q];refine (O.VY h pl.cj V.cj r cs z f hg i hD (by rw [<- u.length]; exact hD1)).mono ?_;rintro v' h' ⟨k,B⟩;cases D with
  | nil =>
   have:r=[]:=bu9 (by rw [<- u.length]; rfl)
   subst this;cases d;have X:v'=.slice none 0 0:=B;subst X;exact ⟨ρ,Le.refl _,R.ext k,.mG (am9 _)⟩
  | cons p D =>
   cases r with
   | nil=>have:=u.length; simp at this
   | cons p' r =>
    obtain ⟨s2,Y,d⟩:=aa9.1 (show (Ar s (.row _ 9 1)).bind _=some (v,s1) from d);obtain ⟨hn,h2⟩:=jK.1 Y;subst h2;cases d;obtain ⟨g,rest,cap,g1,rfl,g2,g3,g4,g5⟩:=B;have j:∀ l:List Xaa,eA ρ (l.map .string) (l.map .string):=by
     intro l
     induction l with
     | nil=>exact .nil
     | cons a l E=>exact .cons (.string _) E
    have F:∀ l:List Xaa,(sU l).length=l.length:=by
     intro l
     induction l with
     | nil=>rfl
     | cons a l E =>
      have hi:∀ (x:Xaa) (l:List Xaa),(F2 x l).length=l.length+1:=by
       intro x l
       induction l with
       | nil=>rfl
       | cons y l E =>
        unfold F2;split
        ·rfl
        ·simp [E]
      unfold sU;rw [hi,E]; rfl
    rw [<- u.1] at g5;have Z:((sU ((p::D).map (·.1))).map Value.string).length=(p'::r).length:=by rw [ab9,F,ab9,u.length]
    obtain ⟨R1,le⟩:=R.new (n:=s.nx) (pl:=⟨g,0,cap⟩) hn g1 k (Ko (e:=9) (m:=1) (cap:=cap) (cd9 R.size g1) (j _) (Le.lG (R.SX _ hn)) g5 λ_=>⟨by rw [g3,Z],g2⟩);refine ⟨_,le,R1,?_⟩;have hv:=VR.sl (ρ:=lG ρ s.nx ⟨g,0,cap⟩) (c:=rC) (c':=cap) 0 (p'::r).length (fW _ _ _) (.inr ⟨Nat.le_of_lt xW,rfl⟩) g4;rw [u.length];simpa using hv
 ·cases d
end
end Go.Sx.Cr
