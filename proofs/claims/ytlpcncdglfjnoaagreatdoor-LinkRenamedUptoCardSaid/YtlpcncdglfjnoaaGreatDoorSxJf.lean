/- Part of the framework. No condition. -/
import Derived.Test.YtlpcncdglfjnoaaGreatDoorSxJe
set_option linter.all false
set_option maxHeartbeats 4000000
namespace Go.Sx.Cr
section
variable {C:Cx} {h0:Hp} {ρ:fY} {s s1:CS} {h:Hp} {e:Ev} {e':Env} {L:Lp} {K:XB->Hp->Prop} {kk:XB->T}
def Hz {c a:List XB} {v:XB} (hv:dO ρ c a) (b:Jj c=some v):∃ v',a=[v']/\VR ρ v v':=by
 unfold Jj at b;split at b
 ·cases b;cases hv with
  | cons h t=>cases t; exact ⟨_,rfl,h⟩
 ·cases b
def NP (R:Rel C h0 ρ s.σ h) {c:Call} {t:TypeId} {v v' u:XB} (hv:VR ρ v v') (a:Qx s ((c.argTypes[0]?).bind C.P.underlying) v=some u):VR ρ u u/\∀ (kk:XB->T) (L:Lp) (K:XB->Hp->Prop),kk u L K h->yQ C.P c t [v'] kk L K h:=by
 unfold Qx at a;cases f:(c.argTypes[0]?).bind C.P.underlying with
 | none=>rw [f] at a; cases a
 | some d =>
  rw [f] at a;cases d <;> first | (cases a; done) | skip
  case string =>
   cases hv <;> first | (cases a; done) | skip
   cases a;refine ⟨.int _ _,fun kk L K hk=>?_⟩;unfold yQ;simp only [f];exact hk
  case slice r =>
   cases hv <;> first | (cases a; done) | skip
   ·cases a;refine ⟨.int _ _,fun kk L K hk=>?_⟩;unfold yQ;simp only [f];exact hk
   ·cases a;refine ⟨.int _ _,fun kk L K hk=>?_⟩;unfold yQ;simp only [f];exact hk
  case map k r =>
   cases hv <;> first | (cases a; done) | skip
   rename_i b pl i;obtain ⟨n,hn,a⟩:=Vq.1 a;cases a;obtain ⟨o,j,hn⟩:=Vq.1 hn;have l:∃ (es:Array MapEntry) (clock:Nat),h[pl.cu]?=some (.map es clock)/\es.size=n:=by
    cases o <;> first | (cases hn; done) | skip
    ·cases hn;obtain ⟨_,q,⟨es,clock,h1,h2,_⟩,g⟩:=R.row j i;refine ⟨es,clock,h1,?_⟩
     have:=VO List.length h2
     simp only [List.length_map,Array.length_toList] at this;rw [this,g.length]
    ·cases hn;obtain ⟨_,q,⟨es,clock,h1,h2,_⟩,g⟩:=R.row j i;refine ⟨es,clock,h1,?_⟩
     have:=VO List.length h2
     simp only [List.length_map,Array.length_toList] at this;rw [this,g.length]
    ·cases hn;obtain ⟨_,q,⟨es,clock,h1,h2,_⟩,g⟩:=R.row j i;refine ⟨es,clock,h1,?_⟩
     have:=VO List.length h2
     simp only [List.length_map,Array.length_toList] at this;rw [this,g.length]
   obtain ⟨es,clock,h1,h2⟩:=l;refine ⟨.int _ _,fun kk L K hk=>?_⟩;unfold yQ;simp only [f];obtain ⟨w,m,p⟩:=Vq.1 f;show aI _ _ _ _;unfold Builtin.len_;simp only [m,List.getElem?_toArray,List.getElem?_cons_zero];rw [al,au p];simp only [pure_bind];rw [al];refine fG h1 ah _ ?_;simp only [pure_bind];exact ⟨((n:Int),()),by rw [h2]; rfl,hk⟩
def OG {f c:List XB} {v:XB} (hv:dO ρ f c) (d:O4 f=some v):∃ a b:Nat,c=[.int .i64 a,.int .i64 b]/\v=.int .i64 ((Nat.min a b:Nat):Int):=by
 unfold O4 at d;split at d
 ·cases d;cases hv with
  | cons h1 t =>
  cases t with
  | cons h2 t =>
  cases t; cases h1; cases h2;exact ⟨_,_,rfl,rfl⟩
 ·cases d
variable {H:TypeId}
def On {ts:Array TypeId} {f c:List XB} {u:XB} (hv:dO ρ f c) (d:(O4 f).bind (Qf C.P H)=some u):VR ρ u u/\∀ (kk:XB->T) (L:Lp) (K:XB->Hp->Prop),kk u L K h ->
  T.eK C.P (Builtin.min_ ts H c.toArray) false [cz C.P H] (iV _ fun l=>kk (rv false [cz C.P H] l)) L K h:=by
 obtain ⟨v,h1,d⟩:=Vq.1 d;obtain ⟨i,d⟩:=bi.1 (show fx _ _=some u from d);cases d;obtain ⟨a,b,rfl,rfl⟩:=OG hv h1;refine ⟨.int _ _,fun kk L K hk=>?_⟩;obtain ⟨y,g⟩:=uZ (ρ:=ρ) (q:=(false,[cz C.P H])) (.int _ _) (by
  show (B0 (cz C.P H) _ && true)=true;rw [i]; rfl)
 show aI _ _ _ _;refine ⟨y,?_,?_⟩
 ·rw [<- g];show Value.int .i64 (if (b:Int)<(a:Int) then (b:Int) else (a:Int))=.int .i64 ((Nat.min a b:Nat):Int)
  congr 1
  show _=((min a b:Nat):Int);split <;> omega
 ·rw [dC]
  have:rv false [cz C.P H] (dS _ y)=_:=g.symm
  rw [this]; exact hk
def MX {d:TypeDesc} {x y b c:XB} (f:VR ρ x b) (g:VR ρ y c) (a:Pz d x y=true):b=x/\c=y:=by
 cases d <;> cases f <;> cases g <;> first | exact ⟨rfl,rfl⟩ | (simp [Pz] at a; done)
def all_congr {α:Type} {p q:α->Bool} {c:Array α} (h:∀ a∈c,p a=q a):c.all p=c.all q:=by
 rw [<- WK,<- WK]
 have:∀ l:List α,(∀ a∈l,p a=q a)->l.all p=l.all q:=by
  intro l
  induction l with
  | nil=>intro _; rfl
  | cons a l d=>intro h; simp only [List.all_cons]; rw [h a ah,d fun b f=>h b (by simp [f])]
 exact this _ fun a g=>h a (by simpa using g)
def I5 (a b:XB):CK a b=TQ a b:=by
 cases a <;> cases b <;> first | rfl | skip
 show nO _ _=(_==_);rw [kp,wB]
def OW {op:BinOp} {x y:Operand} {a a' b b' v:XB} (F:VR ρ a a') (G:VR ρ b b') (c:QG C.P op H a b=some v):VR ρ v v/\∀ (kk:XB->T) (L:Lp) (K:XB->Hp->Prop),kk v L K h ->
  NJ C.P op H x y a' b' kk L K h:=by
 unfold QG at c;split at c
 ·rename_i xs I j A;obtain ⟨h1,c⟩:=bi.1 c;simp only [Bool.and_eq_true,Bool.not_eq_true'] at h1;obtain ⟨⟨h1,h2⟩,l⟩:=h1;obtain ⟨m⟩:=xs;obtain ⟨n⟩:=I;cases F with
  | @agg _ d o =>
  cases G with
  | @agg _ g p =>
  have k:∀ f∈j,okF C.P ⟨d⟩ ⟨g⟩ f=true/\CK ((⟨m⟩:Array XB)[f.offset]?.getD .nilIface) ((⟨n⟩:Array XB)[f.offset]?.getD .nilIface)=GX ⟨d⟩ ⟨g⟩ f:=by
   intro f k;have l:(j.toList.all (okF C.P ⟨m⟩ ⟨n⟩))=true:=by rw [WK]; exact l
   have:=VT.1 l f (by simpa using k)
   obtain ⟨dd,u,w,J,q,r,B,M,Q⟩:=Ee this;rw [W4] at q r;obtain ⟨R,D,N⟩:=o.get q;obtain ⟨w',E,O⟩:=p.get r;obtain ⟨rfl,rfl⟩:=MX N O B;refine ⟨?_,?_⟩
   ·unfold okF;simp only [J,List.getElem?_toArray,D,E,B,Bool.true_and];simpa using M
   ·unfold GX;simp only [List.getElem?_toArray,D,E,q,r,Option.getD_some];exact I5 _ _
  have i:j.all (okF C.P ⟨d⟩ ⟨g⟩)=true:=by
   rw [<- WK];exact VT.2 fun f h=>(k f (by simpa using h)).1
  have z:(j.all fun f=>CK ((⟨m⟩:Array XB)[f.offset]?.getD .nilIface) ((⟨n⟩:Array XB)[f.offset]?.getD .nilIface))=j.all (GX ⟨d⟩ ⟨g⟩):=all_congr fun f h=>(k f h).2
  rw [z] at c;refine ⟨lX c,fun kk L K hk=>?_⟩;unfold oU at c;unfold NJ;split at c
  ·cases c;exact DO A h1 h2 i _ ⟨(_,()),rfl,hk⟩
  ·cases c;exact yD A h1 h2 i _ ⟨(_,()),rfl,hk⟩
  ·cases c
 ·cases c
def O0 {op:BinOp} {x y:Operand} {a a' b b' v:XB} (f:VR ρ a a') (g:VR ρ b b') (c:RI C.P op H x y a b=some v):VR ρ v v/\∀ (kk:XB->T) (L:Lp) (K:XB->Hp->Prop),kk v L K h ->
  Cz C.P op H x y a' b' kk L K h:=by
 unfold RI at c;cases d:qL C.P H x y with
 | true =>
  rw [d] at c;refine ⟨(Da (L:=[]) (K:=fun _ _=>True) (h:=h) (kk:=fun _ _ _ _=>True) f g c trivial).2,fun kk L K hk=>?_⟩;unfold Cz;rw [d];exact (Da f g c hk).1
 | false =>
  rw [d] at c;obtain ⟨h1,h2⟩:=OW (h:=h) (x:=x) (y:=y) f g c;refine ⟨h1,fun kk L K hk=>?_⟩;unfold Cz;rw [d];exact h2 kk L K hk
def tf {r:VS} {v:XB}:zG C.P H r=some (v,s1)↔r=some (v,s1)/\Gs (ka C.P H) v=true:=by
 unfold zG;constructor
 ·intro h;obtain ⟨⟨u,c⟩,h1,h2⟩:=Vq.1 h;obtain ⟨a,b⟩:=bi.1 (show fx _ _=some (v,s1) from h2);cases b;exact ⟨h1,a⟩
 ·rintro ⟨rfl,h2⟩;show fx (Gs (ka C.P H) v) (some (v,s1))=_;rw [h2]; rfl
def B5 {f:FuncId} {a:List XB} {t:TypeId} {v:XB} (hc:HC C.P f a.toArray h fun v' h'=>∃ ρ1,Le ρ ρ1/\Rel C h0 ρ1 s1.σ h'/\VR ρ1 v v') (c:Gs (ka C.P t) v=true) (P:nr C h0 ρ s1 v kk L K) :
  T.call C.P f a (ka C.P t).1 (ka C.P t).2 (iV _ fun l=>kk (rv (ka C.P t).1 (ka C.P t).2 l)) L K h:=by
 refine hc.mono ?_;rintro v' h' ⟨ρ1,le,d,hv⟩;obtain ⟨x,b⟩:=uZ hv c;refine ⟨x,b,?_⟩;rw [dC,<- b];exact P ρ1 v' h' le d hv
def GY (O:Ok C) (R:Rel C h0 ρ s.σ h) {vs w:List XB} {v:XB} (hv:dO ρ vs w) (d:Cp C vs s=some (v,s1)) :
  HC C.P C.PW w.toArray h fun v' h'=>∃ ρ1,Le ρ ρ1/\Rel C h0 ρ1 s1.σ h'/\VR ρ1 v v':=by
 unfold Cp at d;obtain ⟨a,ha,d⟩:=Vq.1 d;obtain ⟨⟨q,off⟩,G,d⟩:=Vq.1 d;obtain ⟨J,d⟩:=bi.1 d;obtain rfl:off=0:=VF J;obtain ⟨l,hl,d⟩:=Vq.1 d;obtain ⟨m,H,d⟩:=Vq.1 d;obtain ⟨b,I,d⟩:=Vq.1 d;obtain ⟨o,ho,d⟩:=Vq.1 d;obtain ⟨a',rfl,M⟩:=Hz hv ha;obtain ⟨pl,N,rfl⟩:∃ pl,ρ q=some pl/\a'=.func (.func C.seq) #[] #[.pointer (some ⟨pl.cu,pl.sh+0,none⟩)]:=by
  unfold ME at G;split at G
  ·rename_i f p;obtain ⟨h1,h2⟩:=bi.1 G;obtain rfl:f=C.seq:=VF h1
   have:=jf.1 h2
   subst this;cases M with
   | func f h1 h2 =>
   cases h1;cases h2 with
   | cons h2 t =>
   cases t;obtain ⟨pl,h3,rfl⟩:=h2.ui;exact ⟨pl,h3,rfl⟩
  ·cases G
 obtain ⟨cs,Q,f,z,hg,i⟩:∃ (cs:Array XB),pl.sh=0/\∃ f z,h[pl.cu]?=some (.cells cs z f)/\∃ m',cs[0]?=some m'/\VR ρ m m':=by
  unfold Tn at hl;split at hl
  ·rename_i c z mm S;obtain ⟨h1,h2⟩:=bi.1 hl;cases h2;obtain rfl:mm=0:=VF h1;obtain ⟨cs,f,e1,e2,_,e4⟩:=R.row S N;have hs:=e4.2 rfl;obtain ⟨m',e5,e6⟩:=e2 0 m (by
    unfold Jj at H;split at H
    ·cases H; rfl
    ·cases H)
   exact ⟨cs,hs,f,z,e1,m',by rw [hs] at e5; exact e5,e6⟩
  ·cases hl
 obtain ⟨m',i,U⟩:=i;obtain ⟨V,A,W⟩:∃ pl,ρ b=some pl/\m'=.map (some pl.cu):=by
  unfold Kv at I;split at I
  ·cases I;cases U with
   | map h=>exact ⟨_,h,rfl⟩
  ·cases I
 subst W;unfold HQ at d;split at d
 ·rename_i D;obtain ⟨hD1,d⟩:=bi.1 d;have hD1:=VX hD1;obtain ⟨_,r,hD,u⟩:=R.row ho A;rw [Q];refine (O.PW h pl.cu V.cu r cs z f hg i hD (by rw [<- u.length]; exact hD1)).mono ?_;rintro v' h' ⟨k,B⟩;cases D with
  | nil =>
   have:r=[]:=Wk (by rw [<- u.length]; rfl)
   subst this;cases d;have X:v'=.slice none 0 0:=B;subst X;exact ⟨ρ,Le.refl _,R.ext k,.nZ (VL _)⟩
  | cons p D =>
   cases r with
   | nil=>have:=u.length; simp at this
   | cons p' r =>
    obtain ⟨s2,Y,d⟩:=Vq.1 (show (yh s (.row _ 9 1)).bind _=some (v,s1) from d);obtain ⟨hn,h2⟩:=iy.1 Y;subst h2;cases d;obtain ⟨g,rest,cap,g1,rfl,g2,g3,g4,g5⟩:=B;have j:∀ l:List XA,dO ρ (l.map .string) (l.map .string):=by
     intro l
     induction l with
     | nil=>exact .nil
     | cons a l E=>exact .cons (.string _) E
    have F:∀ l:List XA,(qm l).length=l.length:=by
     intro l
     induction l with
     | nil=>rfl
     | cons a l E =>
      have hi:∀ (x:XA) (l:List XA),(CV x l).length=l.length+1:=by
       intro x l
       induction l with
       | nil=>rfl
       | cons y l E =>
        unfold CV;split
        ·rfl
        ·simp [E]
      unfold qm;rw [hi,E]; rfl
    rw [<- u.1] at g5;have Z:((qm ((p::D).map (·.1))).map Value.string).length=(p'::r).length:=by rw [Vr,F,Vr,u.length]
    obtain ⟨R1,le⟩:=R.new (n:=s.nx) (pl:=⟨g,0,cap⟩) hn g1 k (GO (e:=9) (m:=1) (cap:=cap) (Wi R.size g1) (j _) (Le.jL (R.NB _ hn)) g5 fun _=>⟨by rw [g3,Z],g2⟩);refine ⟨_,le,R1,?_⟩;have hv:=VR.sl (ρ:=jL ρ s.nx ⟨g,0,cap⟩) (c:=o5) (c':=cap) 0 (p'::r).length (ff _ _ _) (.inr ⟨Nat.le_of_lt vH,rfl⟩) g4;rw [u.length];simpa using hv
 ·cases d
end
end Go.Sx.Cr
