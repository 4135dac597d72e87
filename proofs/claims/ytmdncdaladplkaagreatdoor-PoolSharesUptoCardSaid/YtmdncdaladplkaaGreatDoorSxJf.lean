/- Part of the framework. No condition. -/
import Derived.Test.YtmdncdaladplkaaGreatDoorSxJe
set_option linter.all false
set_option maxHeartbeats 4000000
namespace Go.Sx.Cr
section
variable {C:Cx} {h0:Hp} {ρ:iv} {s s1:CS} {h:Hp} {e:Ev} {e':Env} {L:Lp} {K:Xab->Hp->Prop} {kk:Xab->T}
def KD {c a:List Xab} {v:Xab} (hv:eu ρ c a) (b:MW c=some v):∃ v',a=[v']/\VR ρ v v':=by
 unfold MW at b;split at b
 ·cases b;cases hv with
  | cons h t=>cases t; exact ⟨_,rfl,h⟩
 ·cases b
def Se (R:Rel C h0 ρ s.σ h) {c:Call} {t:TypeId} {v v' u:Xab} (hv:VR ρ v v') (a:VQ s ((c.argTypes[0]?).bind C.P.underlying) v=some u):VR ρ u u/\∀ (kk:Xab->T) (L:Lp) (K:Xab->Hp->Prop),kk u L K h->AT C.P c t [v'] kk L K h:=by
 unfold VQ at a;cases f:(c.argTypes[0]?).bind C.P.underlying with
 | none=>rw [f] at a; cases a
 | some d =>
  rw [f] at a;cases d <;> first | (cases a; done) | skip
  case string =>
   cases hv <;> first | (cases a; done) | skip
   cases a;refine ⟨.int _ _,fun kk L K hk=>?_⟩;unfold AT;simp only [f];exact hk
  case slice r =>
   cases hv <;> first | (cases a; done) | skip
   ·cases a;refine ⟨.int _ _,fun kk L K hk=>?_⟩;unfold AT;simp only [f];exact hk
   ·cases a;refine ⟨.int _ _,fun kk L K hk=>?_⟩;unfold AT;simp only [f];exact hk
  case map k r =>
   cases hv <;> first | (cases a; done) | skip
   rename_i b pl i;obtain ⟨n,hn,a⟩:=aa9.1 a;cases a;obtain ⟨o,j,hn⟩:=aa9.1 hn;have l:∃ (es:Array MapEntry) (clock:Nat),h[pl.cB]?=some (.map es clock)/\es.size=n:=by
    cases o <;> first | (cases hn; done) | skip
    ·cases hn;obtain ⟨_,q,⟨es,clock,h1,h2,_⟩,g⟩:=R.row j i;refine ⟨es,clock,h1,?_⟩
     have:=as9 List.length h2
     simp only [List.length_map,Array.length_toList] at this;rw [this,g.length]
    ·cases hn;obtain ⟨_,q,⟨es,clock,h1,h2,_⟩,g⟩:=R.row j i;refine ⟨es,clock,h1,?_⟩
     have:=as9 List.length h2
     simp only [List.length_map,Array.length_toList] at this;rw [this,g.length]
    ·cases hn;obtain ⟨_,q,⟨es,clock,h1,h2,_⟩,g⟩:=R.row j i;refine ⟨es,clock,h1,?_⟩
     have:=as9 List.length h2
     simp only [List.length_map,Array.length_toList] at this;rw [this,g.length]
   obtain ⟨es,clock,h1,h2⟩:=l;refine ⟨.int _ _,fun kk L K hk=>?_⟩;unfold AT;simp only [f];obtain ⟨w,m,p⟩:=aa9.1 f;show aS _ _ _ _;unfold Builtin.len_;simp only [m,List.getElem?_toArray,List.getElem?_cons_zero];rw [av,aC p];simp only [pure_bind];rw [av];refine fF h1 aj _ ?_;simp only [pure_bind];exact ⟨((n:Int),()),by rw [h2]; rfl,hk⟩
def Ts {f c:List Xab} {v:Xab} (hv:eu ρ f c) (d:T2 f=some v):∃ a b:Nat,c=[.int .i64 a,.int .i64 b]/\v=.int .i64 ((Nat.min a b:Nat):Int):=by
 unfold T2 at d;split at d
 ·cases d;cases hv with
  | cons h1 t =>
  cases t with
  | cons h2 t =>
  cases t; cases h1; cases h2;exact ⟨_,_,rfl,rfl⟩
 ·cases d
variable {H:TypeId}
def S9 {ts:Array TypeId} {f c:List Xab} {u:Xab} (hv:eu ρ f c) (d:(T2 f).bind (Vs C.P H)=some u):VR ρ u u/\∀ (kk:Xab->T) (L:Lp) (K:Xab->Hp->Prop),kk u L K h ->
  T.eH C.P (Builtin.min_ ts H c.toArray) false [cM C.P H] (jO _ fun l=>kk (rv false [cM C.P H] l)) L K h:=by
 obtain ⟨v,h1,d⟩:=aa9.1 d;obtain ⟨i,d⟩:=bF.1 (show gj _ _=some u from d);cases d;obtain ⟨a,b,rfl,rfl⟩:=Ts hv h1;refine ⟨.int _ _,fun kk L K hk=>?_⟩;obtain ⟨y,g⟩:=w7 (ρ:=ρ) (q:=(false,[cM C.P H])) (.int _ _) (by
  show (Ep (cM C.P H) _ && true)=true;rw [i]; rfl)
 show aS _ _ _ _;refine ⟨y,?_,?_⟩
 ·rw [<- g];show Value.int .i64 (if (b:Int)<(a:Int) then (b:Int) else (a:Int))=.int .i64 ((Nat.min a b:Nat):Int)
  congr 1
  show _=((min a b:Nat):Int);split <;> omega
 ·rw [dU]
  have:rv false [cM C.P H] (et _ y)=_:=g.symm
  rw [this]; exact hk
def Rb {d:TypeDesc} {x y b c:Xab} (f:VR ρ x b) (g:VR ρ y c) (a:RV d x y=true):b=x/\c=y:=by
 cases d <;> cases f <;> cases g <;> first | exact ⟨rfl,rfl⟩ | (simp [RV] at a; done)
def all_congr {α:Type} {p q:α->Bool} {c:Array α} (h:∀ a∈c,p a=q a):c.all p=c.all q:=by
 rw [<- dd9,<- dd9]
 have:∀ l:List α,(∀ a∈l,p a=q a)->l.all p=l.all q:=by
  intro l
  induction l with
  | nil=>intro _; rfl
  | cons a l d=>intro h; simp only [List.all_cons]; rw [h a aj,d fun b f=>h b (by simp [f])]
 exact this _ fun a g=>h a (by simpa using g)
def MG (a b:Xab):Fm a b=Ur a b:=by
 cases a <;> cases b <;> first | rfl | skip
 show pF _ _=(_==_);rw [lS,sg]
def TV {op:BinOp} {x y:Operand} {a a' b b' v:Xab} (E:VR ρ a a') (F:VR ρ b b') (c:V1 C.P op H a b=some v):VR ρ v v/\∀ (kk:Xab->T) (L:Lp) (K:Xab->Hp->Prop),kk v L K h ->
  R6 C.P op H x y a' b' kk L K h:=by
 unfold V1 at c;split at c
 ·rename_i xs ys j z;obtain ⟨h1,c⟩:=bF.1 c;simp only [Bool.and_eq_true,Bool.not_eq_true'] at h1;obtain ⟨⟨h1,h2⟩,l⟩:=h1;obtain ⟨xl⟩:=xs;obtain ⟨m⟩:=ys;cases E with
  | @agg _ d n =>
  cases F with
  | @agg _ g o =>
  have k:∀ f∈j,okF C.P ⟨d⟩ ⟨g⟩ f=true/\Fm ((⟨xl⟩:Array Xab)[f.offset]?.getD .nilIface) ((⟨m⟩:Array Xab)[f.offset]?.getD .nilIface)=HZ ⟨d⟩ ⟨g⟩ f:=by
   intro f k;have l:(j.toList.all (okF C.P ⟨xl⟩ ⟨m⟩))=true:=by rw [dd9]; exact l
   have:=bn9.1 l f (by simpa using k)
   obtain ⟨dd,u,w,G,p,q,A,I,N⟩:=G2 this;rw [eu9] at p q;obtain ⟨O,B,J⟩:=n.get p;obtain ⟨w',D,M⟩:=o.get q;obtain ⟨rfl,rfl⟩:=Rb J M A;refine ⟨?_,?_⟩
   ·unfold okF;simp only [G,List.getElem?_toArray,B,D,A,Bool.true_and];simpa using I
   ·unfold HZ;simp only [List.getElem?_toArray,B,D,p,q,Option.getD_some];exact MG _ _
  have i:j.all (okF C.P ⟨d⟩ ⟨g⟩)=true:=by
   rw [<- dd9];exact bn9.2 fun f h=>(k f (by simpa using h)).1
  have r:(j.all fun f=>Fm ((⟨xl⟩:Array Xab)[f.offset]?.getD .nilIface) ((⟨m⟩:Array Xab)[f.offset]?.getD .nilIface))=j.all (HZ ⟨d⟩ ⟨g⟩):=all_congr fun f h=>(k f h).2
  rw [r] at c;refine ⟨nI c,fun kk L K hk=>?_⟩;unfold qK at c;unfold R6;split at c
  ·cases c;exact Gy z h1 h2 i _ ⟨(_,()),rfl,hk⟩
  ·cases c;exact AB z h1 h2 i _ ⟨(_,()),rfl,hk⟩
  ·cases c
 ·cases c
def TY {op:BinOp} {x y:Operand} {a a' b b' v:Xab} (f:VR ρ a a') (g:VR ρ b b') (c:Xf C.P op H x y a b=some v):VR ρ v v/\∀ (kk:Xab->T) (L:Lp) (K:Xab->Hp->Prop),kk v L K h ->
  E2 C.P op H x y a' b' kk L K h:=by
 unfold Xf at c;cases d:sT C.P H x y with
 | true =>
  rw [d] at c;refine ⟨(FR (L:=[]) (K:=fun _ _=>True) (h:=h) (kk:=fun _ _ _ _=>True) f g c trivial).2,fun kk L K hk=>?_⟩;unfold E2;rw [d];exact (FR f g c hk).1
 | false =>
  rw [d] at c;obtain ⟨h1,h2⟩:=TV (h:=h) (x:=x) (y:=y) f g c;refine ⟨h1,fun kk L K hk=>?_⟩;unfold E2;rw [d];exact h2 kk L K hk
def uU {r:VS} {v:Xab}:BI C.P H r=some (v,s1)↔r=some (v,s1)/\Jp (lJ C.P H) v=true:=by
 unfold BI;constructor
 ·intro h;obtain ⟨⟨u,c⟩,h1,h2⟩:=aa9.1 h;obtain ⟨a,b⟩:=bF.1 (show gj _ _=some (v,s1) from h2);cases b;exact ⟨h1,a⟩
 ·rintro ⟨rfl,h2⟩;show gj (Jp (lJ C.P H) v) (some (v,s1))=_;rw [h2]; rfl
def Et {f:FuncId} {a:List Xab} {t:TypeId} {v:Xab} (hc:HC C.P f a.toArray h fun v' h'=>∃ ρ1,Le ρ ρ1/\Rel C h0 ρ1 s1.σ h'/\VR ρ1 v v') (c:Jp (lJ C.P t) v=true) (P:oV C h0 ρ s1 v kk L K) :
  T.call C.P f a (lJ C.P t).1 (lJ C.P t).2 (jO _ fun l=>kk (rv (lJ C.P t).1 (lJ C.P t).2 l)) L K h:=by
 refine hc.mono ?_;rintro v' h' ⟨ρ1,le,d,hv⟩;obtain ⟨x,b⟩:=w7 hv c;refine ⟨x,b,?_⟩;rw [dU,<- b];exact P ρ1 v' h' le d hv
def JU (O:Ok C) (R:Rel C h0 ρ s.σ h) {vs w:List Xab} {v:Xab} (hv:eu ρ vs w) (d:EP C vs s=some (v,s1)) :
  HC C.P C.U9 w.toArray h fun v' h'=>∃ ρ1,Le ρ ρ1/\Rel C h0 ρ1 s1.σ h'/\VR ρ1 v v':=by
 unfold EP at d;obtain ⟨a,ha,d⟩:=aa9.1 d;obtain ⟨⟨q,off⟩,G,d⟩:=aa9.1 d;obtain ⟨J,d⟩:=bF.1 d;obtain rfl:off=0:=au9 J;obtain ⟨l,hl,d⟩:=aa9.1 d;obtain ⟨m,H,d⟩:=aa9.1 d;obtain ⟨b,I,d⟩:=aa9.1 d;obtain ⟨o,ho,d⟩:=aa9.1 d;obtain ⟨a',rfl,M⟩:=KD hv ha;obtain ⟨pl,N,rfl⟩:∃ pl,ρ q=some pl/\a'=.func (.func C.seq) #[] #[.pointer (some ⟨pl.cB,pl.sh+0,none⟩)]:=by
  unfold QK at G;split at G
  ·rename_i f p;obtain ⟨h1,h2⟩:=bF.1 G;obtain rfl:f=C.seq:=au9 h1
   have:=jZ.1 h2
   subst this;cases M with
   | func f h1 h2 =>
   cases h1;cases h2 with
   | cons h2 t =>
   cases t;obtain ⟨pl,h3,rfl⟩:=h2.we;exact ⟨pl,h3,rfl⟩
  ·cases G
 obtain ⟨cs,Q,f,z,hg,i⟩:∃ (cs:Array Xab),pl.sh=0/\∃ f z,h[pl.cB]?=some (.cells cs z f)/\∃ m',cs[0]?=some m'/\VR ρ m m':=by
  unfold YR at hl;split at hl
  ·rename_i c z mm S;obtain ⟨h1,h2⟩:=bF.1 hl;cases h2;obtain rfl:mm=0:=au9 h1;obtain ⟨cs,f,e1,e2,_,e4⟩:=R.row S N;have hs:=e4.2 rfl;obtain ⟨m',e5,e6⟩:=e2 0 m (by
    unfold MW at H;split at H
    ·cases H; rfl
    ·cases H)
   exact ⟨cs,hs,f,z,e1,m',by rw [hs] at e5; exact e5,e6⟩
  ·cases hl
 obtain ⟨m',i,U⟩:=i;obtain ⟨V,A,W⟩:∃ pl,ρ b=some pl/\m'=.map (some pl.cB):=by
  unfold Om at I;split at I
  ·cases I;cases U with
   | map h=>exact ⟨_,h,rfl⟩
  ·cases I
 subst W;unfold KU at d;split at d
 ·rename_i D;obtain ⟨hD1,d⟩:=bF.1 d;have hD1:=bk9 hD1;obtain ⟨_,r,hD,u⟩:=R.row ho A;rw [Q];refine (O.U9 h pl.cB V.cB r cs z f hg i hD (by rw [<- u.length]; exact hD1)).mono ?_;rintro v' h' ⟨k,B⟩;cases D with
  | nil =>
   have:r=[]:=bo9 (by rw [<- u.length]; rfl)
   subst this;cases d;have X:v'=.slice none 0 0:=B;subst X;exact ⟨ρ,Le.refl _,R.ext k,.nu (aq9 _)⟩
  | cons p D =>
   cases r with
   | nil=>have:=u.length; simp at this
   | cons p' r =>
    obtain ⟨s2,Y,d⟩:=aa9.1 (show (Af s (.row _ 9 1)).bind _=some (v,s1) from d);obtain ⟨hn,h2⟩:=jw.1 Y;subst h2;cases d;obtain ⟨g,rest,cap,g1,rfl,g2,g3,g4,g5⟩:=B;have j:∀ l:List Xaa,eu ρ (l.map .string) (l.map .string):=by
     intro l
     induction l with
     | nil=>exact .nil
     | cons a l E=>exact .cons (.string _) E
    have F:∀ l:List Xaa,(sf l).length=l.length:=by
     intro l
     induction l with
     | nil=>rfl
     | cons a l E =>
      have hi:∀ (x:Xaa) (l:List Xaa),(Fy x l).length=l.length+1:=by
       intro x l
       induction l with
       | nil=>rfl
       | cons y l E =>
        unfold Fy;split
        ·rfl
        ·simp [E]
      unfold sf;rw [hi,E]; rfl
    rw [<- u.1] at g5;have Z:((sf ((p::D).map (·.1))).map Value.string).length=(p'::r).length:=by rw [ab9,F,ab9,u.length]
    obtain ⟨R1,le⟩:=R.new (n:=s.nx) (pl:=⟨g,0,cap⟩) hn g1 k (qO (e:=9) (m:=1) (cap:=cap) (cq9 R.size g1) (j _) (Le.kO (R.R2 _ hn)) g5 fun _=>⟨by rw [g3,Z],g2⟩);refine ⟨_,le,R1,?_⟩;have hv:=VR.sl (ρ:=kO ρ s.nx ⟨g,0,cap⟩) (c:=qT) (c':=cap) 0 (p'::r).length (fN _ _ _) (.inr ⟨Nat.le_of_lt xw,rfl⟩) g4;rw [u.length];simpa using hv
 ·cases d
end
end Go.Sx.Cr
