/- Part of the framework. No condition. -/
import Derived.Test.YthbffkdafjboiaaGreatDoorSxJe
set_option linter.all false
set_option maxHeartbeats 4000000
namespace Go.Sx.Cr
section
variable {C:Cx} {h0:Hp} {ρ:gF} {s s1:CS} {h:Hp} {e:Ev} {e':Env} {L:Lp} {K:Xab->Hp->Prop} {kk:Xab->T}
def IN {vs vs':List Xab} {v:Xab} (hv:dS ρ vs vs') (hx:KS vs=some v):∃ v',vs'=[v']/\VR ρ v v':=by
 unfold KS at hx;split at hx
 ·cases hx;cases hv with
  | cons h t=>cases t; exact ⟨_,rfl,h⟩
 ·cases hx
def PW (R:Rel C h0 ρ s.σ h) {c:Call} {t:TypeId} {v v' u:Xab} (hv:VR ρ v v') (hx:TD s ((c.argTypes[0]?).bind C.P.underlying) v=some u):VR ρ u u/\∀ (kk:Xab->T) (L:Lp) (K:Xab->Hp->Prop),kk u L K h->zy C.P c t [v'] kk L K h:=by
 unfold TD at hx;cases j:(c.argTypes[0]?).bind C.P.underlying with
 | none=>rw [j] at hx; cases hx
 | some d =>
  rw [j] at hx;cases d <;> first | (cases hx; done) | skip
  case string =>
   cases hv <;> first | (cases hx; done) | skip
   cases hx;refine ⟨.int _ _,fun kk L K hk=>?_⟩;unfold zy;simp only [j];exact hk
  case slice X =>
   cases hv <;> first | (cases hx; done) | skip
   ·cases hx;refine ⟨.int _ _,fun kk L K hk=>?_⟩;unfold zy;simp only [j];exact hk
   ·cases hx;refine ⟨.int _ _,fun kk L K hk=>?_⟩;unfold zy;simp only [j];exact hk
  case map k X =>
   cases hv <;> first | (cases hx; done) | skip
   rename_i b pl G;obtain ⟨n,hn,hx⟩:=Yt.1 hx;cases hx;obtain ⟨o,J,hn⟩:=Yt.1 hn;have O:∃ (es:Array MapEntry) (clock:Nat),h[pl.cv]?=some (.map es clock)/\es.size=n:=by
    cases o <;> first | (cases hn; done) | skip
    ·cases hn;obtain ⟨_,D',⟨es,clock,h1,h2,_⟩,F⟩:=R.row J G;refine ⟨es,clock,h1,?_⟩
     have:=YJ List.length h2
     simp only [List.length_map,Array.length_toList] at this;rw [this,F.length]
    ·cases hn;obtain ⟨_,D',⟨es,clock,h1,h2,_⟩,F⟩:=R.row J G;refine ⟨es,clock,h1,?_⟩
     have:=YJ List.length h2
     simp only [List.length_map,Array.length_toList] at this;rw [this,F.length]
    ·cases hn;obtain ⟨_,D',⟨es,clock,h1,h2,_⟩,F⟩:=R.row J G;refine ⟨es,clock,h1,?_⟩
     have:=YJ List.length h2
     simp only [List.length_map,Array.length_toList] at this;rw [this,F.length]
   obtain ⟨es,clock,h1,h2⟩:=O;refine ⟨.int _ _,fun kk L K hk=>?_⟩;unfold zy;simp only [j];obtain ⟨t0,U,V⟩:=Yt.1 j;show aU _ _ _ _;unfold Builtin.len_;simp only [U,List.getElem?_toArray,List.getElem?_cons_zero];rw [ao,aF V];simp only [pure_bind];rw [ao];refine fW h1 aj _ ?_;simp only [pure_bind];exact ⟨((n:Int),()),by rw [h2]; rfl,hk⟩
def Q2 {vs vs':List Xab} {v:Xab} (hv:dS ρ vs vs') (hx:RD vs=some v):∃ a b:Nat,vs'=[.int .i64 a,.int .i64 b]/\v=.int .i64 ((Nat.min a b:Nat):Int):=by
 unfold RD at hx;split at hx
 ·cases hx;cases hv with
  | cons h1 t =>
  cases t with
  | cons h2 t =>
  cases t; cases h1; cases h2;exact ⟨_,_,rfl,rfl⟩
 ·cases hx
def QA {t:TypeId} {ts:Array TypeId} {vs vs':List Xab} {u:Xab} (hv:dS ρ vs vs') (hx:(RD vs).bind (Tj C.P t)=some u):VR ρ u u/\∀ (kk:Xab->T) (L:Lp) (K:Xab->Hp->Prop),kk u L K h ->
  T.ek C.P (Builtin.min_ ts t vs'.toArray) false [cG C.P t] (jv _ fun l=>kk (rv false [cG C.P t] l)) L K h:=by
 obtain ⟨v,h1,hx⟩:=Yt.1 hx;obtain ⟨j,hx⟩:=bF.1 (show fF _ _=some u from hx);cases hx;obtain ⟨a,b,rfl,rfl⟩:=Q2 hv h1;refine ⟨.int _ _,fun kk L K hk=>?_⟩;obtain ⟨y,d⟩:=vZ (ρ:=ρ) (q:=(false,[cG C.P t])) (.int _ _) (by
  show (C' (cG C.P t) _ && true)=true;rw [j]; rfl)
 show aU _ _ _ _;refine ⟨y,?_,?_⟩
 ·rw [<- d];show Value.int .i64 (if (b:Int)<(a:Int) then (b:Int) else (a:Int))=.int .i64 ((Nat.min a b:Nat):Int)
  congr 1
  show _=((min a b:Nat):Int);split <;> omega
 ·rw [dI]
  have:rv false [cG C.P t] (ec _ y)=_:=d.symm
  rw [this]; exact hk
def OS {d:TypeDesc} {x y u F:Xab} (hx:VR ρ x u) (G:VR ρ y F) (j:Sh d x y=true):u=x/\F=y:=by
 cases d <;> cases hx <;> cases G <;> first | exact ⟨rfl,rfl⟩ | (simp [Sh] at j; done)
def all_congr {α:Type} {p q:α->Bool} {d:Array α} (h:∀ a∈d,p a=q a):d.all p=d.all q:=by
 rw [<- ZV,<- ZV]
 have:∀ l:List α,(∀ a∈l,p a=q a)->l.all p=l.all q:=by
  intro l
  induction l with
  | nil=>intro _; rfl
  | cons a l j=>intro h; simp only [List.all_cons]; rw [h a aj,j fun b u=>h b (by simp [u])]
 exact this _ fun a F=>h a (by simpa using F)
def KG (a b:Xab):DT a b=WR a b:=by
 cases a <;> cases b <;> first | rfl | skip
 show oT _ _=(_==_);rw [lC,xc]
def Ru {op:BinOp} {t:TypeId} {x y:Operand} {a a' b b' v:Xab} (ha:VR ρ a a') (hb:VR ρ b b') (hx:TO C.P op t a b=some v):VR ρ v v/\∀ (kk:Xab->T) (L:Lp) (K:Xab->Hp->Prop),kk v L K h ->
  PM C.P op t x y a' b' kk L K h:=by
 unfold TO at hx;split at hx
 ·rename_i xs ys fs Z;obtain ⟨h1,hx⟩:=bF.1 hx;simp only [Bool.and_eq_true,Bool.not_eq_true'] at h1;obtain ⟨⟨h1,h2⟩,h3⟩:=h1;obtain ⟨J⟩:=xs;obtain ⟨O⟩:=ys;cases ha with
  | @agg _ d U =>
  cases hb with
  | @agg _ j V =>
  have G:∀ f∈fs,okF C.P ⟨d⟩ ⟨j⟩ f=true/\DT ((⟨J⟩:Array Xab)[f.offset]?.getD .nilIface) ((⟨O⟩:Array Xab)[f.offset]?.getD .nilIface)=H4 ⟨d⟩ ⟨j⟩ f:=by
   intro f G;have h3:(fs.toList.all (okF C.P ⟨J⟩ ⟨O⟩))=true:=by rw [ZV]; exact h3
   have:=Y1.1 h3 f (by simpa using G)
   obtain ⟨dd,u,w,e1,e2,X,e4,e5,e6⟩:=FB this;rw [al9] at e2 X;obtain ⟨u',g1,g2⟩:=U.get e2;obtain ⟨w',g3,g4⟩:=V.get X;obtain ⟨rfl,rfl⟩:=OS g2 g4 e4;refine ⟨?_,?_⟩
   ·unfold okF;simp only [e1,List.getElem?_toArray,g1,g3,e4,Bool.true_and];simpa using e5
   ·unfold H4;simp only [List.getElem?_toArray,g1,g3,e2,X,Option.getD_some];exact KG _ _
  have F:fs.all (okF C.P ⟨d⟩ ⟨j⟩)=true:=by
   rw [<- ZV];exact Y1.2 fun f h=>(G f (by simpa using h)).1
  have Y:(fs.all fun f=>DT ((⟨J⟩:Array Xab)[f.offset]?.getD .nilIface) ((⟨O⟩:Array Xab)[f.offset]?.getD .nilIface))=fs.all (H4 ⟨d⟩ ⟨j⟩):=all_congr fun f h=>(G f h).2
  rw [Y] at hx;refine ⟨ni hx,fun kk L K hk=>?_⟩;unfold qa at hx;unfold PM;split at hx
  ·cases hx;exact E1 Z h1 h2 F _ ⟨(_,()),rfl,hk⟩
  ·cases hx;exact zm Z h1 h2 F _ ⟨(_,()),rfl,hk⟩
  ·cases hx
 ·cases hx
def Rz {op:BinOp} {t:TypeId} {x y:Operand} {a a' b b' v:Xab} (j:VR ρ a a') (u:VR ρ b b') (hx:UR C.P op t x y a b=some v):VR ρ v v/\∀ (kk:Xab->T) (L:Lp) (K:Xab->Hp->Prop),kk v L K h ->
  DH C.P op t x y a' b' kk L K h:=by
 unfold UR at hx;cases d:rP C.P t x y with
 | true =>
  rw [d] at hx;refine ⟨(Eg (L:=[]) (K:=fun _ _=>True) (h:=h) (kk:=fun _ _ _ _=>True) j u hx trivial).2,fun kk L K hk=>?_⟩;unfold DH;rw [d];exact (Eg j u hx hk).1
 | false =>
  rw [d] at hx;obtain ⟨h1,h2⟩:=Ru (h:=h) (x:=x) (y:=y) j u hx;refine ⟨h1,fun kk L K hk=>?_⟩;unfold DH;rw [d];exact h2 kk L K hk
def ue {t:TypeId} {r:VS} {v:Xab}:AA C.P t r=some (v,s1)↔r=some (v,s1)/\HB (lf C.P t) v=true:=by
 unfold AA;constructor
 ·intro h;obtain ⟨⟨u,d⟩,h1,h2⟩:=Yt.1 h;obtain ⟨h3,h4⟩:=bF.1 (show fF _ _=some (v,s1) from h2);cases h4;exact ⟨h1,h3⟩
 ·rintro ⟨rfl,h2⟩;show fF (HB (lf C.P t) v) (some (v,s1))=_;rw [h2]; rfl
def Dc {f:FuncId} {vs':List Xab} {t:TypeId} {v:Xab} (hc:HC C.P f vs'.toArray h fun v' h'=>∃ ρ1,Le ρ ρ1/\Rel C h0 ρ1 s1.σ h'/\VR ρ1 v v') (d:HB (lf C.P t) v=true) (P:oy C h0 ρ s1 v kk L K) :
  T.call C.P f vs' (lf C.P t).1 (lf C.P t).2 (jv _ fun l=>kk (rv (lf C.P t).1 (lf C.P t).2 l)) L K h:=by
 refine hc.mono ?_;rintro v' h' ⟨ρ1,le,j,hv⟩;obtain ⟨x,hx⟩:=vZ hv d;refine ⟨x,hx,?_⟩;rw [dI,<- hx];exact P ρ1 v' h' le j hv
def H8 (O:Ok C) (R:Rel C h0 ρ s.σ h) {vs vs':List Xab} {v:Xab} (hv:dS ρ vs vs') (hx:DA C vs s=some (v,s1)) :
  HC C.P C.SU vs'.toArray h fun v' h'=>∃ ρ1,Le ρ ρ1/\Rel C h0 ρ1 s1.σ h'/\VR ρ1 v v':=by
 unfold DA at hx;obtain ⟨a,ha,hx⟩:=Yt.1 hx;obtain ⟨⟨q,off⟩,Y,hx⟩:=Yt.1 hx;obtain ⟨h0',hx⟩:=bF.1 hx;obtain rfl:off=0:=YL h0';obtain ⟨l,hl,hx⟩:=Yt.1 hx;obtain ⟨m,hm,hx⟩:=Yt.1 hx;obtain ⟨b,Z,hx⟩:=Yt.1 hx;obtain ⟨o,ho,hx⟩:=Yt.1 hx;obtain ⟨a',rfl,ha'⟩:=IN hv ha;obtain ⟨pl,hpl,rfl⟩:∃ pl,ρ q=some pl/\a'=.func (.func C.seq) #[] #[.pointer (some ⟨pl.cv,pl.sh+0,none⟩)]:=by
  unfold Oy at Y;split at Y
  ·rename_i f p;obtain ⟨h1,h2⟩:=bF.1 Y;obtain rfl:f=C.seq:=YL h1
   have:=jJ.1 h2
   subst this;cases ha' with
   | func f h1 h2 =>
   cases h1;cases h2 with
   | cons h2 t =>
   cases t;obtain ⟨pl,h3,rfl⟩:=h2.uZ;exact ⟨pl,h3,rfl⟩
  ·cases Y
 obtain ⟨cs,hsh,f,G,hg,d⟩:∃ (cs:Array Xab),pl.sh=0/\∃ f G,h[pl.cv]?=some (.cells cs G f)/\∃ m',cs[0]?=some m'/\VR ρ m m':=by
  unfold Wi at hl;split at hl
  ·rename_i c G mm hq2;obtain ⟨h1,h2⟩:=bF.1 hl;cases h2;obtain rfl:mm=0:=YL h1;obtain ⟨cs,f,e1,e2,_,e4⟩:=R.row hq2 hpl;have hs:=e4.2 rfl;obtain ⟨m',e5,e6⟩:=e2 0 m (by
    unfold KS at hm;split at hm
    ·cases hm; rfl
    ·cases hm)
   exact ⟨cs,hs,f,G,e1,m',by rw [hs] at e5; exact e5,e6⟩
  ·cases hl
 obtain ⟨m',d,hm'⟩:=d;obtain ⟨plb,J,hme⟩:∃ pl,ρ b=some pl/\m'=.map (some pl.cv):=by
  unfold Mi at Z;split at Z
  ·cases Z;cases hm' with
   | map h=>exact ⟨_,h,rfl⟩
  ·cases Z
 subst hme;unfold Jb at hx;split at hx
 ·rename_i D;obtain ⟨j,hx⟩:=bF.1 hx;have j:=Y2 j;obtain ⟨_,D',hD,F⟩:=R.row ho J;rw [hsh];refine (O.SU h pl.cv plb.cv D' cs G f hg d hD (by rw [<- F.length]; exact j)).mono ?_;rintro v' h' ⟨k,U⟩;cases D with
  | nil =>
   have:D'=[]:=Zf (by rw [<- F.length]; rfl)
   subst this;cases hx;have hv':v'=.slice none 0 0:=U;subst hv';exact ⟨ρ,Le.refl _,R.ext k,.mM (YI _)⟩
  | cons p D =>
   cases D' with
   | nil=>have:=F.length; simp at this
   | cons p' D' =>
    obtain ⟨s2,hn2,hx⟩:=Yt.1 (show (yX s (.row _ 9 1)).bind _=some (v,s1) from hx);obtain ⟨hn,h2⟩:=iX.1 hn2;subst h2;cases hx;obtain ⟨g,rest,cap,g1,rfl,g2,g3,g4,g5⟩:=U;have u:∀ l:List Xaa,dS ρ (l.map .string) (l.map .string):=by
     intro l
     induction l with
     | nil=>exact .nil
     | cons a l V=>exact .cons (.string _) V
    have X:∀ l:List Xaa,(rm l).length=l.length:=by
     intro l
     induction l with
     | nil=>rfl
     | cons a l V =>
      have hi:∀ (x:Xaa) (l:List Xaa),(DZ x l).length=l.length+1:=by
       intro x l
       induction l with
       | nil=>rfl
       | cons y l V =>
        unfold DZ;split
        ·rfl
        ·simp [V]
      unfold rm;rw [hi,V]; rfl
    rw [<- F.1] at g5;have hl2:((rm ((p::D).map (·.1))).map Value.string).length=(p'::D').length:=by rw [Yu,X,Yu,F.length]
    obtain ⟨R1,le⟩:=R.new (n:=s.nx) (pl:=⟨g,0,cap⟩) hn g1 k (HW (e:=9) (m:=1) (cap:=cap) (Zq R.size g1) (u _) (Le.iR (R.PG _ hn)) g5 fun _=>⟨by rw [g3,hl2],g2⟩);refine ⟨_,le,R1,?_⟩;have hv:=VR.sl (ρ:=iR ρ s.nx ⟨g,0,cap⟩) (c:=qh) (c':=cap) 0 (p'::D').length (fv _ _ _) (.inr ⟨Nat.le_of_lt wv,rfl⟩) g4;rw [F.length];simpa using hv
 ·cases hx
end
end Go.Sx.Cr
