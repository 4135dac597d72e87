/- Part of the framework. No condition. -/
import Derived.Test.YthbffkdafjboiaaGreatDoorSxJe
set_option linter.all false
set_option maxHeartbeats 4000000
namespace Go.Sx.Cr
section
variable {C:Cx} {h0:Hp} {ρ:gn} {s s1:CS} {h:Hp} {e:Ev} {e':Env} {L:Lp} {K:Xab->Hp->Prop} {kk:Xab->T}
def Iy {vs vs':List Xab} {v:Xab} (hv:dS ρ vs vs') (hx:KC vs=some v):∃ v',vs'=[v']/\VR ρ v v':=by
 unfold KC at hx;split at hx
 ·cases hx;cases hv with
  | cons h t=>cases t; exact ⟨_,rfl,h⟩
 ·cases hx
def Pt (R:Rel C h0 ρ s.σ h) {c:Call} {t:TypeId} {v v' u:Xab} (hv:VR ρ v v') (hx:Tf s ((c.argTypes[0]?).bind C.P.underlying) v=some u):VR ρ u u/\∀ (kk:Xab->T) (L:Lp) (K:Xab->Hp->Prop),kk u L K h->zt C.P c t [v'] kk L K h:=by
 unfold Tf at hx;cases j:(c.argTypes[0]?).bind C.P.underlying with
 | none=>rw [j] at hx; cases hx
 | some d =>
  rw [j] at hx;cases d <;> first | (cases hx; done) | skip
  case string =>
   cases hv <;> first | (cases hx; done) | skip
   cases hx;refine ⟨.int _ _,fun kk L K hk=>?_⟩;unfold zt;simp only [j];exact hk
  case slice X =>
   cases hv <;> first | (cases hx; done) | skip
   ·cases hx;refine ⟨.int _ _,fun kk L K hk=>?_⟩;unfold zt;simp only [j];exact hk
   ·cases hx;refine ⟨.int _ _,fun kk L K hk=>?_⟩;unfold zt;simp only [j];exact hk
  case map k X =>
   cases hv <;> first | (cases hx; done) | skip
   rename_i b pl hb;obtain ⟨n,hn,hx⟩:=YZ.1 hx;cases hx;obtain ⟨o,J,hn⟩:=YZ.1 hn;have O:∃ (es:Array MapEntry) (clock:Nat),h[pl.cr]?=some (.map es clock)/\es.size=n:=by
    cases o <;> first | (cases hn; done) | skip
    ·cases hn;obtain ⟨_,D',⟨es,clock,h1,h2,_⟩,G⟩:=R.row J hb;refine ⟨es,clock,h1,?_⟩
     have:=Zl List.length h2
     simp only [List.length_map,Array.length_toList] at this;rw [this,G.length]
    ·cases hn;obtain ⟨_,D',⟨es,clock,h1,h2,_⟩,G⟩:=R.row J hb;refine ⟨es,clock,h1,?_⟩
     have:=Zl List.length h2
     simp only [List.length_map,Array.length_toList] at this;rw [this,G.length]
    ·cases hn;obtain ⟨_,D',⟨es,clock,h1,h2,_⟩,G⟩:=R.row J hb;refine ⟨es,clock,h1,?_⟩
     have:=Zl List.length h2
     simp only [List.length_map,Array.length_toList] at this;rw [this,G.length]
   obtain ⟨es,clock,h1,h2⟩:=O;refine ⟨.int _ _,fun kk L K hk=>?_⟩;unfold zt;simp only [j];obtain ⟨t0,U,V⟩:=YZ.1 j;show aS _ _ _ _;unfold Builtin.len_;simp only [U,List.getElem?_toArray,List.getElem?_cons_zero];rw [ao,aF V];simp only [pure_bind];rw [ao];refine fY h1 aj _ ?_;simp only [pure_bind];exact ⟨((n:Int),()),by rw [h2]; rfl,hk⟩
def Qs {vs vs':List Xab} {v:Xab} (hv:dS ρ vs vs') (hx:Q7 vs=some v):∃ a b:Nat,vs'=[.int .i64 a,.int .i64 b]/\v=.int .i64 ((Nat.min a b:Nat):Int):=by
 unfold Q7 at hx;split at hx
 ·cases hx;cases hv with
  | cons h1 t =>
  cases t with
  | cons h2 t =>
  cases t; cases h1; cases h2;exact ⟨_,_,rfl,rfl⟩
 ·cases hx
def P7 {t:TypeId} {ts:Array TypeId} {vs vs':List Xab} {u:Xab} (hv:dS ρ vs vs') (hx:(Q7 vs).bind (SO C.P t)=some u):VR ρ u u/\∀ (kk:Xab->T) (L:Lp) (K:Xab->Hp->Prop),kk u L K h ->
  T.eh C.P (Builtin.min_ ts t vs'.toArray) false [cD C.P t] (ju _ fun l=>kk (rv false [cD C.P t] l)) L K h:=by
 obtain ⟨v,h1,hx⟩:=YZ.1 hx;obtain ⟨j,hx⟩:=bq.1 (show fM _ _=some u from hx);cases hx;obtain ⟨a,b,rfl,rfl⟩:=Qs hv h1;refine ⟨.int _ _,fun kk L K hk=>?_⟩;obtain ⟨y,hy⟩:=vH (ρ:=ρ) (q:=(false,[cD C.P t])) (.int _ _) (by
  show (CR (cD C.P t) _ && true)=true;rw [j]; rfl)
 show aS _ _ _ _;refine ⟨y,?_,?_⟩
 ·rw [<- hy];show Value.int .i64 (if (b:Int)<(a:Int) then (b:Int) else (a:Int))=.int .i64 ((Nat.min a b:Nat):Int)
  congr 1
  show _=((min a b:Nat):Int);split <;> omega
 ·rw [dG]
  have:rv false [cD C.P t] (ef _ y)=_:=hy.symm
  rw [this]; exact hk
def Oo {d:TypeDesc} {x y u G:Xab} (hx:VR ρ x u) (hy:VR ρ y G) (j:RQ d x y=true):u=x/\G=y:=by
 cases d <;> cases hx <;> cases hy <;> first | exact ⟨rfl,rfl⟩ | (simp [RQ] at j; done)
def all_congr {α:Type} {p q:α->Bool} {j:Array α} (h:∀ a∈j,p a=q a):j.all p=j.all q:=by
 rw [<- ad9,<- ad9]
 have:∀ l:List α,(∀ a∈l,p a=q a)->l.all p=l.all q:=by
  intro l
  induction l with
  | nil=>intro _; rfl
  | cons a l u=>intro h; simp only [List.all_cons]; rw [h a aj,u fun b hb=>h b (by simp [hb])]
 exact this _ fun a G=>h a (by simpa using G)
def Kn (a b:Xab):DB a b=W5 a b:=by
 cases a <;> cases b <;> first | rfl | skip
 show oy _ _=(_==_);rw [ld,wQ]
def QX {op:BinOp} {t:TypeId} {x y:Operand} {a a' b b' v:Xab} (ha:VR ρ a a') (hb:VR ρ b b') (hx:To C.P op t a b=some v):VR ρ v v/\∀ (kk:Xab->T) (L:Lp) (K:Xab->Hp->Prop),kk v L K h ->
  Pj C.P op t x y a' b' kk L K h:=by
 unfold To at hx;split at hx
 ·rename_i xs ys fs hd;obtain ⟨h1,hx⟩:=bq.1 hx;simp only [Bool.and_eq_true,Bool.not_eq_true'] at h1;obtain ⟨⟨h1,h2⟩,h3⟩:=h1;obtain ⟨U⟩:=xs;obtain ⟨V⟩:=ys;cases ha with
  | @agg _ j X =>
  cases hb with
  | @agg _ G Y =>
  have O:∀ f∈fs,okF C.P ⟨j⟩ ⟨G⟩ f=true/\DB ((⟨U⟩:Array Xab)[f.offset]?.getD .nilIface) ((⟨V⟩:Array Xab)[f.offset]?.getD .nilIface)=Gd ⟨j⟩ ⟨G⟩ f:=by
   intro f O;have h3:(fs.toList.all (okF C.P ⟨U⟩ ⟨V⟩))=true:=by rw [ad9]; exact h3
   have:=Zx.1 h3 f (by simpa using O)
   obtain ⟨dd,u,w,e1,e2,Z,e4,e5,e6⟩:=Ff this;rw [br9] at e2 Z;obtain ⟨u',g1,g2⟩:=X.get e2;obtain ⟨w',g3,g4⟩:=Y.get Z;obtain ⟨rfl,rfl⟩:=Oo g2 g4 e4;refine ⟨?_,?_⟩
   ·unfold okF;simp only [e1,List.getElem?_toArray,g1,g3,e4,Bool.true_and];simpa using e5
   ·unfold Gd;simp only [List.getElem?_toArray,g1,g3,e2,Z,Option.getD_some];exact Kn _ _
  have J:fs.all (okF C.P ⟨j⟩ ⟨G⟩)=true:=by
   rw [<- ad9];exact Zx.2 fun f h=>(O f (by simpa using h)).1
  have heq:(fs.all fun f=>DB ((⟨U⟩:Array Xab)[f.offset]?.getD .nilIface) ((⟨V⟩:Array Xab)[f.offset]?.getD .nilIface))=fs.all (Gd ⟨j⟩ ⟨G⟩):=all_congr fun f h=>(O f h).2
  rw [heq] at hx;refine ⟨mJ hx,fun kk L K hk=>?_⟩;unfold pL at hx;unfold Pj;split at hx
  ·cases hx;exact zL hd h1 h2 J _ ⟨(_,()),rfl,hk⟩
  ·cases hx;exact uy hd h1 h2 J _ ⟨(_,()),rfl,hk⟩
  ·cases hx
 ·cases hx
def Q2 {op:BinOp} {t:TypeId} {x y:Operand} {a a' b b' v:Xab} (u:VR ρ a a') (hb:VR ρ b b') (hx:Uu C.P op t x y a b=some v):VR ρ v v/\∀ (kk:Xab->T) (L:Lp) (K:Xab->Hp->Prop),kk v L K h ->
  Dp C.P op t x y a' b' kk L K h:=by
 unfold Uu at hx;cases j:rA C.P t x y with
 | true =>
  rw [j] at hx;refine ⟨(D3 (L:=[]) (K:=fun _ _=>True) (h:=h) (kk:=fun _ _ _ _=>True) u hb hx trivial).2,fun kk L K hk=>?_⟩;unfold Dp;rw [j];exact (D3 u hb hx hk).1
 | false =>
  rw [j] at hx;obtain ⟨h1,h2⟩:=QX (h:=h) (x:=x) (y:=y) u hb hx;refine ⟨h1,fun kk L K hk=>?_⟩;unfold Dp;rw [j];exact h2 kk L K hk
def tP {t:TypeId} {r:VS} {v:Xab}:Ak C.P t r=some (v,s1)↔r=some (v,s1)/\Hl (kU C.P t) v=true:=by
 unfold Ak;constructor
 ·intro h;obtain ⟨⟨u,j⟩,h1,h2⟩:=YZ.1 h;obtain ⟨h3,h4⟩:=bq.1 (show fM _ _=some (v,s1) from h2);cases h4;exact ⟨h1,h3⟩
 ·rintro ⟨rfl,h2⟩;show fM (Hl (kU C.P t) v) (some (v,s1))=_;rw [h2]; rfl
def CV {f:FuncId} {vs':List Xab} {t:TypeId} {v:Xab} (hc:HC C.P f vs'.toArray h fun v' h'=>∃ ρ1,Le ρ ρ1/\Rel C h0 ρ1 s1.σ h'/\VR ρ1 v v') (j:Hl (kU C.P t) v=true) (P:nV C h0 ρ s1 v kk L K) :
  T.call C.P f vs' (kU C.P t).1 (kU C.P t).2 (ju _ fun l=>kk (rv (kU C.P t).1 (kU C.P t).2 l)) L K h:=by
 refine hc.mono ?_;rintro v' h' ⟨ρ1,le,u,hv⟩;obtain ⟨x,hx⟩:=vH hv j;refine ⟨x,hx,?_⟩;rw [dG,<- hx];exact P ρ1 v' h' le u hv
def HS (O:Ok C) (R:Rel C h0 ρ s.σ h) {vs vs':List Xab} {v:Xab} (hv:dS ρ vs vs') (hx:Di C vs s=some (v,s1)) :
  HC C.P C.Sl vs'.toArray h fun v' h'=>∃ ρ1,Le ρ ρ1/\Rel C h0 ρ1 s1.σ h'/\VR ρ1 v v':=by
 unfold Di at hx;obtain ⟨a,ha,hx⟩:=YZ.1 hx;obtain ⟨⟨q,off⟩,hq,hx⟩:=YZ.1 hx;obtain ⟨h0',hx⟩:=bq.1 hx;obtain rfl:off=0:=Zf h0';obtain ⟨l,hl,hx⟩:=YZ.1 hx;obtain ⟨m,hm,hx⟩:=YZ.1 hx;obtain ⟨b,hb,hx⟩:=YZ.1 hx;obtain ⟨o,ho,hx⟩:=YZ.1 hx;obtain ⟨a',rfl,ha'⟩:=Iy hv ha;obtain ⟨pl,hpl,rfl⟩:∃ pl,ρ q=some pl/\a'=.func (.func C.seq) #[] #[.pointer (some ⟨pl.cr,pl.sh+0,none⟩)]:=by
  unfold N4 at hq;split at hq
  ·rename_i f p;obtain ⟨h1,h2⟩:=bq.1 hq;obtain rfl:f=C.seq:=Zf h1
   have:=jG.1 h2
   subst this;cases ha' with
   | func f h1 h2 =>
   cases h1;cases h2 with
   | cons h2 t =>
   cases t;obtain ⟨pl,h3,rfl⟩:=h2.uL;exact ⟨pl,h3,rfl⟩
  ·cases hq
 obtain ⟨cs,hsh,f,U,hg,j⟩:∃ (cs:Array Xab),pl.sh=0/\∃ f U,h[pl.cr]?=some (.cells cs U f)/\∃ m',cs[0]?=some m'/\VR ρ m m':=by
  unfold Wk at hl;split at hl
  ·rename_i c U mm hq2;obtain ⟨h1,h2⟩:=bq.1 hl;cases h2;obtain rfl:mm=0:=Zf h1;obtain ⟨cs,f,e1,e2,_,e4⟩:=R.row hq2 hpl;have hs:=e4.2 rfl;obtain ⟨m',e5,e6⟩:=e2 0 m (by
    unfold KC at hm;split at hm
    ·cases hm; rfl
    ·cases hm)
   exact ⟨cs,hs,f,U,e1,m',by rw [hs] at e5; exact e5,e6⟩
  ·cases hl
 obtain ⟨m',j,hm'⟩:=j;obtain ⟨plb,V,hme⟩:∃ pl,ρ b=some pl/\m'=.map (some pl.cr):=by
  unfold LO at hb;split at hb
  ·cases hb;cases hm' with
   | map h=>exact ⟨_,h,rfl⟩
  ·cases hb
 subst hme;unfold IQ at hx;split at hx
 ·rename_i D;obtain ⟨u,hx⟩:=bq.1 hx;have u:=Zw u;obtain ⟨_,D',hD,J⟩:=R.row ho V;rw [hsh];refine (O.Sl h pl.cr plb.cr D' cs U f hg j hD (by rw [<- J.length]; exact u)).mono ?_;rintro v' h' ⟨k,X⟩;cases D with
  | nil =>
   have:D'=[]:=Z4 (by rw [<- J.length]; rfl)
   subst this;cases hx;have hv':v'=.slice none 0 0:=X;subst hv';exact ⟨ρ,Le.refl _,R.ext k,.mj (Zh _)⟩
  | cons p D =>
   cases D' with
   | nil=>have:=J.length; simp at this
   | cons p' D' =>
    obtain ⟨s2,hn2,hx⟩:=YZ.1 (show (yN s (.row _ 9 1)).bind _=some (v,s1) from hx);obtain ⟨hn,h2⟩:=iX.1 hn2;subst h2;cases hx;obtain ⟨g,rest,cap,g1,rfl,g2,g3,g4,g5⟩:=X;have G:∀ l:List Xaa,dS ρ (l.map .string) (l.map .string):=by
     intro l
     induction l with
     | nil=>exact .nil
     | cons a l Y=>exact .cons (.string _) Y
    have Z:∀ l:List Xaa,(qS l).length=l.length:=by
     intro l
     induction l with
     | nil=>rfl
     | cons a l Y =>
      have hi:∀ (x:Xaa) (l:List Xaa),(DJ x l).length=l.length+1:=by
       intro x l
       induction l with
       | nil=>rfl
       | cons y l Y =>
        unfold DJ;split
        ·rfl
        ·simp [Y]
      unfold qS;rw [hi,Y]; rfl
    rw [<- J.1] at g5;have hl2:((qS ((p::D).map (·.1))).map Value.string).length=(p'::D').length:=by rw [Y0,Z,Y0,J.length]
    obtain ⟨R1,le⟩:=R.new (n:=s.nx) (pl:=⟨g,0,cap⟩) hn g1 k (HH (e:=9) (m:=1) (cap:=cap) (ZW R.size g1) (G _) (Le.jn (R.Pb _ hn)) g5 fun _=>⟨by rw [g3,hl2],g2⟩);refine ⟨_,le,R1,?_⟩;have hv:=VR.sl (ρ:=jn ρ s.nx ⟨g,0,cap⟩) (c:=pT) (c':=cap) 0 (p'::D').length (fy _ _ _) (.inr ⟨Nat.le_of_lt vX,rfl⟩) g4;rw [J.length];simpa using hv
 ·cases hx
end
end Go.Sx.Cr
