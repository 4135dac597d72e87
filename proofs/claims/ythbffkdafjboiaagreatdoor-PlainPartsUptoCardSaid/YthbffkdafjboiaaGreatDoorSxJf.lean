/- Part of the framework. No condition. -/
import Derived.Test.YthbffkdafjboiaaGreatDoorSxJe
set_option linter.all false
set_option maxHeartbeats 4000000
namespace Go.Sx.Cr
section
variable {C:Cx} {h0:Hp} {ρ:gn} {s s1:CS} {h:Hp} {e:Ev} {e':Env} {L:Lp} {K:ZB->Hp->Prop} {kk:ZB->T}
def HU {vs vs':List ZB} {v:ZB} (hv:dQ ρ vs vs') (hx:JT vs=some v):∃ v',vs'=[v']/\VR ρ v v':=by
 unfold JT at hx;split at hx
 ·cases hx;cases hv with
  | cons h t=>cases t; exact ⟨_,rfl,h⟩
 ·cases hx
def Ov (R:Rel C h0 ρ s.σ h) {c:Call} {t:TypeId} {v v' u:ZB} (hv:VR ρ v v') (hx:RU s ((c.argTypes[0]?).bind C.P.underlying) v=some u):VR ρ u u/\∀ (kk:ZB->T) (L:Lp) (K:ZB->Hp->Prop),kk u L K h->yQ C.P c t [v'] kk L K h:=by
 unfold RU at hx;cases hd:(c.argTypes[0]?).bind C.P.underlying with
 | none=>rw [hd] at hx; cases hx
 | some d =>
  rw [hd] at hx;cases d <;> first | (cases hx; done) | skip
  case string =>
   cases hv <;> first | (cases hx; done) | skip
   cases hx;refine ⟨.int _ _,fun kk L K hk=>?_⟩;unfold yQ;simp only [hd];exact hk
  case slice el =>
   cases hv <;> first | (cases hx; done) | skip
   ·cases hx;refine ⟨.int _ _,fun kk L K hk=>?_⟩;unfold yQ;simp only [hd];exact hk
   ·cases hx;refine ⟨.int _ _,fun kk L K hk=>?_⟩;unfold yQ;simp only [hd];exact hk
  case map k el =>
   cases hv <;> first | (cases hx; done) | skip
   rename_i b pl hb;obtain ⟨n,hn,hx⟩:=W1.1 hx;cases hx;obtain ⟨o,ho,hn⟩:=W1.1 hn;have hsz:∃ (es:Array MapEntry) (clock:Nat),h[pl.cj]?=some (.map es clock)/\es.size=n:=by
    cases o <;> first | (cases hn; done) | skip
    ·cases hn;obtain ⟨_,D',⟨es,clock,h1,h2,_⟩,hr⟩:=R.row ho hb;refine ⟨es,clock,h1,?_⟩
     have:=Xj List.length h2
     simp only [List.length_map,Array.length_toList] at this;rw [this,hr.length]
    ·cases hn;obtain ⟨_,D',⟨es,clock,h1,h2,_⟩,hr⟩:=R.row ho hb;refine ⟨es,clock,h1,?_⟩
     have:=Xj List.length h2
     simp only [List.length_map,Array.length_toList] at this;rw [this,hr.length]
    ·cases hn;obtain ⟨_,D',⟨es,clock,h1,h2,_⟩,hr⟩:=R.row ho hb;refine ⟨es,clock,h1,?_⟩
     have:=Xj List.length h2
     simp only [List.length_map,Array.length_toList] at this;rw [this,hr.length]
   obtain ⟨es,clock,h1,h2⟩:=hsz;refine ⟨.int _ _,fun kk L K hk=>?_⟩;unfold yQ;simp only [hd];obtain ⟨t0,ht0,hd'⟩:=W1.1 hd;show aS _ _ _ _;unfold Builtin.len_;simp only [ht0,List.getElem?_toArray,List.getElem?_cons_zero];rw [ar,aF hd'];simp only [pure_bind];rw [ar];refine fT h1 aj _ ?_;simp only [pure_bind];exact ⟨((n:Int),()),by rw [h2]; rfl,hk⟩
def Pu {vs vs':List ZB} {v:ZB} (hv:dQ ρ vs vs') (hx:P5 vs=some v):∃ a b:Nat,vs'=[.int .i64 a,.int .i64 b]/\v=.int .i64 ((Nat.min a b:Nat):Int):=by
 unfold P5 at hx;split at hx
 ·cases hx;cases hv with
  | cons h1 t =>
  cases t with
  | cons h2 t =>
  cases t; cases h1; cases h2;exact ⟨_,_,rfl,rfl⟩
 ·cases hx
def O7 {t:TypeId} {ts:Array TypeId} {vs vs':List ZB} {u:ZB} (hv:dQ ρ vs vs') (hx:(P5 vs).bind (Rx C.P t)=some u):VR ρ u u/\∀ (kk:ZB->T) (L:Lp) (K:ZB->Hp->Prop),kk u L K h ->
  T.ek C.P (Builtin.min_ ts t vs'.toArray) false [cz C.P t] (jj _ fun l=>kk (rv false [cz C.P t] l)) L K h:=by
 obtain ⟨v,h1,hx⟩:=W1.1 hx;obtain ⟨hf,hx⟩:=bq.1 (show fG _ _=some u from hx);cases hx;obtain ⟨a,b,rfl,rfl⟩:=Pu hv h1;refine ⟨.int _ _,fun kk L K hk=>?_⟩;obtain ⟨y,hy⟩:=uT (ρ:=ρ) (q:=(false,[cz C.P t])) (.int _ _) (by
  show (Cg (cz C.P t) _ && true)=true;rw [hf]; rfl)
 show aS _ _ _ _;refine ⟨y,?_,?_⟩
 ·rw [<- hy];show Value.int .i64 (if (b:Int)<(a:Int) then (b:Int) else (a:Int))=.int .i64 ((Nat.min a b:Nat):Int)
  congr 1
  show _=((min a b:Nat):Int);split <;> omega
 ·rw [dE]
  have:rv false [cz C.P t] (dZ _ y)=_:=hy.symm
  rw [this]; exact hk
def Nz {d:TypeDesc} {x y x' y':ZB} (hx:VR ρ x x') (hy:VR ρ y y') (hok:QF d x y=true):x'=x/\y'=y:=by
 cases d <;> cases hx <;> cases hy <;> first | exact ⟨rfl,rfl⟩ | (simp [QF] at hok; done)
def all_congr {α:Type} {p q:α->Bool} {arr:Array α} (h:∀ a∈arr,p a=q a):arr.all p=arr.all q:=by
 rw [<- Yj,<- Yj]
 have:∀ l:List α,(∀ a∈l,p a=q a)->l.all p=l.all q:=by
  intro l
  induction l with
  | nil=>intro _; rfl
  | cons a l ih=>intro h; simp only [List.all_cons]; rw [h a aj,ih fun b hb=>h b (by simp [hb])]
 exact this _ fun a ha=>h a (by simpa using ha)
def JG (a b:ZB):C3 a b=Vr a b:=by
 cases a <;> cases b <;> first | rfl | skip
 show n' _ _=(_==_);rw [kP,wh]
def PV {op:BinOp} {t:TypeId} {x y:Operand} {a a' b b' v:ZB} (ha:VR ρ a a') (hb:VR ρ b b') (hx:R4 C.P op t a b=some v):VR ρ v v/\∀ (kk:ZB->T) (L:Lp) (K:ZB->Hp->Prop),kk v L K h ->
  Ol C.P op t x y a' b' kk L K h:=by
 unfold R4 at hx;split at hx
 ·rename_i xs ys fs hd;obtain ⟨h1,hx⟩:=bq.1 hx;simp only [Bool.and_eq_true,Bool.not_eq_true'] at h1;obtain ⟨⟨h1,h2⟩,h3⟩:=h1;obtain ⟨xl⟩:=xs;obtain ⟨yl⟩:=ys;cases ha with
  | @agg _ xl' hxl =>
  cases hb with
  | @agg _ yl' hyl =>
  have hf:∀ f∈fs,okF C.P ⟨xl'⟩ ⟨yl'⟩ f=true/\C3 ((⟨xl⟩:Array ZB)[f.offset]?.getD .nilIface) ((⟨yl⟩:Array ZB)[f.offset]?.getD .nilIface)=FJ ⟨xl'⟩ ⟨yl'⟩ f:=by
   intro f hf;have h3:(fs.toList.all (okF C.P ⟨xl⟩ ⟨yl⟩))=true:=by rw [Yj]; exact h3
   have:=XA.1 h3 f (by simpa using hf)
   obtain ⟨dd,u,w,e1,e2,e3,e4,e5,e6⟩:=EA this;rw [YP] at e2 e3;obtain ⟨u',g1,g2⟩:=hxl.get e2;obtain ⟨w',g3,g4⟩:=hyl.get e3;obtain ⟨rfl,rfl⟩:=Nz g2 g4 e4;refine ⟨?_,?_⟩
   ·unfold okF;simp only [e1,List.getElem?_toArray,g1,g3,e4,Bool.true_and];simpa using e5
   ·unfold FJ;simp only [List.getElem?_toArray,g1,g3,e2,e3,Option.getD_some];exact JG _ _
  have hall:fs.all (okF C.P ⟨xl'⟩ ⟨yl'⟩)=true:=by
   rw [<- Yj];exact XA.2 fun f h=>(hf f (by simpa using h)).1
  have heq:(fs.all fun f=>C3 ((⟨xl⟩:Array ZB)[f.offset]?.getD .nilIface) ((⟨yl⟩:Array ZB)[f.offset]?.getD .nilIface))=fs.all (FJ ⟨xl'⟩ ⟨yl'⟩):=all_congr fun f h=>(hf f h).2
  rw [heq] at hx;refine ⟨mw hx,fun kk L K hk=>?_⟩;unfold pj at hx;unfold Ol;split at hx
  ·cases hx;exact zf hd h1 h2 hall _ ⟨(_,()),rfl,hk⟩
  ·cases hx;exact yC hd h1 h2 hall _ ⟨(_,()),rfl,hk⟩
  ·cases hx
 ·cases hx
def P0 {op:BinOp} {t:TypeId} {x y:Operand} {a a' b b' v:ZB} (ha:VR ρ a a') (hb:VR ρ b b') (hx:Tj C.P op t x y a b=some v):VR ρ v v/\∀ (kk:ZB->T) (L:Lp) (K:ZB->Hp->Prop),kk v L K h ->
  CT C.P op t x y a' b' kk L K h:=by
 unfold Tj at hx;cases hp:q8 C.P t x y with
 | true =>
  rw [hp] at hx;refine ⟨(Dt (L:=[]) (K:=fun _ _=>True) (h:=h) (kk:=fun _ _ _ _=>True) ha hb hx trivial).2,fun kk L K hk=>?_⟩;unfold CT;rw [hp];exact (Dt ha hb hx hk).1
 | false =>
  rw [hp] at hx;obtain ⟨h1,h2⟩:=PV (h:=h) (x:=x) (y:=y) ha hb hx;refine ⟨h1,fun kk L K hk=>?_⟩;unfold CT;rw [hp];exact h2 kk L K hk
def tj {t:TypeId} {r:VS} {v:ZB}:zK C.P t r=some (v,s1)↔r=some (v,s1)/\GJ (kI C.P t) v=true:=by
 unfold zK;constructor
 ·intro h;obtain ⟨⟨u,s2⟩,h1,h2⟩:=W1.1 h;obtain ⟨h3,h4⟩:=bq.1 (show fG _ _=some (v,s1) from h2);cases h4;exact ⟨h1,h3⟩
 ·rintro ⟨rfl,h2⟩;show fG (GJ (kI C.P t) v) (some (v,s1))=_;rw [h2]; rfl
def Ck {f:FuncId} {vs':List ZB} {t:TypeId} {v:ZB} (hc:HC C.P f vs'.toArray h fun v' h'=>∃ ρ1,Le ρ ρ1/\Rel C h0 ρ1 s1.σ h'/\VR ρ1 v v') (hf:GJ (kI C.P t) v=true) (P:nH C h0 ρ s1 v kk L K) :
  T.call C.P f vs' (kI C.P t).1 (kI C.P t).2 (jj _ fun l=>kk (rv (kI C.P t).1 (kI C.P t).2 l)) L K h:=by
 refine hc.mono ?_;rintro v' h' ⟨ρ1,le,R1,hv⟩;obtain ⟨x,hx⟩:=uT hv hf;refine ⟨x,hx,?_⟩;rw [dE,<- hx];exact P ρ1 v' h' le R1 hv
def He (O:Ok C) (R:Rel C h0 ρ s.σ h) {vs vs':List ZB} {v:ZB} (hv:dQ ρ vs vs') (hx:CL C vs s=some (v,s1)) :
  HC C.P C.Re vs'.toArray h fun v' h'=>∃ ρ1,Le ρ ρ1/\Rel C h0 ρ1 s1.σ h'/\VR ρ1 v v':=by
 unfold CL at hx;obtain ⟨a,ha,hx⟩:=W1.1 hx;obtain ⟨⟨q,off⟩,hq,hx⟩:=W1.1 hx;obtain ⟨h0',hx⟩:=bq.1 hx;obtain rfl:off=0:=Xg h0';obtain ⟨l,hl,hx⟩:=W1.1 hx;obtain ⟨m,hm,hx⟩:=W1.1 hx;obtain ⟨b,hb,hx⟩:=W1.1 hx;obtain ⟨o,ho,hx⟩:=W1.1 hx;obtain ⟨a',rfl,ha'⟩:=HU hv ha;obtain ⟨pl,hpl,rfl⟩:∃ pl,ρ q=some pl/\a'=.func (.func C.seq) #[] #[.pointer (some ⟨pl.cj,pl.sh+0,none⟩)]:=by
  unfold Nc at hq;split at hq
  ·rename_i f p;obtain ⟨h1,h2⟩:=bq.1 hq;obtain rfl:f=C.seq:=Xg h1
   have:=jv.1 h2
   subst this;cases ha' with
   | func f h1 h2 =>
   cases h1;cases h2 with
   | cons h2 t =>
   cases t;obtain ⟨pl,h3,rfl⟩:=h2.uj;exact ⟨pl,h3,rfl⟩
  ·cases hq
 obtain ⟨cs,hsh,f,eT,hg,hc0⟩:∃ (cs:Array ZB),pl.sh=0/\∃ f eT,h[pl.cj]?=some (.cells cs eT f)/\∃ m',cs[0]?=some m'/\VR ρ m m':=by
  unfold UR at hl;split at hl
  ·rename_i c eT mm hq2;obtain ⟨h1,h2⟩:=bq.1 hl;cases h2;obtain rfl:mm=0:=Xg h1;obtain ⟨cs,f,e1,e2,_,e4⟩:=R.row hq2 hpl;have hs:=e4.2 rfl;obtain ⟨m',e5,e6⟩:=e2 0 m (by
    unfold JT at hm;split at hm
    ·cases hm; rfl
    ·cases hm)
   exact ⟨cs,hs,f,eT,e1,m',by rw [hs] at e5; exact e5,e6⟩
  ·cases hl
 obtain ⟨m',hc0,hm'⟩:=hc0;obtain ⟨plb,hplb,hme⟩:∃ pl,ρ b=some pl/\m'=.map (some pl.cj):=by
  unfold KY at hb;split at hb
  ·cases hb;cases hm' with
   | map h=>exact ⟨_,h,rfl⟩
  ·cases hb
 subst hme;unfold Ic at hx;split at hx
 ·rename_i D;obtain ⟨hD1,hx⟩:=bq.1 hx;have hD1:=Xx hD1;obtain ⟨_,D',hD,hr⟩:=R.row ho hplb;rw [hsh];refine (O.Re h pl.cj plb.cj D' cs eT f hg hc0 hD (by rw [<- hr.length]; exact hD1)).mono ?_;rintro v' h' ⟨k,hm2⟩;cases D with
  | nil =>
   have:D'=[]:=X7 (by rw [<- hr.length]; rfl)
   subst this;cases hx;have hv':v'=.slice none 0 0:=hm2;subst hv';exact ⟨ρ,Le.refl _,R.ext k,.lX (Xk _)⟩
  | cons p D =>
   cases D' with
   | nil=>have:=hr.length; simp at this
   | cons p' D' =>
    obtain ⟨s2,hn2,hx⟩:=W1.1 (show (yj s (.row _ 9 1)).bind _=some (v,s1) from hx);obtain ⟨hn,h2⟩:=iO.1 hn2;subst h2;cases hx;obtain ⟨g,rest,cap,g1,rfl,g2,g3,g4,g5⟩:=hm2;have hkeys:∀ l:List ZA,dQ ρ (l.map .string) (l.map .string):=by
     intro l
     induction l with
     | nil=>exact .nil
     | cons a l ih=>exact .cons (.string _) ih
    have hlen:∀ l:List ZA,(qB l).length=l.length:=by
     intro l
     induction l with
     | nil=>rfl
     | cons a l ih =>
      have hi:∀ (x:ZA) (l:List ZA),(C' x l).length=l.length+1:=by
       intro x l
       induction l with
       | nil=>rfl
       | cons y l ih =>
        unfold C';split
        ·rfl
        ·simp [ih]
      unfold qB;rw [hi,ih]; rfl
    rw [<- hr.1] at g5;have hl2:((qB ((p::D).map (·.1))).map Value.string).length=(p'::D').length:=by rw [W3,hlen,W3,hr.length]
    obtain ⟨R1,le⟩:=R.new (n:=s.nx) (pl:=⟨g,0,cap⟩) hn g1 k (G5 (e:=9) (m:=1) (cap:=cap) (XV R.size g1) (hkeys _) (Le.je (R.Oe _ hn)) g5 fun _=>⟨by rw [g3,hl2],g2⟩);refine ⟨_,le,R1,?_⟩;have hv:=VR.sl (ρ:=je ρ s.nx ⟨g,0,cap⟩) (c:=pB) (c':=cap) 0 (p'::D').length (fp _ _ _) (.inr ⟨Nat.le_of_lt vq,rfl⟩) g4;rw [hr.length];simpa using hv
 ·cases hx
end
end Go.Sx.Cr
