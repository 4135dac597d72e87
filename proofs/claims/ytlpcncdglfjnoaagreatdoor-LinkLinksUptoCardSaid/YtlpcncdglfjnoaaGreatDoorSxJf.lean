/- Closed runs, part Jf: lengths, comparisons, calls over a store. Asked: of the context, what Ok says; of calls, what CallOk says. -/
import Derived.Test.YtlpcncdglfjnoaaGreatDoorSxJe
set_option linter.all false
set_option maxHeartbeats 4000000
namespace Go.Sx.Cr
section
variable {C:Cx} {h0:Hp} {ρ:fZ} {s s1:CS} {h:Hp} {e:Ev} {e':Env} {L:Lp} {K:YB->Hp->Prop} {kk:YB->T}
theorem HN {vs vs':List YB} {v:YB} (hv:dL ρ vs vs') (hx:Jf vs=some v):∃ v',vs'=[v']/\VR ρ v v':=by
 unfold Jf at hx;split at hx
 ·cases hx;cases hv with
  | cons h t=>cases t; exact ⟨_,rfl,h⟩
 ·cases hx
theorem O1 (R:Rel C h0 ρ s.σ h) {c:Call} {t:TypeId} {v v' u:YB} (hv:VR ρ v v') (hx:RR s ((c.argTypes[0]?).bind C.P.underlying) v=some u):VR ρ u u/\∀ (kk:YB->T) (L:Lp) (K:YB->Hp->Prop),kk u L K h->zd C.P c t [v'] kk L K h:=by
 unfold RR at hx;cases hd:(c.argTypes[0]?).bind C.P.underlying with
 | none=>rw [hd] at hx; cases hx
 | some d =>
  rw [hd] at hx;cases d <;> first | (cases hx; done) | skip
  case string =>
   cases hv <;> first | (cases hx; done) | skip
   cases hx;refine ⟨.int _ _,fun kk L K hk=>?_⟩;unfold zd;simp only [hd];exact hk
  case slice el =>
   cases hv <;> first | (cases hx; done) | skip
   ·cases hx;refine ⟨.int _ _,fun kk L K hk=>?_⟩;unfold zd;simp only [hd];exact hk
   ·cases hx;refine ⟨.int _ _,fun kk L K hk=>?_⟩;unfold zd;simp only [hd];exact hk
  case map k el =>
   cases hv <;> first | (cases hx; done) | skip
   rename_i b pl hb;obtain ⟨n,hn,hx⟩:=Wq.1 hx;cases hx;obtain ⟨o,ho,hn⟩:=Wq.1 hn;have hsz:∃ (es:Array MapEntry) (clock:Nat),h[pl.cd]?=some (.map es clock)/\es.size=n:=by
    cases o <;> first | (cases hn; done) | skip
    ·cases hn;obtain ⟨_,D',⟨es,clock,h1,h2,_⟩,hr⟩:=R.row ho hb;refine ⟨es,clock,h1,?_⟩
     have:=WJ List.length h2
     simp only [List.length_map,Array.length_toList] at this;rw [this,hr.length]
    ·cases hn;obtain ⟨_,D',⟨es,clock,h1,h2,_⟩,hr⟩:=R.row ho hb;refine ⟨es,clock,h1,?_⟩
     have:=WJ List.length h2
     simp only [List.length_map,Array.length_toList] at this;rw [this,hr.length]
    ·cases hn;obtain ⟨_,D',⟨es,clock,h1,h2,_⟩,hr⟩:=R.row ho hb;refine ⟨es,clock,h1,?_⟩
     have:=WJ List.length h2
     simp only [List.length_map,Array.length_toList] at this;rw [this,hr.length]
   obtain ⟨es,clock,h1,h2⟩:=hsz;refine ⟨.int _ _,fun kk L K hk=>?_⟩;unfold zd;simp only [hd];obtain ⟨t0,ht0,hd'⟩:=Wq.1 hd;show aP _ _ _ _;unfold Builtin.len_;simp only [ht0,List.getElem?_toArray,List.getElem?_cons_zero];rw [ar,aC hd'];simp only [pure_bind];rw [ar];refine fF h1 aj _ ?_;simp only [pure_bind];exact ⟨((n:Int),()),by rw [h2]; rfl,hk⟩
theorem P6 {vs vs':List YB} {v:YB} (hv:dL ρ vs vs') (hx:Qe vs=some v):∃ a b:Nat,vs'=[.int .i64 a,.int .i64 b]/\v=.int .i64 ((Nat.min a b:Nat):Int):=by
 unfold Qe at hx;split at hx
 ·cases hx;cases hv with
  | cons h1 t =>
  cases t with
  | cons h2 t =>
  cases t; cases h1; cases h2;exact ⟨_,_,rfl,rfl⟩
 ·cases hx
theorem ON {t:TypeId} {ts:Array TypeId} {vs vs':List YB} {u:YB} (hv:dL ρ vs vs') (hx:(Qe vs).bind (Rp C.P t)=some u):VR ρ u u/\∀ (kk:YB->T) (L:Lp) (K:YB->Hp->Prop),kk u L K h ->
  T.dW C.P (Builtin.min_ ts t vs'.toArray) false [cy C.P t] (jh _ fun l=>kk (rv false [cy C.P t] l)) L K h:=by
 obtain ⟨v,h1,hx⟩:=Wq.1 hx;obtain ⟨hf,hx⟩:=bn.1 (show fz _ _=some u from hx);cases hx;obtain ⟨a,b,rfl,rfl⟩:=P6 hv h1;refine ⟨.int _ _,fun kk L K hk=>?_⟩;obtain ⟨y,hy⟩:=uU (ρ:=ρ) (q:=(false,[cy C.P t])) (.int _ _) (by
  show (BT (cy C.P t) _ && true)=true;rw [hf]; rfl)
 show aP _ _ _ _;refine ⟨y,?_,?_⟩
 ·rw [<- hy];show Value.int .i64 (if (b:Int)<(a:Int) then (b:Int) else (a:Int))=.int .i64 ((Nat.min a b:Nat):Int)
  congr 1
  show _=((min a b:Nat):Int);split <;> omega
 ·rw [dr]
  have:rv false [cy C.P t] (dU _ y)=_:=hy.symm
  rw [this]; exact hk
theorem Nj {d:TypeDesc} {x y x' y':YB} (hx:VR ρ x x') (hy:VR ρ y y') (hok:Ru d x y=true):x'=x/\y'=y:=by
 cases d <;> cases hx <;> cases hy <;> first | exact ⟨rfl,rfl⟩ | (simp [Ru] at hok; done)
theorem all_congr {α:Type} {p q:α->Bool} {arr:Array α} (h:∀ a∈arr,p a=q a):arr.all p=arr.all q:=by
 rw [<- XL,<- XL]
 have:∀ l:List α,(∀ a∈l,p a=q a)->l.all p=l.all q:=by
  intro l
  induction l with
  | nil=>intro _; rfl
  | cons a l ih=>intro h; simp only [List.all_cons]; rw [h a aj,ih fun b hb=>h b (by simp [hb])]
 exact this _ fun a ha=>h a (by simpa using ha)
theorem IF (a b:YB):CE a b=T3 a b:=by
 cases a <;> cases b <;> first | rfl | skip
 show nD _ _=(_==_);rw [kz,tJ]
theorem Pu {op:BinOp} {t:TypeId} {x y:Operand} {a a' b b' v:YB} (ha:VR ρ a a') (hb:VR ρ b b') (hx:Rx C.P op t a b=some v):VR ρ v v/\∀ (kk:YB->T) (L:Lp) (K:YB->Hp->Prop),kk v L K h ->
  P' C.P op t x y a' b' kk L K h:=by
 unfold Rx at hx;split at hx
 ·rename_i xs ys fs hd;obtain ⟨h1,hx⟩:=bn.1 hx;simp only [Bool.and_eq_true,Bool.not_eq_true'] at h1;obtain ⟨⟨h1,h2⟩,h3⟩:=h1;obtain ⟨xl⟩:=xs;obtain ⟨yl⟩:=ys;cases ha with
  | @agg _ xl' hxl =>
  cases hb with
  | @agg _ yl' hyl =>
  have hf:∀ f∈fs,okF C.P ⟨xl'⟩ ⟨yl'⟩ f=true/\CE ((⟨xl⟩:Array YB)[f.offset]?.getD .nilIface) ((⟨yl⟩:Array YB)[f.offset]?.getD .nilIface)=FH ⟨xl'⟩ ⟨yl'⟩ f:=by
   intro f hf;have h3:(fs.toList.all (okF C.P ⟨xl⟩ ⟨yl⟩))=true:=by rw [XL]; exact h3
   have:=W1.1 h3 f (by simpa using hf)
   obtain ⟨dd,u,w,e1,e2,e3,e4,e5,e6⟩:=EZ this;rw [X8] at e2 e3;obtain ⟨u',g1,g2⟩:=hxl.get e2;obtain ⟨w',g3,g4⟩:=hyl.get e3;obtain ⟨rfl,rfl⟩:=Nj g2 g4 e4;refine ⟨?_,?_⟩
   ·unfold okF;simp only [e1,List.getElem?_toArray,g1,g3,e4,Bool.true_and];simpa using e5
   ·unfold FH;simp only [List.getElem?_toArray,g1,g3,e2,e3,Option.getD_some];exact IF _ _
  have hall:fs.all (okF C.P ⟨xl'⟩ ⟨yl'⟩)=true:=by
   rw [<- XL];exact W1.2 fun f h=>(hf f (by simpa using h)).1
  have heq:(fs.all fun f=>CE ((⟨xl⟩:Array YB)[f.offset]?.getD .nilIface) ((⟨yl⟩:Array YB)[f.offset]?.getD .nilIface))=fs.all (FH ⟨xl'⟩ ⟨yl'⟩):=all_congr fun f h=>(hf f h).2
  rw [heq] at hx;refine ⟨lY hx,fun kk L K hk=>?_⟩;unfold pe at hx;unfold P';split at hx
  ·cases hx;exact DT hd h1 h2 hall _ ⟨(_,()),rfl,hk⟩
  ·cases hx;exact uu hd h1 h2 hall _ ⟨(_,()),rfl,hk⟩
  ·cases hx
 ·cases hx
theorem PT {op:BinOp} {t:TypeId} {x y:Operand} {a a' b b' v:YB} (ha:VR ρ a a') (hb:VR ρ b b') (hx:SY C.P op t x y a b=some v):VR ρ v v/\∀ (kk:YB->T) (L:Lp) (K:YB->Hp->Prop),kk v L K h ->
  C5 C.P op t x y a' b' kk L K h:=by
 unfold SY at hx;cases hp:qU C.P t x y with
 | true =>
  rw [hp] at hx;refine ⟨(D1 (L:=[]) (K:=fun _ _=>True) (h:=h) (kk:=fun _ _ _ _=>True) ha hb hx trivial).2,fun kk L K hk=>?_⟩;unfold C5;rw [hp];exact (D1 ha hb hx hk).1
 | false =>
  rw [hp] at hx;obtain ⟨h1,h2⟩:=Pu (h:=h) (x:=x) (y:=y) ha hb hx;refine ⟨h1,fun kk L K hk=>?_⟩;unfold C5;rw [hp];exact h2 kk L K hk
theorem tC {t:TypeId} {r:VS} {v:YB}:yC C.P t r=some (v,s1)↔r=some (v,s1)/\GC (kq C.P t) v=true:=by
 unfold yC;constructor
 ·intro h;obtain ⟨⟨u,s2⟩,h1,h2⟩:=Wq.1 h;obtain ⟨h3,h4⟩:=bn.1 (show fz _ _=some (v,s1) from h2);cases h4;exact ⟨h1,h3⟩
 ·rintro ⟨rfl,h2⟩;show fz (GC (kq C.P t) v) (some (v,s1))=_;rw [h2]; rfl
theorem B7 {f:FuncId} {vs':List YB} {t:TypeId} {v:YB} (hc:HC C.P f vs'.toArray h fun v' h'=>∃ ρ1,Le ρ ρ1/\Rel C h0 ρ1 s1.σ h'/\VR ρ1 v v') (hf:GC (kq C.P t) v=true) (P:nK C h0 ρ s1 v kk L K) :
  T.call C.P f vs' (kq C.P t).1 (kq C.P t).2 (jh _ fun l=>kk (rv (kq C.P t).1 (kq C.P t).2 l)) L K h:=by
 refine hc.mono ?_;rintro v' h' ⟨ρ1,le,R1,hv⟩;obtain ⟨x,hx⟩:=uU hv hf;refine ⟨x,hx,?_⟩;rw [dr,<- hx];exact P ρ1 v' h' le R1 hv
theorem Gm (O:Ok C) (R:Rel C h0 ρ s.σ h) {vs vs':List YB} {v:YB} (hv:dL ρ vs vs') (hx:C0 C vs s=some (v,s1)) :
  HC C.P C.Ra vs'.toArray h fun v' h'=>∃ ρ1,Le ρ ρ1/\Rel C h0 ρ1 s1.σ h'/\VR ρ1 v v':=by
 unfold C0 at hx;obtain ⟨a,ha,hx⟩:=Wq.1 hx;obtain ⟨⟨q,off⟩,hq,hx⟩:=Wq.1 hx;obtain ⟨h0',hx⟩:=bn.1 hx;obtain rfl:off=0:=WD h0';obtain ⟨l,hl,hx⟩:=Wq.1 hx;obtain ⟨m,hm,hx⟩:=Wq.1 hx;obtain ⟨b,hb,hx⟩:=Wq.1 hx;obtain ⟨o,ho,hx⟩:=Wq.1 hx;obtain ⟨a',rfl,ha'⟩:=HN hv ha;obtain ⟨pl,hpl,rfl⟩:∃ pl,ρ q=some pl/\a'=.func (.func C.seq) #[] #[.pointer (some ⟨pl.cd,pl.sh+0,none⟩)]:=by
  unfold NL at hq;split at hq
  ·rename_i f p;obtain ⟨h1,h2⟩:=bn.1 hq;obtain rfl:f=C.seq:=WD h1
   have:=je.1 h2
   subst this;cases ha' with
   | func f h1 h2 =>
   cases h1;cases h2 with
   | cons h2 t =>
   cases t;obtain ⟨pl,h3,rfl⟩:=h2.uy;exact ⟨pl,h3,rfl⟩
  ·cases hq
 obtain ⟨cs,hsh,f,eT,hg,hc0⟩:∃ (cs:Array YB),pl.sh=0/\∃ f eT,h[pl.cd]?=some (.cells cs eT f)/\∃ m',cs[0]?=some m'/\VR ρ m m':=by
  unfold Uy at hl;split at hl
  ·rename_i c eT mm hq2;obtain ⟨h1,h2⟩:=bn.1 hl;cases h2;obtain rfl:mm=0:=WD h1;obtain ⟨cs,f,e1,e2,_,e4⟩:=R.row hq2 hpl;have hs:=e4.2 rfl;obtain ⟨m',e5,e6⟩:=e2 0 m (by
    unfold Jf at hm;split at hm
    ·cases hm; rfl
    ·cases hm)
   exact ⟨cs,hs,f,eT,e1,m',by rw [hs] at e5; exact e5,e6⟩
  ·cases hl
 obtain ⟨m',hc0,hm'⟩:=hc0;obtain ⟨plb,hplb,hme⟩:∃ pl,ρ b=some pl/\m'=.map (some pl.cd):=by
  unfold LO at hb;split at hb
  ·cases hb;cases hm' with
   | map h=>exact ⟨_,h,rfl⟩
  ·cases hb
 subst hme;unfold HV at hx;split at hx
 ·rename_i D;obtain ⟨hD1,hx⟩:=bn.1 hx;have hD1:=WW hD1;obtain ⟨_,D',hD,hr⟩:=R.row ho hplb;rw [hsh];refine (O.Ra h pl.cd plb.cd D' cs eT f hg hc0 hD (by rw [<- hr.length]; exact hD1)).mono ?_;rintro v' h' ⟨k,hm2⟩;cases D with
  | nil =>
   have:D'=[]:=Xr (by rw [<- hr.length]; rfl)
   subst this;cases hx;have hv':v'=.slice none 0 0:=hm2;subst hv';exact ⟨ρ,Le.refl _,R.ext k,.lW (WH _)⟩
  | cons p D =>
   cases D' with
   | nil=>have:=hr.length; simp at this
   | cons p' D' =>
    obtain ⟨s2,hn2,hx⟩:=Wq.1 (show (x8 s (.row _ 9 1)).bind _=some (v,s1) from hx);obtain ⟨hn,h2⟩:=iq.1 hn2;subst h2;cases hx;obtain ⟨g,rest,cap,g1,rfl,g2,g3,g4,g5⟩:=hm2;have hkeys:∀ l:List YA,dL ρ (l.map .string) (l.map .string):=by
     intro l
     induction l with
     | nil=>exact .nil
     | cons a l ih=>exact .cons (.string _) ih
    have hlen:∀ l:List YA,(qL l).length=l.length:=by
     intro l
     induction l with
     | nil=>rfl
     | cons a l ih =>
      have hi:∀ (x:YA) (l:List YA),(Cc x l).length=l.length+1:=by
       intro x l
       induction l with
       | nil=>rfl
       | cons y l ih =>
        unfold Cc;split
        ·rfl
        ·simp [ih]
      unfold qL;rw [hi,ih]; rfl
    rw [<- hr.1] at g5;have hl2:((qL ((p::D).map (·.1))).map Value.string).length=(p'::D').length:=by rw [Wr,hlen,Wr,hr.length]
    obtain ⟨R1,le⟩:=R.new (n:=s.nx) (pl:=⟨g,0,cap⟩) hn g1 k (Gc (e:=9) (m:=1) (cap:=cap) (Xw R.size g1) (hkeys _) (Le.jO (R.N6 _ hn)) g5 fun _=>⟨by rw [g3,hl2],g2⟩);refine ⟨_,le,R1,?_⟩;have hv:=VR.sl (ρ:=jO ρ s.nx ⟨g,0,cap⟩) (c:=pF) (c':=cap) 0 (p'::D').length (fg _ _ _) (.inr ⟨Nat.le_of_lt vj,rfl⟩) g4;rw [hr.length];simpa using hv
 ·cases hx
end
end Go.Sx.Cr
