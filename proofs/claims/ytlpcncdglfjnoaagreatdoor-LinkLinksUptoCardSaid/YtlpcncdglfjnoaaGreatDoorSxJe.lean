/- Closed runs, part Je: maps over a store. Asked: of the context, what Ok says. -/
import Derived.Test.YtlpcncdglfjnoaaGreatDoorSxJd
set_option linter.all false
set_option maxHeartbeats 4000000
namespace Go.Sx.Cr
theorem kz (a b:YA):nD a b=decide (a=b):=by
 unfold nD
 by_cases h:a=b
 ·subst h; simp
 ·rw [WE h];exact beq_eq_false_iff_ne.2 fun e=>h (by
   cases a; cases b
   congr 1
   exact W6.1 e)
theorem rG (a b:Nat × YA):uD a b=decide (a=b):=by
 unfold uD;rw [kz];obtain ⟨a1,a2⟩:=a;obtain ⟨b1,b2⟩:=b
 have:Nat.beq a1 b1=decide (a1=b1):=by
  by_cases h:a1=b1
  ·subst h; simp
  ·rw [WE h];cases hb:Nat.beq a1 b1 with
   | false=>rfl
   | true=>exact (h (WD hb)).elim
 simp only [this,Prod.mk.injEq];exact (Bool.decide_and _ _).symm
theorem Lt (a b:Nat):Nat.beq a b=decide (a=b):=by
 by_cases h:a=b
 ·subst h; simp
 ·rw [WE h];cases hb:Nat.beq a b with
  | false=>rfl
  | true=>exact (h (WD hb)).elim
theorem oI (a b:Nat × Nat):oH a b=decide (a=b):=by
 unfold oH;obtain ⟨a1,a2⟩:=a;obtain ⟨b1,b2⟩:=b;simp only [Lt,Prod.mk.injEq];exact (Bool.decide_and _ _).symm
section gen
variable {α:Type} [DecidableEq α] {q:α->α->Bool} {ρ:fZ}
theorem kS (hq:∀ a b,q a b=decide (a=b)) (s:α):∀ D:List (α × YB),kb q s D=(D.find? fun p=>decide (s=p.1)).map (·.2)
 | []=>rfl
 | p::D=>by
  unfold kb;rw [hq,Yg];cases decide (s=p.1) with
  | true=>rfl
  | false=>exact kS hq s D
theorem ym (hq:∀ a b,q a b=decide (a=b)) (s:α) (v:YB):∀ D:List (α × YB),(D.map (·.1)).Nodup->xQ q s v D=if (kb q s D).isSome then D.map fun p=>if s=p.1 then (p.1,v) else p else D++[(s,v)]
 | [],_=>rfl
 | p::D,hn=>by
  unfold xQ kb;rw [hq];simp only [List.map_cons,List.nodup_cons] at hn
  by_cases h:s=p.1
  ·rw [WB h];simp only [Option.isSome_some,if_true,List.map_cons,h]
   congr 1
   have:∀ x∈D,(if p.1=x.1 then (x.1,v) else x)=x:=fun x hx=>by
    rw [Ww];intro hh; exact hn.1 (hh▸Wz.2 ⟨x,hx,rfl⟩)
   conv=>lhs; rw [<- List.map_id D]
   exact Xl fun x hx=>(this x hx).symm
  ·rw [WE h];simp only;rw [ym hq s v D hn.2];split
   ·simp [h]
   ·rfl
theorem uZ (s:α):∀ {D D':List (α × YB)},DR ρ D D'->(kb q s D=none/\kb q s D'=none)\/∃ v v',kb q s D=some v/\kb q s D'=some v'/\VR ρ v v'
 | [],[],_=>.inl ⟨rfl,rfl⟩
 | [],p::D,h=>by simp [DR] at h
 | p::D,[],h=>by simp [DR] at h
 | p::D,p'::D',h=>by
  obtain ⟨h1,h2⟩:=h;simp only [List.map_cons,List.cons.injEq] at h1 h2;cases h2 with
  | cons hv ht =>
  unfold kb;rw [<- h1.1];cases q s p.1 with
  | true=>exact .inr ⟨_,_,rfl,rfl,hv⟩
  | false=>exact uZ s ⟨h1.2,ht⟩
theorem yw (s:α) {v v':YB} (hv:VR ρ v v'):∀ {D D':List (α × YB)},DR ρ D D'->DR ρ (xQ q s v D) (xQ q s v' D')
 | [],[],_=>⟨rfl,.cons hv .nil⟩
 | [],p::D,h=>by simp [DR] at h
 | p::D,[],h=>by simp [DR] at h
 | p::D,p'::D',h=>by
  obtain ⟨h1,h2⟩:=h;simp only [List.map_cons,List.cons.injEq] at h1 h2;cases h2 with
  | cons hp ht =>
  unfold xQ;rw [<- h1.1];cases q s p.1 with
  | true=>exact ⟨by simp [h1.2],.cons hv ht⟩
  | false =>
   obtain ⟨h3,h4⟩:=yw s hv (D:=D) (D':=D') ⟨h1.2,ht⟩;exact ⟨by simp [h1.1,h3],.cons hp h4⟩
end gen
section
variable {C:Cx} {h0:Hp} {ρ:fZ} {s s1:CS} {h:Hp} {e:Ev} {e':Env} {L:Lp} {K:YB->Hp->Prop} {kk:YB->T}
theorem DR.length {α:Type} {D D':List (α × YB)} (h:DR ρ D D'):D.length=D'.length:=by
 have:=WJ List.length h.1
 simpa using this
theorem EK {d:Option TypeDesc} {k el:TypeId} (h:KK d=some (k,el)):d=some (.map k el):=by
 unfold KK at h;split at h
 ·cases h; rfl
 ·cases h
theorem NJ {P:Program} {el:TypeId} {z:YB} (h:Lh P el=some z):(P.info? el).bind (·.zero)=some z/\∀ ρ,VR ρ z z:=by
 unfold Lh at h;obtain ⟨u,h1,h2⟩:=Wq.1 h;obtain ⟨h3,rfl⟩:=Bk.1 h2;exact ⟨h1,fun ρ=>rP 9 _ h3⟩
theorem Hh {x x':YB} {y:Nat × YA} (hx:VR ρ x x') (hk:Ol x=some y):x'=P8 y:=by
 unfold Ol at hk;split at hk
 ·cases hk;cases hx with
  | agg hl =>
  cases hl with
  | cons a1 hl =>
  cases hl with
  | cons a2 hl =>
  cases hl; cases a1; cases a2; rfl
 ·cases hk
theorem Iu {x x':YB} {y:Nat × Nat} (hx:VR ρ x x') (hk:OF x=some y):x'=Oc y:=by
 unfold OF at hk;split at hk
 ·cases hk;cases hx with
  | agg hl =>
  cases hl with
  | cons a1 hl =>
  cases hl with
  | cons a2 hl =>
  cases hl; cases a1; cases a2; rfl
 ·cases hk
theorem Cl {x x':YB} {y:YA} (hx:VR ρ x x') (hk:Kk x=some y):x'=.string y:=by
 unfold Kk at hk;split at hk
 ·cases hk; cases hx; rfl
 ·cases hk
theorem Ec {x x':YB} {n:Nat} (hx:VR ρ x x') (hk:H0 x=some n):∃ k,x'=.int k (n:Int):=by
 unfold H0 at hk;split at hk
 ·cases hk; cases hx; exact ⟨_,rfl⟩
 ·cases hk
theorem NS (O:Ok C) (R:Rel C h0 ρ s.σ h) {t k el:TypeId} {m m' x x' z:YB} {r:Option YB} (hd:C.P.underlying t=some (.map k el)) (hz:(C.P.info? el).bind (·.zero)=some z) (hm:VR ρ m m') (hx:VR ρ x x')
  (hi:NG C k m x s=some r):∃ r',((r=none/\r'=none)\/∃ v v',r=some v/\r'=some v'/\VR ρ v v') /\
   ∀ (ok:Bool) (K:YB->Hp->Prop),K (Rt ok z r') h->aP C.P (Instr.lookup t m' x' ok) h K:=by
 unfold NG at hi;cases hb:Tm C k with
 | true =>
  rw [hb] at hi;simp only at hi;unfold T8 at hi;split at hi
  ·rename_i b;obtain ⟨y,hy,hi⟩:=Wq.1 hi;obtain ⟨o,ho,hi⟩:=Wq.1 hi;have hx':=Hh hx hy;subst hx';cases hm with
   | map hp =>
   cases o <;> first | (cases hi; done) | skip
   rename_i D;cases hi;obtain ⟨_,D',hD,hr⟩:=R.row ho hp;refine ⟨kb uD y D',?_,fun ok K hk=>?_⟩
   ·rcases uZ (q:=uD) y hr with ⟨e1,e2⟩ | ⟨v,v',e1,e2,e3⟩
    ·exact .inl ⟨e1,e2⟩
    ·exact .inr ⟨v,v',e1,e2,e3⟩
   ·refine uE (O.kt k hb) hd hz hD y ok K ?_;rw [kS rG] at hk;cases ok <;> exact hk
  ·cases hi
 | false =>
  rw [hb] at hi;simp only at hi;cases hbi:Tp C k with
  | true =>
   rw [hbi] at hi;simp only at hi;unfold TN at hi;split at hi
   ·rename_i b;obtain ⟨y,hy,hi⟩:=Wq.1 hi;obtain ⟨o,ho,hi⟩:=Wq.1 hi;have hx':=Iu hx hy;subst hx';cases hm with
    | map hp =>
    cases o <;> first | (cases hi; done) | skip
    rename_i D;cases hi;obtain ⟨_,D',hD,hr⟩:=R.row ho hp;refine ⟨kb oH y D',?_,fun ok K hk=>?_⟩
    ·rcases uZ (q:=oH) y hr with ⟨e1,e2⟩ | ⟨v,v',e1,e2,e3⟩
     ·exact .inl ⟨e1,e2⟩
     ·exact .inr ⟨v,v',e1,e2,e3⟩
    ·refine uE (O.ki k hbi) hd hz hD y ok K ?_;rw [kS oI] at hk;cases ok <;> exact hk
   ·cases hi
  | false =>
  rw [hbi] at hi;simp only at hi;obtain ⟨h1,hi⟩:=bn.1 hi;unfold US at hi;split at hi
  ·obtain ⟨y,hy,hi⟩:=Wq.1 hi;have hx':=Cl hx hy;subst hx';cases hi;cases hm;refine ⟨none,.inl ⟨rfl,rfl⟩,fun ok K hk=>lookup_nil hd (uJ h1) hz y ok K ?_⟩;cases ok <;> exact hk
  ·rename_i b;obtain ⟨y,hy,hi⟩:=Wq.1 hi;obtain ⟨o,ho,hi⟩:=Wq.1 hi;have hx':=Cl hx hy;subst hx';cases hm with
   | map hp =>
   cases o <;> first | (cases hi; done) | skip
   rename_i D;cases hi;obtain ⟨_,D',hD,hr⟩:=R.row ho hp;refine ⟨kb nD y D',?_,fun ok K hk=>?_⟩
   ·rcases uZ (q:=nD) y hr with ⟨e1,e2⟩ | ⟨v,v',e1,e2,e3⟩
    ·exact .inl ⟨e1,e2⟩
    ·exact .inr ⟨v,v',e1,e2,e3⟩
   ·refine jb hd (uJ h1) hz hD y ok K ?_;rw [kS kz] at hk;cases ok <;> exact hk
  ·cases hi
theorem Ml (O:Ok C) (R:Rel C h0 ρ s.σ h) {t:TypeId} {m m' x x' v:YB} {ok:Bool} (hm:VR ρ m m') (hx:VR ρ x x') (hc:MN C t m x ok s=some v) :
  ∃ v',VR ρ v v'/\∀ (kk:YB->T) (L:Lp) (K:YB->Hp->Prop),kk v' L K h->(match C.P.underlying t with
  | some (.map _ el)=>match ok with
   | true=>T.dW C.P (Instr.lookup t m' x' true) true [cy C.P el,(false,[.bool])] (jh _ fun l=>kk (rv true [cy C.P el,(false,[.bool])] l))
   | false=>T.dW C.P (Instr.lookup t m' x' false) false [cy C.P el] (jh _ fun l=>kk (rv false [cy C.P el] l))
  | _=>T.fail) L K h:=by
 unfold MN at hc;obtain ⟨⟨k,el⟩,hd,hc⟩:=Wq.1 hc;obtain ⟨z,hz,hc⟩:=Wq.1 hc;obtain ⟨r,hr,hc⟩:=Wq.1 hc;obtain ⟨hf,hc⟩:=bn.1 hc;cases hc;have hd:=EK hd;obtain ⟨hz1,hz2⟩:=NJ hz;obtain ⟨r',hr',hsem⟩:=NS O R hd hz1 hm hx hr;have hg:VR ρ (r.getD z) (r'.getD z)/\r.isSome=r'.isSome:=by
  rcases hr' with ⟨e1,e2⟩ | ⟨v,v',e1,e2,e3⟩
  ·rw [e1,e2]; exact ⟨hz2 ρ,rfl⟩
  ·rw [e1,e2]; exact ⟨e3,rfl⟩
 cases ok with
 | true =>
  refine ⟨.tuple ⟨[r'.getD z,.bool r.isSome]⟩,.tuple (.cons hg.1 (.cons (.bool _) .nil)),fun kk L K hk=>?_⟩;simp only [hd];refine hsem true _ ?_;obtain ⟨y,hy⟩:=uU (q:=(true,[cy C.P el,(false,[.bool])])) (v:=.tuple ⟨[r.getD z,.bool r.isSome]⟩) (.tuple (.cons hg.1 (.cons (.bool _) .nil))) (by
   show (BT (cy C.P el) (r.getD z) && true)=true;rw [hf]; rfl)
  refine ⟨y,?_,?_⟩
  ·rw [<- hy,hg.2]; rfl
  ·rw [dr]
   have:rv true [cy C.P el,(false,[TypeDesc.bool])] (dU _ y)=_:=hy.symm
   rw [this]; exact hk
 | false =>
  refine ⟨r'.getD z,hg.1,fun kk L K hk=>?_⟩;simp only [hd];refine hsem false _ ?_;obtain ⟨y,hy⟩:=uU (q:=(false,[cy C.P el])) (v:=r.getD z) hg.1 (by
   show (BT (cy C.P el) (r.getD z) && true)=true;rw [hf]; rfl)
  refine ⟨y,hy,?_⟩;rw [dr]
  have:rv false [cy C.P el] (dU _ y)=_:=hy.symm
  rw [this]; exact hk
theorem OQ (O:Ok C) (R:Rel C h0 ρ s.σ h) {t:TypeId} {m m' x x' v v':YB} (hm:VR ρ m m') (hx:VR ρ x x') (hv:VR ρ v v') (hc:Tk C t m x v s=some s1) {k:T} (hk:∀ h1,Rel C h0 ρ s1.σ h1->k L K h1) :
  T.ec C.P (Instr.mapUpdate t m' x' v') k L K h:=by
 unfold Tk at hc;split at hc
 ·rename_i b;obtain ⟨⟨kt,el⟩,hd,hc⟩:=Wq.1 hc;obtain ⟨o,ho,hc⟩:=Wq.1 hc;have hd:=EK hd;cases hm with
  | map hb =>
  unfold KZ at hc;cases o <;> first | (cases hc; done) | skip
  ·rename_i D;obtain ⟨h1,hc⟩:=bn.1 (show fz _ _=some s1 from hc);obtain ⟨y,hy,hc⟩:=Wq.1 hc;obtain ⟨h2,hc⟩:=bn.1 hc;cases hc;have hx':=Cl hx hy;subst hx';obtain ⟨hg,D',hD,hr⟩:=R.row ho hb;refine fR hd (uJ h1) hD (WW h2) v' _ fun h' m' c' z'=>hk h' ?_
   refine R.put ho rfl hb hg c' ⟨hg,_,m',?_⟩
   have:=ym kz (q:=nD) y v' D' hD.nodup
   rw [kS kz] at this;rw [show Sx.jO D' y v'=xQ nD y v' D' from this.symm];exact yw _ hv hr
  ·rename_i D;obtain ⟨h1,hc⟩:=bn.1 (show fz _ _=some s1 from hc);obtain ⟨y,hy,hc⟩:=Wq.1 hc;cases hc;have hx':=Hh hx hy;subst hx';obtain ⟨hg,D',hD,hr⟩:=R.row ho hb;refine rh (O.kt kt h1) hd hD y v' _ fun h' m' c' z'=>hk h' ?_
   refine R.put ho rfl hb hg c' ⟨hg,_,m',?_⟩
   have:=ym rG (q:=uD) y v' D' (oE.nodup (O.kt kt h1) hD)
   rw [kS rG] at this;rw [show xT D' y v'=xQ uD y v' D' from this.symm];exact yw _ hv hr
  ·rename_i D;obtain ⟨h1,hc⟩:=bn.1 (show fz _ _=some s1 from hc);obtain ⟨y,hy,hc⟩:=Wq.1 hc;cases hc;have hx':=Iu hx hy;subst hx';obtain ⟨hg,D',hD,hr⟩:=R.row ho hb;refine rh (O.ki kt h1) hd hD y v' _ fun h' m' c' z'=>hk h' ?_
   refine R.put ho rfl hb hg c' ⟨hg,_,m',?_⟩
   have:=ym oI (q:=oH) y v' D' (oE.nodup (O.ki kt h1) hD)
   rw [kS oI] at this;rw [show xT D' y v'=xQ oH y v' D' from this.symm];exact yw _ hv hr
 ·cases hc
theorem JA (R:Rel C h0 ρ s.σ h) {t:TypeId} {v:YB} (hc:G3 C t s=some (v,s1)) (P:nK C h0 ρ s1 v kk L K):T.dW C.P (Instr.makeMap t none) false [(false,[.map 0 0])] (fun r=>kk (.map r)) L K h:=by
 unfold G3 at hc;obtain ⟨⟨k,el⟩,hd,hc⟩:=Wq.1 hc;simp only at hc;cases hb:Tm C k with
 | true =>
  rw [hb] at hc;obtain ⟨s2,hn2,hc⟩:=Wq.1 hc;obtain ⟨hn,h2⟩:=iq.1 hn2;subst h2;cases hc;refine wR (α:=Nat × YA) (kv:=P8) _ fun h' m e z=>⟨(some h.size,()),rfl,?_⟩
  obtain ⟨R1,le⟩:=R.new (pl:=⟨h.size,0,0⟩) (o:=.xY []) hn (WH _) e ⟨R.size,[],m,rfl,.nil⟩;exact P _ _ _ le R1 (.map (fg _ _ _))
 | false =>
  rw [hb] at hc;simp only at hc;cases hbi:Tp C k with
  | true =>
   rw [hbi] at hc;obtain ⟨s2,hn2,hc⟩:=Wq.1 hc;obtain ⟨hn,h2⟩:=iq.1 hn2;subst h2;cases hc;refine wR (α:=Nat × Nat) (kv:=Oc) _ fun h' m e z=>⟨(some h.size,()),rfl,?_⟩
   obtain ⟨R1,le⟩:=R.new (pl:=⟨h.size,0,0⟩) (o:=.xZ []) hn (WH _) e ⟨R.size,[],m,rfl,.nil⟩;exact P _ _ _ le R1 (.map (fg _ _ _))
  | false =>
  rw [hbi] at hc;obtain ⟨h1,hc⟩:=bn.1 hc;obtain ⟨s2,hn2,hc⟩:=Wq.1 hc;obtain ⟨hn,h2⟩:=iq.1 hn2;subst h2;cases hc;refine lF _ fun h' m e z=>⟨(some h.size,()),rfl,?_⟩
  obtain ⟨R1,le⟩:=R.new (pl:=⟨h.size,0,0⟩) (o:=.vL []) hn (WH _) e ⟨R.size,[],m,rfl,.nil⟩;exact P _ _ _ le R1 (.map (fg _ _ _))
theorem LA {z:YB} {n sz:Nat} (hz:z.cells.size=sz) (hp:1<=sz):(List.range (n*sz)).map (z.cells[· % z.cells.size]!)=(List.replicate n z.cells.toList).flatten:=by
 apply XH;intro j;have hl:((List.replicate n z.cells.toList).flatten).length=n*sz:=by simp [hz]
 rw [Xc]
 by_cases hj:j<n*sz
 ·rw [XE hj];have h1:=mX (sz:=sz) (List.replicate n z.cells.toList) (j / sz) [] (fun x hx=>by rw [List.eq_of_mem_replicate hx]; simpa using hz) (by simpa using Nat.div_lt_of_lt_mul (by rw [Yu]; exact hj));rw [Xy] at h1;have h2:=WJ (fun l:List YB=>l[j % sz]?) h1;have hm:j % sz<sz:=Yx _ hp;simp only [List.getElem?_take,List.getElem?_drop,if_pos hm,List.getElem_replicate] at h2;rw [show j / sz*sz+j % sz=j from by rw [Yu]; exact Nat.div_add_mod j sz] at h2;rw [h2,hz]
  have:j % sz<z.cells.size:=ad
  simp [this]
 ·rw [W2 (by simp; omega),W2 ad] <;> rfl
theorem DP (R:Rel C h0 ρ s.σ h) {t:TypeId} {l l' c c' v:YB} (hl:VR ρ l l') (hc:VR ρ c c') (hx:zh C.P t l c s=some (v,s1)) (P:nK C h0 ρ s1 v kk L K) :
  T.dW C.P (Instr.makeSlice t l' c') false [(false,[.slice 0])] (fun p l c=>kk (.slice p l c)) L K h:=by
 unfold zh at hx;obtain ⟨l0,hl0,hx⟩:=Wq.1 hx;obtain ⟨c0,hc0,hx⟩:=Wq.1 hx;obtain ⟨k1,rfl⟩:=Ec hl hl0;obtain ⟨k2,rfl⟩:=Ec hc hc0;obtain ⟨q,hq,hx⟩:=Wq.1 hx;obtain ⟨h1,hx⟩:=bn.1 hx;obtain ⟨s2,hn2,hx⟩:=Wq.1 (show (x8 s (.row _ q.e 0)).bind _=some (v,s1) from hx);obtain ⟨hn,h2⟩:=iq.1 hn2;subst h2;cases hx;obtain ⟨i,z,E⟩:=CN hq;simp only [Bool.and_eq_true] at h1;have g1:=WW h1.1.1;have g2:=WW h1.1.2;have g3:=WW h1.2;refine cR ?_;refine pA E.Tr E.sQ E.zero g1 (by rw [E.by_]; omega) ad fun h' b k _=>⟨_,_,_,rfl,?_⟩
 have hfl:dL ρ (List.replicate c0 q.z).flatten (List.replicate c0 q.z).flatten:=by
  have:∀ n,dL ρ (List.replicate n q.z).flatten (List.replicate n q.z).flatten:=by
   intro n
   induction n with
   | zero=>exact .nil
   | succ n ih=>simp only [List.replicate_succ,List.flatten_cons]; exact (E.flat ρ).append ih
  exact this c0
 rw [E.sz] at b;rw [LA (by rw [E.zs,E.sz]) E.pos,<- E.zl] at b;obtain ⟨R1,le⟩:=R.newRow (rest:=[]) (e:=q.e) (m:=0) (cap:=0) hn hfl (by rw [Xy]; exact b) k ad;have hv:=VR.sl (ρ:=jO ρ s.nx ⟨h.size,0,0⟩) (c:=c0) (c':=c0) 0 l0 (fg _ _ _) (.inl ⟨by unfold half; omega,rfl⟩) g1;exact P _ _ _ le R1 (by simpa using hv)
end
end Go.Sx.Cr
