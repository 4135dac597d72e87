/- Closed runs, part Je: maps over a store. Asked: of the context, what Ok says. -/
import Derived.Test.YtlpcncdglfjnoaaGreatDoorSxJd
set_option linter.all false
set_option maxHeartbeats 4000000
namespace Go.Sx.Cr
theorem kz (a b:ZA):oc a b=decide (a=b):=by
 unfold oc
 by_cases h:a=b
 ·subst h; simp
 ·rw [W4 h];exact beq_eq_false_iff_ne.2 fun e=>h (by
   cases a; cases b
   congr 1
   exact Xv.1 e)
theorem rA (a b:Nat × ZA):uh a b=decide (a=b):=by
 unfold uh;rw [kz];obtain ⟨a1,a2⟩:=a;obtain ⟨b1,b2⟩:=b
 have:Nat.beq a1 b1=decide (a1=b1):=by
  by_cases h:a1=b1
  ·subst h; simp
  ·rw [W4 h];cases hb:Nat.beq a1 b1 with
   | false=>rfl
   | true=>exact (h (W3 hb)).elim
 simp only [this,Prod.mk.injEq];exact (Bool.decide_and _ _).symm
theorem LR (a b:Nat):Nat.beq a b=decide (a=b):=by
 by_cases h:a=b
 ·subst h; simp
 ·rw [W4 h];cases hb:Nat.beq a b with
  | false=>rfl
  | true=>exact (h (W3 hb)).elim
theorem oG (a b:Nat × Nat):oX a b=decide (a=b):=by
 unfold oX;obtain ⟨a1,a2⟩:=a;obtain ⟨b1,b2⟩:=b;simp only [LR,Prod.mk.injEq];exact (Bool.decide_and _ _).symm
section gen
variable {α:Type} [DecidableEq α] {q:α->α->Bool} {ρ:fR}
theorem lz (hq:∀ a b,q a b=decide (a=b)) (s:α):∀ D:List (α × ZB),j9 q s D=(D.find? fun p=>decide (s=p.1)).map (·.2)
 | []=>rfl
 | p::D=>by
  unfold j9;rw [hq,YF];cases decide (s=p.1) with
  | true=>rfl
  | false=>exact lz hq s D
theorem yf (hq:∀ a b,q a b=decide (a=b)) (s:α) (v:ZB):∀ D:List (α × ZB),(D.map (·.1)).Nodup->xZ q s v D=if (j9 q s D).isSome then D.map fun p=>if s=p.1 then (p.1,v) else p else D++[(s,v)]
 | [],_=>rfl
 | p::D,hn=>by
  unfold xZ j9;rw [hq];simp only [List.map_cons,List.nodup_cons] at hn
  by_cases h:s=p.1
  ·rw [W1 h];simp only [Option.isSome_some,if_true,List.map_cons,h]
   congr 1
   have:∀ x∈D,(if p.1=x.1 then (x.1,v) else x)=x:=fun x hx=>by
    rw [WV];intro hh; exact hn.1 (hh▸WX.2 ⟨x,hx,rfl⟩)
   conv=>lhs; rw [<- List.map_id D]
   exact XC fun x hx=>(this x hx).symm
  ·rw [W4 h];simp only;rw [yf hq s v D hn.2];split
   ·simp [h]
   ·rfl
theorem vK (s:α):∀ {D D':List (α × ZB)},DR ρ D D'->(j9 q s D=none/\j9 q s D'=none)\/∃ v v',j9 q s D=some v/\j9 q s D'=some v'/\VR ρ v v'
 | [],[],_=>.inl ⟨rfl,rfl⟩
 | [],p::D,h=>by simp [DR] at h
 | p::D,[],h=>by simp [DR] at h
 | p::D,p'::D',h=>by
  obtain ⟨h1,h2⟩:=h;simp only [List.map_cons,List.cons.injEq] at h1 h2;cases h2 with
  | cons hv ht =>
  unfold j9;rw [<- h1.1];cases q s p.1 with
  | true=>exact .inr ⟨_,_,rfl,rfl,hv⟩
  | false=>exact vK s ⟨h1.2,ht⟩
theorem yp (s:α) {v v':ZB} (hv:VR ρ v v'):∀ {D D':List (α × ZB)},DR ρ D D'->DR ρ (xZ q s v D) (xZ q s v' D')
 | [],[],_=>⟨rfl,.cons hv .nil⟩
 | [],p::D,h=>by simp [DR] at h
 | p::D,[],h=>by simp [DR] at h
 | p::D,p'::D',h=>by
  obtain ⟨h1,h2⟩:=h;simp only [List.map_cons,List.cons.injEq] at h1 h2;cases h2 with
  | cons hp ht =>
  unfold xZ;rw [<- h1.1];cases q s p.1 with
  | true=>exact ⟨by simp [h1.2],.cons hv ht⟩
  | false =>
   obtain ⟨h3,h4⟩:=yp s hv (D:=D) (D':=D') ⟨h1.2,ht⟩;exact ⟨by simp [h1.1,h3],.cons hp h4⟩
end gen
section
variable {C:Cx} {h0:Hp} {ρ:fR} {s s1:CS} {h:Hp} {e:Ev} {e':Env} {L:Lp} {K:ZB->Hp->Prop} {kk:ZB->T}
theorem DR.length {α:Type} {D D':List (α × ZB)} (h:DR ρ D D'):D.length=D'.length:=by
 have:=Xa List.length h.1
 simpa using this
theorem FD {d:Option TypeDesc} {k el:TypeId} (h:KZ d=some (k,el)):d=some (.map k el):=by
 unfold KZ at h;split at h
 ·cases h; rfl
 ·cases h
theorem Kk {P:Program} {el:TypeId} {z:ZB} (h:Mz P el=some z):(P.info? el).bind (·.zero)=some z/\∀ ρ,VR ρ z z:=by
 unfold Mz at h;obtain ⟨u,h1,h2⟩:=WO.1 h;obtain ⟨h3,rfl⟩:=AQ.1 h2;exact ⟨h1,fun ρ=>rF 9 _ h3⟩
theorem Hr {x x':ZB} {y:Nat × ZA} (hx:VR ρ x x') (hk:OQ x=some y):x'=PC y:=by
 unfold OQ at hk;split at hk
 ·cases hk;cases hx with
  | agg hl =>
  cases hl with
  | cons a1 hl =>
  cases hl with
  | cons a2 hl =>
  cases hl; cases a1; cases a2; rfl
 ·cases hk
theorem Hs {x x':ZB} {y:Nat × Nat} (hx:VR ρ x x') (hk:Ox x=some y):x'=P7 y:=by
 unfold Ox at hk;split at hk
 ·cases hk;cases hx with
  | agg hl =>
  cases hl with
  | cons a1 hl =>
  cases hl with
  | cons a2 hl =>
  cases hl; cases a1; cases a2; rfl
 ·cases hk
theorem CN {x x':ZB} {y:ZA} (hx:VR ρ x x') (hk:Ks x=some y):x'=.string y:=by
 unfold Ks at hk;split at hk
 ·cases hk; cases hx; rfl
 ·cases hk
theorem EQ {x x':ZB} {n:Nat} (hx:VR ρ x x') (hk:Ie x=some n):∃ k,x'=.int k (n:Int):=by
 unfold Ie at hk;split at hk
 ·cases hk; cases hx; exact ⟨_,rfl⟩
 ·cases hk
theorem KT (O:Ok C) (R:Rel C h0 ρ s.σ h) {t k el:TypeId} {m m' x x' z:ZB} {r:Option ZB} (hd:C.P.underlying t=some (.map k el)) (hz:(C.P.info? el).bind (·.zero)=some z) (hm:VR ρ m m') (hx:VR ρ x x')
  (hi:No C k m x s=some r):∃ r',((r=none/\r'=none)\/∃ v v',r=some v/\r'=some v'/\VR ρ v v') /\
   ∀ (ok:Bool) (K:ZB->Hp->Prop),K (RE ok z r') h->aQ C.P (Instr.lookup t m' x' ok) h K:=by
 unfold No at hi;cases hb:TP C k with
 | true =>
  rw [hb] at hi;simp only at hi;unfold U4 at hi;split at hi
  ·rename_i b;obtain ⟨y,hy,hi⟩:=WO.1 hi;obtain ⟨o,ho,hi⟩:=WO.1 hi;have hx':=Hr hx hy;subst hx';cases hm with
   | map hp =>
   cases o <;> first | (cases hi; done) | skip
   rename_i D;cases hi;obtain ⟨_,D',hD,hr⟩:=R.row ho hp;refine ⟨j9 uh y D',?_,fun ok K hk=>?_⟩
   ·rcases vK (q:=uh) y hr with ⟨e1,e2⟩ | ⟨v,v',e1,e2,e3⟩
    ·exact .inl ⟨e1,e2⟩
    ·exact .inr ⟨v,v',e1,e2,e3⟩
   ·refine vC (O.kt k hb) hd hz hD y ok K ?_;rw [lz rA] at hk;cases ok <;> exact hk
  ·cases hi
 | false =>
  rw [hb] at hi;simp only at hi;cases hbi:TT C k with
  | true =>
   rw [hbi] at hi;simp only at hi;unfold T8 at hi;split at hi
   ·rename_i b;obtain ⟨y,hy,hi⟩:=WO.1 hi;obtain ⟨o,ho,hi⟩:=WO.1 hi;have hx':=Hs hx hy;subst hx';cases hm with
    | map hp =>
    cases o <;> first | (cases hi; done) | skip
    rename_i D;cases hi;obtain ⟨_,D',hD,hr⟩:=R.row ho hp;refine ⟨j9 oX y D',?_,fun ok K hk=>?_⟩
    ·rcases vK (q:=oX) y hr with ⟨e1,e2⟩ | ⟨v,v',e1,e2,e3⟩
     ·exact .inl ⟨e1,e2⟩
     ·exact .inr ⟨v,v',e1,e2,e3⟩
    ·refine vC (O.ki k hbi) hd hz hD y ok K ?_;rw [lz oG] at hk;cases ok <;> exact hk
   ·cases hi
  | false =>
  rw [hbi] at hi;simp only at hi;obtain ⟨h1,hi⟩:=bj.1 hi;unfold Un at hi;split at hi
  ·obtain ⟨y,hy,hi⟩:=WO.1 hi;have hx':=CN hx hy;subst hx';cases hi;cases hm;refine ⟨none,.inl ⟨rfl,rfl⟩,fun ok K hk=>lookup_nil hd (uT h1) hz y ok K ?_⟩;cases ok <;> exact hk
  ·rename_i b;obtain ⟨y,hy,hi⟩:=WO.1 hi;obtain ⟨o,ho,hi⟩:=WO.1 hi;have hx':=CN hx hy;subst hx';cases hm with
   | map hp =>
   cases o <;> first | (cases hi; done) | skip
   rename_i D;cases hi;obtain ⟨_,D',hD,hr⟩:=R.row ho hp;refine ⟨j9 oc y D',?_,fun ok K hk=>?_⟩
   ·rcases vK (q:=oc) y hr with ⟨e1,e2⟩ | ⟨v,v',e1,e2,e3⟩
    ·exact .inl ⟨e1,e2⟩
    ·exact .inr ⟨v,v',e1,e2,e3⟩
   ·refine jh hd (uT h1) hz hD y ok K ?_;rw [lz kz] at hk;cases ok <;> exact hk
  ·cases hi
theorem MS (O:Ok C) (R:Rel C h0 ρ s.σ h) {t:TypeId} {m m' x x' v:ZB} {ok:Bool} (hm:VR ρ m m') (hx:VR ρ x x') (hc:Kx C t m x ok s=some v) :
  ∃ v',VR ρ v v'/\∀ (kk:ZB->T) (L:Lp) (K:ZB->Hp->Prop),kk v' L K h->(match C.P.underlying t with
  | some (.map _ el)=>match ok with
   | true=>T.dY C.P (Instr.lookup t m' x' true) true [ct C.P el,(false,[.bool])] (jd _ fun l=>kk (rv true [ct C.P el,(false,[.bool])] l))
   | false=>T.dY C.P (Instr.lookup t m' x' false) false [ct C.P el] (jd _ fun l=>kk (rv false [ct C.P el] l))
  | _=>T.fail) L K h:=by
 unfold Kx at hc;obtain ⟨⟨k,el⟩,hd,hc⟩:=WO.1 hc;obtain ⟨z,hz,hc⟩:=WO.1 hc;obtain ⟨r,hr,hc⟩:=WO.1 hc;obtain ⟨hf,hc⟩:=bj.1 hc;cases hc;have hd:=FD hd;obtain ⟨hz1,hz2⟩:=Kk hz;obtain ⟨r',hr',hsem⟩:=KT O R hd hz1 hm hx hr;have hg:VR ρ (r.getD z) (r'.getD z)/\r.isSome=r'.isSome:=by
  rcases hr' with ⟨e1,e2⟩ | ⟨v,v',e1,e2,e3⟩
  ·rw [e1,e2]; exact ⟨hz2 ρ,rfl⟩
  ·rw [e1,e2]; exact ⟨e3,rfl⟩
 cases ok with
 | true =>
  refine ⟨.tuple ⟨[r'.getD z,.bool r.isSome]⟩,.tuple (.cons hg.1 (.cons (.bool _) .nil)),fun kk L K hk=>?_⟩;simp only [hd];refine hsem true _ ?_;obtain ⟨y,hy⟩:=ur (q:=(true,[ct C.P el,(false,[.bool])])) (v:=.tuple ⟨[r.getD z,.bool r.isSome]⟩) (.tuple (.cons hg.1 (.cons (.bool _) .nil))) (by
   show (CH (ct C.P el) (r.getD z) && true)=true;rw [hf]; rfl)
  refine ⟨y,?_,?_⟩
  ·rw [<- hy,hg.2]; rfl
  ·rw [du]
   have:rv true [ct C.P el,(false,[TypeDesc.bool])] (dU _ y)=_:=hy.symm
   rw [this]; exact hk
 | false =>
  refine ⟨r'.getD z,hg.1,fun kk L K hk=>?_⟩;simp only [hd];refine hsem false _ ?_;obtain ⟨y,hy⟩:=ur (q:=(false,[ct C.P el])) (v:=r.getD z) hg.1 (by
   show (CH (ct C.P el) (r.getD z) && true)=true;rw [hf]; rfl)
  refine ⟨y,hy,?_⟩;rw [du]
  have:rv false [ct C.P el] (dU _ y)=_:=hy.symm
  rw [this]; exact hk
theorem P4 (O:Ok C) (R:Rel C h0 ρ s.σ h) {t:TypeId} {m m' x x' v v':ZB} (hm:VR ρ m m') (hx:VR ρ x x') (hv:VR ρ v v') (hc:S9 C t m x v s=some s1) {k:T} (hk:∀ h1,Rel C h0 ρ s1.σ h1->k L K h1) :
  T.ec C.P (Instr.mapUpdate t m' x' v') k L K h:=by
 unfold S9 at hc;split at hc
 ·rename_i b;obtain ⟨⟨kt,el⟩,hd,hc⟩:=WO.1 hc;obtain ⟨o,ho,hc⟩:=WO.1 hc;have hd:=FD hd;cases hm with
  | map hb =>
  unfold Lr at hc;cases o <;> first | (cases hc; done) | skip
  ·rename_i D;obtain ⟨h1,hc⟩:=bj.1 (show fw _ _=some s1 from hc);obtain ⟨y,hy,hc⟩:=WO.1 hc;obtain ⟨h2,hc⟩:=bj.1 hc;cases hc;have hx':=CN hx hy;subst hx';obtain ⟨hg,D',hD,hr⟩:=R.row ho hb;refine fN hd (uT h1) hD (Xi h2) v' _ fun h' m' c' z'=>hk h' ?_
   refine R.put ho rfl hb hg c' ⟨hg,_,m',?_⟩
   have:=yf kz (q:=oc) y v' D' hD.nodup
   rw [lz kz] at this;rw [show Sx.jN D' y v'=xZ oc y v' D' from this.symm];exact yp _ hv hr
  ·rename_i D;obtain ⟨h1,hc⟩:=bj.1 (show fw _ _=some s1 from hc);obtain ⟨y,hy,hc⟩:=WO.1 hc;cases hc;have hx':=Hr hx hy;subst hx';obtain ⟨hg,D',hD,hr⟩:=R.row ho hb;refine qC (O.kt kt h1) hd hD y v' _ fun h' m' c' z'=>hk h' ?_
   refine R.put ho rfl hb hg c' ⟨hg,_,m',?_⟩
   have:=yf rA (q:=uh) y v' D' (pC.nodup (O.kt kt h1) hD)
   rw [lz rA] at this;rw [show ye D' y v'=xZ uh y v' D' from this.symm];exact yp _ hv hr
  ·rename_i D;obtain ⟨h1,hc⟩:=bj.1 (show fw _ _=some s1 from hc);obtain ⟨y,hy,hc⟩:=WO.1 hc;cases hc;have hx':=Hs hx hy;subst hx';obtain ⟨hg,D',hD,hr⟩:=R.row ho hb;refine qC (O.ki kt h1) hd hD y v' _ fun h' m' c' z'=>hk h' ?_
   refine R.put ho rfl hb hg c' ⟨hg,_,m',?_⟩
   have:=yf oG (q:=oX) y v' D' (pC.nodup (O.ki kt h1) hD)
   rw [lz oG] at this;rw [show ye D' y v'=xZ oX y v' D' from this.symm];exact yp _ hv hr
 ·cases hc
theorem J6 (R:Rel C h0 ρ s.σ h) {t:TypeId} {v:ZB} (hc:Gl C t s=some (v,s1)) (P:oi C h0 ρ s1 v kk L K):T.dY C.P (Instr.makeMap t none) false [(false,[.map 0 0])] (fun r=>kk (.map r)) L K h:=by
 unfold Gl at hc;obtain ⟨⟨k,el⟩,hd,hc⟩:=WO.1 hc;simp only at hc;cases hb:TP C k with
 | true =>
  rw [hb] at hc;obtain ⟨s2,hn2,hc⟩:=WO.1 hc;obtain ⟨hn,h2⟩:=iB.1 hn2;subst h2;cases hc;refine wy (α:=Nat × ZA) (kv:=PC) _ fun h' m e z=>⟨(some h.size,()),rfl,?_⟩
  obtain ⟨R1,le⟩:=R.new (pl:=⟨h.size,0,0⟩) (o:=.xW []) hn (W9 _) e ⟨R.size,[],m,rfl,.nil⟩;exact P _ _ _ le R1 (.map (fj _ _ _))
 | false =>
  rw [hb] at hc;simp only at hc;cases hbi:TT C k with
  | true =>
   rw [hbi] at hc;obtain ⟨s2,hn2,hc⟩:=WO.1 hc;obtain ⟨hn,h2⟩:=iB.1 hn2;subst h2;cases hc;refine wy (α:=Nat × Nat) (kv:=P7) _ fun h' m e z=>⟨(some h.size,()),rfl,?_⟩
   obtain ⟨R1,le⟩:=R.new (pl:=⟨h.size,0,0⟩) (o:=.yd []) hn (W9 _) e ⟨R.size,[],m,rfl,.nil⟩;exact P _ _ _ le R1 (.map (fj _ _ _))
  | false =>
  rw [hbi] at hc;obtain ⟨h1,hc⟩:=bj.1 hc;obtain ⟨s2,hn2,hc⟩:=WO.1 hc;obtain ⟨hn,h2⟩:=iB.1 hn2;subst h2;cases hc;refine lA _ fun h' m e z=>⟨(some h.size,()),rfl,?_⟩
  obtain ⟨R1,le⟩:=R.new (pl:=⟨h.size,0,0⟩) (o:=.wo []) hn (W9 _) e ⟨R.size,[],m,rfl,.nil⟩;exact P _ _ _ le R1 (.map (fj _ _ _))
theorem MX {z:ZB} {n sz:Nat} (hz:z.cells.size=sz) (hp:1<=sz):(List.range (n*sz)).map (z.cells[· % z.cells.size]!)=(List.replicate n z.cells.toList).flatten:=by
 apply X7;intro j;have hl:((List.replicate n z.cells.toList).flatten).length=n*sz:=by simp [hz]
 rw [XB]
 by_cases hj:j<n*sz
 ·rw [X4 hj];have h1:=mC (sz:=sz) (List.replicate n z.cells.toList) (j / sz) [] (fun x hx=>by rw [List.eq_of_mem_replicate hx]; simpa using hz) (by simpa using Nat.div_lt_of_lt_mul (by rw [YU]; exact hj));rw [XP] at h1;have h2:=Xa (fun l:List ZB=>l[j % sz]?) h1;have hm:j % sz<sz:=YY _ hp;simp only [List.getElem?_take,List.getElem?_drop,if_pos hm,List.getElem_replicate] at h2;rw [show j / sz*sz+j % sz=j from by rw [YU]; exact Nat.div_add_mod j sz] at h2;rw [h2,hz]
  have:j % sz<z.cells.size:=ad
  simp [this]
 ·rw [Xs (by simp; omega),Xs ad] <;> rfl
theorem DY (R:Rel C h0 ρ s.σ h) {t:TypeId} {l l' c c' v:ZB} (hl:VR ρ l l') (hc:VR ρ c c') (hx:zj C.P t l c s=some (v,s1)) (P:oi C h0 ρ s1 v kk L K) :
  T.dY C.P (Instr.makeSlice t l' c') false [(false,[.slice 0])] (fun p l c=>kk (.slice p l c)) L K h:=by
 unfold zj at hx;obtain ⟨l0,hl0,hx⟩:=WO.1 hx;obtain ⟨c0,hc0,hx⟩:=WO.1 hx;obtain ⟨k1,rfl⟩:=EQ hl hl0;obtain ⟨k2,rfl⟩:=EQ hc hc0;obtain ⟨q,hq,hx⟩:=WO.1 hx;obtain ⟨h1,hx⟩:=bj.1 hx;obtain ⟨s2,hn2,hx⟩:=WO.1 (show (xT s (.row _ q.e 0)).bind _=some (v,s1) from hx);obtain ⟨hn,h2⟩:=iB.1 hn2;subst h2;cases hx;obtain ⟨i,z,E⟩:=Ca hq;simp only [Bool.and_eq_true] at h1;have g1:=Xi h1.1.1;have g2:=Xi h1.1.2;have g3:=Xi h1.2;refine dm ?_;refine oQ E.TK E.tC E.zero g1 (by rw [E.by_]; omega) ad fun h' b k _=>⟨_,_,_,rfl,?_⟩
 have hfl:dG ρ (List.replicate c0 q.z).flatten (List.replicate c0 q.z).flatten:=by
  have:∀ n,dG ρ (List.replicate n q.z).flatten (List.replicate n q.z).flatten:=by
   intro n
   induction n with
   | zero=>exact .nil
   | succ n ih=>simp only [List.replicate_succ,List.flatten_cons]; exact (E.flat ρ).append ih
  exact this c0
 rw [E.sz] at b;rw [MX (by rw [E.zs,E.sz]) E.pos,<- E.zl] at b;obtain ⟨R1,le⟩:=R.newRow (rest:=[]) (e:=q.e) (m:=0) (cap:=0) hn hfl (by rw [XP]; exact b) k ad;have hv:=VR.sl (ρ:=jN ρ s.nx ⟨h.size,0,0⟩) (c:=c0) (c':=c0) 0 l0 (fj _ _ _) (.inl ⟨by unfold half; omega,rfl⟩) g1;exact P _ _ _ le R1 (by simpa using hv)
end
end Go.Sx.Cr
