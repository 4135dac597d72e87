/- Part of the framework. No condition. -/
import Derived.Test.YthbffkdafjboiaaGreatDoorSxJd
set_option linter.all false
set_option maxHeartbeats 4000000
namespace Go.Sx.Cr
def kP (a b:ZA):n' a b=decide (a=b):=by
 unfold n'
 by_cases h:a=b
 ·subst h; simp
 ·rw [Xa h];exact beq_eq_false_iff_ne.2 fun e=>h (by
   cases a; cases b
   congr 1
   exact XM.1 e)
def rD (a b:Nat × ZA):uQ a b=decide (a=b):=by
 unfold uQ;rw [kP];obtain ⟨a1,a2⟩:=a;obtain ⟨b1,b2⟩:=b
 have:Nat.beq a1 b1=decide (a1=b1):=by
  by_cases h:a1=b1
  ·subst h; simp
  ·rw [Xa h];cases hb:Nat.beq a1 b1 with
   | false=>rfl
   | true=>exact (h (Xg hb)).elim
 simp only [this,Prod.mk.injEq];exact (Bool.decide_and _ _).symm
def NY (a b:Nat):Nat.beq a b=decide (a=b):=by
 by_cases h:a=b
 ·subst h; simp
 ·rw [Xa h];cases hb:Nat.beq a b with
  | false=>rfl
  | true=>exact (h (Xg hb)).elim
def oI (a b:Nat × Nat):pn a b=decide (a=b):=by
 unfold pn;obtain ⟨a1,a2⟩:=a;obtain ⟨b1,b2⟩:=b;simp only [NY,Prod.mk.injEq];exact (Bool.decide_and _ _).symm
section gen
variable {α:Type} [DecidableEq α] {q:α->α->Bool} {ρ:gn}
theorem lJ (hq:∀ a b,q a b=decide (a=b)) (s:α):∀ D:List (α × ZB),kp q s D=(D.find? fun p=>decide (s=p.1)).map (·.2)
 | []=>rfl
 | p::D=>by
  unfold kp;rw [hq,Y1];cases decide (s=p.1) with
  | true=>rfl
  | false=>exact lJ hq s D
theorem ym (hq:∀ a b,q a b=decide (a=b)) (s:α) (v:ZB):∀ D:List (α × ZB),(D.map (·.1)).Nodup->x5 q s v D=if (kp q s D).isSome then D.map fun p=>if s=p.1 then (p.1,v) else p else D++[(s,v)]
 | [],_=>rfl
 | p::D,hn=>by
  unfold x5 kp;rw [hq];simp only [List.map_cons,List.nodup_cons] at hn
  by_cases h:s=p.1
  ·rw [W9 h];simp only [Option.isSome_some,if_true,List.map_cons,h]
   congr 1
   have:∀ x∈D,(if p.1=x.1 then (x.1,v) else x)=x:=fun x hx=>by
    rw [W6];intro hh; exact hn.1 (hh▸Xd.2 ⟨x,hx,rfl⟩)
   conv=>lhs; rw [<- List.map_id D]
   exact XQ fun x hx=>(this x hx).symm
  ·rw [Xa h];simp only;rw [ym hq s v D hn.2];split
   ·simp [h]
   ·rfl
theorem vf (s:α):∀ {D D':List (α × ZB)},DR ρ D D'->(kp q s D=none/\kp q s D'=none)\/∃ v v',kp q s D=some v/\kp q s D'=some v'/\VR ρ v v'
 | [],[],_=>.inl ⟨rfl,rfl⟩
 | [],p::D,h=>by simp [DR] at h
 | p::D,[],h=>by simp [DR] at h
 | p::D,p'::D',h=>by
  obtain ⟨h1,h2⟩:=h;simp only [List.map_cons,List.cons.injEq] at h1 h2;cases h2 with
  | cons hv ht =>
  unfold kp;rw [<- h1.1];cases q s p.1 with
  | true=>exact .inr ⟨_,_,rfl,rfl,hv⟩
  | false=>exact vf s ⟨h1.2,ht⟩
theorem yp (s:α) {v v':ZB} (hv:VR ρ v v'):∀ {D D':List (α × ZB)},DR ρ D D'->DR ρ (x5 q s v D) (x5 q s v' D')
 | [],[],_=>⟨rfl,.cons hv .nil⟩
 | [],p::D,h=>by simp [DR] at h
 | p::D,[],h=>by simp [DR] at h
 | p::D,p'::D',h=>by
  obtain ⟨h1,h2⟩:=h;simp only [List.map_cons,List.cons.injEq] at h1 h2;cases h2 with
  | cons hp ht =>
  unfold x5;rw [<- h1.1];cases q s p.1 with
  | true=>exact ⟨by simp [h1.2],.cons hv ht⟩
  | false =>
   obtain ⟨h3,h4⟩:=yp s hv (D:=D) (D':=D') ⟨h1.2,ht⟩;exact ⟨by simp [h1.1,h3],.cons hp h4⟩
end gen
section
variable {C:Cx} {h0:Hp} {ρ:gn} {s s1:CS} {h:Hp} {e:Ev} {e':Env} {L:Lp} {K:ZB->Hp->Prop} {kk:ZB->T}
def DR.length {α:Type} {D D':List (α × ZB)} (h:DR ρ D D'):D.length=D'.length:=by
 have:=Xj List.length h.1
 simpa using this
def FC {d:Option TypeDesc} {k el:TypeId} (h:Ny d=some (k,el)):d=some (.map k el):=by
 unfold Ny at h;split at h
 ·cases h; rfl
 ·cases h
def Lv {P:Program} {el:TypeId} {z:ZB} (h:Ko P el=some z):(P.info? el).bind (·.zero)=some z/\∀ ρ,VR ρ z z:=by
 unfold Ko at h;obtain ⟨u,h1,h2⟩:=W1.1 h;obtain ⟨h3,rfl⟩:=Bj.1 h2;exact ⟨h1,fun ρ=>rI 9 _ h3⟩
def Hz {x x':ZB} {y:Nat × ZA} (hx:VR ρ x x') (hk:On x=some y):x'=OK y:=by
 unfold On at hk;split at hk
 ·cases hk;cases hx with
  | agg hl =>
  cases hl with
  | cons a1 hl =>
  cases hl with
  | cons a2 hl =>
  cases hl; cases a1; cases a2; rfl
 ·cases hk
def IB {x x':ZB} {y:Nat × Nat} (hx:VR ρ x x') (hk:PI x=some y):x'=Pk y:=by
 unfold PI at hk;split at hk
 ·cases hk;cases hx with
  | agg hl =>
  cases hl with
  | cons a1 hl =>
  cases hl with
  | cons a2 hl =>
  cases hl; cases a1; cases a2; rfl
 ·cases hk
def Cd {x x':ZB} {y:ZA} (hx:VR ρ x x') (hk:NV x=some y):x'=.string y:=by
 unfold NV at hk;split at hk
 ·cases hk; cases hx; rfl
 ·cases hk
def Er {x x':ZB} {n:Nat} (hx:VR ρ x x') (hk:HN x=some n):∃ k,x'=.int k (n:Int):=by
 unfold HN at hk;split at hk
 ·cases hk; cases hx; exact ⟨_,rfl⟩
 ·cases hk
def K9 (O:Ok C) (R:Rel C h0 ρ s.σ h) {t k el:TypeId} {m m' x x' z:ZB} {r:Option ZB} (hd:C.P.underlying t=some (.map k el)) (hz:(C.P.info? el).bind (·.zero)=some z) (hm:VR ρ m m') (hx:VR ρ x x')
  (hi:Mp C k m x s=some r):∃ r',((r=none/\r'=none)\/∃ v v',r=some v/\r'=some v'/\VR ρ v v') /\
   ∀ (ok:Bool) (K:ZB->Hp->Prop),K (Rv ok z r') h->aS C.P (Instr.lookup t m' x' ok) h K:=by
 unfold Mp at hi;cases hb:TR C k with
 | true =>
  rw [hb] at hi;simp only at hi;unfold Vv at hi;split at hi
  ·rename_i b;obtain ⟨y,hy,hi⟩:=W1.1 hi;obtain ⟨o,ho,hi⟩:=W1.1 hi;have hx':=Hz hx hy;subst hx';cases hm with
   | map hp =>
   cases o <;> first | (cases hi; done) | skip
   rename_i D;cases hi;obtain ⟨_,D',hD,hr⟩:=R.row ho hp;refine ⟨kp uQ y D',?_,fun ok K hk=>?_⟩
   ·rcases vf (q:=uQ) y hr with ⟨e1,e2⟩ | ⟨v,v',e1,e2,e3⟩
    ·exact .inl ⟨e1,e2⟩
    ·exact .inr ⟨v,v',e1,e2,e3⟩
   ·refine uE (O.kt k hb) hd hz hD y ok K ?_;rw [lJ rD] at hk;cases ok <;> exact hk
  ·cases hi
 | false =>
  rw [hb] at hi;simp only at hi;cases hbi:TQ C k with
  | true =>
   rw [hbi] at hi;simp only at hi;unfold T4 at hi;split at hi
   ·rename_i b;obtain ⟨y,hy,hi⟩:=W1.1 hi;obtain ⟨o,ho,hi⟩:=W1.1 hi;have hx':=IB hx hy;subst hx';cases hm with
    | map hp =>
    cases o <;> first | (cases hi; done) | skip
    rename_i D;cases hi;obtain ⟨_,D',hD,hr⟩:=R.row ho hp;refine ⟨kp pn y D',?_,fun ok K hk=>?_⟩
    ·rcases vf (q:=pn) y hr with ⟨e1,e2⟩ | ⟨v,v',e1,e2,e3⟩
     ·exact .inl ⟨e1,e2⟩
     ·exact .inr ⟨v,v',e1,e2,e3⟩
    ·refine uE (O.ki k hbi) hd hz hD y ok K ?_;rw [lJ oI] at hk;cases ok <;> exact hk
   ·cases hi
  | false =>
  rw [hbi] at hi;simp only at hi;obtain ⟨h1,hi⟩:=bq.1 hi;unfold Ui at hi;split at hi
  ·obtain ⟨y,hy,hi⟩:=W1.1 hi;have hx':=Cd hx hy;subst hx';cases hi;cases hm;refine ⟨none,.inl ⟨rfl,rfl⟩,fun ok K hk=>lookup_nil hd (uc h1) hz y ok K ?_⟩;cases ok <;> exact hk
  ·rename_i b;obtain ⟨y,hy,hi⟩:=W1.1 hi;obtain ⟨o,ho,hi⟩:=W1.1 hi;have hx':=Cd hx hy;subst hx';cases hm with
   | map hp =>
   cases o <;> first | (cases hi; done) | skip
   rename_i D;cases hi;obtain ⟨_,D',hD,hr⟩:=R.row ho hp;refine ⟨kp n' y D',?_,fun ok K hk=>?_⟩
   ·rcases vf (q:=n') y hr with ⟨e1,e2⟩ | ⟨v,v',e1,e2,e3⟩
    ·exact .inl ⟨e1,e2⟩
    ·exact .inr ⟨v,v',e1,e2,e3⟩
   ·refine hZ hd (uc h1) hz hD y ok K ?_;rw [lJ kP] at hk;cases ok <;> exact hk
  ·cases hi
def Nn (O:Ok C) (R:Rel C h0 ρ s.σ h) {t:TypeId} {m m' x x' v:ZB} {ok:Bool} (hm:VR ρ m m') (hx:VR ρ x x') (hc:LA C t m x ok s=some v) :
  ∃ v',VR ρ v v'/\∀ (kk:ZB->T) (L:Lp) (K:ZB->Hp->Prop),kk v' L K h->(match C.P.underlying t with
  | some (.map _ el)=>match ok with
   | true=>T.ek C.P (Instr.lookup t m' x' true) true [cz C.P el,(false,[.bool])] (jj _ fun l=>kk (rv true [cz C.P el,(false,[.bool])] l))
   | false=>T.ek C.P (Instr.lookup t m' x' false) false [cz C.P el] (jj _ fun l=>kk (rv false [cz C.P el] l))
  | _=>T.fail) L K h:=by
 unfold LA at hc;obtain ⟨⟨k,el⟩,hd,hc⟩:=W1.1 hc;obtain ⟨z,hz,hc⟩:=W1.1 hc;obtain ⟨r,hr,hc⟩:=W1.1 hc;obtain ⟨hf,hc⟩:=bq.1 hc;cases hc;have hd:=FC hd;obtain ⟨hz1,hz2⟩:=Lv hz;obtain ⟨r',hr',hsem⟩:=K9 O R hd hz1 hm hx hr;have hg:VR ρ (r.getD z) (r'.getD z)/\r.isSome=r'.isSome:=by
  rcases hr' with ⟨e1,e2⟩ | ⟨v,v',e1,e2,e3⟩
  ·rw [e1,e2]; exact ⟨hz2 ρ,rfl⟩
  ·rw [e1,e2]; exact ⟨e3,rfl⟩
 cases ok with
 | true =>
  refine ⟨.tuple ⟨[r'.getD z,.bool r.isSome]⟩,.tuple (.cons hg.1 (.cons (.bool _) .nil)),fun kk L K hk=>?_⟩;simp only [hd];refine hsem true _ ?_;obtain ⟨y,hy⟩:=uT (q:=(true,[cz C.P el,(false,[.bool])])) (v:=.tuple ⟨[r.getD z,.bool r.isSome]⟩) (.tuple (.cons hg.1 (.cons (.bool _) .nil))) (by
   show (Cg (cz C.P el) (r.getD z) && true)=true;rw [hf]; rfl)
  refine ⟨y,?_,?_⟩
  ·rw [<- hy,hg.2]; rfl
  ·rw [dE]
   have:rv true [cz C.P el,(false,[TypeDesc.bool])] (dZ _ y)=_:=hy.symm
   rw [this]; exact hk
 | false =>
  refine ⟨r'.getD z,hg.1,fun kk L K hk=>?_⟩;simp only [hd];refine hsem false _ ?_;obtain ⟨y,hy⟩:=uT (q:=(false,[cz C.P el])) (v:=r.getD z) hg.1 (by
   show (Cg (cz C.P el) (r.getD z) && true)=true;rw [hf]; rfl)
  refine ⟨y,hy,?_⟩;rw [dE]
  have:rv false [cz C.P el] (dZ _ y)=_:=hy.symm
  rw [this]; exact hk
def O' (O:Ok C) (R:Rel C h0 ρ s.σ h) {t:TypeId} {m m' x x' v v':ZB} (hm:VR ρ m m') (hx:VR ρ x x') (hv:VR ρ v v') (hc:TE C t m x v s=some s1) {k:T} (hk:∀ h1,Rel C h0 ρ s1.σ h1->k L K h1) :
  T.ei C.P (Instr.mapUpdate t m' x' v') k L K h:=by
 unfold TE at hc;split at hc
 ·rename_i b;obtain ⟨⟨kt,el⟩,hd,hc⟩:=W1.1 hc;obtain ⟨o,ho,hc⟩:=W1.1 hc;have hd:=FC hd;cases hm with
  | map hb =>
  unfold MV at hc;cases o <;> first | (cases hc; done) | skip
  ·rename_i D;obtain ⟨h1,hc⟩:=bq.1 (show fG _ _=some s1 from hc);obtain ⟨y,hy,hc⟩:=W1.1 hc;obtain ⟨h2,hc⟩:=bq.1 hc;cases hc;have hx':=Cd hx hy;subst hx';obtain ⟨hg,D',hD,hr⟩:=R.row ho hb;refine fg hd (uc h1) hD (Xx h2) v' _ fun h' m' c' z'=>hk h' ?_
   refine R.put ho rfl hb hg c' ⟨hg,_,m',?_⟩
   have:=ym kP (q:=n') y v' D' hD.nodup
   rw [lJ kP] at this;rw [show Sx.je D' y v'=x5 n' y v' D' from this.symm];exact yp _ hv hr
  ·rename_i D;obtain ⟨h1,hc⟩:=bq.1 (show fG _ _=some s1 from hc);obtain ⟨y,hy,hc⟩:=W1.1 hc;cases hc;have hx':=Hz hx hy;subst hx';obtain ⟨hg,D',hD,hr⟩:=R.row ho hb;refine rn (O.kt kt h1) hd hD y v' _ fun h' m' c' z'=>hk h' ?_
   refine R.put ho rfl hb hg c' ⟨hg,_,m',?_⟩
   have:=ym rD (q:=uQ) y v' D' (oA.nodup (O.kt kt h1) hD)
   rw [lJ rD] at this;rw [show yd D' y v'=x5 uQ y v' D' from this.symm];exact yp _ hv hr
  ·rename_i D;obtain ⟨h1,hc⟩:=bq.1 (show fG _ _=some s1 from hc);obtain ⟨y,hy,hc⟩:=W1.1 hc;cases hc;have hx':=IB hx hy;subst hx';obtain ⟨hg,D',hD,hr⟩:=R.row ho hb;refine rn (O.ki kt h1) hd hD y v' _ fun h' m' c' z'=>hk h' ?_
   refine R.put ho rfl hb hg c' ⟨hg,_,m',?_⟩
   have:=ym oI (q:=pn) y v' D' (oA.nodup (O.ki kt h1) hD)
   rw [lJ oI] at this;rw [show yd D' y v'=x5 pn y v' D' from this.symm];exact yp _ hv hr
 ·cases hc
def JH (R:Rel C h0 ρ s.σ h) {t:TypeId} {v:ZB} (hc:GG C t s=some (v,s1)) (P:nH C h0 ρ s1 v kk L K):T.ek C.P (Instr.makeMap t none) false [(false,[.map 0 0])] (fun r=>kk (.map r)) L K h:=by
 unfold GG at hc;obtain ⟨⟨k,el⟩,hd,hc⟩:=W1.1 hc;simp only at hc;cases hb:TR C k with
 | true =>
  rw [hb] at hc;obtain ⟨s2,hn2,hc⟩:=W1.1 hc;obtain ⟨hn,h2⟩:=iO.1 hn2;subst h2;cases hc;refine vV (α:=Nat × ZA) (kv:=OK) _ fun h' m e z=>⟨(some h.size,()),rfl,?_⟩
  obtain ⟨R1,le⟩:=R.new (pl:=⟨h.size,0,0⟩) (o:=.xW []) hn (Xk _) e ⟨R.size,[],m,rfl,.nil⟩;exact P _ _ _ le R1 (.map (fp _ _ _))
 | false =>
  rw [hb] at hc;simp only at hc;cases hbi:TQ C k with
  | true =>
   rw [hbi] at hc;obtain ⟨s2,hn2,hc⟩:=W1.1 hc;obtain ⟨hn,h2⟩:=iO.1 hn2;subst h2;cases hc;refine vV (α:=Nat × Nat) (kv:=Pk) _ fun h' m e z=>⟨(some h.size,()),rfl,?_⟩
   obtain ⟨R1,le⟩:=R.new (pl:=⟨h.size,0,0⟩) (o:=.xV []) hn (Xk _) e ⟨R.size,[],m,rfl,.nil⟩;exact P _ _ _ le R1 (.map (fp _ _ _))
  | false =>
  rw [hbi] at hc;obtain ⟨h1,hc⟩:=bq.1 hc;obtain ⟨s2,hn2,hc⟩:=W1.1 hc;obtain ⟨hn,h2⟩:=iO.1 hn2;subst h2;cases hc;refine jx _ fun h' m e z=>⟨(some h.size,()),rfl,?_⟩
  obtain ⟨R1,le⟩:=R.new (pl:=⟨h.size,0,0⟩) (o:=.vL []) hn (Xk _) e ⟨R.size,[],m,rfl,.nil⟩;exact P _ _ _ le R1 (.map (fp _ _ _))
def Lc {z:ZB} {n sz:Nat} (hz:z.cells.size=sz) (hp:1<=sz):(List.range (n*sz)).map (z.cells[· % z.cells.size]!)=(List.replicate n z.cells.toList).flatten:=by
 apply Yd;intro j;have hl:((List.replicate n z.cells.toList).flatten).length=n*sz:=by simp [hz]
 rw [XO]
 by_cases hj:j<n*sz
 ·rw [Ym hj];have h1:=mR (sz:=sz) (List.replicate n z.cells.toList) (j / sz) [] (fun x hx=>by rw [List.eq_of_mem_replicate hx]; simpa using hz) (by simpa using Nat.div_lt_of_lt_mul (by rw [Zj]; exact hj));rw [X4] at h1;have h2:=Xj (fun l:List ZB=>l[j % sz]?) h1;have hm:j % sz<sz:=Zg _ hp;simp only [List.getElem?_take,List.getElem?_drop,if_pos hm,List.getElem_replicate] at h2;rw [show j / sz*sz+j % sz=j from by rw [Zj]; exact Nat.div_add_mod j sz] at h2;rw [h2,hz]
  have:j % sz<z.cells.size:=ad
  simp [this]
 ·rw [XI (by simp; omega),XI ad] <;> rfl
def ED (R:Rel C h0 ρ s.σ h) {t:TypeId} {l l' c c' v:ZB} (hl:VR ρ l l') (hc:VR ρ c c') (hx:y6 C.P t l c s=some (v,s1)) (P:nH C h0 ρ s1 v kk L K) :
  T.ek C.P (Instr.makeSlice t l' c') false [(false,[.slice 0])] (fun p l c=>kk (.slice p l c)) L K h:=by
 unfold y6 at hx;obtain ⟨l0,hl0,hx⟩:=W1.1 hx;obtain ⟨c0,hc0,hx⟩:=W1.1 hx;obtain ⟨k1,rfl⟩:=Er hl hl0;obtain ⟨k2,rfl⟩:=Er hc hc0;obtain ⟨q,hq,hx⟩:=W1.1 hx;obtain ⟨h1,hx⟩:=bq.1 hx;obtain ⟨s2,hn2,hx⟩:=W1.1 (show (yj s (.row _ q.e 0)).bind _=some (v,s1) from hx);obtain ⟨hn,h2⟩:=iO.1 hn2;subst h2;cases hx;obtain ⟨i,z,E⟩:=B7 hq;simp only [Bool.and_eq_true] at h1;have g1:=Xx h1.1.1;have g2:=Xx h1.1.2;have g3:=Xx h1.2;refine dt ?_;refine pf E.TK E.tA E.zero g1 (by rw [E.by_]; omega) ad fun h' b k _=>⟨_,_,_,rfl,?_⟩
 have hfl:dQ ρ (List.replicate c0 q.z).flatten (List.replicate c0 q.z).flatten:=by
  have:∀ n,dQ ρ (List.replicate n q.z).flatten (List.replicate n q.z).flatten:=by
   intro n
   induction n with
   | zero=>exact .nil
   | succ n ih=>simp only [List.replicate_succ,List.flatten_cons]; exact (E.flat ρ).append ih
  exact this c0
 rw [E.sz] at b;rw [Lc (by rw [E.zs,E.sz]) E.pos,<- E.zl] at b;obtain ⟨R1,le⟩:=R.newRow (rest:=[]) (e:=q.e) (m:=0) (cap:=0) hn hfl (by rw [X4]; exact b) k ad;have hv:=VR.sl (ρ:=je ρ s.nx ⟨h.size,0,0⟩) (c:=c0) (c':=c0) 0 l0 (fp _ _ _) (.inl ⟨by unfold half; omega,rfl⟩) g1;exact P _ _ _ le R1 (by simpa using hv)
end
end Go.Sx.Cr
