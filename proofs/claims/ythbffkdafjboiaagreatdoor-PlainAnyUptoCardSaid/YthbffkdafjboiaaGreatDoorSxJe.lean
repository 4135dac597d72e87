/- Part of the framework. No condition. -/
import Derived.Test.YthbffkdafjboiaaGreatDoorSxJd
set_option linter.all false
set_option maxHeartbeats 4000000
namespace Go.Sx.Cr
def lC (a b:Xaa):oT a b=decide (a=b):=by
 unfold oT
 by_cases h:a=b
 ·subst h; simp
 ·rw [YB h];exact beq_eq_false_iff_ne.2 fun e=>h (by
   cases a; cases b
   congr 1
   exact Zg.1 e)
def sA (a b:Nat × Xaa):vW a b=decide (a=b):=by
 unfold vW;rw [lC];obtain ⟨d,a2⟩:=a;obtain ⟨b1,u⟩:=b
 have:Nat.beq d b1=decide (d=b1):=by
  by_cases h:d=b1
  ·subst h; simp
  ·rw [YB h];cases j:Nat.beq d b1 with
   | false=>rfl
   | true=>exact (h (YL j)).elim
 simp only [this,Prod.mk.injEq];exact (Bool.decide_and _ _).symm
def Pj (a b:Nat):Nat.beq a b=decide (a=b):=by
 by_cases h:a=b
 ·subst h; simp
 ·rw [YB h];cases d:Nat.beq a b with
  | false=>rfl
  | true=>exact (h (YL d)).elim
def pC (a b:Nat × Nat):qb a b=decide (a=b):=by
 unfold qb;obtain ⟨d,a2⟩:=a;obtain ⟨b1,j⟩:=b;simp only [Pj,Prod.mk.injEq];exact (Bool.decide_and _ _).symm
section gen
variable {α:Type} [DecidableEq α] {q:α->α->Bool} {ρ:gF}
theorem ml (d:∀ a b,q a b=decide (a=b)) (s:α):∀ D:List (α × Xab),kO q s D=(D.find? fun p=>decide (s=p.1)).map (·.2)
 | []=>rfl
 | p::D=>by
  unfold kO;rw [d,az9];cases decide (s=p.1) with
  | true=>rfl
  | false=>exact ml d s D
theorem yZ (d:∀ a b,q a b=decide (a=b)) (s:α) (v:Xab):∀ D:List (α × Xab),(D.map (·.1)).Nodup->yK q s v D=if (kO q s D).isSome then D.map fun p=>if s=p.1 then (p.1,v) else p else D++[(s,v)]
 | [],_=>rfl
 | p::D,hn=>by
  unfold yK kO;rw [d];simp only [List.map_cons,List.nodup_cons] at hn
  by_cases h:s=p.1
  ·rw [YA h];simp only [Option.isSome_some,if_true,List.map_cons,h]
   congr 1
   have:∀ x∈D,(if p.1=x.1 then (x.1,v) else x)=x:=fun x hx=>by
    rw [Yx];intro j; exact hn.1 (j▸YF.2 ⟨x,hx,rfl⟩)
   conv=>lhs; rw [<- List.map_id D]
   exact Zm fun x hx=>(this x hx).symm
  ·rw [YB h];simp only;rw [yZ d s v D hn.2];split
   ·simp [h]
   ·rfl
theorem wm (s:α):∀ {D D':List (α × Xab)},DR ρ D D'->(kO q s D=none/\kO q s D'=none)\/∃ v v',kO q s D=some v/\kO q s D'=some v'/\VR ρ v v'
 | [],[],_=>.inl ⟨rfl,rfl⟩
 | [],p::D,h=>by simp [DR] at h
 | p::D,[],h=>by simp [DR] at h
 | p::D,p'::D',h=>by
  obtain ⟨h1,h2⟩:=h;simp only [List.map_cons,List.cons.injEq] at h1 h2;cases h2 with
  | cons hv d =>
  unfold kO;rw [<- h1.1];cases q s p.1 with
  | true=>exact .inr ⟨_,_,rfl,rfl,hv⟩
  | false=>exact wm s ⟨h1.2,d⟩
theorem y7 (s:α) {v v':Xab} (hv:VR ρ v v'):∀ {D D':List (α × Xab)},DR ρ D D'->DR ρ (yK q s v D) (yK q s v' D')
 | [],[],_=>⟨rfl,.cons hv .nil⟩
 | [],p::D,h=>by simp [DR] at h
 | p::D,[],h=>by simp [DR] at h
 | p::D,p'::D',h=>by
  obtain ⟨h1,h2⟩:=h;simp only [List.map_cons,List.cons.injEq] at h1 h2;cases h2 with
  | cons j d =>
  unfold yK;rw [<- h1.1];cases q s p.1 with
  | true=>exact ⟨by simp [h1.2],.cons hv d⟩
  | false =>
   obtain ⟨h3,h4⟩:=y7 s hv (D:=D) (D':=D') ⟨h1.2,d⟩;exact ⟨by simp [h1.1,h3],.cons j h4⟩
end gen
section
variable {C:Cx} {h0:Hp} {ρ:gF} {s s1:CS} {h:Hp} {e:Ev} {e':Env} {L:Lp} {K:Xab->Hp->Prop} {kk:Xab->T}
def DR.length {α:Type} {D D':List (α × Xab)} (h:DR ρ D D'):D.length=D'.length:=by
 have:=YJ List.length h.1
 simpa using this
def Gs {d:Option TypeDesc} {k j:TypeId} (h:OR d=some (k,j)):d=some (.map k j):=by
 unfold OR at h;split at h
 ·cases h; rfl
 ·cases h
def MJ {P:Program} {d:TypeId} {z:Xab} (h:Lz P d=some z):(P.info? d).bind (·.zero)=some z/\∀ ρ,VR ρ z z:=by
 unfold Lz at h;obtain ⟨u,h1,h2⟩:=Yt.1 h;obtain ⟨h3,rfl⟩:=Cb.1 h2;exact ⟨h1,fun ρ=>sF 9 _ h3⟩
def Iu {x d:Xab} {y:Nat × Xaa} (hx:VR ρ x d) (hk:PO x=some y):d=Qb y:=by
 unfold PO at hk;split at hk
 ·cases hk;cases hx with
  | agg hl =>
  cases hl with
  | cons j hl =>
  cases hl with
  | cons a2 hl =>
  cases hl; cases j; cases a2; rfl
 ·cases hk
def JC {x d:Xab} {y:Nat × Nat} (hx:VR ρ x d) (hk:Ri x=some y):d=QV y:=by
 unfold Ri at hk;split at hk
 ·cases hk;cases hx with
  | agg hl =>
  cases hl with
  | cons j hl =>
  cases hl with
  | cons a2 hl =>
  cases hl; cases j; cases a2; rfl
 ·cases hk
def C7 {x d:Xab} {y:Xaa} (hx:VR ρ x d) (hk:Pe x=some y):d=.string y:=by
 unfold Pe at hk;split at hk
 ·cases hk; cases hx; rfl
 ·cases hk
def Fu {x d:Xab} {n:Nat} (hx:VR ρ x d) (hk:IG x=some n):∃ k,d=.int k (n:Int):=by
 unfold IG at hk;split at hk
 ·cases hk; cases hx; exact ⟨_,rfl⟩
 ·cases hk
def Mu (O:Ok C) (R:Rel C h0 ρ s.σ h) {t k el:TypeId} {m m' x x' z:Xab} {r:Option Xab} (X:C.P.underlying t=some (.map k el)) (Y:(C.P.info? el).bind (·.zero)=some z) (hm:VR ρ m m') (hx:VR ρ x x')
  (hi:NF C k m x s=some r):∃ Z,((r=none/\Z=none)\/∃ v v',r=some v/\Z=some v'/\VR ρ v v') /\
   ∀ (ok:Bool) (K:Xab->Hp->Prop),K (Tf ok z Z) h->aU C.P (Instr.lookup t m' x' ok) h K:=by
 unfold NF at hi;cases hb:Vl C k with
 | true =>
  rw [hb] at hi;simp only at hi;unfold WW at hi;split at hi
  ·rename_i b;obtain ⟨y,j,hi⟩:=Yt.1 hi;obtain ⟨o,F,hi⟩:=Yt.1 hi;have d:=Iu hx j;subst d;cases hm with
   | map G =>
   cases o <;> first | (cases hi; done) | skip
   rename_i D;cases hi;obtain ⟨_,D',J,U⟩:=R.row F G;refine ⟨kO vW y D',?_,fun ok K hk=>?_⟩
   ·rcases wm (q:=vW) y U with ⟨e1,e2⟩ | ⟨v,v',e1,e2,V⟩
    ·exact .inl ⟨e1,e2⟩
    ·exact .inr ⟨v,v',e1,e2,V⟩
   ·refine vG (O.kt k hb) X Y J y ok K ?_;rw [ml sA] at hk;cases ok <;> exact hk
  ·cases hi
 | false =>
  rw [hb] at hi;simp only at hi;cases u:Vk C k with
  | true =>
   rw [u] at hi;simp only at hi;unfold Vw at hi;split at hi
   ·rename_i b;obtain ⟨y,j,hi⟩:=Yt.1 hi;obtain ⟨o,F,hi⟩:=Yt.1 hi;have d:=JC hx j;subst d;cases hm with
    | map G =>
    cases o <;> first | (cases hi; done) | skip
    rename_i D;cases hi;obtain ⟨_,D',J,U⟩:=R.row F G;refine ⟨kO qb y D',?_,fun ok K hk=>?_⟩
    ·rcases wm (q:=qb) y U with ⟨e1,e2⟩ | ⟨v,v',e1,e2,V⟩
     ·exact .inl ⟨e1,e2⟩
     ·exact .inr ⟨v,v',e1,e2,V⟩
    ·refine vG (O.ki k u) X Y J y ok K ?_;rw [ml pC] at hk;cases ok <;> exact hk
   ·cases hi
  | false =>
  rw [u] at hi;simp only at hi;obtain ⟨h1,hi⟩:=bF.1 hi;unfold VL at hi;split at hi
  ·obtain ⟨y,j,hi⟩:=Yt.1 hi;have d:=C7 hx j;subst d;cases hi;cases hm;refine ⟨none,.inl ⟨rfl,rfl⟩,fun ok K hk=>lookup_nil X (uU h1) Y y ok K ?_⟩;cases ok <;> exact hk
  ·rename_i b;obtain ⟨y,j,hi⟩:=Yt.1 hi;obtain ⟨o,F,hi⟩:=Yt.1 hi;have d:=C7 hx j;subst d;cases hm with
   | map G =>
   cases o <;> first | (cases hi; done) | skip
   rename_i D;cases hi;obtain ⟨_,D',J,U⟩:=R.row F G;refine ⟨kO oT y D',?_,fun ok K hk=>?_⟩
   ·rcases wm (q:=oT) y U with ⟨e1,e2⟩ | ⟨v,v',e1,e2,V⟩
    ·exact .inl ⟨e1,e2⟩
    ·exact .inr ⟨v,v',e1,e2,V⟩
   ·refine ix X (uU h1) Y J y ok K ?_;rw [ml lC] at hk;cases ok <;> exact hk
  ·cases hi
def OF (O:Ok C) (R:Rel C h0 ρ s.σ h) {t:TypeId} {m m' x U v:Xab} {ok:Bool} (hm:VR ρ m m') (hx:VR ρ x U) (hc:MP C t m x ok s=some v) :
  ∃ v',VR ρ v v'/\∀ (kk:Xab->T) (L:Lp) (K:Xab->Hp->Prop),kk v' L K h->(match C.P.underlying t with
  | some (.map _ d)=>match ok with
   | true=>T.ek C.P (Instr.lookup t m' U true) true [cG C.P d,(false,[.bool])] (jv _ fun l=>kk (rv true [cG C.P d,(false,[.bool])] l))
   | false=>T.ek C.P (Instr.lookup t m' U false) false [cG C.P d] (jv _ fun l=>kk (rv false [cG C.P d] l))
  | _=>T.fail) L K h:=by
 unfold MP at hc;obtain ⟨⟨k,d⟩,u,hc⟩:=Yt.1 hc;obtain ⟨z,hz,hc⟩:=Yt.1 hc;obtain ⟨r,hr,hc⟩:=Yt.1 hc;obtain ⟨Z,hc⟩:=bF.1 hc;cases hc;have u:=Gs u;obtain ⟨V,X⟩:=MJ hz;obtain ⟨J,Y,j⟩:=Mu O R u V hm hx hr;have F:VR ρ (r.getD z) (J.getD z)/\r.isSome=J.isSome:=by
  rcases Y with ⟨e1,e2⟩ | ⟨v,v',e1,e2,e3⟩
  ·rw [e1,e2]; exact ⟨X ρ,rfl⟩
  ·rw [e1,e2]; exact ⟨e3,rfl⟩
 cases ok with
 | true =>
  refine ⟨.tuple ⟨[J.getD z,.bool r.isSome]⟩,.tuple (.cons F.1 (.cons (.bool _) .nil)),fun kk L K hk=>?_⟩;simp only [u];refine j true _ ?_;obtain ⟨y,G⟩:=vZ (q:=(true,[cG C.P d,(false,[.bool])])) (v:=.tuple ⟨[r.getD z,.bool r.isSome]⟩) (.tuple (.cons F.1 (.cons (.bool _) .nil))) (by
   show (C' (cG C.P d) (r.getD z) && true)=true;rw [Z]; rfl)
  refine ⟨y,?_,?_⟩
  ·rw [<- G,F.2]; rfl
  ·rw [dI]
   have:rv true [cG C.P d,(false,[TypeDesc.bool])] (ec _ y)=_:=G.symm
   rw [this]; exact hk
 | false =>
  refine ⟨J.getD z,F.1,fun kk L K hk=>?_⟩;simp only [u];refine j false _ ?_;obtain ⟨y,G⟩:=vZ (q:=(false,[cG C.P d])) (v:=r.getD z) F.1 (by
   show (C' (cG C.P d) (r.getD z) && true)=true;rw [Z]; rfl)
  refine ⟨y,G,?_⟩;rw [dI]
  have:rv false [cG C.P d] (ec _ y)=_:=G.symm
  rw [this]; exact hk
def QD (O:Ok C) (R:Rel C h0 ρ s.σ h) {t:TypeId} {m m' x X v v':Xab} (hm:VR ρ m m') (hx:VR ρ x X) (hv:VR ρ v v') (hc:Va C t m x v s=some s1) {k:T} (hk:∀ h1,Rel C h0 ρ s1.σ h1->k L K h1) :
  T.ey C.P (Instr.mapUpdate t m' X v') k L K h:=by
 unfold Va at hc;split at hc
 ·rename_i b;obtain ⟨⟨kt,Z⟩,J,hc⟩:=Yt.1 hc;obtain ⟨o,F,hc⟩:=Yt.1 hc;have J:=Gs J;cases hm with
  | map G =>
  unfold Oc at hc;cases o <;> first | (cases hc; done) | skip
  ·rename_i D;obtain ⟨h1,hc⟩:=bF.1 (show fF _ _=some s1 from hc);obtain ⟨y,U,hc⟩:=Yt.1 hc;obtain ⟨h2,hc⟩:=bF.1 hc;cases hc;have d:=C7 hx U;subst d;obtain ⟨j,D',u,V⟩:=R.row F G;refine fm J (uU h1) u (Y2 h2) v' _ fun h' m' c' Y=>hk h' ?_
   refine R.put F rfl G j c' ⟨j,_,m',?_⟩
   have:=yZ lC (q:=oT) y v' D' u.nodup
   rw [ml lC] at this;rw [show Sx.iR D' y v'=yK oT y v' D' from this.symm];exact y7 _ hv V
  ·rename_i D;obtain ⟨h1,hc⟩:=bF.1 (show fF _ _=some s1 from hc);obtain ⟨y,U,hc⟩:=Yt.1 hc;cases hc;have d:=Iu hx U;subst d;obtain ⟨j,D',u,V⟩:=R.row F G;refine rZ (O.kt kt h1) J u y v' _ fun h' m' c' Y=>hk h' ?_
   refine R.put F rfl G j c' ⟨j,_,m',?_⟩
   have:=yZ sA (q:=vW) y v' D' (pt.nodup (O.kt kt h1) u)
   rw [ml sA] at this;rw [show yQ D' y v'=yK vW y v' D' from this.symm];exact y7 _ hv V
  ·rename_i D;obtain ⟨h1,hc⟩:=bF.1 (show fF _ _=some s1 from hc);obtain ⟨y,U,hc⟩:=Yt.1 hc;cases hc;have d:=JC hx U;subst d;obtain ⟨j,D',u,V⟩:=R.row F G;refine rZ (O.ki kt h1) J u y v' _ fun h' m' c' Y=>hk h' ?_
   refine R.put F rfl G j c' ⟨j,_,m',?_⟩
   have:=yZ pC (q:=qb) y v' D' (pt.nodup (O.ki kt h1) u)
   rw [ml pC] at this;rw [show yQ D' y v'=yK qb y v' D' from this.symm];exact y7 _ hv V
 ·cases hc
def KH (R:Rel C h0 ρ s.σ h) {t:TypeId} {v:Xab} (hc:Hy C t s=some (v,s1)) (P:oy C h0 ρ s1 v kk L K):T.ek C.P (Instr.makeMap t none) false [(false,[.map 0 0])] (fun r=>kk (.map r)) L K h:=by
 unfold Hy at hc;obtain ⟨⟨k,J⟩,O,hc⟩:=Yt.1 hc;simp only at hc;cases F:Vl C k with
 | true =>
  rw [F] at hc;obtain ⟨G,d,hc⟩:=Yt.1 hc;obtain ⟨hn,h2⟩:=iX.1 d;subst h2;cases hc;refine wT (α:=Nat × Xaa) (kv:=Qb) _ fun h' m e z=>⟨(some h.size,()),rfl,?_⟩
  obtain ⟨j,le⟩:=R.new (pl:=⟨h.size,0,0⟩) (o:=.yF []) hn (YI _) e ⟨R.size,[],m,rfl,.nil⟩;exact P _ _ _ le j (.map (fv _ _ _))
 | false =>
  rw [F] at hc;simp only at hc;cases u:Vk C k with
  | true =>
   rw [u] at hc;obtain ⟨G,d,hc⟩:=Yt.1 hc;obtain ⟨hn,h2⟩:=iX.1 d;subst h2;cases hc;refine wT (α:=Nat × Nat) (kv:=QV) _ fun h' m e z=>⟨(some h.size,()),rfl,?_⟩
   obtain ⟨j,le⟩:=R.new (pl:=⟨h.size,0,0⟩) (o:=.yE []) hn (YI _) e ⟨R.size,[],m,rfl,.nil⟩;exact P _ _ _ le j (.map (fv _ _ _))
  | false =>
  rw [u] at hc;obtain ⟨h1,hc⟩:=bF.1 hc;obtain ⟨G,d,hc⟩:=Yt.1 hc;obtain ⟨hn,h2⟩:=iX.1 d;subst h2;cases hc;refine jM _ fun h' m e z=>⟨(some h.size,()),rfl,?_⟩
  obtain ⟨j,le⟩:=R.new (pl:=⟨h.size,0,0⟩) (o:=.wJ []) hn (YI _) e ⟨R.size,[],m,rfl,.nil⟩;exact P _ _ _ le j (.map (fv _ _ _))
def Mw {z:Xab} {n sz:Nat} (d:z.cells.size=sz) (F:1<=sz):(List.range (n*sz)).map (z.cells[· % z.cells.size]!)=(List.replicate n z.cells.toList).flatten:=by
 apply ZF;intro j;have hl:((List.replicate n z.cells.toList).flatten).length=n*sz:=by simp [d]
 rw [Zj]
 by_cases u:j<n*sz
 ·rw [ZN u];have h1:=nI (sz:=sz) (List.replicate n z.cells.toList) (j / sz) [] (fun x hx=>by rw [List.eq_of_mem_replicate hx]; simpa using d) (by simpa using Nat.div_lt_of_lt_mul (by rw [bo9]; exact u));rw [Zs] at h1;have h2:=YJ (fun l:List Xab=>l[j % sz]?) h1;have hm:j % sz<sz:=bs9 _ F;simp only [List.getElem?_take,List.getElem?_drop,if_pos hm,List.getElem_replicate] at h2;rw [show j / sz*sz+j % sz=j from by rw [bo9]; exact Nat.div_add_mod j sz] at h2;rw [h2,d]
  have:j % sz<z.cells.size:=ad
  simp [this]
 ·rw [Y9 (by simp; omega),Y9 ad] <;> rfl
def FE (R:Rel C h0 ρ s.σ h) {t:TypeId} {l l' c c' v:Xab} (hl:VR ρ l l') (hc:VR ρ c c') (hx:zK C.P t l c s=some (v,s1)) (P:oy C h0 ρ s1 v kk L K) :
  T.ek C.P (Instr.makeSlice t l' c') false [(false,[.slice 0])] (fun p l c=>kk (.slice p l c)) L K h:=by
 unfold zK at hx;obtain ⟨l0,d,hx⟩:=Yt.1 hx;obtain ⟨c0,j,hx⟩:=Yt.1 hx;obtain ⟨U,rfl⟩:=Fu hl d;obtain ⟨V,rfl⟩:=Fu hc j;obtain ⟨q,G,hx⟩:=Yt.1 hx;obtain ⟨h1,hx⟩:=bF.1 hx;obtain ⟨X,u,hx⟩:=Yt.1 (show (yX s (.row _ q.e 0)).bind _=some (v,s1) from hx);obtain ⟨hn,h2⟩:=iX.1 u;subst h2;cases hx;obtain ⟨i,z,E⟩:=C0 G;simp only [Bool.and_eq_true] at h1;have g1:=Y2 h1.1.1;have g2:=Y2 h1.1.2;have Y:=Y2 h1.2;refine du ?_;refine lu E.Vf E.ul E.zero g1 (by rw [E.by_]; omega) ad fun h' b k _=>⟨_,_,_,rfl,?_⟩
 have F:dS ρ (List.replicate c0 q.z).flatten (List.replicate c0 q.z).flatten:=by
  have:∀ n,dS ρ (List.replicate n q.z).flatten (List.replicate n q.z).flatten:=by
   intro n
   induction n with
   | zero=>exact .nil
   | succ n J=>simp only [List.replicate_succ,List.flatten_cons]; exact (E.flat ρ).append J
  exact this c0
 rw [E.sz] at b;rw [Mw (by rw [E.zs,E.sz]) E.pos,<- E.zl] at b;obtain ⟨O,le⟩:=R.newRow (rest:=[]) (e:=q.e) (m:=0) (cap:=0) hn F (by rw [Zs]; exact b) k ad;have hv:=VR.sl (ρ:=iR ρ s.nx ⟨h.size,0,0⟩) (c:=c0) (c':=c0) 0 l0 (fv _ _ _) (.inl ⟨by unfold half; omega,rfl⟩) g1;exact P _ _ _ le O (by simpa using hv)
end
end Go.Sx.Cr
