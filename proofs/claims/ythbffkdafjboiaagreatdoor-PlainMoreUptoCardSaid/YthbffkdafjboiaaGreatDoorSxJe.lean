/- Part of the framework. No condition. -/
import Derived.Test.YthbffkdafjboiaaGreatDoorSxJd
set_option linter.all false
set_option maxHeartbeats 4000000
namespace Go.Sx.Cr
def ld (a b:Xaa):oy a b=decide (a=b):=by
 unfold oy
 by_cases h:a=b
 ·subst h; simp
 ·rw [Y7 h];exact beq_eq_false_iff_ne.2 fun e=>h (by
   cases a; cases b
   congr 1
   exact ZK.1 e)
def rV (a b:Nat × Xaa):vD a b=decide (a=b):=by
 unfold vD;rw [ld];obtain ⟨j,a2⟩:=a;obtain ⟨b1,u⟩:=b
 have:Nat.beq j b1=decide (j=b1):=by
  by_cases h:j=b1
  ·subst h; simp
  ·rw [Y7 h];cases hb:Nat.beq j b1 with
   | false=>rfl
   | true=>exact (h (Zf hb)).elim
 simp only [this,Prod.mk.injEq];exact (Bool.decide_and _ _).symm
def OT (a b:Nat):Nat.beq a b=decide (a=b):=by
 by_cases h:a=b
 ·subst h; simp
 ·rw [Y7 h];cases hb:Nat.beq a b with
  | false=>rfl
  | true=>exact (h (Zf hb)).elim
def o7 (a b:Nat × Nat):pM a b=decide (a=b):=by
 unfold pM;obtain ⟨j,a2⟩:=a;obtain ⟨b1,u⟩:=b;simp only [OT,Prod.mk.injEq];exact (Bool.decide_and _ _).symm
section gen
variable {α:Type} [DecidableEq α] {q:α->α->Bool} {ρ:gn}
theorem lR (j:∀ a b,q a b=decide (a=b)) (s:α):∀ D:List (α × Xab),kG q s D=(D.find? fun p=>decide (s=p.1)).map (·.2)
 | []=>rfl
 | p::D=>by
  unfold kG;rw [j,cc9];cases decide (s=p.1) with
  | true=>rfl
  | false=>exact lR j s D
theorem yQ (j:∀ a b,q a b=decide (a=b)) (s:α) (v:Xab):∀ D:List (α × Xab),(D.map (·.1)).Nodup->yu q s v D=if (kG q s D).isSome then D.map fun p=>if s=p.1 then (p.1,v) else p else D++[(s,v)]
 | [],_=>rfl
 | p::D,hn=>by
  unfold yu kG;rw [j];simp only [List.map_cons,List.nodup_cons] at hn
  by_cases h:s=p.1
  ·rw [Y6 h];simp only [Option.isSome_some,if_true,List.map_cons,h]
   congr 1
   have:∀ x∈D,(if p.1=x.1 then (x.1,v) else x)=x:=fun x hx=>by
    rw [Y2];intro u; exact hn.1 (u▸Za.2 ⟨x,hx,rfl⟩)
   conv=>lhs; rw [<- List.map_id D]
   exact ZM fun x hx=>(this x hx).symm
  ·rw [Y7 h];simp only;rw [yQ j s v D hn.2];split
   ·simp [h]
   ·rfl
theorem vS (s:α):∀ {D D':List (α × Xab)},DR ρ D D'->(kG q s D=none/\kG q s D'=none)\/∃ v v',kG q s D=some v/\kG q s D'=some v'/\VR ρ v v'
 | [],[],_=>.inl ⟨rfl,rfl⟩
 | [],p::D,h=>by simp [DR] at h
 | p::D,[],h=>by simp [DR] at h
 | p::D,p'::D',h=>by
  obtain ⟨h1,h2⟩:=h;simp only [List.map_cons,List.cons.injEq] at h1 h2;cases h2 with
  | cons hv j =>
  unfold kG;rw [<- h1.1];cases q s p.1 with
  | true=>exact .inr ⟨_,_,rfl,rfl,hv⟩
  | false=>exact vS s ⟨h1.2,j⟩
theorem yW (s:α) {v v':Xab} (hv:VR ρ v v'):∀ {D D':List (α × Xab)},DR ρ D D'->DR ρ (yu q s v D) (yu q s v' D')
 | [],[],_=>⟨rfl,.cons hv .nil⟩
 | [],p::D,h=>by simp [DR] at h
 | p::D,[],h=>by simp [DR] at h
 | p::D,p'::D',h=>by
  obtain ⟨h1,h2⟩:=h;simp only [List.map_cons,List.cons.injEq] at h1 h2;cases h2 with
  | cons u j =>
  unfold yu;rw [<- h1.1];cases q s p.1 with
  | true=>exact ⟨by simp [h1.2],.cons hv j⟩
  | false =>
   obtain ⟨h3,h4⟩:=yW s hv (D:=D) (D':=D') ⟨h1.2,j⟩;exact ⟨by simp [h1.1,h3],.cons u h4⟩
end gen
section
variable {C:Cx} {h0:Hp} {ρ:gn} {s s1:CS} {h:Hp} {e:Ev} {e':Env} {L:Lp} {K:Xab->Hp->Prop} {kk:Xab->T}
def DR.length {α:Type} {D D':List (α × Xab)} (h:DR ρ D D'):D.length=D'.length:=by
 have:=Zl List.length h.1
 simpa using this
def Gc {d:Option TypeDesc} {k j:TypeId} (h:On d=some (k,j)):d=some (.map k j):=by
 unfold On at h;split at h
 ·cases h; rfl
 ·cases h
def Mk {P:Program} {j:TypeId} {z:Xab} (h:K7 P j=some z):(P.info? j).bind (·.zero)=some z/\∀ ρ,VR ρ z z:=by
 unfold K7 at h;obtain ⟨u,h1,h2⟩:=YZ.1 h;obtain ⟨h3,rfl⟩:=BO.1 h2;exact ⟨h1,fun ρ=>r5 9 _ h3⟩
def Ib {x j:Xab} {y:Nat × Xaa} (hx:VR ρ x j) (hk:Pp x=some y):j=PI y:=by
 unfold Pp at hk;split at hk
 ·cases hk;cases hx with
  | agg hl =>
  cases hl with
  | cons u hl =>
  cases hl with
  | cons a2 hl =>
  cases hl; cases u; cases a2; rfl
 ·cases hk
def Jg {x j:Xab} {y:Nat × Nat} (hx:VR ρ x j) (hk:QG x=some y):j=Ql y:=by
 unfold QG at hk;split at hk
 ·cases hk;cases hx with
  | agg hl =>
  cases hl with
  | cons u hl =>
  cases hl with
  | cons a2 hl =>
  cases hl; cases u; cases a2; rfl
 ·cases hk
def CM {x j:Xab} {y:Xaa} (hx:VR ρ x j) (hk:OP x=some y):j=.string y:=by
 unfold OP at hk;split at hk
 ·cases hk; cases hx; rfl
 ·cases hk
def E1 {x j:Xab} {n:Nat} (hx:VR ρ x j) (hk:Ir x=some n):∃ k,j=.int k (n:Int):=by
 unfold Ir at hk;split at hk
 ·cases hk; cases hx; exact ⟨_,rfl⟩
 ·cases hk
def L5 (O:Ok C) (R:Rel C h0 ρ s.σ h) {t k el:TypeId} {m m' x x' z:Xab} {r:Option Xab} (Y:C.P.underlying t=some (.map k el)) (Z:(C.P.info? el).bind (·.zero)=some z) (hm:VR ρ m m') (hx:VR ρ x x')
  (hi:Nb C k m x s=some r):∃ r',((r=none/\r'=none)\/∃ v v',r=some v/\r'=some v'/\VR ρ v v') /\
   ∀ (ok:Bool) (K:Xab->Hp->Prop),K (SK ok z r') h->aS C.P (Instr.lookup t m' x' ok) h K:=by
 unfold Nb at hi;cases hb:U8 C k with
 | true =>
  rw [hb] at hi;simp only at hi;unfold Xa at hi;split at hi
  ·rename_i b;obtain ⟨y,hy,hi⟩:=YZ.1 hi;obtain ⟨o,G,hi⟩:=YZ.1 hi;have j:=Ib hx hy;subst j;cases hm with
   | map J =>
   cases o <;> first | (cases hi; done) | skip
   rename_i D;cases hi;obtain ⟨_,D',U,V⟩:=R.row G J;refine ⟨kG vD y D',?_,fun ok K hk=>?_⟩
   ·rcases vS (q:=vD) y V with ⟨e1,e2⟩ | ⟨v,v',e1,e2,X⟩
    ·exact .inl ⟨e1,e2⟩
    ·exact .inr ⟨v,v',e1,e2,X⟩
   ·refine vh (O.kt k hb) Y Z U y ok K ?_;rw [lR rV] at hk;cases ok <;> exact hk
  ·cases hi
 | false =>
  rw [hb] at hi;simp only at hi;cases u:U6 C k with
  | true =>
   rw [u] at hi;simp only at hi;unfold Vk at hi;split at hi
   ·rename_i b;obtain ⟨y,hy,hi⟩:=YZ.1 hi;obtain ⟨o,G,hi⟩:=YZ.1 hi;have j:=Jg hx hy;subst j;cases hm with
    | map J =>
    cases o <;> first | (cases hi; done) | skip
    rename_i D;cases hi;obtain ⟨_,D',U,V⟩:=R.row G J;refine ⟨kG pM y D',?_,fun ok K hk=>?_⟩
    ·rcases vS (q:=pM) y V with ⟨e1,e2⟩ | ⟨v,v',e1,e2,X⟩
     ·exact .inl ⟨e1,e2⟩
     ·exact .inr ⟨v,v',e1,e2,X⟩
    ·refine vh (O.ki k u) Y Z U y ok K ?_;rw [lR o7] at hk;cases ok <;> exact hk
   ·cases hi
  | false =>
  rw [u] at hi;simp only at hi;obtain ⟨h1,hi⟩:=bq.1 hi;unfold VE at hi;split at hi
  ·obtain ⟨y,hy,hi⟩:=YZ.1 hi;have j:=CM hx hy;subst j;cases hi;cases hm;refine ⟨none,.inl ⟨rfl,rfl⟩,fun ok K hk=>lookup_nil Y (uE h1) Z y ok K ?_⟩;cases ok <;> exact hk
  ·rename_i b;obtain ⟨y,hy,hi⟩:=YZ.1 hi;obtain ⟨o,G,hi⟩:=YZ.1 hi;have j:=CM hx hy;subst j;cases hm with
   | map J =>
   cases o <;> first | (cases hi; done) | skip
   rename_i D;cases hi;obtain ⟨_,D',U,V⟩:=R.row G J;refine ⟨kG oy y D',?_,fun ok K hk=>?_⟩
   ·rcases vS (q:=oy) y V with ⟨e1,e2⟩ | ⟨v,v',e1,e2,X⟩
    ·exact .inl ⟨e1,e2⟩
    ·exact .inr ⟨v,v',e1,e2,X⟩
   ·refine iB Y (uE h1) Z U y ok K ?_;rw [lR ld] at hk;cases ok <;> exact hk
  ·cases hi
def N' (O:Ok C) (R:Rel C h0 ρ s.σ h) {t:TypeId} {m m' x U v:Xab} {ok:Bool} (hm:VR ρ m m') (hx:VR ρ x U) (hc:Mp C t m x ok s=some v) :
  ∃ v',VR ρ v v'/\∀ (kk:Xab->T) (L:Lp) (K:Xab->Hp->Prop),kk v' L K h->(match C.P.underlying t with
  | some (.map _ j)=>match ok with
   | true=>T.eh C.P (Instr.lookup t m' U true) true [cD C.P j,(false,[.bool])] (ju _ fun l=>kk (rv true [cD C.P j,(false,[.bool])] l))
   | false=>T.eh C.P (Instr.lookup t m' U false) false [cD C.P j] (ju _ fun l=>kk (rv false [cD C.P j] l))
  | _=>T.fail) L K h:=by
 unfold Mp at hc;obtain ⟨⟨k,j⟩,G,hc⟩:=YZ.1 hc;obtain ⟨z,hz,hc⟩:=YZ.1 hc;obtain ⟨r,hr,hc⟩:=YZ.1 hc;obtain ⟨Z,hc⟩:=bq.1 hc;cases hc;have G:=Gc G;obtain ⟨V,X⟩:=Mk hz;obtain ⟨r',Y,u⟩:=L5 O R G V hm hx hr;have J:VR ρ (r.getD z) (r'.getD z)/\r.isSome=r'.isSome:=by
  rcases Y with ⟨e1,e2⟩ | ⟨v,v',e1,e2,e3⟩
  ·rw [e1,e2]; exact ⟨X ρ,rfl⟩
  ·rw [e1,e2]; exact ⟨e3,rfl⟩
 cases ok with
 | true =>
  refine ⟨.tuple ⟨[r'.getD z,.bool r.isSome]⟩,.tuple (.cons J.1 (.cons (.bool _) .nil)),fun kk L K hk=>?_⟩;simp only [G];refine u true _ ?_;obtain ⟨y,hy⟩:=vH (q:=(true,[cD C.P j,(false,[.bool])])) (v:=.tuple ⟨[r.getD z,.bool r.isSome]⟩) (.tuple (.cons J.1 (.cons (.bool _) .nil))) (by
   show (CR (cD C.P j) (r.getD z) && true)=true;rw [Z]; rfl)
  refine ⟨y,?_,?_⟩
  ·rw [<- hy,J.2]; rfl
  ·rw [dG]
   have:rv true [cD C.P j,(false,[TypeDesc.bool])] (ef _ y)=_:=hy.symm
   rw [this]; exact hk
 | false =>
  refine ⟨r'.getD z,J.1,fun kk L K hk=>?_⟩;simp only [G];refine u false _ ?_;obtain ⟨y,hy⟩:=vH (q:=(false,[cD C.P j])) (v:=r.getD z) J.1 (by
   show (CR (cD C.P j) (r.getD z) && true)=true;rw [Z]; rfl)
  refine ⟨y,hy,?_⟩;rw [dG]
  have:rv false [cD C.P j] (ef _ y)=_:=hy.symm
  rw [this]; exact hk
def Qa (O:Ok C) (R:Rel C h0 ρ s.σ h) {t:TypeId} {m m' x X v v':Xab} (hm:VR ρ m m') (hx:VR ρ x X) (hv:VR ρ v v') (hc:US C t m x v s=some s1) {k:T} (hk:∀ h1,Rel C h0 ρ s1.σ h1->k L K h1) :
  T.et C.P (Instr.mapUpdate t m' X v') k L K h:=by
 unfold US at hc;split at hc
 ·rename_i b;obtain ⟨⟨kt,Z⟩,U,hc⟩:=YZ.1 hc;obtain ⟨o,J,hc⟩:=YZ.1 hc;have U:=Gc U;cases hm with
  | map hb =>
  unfold NK at hc;cases o <;> first | (cases hc; done) | skip
  ·rename_i D;obtain ⟨h1,hc⟩:=bq.1 (show fM _ _=some s1 from hc);obtain ⟨y,hy,hc⟩:=YZ.1 hc;obtain ⟨h2,hc⟩:=bq.1 hc;cases hc;have j:=CM hx hy;subst j;obtain ⟨u,D',G,V⟩:=R.row J hb;refine fp U (uE h1) G (Zw h2) v' _ fun h' m' c' Y=>hk h' ?_
   refine R.put J rfl hb u c' ⟨u,_,m',?_⟩
   have:=yQ ld (q:=oy) y v' D' G.nodup
   rw [lR ld] at this;rw [show Sx.jn D' y v'=yu oy y v' D' from this.symm];exact yW _ hv V
  ·rename_i D;obtain ⟨h1,hc⟩:=bq.1 (show fM _ _=some s1 from hc);obtain ⟨y,hy,hc⟩:=YZ.1 hc;cases hc;have j:=Ib hx hy;subst j;obtain ⟨u,D',G,V⟩:=R.row J hb;refine rM (O.kt kt h1) U G y v' _ fun h' m' c' Y=>hk h' ?_
   refine R.put J rfl hb u c' ⟨u,_,m',?_⟩
   have:=yQ rV (q:=vD) y v' D' (oR.nodup (O.kt kt h1) G)
   rw [lR rV] at this;rw [show yC D' y v'=yu vD y v' D' from this.symm];exact yW _ hv V
  ·rename_i D;obtain ⟨h1,hc⟩:=bq.1 (show fM _ _=some s1 from hc);obtain ⟨y,hy,hc⟩:=YZ.1 hc;cases hc;have j:=Jg hx hy;subst j;obtain ⟨u,D',G,V⟩:=R.row J hb;refine rM (O.ki kt h1) U G y v' _ fun h' m' c' Y=>hk h' ?_
   refine R.put J rfl hb u c' ⟨u,_,m',?_⟩
   have:=yQ o7 (q:=pM) y v' D' (oR.nodup (O.ki kt h1) G)
   rw [lR o7] at this;rw [show yC D' y v'=yu pM y v' D' from this.symm];exact yW _ hv V
 ·cases hc
def Kp (R:Rel C h0 ρ s.σ h) {t:TypeId} {v:Xab} (hc:Hi C t s=some (v,s1)) (P:nV C h0 ρ s1 v kk L K):T.eh C.P (Instr.makeMap t none) false [(false,[.map 0 0])] (fun r=>kk (.map r)) L K h:=by
 unfold Hi at hc;obtain ⟨⟨k,O⟩,U,hc⟩:=YZ.1 hc;simp only at hc;cases hb:U8 C k with
 | true =>
  rw [hb] at hc;obtain ⟨J,j,hc⟩:=YZ.1 hc;obtain ⟨hn,h2⟩:=iX.1 j;subst h2;cases hc;refine wF (α:=Nat × Xaa) (kv:=PI) _ fun h' m e z=>⟨(some h.size,()),rfl,?_⟩
  obtain ⟨u,le⟩:=R.new (pl:=⟨h.size,0,0⟩) (o:=.yo []) hn (Zh _) e ⟨R.size,[],m,rfl,.nil⟩;exact P _ _ _ le u (.map (fy _ _ _))
 | false =>
  rw [hb] at hc;simp only at hc;cases G:U6 C k with
  | true =>
   rw [G] at hc;obtain ⟨J,j,hc⟩:=YZ.1 hc;obtain ⟨hn,h2⟩:=iX.1 j;subst h2;cases hc;refine wF (α:=Nat × Nat) (kv:=Ql) _ fun h' m e z=>⟨(some h.size,()),rfl,?_⟩
   obtain ⟨u,le⟩:=R.new (pl:=⟨h.size,0,0⟩) (o:=.ym []) hn (Zh _) e ⟨R.size,[],m,rfl,.nil⟩;exact P _ _ _ le u (.map (fy _ _ _))
  | false =>
  rw [G] at hc;obtain ⟨h1,hc⟩:=bq.1 hc;obtain ⟨J,j,hc⟩:=YZ.1 hc;obtain ⟨hn,h2⟩:=iX.1 j;subst h2;cases hc;refine jJ _ fun h' m e z=>⟨(some h.size,()),rfl,?_⟩
  obtain ⟨u,le⟩:=R.new (pl:=⟨h.size,0,0⟩) (o:=.wv []) hn (Zh _) e ⟨R.size,[],m,rfl,.nil⟩;exact P _ _ _ le u (.map (fy _ _ _))
def L7 {z:Xab} {n sz:Nat} (u:z.cells.size=sz) (J:1<=sz):(List.range (n*sz)).map (z.cells[· % z.cells.size]!)=(List.replicate n z.cells.toList).flatten:=by
 apply ae9;intro j;have hl:((List.replicate n z.cells.toList).flatten).length=n*sz:=by simp [u]
 rw [ZO]
 by_cases G:j<n*sz
 ·rw [am9 G];have h1:=ni (sz:=sz) (List.replicate n z.cells.toList) (j / sz) [] (fun x hx=>by rw [List.eq_of_mem_replicate hx]; simpa using u) (by simpa using Nat.div_lt_of_lt_mul (by rw [cw9]; exact G));rw [ZQ] at h1;have h2:=Zl (fun l:List Xab=>l[j % sz]?) h1;have hm:j % sz<sz:=ct9 _ J;simp only [List.getElem?_take,List.getElem?_drop,if_pos hm,List.getElem_replicate] at h2;rw [show j / sz*sz+j % sz=j from by rw [cw9]; exact Nat.div_add_mod j sz] at h2;rw [h2,u]
  have:j % sz<z.cells.size:=ad
  simp [this]
 ·rw [ZI (by simp; omega),ZI ad] <;> rfl
def Fi (R:Rel C h0 ρ s.σ h) {t:TypeId} {l l' c c' v:Xab} (hl:VR ρ l l') (hc:VR ρ c c') (hx:zF C.P t l c s=some (v,s1)) (P:nV C h0 ρ s1 v kk L K) :
  T.eh C.P (Instr.makeSlice t l' c') false [(false,[.slice 0])] (fun p l c=>kk (.slice p l c)) L K h:=by
 unfold zF at hx;obtain ⟨l0,j,hx⟩:=YZ.1 hx;obtain ⟨c0,u,hx⟩:=YZ.1 hx;obtain ⟨X,rfl⟩:=E1 hl j;obtain ⟨Y,rfl⟩:=E1 hc u;obtain ⟨q,O,hx⟩:=YZ.1 hx;obtain ⟨h1,hx⟩:=bq.1 hx;obtain ⟨Z,G,hx⟩:=YZ.1 (show (yN s (.row _ q.e 0)).bind _=some (v,s1) from hx);obtain ⟨hn,h2⟩:=iX.1 G;subst h2;cases hx;obtain ⟨i,z,E⟩:=CF O;simp only [Bool.and_eq_true] at h1;have g1:=Zw h1.1.1;have g2:=Zw h1.1.2;have g3:=Zw h1.2;refine dz ?_;refine pJ E.U0 E.tW E.zero g1 (by rw [E.by_]; omega) ad fun h' b k _=>⟨_,_,_,rfl,?_⟩
 have J:dS ρ (List.replicate c0 q.z).flatten (List.replicate c0 q.z).flatten:=by
  have:∀ n,dS ρ (List.replicate n q.z).flatten (List.replicate n q.z).flatten:=by
   intro n
   induction n with
   | zero=>exact .nil
   | succ n U=>simp only [List.replicate_succ,List.flatten_cons]; exact (E.flat ρ).append U
  exact this c0
 rw [E.sz] at b;rw [L7 (by rw [E.zs,E.sz]) E.pos,<- E.zl] at b;obtain ⟨V,le⟩:=R.newRow (rest:=[]) (e:=q.e) (m:=0) (cap:=0) hn J (by rw [ZQ]; exact b) k ad;have hv:=VR.sl (ρ:=jn ρ s.nx ⟨h.size,0,0⟩) (c:=c0) (c':=c0) 0 l0 (fy _ _ _) (.inl ⟨by unfold half; omega,rfl⟩) g1;exact P _ _ _ le V (by simpa using hv)
end
end Go.Sx.Cr
