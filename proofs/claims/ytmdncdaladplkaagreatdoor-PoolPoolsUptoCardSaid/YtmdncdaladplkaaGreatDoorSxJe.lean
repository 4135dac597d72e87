/- Part of the framework. No condition. -/
import Derived.Test.YtmdncdaladplkaaGreatDoorSxJd
set_option linter.all false
set_option maxHeartbeats 4000000
namespace Go.Sx.Cr
def lT (a b:Xaa):pH a b=decide (a=b):=by
 unfold pH
 by_cases h:a=b
 ·subst h; simp
 ·rw [aj9 h];exact beq_eq_false_iff_ne.2 fun e=>h (by
   cases a; cases b
   congr 1
   exact by9.1 e)
def tk (a b:Nat × Xaa):wR a b=decide (a=b):=by
 unfold wR;rw [lT];obtain ⟨c,f⟩:=a;obtain ⟨d,g⟩:=b
 have:Nat.beq c d=decide (c=d):=by
  by_cases h:c=d
  ·subst h; simp
  ·rw [aj9 h];cases e:Nat.beq c d with
   | false=>rfl
   | true=>exact (h (av9 e)).elim
 simp only [this,Prod.mk.injEq];exact (Bool.decide_and _ _).symm
def Rt (a b:Nat):Nat.beq a b=decide (a=b):=by
 by_cases h:a=b
 ·subst h; simp
 ·rw [aj9 h];cases c:Nat.beq a b with
  | false=>rfl
  | true=>exact (h (av9 c)).elim
def qh (a b:Nat × Nat):qM a b=decide (a=b):=by
 unfold qM;obtain ⟨c,d⟩:=a;obtain ⟨e,f⟩:=b;simp only [Rt,Prod.mk.injEq];exact (Bool.decide_and _ _).symm
section gen
variable {α:Type} [DecidableEq α] {q:α->α->Bool} {ρ:gX}
theorem mV (c:∀ a b,q a b=decide (a=b)) (s:α):∀ D:List (α × Xab),lu q s D=(D.find? fun p=>decide (s=p.1)).map (·.2)
 | []=>rfl
 | p::D=>by
  unfold lu;rw [c,fe9];cases decide (s=p.1) with
  | true=>rfl
  | false=>exact mV c s D
theorem Ab (d:∀ a b,q a b=decide (a=b)) (s:α) (v:Xab):∀ D:List (α × Xab),(D.map (·.1)).Nodup->zE q s v D=if (lu q s D).isSome then D.map fun p=>if s=p.1 then (p.1,v) else p else D++[(s,v)]
 | [],_=>rfl
 | p::D,hn=>by
  unfold zE lu;rw [d];simp only [List.map_cons,List.nodup_cons] at hn
  by_cases h:s=p.1
  ·rw [ai9 h];simp only [Option.isSome_some,if_true,List.map_cons,h]
   congr 1
   have:∀ x∈D,(if p.1=x.1 then (x.1,v) else x)=x:=fun x c=>by
    rw [ac9];intro e; exact hn.1 (e▸an9.2 ⟨x,c,rfl⟩)
   conv=>lhs; rw [<- List.map_id D]
   exact ci9 fun x c=>(this x c).symm
  ·rw [aj9 h];simp only;rw [Ab d s v D hn.2];split
   ·simp [h]
   ·rfl
theorem xf (s:α):∀ {D a:List (α × Xab)},DR ρ D a->(lu q s D=none/\lu q s a=none)\/∃ v v',lu q s D=some v/\lu q s a=some v'/\VR ρ v v'
 | [],[],_=>.inl ⟨rfl,rfl⟩
 | [],p::D,h=>by simp [DR] at h
 | p::D,[],h=>by simp [DR] at h
 | p::D,p'::a,h=>by
  obtain ⟨h1,h2⟩:=h;simp only [List.map_cons,List.cons.injEq] at h1 h2;cases h2 with
  | cons hv ht =>
  unfold lu;rw [<- h1.1];cases q s p.1 with
  | true=>exact .inr ⟨_,_,rfl,rfl,hv⟩
  | false=>exact xf s ⟨h1.2,ht⟩
theorem Af (s:α) {v v':Xab} (hv:VR ρ v v'):∀ {D D':List (α × Xab)},DR ρ D D'->DR ρ (zE q s v D) (zE q s v' D')
 | [],[],_=>⟨rfl,.cons hv .nil⟩
 | [],p::D,h=>by simp [DR] at h
 | p::D,[],h=>by simp [DR] at h
 | p::D,p'::D',h=>by
  obtain ⟨h1,h2⟩:=h;simp only [List.map_cons,List.cons.injEq] at h1 h2;cases h2 with
  | cons a ht =>
  unfold zE;rw [<- h1.1];cases q s p.1 with
  | true=>exact ⟨by simp [h1.2],.cons hv ht⟩
  | false =>
   obtain ⟨b,c⟩:=Af s hv (D:=D) (D':=D') ⟨h1.2,ht⟩;exact ⟨by simp [h1.1,b],.cons a c⟩
end gen
section
variable {C:Cx} {h0:Hp} {ρ:gX} {s s1:CS} {h:Hp} {e:Ev} {e':Env} {L:Lp} {K:Xab->Hp->Prop} {kk:Xab->T}
def DR.length {α:Type} {D a:List (α × Xab)} (h:DR ρ D a):D.length=a.length:=by
 have:=aq9 List.length h.1
 simpa using this
variable {H O:TypeId}
def HT {d:Option TypeDesc} (h:Q1 d=some (H,O)):d=some (.map H O):=by
 unfold Q1 at h;split at h
 ·cases h; rfl
 ·cases h
def OH {P:Program} {z:Xab} (h:Np P H=some z):(P.info? H).bind (·.zero)=some z/\∀ ρ,VR ρ z z:=by
 unfold Np at h;obtain ⟨u,h1,h2⟩:=aa9.1 h;obtain ⟨a,rfl⟩:=Dd.1 h2;exact ⟨h1,fun ρ=>tu 9 _ a⟩
def Kd {x a:Xab} {y:Nat × Xaa} (b:VR ρ x a) (hk:RV x=some y):a=Sh y:=by
 unfold RV at hk;split at hk
 ·cases hk;cases b with
  | agg hl =>
  cases hl with
  | cons c hl =>
  cases hl with
  | cons d hl =>
  cases hl; cases c; cases d; rfl
 ·cases hk
def Lm {x a:Xab} {y:Nat × Nat} (b:VR ρ x a) (hk:Tu x=some y):a=GC y:=by
 unfold Tu at hk;split at hk
 ·cases hk;cases b with
  | agg hl =>
  cases hl with
  | cons c hl =>
  cases hl with
  | cons d hl =>
  cases hl; cases c; cases d; rfl
 ·cases hk
def Ea {x a:Xab} {y:Xaa} (b:VR ρ x a) (hk:Rq x=some y):a=.string y:=by
 unfold Rq at hk;split at hk
 ·cases hk; cases b; rfl
 ·cases hk
variable {U:Nat}
def GO {x a:Xab} (b:VR ρ x a) (hk:Kp x=some U):∃ k,a=.int k (U:Int):=by
 unfold Kp at hk;split at hk
 ·cases hk; cases b; exact ⟨_,rfl⟩
 ·cases hk
def Om (a:Ok C) (R:Rel C h0 ρ s.σ h) {I:TypeId} {m J x M z:Xab} {r:Option Xab} (w:C.P.underlying H=some (.map O I)) (A:(C.P.info? I).bind (·.zero)=some z) (B:VR ρ m J) (E:VR ρ x M)
  (hi:PD C O m x s=some r):∃ F,((r=none/\F=none)\/∃ v v',r=some v/\F=some v'/\VR ρ v v') /\
   ∀ (ok:Bool) (K:Xab->Hp->Prop),K (Vc ok z F) h->aP C.P (Instr.lookup H J M ok) h K:=by
 unfold PD at hi;cases G:Xv C O with
 | true =>
  rw [G] at hi;simp only at hi;unfold Y9 at hi;split at hi
  ·rename_i b;obtain ⟨y,f,hi⟩:=aa9.1 hi;obtain ⟨o,i,hi⟩:=aa9.1 hi;have hx':=Kd E f;subst hx';cases B with
   | map j =>
   cases o <;> first | (cases hi; done) | skip
   rename_i D;cases hi;obtain ⟨_,l,n,p⟩:=R.row i j;refine ⟨lu wR y l,?_,fun ok K hk=>?_⟩
   ·rcases xf (q:=wR) y p with ⟨c,d⟩ | ⟨v,v',c,d,u⟩
    ·exact .inl ⟨c,d⟩
    ·exact .inr ⟨v,v',c,d,u⟩
   ·refine oT (a.kt O G) w A n y ok K ?_;rw [mV tk] at hk;cases ok <;> exact hk
  ·cases hi
 | false =>
  rw [G] at hi;simp only at hi;cases g:Xu C O with
  | true =>
   rw [g] at hi;simp only at hi;unfold XJ at hi;split at hi
   ·rename_i b;obtain ⟨y,f,hi⟩:=aa9.1 hi;obtain ⟨o,i,hi⟩:=aa9.1 hi;have hx':=Lm E f;subst hx';cases B with
    | map j =>
    cases o <;> first | (cases hi; done) | skip
    rename_i D;cases hi;obtain ⟨_,l,n,p⟩:=R.row i j;refine ⟨lu qM y l,?_,fun ok K hk=>?_⟩
    ·rcases xf (q:=qM) y p with ⟨c,d⟩ | ⟨v,v',c,d,u⟩
     ·exact .inl ⟨c,d⟩
     ·exact .inr ⟨v,v',c,d,u⟩
    ·refine oT (a.ki O g) w A n y ok K ?_;rw [mV qh] at hk;cases ok <;> exact hk
   ·cases hi
  | false =>
  rw [g] at hi;simp only at hi;obtain ⟨h1,hi⟩:=bt.1 hi;unfold X0 at hi;split at hi
  ·obtain ⟨y,f,hi⟩:=aa9.1 hi;have hx':=Ea E f;subst hx';cases hi;cases B;refine ⟨none,.inl ⟨rfl,rfl⟩,fun ok K hk=>lookup_nil w (vT h1) A y ok K ?_⟩;cases ok <;> exact hk
  ·rename_i b;obtain ⟨y,f,hi⟩:=aa9.1 hi;obtain ⟨o,i,hi⟩:=aa9.1 hi;have hx':=Ea E f;subst hx';cases B with
   | map j =>
   cases o <;> first | (cases hi; done) | skip
   rename_i D;cases hi;obtain ⟨_,l,n,p⟩:=R.row i j;refine ⟨lu pH y l,?_,fun ok K hk=>?_⟩
   ·rcases xf (q:=pH) y p with ⟨c,d⟩ | ⟨v,v',c,d,u⟩
    ·exact .inl ⟨c,d⟩
    ·exact .inr ⟨v,v',c,d,u⟩
   ·refine j3 w (vT h1) A n y ok K ?_;rw [mV lT] at hk;cases ok <;> exact hk
  ·cases hi
def QK (O:Ok C) (R:Rel C h0 ρ s.σ h) {m g x i v:Xab} {ok:Bool} (A:VR ρ m g) (B:VR ρ x i) (hc:ON C H m x ok s=some v) :
  ∃ v',VR ρ v v'/\∀ (kk:Xab->T) (L:Lp) (K:Xab->Hp->Prop),kk v' L K h->(match C.P.underlying H with
  | some (.map _ a)=>match ok with
   | true=>T.ef C.P (Instr.lookup H g i true) true [cJ C.P a,(false,[.bool])] (jJ _ fun l=>kk (rv true [cJ C.P a,(false,[.bool])] l))
   | false=>T.ef C.P (Instr.lookup H g i false) false [cJ C.P a] (jJ _ fun l=>kk (rv false [cJ C.P a] l))
  | _=>T.fail) L K h:=by
 unfold ON at hc;obtain ⟨⟨k,a⟩,hd,hc⟩:=aa9.1 hc;obtain ⟨z,D,hc⟩:=aa9.1 hc;obtain ⟨r,E,hc⟩:=aa9.1 hc;obtain ⟨w,hc⟩:=bt.1 hc;cases hc;have hd:=HT hd;obtain ⟨j,n⟩:=OH D;obtain ⟨f,o,b⟩:=Om O R hd j A B E;have c:VR ρ (r.getD z) (f.getD z)/\r.isSome=f.isSome:=by
  rcases o with ⟨p,u⟩ | ⟨v,v',p,u,F⟩
  ·rw [p,u]; exact ⟨n ρ,rfl⟩
  ·rw [p,u]; exact ⟨F,rfl⟩
 cases ok with
 | true =>
  refine ⟨.tuple ⟨[f.getD z,.bool r.isSome]⟩,.tuple (.cons c.1 (.cons (.bool _) .nil)),fun kk L K hk=>?_⟩;simp only [hd];refine b true _ ?_;obtain ⟨y,d⟩:=wU (q:=(true,[cJ C.P a,(false,[.bool])])) (v:=.tuple ⟨[r.getD z,.bool r.isSome]⟩) (.tuple (.cons c.1 (.cons (.bool _) .nil))) (by
   show (Ed (cJ C.P a) (r.getD z) && true)=true;rw [w]; rfl)
  refine ⟨y,?_,?_⟩
  ·rw [<- d,c.2]; rfl
  ·rw [dP]
   have:rv true [cJ C.P a,(false,[TypeDesc.bool])] (ep _ y)=_:=d.symm
   rw [this]; exact hk
 | false =>
  refine ⟨f.getD z,c.1,fun kk L K hk=>?_⟩;simp only [hd];refine b false _ ?_;obtain ⟨y,d⟩:=wU (q:=(false,[cJ C.P a])) (v:=r.getD z) c.1 (by
   show (Ed (cJ C.P a) (r.getD z) && true)=true;rw [w]; rfl)
  refine ⟨y,d,?_⟩;rw [dP]
  have:rv false [cJ C.P a] (ep _ y)=_:=d.symm
  rw [this]; exact hk
def SV (O:Ok C) (R:Rel C h0 ρ s.σ h) {m c x p v v':Xab} (u:VR ρ m c) (n:VR ρ x p) (hv:VR ρ v v') (hc:Xk C H m x v s=some s1) {k:T} (hk:∀ h1,Rel C h0 ρ s1.σ h1->k L K h1) :
  T.dZ C.P (Instr.mapUpdate H c p v') k L K h:=by
 unfold Xk at hc;split at hc
 ·rename_i b;obtain ⟨⟨kt,w⟩,hd,hc⟩:=aa9.1 hc;obtain ⟨o,g,hc⟩:=aa9.1 hc;have hd:=HT hd;cases u with
  | map i =>
  unfold Qf at hc;cases o <;> first | (cases hc; done) | skip
  ·rename_i D;obtain ⟨h1,hc⟩:=bt.1 (show fY _ _=some s1 from hc);obtain ⟨y,j,hc⟩:=aa9.1 hc;obtain ⟨h2,hc⟩:=bt.1 hc;cases hc;have hx':=Ea n j;subst hx';obtain ⟨d,a,f,l⟩:=R.row g i;refine gF hd (vT h1) f (bi9 h2) v' _ fun h' c c' r=>hk h' ?_
   refine R.put g rfl i d c' ⟨d,_,c,?_⟩
   have:=Ab lT (q:=pH) y v' a f.nodup
   rw [mV lT] at this;rw [show Sx.kR a y v'=zE pH y v' a from this.symm];exact Af _ hv l
  ·rename_i D;obtain ⟨h1,hc⟩:=bt.1 (show fY _ _=some s1 from hc);obtain ⟨y,j,hc⟩:=aa9.1 hc;cases hc;have hx':=Kd n j;subst hx';obtain ⟨d,a,f,l⟩:=R.row g i;refine sX (O.kt kt h1) hd f y v' _ fun h' c c' r=>hk h' ?_
   refine R.put g rfl i d c' ⟨d,_,c,?_⟩
   have:=Ab tk (q:=wR) y v' a (pZ.nodup (O.kt kt h1) f)
   rw [mV tk] at this;rw [show zN a y v'=zE wR y v' a from this.symm];exact Af _ hv l
  ·rename_i D;obtain ⟨h1,hc⟩:=bt.1 (show fY _ _=some s1 from hc);obtain ⟨y,j,hc⟩:=aa9.1 hc;cases hc;have hx':=Lm n j;subst hx';obtain ⟨d,a,f,l⟩:=R.row g i;refine sX (O.ki kt h1) hd f y v' _ fun h' c c' r=>hk h' ?_
   refine R.put g rfl i d c' ⟨d,_,c,?_⟩
   have:=Ab qh (q:=qM) y v' a (pZ.nodup (O.ki kt h1) f)
   rw [mV qh] at this;rw [show zN a y v'=zE qM y v' a from this.symm];exact Af _ hv l
 ·cases hc
def MA (R:Rel C h0 ρ s.σ h) {v:Xab} (hc:Jg C H s=some (v,s1)) (P:oW C h0 ρ s1 v kk L K):T.ef C.P (Instr.makeMap H none) false [(false,[.map 0 0])] (fun r=>kk (.map r)) L K h:=by
 unfold Jg at hc;obtain ⟨⟨k,g⟩,i,hc⟩:=aa9.1 hc;simp only at hc;cases d:Xv C k with
 | true =>
  rw [d] at hc;obtain ⟨f,a,hc⟩:=aa9.1 hc;obtain ⟨hn,h2⟩:=jm.1 a;subst h2;cases hc;refine xL (α:=Nat × Xaa) (kv:=Sh) _ fun h' m e z=>⟨(some h.size,()),rfl,?_⟩
  obtain ⟨b,le⟩:=R.new (pl:=⟨h.size,0,0⟩) (o:=.zx []) hn (au9 _) e ⟨R.size,[],m,rfl,.nil⟩;exact P _ _ _ le b (.map (fJ _ _ _))
 | false =>
  rw [d] at hc;simp only at hc;cases c:Xu C k with
  | true =>
   rw [c] at hc;obtain ⟨f,a,hc⟩:=aa9.1 hc;obtain ⟨hn,h2⟩:=jm.1 a;subst h2;cases hc;refine xL (α:=Nat × Nat) (kv:=GC) _ fun h' m e z=>⟨(some h.size,()),rfl,?_⟩
   obtain ⟨b,le⟩:=R.new (pl:=⟨h.size,0,0⟩) (o:=.zw []) hn (au9 _) e ⟨R.size,[],m,rfl,.nil⟩;exact P _ _ _ le b (.map (fJ _ _ _))
  | false =>
  rw [c] at hc;obtain ⟨h1,hc⟩:=bt.1 hc;obtain ⟨f,a,hc⟩:=aa9.1 hc;obtain ⟨hn,h2⟩:=jm.1 a;subst h2;cases hc;refine nj _ fun h' m e z=>⟨(some h.size,()),rfl,?_⟩
  obtain ⟨b,le⟩:=R.new (pl:=⟨h.size,0,0⟩) (o:=.xC []) hn (au9 _) e ⟨R.size,[],m,rfl,.nil⟩;exact P _ _ _ le b (.map (fJ _ _ _))
def Oo {z:Xab} {sz:Nat} (a:z.cells.size=sz) (c:1<=sz):(List.range (U*sz)).map (z.cells[· % z.cells.size]!)=(List.replicate U z.cells.toList).flatten:=by
 apply df9;intro j;have hl:((List.replicate U z.cells.toList).flatten).length=U*sz:=by simp [a]
 rw [ch9]
 by_cases b:j<U*sz
 ·rw [dl9 b];have h1:=nZ (sz:=sz) (List.replicate U z.cells.toList) (j / sz) [] (fun x d=>by rw [List.eq_of_mem_replicate d]; simpa using a) (by simpa using Nat.div_lt_of_lt_mul (by rw [fn9]; exact b));rw [bz9] at h1;have h2:=aq9 (fun l:List Xab=>l[j % sz]?) h1;have f:j % sz<sz:=fs9 _ c;simp only [List.getElem?_take,List.getElem?_drop,if_pos f,List.getElem_replicate] at h2;rw [show j / sz*sz+j % sz=j from by rw [fn9]; exact Nat.div_add_mod j sz] at h2;rw [h2,a]
  have:j % sz<z.cells.size:=ad
  simp [this]
 ·rw [bq9 (by simp; omega),bq9 ad] <;> rfl
def G1 (R:Rel C h0 ρ s.σ h) {l l' c c' v:Xab} (hl:VR ρ l l') (hc:VR ρ c c') (a:AU C.P H l c s=some (v,s1)) (P:oW C h0 ρ s1 v kk L K) :
  T.ef C.P (Instr.makeSlice H l' c') false [(false,[.slice 0])] (fun p l c=>kk (.slice p l c)) L K h:=by
 unfold AU at a;obtain ⟨l0,d,a⟩:=aa9.1 a;obtain ⟨c0,f,a⟩:=aa9.1 a;obtain ⟨w,rfl⟩:=GO hl d;obtain ⟨x,rfl⟩:=GO hc f;obtain ⟨q,o,a⟩:=aa9.1 a;obtain ⟨h1,a⟩:=bt.1 a;obtain ⟨y,g,a⟩:=aa9.1 (show (zY s (.row _ q.e 0)).bind _=some (v,s1) from a);obtain ⟨hn,h2⟩:=jm.1 g;subst h2;cases a;obtain ⟨i,z,E⟩:=D4 o;simp only [Bool.and_eq_true] at h1;have g1:=bi9 h1.1.1;have g2:=bi9 h1.1.2;have g3:=bi9 h1.2;refine dt ?_;refine qJ E.Xq E.uZ E.zero g1 (by rw [E.by_]; omega) ad fun h' b k _=>⟨_,_,_,rfl,?_⟩
 have j:et ρ (List.replicate c0 q.z).flatten (List.replicate c0 q.z).flatten:=by
  have:∀ n,et ρ (List.replicate n q.z).flatten (List.replicate n q.z).flatten:=by
   intro n
   induction n with
   | zero=>exact .nil
   | succ n r=>simp only [List.replicate_succ,List.flatten_cons]; exact (E.flat ρ).append r
  exact this c0
 rw [E.sz] at b;rw [Oo (by rw [E.zs,E.sz]) E.pos,<- E.zl] at b;obtain ⟨u,le⟩:=R.newRow (rest:=[]) (e:=q.e) (m:=0) (cap:=0) hn j (by rw [bz9]; exact b) k ad;have hv:=VR.sl (ρ:=kR ρ s.nx ⟨h.size,0,0⟩) (c:=c0) (c':=c0) 0 l0 (fJ _ _ _) (.inl ⟨by unfold half; omega,rfl⟩) g1;exact P _ _ _ le u (by simpa using hv)
end
end Go.Sx.Cr
