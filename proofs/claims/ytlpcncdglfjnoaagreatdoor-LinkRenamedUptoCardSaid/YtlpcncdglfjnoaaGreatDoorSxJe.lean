/- Part of the framework. No condition. -/
import Derived.Test.YtlpcncdglfjnoaaGreatDoorSxJd
set_option linter.all false
set_option maxHeartbeats 4000000
namespace Go.Sx.Cr
def kp (a b:XA):nO a b=decide (a=b):=by
 unfold nO
 by_cases h:a=b
 ·subst h; simp
 ·rw [Vx h];exact beq_eq_false_iff_ne.2 fun e=>h (by
   cases a; cases b
   congr 1
   exact Wf.1 e)
def rh (a b:Nat × XA):uX a b=decide (a=b):=by
 unfold uX;rw [kp];obtain ⟨c,e⟩:=a;obtain ⟨b1,b2⟩:=b
 have:Nat.beq c b1=decide (c=b1):=by
  by_cases h:c=b1
  ·subst h; simp
  ·rw [Vx h];cases d:Nat.beq c b1 with
   | false=>rfl
   | true=>exact (h (VF d)).elim
 simp only [this,Prod.mk.injEq];exact (Bool.decide_and _ _).symm
def Np (a b:Nat):Nat.beq a b=decide (a=b):=by
 by_cases h:a=b
 ·subst h; simp
 ·rw [Vx h];cases c:Nat.beq a b with
  | false=>rfl
  | true=>exact (h (VF c)).elim
def oz (a b:Nat × Nat):oV a b=decide (a=b):=by
 unfold oV;obtain ⟨c,d⟩:=a;obtain ⟨b1,b2⟩:=b;simp only [Np,Prod.mk.injEq];exact (Bool.decide_and _ _).symm
section gen
variable {α:Type} [DecidableEq α] {q:α->α->Bool} {ρ:fY}
theorem kY (c:∀ a b,q a b=decide (a=b)) (s:α):∀ D:List (α × XB),jY q s D=(D.find? fun p=>decide (s=p.1)).map (·.2)
 | []=>rfl
 | p::D=>by
  unfold jY;rw [c,Xi];cases decide (s=p.1) with
  | true=>rfl
  | false=>exact kY c s D
theorem yj (d:∀ a b,q a b=decide (a=b)) (s:α) (v:XB):∀ D:List (α × XB),(D.map (·.1)).Nodup->xZ q s v D=if (jY q s D).isSome then D.map fun p=>if s=p.1 then (p.1,v) else p else D++[(s,v)]
 | [],_=>rfl
 | p::D,hn=>by
  unfold xZ jY;rw [d];simp only [List.map_cons,List.nodup_cons] at hn
  by_cases h:s=p.1
  ·rw [Vw h];simp only [Option.isSome_some,if_true,List.map_cons,h]
   congr 1
   have:∀ x∈D,(if p.1=x.1 then (x.1,v) else x)=x:=fun x c=>by
    rw [Vu];intro e; exact hn.1 (e▸Vy.2 ⟨x,c,rfl⟩)
   conv=>lhs; rw [<- List.map_id D]
   exact V4 fun x c=>(this x c).symm
  ·rw [Vx h];simp only;rw [yj d s v D hn.2];split
   ·simp [h]
   ·rfl
theorem vr (s:α):∀ {D a:List (α × XB)},DR ρ D a->(jY q s D=none/\jY q s a=none)\/∃ v v',jY q s D=some v/\jY q s a=some v'/\VR ρ v v'
 | [],[],_=>.inl ⟨rfl,rfl⟩
 | [],p::D,h=>by simp [DR] at h
 | p::D,[],h=>by simp [DR] at h
 | p::D,p'::a,h=>by
  obtain ⟨h1,h2⟩:=h;simp only [List.map_cons,List.cons.injEq] at h1 h2;cases h2 with
  | cons hv b =>
  unfold jY;rw [<- h1.1];cases q s p.1 with
  | true=>exact .inr ⟨_,_,rfl,rfl,hv⟩
  | false=>exact vr s ⟨h1.2,b⟩
theorem ym (s:α) {v v':XB} (hv:VR ρ v v'):∀ {D D':List (α × XB)},DR ρ D D'->DR ρ (xZ q s v D) (xZ q s v' D')
 | [],[],_=>⟨rfl,.cons hv .nil⟩
 | [],p::D,h=>by simp [DR] at h
 | p::D,[],h=>by simp [DR] at h
 | p::D,p'::D',h=>by
  obtain ⟨h1,h2⟩:=h;simp only [List.map_cons,List.cons.injEq] at h1 h2;cases h2 with
  | cons b a =>
  unfold xZ;rw [<- h1.1];cases q s p.1 with
  | true=>exact ⟨by simp [h1.2],.cons hv a⟩
  | false =>
   obtain ⟨c,d⟩:=ym s hv (D:=D) (D':=D') ⟨h1.2,a⟩;exact ⟨by simp [h1.1,c],.cons b d⟩
end gen
section
variable {C:Cx} {h0:Hp} {ρ:fY} {s s1:CS} {h:Hp} {e:Ev} {e':Env} {L:Lp} {K:XB->Hp->Prop} {kk:XB->T}
def DR.length {α:Type} {D a:List (α × XB)} (h:DR ρ D a):D.length=a.length:=by
 have:=VO List.length h.1
 simpa using this
variable {H I:TypeId}
def Fg {d:Option TypeDesc} (h:MW d=some (H,I)):d=some (.map H I):=by
 unfold MW at h;split at h
 ·cases h; rfl
 ·cases h
def KW {P:Program} {z:XB} (h:JQ P H=some z):(P.info? H).bind (·.zero)=some z/\∀ ρ,VR ρ z z:=by
 unfold JQ at h;obtain ⟨u,h1,h2⟩:=Vq.1 h;obtain ⟨a,rfl⟩:=A9.1 h2;exact ⟨h1,fun ρ=>rl 9 _ a⟩
def Hh {x a:XB} {y:Nat × XA} (b:VR ρ x a) (hk:NL x=some y):a=NZ y:=by
 unfold NL at hk;split at hk
 ·cases hk;cases b with
  | agg hl =>
  cases hl with
  | cons c hl =>
  cases hl with
  | cons d hl =>
  cases hl; cases c; cases d; rfl
 ·cases hk
def Ia {x a:XB} {y:Nat × Nat} (b:VR ρ x a) (hk:OP x=some y):a=Oz y:=by
 unfold OP at hk;split at hk
 ·cases hk;cases b with
  | agg hl =>
  cases hl with
  | cons c hl =>
  cases hl with
  | cons d hl =>
  cases hl; cases c; cases d; rfl
 ·cases hk
def BX {x a:XB} {y:XA} (b:VR ρ x a) (hk:Nl x=some y):a=.string y:=by
 unfold Nl at hk;split at hk
 ·cases hk; cases b; rfl
 ·cases hk
variable {O:Nat}
def D5 {x a:XB} (b:VR ρ x a) (hk:Hs x=some O):∃ k,a=.int k (O:Int):=by
 unfold Hs at hk;split at hk
 ·cases hk; cases b; exact ⟨_,rfl⟩
 ·cases hk
def KH (O:Ok C) (R:Rel C h0 ρ s.σ h) {G:TypeId} {m J x M z:XB} {r:Option XB} (u:C.P.underlying H=some (.map I G)) (w:(C.P.info? G).bind (·.zero)=some z) (A:VR ρ m J) (B:VR ρ x M)
  (hi:LR C I m x s=some r):∃ E,((r=none/\E=none)\/∃ v v',r=some v/\E=some v'/\VR ρ v v') /\
   ∀ (ok:Bool) (K:XB->Hp->Prop),K (Qd ok z E) h->aI C.P (Instr.lookup H J M ok) h K:=by
 unfold LR at hi;cases F:Sn C I with
 | true =>
  rw [F] at hi;simp only at hi;unfold TU at hi;split at hi
  ·rename_i b;obtain ⟨y,d,hi⟩:=Vq.1 hi;obtain ⟨o,g,hi⟩:=Vq.1 hi;have hx':=Hh B d;subst hx';cases A with
   | map i =>
   cases o <;> first | (cases hi; done) | skip
   rename_i D;cases hi;obtain ⟨_,j,l,n⟩:=R.row g i;refine ⟨jY uX y j,?_,fun ok K hk=>?_⟩
   ·rcases vr (q:=uX) y n with ⟨a,c⟩ | ⟨v,v',a,c,p⟩
    ·exact .inl ⟨a,c⟩
    ·exact .inr ⟨v,v',a,c,p⟩
   ·refine uE (O.kt I F) u w l y ok K ?_;rw [kY rh] at hk;cases ok <;> exact hk
  ·cases hi
 | false =>
  rw [F] at hi;simp only at hi;cases f:Sk C I with
  | true =>
   rw [f] at hi;simp only at hi;unfold SE at hi;split at hi
   ·rename_i b;obtain ⟨y,d,hi⟩:=Vq.1 hi;obtain ⟨o,g,hi⟩:=Vq.1 hi;have hx':=Ia B d;subst hx';cases A with
    | map i =>
    cases o <;> first | (cases hi; done) | skip
    rename_i D;cases hi;obtain ⟨_,j,l,n⟩:=R.row g i;refine ⟨jY oV y j,?_,fun ok K hk=>?_⟩
    ·rcases vr (q:=oV) y n with ⟨a,c⟩ | ⟨v,v',a,c,p⟩
     ·exact .inl ⟨a,c⟩
     ·exact .inr ⟨v,v',a,c,p⟩
    ·refine uE (O.ki I f) u w l y ok K ?_;rw [kY oz] at hk;cases ok <;> exact hk
   ·cases hi
  | false =>
  rw [f] at hi;simp only at hi;obtain ⟨h1,hi⟩:=bi.1 hi;unfold SV at hi;split at hi
  ·obtain ⟨y,d,hi⟩:=Vq.1 hi;have hx':=BX B d;subst hx';cases hi;cases A;refine ⟨none,.inl ⟨rfl,rfl⟩,fun ok K hk=>lookup_nil u (tZ h1) w y ok K ?_⟩;cases ok <;> exact hk
  ·rename_i b;obtain ⟨y,d,hi⟩:=Vq.1 hi;obtain ⟨o,g,hi⟩:=Vq.1 hi;have hx':=BX B d;subst hx';cases A with
   | map i =>
   cases o <;> first | (cases hi; done) | skip
   rename_i D;cases hi;obtain ⟨_,j,l,n⟩:=R.row g i;refine ⟨jY nO y j,?_,fun ok K hk=>?_⟩
   ·rcases vr (q:=nO) y n with ⟨a,c⟩ | ⟨v,v',a,c,p⟩
    ·exact .inl ⟨a,c⟩
    ·exact .inr ⟨v,v',a,c,p⟩
   ·refine jj u (tZ h1) w l y ok K ?_;rw [kY kp] at hk;cases ok <;> exact hk
  ·cases hi
def MK (O:Ok C) (R:Rel C h0 ρ s.σ h) {m g x i v:XB} {ok:Bool} (A:VR ρ m g) (B:VR ρ x i) (hc:K2 C H m x ok s=some v) :
  ∃ v',VR ρ v v'/\∀ (kk:XB->T) (L:Lp) (K:XB->Hp->Prop),kk v' L K h->(match C.P.underlying H with
  | some (.map _ a)=>match ok with
   | true=>T.eK C.P (Instr.lookup H g i true) true [cz C.P a,(false,[.bool])] (iV _ fun l=>kk (rv true [cz C.P a,(false,[.bool])] l))
   | false=>T.eK C.P (Instr.lookup H g i false) false [cz C.P a] (iV _ fun l=>kk (rv false [cz C.P a] l))
  | _=>T.fail) L K h:=by
 unfold K2 at hc;obtain ⟨⟨k,a⟩,hd,hc⟩:=Vq.1 hc;obtain ⟨z,D,hc⟩:=Vq.1 hc;obtain ⟨r,E,hc⟩:=Vq.1 hc;obtain ⟨w,hc⟩:=bi.1 hc;cases hc;have hd:=Fg hd;obtain ⟨j,n⟩:=KW D;obtain ⟨f,o,b⟩:=KH O R hd j A B E;have c:VR ρ (r.getD z) (f.getD z)/\r.isSome=f.isSome:=by
  rcases o with ⟨p,u⟩ | ⟨v,v',p,u,F⟩
  ·rw [p,u]; exact ⟨n ρ,rfl⟩
  ·rw [p,u]; exact ⟨F,rfl⟩
 cases ok with
 | true =>
  refine ⟨.tuple ⟨[f.getD z,.bool r.isSome]⟩,.tuple (.cons c.1 (.cons (.bool _) .nil)),fun kk L K hk=>?_⟩;simp only [hd];refine b true _ ?_;obtain ⟨y,d⟩:=uZ (q:=(true,[cz C.P a,(false,[.bool])])) (v:=.tuple ⟨[r.getD z,.bool r.isSome]⟩) (.tuple (.cons c.1 (.cons (.bool _) .nil))) (by
   show (B0 (cz C.P a) (r.getD z) && true)=true;rw [w]; rfl)
  refine ⟨y,?_,?_⟩
  ·rw [<- d,c.2]; rfl
  ·rw [dC]
   have:rv true [cz C.P a,(false,[TypeDesc.bool])] (dS _ y)=_:=d.symm
   rw [this]; exact hk
 | false =>
  refine ⟨f.getD z,c.1,fun kk L K hk=>?_⟩;simp only [hd];refine b false _ ?_;obtain ⟨y,d⟩:=uZ (q:=(false,[cz C.P a])) (v:=r.getD z) c.1 (by
   show (B0 (cz C.P a) (r.getD z) && true)=true;rw [w]; rfl)
  refine ⟨y,d,?_⟩;rw [dC]
  have:rv false [cz C.P a] (dS _ y)=_:=d.symm
  rw [this]; exact hk
def Oq (O:Ok C) (R:Rel C h0 ρ s.σ h) {m c x p v v':XB} (u:VR ρ m c) (n:VR ρ x p) (hv:VR ρ v v') (hc:R7 C H m x v s=some s1) {k:T} (hk:∀ h1,Rel C h0 ρ s1.σ h1->k L K h1) :
  T.ek C.P (Instr.mapUpdate H c p v') k L K h:=by
 unfold R7 at hc;split at hc
 ·rename_i b;obtain ⟨⟨kt,w⟩,hd,hc⟩:=Vq.1 hc;obtain ⟨o,g,hc⟩:=Vq.1 hc;have hd:=Fg hd;cases u with
  | map i =>
  unfold Mn at hc;cases o <;> first | (cases hc; done) | skip
  ·rename_i D;obtain ⟨h1,hc⟩:=bi.1 (show fx _ _=some s1 from hc);obtain ⟨y,j,hc⟩:=Vq.1 hc;obtain ⟨h2,hc⟩:=bi.1 hc;cases hc;have hx':=BX n j;subst hx';obtain ⟨d,a,f,l⟩:=R.row g i;refine fP hd (tZ h1) f (VX h2) v' _ fun h' c c' r=>hk h' ?_
   refine R.put g rfl i d c' ⟨d,_,c,?_⟩
   have:=yj kp (q:=nO) y v' a f.nodup
   rw [kY kp] at this;rw [show Sx.jL a y v'=xZ nO y v' a from this.symm];exact ym _ hv l
  ·rename_i D;obtain ⟨h1,hc⟩:=bi.1 (show fx _ _=some s1 from hc);obtain ⟨y,j,hc⟩:=Vq.1 hc;cases hc;have hx':=Hh n j;subst hx';obtain ⟨d,a,f,l⟩:=R.row g i;refine qV (O.kt kt h1) hd f y v' _ fun h' c c' r=>hk h' ?_
   refine R.put g rfl i d c' ⟨d,_,c,?_⟩
   have:=yj rh (q:=uX) y v' a (om.nodup (O.kt kt h1) f)
   rw [kY rh] at this;rw [show yb a y v'=xZ uX y v' a from this.symm];exact ym _ hv l
  ·rename_i D;obtain ⟨h1,hc⟩:=bi.1 (show fx _ _=some s1 from hc);obtain ⟨y,j,hc⟩:=Vq.1 hc;cases hc;have hx':=Ia n j;subst hx';obtain ⟨d,a,f,l⟩:=R.row g i;refine qV (O.ki kt h1) hd f y v' _ fun h' c c' r=>hk h' ?_
   refine R.put g rfl i d c' ⟨d,_,c,?_⟩
   have:=yj oz (q:=oV) y v' a (om.nodup (O.ki kt h1) f)
   rw [kY oz] at this;rw [show yb a y v'=xZ oV y v' a from this.symm];exact ym _ hv l
 ·cases hc
def I6 (R:Rel C h0 ρ s.σ h) {v:XB} (hc:Gp C H s=some (v,s1)) (P:nr C h0 ρ s1 v kk L K):T.eK C.P (Instr.makeMap H none) false [(false,[.map 0 0])] (fun r=>kk (.map r)) L K h:=by
 unfold Gp at hc;obtain ⟨⟨k,g⟩,i,hc⟩:=Vq.1 hc;simp only at hc;cases d:Sn C k with
 | true =>
  rw [d] at hc;obtain ⟨f,a,hc⟩:=Vq.1 hc;obtain ⟨hn,h2⟩:=iy.1 a;subst h2;cases hc;refine wh (α:=Nat × XA) (kv:=NZ) _ fun h' m e z=>⟨(some h.size,()),rfl,?_⟩
  obtain ⟨b,le⟩:=R.new (pl:=⟨h.size,0,0⟩) (o:=.xW []) hn (VL _) e ⟨R.size,[],m,rfl,.nil⟩;exact P _ _ _ le b (.map (ff _ _ _))
 | false =>
  rw [d] at hc;simp only at hc;cases c:Sk C k with
  | true =>
   rw [c] at hc;obtain ⟨f,a,hc⟩:=Vq.1 hc;obtain ⟨hn,h2⟩:=iy.1 a;subst h2;cases hc;refine wh (α:=Nat × Nat) (kv:=Oz) _ fun h' m e z=>⟨(some h.size,()),rfl,?_⟩
   obtain ⟨b,le⟩:=R.new (pl:=⟨h.size,0,0⟩) (o:=.xV []) hn (VL _) e ⟨R.size,[],m,rfl,.nil⟩;exact P _ _ _ le b (.map (ff _ _ _))
  | false =>
  rw [c] at hc;obtain ⟨h1,hc⟩:=bi.1 hc;obtain ⟨f,a,hc⟩:=Vq.1 hc;obtain ⟨hn,h2⟩:=iy.1 a;subst h2;cases hc;refine lp _ fun h' m e z=>⟨(some h.size,()),rfl,?_⟩
  obtain ⟨b,le⟩:=R.new (pl:=⟨h.size,0,0⟩) (o:=.vW []) hn (VL _) e ⟨R.size,[],m,rfl,.nil⟩;exact P _ _ _ le b (.map (ff _ _ _))
def KJ {z:XB} {sz:Nat} (a:z.cells.size=sz) (c:1<=sz):(List.range (O*sz)).map (z.cells[· % z.cells.size]!)=(List.replicate O z.cells.toList).flatten:=by
 apply WA;intro j;have hl:((List.replicate O z.cells.toList).flatten).length=O*sz:=by simp [a]
 rw [Wa]
 by_cases b:j<O*sz
 ·rw [W0 b];have h1:=mz (sz:=sz) (List.replicate O z.cells.toList) (j / sz) [] (fun x d=>by rw [List.eq_of_mem_replicate d]; simpa using a) (by simpa using Nat.div_lt_of_lt_mul (by rw [Nat.mul_comm]; exact b));rw [Wr] at h1;have h2:=VO (fun l:List XB=>l[j % sz]?) h1;have f:j % sz<sz:=Nat.mod_lt _ c;simp only [List.getElem?_take,List.getElem?_drop,if_pos f,List.getElem_replicate] at h2;rw [show j / sz*sz+j % sz=j from by rw [Nat.mul_comm]; exact Nat.div_add_mod j sz] at h2;rw [h2,a]
  have:j % sz<z.cells.size:=ad
  simp [this]
 ·rw [V5 (by simp; omega),V5 ad] <;> rfl
def Eh (R:Rel C h0 ρ s.σ h) {l l' c c' v:XB} (hl:VR ρ l l') (hc:VR ρ c c') (a:yZ C.P H l c s=some (v,s1)) (P:nr C h0 ρ s1 v kk L K) :
  T.eK C.P (Instr.makeSlice H l' c') false [(false,[.slice 0])] (fun p l c=>kk (.slice p l c)) L K h:=by
 unfold yZ at a;obtain ⟨l0,d,a⟩:=Vq.1 a;obtain ⟨c0,f,a⟩:=Vq.1 a;obtain ⟨w,rfl⟩:=D5 hl d;obtain ⟨x,rfl⟩:=D5 hc f;obtain ⟨q,o,a⟩:=Vq.1 a;obtain ⟨h1,a⟩:=bi.1 a;obtain ⟨y,g,a⟩:=Vq.1 (show (yh s (.row _ q.e 0)).bind _=some (v,s1) from a);obtain ⟨hn,h2⟩:=iy.1 g;subst h2;cases a;obtain ⟨i,z,E⟩:=BP o;simp only [Bool.and_eq_true] at h1;have g1:=VX h1.1.1;have g2:=VX h1.1.2;have g3:=VX h1.2;refine dc ?_;refine oT E.Sf E.tk E.zero g1 (by rw [E.by_]; omega) ad fun h' b k _=>⟨_,_,_,rfl,?_⟩
 have j:dO ρ (List.replicate c0 q.z).flatten (List.replicate c0 q.z).flatten:=by
  have:∀ n,dO ρ (List.replicate n q.z).flatten (List.replicate n q.z).flatten:=by
   intro n
   induction n with
   | zero=>exact .nil
   | succ n r=>simp only [List.replicate_succ,List.flatten_cons]; exact (E.flat ρ).append r
  exact this c0
 rw [E.sz] at b;rw [KJ (by rw [E.zs,E.sz]) E.pos,<- E.zl] at b;obtain ⟨u,le⟩:=R.newRow (rest:=[]) (e:=q.e) (m:=0) (cap:=0) hn j (by rw [Wr]; exact b) k ad;have hv:=VR.sl (ρ:=jL ρ s.nx ⟨h.size,0,0⟩) (c:=c0) (c':=c0) 0 l0 (ff _ _ _) (.inl ⟨by unfold half; omega,rfl⟩) g1;exact P _ _ _ le u (by simpa using hv)
end
end Go.Sx.Cr
