/- Part of the framework. No condition. -/
import Derived.Test.YtmdncdaladplkaaGreatDoorSxJd
set_option linter.all false
set_option maxHeartbeats 4000000
namespace Go.Sx.Cr
def lS (a b:Xaa):pF a b=decide (a=b):=by
 unfold pF
 by_cases h:a=b
 ·subst h; simp
 ·rw [ak9 h];exact beq_eq_false_iff_ne.2 fun e=>h (by
   cases a; cases b
   congr 1
   exact cb9.1 e)
def tu (a b:Nat × Xaa):wY a b=decide (a=b):=by
 unfold wY;rw [lS];obtain ⟨c,f⟩:=a;obtain ⟨d,g⟩:=b
 have:Nat.beq c d=decide (c=d):=by
  by_cases h:c=d
  ·subst h; simp
  ·rw [ak9 h];cases e:Nat.beq c d with
   | false=>rfl
   | true=>exact (h (au9 e)).elim
 simp only [this,Prod.mk.injEq];exact (Bool.decide_and _ _).symm
def RE (a b:Nat):Nat.beq a b=decide (a=b):=by
 by_cases h:a=b
 ·subst h; simp
 ·rw [ak9 h];cases c:Nat.beq a b with
  | false=>rfl
  | true=>exact (h (au9 c)).elim
def qf (a b:Nat × Nat):qL a b=decide (a=b):=by
 unfold qL;obtain ⟨c,d⟩:=a;obtain ⟨e,f⟩:=b;simp only [RE,Prod.mk.injEq];exact (Bool.decide_and _ _).symm
section gen
variable {α:Type} [DecidableEq α] {q:α->α->Bool} {ρ:iv}
theorem mV (c:∀ a b,q a b=decide (a=b)) (s:α):∀ D:List (α × Xab),lj q s D=(D.find? fun p=>decide (s=p.1)).map (·.2)
 | []=>rfl
 | p::D=>by
  unfold lj;rw [c,fd9];cases decide (s=p.1) with
  | true=>rfl
  | false=>exact mV c s D
theorem Ai (d:∀ a b,q a b=decide (a=b)) (s:α) (v:Xab):∀ D:List (α × Xab),(D.map (·.1)).Nodup->zS q s v D=if (lj q s D).isSome then D.map fun p=>if s=p.1 then (p.1,v) else p else D++[(s,v)]
 | [],_=>rfl
 | p::D,hn=>by
  unfold zS lj;rw [d];simp only [List.map_cons,List.nodup_cons] at hn
  by_cases h:s=p.1
  ·rw [aj9 h];simp only [Option.isSome_some,if_true,List.map_cons,h]
   congr 1
   have:∀ x∈D,(if p.1=x.1 then (x.1,v) else x)=x:=fun x c=>by
    rw [ac9];intro e; exact hn.1 (e▸an9.2 ⟨x,c,rfl⟩)
   conv=>lhs; rw [<- List.map_id D]
   exact ck9 fun x c=>(this x c).symm
  ·rw [ak9 h];simp only;rw [Ai d s v D hn.2];split
   ·simp [h]
   ·rfl
theorem xm (s:α):∀ {D a:List (α × Xab)},DR ρ D a->(lj q s D=none/\lj q s a=none)\/∃ v v',lj q s D=some v/\lj q s a=some v'/\VR ρ v v'
 | [],[],_=>.inl ⟨rfl,rfl⟩
 | [],p::D,h=>by simp [DR] at h
 | p::D,[],h=>by simp [DR] at h
 | p::D,p'::a,h=>by
  obtain ⟨h1,h2⟩:=h;simp only [List.map_cons,List.cons.injEq] at h1 h2;cases h2 with
  | cons hv ht =>
  unfold lj;rw [<- h1.1];cases q s p.1 with
  | true=>exact .inr ⟨_,_,rfl,rfl,hv⟩
  | false=>exact xm s ⟨h1.2,ht⟩
theorem Am (s:α) {v v':Xab} (hv:VR ρ v v'):∀ {D D':List (α × Xab)},DR ρ D D'->DR ρ (zS q s v D) (zS q s v' D')
 | [],[],_=>⟨rfl,.cons hv .nil⟩
 | [],p::D,h=>by simp [DR] at h
 | p::D,[],h=>by simp [DR] at h
 | p::D,p'::D',h=>by
  obtain ⟨h1,h2⟩:=h;simp only [List.map_cons,List.cons.injEq] at h1 h2;cases h2 with
  | cons a ht =>
  unfold zS;rw [<- h1.1];cases q s p.1 with
  | true=>exact ⟨by simp [h1.2],.cons hv ht⟩
  | false =>
   obtain ⟨b,c⟩:=Am s hv (D:=D) (D':=D') ⟨h1.2,ht⟩;exact ⟨by simp [h1.1,b],.cons a c⟩
end gen
section
variable {C:Cx} {h0:Hp} {ρ:iv} {s s1:CS} {h:Hp} {e:Ev} {e':Env} {L:Lp} {K:Xab->Hp->Prop} {kk:Xab->T}
def DR.length {α:Type} {D a:List (α × Xab)} (h:DR ρ D a):D.length=a.length:=by
 have:=as9 List.length h.1
 simpa using this
variable {H O:TypeId}
def HY {d:Option TypeDesc} (h:Ra d=some (H,O)):d=some (.map H O):=by
 unfold Ra at h;split at h
 ·cases h; rfl
 ·cases h
def OQ {P:Program} {z:Xab} (h:NB P H=some z):(P.info? H).bind (·.zero)=some z/\∀ ρ,VR ρ z z:=by
 unfold NB at h;obtain ⟨u,h1,h2⟩:=aa9.1 h;obtain ⟨a,rfl⟩:=Dp.1 h2;exact ⟨h1,fun ρ=>tB 9 _ a⟩
def Kg {x a:Xab} {y:Nat × Xaa} (b:VR ρ x a) (hk:R8 x=some y):a=SA y:=by
 unfold R8 at hk;split at hk
 ·cases hk;cases b with
  | agg hl =>
  cases hl with
  | cons c hl =>
  cases hl with
  | cons d hl =>
  cases hl; cases c; cases d; rfl
 ·cases hk
def Lr {x a:Xab} {y:Nat × Nat} (b:VR ρ x a) (hk:TJ x=some y):a=GI y:=by
 unfold TJ at hk;split at hk
 ·cases hk;cases b with
  | agg hl =>
  cases hl with
  | cons c hl =>
  cases hl with
  | cons d hl =>
  cases hl; cases c; cases d; rfl
 ·cases hk
def Em {x a:Xab} {y:Xaa} (b:VR ρ x a) (hk:RB x=some y):a=.string y:=by
 unfold RB at hk;split at hk
 ·cases hk; cases b; rfl
 ·cases hk
variable {U:Nat}
def GU {x a:Xab} (b:VR ρ x a) (hk:Ks x=some U):∃ k,a=.int k (U:Int):=by
 unfold Ks at hk;split at hk
 ·cases hk; cases b; exact ⟨_,rfl⟩
 ·cases hk
def Oz (a:Ok C) (R:Rel C h0 ρ s.σ h) {I:TypeId} {m J x M z:Xab} {r:Option Xab} (w:C.P.underlying H=some (.map O I)) (A:(C.P.info? I).bind (·.zero)=some z) (B:VR ρ m J) (E:VR ρ x M)
  (hi:PN C O m x s=some r):∃ F,((r=none/\F=none)\/∃ v v',r=some v/\F=some v'/\VR ρ v v') /\
   ∀ (ok:Bool) (K:Xab->Hp->Prop),K (Vp ok z F) h->aS C.P (Instr.lookup H J M ok) h K:=by
 unfold PN at hi;cases G:XJ C O with
 | true =>
  rw [G] at hi;simp only at hi;unfold Zo at hi;split at hi
  ·rename_i b;obtain ⟨y,f,hi⟩:=aa9.1 hi;obtain ⟨o,i,hi⟩:=aa9.1 hi;have hx':=Kg E f;subst hx';cases B with
   | map j =>
   cases o <;> first | (cases hi; done) | skip
   rename_i D;cases hi;obtain ⟨_,l,n,p⟩:=R.row i j;refine ⟨lj wY y l,?_,fun ok K hk=>?_⟩
   ·rcases xm (q:=wY) y p with ⟨c,d⟩ | ⟨v,v',c,d,u⟩
    ·exact .inl ⟨c,d⟩
    ·exact .inr ⟨v,v',c,d,u⟩
   ·refine oS (a.kt O G) w A n y ok K ?_;rw [mV tu] at hk;cases ok <;> exact hk
  ·cases hi
 | false =>
  rw [G] at hi;simp only at hi;cases g:XI C O with
  | true =>
   rw [g] at hi;simp only at hi;unfold XX at hi;split at hi
   ·rename_i b;obtain ⟨y,f,hi⟩:=aa9.1 hi;obtain ⟨o,i,hi⟩:=aa9.1 hi;have hx':=Lr E f;subst hx';cases B with
    | map j =>
    cases o <;> first | (cases hi; done) | skip
    rename_i D;cases hi;obtain ⟨_,l,n,p⟩:=R.row i j;refine ⟨lj qL y l,?_,fun ok K hk=>?_⟩
    ·rcases xm (q:=qL) y p with ⟨c,d⟩ | ⟨v,v',c,d,u⟩
     ·exact .inl ⟨c,d⟩
     ·exact .inr ⟨v,v',c,d,u⟩
    ·refine oS (a.ki O g) w A n y ok K ?_;rw [mV qf] at hk;cases ok <;> exact hk
   ·cases hi
  | false =>
  rw [g] at hi;simp only at hi;obtain ⟨h1,hi⟩:=bF.1 hi;unfold Yd at hi;split at hi
  ·obtain ⟨y,f,hi⟩:=aa9.1 hi;have hx':=Em E f;subst hx';cases hi;cases B;refine ⟨none,.inl ⟨rfl,rfl⟩,fun ok K hk=>lookup_nil w (vY h1) A y ok K ?_⟩;cases ok <;> exact hk
  ·rename_i b;obtain ⟨y,f,hi⟩:=aa9.1 hi;obtain ⟨o,i,hi⟩:=aa9.1 hi;have hx':=Em E f;subst hx';cases B with
   | map j =>
   cases o <;> first | (cases hi; done) | skip
   rename_i D;cases hi;obtain ⟨_,l,n,p⟩:=R.row i j;refine ⟨lj pF y l,?_,fun ok K hk=>?_⟩
   ·rcases xm (q:=pF) y p with ⟨c,d⟩ | ⟨v,v',c,d,u⟩
    ·exact .inl ⟨c,d⟩
    ·exact .inr ⟨v,v',c,d,u⟩
   ·refine j6 w (vY h1) A n y ok K ?_;rw [mV lS] at hk;cases ok <;> exact hk
  ·cases hi
def QX (O:Ok C) (R:Rel C h0 ρ s.σ h) {m g x i v:Xab} {ok:Bool} (A:VR ρ m g) (B:VR ρ x i) (hc:OW C H m x ok s=some v) :
  ∃ v',VR ρ v v'/\∀ (kk:Xab->T) (L:Lp) (K:Xab->Hp->Prop),kk v' L K h->(match C.P.underlying H with
  | some (.map _ a)=>match ok with
   | true=>T.eH C.P (Instr.lookup H g i true) true [cM C.P a,(false,[.bool])] (jO _ fun l=>kk (rv true [cM C.P a,(false,[.bool])] l))
   | false=>T.eH C.P (Instr.lookup H g i false) false [cM C.P a] (jO _ fun l=>kk (rv false [cM C.P a] l))
  | _=>T.fail) L K h:=by
 unfold OW at hc;obtain ⟨⟨k,a⟩,hd,hc⟩:=aa9.1 hc;obtain ⟨z,D,hc⟩:=aa9.1 hc;obtain ⟨r,E,hc⟩:=aa9.1 hc;obtain ⟨w,hc⟩:=bF.1 hc;cases hc;have hd:=HY hd;obtain ⟨j,n⟩:=OQ D;obtain ⟨f,o,b⟩:=Oz O R hd j A B E;have c:VR ρ (r.getD z) (f.getD z)/\r.isSome=f.isSome:=by
  rcases o with ⟨p,u⟩ | ⟨v,v',p,u,F⟩
  ·rw [p,u]; exact ⟨n ρ,rfl⟩
  ·rw [p,u]; exact ⟨F,rfl⟩
 cases ok with
 | true =>
  refine ⟨.tuple ⟨[f.getD z,.bool r.isSome]⟩,.tuple (.cons c.1 (.cons (.bool _) .nil)),fun kk L K hk=>?_⟩;simp only [hd];refine b true _ ?_;obtain ⟨y,d⟩:=w7 (q:=(true,[cM C.P a,(false,[.bool])])) (v:=.tuple ⟨[r.getD z,.bool r.isSome]⟩) (.tuple (.cons c.1 (.cons (.bool _) .nil))) (by
   show (Ep (cM C.P a) (r.getD z) && true)=true;rw [w]; rfl)
  refine ⟨y,?_,?_⟩
  ·rw [<- d,c.2]; rfl
  ·rw [dU]
   have:rv true [cM C.P a,(false,[TypeDesc.bool])] (et _ y)=_:=d.symm
   rw [this]; exact hk
 | false =>
  refine ⟨f.getD z,c.1,fun kk L K hk=>?_⟩;simp only [hd];refine b false _ ?_;obtain ⟨y,d⟩:=w7 (q:=(false,[cM C.P a])) (v:=r.getD z) c.1 (by
   show (Ep (cM C.P a) (r.getD z) && true)=true;rw [w]; rfl)
  refine ⟨y,d,?_⟩;rw [dU]
  have:rv false [cM C.P a] (et _ y)=_:=d.symm
  rw [this]; exact hk
def Tc (O:Ok C) (R:Rel C h0 ρ s.σ h) {m c x p v v':Xab} (u:VR ρ m c) (n:VR ρ x p) (hv:VR ρ v v') (hc:Xy C H m x v s=some s1) {k:T} (hk:∀ h1,Rel C h0 ρ s1.σ h1->k L K h1) :
  T.dX C.P (Instr.mapUpdate H c p v') k L K h:=by
 unfold Xy at hc;split at hc
 ·rename_i b;obtain ⟨⟨kt,w⟩,hd,hc⟩:=aa9.1 hc;obtain ⟨o,g,hc⟩:=aa9.1 hc;have hd:=HY hd;cases u with
  | map i =>
  unfold Qp at hc;cases o <;> first | (cases hc; done) | skip
  ·rename_i D;obtain ⟨h1,hc⟩:=bF.1 (show gj _ _=some s1 from hc);obtain ⟨y,j,hc⟩:=aa9.1 hc;obtain ⟨h2,hc⟩:=bF.1 hc;cases hc;have hx':=Em n j;subst hx';obtain ⟨d,a,f,l⟩:=R.row g i;refine gV hd (vY h1) f (bk9 h2) v' _ fun h' c c' r=>hk h' ?_
   refine R.put g rfl i d c' ⟨d,_,c,?_⟩
   have:=Ai lS (q:=pF) y v' a f.nodup
   rw [mV lS] at this;rw [show Sx.kO a y v'=zS pF y v' a from this.symm];exact Am _ hv l
  ·rename_i D;obtain ⟨h1,hc⟩:=bF.1 (show gj _ _=some s1 from hc);obtain ⟨y,j,hc⟩:=aa9.1 hc;cases hc;have hx':=Kg n j;subst hx';obtain ⟨d,a,f,l⟩:=R.row g i;refine tf (O.kt kt h1) hd f y v' _ fun h' c c' r=>hk h' ?_
   refine R.put g rfl i d c' ⟨d,_,c,?_⟩
   have:=Ai tu (q:=wY) y v' a (pX.nodup (O.kt kt h1) f)
   rw [mV tu] at this;rw [show zZ a y v'=zS wY y v' a from this.symm];exact Am _ hv l
  ·rename_i D;obtain ⟨h1,hc⟩:=bF.1 (show gj _ _=some s1 from hc);obtain ⟨y,j,hc⟩:=aa9.1 hc;cases hc;have hx':=Lr n j;subst hx';obtain ⟨d,a,f,l⟩:=R.row g i;refine tf (O.ki kt h1) hd f y v' _ fun h' c c' r=>hk h' ?_
   refine R.put g rfl i d c' ⟨d,_,c,?_⟩
   have:=Ai qf (q:=qL) y v' a (pX.nodup (O.ki kt h1) f)
   rw [mV qf] at this;rw [show zZ a y v'=zS qL y v' a from this.symm];exact Am _ hv l
 ·cases hc
def MI (R:Rel C h0 ρ s.σ h) {v:Xab} (hc:Jm C H s=some (v,s1)) (P:oV C h0 ρ s1 v kk L K):T.eH C.P (Instr.makeMap H none) false [(false,[.map 0 0])] (fun r=>kk (.map r)) L K h:=by
 unfold Jm at hc;obtain ⟨⟨k,g⟩,i,hc⟩:=aa9.1 hc;simp only at hc;cases d:XJ C k with
 | true =>
  rw [d] at hc;obtain ⟨f,a,hc⟩:=aa9.1 hc;obtain ⟨hn,h2⟩:=jw.1 a;subst h2;cases hc;refine xV (α:=Nat × Xaa) (kv:=SA) _ fun h' m e z=>⟨(some h.size,()),rfl,?_⟩
  obtain ⟨b,le⟩:=R.new (pl:=⟨h.size,0,0⟩) (o:=.zN []) hn (aq9 _) e ⟨R.size,[],m,rfl,.nil⟩;exact P _ _ _ le b (.map (fN _ _ _))
 | false =>
  rw [d] at hc;simp only at hc;cases c:XI C k with
  | true =>
   rw [c] at hc;obtain ⟨f,a,hc⟩:=aa9.1 hc;obtain ⟨hn,h2⟩:=jw.1 a;subst h2;cases hc;refine xV (α:=Nat × Nat) (kv:=GI) _ fun h' m e z=>⟨(some h.size,()),rfl,?_⟩
   obtain ⟨b,le⟩:=R.new (pl:=⟨h.size,0,0⟩) (o:=.zM []) hn (aq9 _) e ⟨R.size,[],m,rfl,.nil⟩;exact P _ _ _ le b (.map (fN _ _ _))
  | false =>
  rw [c] at hc;obtain ⟨h1,hc⟩:=bF.1 hc;obtain ⟨f,a,hc⟩:=aa9.1 hc;obtain ⟨hn,h2⟩:=jw.1 a;subst h2;cases hc;refine nj _ fun h' m e z=>⟨(some h.size,()),rfl,?_⟩
  obtain ⟨b,le⟩:=R.new (pl:=⟨h.size,0,0⟩) (o:=.xK []) hn (aq9 _) e ⟨R.size,[],m,rfl,.nil⟩;exact P _ _ _ le b (.map (fN _ _ _))
def OB {z:Xab} {sz:Nat} (a:z.cells.size=sz) (c:1<=sz):(List.range (U*sz)).map (z.cells[· % z.cells.size]!)=(List.replicate U z.cells.toList).flatten:=by
 apply df9;intro j;have hl:((List.replicate U z.cells.toList).flatten).length=U*sz:=by simp [a]
 rw [ci9]
 by_cases b:j<U*sz
 ·rw [dl9 b];have h1:=nZ (sz:=sz) (List.replicate U z.cells.toList) (j / sz) [] (fun x d=>by rw [List.eq_of_mem_replicate d]; simpa using a) (by simpa using Nat.div_lt_of_lt_mul (by rw [fm9]; exact b));rw [bz9] at h1;have h2:=as9 (fun l:List Xab=>l[j % sz]?) h1;have f:j % sz<sz:=ft9 _ c;simp only [List.getElem?_take,List.getElem?_drop,if_pos f,List.getElem_replicate] at h2;rw [show j / sz*sz+j % sz=j from by rw [fm9]; exact Nat.div_add_mod j sz] at h2;rw [h2,a]
  have:j % sz<z.cells.size:=ad
  simp [this]
 ·rw [bs9 (by simp; omega),bs9 ad] <;> rfl
def G6 (R:Rel C h0 ρ s.σ h) {l l' c c' v:Xab} (hl:VR ρ l l') (hc:VR ρ c c') (a:A3 C.P H l c s=some (v,s1)) (P:oV C h0 ρ s1 v kk L K) :
  T.eH C.P (Instr.makeSlice H l' c') false [(false,[.slice 0])] (fun p l c=>kk (.slice p l c)) L K h:=by
 unfold A3 at a;obtain ⟨l0,d,a⟩:=aa9.1 a;obtain ⟨c0,f,a⟩:=aa9.1 a;obtain ⟨w,rfl⟩:=GU hl d;obtain ⟨x,rfl⟩:=GU hc f;obtain ⟨q,o,a⟩:=aa9.1 a;obtain ⟨h1,a⟩:=bF.1 a;obtain ⟨y,g,a⟩:=aa9.1 (show (Af s (.row _ q.e 0)).bind _=some (v,s1) from a);obtain ⟨hn,h2⟩:=jw.1 g;subst h2;cases a;obtain ⟨i,z,E⟩:=Ee o;simp only [Bool.and_eq_true] at h1;have g1:=bk9 h1.1.1;have g2:=bk9 h1.1.2;have g3:=bk9 h1.2;refine dA ?_;refine qH E.XE E.vc E.zero g1 (by rw [E.by_]; omega) ad fun h' b k _=>⟨_,_,_,rfl,?_⟩
 have j:eu ρ (List.replicate c0 q.z).flatten (List.replicate c0 q.z).flatten:=by
  have:∀ n,eu ρ (List.replicate n q.z).flatten (List.replicate n q.z).flatten:=by
   intro n
   induction n with
   | zero=>exact .nil
   | succ n r=>simp only [List.replicate_succ,List.flatten_cons]; exact (E.flat ρ).append r
  exact this c0
 rw [E.sz] at b;rw [OB (by rw [E.zs,E.sz]) E.pos,<- E.zl] at b;obtain ⟨u,le⟩:=R.newRow (rest:=[]) (e:=q.e) (m:=0) (cap:=0) hn j (by rw [bz9]; exact b) k ad;have hv:=VR.sl (ρ:=kO ρ s.nx ⟨h.size,0,0⟩) (c:=c0) (c':=c0) 0 l0 (fN _ _ _) (.inl ⟨by unfold half; omega,rfl⟩) g1;exact P _ _ _ le u (by simpa using hv)
end
end Go.Sx.Cr
