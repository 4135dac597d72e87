/- Part of the framework. No condition. -/
import Derived.Test.YtmdncdaladplkaaGreatDoorSxJd
set_option linter.all false
set_option maxHeartbeats 4000000
namespace Go.Sx.Cr
def mH (a b:Xaa):qh a b=decide (a=b):=by
 unfold qh
 by_cases h:a=b
 ·subst h; simp
 ·rw [al9 h];exact beq_eq_false_iff_ne.2 λe=>h (by
   cases a; cases b
   congr 1
   exact ca9.1 e)
def tZ (a b:Nat × Xaa):xA a b=decide (a=b):=by
 unfold xA;rw [mH];obtain ⟨c,f⟩:=a;obtain ⟨d,g⟩:=b
 have:Nat.beq c d=decide (c=d):=by
  by_cases h:c=d
  ·subst h; simp
  ·rw [al9 h];cases e:Nat.beq c d with
   | false=>rfl
   | true=>exact (h (av9 e)).elim
 simp only [this,Prod.mk.injEq];exact (Bool.decide_and _ _).symm
def Sy (a b:Nat):Nat.beq a b=decide (a=b):=by
 by_cases h:a=b
 ·subst h; simp
 ·rw [al9 h];cases c:Nat.beq a b with
  | false=>rfl
  | true=>exact (h (av9 c)).elim
def qM (a b:Nat × Nat):rp a b=decide (a=b):=by
 unfold rp;obtain ⟨c,d⟩:=a;obtain ⟨e,f⟩:=b;simp only [Sy,Prod.mk.injEq];exact (Bool.decide_and _ _).symm
section gen
variable {α:Type} [DecidableEq α] {q:α->α->Bool} {ρ:iG}
theorem nI (c:∀ a b,q a b=decide (a=b)) (s:α):∀ D:List (α × Xab),lU q s D=(D.find? λp=>decide (s=p.1)).map (·.2)
 | []=>rfl
 | p::D=>by
  unfold lU;rw [c,fj9];cases decide (s=p.1) with
  | true=>rfl
  | false=>exact nI c s D
theorem Aw (d:∀ a b,q a b=decide (a=b)) (s:α) (v:Xab):∀ D:List (α × Xab),(D.map (·.1)).Nodup->Ag q s v D=if (lU q s D).isSome then D.map λp=>if s=p.1 then (p.1,v) else p else D++[(s,v)]
 | [],_=>rfl
 | p::D,hn=>by
  unfold Ag lU;rw [d];simp only [List.map_cons,List.nodup_cons] at hn
  by_cases h:s=p.1
  ·rw [ak9 h];simp only [Option.isSome_some,if_true,List.map_cons,h]
   congr 1
   have:∀ x∈D,(if p.1=x.1 then (x.1,v) else x)=x:=λx c=>by
    rw [ac9];intro e; exact hn.1 (e▸ap9.2 ⟨x,c,rfl⟩)
   conv=>lhs; rw [<- List.map_id D]
   exact cm9 λx c=>(this x c).symm
  ·rw [al9 h];simp only;rw [Aw d s v D hn.2];split
   ·simp [h]
   ·rfl
theorem xO (s:α):∀ {D a:List (α × Xab)},DR ρ D a->(lU q s D=none/\lU q s a=none)\/∃ v v',lU q s D=some v/\lU q s a=some v'/\VR ρ v v'
 | [],[],_=>.inl ⟨rfl,rfl⟩
 | [],p::D,h=>by simp [DR] at h
 | p::D,[],h=>by simp [DR] at h
 | p::D,p'::a,h=>by
  obtain ⟨h1,h2⟩:=h;simp only [List.map_cons,List.cons.injEq] at h1 h2;cases h2 with
  | cons hv ht =>
  unfold lU;rw [<- h1.1];cases q s p.1 with
  | true=>exact .inr ⟨_,_,rfl,rfl,hv⟩
  | false=>exact xO s ⟨h1.2,ht⟩
theorem AA (s:α) {v v':Xab} (hv:VR ρ v v'):∀ {D D':List (α × Xab)},DR ρ D D'->DR ρ (Ag q s v D) (Ag q s v' D')
 | [],[],_=>⟨rfl,.cons hv .nil⟩
 | [],p::D,h=>by simp [DR] at h
 | p::D,[],h=>by simp [DR] at h
 | p::D,p'::D',h=>by
  obtain ⟨h1,h2⟩:=h;simp only [List.map_cons,List.cons.injEq] at h1 h2;cases h2 with
  | cons a ht =>
  unfold Ag;rw [<- h1.1];cases q s p.1 with
  | true=>exact ⟨by simp [h1.2],.cons hv ht⟩
  | false =>
   obtain ⟨b,c⟩:=AA s hv (D:=D) (D':=D') ⟨h1.2,ht⟩;exact ⟨by simp [h1.1,b],.cons a c⟩
end gen
section
variable {C:Cx} {h0:Hp} {ρ:iG} {s s1:CS} {h:Hp} {e:Ev} {e':Env} {L:Lp} {K:Xab->Hp->Prop} {kk:Xab->T}
def DR.length {α:Type} {D a:List (α × Xab)} (h:DR ρ D a):D.length=a.length:=by
 have:=as9 List.length h.1
 simpa using this
variable {H O:TypeId}
def Iz {d:Option TypeDesc} (h:RV d=some (H,O)):d=some (.map H O):=by
 unfold RV at h;split at h
 ·cases h; rfl
 ·cases h
def Pz {P:Program} {z:Xab} (h:Oh P H=some z):(P.info? H).bind (·.zero)=some z/\∀ ρ,VR ρ z z:=by
 unfold Oh at h;obtain ⟨u,h1,h2⟩:=aa9.1 h;obtain ⟨a,rfl⟩:=DO.1 h2;exact ⟨h1,λρ=>uf 9 _ a⟩
def KV {x a:Xab} {y:Nat × Xaa} (b:VR ρ x a) (hk:S6 x=some y):a=Tr y:=by
 unfold S6 at hk;split at hk
 ·cases hk;cases b with
  | agg hl =>
  cases hl with
  | cons c hl =>
  cases hl with
  | cons d hl =>
  cases hl; cases c; cases d; rfl
 ·cases hk
def Mf {x a:Xab} {y:Nat × Nat} (b:VR ρ x a) (hk:Ux x=some y):a=Hf y:=by
 unfold Ux at hk;split at hk
 ·cases hk;cases b with
  | agg hl =>
  cases hl with
  | cons c hl =>
  cases hl with
  | cons d hl =>
  cases hl; cases c; cases d; rfl
 ·cases hk
def EM {x a:Xab} {y:Xaa} (b:VR ρ x a) (hk:Ss x=some y):a=.string y:=by
 unfold Ss at hk;split at hk
 ·cases hk; cases b; rfl
 ·cases hk
variable {U:Nat}
def Ht {x a:Xab} (b:VR ρ x a) (hk:K7 x=some U):∃ k,a=.int k (U:Int):=by
 unfold K7 at hk;split at hk
 ·cases hk; cases b; exact ⟨_,rfl⟩
 ·cases hk
def Pd (a:Ok C) (R:Rel C h0 ρ s.σ h) {I:TypeId} {m J x M z:Xab} {r:Option Xab} (w:C.P.underlying H=some (.map O I)) (A:(C.P.info? I).bind (·.zero)=some z) (B:VR ρ m J) (E:VR ρ x M)
  (hi:Qx C O m x s=some r):∃ F,((r=none/\F=none)\/∃ v v',r=some v/\F=some v'/\VR ρ v v') /\
   ∀ (ok:Bool) (K:Xab->Hp->Prop),K (Wg ok z F) h->aQ C.P (Instr.lookup H J M ok) h K:=by
 unfold Qx at hi;cases G:YB C O with
 | true =>
  rw [G] at hi;simp only at hi;unfold aac at hi;split at hi
  ·rename_i b;obtain ⟨y,f,hi⟩:=aa9.1 hi;obtain ⟨o,i,hi⟩:=aa9.1 hi;have hx':=KV E f;subst hx';cases B with
   | map j =>
   cases o <;> first | (cases hi; done) | skip
   rename_i D;cases hi;obtain ⟨_,l,n,p⟩:=R.row i j;refine ⟨lU xA y l,?_,λok K hk=>?_⟩
   ·rcases xO (q:=xA) y p with ⟨c,d⟩ | ⟨v,v',c,d,u⟩
    ·exact .inl ⟨c,d⟩
    ·exact .inr ⟨v,v',c,d,u⟩
   ·refine sY (a.kt O G) w A n y ok K ?_;rw [nI tZ] at hk;cases ok <;> exact hk
  ·cases hi
 | false =>
  rw [G] at hi;simp only at hi;cases g:Yz C O with
  | true =>
   rw [g] at hi;simp only at hi;unfold YP at hi;split at hi
   ·rename_i b;obtain ⟨y,f,hi⟩:=aa9.1 hi;obtain ⟨o,i,hi⟩:=aa9.1 hi;have hx':=Mf E f;subst hx';cases B with
    | map j =>
    cases o <;> first | (cases hi; done) | skip
    rename_i D;cases hi;obtain ⟨_,l,n,p⟩:=R.row i j;refine ⟨lU rp y l,?_,λok K hk=>?_⟩
    ·rcases xO (q:=rp) y p with ⟨c,d⟩ | ⟨v,v',c,d,u⟩
     ·exact .inl ⟨c,d⟩
     ·exact .inr ⟨v,v',c,d,u⟩
    ·refine sY (a.ki O g) w A n y ok K ?_;rw [nI qM] at hk;cases ok <;> exact hk
   ·cases hi
  | false =>
  rw [g] at hi;simp only at hi;obtain ⟨h1,hi⟩:=bt.1 hi;unfold Y4 at hi;split at hi
  ·obtain ⟨y,f,hi⟩:=aa9.1 hi;have hx':=EM E f;subst hx';cases hi;cases B;refine ⟨none,.inl ⟨rfl,rfl⟩,λok K hk=>lookup_nil w (wN h1) A y ok K ?_⟩;cases ok <;> exact hk
  ·rename_i b;obtain ⟨y,f,hi⟩:=aa9.1 hi;obtain ⟨o,i,hi⟩:=aa9.1 hi;have hx':=EM E f;subst hx';cases B with
   | map j =>
   cases o <;> first | (cases hi; done) | skip
   rename_i D;cases hi;obtain ⟨_,l,n,p⟩:=R.row i j;refine ⟨lU qh y l,?_,λok K hk=>?_⟩
   ·rcases xO (q:=qh) y p with ⟨c,d⟩ | ⟨v,v',c,d,u⟩
    ·exact .inl ⟨c,d⟩
    ·exact .inr ⟨v,v',c,d,u⟩
   ·refine kD w (wN h1) A n y ok K ?_;rw [nI mH] at hk;cases ok <;> exact hk
  ·cases hi
def RH (O:Ok C) (R:Rel C h0 ρ s.σ h) {m g x i v:Xab} {ok:Bool} (A:VR ρ m g) (B:VR ρ x i) (hc:PG C H m x ok s=some v) :
  ∃ v',VR ρ v v'/\∀ (kk:Xab->T) (L:Lp) (K:Xab->Hp->Prop),kk v' L K h->(match C.P.underlying H with
  | some (.map _ a)=>match ok with
   | true=>T.dP C.P (Instr.lookup H g i true) true [cM C.P a,(false,[.bool])] (j7 _ λl=>kk (rv true [cM C.P a,(false,[.bool])] l))
   | false=>T.dP C.P (Instr.lookup H g i false) false [cM C.P a] (j7 _ λl=>kk (rv false [cM C.P a] l))
  | _=>T.fail) L K h:=by
 unfold PG at hc;obtain ⟨⟨k,a⟩,hd,hc⟩:=aa9.1 hc;obtain ⟨z,D,hc⟩:=aa9.1 hc;obtain ⟨r,E,hc⟩:=aa9.1 hc;obtain ⟨w,hc⟩:=bt.1 hc;cases hc;have hd:=Iz hd;obtain ⟨j,n⟩:=Pz D;obtain ⟨f,o,b⟩:=Pd O R hd j A B E;have c:VR ρ (r.getD z) (f.getD z)/\r.isSome=f.isSome:=by
  rcases o with ⟨p,u⟩ | ⟨v,v',p,u,F⟩
  ·rw [p,u]; exact ⟨n ρ,rfl⟩
  ·rw [p,u]; exact ⟨F,rfl⟩
 cases ok with
 | true =>
  refine ⟨.tuple ⟨[f.getD z,.bool r.isSome]⟩,.tuple (.cons c.1 (.cons (.bool _) .nil)),λkk L K hk=>?_⟩;simp only [hd];refine b true _ ?_;obtain ⟨y,d⟩:=xC (q:=(true,[cM C.P a,(false,[.bool])])) (v:=.tuple ⟨[r.getD z,.bool r.isSome]⟩) (.tuple (.cons c.1 (.cons (.bool _) .nil))) (by
   show (EP (cM C.P a) (r.getD z) && true)=true;rw [w]; rfl)
  refine ⟨y,?_,?_⟩
  ·rw [<- d,c.2]; rfl
  ·rw [dX]
   have:rv true [cM C.P a,(false,[TypeDesc.bool])] (et _ y)=_:=d.symm
   rw [this]; exact hk
 | false =>
  refine ⟨f.getD z,c.1,λkk L K hk=>?_⟩;simp only [hd];refine b false _ ?_;obtain ⟨y,d⟩:=xC (q:=(false,[cM C.P a])) (v:=r.getD z) c.1 (by
   show (EP (cM C.P a) (r.getD z) && true)=true;rw [w]; rfl)
  refine ⟨y,d,?_⟩;rw [dX]
  have:rv false [cM C.P a] (et _ y)=_:=d.symm
  rw [this]; exact hk
def T2 (O:Ok C) (R:Rel C h0 ρ s.σ h) {m c x p v v':Xab} (u:VR ρ m c) (n:VR ρ x p) (hv:VR ρ v v') (hc:Yn C H m x v s=some s1) {k:T} (hk:∀ h1,Rel C h0 ρ s1.σ h1->k L K h1) :
  T.fI C.P (Instr.mapUpdate H c p v') k L K h:=by
 unfold Yn at hc;split at hc
 ·rename_i b;obtain ⟨⟨kt,w⟩,hd,hc⟩:=aa9.1 hc;obtain ⟨o,g,hc⟩:=aa9.1 hc;have hd:=Iz hd;cases u with
  | map i =>
  unfold Rf at hc;cases o <;> first | (cases hc; done) | skip
  ·rename_i D;obtain ⟨h1,hc⟩:=bt.1 (show gF _ _=some s1 from hc);obtain ⟨y,j,hc⟩:=aa9.1 hc;obtain ⟨h2,hc⟩:=bt.1 hc;cases hc;have hx':=EM n j;subst hx';obtain ⟨d,a,f,l⟩:=R.row g i;refine ic hd (wN h1) f (bk9 h2) v' _ λh' c c' r=>hk h' ?_
   refine R.put g rfl i d c' ⟨d,_,c,?_⟩
   have:=Aw mH (q:=qh) y v' a f.nodup
   rw [nI mH] at this;rw [show Sx.lG a y v'=Ag qh y v' a from this.symm];exact AA _ hv l
  ·rename_i D;obtain ⟨h1,hc⟩:=bt.1 (show gF _ _=some s1 from hc);obtain ⟨y,j,hc⟩:=aa9.1 hc;cases hc;have hx':=KV n j;subst hx';obtain ⟨d,a,f,l⟩:=R.row g i;refine tR (O.kt kt h1) hd f y v' _ λh' c c' r=>hk h' ?_
   refine R.put g rfl i d c' ⟨d,_,c,?_⟩
   have:=Aw tZ (q:=xA) y v' a (qD.nodup (O.kt kt h1) f)
   rw [nI tZ] at this;rw [show Am a y v'=Ag xA y v' a from this.symm];exact AA _ hv l
  ·rename_i D;obtain ⟨h1,hc⟩:=bt.1 (show gF _ _=some s1 from hc);obtain ⟨y,j,hc⟩:=aa9.1 hc;cases hc;have hx':=Mf n j;subst hx';obtain ⟨d,a,f,l⟩:=R.row g i;refine tR (O.ki kt h1) hd f y v' _ λh' c c' r=>hk h' ?_
   refine R.put g rfl i d c' ⟨d,_,c,?_⟩
   have:=Aw qM (q:=rp) y v' a (qD.nodup (O.ki kt h1) f)
   rw [nI qM] at this;rw [show Am a y v'=Ag rp y v' a from this.symm];exact AA _ hv l
 ·cases hc
def Nu (R:Rel C h0 ρ s.σ h) {v:Xab} (hc:JX C H s=some (v,s1)) (P:pJ C h0 ρ s1 v kk L K):T.dP C.P (Instr.makeMap H none) false [(false,[.map 0 0])] (λr=>kk (.map r)) L K h:=by
 unfold JX at hc;obtain ⟨⟨k,g⟩,i,hc⟩:=aa9.1 hc;simp only at hc;cases d:YB C k with
 | true =>
  rw [d] at hc;obtain ⟨f,a,hc⟩:=aa9.1 hc;obtain ⟨hn,h2⟩:=jK.1 a;subst h2;cases hc;refine yq (α:=Nat × Xaa) (kv:=Tr) _ λh' m e z=>⟨(some h.size,()),rfl,?_⟩
  obtain ⟨b,le⟩:=R.new (pl:=⟨h.size,0,0⟩) (o:=.Ac []) hn (am9 _) e ⟨R.size,[],m,rfl,.nil⟩;exact P _ _ _ le b (.map (fW _ _ _))
 | false =>
  rw [d] at hc;simp only at hc;cases c:Yz C k with
  | true =>
   rw [c] at hc;obtain ⟨f,a,hc⟩:=aa9.1 hc;obtain ⟨hn,h2⟩:=jK.1 a;subst h2;cases hc;refine yq (α:=Nat × Nat) (kv:=Hf) _ λh' m e z=>⟨(some h.size,()),rfl,?_⟩
   obtain ⟨b,le⟩:=R.new (pl:=⟨h.size,0,0⟩) (o:=.Ab []) hn (am9 _) e ⟨R.size,[],m,rfl,.nil⟩;exact P _ _ _ le b (.map (fW _ _ _))
  | false =>
  rw [c] at hc;obtain ⟨h1,hc⟩:=bt.1 hc;obtain ⟨f,a,hc⟩:=aa9.1 hc;obtain ⟨hn,h2⟩:=jK.1 a;subst h2;cases hc;refine nP _ λh' m e z=>⟨(some h.size,()),rfl,?_⟩
  obtain ⟨b,le⟩:=R.new (pl:=⟨h.size,0,0⟩) (o:=.yh []) hn (am9 _) e ⟨R.size,[],m,rfl,.nil⟩;exact P _ _ _ le b (.map (fW _ _ _))
def Pf {z:Xab} {sz:Nat} (a:z.cells.size=sz) (c:1<=sz):(List.range (U*sz)).map (z.cells[· % z.cells.size]!)=(List.replicate U z.cells.toList).flatten:=by
 apply dh9;intro j;have hl:((List.replicate U z.cells.toList).flatten).length=U*sz:=by simp [a]
 rw [cl9]
 by_cases b:j<U*sz
 ·rw [dp9 b];have h1:=oI (sz:=sz) (List.replicate U z.cells.toList) (j / sz) [] (λx d=>by rw [List.eq_of_mem_replicate d]; simpa using a) (by simpa using Nat.div_lt_of_lt_mul (by rw [fv9]; exact b));rw [cb9] at h1;have h2:=as9 (λl:List Xab=>l[j % sz]?) h1;have f:j % sz<sz:=fz9 _ c;simp only [List.getElem?_take,List.getElem?_drop,if_pos f,List.getElem_replicate] at h2;rw [show j / sz*sz+j % sz=j from by rw [fv9]; exact Nat.div_add_mod j sz] at h2;rw [h2,a]
  have:j % sz<z.cells.size:=ad
  simp [this]
 ·rw [bv9 (by simp; omega),bv9 ad] <;> rfl
def HG (R:Rel C h0 ρ s.σ h) {l l' c c' v:Xab} (hl:VR ρ l l') (hc:VR ρ c c') (a:Bi C.P H l c s=some (v,s1)) (P:pJ C h0 ρ s1 v kk L K) :
  T.dP C.P (Instr.makeSlice H l' c') false [(false,[.slice 0])] (λp l c=>kk (.slice p l c)) L K h:=by
 unfold Bi at a;obtain ⟨l0,d,a⟩:=aa9.1 a;obtain ⟨c0,f,a⟩:=aa9.1 a;obtain ⟨w,rfl⟩:=Ht hl d;obtain ⟨x,rfl⟩:=Ht hc f;obtain ⟨q,o,a⟩:=aa9.1 a;obtain ⟨h1,a⟩:=bt.1 a;obtain ⟨y,g,a⟩:=aa9.1 (show (Ar s (.row _ q.e 0)).bind _=some (v,s1) from a);obtain ⟨hn,h2⟩:=jK.1 g;subst h2;cases a;obtain ⟨i,z,E⟩:=EG o;simp only [Bool.and_eq_true] at h1;have g1:=bk9 h1.1.1;have g2:=bk9 h1.1.2;have g3:=bk9 h1.2;refine dt ?_;refine rl E.Yv E.vW E.zero g1 (by rw [E.by_]; omega) ad λh' b k _=>⟨_,_,_,rfl,?_⟩
 have j:eA ρ (List.replicate c0 q.z).flatten (List.replicate c0 q.z).flatten:=by
  have:∀ n,eA ρ (List.replicate n q.z).flatten (List.replicate n q.z).flatten:=by
   intro n
   induction n with
   | zero=>exact .nil
   | succ n r=>simp only [List.replicate_succ,List.flatten_cons]; exact (E.flat ρ).append r
  exact this c0
 rw [E.sz] at b;rw [Pf (by rw [E.zs,E.sz]) E.pos,<- E.zl] at b;obtain ⟨u,le⟩:=R.newRow (rest:=[]) (e:=q.e) (m:=0) (cap:=0) hn j (by rw [cb9]; exact b) k ad;have hv:=VR.sl (ρ:=lG ρ s.nx ⟨h.size,0,0⟩) (c:=c0) (c':=c0) 0 l0 (fW _ _ _) (.inl ⟨by unfold half; omega,rfl⟩) g1;exact P _ _ _ le u (by simpa using hv)
end
end Go.Sx.Cr
