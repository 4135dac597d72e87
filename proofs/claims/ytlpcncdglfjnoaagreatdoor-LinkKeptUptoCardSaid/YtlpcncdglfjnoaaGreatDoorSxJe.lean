/- Part of the framework. No condition. -/
import Derived.Test.YtlpcncdglfjnoaaGreatDoorSxJd
set_option linter.all false
set_option maxHeartbeats 4000000
namespace Go.Sx.Cr
def me (a b:Xaa):qb a b=decide (a=b):=by
 unfold qb
 by_cases h:a=b
 ·subst h; simp
 ·rw [Y6 h];exact beq_eq_false_iff_ne.2 fun e=>h (by
   cases a; cases b
   congr 1
   exact ZM.1 e)
def tS (a b:Nat × Xaa):xj a b=decide (a=b):=by
 unfold xj;rw [me];obtain ⟨c,e⟩:=a;obtain ⟨b1,b2⟩:=b
 have:Nat.beq c b1=decide (c=b1):=by
  by_cases h:c=b1
  ·subst h; simp
  ·rw [Y6 h];cases d:Nat.beq c b1 with
   | false=>rfl
   | true=>exact (h (Zd d)).elim
 simp only [this,Prod.mk.injEq];exact (Bool.decide_and _ _).symm
def Qb (a b:Nat):Nat.beq a b=decide (a=b):=by
 by_cases h:a=b
 ·subst h; simp
 ·rw [Y6 h];cases c:Nat.beq a b with
  | false=>rfl
  | true=>exact (h (Zd c)).elim
def qC (a b:Nat × Nat):rb a b=decide (a=b):=by
 unfold rb;obtain ⟨c,d⟩:=a;obtain ⟨b1,b2⟩:=b;simp only [Qb,Prod.mk.injEq];exact (Bool.decide_and _ _).symm
section gen
variable {α:Type} [DecidableEq α] {q:α->α->Bool} {ρ:ix}
theorem np (c:∀ a b,q a b=decide (a=b)) (s:α):∀ D:List (α × Xab),lu q s D=(D.find? fun p=>decide (s=p.1)).map (·.2)
 | []=>rfl
 | p::D=>by
  unfold lu;rw [c,ch9];cases decide (s=p.1) with
  | true=>rfl
  | false=>exact np c s D
theorem Ag (d:∀ a b,q a b=decide (a=b)) (s:α) (v:Xab):∀ D:List (α × Xab),(D.map (·.1)).Nodup->zN q s v D=if (lu q s D).isSome then D.map fun p=>if s=p.1 then (p.1,v) else p else D++[(s,v)]
 | [],_=>rfl
 | p::D,hn=>by
  unfold zN lu;rw [d];simp only [List.map_cons,List.nodup_cons] at hn
  by_cases h:s=p.1
  ·rw [Y4 h];simp only [Option.isSome_some,if_true,List.map_cons,h]
   congr 1
   have:∀ x∈D,(if p.1=x.1 then (x.1,v) else x)=x:=fun x c=>by
    rw [Y1];intro e; exact hn.1 (e▸Y9.2 ⟨x,c,rfl⟩)
   conv=>lhs; rw [<- List.map_id D]
   exact ZR fun x c=>(this x c).symm
  ·rw [Y6 h];simp only;rw [Ag d s v D hn.2];split
   ·simp [h]
   ·rfl
theorem xA (s:α):∀ {D a:List (α × Xab)},DR ρ D a->(lu q s D=none/\lu q s a=none)\/∃ v v',lu q s D=some v/\lu q s a=some v'/\VR ρ v v'
 | [],[],_=>.inl ⟨rfl,rfl⟩
 | [],p::D,h=>by simp [DR] at h
 | p::D,[],h=>by simp [DR] at h
 | p::D,p'::a,h=>by
  obtain ⟨h1,h2⟩:=h;simp only [List.map_cons,List.cons.injEq] at h1 h2;cases h2 with
  | cons hv b =>
  unfold lu;rw [<- h1.1];cases q s p.1 with
  | true=>exact .inr ⟨_,_,rfl,rfl,hv⟩
  | false=>exact xA s ⟨h1.2,b⟩
theorem Aj (s:α) {v v':Xab} (hv:VR ρ v v'):∀ {D D':List (α × Xab)},DR ρ D D'->DR ρ (zN q s v D) (zN q s v' D')
 | [],[],_=>⟨rfl,.cons hv .nil⟩
 | [],p::D,h=>by simp [DR] at h
 | p::D,[],h=>by simp [DR] at h
 | p::D,p'::D',h=>by
  obtain ⟨h1,h2⟩:=h;simp only [List.map_cons,List.cons.injEq] at h1 h2;cases h2 with
  | cons b a =>
  unfold zN;rw [<- h1.1];cases q s p.1 with
  | true=>exact ⟨by simp [h1.2],.cons hv a⟩
  | false =>
   obtain ⟨c,d⟩:=Aj s hv (D:=D) (D':=D') ⟨h1.2,a⟩;exact ⟨by simp [h1.1,c],.cons b d⟩
end gen
section
variable {C:Cx} {h0:Hp} {ρ:ix} {s s1:CS} {h:Hp} {e:Ev} {e':Env} {L:Lp} {K:Xab->Hp->Prop} {kk:Xab->T}
def DR.length {α:Type} {D a:List (α × Xab)} (h:DR ρ D a):D.length=a.length:=by
 have:=Zg List.length h.1
 simpa using this
variable {H I:TypeId}
def Ht {d:Option TypeDesc} (h:PK d=some (H,I)):d=some (.map H I):=by
 unfold PK at h;split at h
 ·cases h; rfl
 ·cases h
def NM {P:Program} {z:Xab} (h:MD P H=some z):(P.info? H).bind (·.zero)=some z/\∀ ρ,VR ρ z z:=by
 unfold MD at h;obtain ⟨u,h1,h2⟩:=YX.1 h;obtain ⟨a,rfl⟩:=C4.1 h2;exact ⟨h1,fun ρ=>tY 9 _ a⟩
def JC {x a:Xab} {y:Nat × Xaa} (b:VR ρ x a) (hk:Qx x=some y):a=QX y:=by
 unfold Qx at hk;split at hk
 ·cases hk;cases b with
  | agg hl =>
  cases hl with
  | cons c hl =>
  cases hl with
  | cons d hl =>
  cases hl; cases c; cases d; rfl
 ·cases hk
def KE {x a:Xab} {y:Nat × Nat} (b:VR ρ x a) (hk:RW x=some y):a=RB y:=by
 unfold RW at hk;split at hk
 ·cases hk;cases b with
  | agg hl =>
  cases hl with
  | cons c hl =>
  cases hl with
  | cons d hl =>
  cases hl; cases c; cases d; rfl
 ·cases hk
def D1 {x a:Xab} {y:Xaa} (b:VR ρ x a) (hk:P9 x=some y):a=.string y:=by
 unfold P9 at hk;split at hk
 ·cases hk; cases b; rfl
 ·cases hk
variable {O:Nat}
def Gp {x a:Xab} (b:VR ρ x a) (hk:JP x=some O):∃ k,a=.int k (O:Int):=by
 unfold JP at hk;split at hk
 ·cases hk; cases b; exact ⟨_,rfl⟩
 ·cases hk
def Nw (O:Ok C) (R:Rel C h0 ρ s.σ h) {G:TypeId} {m J x M z:Xab} {r:Option Xab} (u:C.P.underlying H=some (.map I G)) (w:(C.P.info? G).bind (·.zero)=some z) (A:VR ρ m J) (B:VR ρ x M)
  (hi:OB C I m x s=some r):∃ E,((r=none/\E=none)\/∃ v v',r=some v/\E=some v'/\VR ρ v v') /\
   ∀ (ok:Bool) (K:Xab->Hp->Prop),K (TW ok z E) h->aZ C.P (Instr.lookup H J M ok) h K:=by
 unfold OB at hi;cases F:VW C I with
 | true =>
  rw [F] at hi;simp only at hi;unfold Xr at hi;split at hi
  ·rename_i b;obtain ⟨y,d,hi⟩:=YX.1 hi;obtain ⟨o,g,hi⟩:=YX.1 hi;have hx':=JC B d;subst hx';cases A with
   | map i =>
   cases o <;> first | (cases hi; done) | skip
   rename_i D;cases hi;obtain ⟨_,j,l,n⟩:=R.row g i;refine ⟨lu xj y j,?_,fun ok K hk=>?_⟩
   ·rcases xA (q:=xj) y n with ⟨a,c⟩ | ⟨v,v',a,c,p⟩
    ·exact .inl ⟨a,c⟩
    ·exact .inr ⟨v,v',a,c,p⟩
   ·refine wZ (O.kt I F) u w l y ok K ?_;rw [np tS] at hk;cases ok <;> exact hk
  ·cases hi
 | false =>
  rw [F] at hi;simp only at hi;cases f:VV C I with
  | true =>
   rw [f] at hi;simp only at hi;unfold V6 at hi;split at hi
   ·rename_i b;obtain ⟨y,d,hi⟩:=YX.1 hi;obtain ⟨o,g,hi⟩:=YX.1 hi;have hx':=KE B d;subst hx';cases A with
    | map i =>
    cases o <;> first | (cases hi; done) | skip
    rename_i D;cases hi;obtain ⟨_,j,l,n⟩:=R.row g i;refine ⟨lu rb y j,?_,fun ok K hk=>?_⟩
    ·rcases xA (q:=rb) y n with ⟨a,c⟩ | ⟨v,v',a,c,p⟩
     ·exact .inl ⟨a,c⟩
     ·exact .inr ⟨v,v',a,c,p⟩
    ·refine wZ (O.ki I f) u w l y ok K ?_;rw [np qC] at hk;cases ok <;> exact hk
   ·cases hi
  | false =>
  rw [f] at hi;simp only at hi;obtain ⟨h1,hi⟩:=bI.1 hi;unfold Wj at hi;split at hi
  ·obtain ⟨y,d,hi⟩:=YX.1 hi;have hx':=D1 B d;subst hx';cases hi;cases A;refine ⟨none,.inl ⟨rfl,rfl⟩,fun ok K hk=>lookup_nil u (wC h1) w y ok K ?_⟩;cases ok <;> exact hk
  ·rename_i b;obtain ⟨y,d,hi⟩:=YX.1 hi;obtain ⟨o,g,hi⟩:=YX.1 hi;have hx':=D1 B d;subst hx';cases A with
   | map i =>
   cases o <;> first | (cases hi; done) | skip
   rename_i D;cases hi;obtain ⟨_,j,l,n⟩:=R.row g i;refine ⟨lu qb y j,?_,fun ok K hk=>?_⟩
   ·rcases xA (q:=qb) y n with ⟨a,c⟩ | ⟨v,v',a,c,p⟩
    ·exact .inl ⟨a,c⟩
    ·exact .inr ⟨v,v',a,c,p⟩
   ·refine kb u (wC h1) w l y ok K ?_;rw [np me] at hk;cases ok <;> exact hk
  ·cases hi
def Pz (O:Ok C) (R:Rel C h0 ρ s.σ h) {m g x i v:Xab} {ok:Bool} (A:VR ρ m g) (B:VR ρ x i) (hc:NR C H m x ok s=some v) :
  ∃ v',VR ρ v v'/\∀ (kk:Xab->T) (L:Lp) (K:Xab->Hp->Prop),kk v' L K h->(match C.P.underlying H with
  | some (.map _ a)=>match ok with
   | true=>T.eN C.P (Instr.lookup H g i true) true [cM C.P a,(false,[.bool])] (jW _ fun l=>kk (rv true [cM C.P a,(false,[.bool])] l))
   | false=>T.eN C.P (Instr.lookup H g i false) false [cM C.P a] (jW _ fun l=>kk (rv false [cM C.P a] l))
  | _=>T.fail) L K h:=by
 unfold NR at hc;obtain ⟨⟨k,a⟩,hd,hc⟩:=YX.1 hc;obtain ⟨z,D,hc⟩:=YX.1 hc;obtain ⟨r,E,hc⟩:=YX.1 hc;obtain ⟨w,hc⟩:=bI.1 hc;cases hc;have hd:=Ht hd;obtain ⟨j,n⟩:=NM D;obtain ⟨f,o,b⟩:=Nw O R hd j A B E;have c:VR ρ (r.getD z) (f.getD z)/\r.isSome=f.isSome:=by
  rcases o with ⟨p,u⟩ | ⟨v,v',p,u,F⟩
  ·rw [p,u]; exact ⟨n ρ,rfl⟩
  ·rw [p,u]; exact ⟨F,rfl⟩
 cases ok with
 | true =>
  refine ⟨.tuple ⟨[f.getD z,.bool r.isSome]⟩,.tuple (.cons c.1 (.cons (.bool _) .nil)),fun kk L K hk=>?_⟩;simp only [hd];refine b true _ ?_;obtain ⟨y,d⟩:=xn (q:=(true,[cM C.P a,(false,[.bool])])) (v:=.tuple ⟨[r.getD z,.bool r.isSome]⟩) (.tuple (.cons c.1 (.cons (.bool _) .nil))) (by
   show (D4 (cM C.P a) (r.getD z) && true)=true;rw [w]; rfl)
  refine ⟨y,?_,?_⟩
  ·rw [<- d,c.2]; rfl
  ·rw [dX]
   have:rv true [cM C.P a,(false,[TypeDesc.bool])] (eA _ y)=_:=d.symm
   rw [this]; exact hk
 | false =>
  refine ⟨f.getD z,c.1,fun kk L K hk=>?_⟩;simp only [hd];refine b false _ ?_;obtain ⟨y,d⟩:=xn (q:=(false,[cM C.P a])) (v:=r.getD z) c.1 (by
   show (D4 (cM C.P a) (r.getD z) && true)=true;rw [w]; rfl)
  refine ⟨y,d,?_⟩;rw [dX]
  have:rv false [cM C.P a] (eA _ y)=_:=d.symm
  rw [this]; exact hk
def Rs (O:Ok C) (R:Rel C h0 ρ s.σ h) {m c x p v v':Xab} (u:VR ρ m c) (n:VR ρ x p) (hv:VR ρ v v') (hc:VG C H m x v s=some s1) {k:T} (hk:∀ h1,Rel C h0 ρ s1.σ h1->k L K h1) :
  T.eV C.P (Instr.mapUpdate H c p v') k L K h:=by
 unfold VG at hc;split at hc
 ·rename_i b;obtain ⟨⟨kt,w⟩,hd,hc⟩:=YX.1 hc;obtain ⟨o,g,hc⟩:=YX.1 hc;have hd:=Ht hd;cases u with
  | map i =>
  unfold O8 at hc;cases o <;> first | (cases hc; done) | skip
  ·rename_i D;obtain ⟨h1,hc⟩:=bI.1 (show gu _ _=some s1 from hc);obtain ⟨y,j,hc⟩:=YX.1 hc;obtain ⟨h2,hc⟩:=bI.1 hc;cases hc;have hx':=D1 n j;subst hx';obtain ⟨d,a,f,l⟩:=R.row g i;refine gY hd (wC h1) f (Zw h2) v' _ fun h' c c' r=>hk h' ?_
   refine R.put g rfl i d c' ⟨d,_,c,?_⟩
   have:=Ag me (q:=qb) y v' a f.nodup
   rw [np me] at this;rw [show Sx.kR a y v'=zN qb y v' a from this.symm];exact Aj _ hv l
  ·rename_i D;obtain ⟨h1,hc⟩:=bI.1 (show gu _ _=some s1 from hc);obtain ⟨y,j,hc⟩:=YX.1 hc;cases hc;have hx':=JC n j;subst hx';obtain ⟨d,a,f,l⟩:=R.row g i;refine tI (O.kt kt h1) hd f y v' _ fun h' c c' r=>hk h' ?_
   refine R.put g rfl i d c' ⟨d,_,c,?_⟩
   have:=Ag tS (q:=xj) y v' a (qq.nodup (O.kt kt h1) f)
   rw [np tS] at this;rw [show zS a y v'=zN xj y v' a from this.symm];exact Aj _ hv l
  ·rename_i D;obtain ⟨h1,hc⟩:=bI.1 (show gu _ _=some s1 from hc);obtain ⟨y,j,hc⟩:=YX.1 hc;cases hc;have hx':=KE n j;subst hx';obtain ⟨d,a,f,l⟩:=R.row g i;refine tI (O.ki kt h1) hd f y v' _ fun h' c c' r=>hk h' ?_
   refine R.put g rfl i d c' ⟨d,_,c,?_⟩
   have:=Ag qC (q:=rb) y v' a (qq.nodup (O.ki kt h1) f)
   rw [np qC] at this;rw [show zS a y v'=zN rb y v' a from this.symm];exact Aj _ hv l
 ·cases hc
def LN (R:Rel C h0 ρ s.σ h) {v:Xab} (hc:IB C H s=some (v,s1)) (P:pA C h0 ρ s1 v kk L K):T.eN C.P (Instr.makeMap H none) false [(false,[.map 0 0])] (fun r=>kk (.map r)) L K h:=by
 unfold IB at hc;obtain ⟨⟨k,g⟩,i,hc⟩:=YX.1 hc;simp only at hc;cases d:VW C k with
 | true =>
  rw [d] at hc;obtain ⟨f,a,hc⟩:=YX.1 hc;obtain ⟨hn,h2⟩:=jC.1 a;subst h2;cases hc;refine x8 (α:=Nat × Xaa) (kv:=QX) _ fun h' m e z=>⟨(some h.size,()),rfl,?_⟩
  obtain ⟨b,le⟩:=R.new (pl:=⟨h.size,0,0⟩) (o:=.zK []) hn (Zc _) e ⟨R.size,[],m,rfl,.nil⟩;exact P _ _ _ le b (.map (fS _ _ _))
 | false =>
  rw [d] at hc;simp only at hc;cases c:VV C k with
  | true =>
   rw [c] at hc;obtain ⟨f,a,hc⟩:=YX.1 hc;obtain ⟨hn,h2⟩:=jC.1 a;subst h2;cases hc;refine x8 (α:=Nat × Nat) (kv:=RB) _ fun h' m e z=>⟨(some h.size,()),rfl,?_⟩
   obtain ⟨b,le⟩:=R.new (pl:=⟨h.size,0,0⟩) (o:=.zJ []) hn (Zc _) e ⟨R.size,[],m,rfl,.nil⟩;exact P _ _ _ le b (.map (fS _ _ _))
  | false =>
  rw [c] at hc;obtain ⟨h1,hc⟩:=bI.1 hc;obtain ⟨f,a,hc⟩:=YX.1 hc;obtain ⟨hn,h2⟩:=jC.1 a;subst h2;cases hc;refine nH _ fun h' m e z=>⟨(some h.size,()),rfl,?_⟩
  obtain ⟨b,le⟩:=R.new (pl:=⟨h.size,0,0⟩) (o:=.xU []) hn (Zc _) e ⟨R.size,[],m,rfl,.nil⟩;exact P _ _ _ le b (.map (fS _ _ _))
def Ny {z:Xab} {sz:Nat} (a:z.cells.size=sz) (c:1<=sz):(List.range (O*sz)).map (z.cells[· % z.cells.size]!)=(List.replicate O z.cells.toList).flatten:=by
 apply Z9;intro j;have hl:((List.replicate O z.cells.toList).flatten).length=O*sz:=by simp [a]
 rw [ZL]
 by_cases b:j<O*sz
 ·rw [am9 b];have h1:=oF (sz:=sz) (List.replicate O z.cells.toList) (j / sz) [] (fun x d=>by rw [List.eq_of_mem_replicate d]; simpa using a) (by simpa using Nat.div_lt_of_lt_mul (by rw [cw9]; exact b));rw [Z2] at h1;have h2:=Zg (fun l:List Xab=>l[j % sz]?) h1;have f:j % sz<sz:=cu9 _ c;simp only [List.getElem?_take,List.getElem?_drop,if_pos f,List.getElem_replicate] at h2;rw [show j / sz*sz+j % sz=j from by rw [cw9]; exact Nat.div_add_mod j sz] at h2;rw [h2,a]
  have:j % sz<z.cells.size:=ad
  simp [this]
 ·rw [ZC (by simp; omega),ZC ad] <;> rfl
def GA (R:Rel C h0 ρ s.σ h) {l l' c c' v:Xab} (hl:VR ρ l l') (hc:VR ρ c c') (a:AR C.P H l c s=some (v,s1)) (P:pA C h0 ρ s1 v kk L K) :
  T.eN C.P (Instr.makeSlice H l' c') false [(false,[.slice 0])] (fun p l c=>kk (.slice p l c)) L K h:=by
 unfold AR at a;obtain ⟨l0,d,a⟩:=YX.1 a;obtain ⟨c0,f,a⟩:=YX.1 a;obtain ⟨w,rfl⟩:=Gp hl d;obtain ⟨x,rfl⟩:=Gp hc f;obtain ⟨q,o,a⟩:=YX.1 a;obtain ⟨h1,a⟩:=bI.1 a;obtain ⟨y,g,a⟩:=YX.1 (show (Ac s (.row _ q.e 0)).bind _=some (v,s1) from a);obtain ⟨hn,h2⟩:=jC.1 g;subst h2;cases a;obtain ⟨i,z,E⟩:=DQ o;simp only [Bool.and_eq_true] at h1;have g1:=Zw h1.1.1;have g2:=Zw h1.1.2;have g3:=Zw h1.2;refine df ?_;refine lU E.VO E.vN E.zero g1 (by rw [E.by_]; omega) ad fun h' b k _=>⟨_,_,_,rfl,?_⟩
 have j:eC ρ (List.replicate c0 q.z).flatten (List.replicate c0 q.z).flatten:=by
  have:∀ n,eC ρ (List.replicate n q.z).flatten (List.replicate n q.z).flatten:=by
   intro n
   induction n with
   | zero=>exact .nil
   | succ n r=>simp only [List.replicate_succ,List.flatten_cons]; exact (E.flat ρ).append r
  exact this c0
 rw [E.sz] at b;rw [Ny (by rw [E.zs,E.sz]) E.pos,<- E.zl] at b;obtain ⟨u,le⟩:=R.newRow (rest:=[]) (e:=q.e) (m:=0) (cap:=0) hn j (by rw [Z2]; exact b) k ad;have hv:=VR.sl (ρ:=kR ρ s.nx ⟨h.size,0,0⟩) (c:=c0) (c':=c0) 0 l0 (fS _ _ _) (.inl ⟨by unfold half; omega,rfl⟩) g1;exact P _ _ _ le u (by simpa using hv)
end
end Go.Sx.Cr
