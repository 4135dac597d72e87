/- Part of the framework. No condition. -/
import Derived.Test.YtmdncdaladplkaaGreatDoorSxJa
set_option linter.all false
set_option maxHeartbeats 4000000
namespace Go.Sx.Cr
inductive PR (ρ:iG):List (Nat × Xab)->List (Nat × Xab)->Prop
 | nil:PR ρ [] []
 | cons (i:Nat) {v v':Xab} {l l':List (Nat × Xab)} (h:VR ρ v v') (t:PR ρ l l'):PR ρ ((i,v)::l) ((i,v')::l')
inductive QR (ρ:iG):List (Nat × List Xab)->List (Nat × List Xab)->Prop
 | nil:QR ρ [] []
 | cons (i:Nat) {v v':List Xab} {l l':List (Nat × List Xab)} (h:eA ρ v v') (t:QR ρ l l'):QR ρ ((i,v)::l) ((i,v')::l')
theorem PR.zip {ρ:iG}:∀ (a:List Nat) {c b:List Xab},eA ρ c b->PR ρ (a.zip c) (a.zip b)
 | [],_,_,_=>by simp only [List.zip_nil_left]; exact .nil
 | i::a,_,_,.nil=>by simp only [List.zip_nil_right]; exact .nil
 | i::a,_,_,.cons h t=>by simp only [List.zip_cons_cons]; exact .cons i h (PR.zip a t)
theorem eA.uI {ρ:iG}:∀ {b a l l':List Xab} (i:Nat),eA ρ l l'->eA ρ b a->eA ρ (uI l i b) (uI l' i a)
 | _,_,_,_,_,h,.nil=>h
 | _,_,_,_,i,h,.cons hv t=>eA.uI (i+1) (h.set i hv) t
theorem Cq {ρ:iG} {place:Nat->Option (Nat × Nat)}:∀ (r:List (Nat × List Xab)) {b:List (Nat × List Xab)} {c c' cs:List Xab},fZ place c r=some cs->eA ρ c c'->QR ρ r b->∃ a,fZ place c' b=some a/\eA ρ cs a
 | [],b,c,c',cs,h,hc,d=>by
  have:some c=some cs:=h
  cases this;cases d;exact ⟨c',rfl,hc⟩
 | (i,v)::r,b,c,c',cs,h,hc,d=>by
  cases d with
  | cons _ hv t =>
  unfold fZ at h ⊢;cases e:place i with
  | none=>rw [e] at h; cases h
  | some p =>
   obtain ⟨off,size⟩:=p;rw [e] at h;simp only at h ⊢;rw [<- hv.length,<- hc.length];cases f:(!Nat.beq v.length size || Nat.blt c.length (off+v.length)) with
   | true=>rw [f] at h; cases h
   | false =>
    rw [f] at h;exact Cq r h (hc.uI off hv) t
section
variable {C:Cx} {h0:Hp} {ρ:iG} {s s1:CS} {h:Hp} {e:Ev} {e':Env} {L:Lp} {K:Xab->Hp->Prop} {kk:Xab->T}
theorem za {agg:Nat->Option Bool}:∀ {ps b:List (Nat × Xab)} {r:List (Nat × List Xab)},PR ρ ps b->Fa agg ps=some r->∃ d,QR ρ r d/\∀ (k:List (Nat × List Xab)->T) (L:Lp) (K:Xab->Hp->Prop),k d L K h->fP agg b k L K h
 | _,_,r,.nil,a=>by
  have:some []=some r:=a
  cases this;exact ⟨[],.nil,λk L K hk=>hk⟩
 | _,_,r,.cons (v:=v) (v':=v') (l:=l) (l':=l') i hv t,a=>by
  obtain ⟨g,f,a⟩:=aa9.1 (show (agg i).bind _=some r from a);obtain ⟨c,hc,a⟩:=aa9.1 a;obtain ⟨q,n,a⟩:=aa9.1 a;cases a;obtain ⟨j,c',h1,h2⟩:=vA hv hc;obtain ⟨o,p,m⟩:=za t n;refine ⟨(i,c')::o,.cons i h1 p,λk L K hk=>?_⟩;unfold fP;subst h2;cases g with
  | true=>simp only [f,j,cond_true]; exact m _ _ _ hk
  | false=>simp only [f,j,cond_false]; exact m _ _ _ hk
variable {H:TypeId}
def MT {ps b:List (Nat × Xab)} {v:Xab} (r:PR ρ ps b) (a:JF C.P H ps=some v):∃ v',VR ρ v v'/\∀ (kk:Xab->T) (L:Lp) (K:Xab->Hp->Prop),kk v' L K h ->
  (match C.P.underlying H,(C.P.info? H).bind (·.zero) with
  | some (.struct l),some z =>
   bif !(l.all λ(f:Field)=>oQ C.P f.type) then T.fail else fP (λi=>(l[i]?).bind λ(f:Field)=>cO C.P f.type) b λd=>match fZ (((l.map λ(f:Field)=>(f.offset,C.P.cellsOf f.type)))[·]?) z.cells.toList d with
   | some cs=>kk (.agg cs.toArray)
   | none=>T.fail
  | some (.array _ g),some z =>
   bif !oQ C.P g then T.fail else fP (λ_=>cO C.P g) b λd=>match fZ (λi=>some (i*C.P.cellsOf g,C.P.cellsOf g)) z.cells.toList d with
   | some cs=>kk (.agg cs.toArray)
   | none=>T.fail
  | _,_=>T.fail) L K h:=by
 unfold JF at a;obtain ⟨z,u,a⟩:=aa9.1 a;obtain ⟨x,j,rfl,k⟩:=Cj u;split at a
 ·rename_i l m;unfold K2 at a;obtain ⟨h1,a⟩:=bt.1 a;obtain ⟨d,hl,a⟩:=aa9.1 a;obtain ⟨cs,hc,a⟩:=aa9.1 a;cases a;obtain ⟨w,h2,o⟩:=za (h:=h) r hl;obtain ⟨c,p,q⟩:=Cq _ hc (k ρ) h2;refine ⟨.agg ⟨c⟩,.agg q,λkk L K hk=>?_⟩;simp only [m,j,h1,Bool.not_true,cond_false];refine o _ _ _ ?_;simp only [p];exact hk
 ·rename_i n g m;unfold KJ at a;obtain ⟨h1,a⟩:=bt.1 a;obtain ⟨d,hl,a⟩:=aa9.1 a;obtain ⟨cs,hc,a⟩:=aa9.1 a;cases a;obtain ⟨w,h2,o⟩:=za (h:=h) r hl;obtain ⟨c,p,q⟩:=Cq _ hc (k ρ) h2;refine ⟨.agg ⟨c⟩,.agg q,λkk L K hk=>?_⟩;simp only [m,j,h1,Bool.not_true,cond_false];refine o _ _ _ ?_;simp only [p];exact hk
 ·cases a
structure IY (P:Program) (t:TypeId) (q:El) (i:TypeInfo) (z:Xab):Prop where
 Yv:P.underlying t=some (.slice q.e)
 vW:P.info? q.e=some i
 zero:i.zero=some z
 sz:i.size=q.sz
 by_:i.bytes=q.by_
 zl:q.z=z.cells.toList
 zs:z.cells.size=i.size
 pos:1<=q.sz
 flat:∀ ρ,eA ρ q.z q.z
def EG {P:Program} {q:El} (a:Qi P H=some q):∃ i z,IY P H q i z:=by
 unfold Qi at a;obtain ⟨e,b,a⟩:=aa9.1 a;have c:P.underlying H=some (.slice e):=by
  unfold elemOf at b;split at b
  ·rename_i d; cases b; exact d
  ·cases b
 unfold PI at a;obtain ⟨i,hi,a⟩:=aa9.1 a;obtain ⟨z,f,a⟩:=aa9.1 a;obtain ⟨h1,a⟩:=bt.1 a;cases a;simp only [Bool.and_eq_true] at h1;exact ⟨i,z,c,hi,f,rfl,rfl,rfl,av9 h1.1.2,bk9 h1.2,λρ=>sI (uf 9) _ h1.1.1⟩
theorem Gv:∀ (xs:List Xab) (i:Nat) (a:List Xab),uI xs i a=iw xs i a
 | xs,i,[]=>rfl
 | xs,i,v::a=>Gv (xs.set i v) (i+1) a
theorem DT {sz:Nat}:∀ {r:List (Nat × List Xab)} {i:Nat} {cs A B:List Xab},JB sz i r=some cs->A.length=i*sz->B.length=r.length*sz->fZ (λj=>some (j*sz,sz)) (A++B) r=some (A++cs)
 | [],i,cs,A,B,h,b,f=>by
  have:some []=some cs:=h
  cases this
  have:B=[]:=bu9 (by simpa using f)
  subst this;rfl
 | (k,c)::r,i,cs,A,B,h,b,f=>by
  obtain ⟨h1,h⟩:=bt.1 (show gF _ _=some cs from h);obtain ⟨d,n,h⟩:=aa9.1 h;cases h;simp only [Bool.and_eq_true] at h1;obtain rfl:k=i:=av9 h1.1;have hc:c.length=sz:=av9 h1.2;simp only [List.length_cons,Nat.add_mul,Nat.one_mul] at f;unfold fZ;simp only;have g:Nat.beq c.length sz=true:=by rw [hc]; exact Nat.beq_refl _
  have l:Nat.blt (A++B).length (k*sz+c.length)=false:=by
   cases m:Nat.blt (A++B).length (k*sz+c.length) with
   | false=>rfl
   | true =>
    rw [Nat.blt_eq] at m;rw [ae9] at m; omega
  rw [g,l];simp only [Bool.not_true,Bool.or_false,cond_false];have a:A++B=A++(B.take sz++B.drop sz):=by rw [cc9]
  rw [Gv,a,<- b,AN (by rw [au9]; omega),<- az9];rw [DT n (A:=A++c) (by rw [ae9,b,hc,dd9,Nat.one_mul]) (by rw [bs9]; omega),az9]
theorem Ml {sz:Nat}:∀ (r:List (Nat × List Xab)) {a:List (Nat × List Xab)} {i:Nat} {cs:List Xab},JB sz i r=some cs->QR ρ r a->∃ b,JB sz i a=some b/\eA ρ cs b/\a.length=r.length
 | [],a,i,cs,h,c=>by
  have:some []=some cs:=h
  cases this;cases c;exact ⟨[],rfl,.nil,rfl⟩
 | (k,v)::r,a,i,cs,h,c=>by
  cases c with
  | cons _ hv t =>
  rename_i v' a;obtain ⟨h1,h⟩:=bt.1 (show gF _ _=some cs from h);obtain ⟨d,f,h⟩:=aa9.1 h;cases h;obtain ⟨g,h2,j,l⟩:=Ml r f t;refine ⟨v'++g,?_,hv.append j,by simp [l]⟩;unfold JB;rw [<- hv.length,h1,h2]; rfl
theorem GI:∀ {ps a:List (Nat × Xab)},PR ρ ps a->QR ρ (pD ps) (pD a)/\mz a (pD a)
 | _,_,.nil=>⟨.nil,.nil⟩
 | _,_,.cons (v:=v) (v':=v') i hv t=>by
  obtain ⟨h1,h2⟩:=GI t;unfold pD;cases d:B7 v with
  | some c =>
   have:=wQ.1 d; subst this
   cases hv with
   | agg hl =>
    refine ⟨.cons i hl h1,?_⟩;exact mz.cons rfl h2
  | none =>
   have b:B7 v'=none:=by
    cases hv <;> first | rfl | (simp [B7] at d; done)
   rw [b];refine ⟨.cons i (.cons hv .nil) h1,?_⟩;refine mz.cons ?_ h2
   have:fx v'=false:=by
    unfold B7 at b;split at b
    ·cases b
    ·rename_i hn;cases v' <;> first | rfl | (rename_i cs; exact (hn cs.toList rfl).elim)
   exact (zG this)
end
end Go.Sx.Cr
