/- Part of the framework. No condition. -/
import Derived.Test.YtmdncdaladplkaaGreatDoorSxJa
set_option linter.all false
set_option maxHeartbeats 4000000
namespace Go.Sx.Cr
inductive PR (ρ:gX):List (Nat × Xab)->List (Nat × Xab)->Prop
 | nil:PR ρ [] []
 | cons (i:Nat) {v v':Xab} {l l':List (Nat × Xab)} (h:VR ρ v v') (t:PR ρ l l'):PR ρ ((i,v)::l) ((i,v')::l')
inductive QR (ρ:gX):List (Nat × List Xab)->List (Nat × List Xab)->Prop
 | nil:QR ρ [] []
 | cons (i:Nat) {v v':List Xab} {l l':List (Nat × List Xab)} (h:et ρ v v') (t:QR ρ l l'):QR ρ ((i,v)::l) ((i,v')::l')
theorem PR.zip {ρ:gX}:∀ (a:List Nat) {c b:List Xab},et ρ c b->PR ρ (a.zip c) (a.zip b)
 | [],_,_,_=>by simp only [List.zip_nil_left]; exact .nil
 | i::a,_,_,.nil=>by simp only [List.zip_nil_right]; exact .nil
 | i::a,_,_,.cons h t=>by simp only [List.zip_cons_cons]; exact .cons i h (PR.zip a t)
theorem et.tU {ρ:gX}:∀ {b a l l':List Xab} (i:Nat),et ρ l l'->et ρ b a->et ρ (tU l i b) (tU l' i a)
 | _,_,_,_,_,h,.nil=>h
 | _,_,_,_,i,h,.cons hv t=>et.tU (i+1) (h.set i hv) t
theorem BU {ρ:gX} {place:Nat->Option (Nat × Nat)}:∀ (r:List (Nat × List Xab)) {b:List (Nat × List Xab)} {c c' cs:List Xab},fM place c r=some cs->et ρ c c'->QR ρ r b->∃ a,fM place c' b=some a/\et ρ cs a
 | [],b,c,c',cs,h,hc,d=>by
  have:some c=some cs:=h
  cases this;cases d;exact ⟨c',rfl,hc⟩
 | (i,v)::r,b,c,c',cs,h,hc,d=>by
  cases d with
  | cons _ hv t =>
  unfold fM at h ⊢;cases e:place i with
  | none=>rw [e] at h; cases h
  | some p =>
   obtain ⟨off,size⟩:=p;rw [e] at h;simp only at h ⊢;rw [<- hv.length,<- hc.length];cases f:(!Nat.beq v.length size || Nat.blt c.length (off+v.length)) with
   | true=>rw [f] at h; cases h
   | false =>
    rw [f] at h;exact BU r h (hc.tU off hv) t
section
variable {C:Cx} {h0:Hp} {ρ:gX} {s s1:CS} {h:Hp} {e:Ev} {e':Env} {L:Lp} {K:Xab->Hp->Prop} {kk:Xab->T}
theorem yr {agg:Nat->Option Bool}:∀ {ps b:List (Nat × Xab)} {r:List (Nat × List Xab)},PR ρ ps b->Et agg ps=some r->∃ d,QR ρ r d/\∀ (k:List (Nat × List Xab)->T) (L:Lp) (K:Xab->Hp->Prop),k d L K h->fC agg b k L K h
 | _,_,r,.nil,a=>by
  have:some []=some r:=a
  cases this;exact ⟨[],.nil,fun k L K hk=>hk⟩
 | _,_,r,.cons (v:=v) (v':=v') (l:=l) (l':=l') i hv t,a=>by
  obtain ⟨g,f,a⟩:=aa9.1 (show (agg i).bind _=some r from a);obtain ⟨c,hc,a⟩:=aa9.1 a;obtain ⟨q,n,a⟩:=aa9.1 a;cases a;obtain ⟨j,c',h1,h2⟩:=uF hv hc;obtain ⟨o,p,m⟩:=yr t n;refine ⟨(i,c')::o,.cons i h1 p,fun k L K hk=>?_⟩;unfold fC;subst h2;cases g with
  | true=>simp only [f,j,cond_true]; exact m _ _ _ hk
  | false=>simp only [f,j,cond_false]; exact m _ _ _ hk
variable {H:TypeId}
def L5 {ps b:List (Nat × Xab)} {v:Xab} (r:PR ρ ps b) (a:IT C.P H ps=some v):∃ v',VR ρ v v'/\∀ (kk:Xab->T) (L:Lp) (K:Xab->Hp->Prop),kk v' L K h ->
  (match C.P.underlying H,(C.P.info? H).bind (·.zero) with
  | some (.struct l),some z =>
   bif !(l.all fun (f:Field)=>ot C.P f.type) then T.fail else fC (fun i=>(l[i]?).bind fun (f:Field)=>cK C.P f.type) b fun d=>match fM (((l.map fun (f:Field)=>(f.offset,C.P.cellsOf f.type)))[·]?) z.cells.toList d with
   | some cs=>kk (.agg cs.toArray)
   | none=>T.fail
  | some (.array _ g),some z =>
   bif !ot C.P g then T.fail else fC (fun _=>cK C.P g) b fun d=>match fM (fun i=>some (i*C.P.cellsOf g,C.P.cellsOf g)) z.cells.toList d with
   | some cs=>kk (.agg cs.toArray)
   | none=>T.fail
  | _,_=>T.fail) L K h:=by
 unfold IT at a;obtain ⟨z,u,a⟩:=aa9.1 a;obtain ⟨x,j,rfl,k⟩:=BN u;split at a
 ·rename_i l m;unfold Kk at a;obtain ⟨h1,a⟩:=bt.1 a;obtain ⟨d,hl,a⟩:=aa9.1 a;obtain ⟨cs,hc,a⟩:=aa9.1 a;cases a;obtain ⟨w,h2,o⟩:=yr (h:=h) r hl;obtain ⟨c,p,q⟩:=BU _ hc (k ρ) h2;refine ⟨.agg ⟨c⟩,.agg q,fun kk L K hk=>?_⟩;simp only [m,j,h1,Bool.not_true,cond_false];refine o _ _ _ ?_;simp only [p];exact hk
 ·rename_i n g m;unfold JZ at a;obtain ⟨h1,a⟩:=bt.1 a;obtain ⟨d,hl,a⟩:=aa9.1 a;obtain ⟨cs,hc,a⟩:=aa9.1 a;cases a;obtain ⟨w,h2,o⟩:=yr (h:=h) r hl;obtain ⟨c,p,q⟩:=BU _ hc (k ρ) h2;refine ⟨.agg ⟨c⟩,.agg q,fun kk L K hk=>?_⟩;simp only [m,j,h1,Bool.not_true,cond_false];refine o _ _ _ ?_;simp only [p];exact hk
 ·cases a
structure Ig (P:Program) (t:TypeId) (q:El) (i:TypeInfo) (z:Xab):Prop where
 Xq:P.underlying t=some (.slice q.e)
 uZ:P.info? q.e=some i
 zero:i.zero=some z
 sz:i.size=q.sz
 by_:i.bytes=q.by_
 zl:q.z=z.cells.toList
 zs:z.cells.size=i.size
 pos:1<=q.sz
 flat:∀ ρ,et ρ q.z q.z
def D4 {P:Program} {q:El} (a:Pq P H=some q):∃ i z,Ig P H q i z:=by
 unfold Pq at a;obtain ⟨e,b,a⟩:=aa9.1 a;have c:P.underlying H=some (.slice e):=by
  unfold elemOf at b;split at b
  ·rename_i d; cases b; exact d
  ·cases b
 unfold OP at a;obtain ⟨i,hi,a⟩:=aa9.1 a;obtain ⟨z,f,a⟩:=aa9.1 a;obtain ⟨h1,a⟩:=bt.1 a;cases a;simp only [Bool.and_eq_true] at h1;exact ⟨i,z,c,hi,f,rfl,rfl,rfl,av9 h1.1.2,bi9 h1.2,fun ρ=>rP (tu 9) _ h1.1.1⟩
theorem FU:∀ (xs:List Xab) (i:Nat) (a:List Xab),tU xs i a=lN xs i a
 | xs,i,[]=>rfl
 | xs,i,v::a=>FU (xs.set i v) (i+1) a
theorem Dg {sz:Nat}:∀ {r:List (Nat × List Xab)} {i:Nat} {cs A B:List Xab},IP sz i r=some cs->A.length=i*sz->B.length=r.length*sz->fM (fun j=>some (j*sz,sz)) (A++B) r=some (A++cs)
 | [],i,cs,A,B,h,b,f=>by
  have:some []=some cs:=h
  cases this
  have:B=[]:=bs9 (by simpa using f)
  subst this;rfl
 | (k,c)::r,i,cs,A,B,h,b,f=>by
  obtain ⟨h1,h⟩:=bt.1 (show fY _ _=some cs from h);obtain ⟨d,n,h⟩:=aa9.1 h;cases h;simp only [Bool.and_eq_true] at h1;obtain rfl:k=i:=av9 h1.1;have hc:c.length=sz:=av9 h1.2;simp only [List.length_cons,Nat.add_mul,Nat.one_mul] at f;unfold fM;simp only;have g:Nat.beq c.length sz=true:=by rw [hc]; exact Nat.beq_refl _
  have l:Nat.blt (A++B).length (k*sz+c.length)=false:=by
   cases m:Nat.blt (A++B).length (k*sz+c.length) with
   | false=>rfl
   | true =>
    rw [Nat.blt_eq] at m;rw [ae9] at m; omega
  rw [g,l];simp only [Bool.not_true,Bool.or_false,cond_false];have a:A++B=A++(B.take sz++B.drop sz):=by rw [ce9]
  rw [FU,a,<- b,Ap (by rw [az9]; omega),<- bb9];rw [Dg n (A:=A++c) (by rw [ae9,b,hc,cz9,Nat.one_mul]) (by rw [cb9]; omega),bb9]
theorem Lr {sz:Nat}:∀ (r:List (Nat × List Xab)) {a:List (Nat × List Xab)} {i:Nat} {cs:List Xab},IP sz i r=some cs->QR ρ r a->∃ b,IP sz i a=some b/\et ρ cs b/\a.length=r.length
 | [],a,i,cs,h,c=>by
  have:some []=some cs:=h
  cases this;cases c;exact ⟨[],rfl,.nil,rfl⟩
 | (k,v)::r,a,i,cs,h,c=>by
  cases c with
  | cons _ hv t =>
  rename_i v' a;obtain ⟨h1,h⟩:=bt.1 (show fY _ _=some cs from h);obtain ⟨d,f,h⟩:=aa9.1 h;cases h;obtain ⟨g,h2,j,l⟩:=Lr r f t;refine ⟨v'++g,?_,hv.append j,by simp [l]⟩;unfold IP;rw [<- hv.length,h1,h2]; rfl
theorem F6:∀ {ps a:List (Nat × Xab)},PR ρ ps a->QR ρ (oQ ps) (oQ a)/\lQ a (oQ a)
 | _,_,.nil=>⟨.nil,.nil⟩
 | _,_,.cons (v:=v) (v':=v') i hv t=>by
  obtain ⟨h1,h2⟩:=F6 t;unfold oQ;cases d:BA v with
  | some c =>
   have:=vW.1 d; subst this
   cases hv with
   | agg hl =>
    refine ⟨.cons i hl h1,?_⟩;exact lQ.cons rfl h2
  | none =>
   have b:BA v'=none:=by
    cases hv <;> first | rfl | (simp [BA] at d; done)
   rw [b];refine ⟨.cons i (.cons hv .nil) h1,?_⟩;refine lQ.cons ?_ h2
   have:fk v'=false:=by
    unfold BA at b;split at b
    ·cases b
    ·rename_i hn;cases v' <;> first | rfl | (rename_i cs; exact (hn cs.toList rfl).elim)
   exact (yZ this)
end
end Go.Sx.Cr
