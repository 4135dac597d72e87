/- Part of the framework. No condition. -/
import Derived.Test.YtmdncdaladplkaaGreatDoorSxJa
set_option linter.all false
set_option maxHeartbeats 4000000
namespace Go.Sx.Cr
inductive PR (ρ:iv):List (Nat × Xab)->List (Nat × Xab)->Prop
 | nil:PR ρ [] []
 | cons (i:Nat) {v v':Xab} {l l':List (Nat × Xab)} (h:VR ρ v v') (t:PR ρ l l'):PR ρ ((i,v)::l) ((i,v')::l')
inductive QR (ρ:iv):List (Nat × List Xab)->List (Nat × List Xab)->Prop
 | nil:QR ρ [] []
 | cons (i:Nat) {v v':List Xab} {l l':List (Nat × List Xab)} (h:eu ρ v v') (t:QR ρ l l'):QR ρ ((i,v)::l) ((i,v')::l')
theorem PR.zip {ρ:iv}:∀ (a:List Nat) {c b:List Xab},eu ρ c b->PR ρ (a.zip c) (a.zip b)
 | [],_,_,_=>by simp only [List.zip_nil_left]; exact .nil
 | i::a,_,_,.nil=>by simp only [List.zip_nil_right]; exact .nil
 | i::a,_,_,.cons h t=>by simp only [List.zip_cons_cons]; exact .cons i h (PR.zip a t)
theorem eu.tX {ρ:iv}:∀ {b a l l':List Xab} (i:Nat),eu ρ l l'->eu ρ b a->eu ρ (tX l i b) (tX l' i a)
 | _,_,_,_,_,h,.nil=>h
 | _,_,_,_,i,h,.cons hv t=>eu.tX (i+1) (h.set i hv) t
theorem B1 {ρ:iv} {place:Nat->Option (Nat × Nat)}:∀ (r:List (Nat × List Xab)) {b:List (Nat × List Xab)} {c c' cs:List Xab},fQ place c r=some cs->eu ρ c c'->QR ρ r b->∃ a,fQ place c' b=some a/\eu ρ cs a
 | [],b,c,c',cs,h,hc,d=>by
  have:some c=some cs:=h
  cases this;cases d;exact ⟨c',rfl,hc⟩
 | (i,v)::r,b,c,c',cs,h,hc,d=>by
  cases d with
  | cons _ hv t =>
  unfold fQ at h ⊢;cases e:place i with
  | none=>rw [e] at h; cases h
  | some p =>
   obtain ⟨off,size⟩:=p;rw [e] at h;simp only at h ⊢;rw [<- hv.length,<- hc.length];cases f:(!Nat.beq v.length size || Nat.blt c.length (off+v.length)) with
   | true=>rw [f] at h; cases h
   | false =>
    rw [f] at h;exact B1 r h (hc.tX off hv) t
section
variable {C:Cx} {h0:Hp} {ρ:iv} {s s1:CS} {h:Hp} {e:Ev} {e':Env} {L:Lp} {K:Xab->Hp->Prop} {kk:Xab->T}
theorem yJ {agg:Nat->Option Bool}:∀ {ps b:List (Nat × Xab)} {r:List (Nat × List Xab)},PR ρ ps b->EE agg ps=some r->∃ d,QR ρ r d/\∀ (k:List (Nat × List Xab)->T) (L:Lp) (K:Xab->Hp->Prop),k d L K h->fI agg b k L K h
 | _,_,r,.nil,a=>by
  have:some []=some r:=a
  cases this;exact ⟨[],.nil,fun k L K hk=>hk⟩
 | _,_,r,.cons (v:=v) (v':=v') (l:=l) (l':=l') i hv t,a=>by
  obtain ⟨g,f,a⟩:=aa9.1 (show (agg i).bind _=some r from a);obtain ⟨c,hc,a⟩:=aa9.1 a;obtain ⟨q,n,a⟩:=aa9.1 a;cases a;obtain ⟨j,c',h1,h2⟩:=uI hv hc;obtain ⟨o,p,m⟩:=yJ t n;refine ⟨(i,c')::o,.cons i h1 p,fun k L K hk=>?_⟩;unfold fI;subst h2;cases g with
  | true=>simp only [f,j,cond_true]; exact m _ _ _ hk
  | false=>simp only [f,j,cond_false]; exact m _ _ _ hk
variable {H:TypeId}
def Ma {ps b:List (Nat × Xab)} {v:Xab} (r:PR ρ ps b) (a:IY C.P H ps=some v):∃ v',VR ρ v v'/\∀ (kk:Xab->T) (L:Lp) (K:Xab->Hp->Prop),kk v' L K h ->
  (match C.P.underlying H,(C.P.info? H).bind (·.zero) with
  | some (.struct l),some z =>
   bif !(l.all fun (f:Field)=>oo C.P f.type) then T.fail else fI (fun i=>(l[i]?).bind fun (f:Field)=>cH C.P f.type) b fun d=>match fQ (((l.map fun (f:Field)=>(f.offset,C.P.cellsOf f.type)))[·]?) z.cells.toList d with
   | some cs=>kk (.agg cs.toArray)
   | none=>T.fail
  | some (.array _ g),some z =>
   bif !oo C.P g then T.fail else fI (fun _=>cH C.P g) b fun d=>match fQ (fun i=>some (i*C.P.cellsOf g,C.P.cellsOf g)) z.cells.toList d with
   | some cs=>kk (.agg cs.toArray)
   | none=>T.fail
  | _,_=>T.fail) L K h:=by
 unfold IY at a;obtain ⟨z,u,a⟩:=aa9.1 a;obtain ⟨x,j,rfl,k⟩:=BU u;split at a
 ·rename_i l m;unfold Kn at a;obtain ⟨h1,a⟩:=bF.1 a;obtain ⟨d,hl,a⟩:=aa9.1 a;obtain ⟨cs,hc,a⟩:=aa9.1 a;cases a;obtain ⟨w,h2,o⟩:=yJ (h:=h) r hl;obtain ⟨c,p,q⟩:=B1 _ hc (k ρ) h2;refine ⟨.agg ⟨c⟩,.agg q,fun kk L K hk=>?_⟩;simp only [m,j,h1,Bool.not_true,cond_false];refine o _ _ _ ?_;simp only [p];exact hk
 ·rename_i n g m;unfold J5 at a;obtain ⟨h1,a⟩:=bF.1 a;obtain ⟨d,hl,a⟩:=aa9.1 a;obtain ⟨cs,hc,a⟩:=aa9.1 a;cases a;obtain ⟨w,h2,o⟩:=yJ (h:=h) r hl;obtain ⟨c,p,q⟩:=B1 _ hc (k ρ) h2;refine ⟨.agg ⟨c⟩,.agg q,fun kk L K hk=>?_⟩;simp only [m,j,h1,Bool.not_true,cond_false];refine o _ _ _ ?_;simp only [p];exact hk
 ·cases a
structure Ik (P:Program) (t:TypeId) (q:El) (i:TypeInfo) (z:Xab):Prop where
 XE:P.underlying t=some (.slice q.e)
 vc:P.info? q.e=some i
 zero:i.zero=some z
 sz:i.size=q.sz
 by_:i.bytes=q.by_
 zl:q.z=z.cells.toList
 zs:z.cells.size=i.size
 pos:1<=q.sz
 flat:∀ ρ,eu ρ q.z q.z
def Ee {P:Program} {q:El} (a:Pz P H=some q):∃ i z,Ik P H q i z:=by
 unfold Pz at a;obtain ⟨e,b,a⟩:=aa9.1 a;have c:P.underlying H=some (.slice e):=by
  unfold elemOf at b;split at b
  ·rename_i d; cases b; exact d
  ·cases b
 unfold OY at a;obtain ⟨i,hi,a⟩:=aa9.1 a;obtain ⟨z,f,a⟩:=aa9.1 a;obtain ⟨h1,a⟩:=bF.1 a;cases a;simp only [Bool.and_eq_true] at h1;exact ⟨i,z,c,hi,f,rfl,rfl,rfl,au9 h1.1.2,bk9 h1.2,fun ρ=>rS (tB 9) _ h1.1.1⟩
theorem F0:∀ (xs:List Xab) (i:Nat) (a:List Xab),tX xs i a=lK xs i a
 | xs,i,[]=>rfl
 | xs,i,v::a=>F0 (xs.set i v) (i+1) a
theorem Ds {sz:Nat}:∀ {r:List (Nat × List Xab)} {i:Nat} {cs A B:List Xab},IT sz i r=some cs->A.length=i*sz->B.length=r.length*sz->fQ (fun j=>some (j*sz,sz)) (A++B) r=some (A++cs)
 | [],i,cs,A,B,h,b,f=>by
  have:some []=some cs:=h
  cases this
  have:B=[]:=bo9 (by simpa using f)
  subst this;rfl
 | (k,c)::r,i,cs,A,B,h,b,f=>by
  obtain ⟨h1,h⟩:=bF.1 (show gj _ _=some cs from h);obtain ⟨d,n,h⟩:=aa9.1 h;cases h;simp only [Bool.and_eq_true] at h1;obtain rfl:k=i:=au9 h1.1;have hc:c.length=sz:=au9 h1.2;simp only [List.length_cons,Nat.add_mul,Nat.one_mul] at f;unfold fQ;simp only;have g:Nat.beq c.length sz=true:=by rw [hc]; exact Nat.beq_refl _
  have l:Nat.blt (A++B).length (k*sz+c.length)=false:=by
   cases m:Nat.blt (A++B).length (k*sz+c.length) with
   | false=>rfl
   | true =>
    rw [Nat.blt_eq] at m;rw [af9] at m; omega
  rw [g,l];simp only [Bool.not_true,Bool.or_false,cond_false];have a:A++B=A++(B.take sz++B.drop sz):=by rw [ce9]
  rw [F0,a,<- b,Ax (by rw [az9]; omega),<- ay9];rw [Ds n (A:=A++c) (by rw [af9,b,hc,da9,Nat.one_mul]) (by rw [bw9]; omega),ay9]
theorem Lv {sz:Nat}:∀ (r:List (Nat × List Xab)) {a:List (Nat × List Xab)} {i:Nat} {cs:List Xab},IT sz i r=some cs->QR ρ r a->∃ b,IT sz i a=some b/\eu ρ cs b/\a.length=r.length
 | [],a,i,cs,h,c=>by
  have:some []=some cs:=h
  cases this;cases c;exact ⟨[],rfl,.nil,rfl⟩
 | (k,v)::r,a,i,cs,h,c=>by
  cases c with
  | cons _ hv t =>
  rename_i v' a;obtain ⟨h1,h⟩:=bF.1 (show gj _ _=some cs from h);obtain ⟨d,f,h⟩:=aa9.1 h;cases h;obtain ⟨g,h2,j,l⟩:=Lv r f t;refine ⟨v'++g,?_,hv.append j,by simp [l]⟩;unfold IT;rw [<- hv.length,h1,h2]; rfl
theorem F':∀ {ps a:List (Nat × Xab)},PR ρ ps a->QR ρ (oP ps) (oP a)/\lO a (oP a)
 | _,_,.nil=>⟨.nil,.nil⟩
 | _,_,.cons (v:=v) (v':=v') i hv t=>by
  obtain ⟨h1,h2⟩:=F' t;unfold oP;cases d:BJ v with
  | some c =>
   have:=wb.1 d; subst this
   cases hv with
   | agg hl =>
    refine ⟨.cons i hl h1,?_⟩;exact lO.cons rfl h2
  | none =>
   have b:BJ v'=none:=by
    cases hv <;> first | rfl | (simp [BJ] at d; done)
   rw [b];refine ⟨.cons i (.cons hv .nil) h1,?_⟩;refine lO.cons ?_ h2
   have:fp v'=false:=by
    unfold BJ at b;split at b
    ·cases b
    ·rename_i hn;cases v' <;> first | rfl | (rename_i cs; exact (hn cs.toList rfl).elim)
   exact (zo this)
end
end Go.Sx.Cr
