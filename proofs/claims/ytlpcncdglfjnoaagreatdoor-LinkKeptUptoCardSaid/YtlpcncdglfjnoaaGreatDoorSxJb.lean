/- Part of the framework. No condition. -/
import Derived.Test.YtlpcncdglfjnoaaGreatDoorSxJa
set_option linter.all false
set_option maxHeartbeats 4000000
namespace Go.Sx.Cr
inductive PR (ρ:ix):List (Nat × Xab)->List (Nat × Xab)->Prop
 | nil:PR ρ [] []
 | cons (i:Nat) {v v':Xab} {l l':List (Nat × Xab)} (h:VR ρ v v') (t:PR ρ l l'):PR ρ ((i,v)::l) ((i,v')::l')
inductive QR (ρ:ix):List (Nat × List Xab)->List (Nat × List Xab)->Prop
 | nil:QR ρ [] []
 | cons (i:Nat) {v v':List Xab} {l l':List (Nat × List Xab)} (h:eC ρ v v') (t:QR ρ l l'):QR ρ ((i,v)::l) ((i,v')::l')
theorem PR.zip {ρ:ix}:∀ (is:List Nat) {b a:List Xab},eC ρ b a->PR ρ (is.zip b) (is.zip a)
 | [],_,_,_=>by simp only [List.zip_nil_left]; exact .nil
 | i::is,_,_,.nil=>by simp only [List.zip_nil_right]; exact .nil
 | i::is,_,_,.cons h t=>by simp only [List.zip_cons_cons]; exact .cons i h (PR.zip is t)
theorem eC.uy {ρ:ix}:∀ {b a l l':List Xab} (i:Nat),eC ρ l l'->eC ρ b a->eC ρ (uy l i b) (uy l' i a)
 | _,_,_,_,_,h,.nil=>h
 | _,_,_,_,i,h,.cons hv t=>eC.uy (i+1) (h.set i hv) t
theorem BJ {ρ:ix} {place:Nat->Option (Nat × Nat)}:∀ (r:List (Nat × List Xab)) {b:List (Nat × List Xab)} {c c' cs:List Xab},fV place c r=some cs->eC ρ c c'->QR ρ r b->∃ a,fV place c' b=some a/\eC ρ cs a
 | [],b,c,c',cs,h,hc,d=>by
  have:some c=some cs:=h
  cases this;cases d;exact ⟨c',rfl,hc⟩
 | (i,v)::r,b,c,c',cs,h,hc,d=>by
  cases d with
  | cons _ hv t =>
  unfold fV at h ⊢;cases e:place i with
  | none=>rw [e] at h; cases h
  | some p =>
   obtain ⟨off,size⟩:=p;rw [e] at h;simp only at h ⊢;rw [<- hv.length,<- hc.length];cases f:(!Nat.beq v.length size || Nat.blt c.length (off+v.length)) with
   | true=>rw [f] at h; cases h
   | false =>
    rw [f] at h;exact BJ r h (hc.uy off hv) t
section
variable {C:Cx} {h0:Hp} {ρ:ix} {s s1:CS} {h:Hp} {e:Ev} {e':Env} {L:Lp} {K:Xab->Hp->Prop} {kk:Xab->T}
theorem yN {agg:Nat->Option Bool}:∀ {ps b:List (Nat × Xab)} {r:List (Nat × List Xab)},PR ρ ps b->Ei agg ps=some r->∃ d,QR ρ r d/\∀ (k:List (Nat × List Xab)->T) (L:Lp) (K:Xab->Hp->Prop),k d L K h->fK agg b k L K h
 | _,_,r,.nil,a=>by
  have:some []=some r:=a
  cases this;exact ⟨[],.nil,fun k L K hk=>hk⟩
 | _,_,r,.cons (v:=v) (v':=v') (l:=l) (l':=l') i hv t,a=>by
  obtain ⟨g,f,a⟩:=YX.1 (show (agg i).bind _=some r from a);obtain ⟨c,hc,a⟩:=YX.1 a;obtain ⟨q,n,a⟩:=YX.1 a;cases a;obtain ⟨j,c',h1,h2⟩:=vc hv hc;obtain ⟨o,p,m⟩:=yN t n;refine ⟨(i,c')::o,.cons i h1 p,fun k L K hk=>?_⟩;unfold fK;subst h2;cases g with
  | true=>simp only [f,j,cond_true]; exact m _ _ _ hk
  | false=>simp only [f,j,cond_false]; exact m _ _ _ hk
variable {H:TypeId}
def Lf {ps b:List (Nat × Xab)} {v:Xab} (r:PR ρ ps b) (a:Ih C.P H ps=some v):∃ v',VR ρ v v'/\∀ (kk:Xab->T) (L:Lp) (K:Xab->Hp->Prop),kk v' L K h ->
  (match C.P.underlying H,(C.P.info? H).bind (·.zero) with
  | some (.struct l),some z =>
   bif !(l.all fun (f:Field)=>oK C.P f.type) then T.fail else fK (fun i=>(l[i]?).bind fun (f:Field)=>cP C.P f.type) b fun d=>match fV (((l.map fun (f:Field)=>(f.offset,C.P.cellsOf f.type)))[·]?) z.cells.toList d with
   | some cs=>kk (.agg cs.toArray)
   | none=>T.fail
  | some (.array _ g),some z =>
   bif !oK C.P g then T.fail else fK (fun _=>cP C.P g) b fun d=>match fV (fun i=>some (i*C.P.cellsOf g,C.P.cellsOf g)) z.cells.toList d with
   | some cs=>kk (.agg cs.toArray)
   | none=>T.fail
  | _,_=>T.fail) L K h:=by
 unfold Ih at a;obtain ⟨z,u,a⟩:=YX.1 a;obtain ⟨x,j,rfl,k⟩:=BF u;split at a
 ·rename_i l m;unfold JJ at a;obtain ⟨h1,a⟩:=bI.1 a;obtain ⟨d,hl,a⟩:=YX.1 a;obtain ⟨cs,hc,a⟩:=YX.1 a;cases a;obtain ⟨w,h2,o⟩:=yN (h:=h) r hl;obtain ⟨c,p,q⟩:=BJ _ hc (k ρ) h2;refine ⟨.agg ⟨c⟩,.agg q,fun kk L K hk=>?_⟩;simp only [m,j,h1,Bool.not_true,cond_false];refine o _ _ _ ?_;simp only [p];exact hk
 ·rename_i n g m;unfold Jq at a;obtain ⟨h1,a⟩:=bI.1 a;obtain ⟨d,hl,a⟩:=YX.1 a;obtain ⟨cs,hc,a⟩:=YX.1 a;cases a;obtain ⟨w,h2,o⟩:=yN (h:=h) r hl;obtain ⟨c,p,q⟩:=BJ _ hc (k ρ) h2;refine ⟨.agg ⟨c⟩,.agg q,fun kk L K hk=>?_⟩;simp only [m,j,h1,Bool.not_true,cond_false];refine o _ _ _ ?_;simp only [p];exact hk
 ·cases a
structure HO (P:Program) (t:TypeId) (q:El) (i:TypeInfo) (z:Xab):Prop where
 VO:P.underlying t=some (.slice q.e)
 vN:P.info? q.e=some i
 zero:i.zero=some z
 sz:i.size=q.sz
 by_:i.bytes=q.by_
 zl:q.z=z.cells.toList
 zs:z.cells.size=i.size
 pos:1<=q.sz
 flat:∀ ρ,eC ρ q.z q.z
def DQ {P:Program} {q:El} (a:Oj P H=some q):∃ i z,HO P H q i z:=by
 unfold Oj at a;obtain ⟨e,b,a⟩:=YX.1 a;have c:P.underlying H=some (.slice e):=by
  unfold elemOf at b;split at b
  ·rename_i d; cases b; exact d
  ·cases b
 unfold NS at a;obtain ⟨i,hi,a⟩:=YX.1 a;obtain ⟨z,f,a⟩:=YX.1 a;obtain ⟨h1,a⟩:=bI.1 a;cases a;simp only [Bool.and_eq_true] at h1;exact ⟨i,z,c,hi,f,rfl,rfl,rfl,Zd h1.1.2,Zw h1.2,fun ρ=>sx (tY 9) _ h1.1.1⟩
theorem FB:∀ (a:List Xab) (i:Nat) (b:List Xab),uy a i b=gK a i b
 | a,i,[]=>rfl
 | a,i,v::b=>FB (a.set i v) (i+1) b
theorem C7 {sz:Nat}:∀ {r:List (Nat × List Xab)} {i:Nat} {cs A B:List Xab},Ic sz i r=some cs->A.length=i*sz->B.length=r.length*sz->fV (fun j=>some (j*sz,sz)) (A++B) r=some (A++cs)
 | [],i,cs,A,B,h,hA,b=>by
  have:some []=some cs:=h
  cases this
  have:B=[]:=Z6 (by simpa using b)
  subst this;rfl
 | (k,c)::r,i,cs,A,B,h,hA,b=>by
  obtain ⟨h1,h⟩:=bI.1 (show gu _ _=some cs from h);obtain ⟨d,m,h⟩:=YX.1 h;cases h;simp only [Bool.and_eq_true] at h1;obtain rfl:k=i:=Zd h1.1;have hc:c.length=sz:=Zd h1.2;simp only [List.length_cons,Nat.add_mul,Nat.one_mul] at b;unfold fV;simp only;have f:Nat.beq c.length sz=true:=by rw [hc]; exact Nat.beq_refl _
  have g:Nat.blt (A++B).length (k*sz+c.length)=false:=by
   cases l:Nat.blt (A++B).length (k*sz+c.length) with
   | false=>rfl
   | true =>
    rw [Nat.blt_eq] at l;rw [Y0] at l; omega
  rw [f,g];simp only [Bool.not_true,Bool.or_false,cond_false];have a:A++B=A++(B.take sz++B.drop sz):=by rw [ZG]
  rw [FB,a,<- hA,rY (by rw [Zi]; omega),<- Zp];rw [C7 m (A:=A++c) (by rw [Y0,hA,hc,Z5,Nat.one_mul]) (by rw [ZI]; omega),Zp]
theorem KI {sz:Nat}:∀ (r:List (Nat × List Xab)) {a:List (Nat × List Xab)} {i:Nat} {cs:List Xab},Ic sz i r=some cs->QR ρ r a->∃ b,Ic sz i a=some b/\eC ρ cs b/\a.length=r.length
 | [],a,i,cs,h,c=>by
  have:some []=some cs:=h
  cases this;cases c;exact ⟨[],rfl,.nil,rfl⟩
 | (k,v)::r,a,i,cs,h,c=>by
  cases c with
  | cons _ hv t =>
  rename_i v' a;obtain ⟨h1,h⟩:=bI.1 (show gu _ _=some cs from h);obtain ⟨d,f,h⟩:=YX.1 h;cases h;obtain ⟨g,h2,j,l⟩:=KI r f t;refine ⟨v'++g,?_,hv.append j,by simp [l]⟩;unfold Ic;rw [<- hv.length,h1,h2]; rfl
theorem FI:∀ {ps a:List (Nat × Xab)},PR ρ ps a->QR ρ (CQ ps) (CQ a)/\lQ a (CQ a)
 | _,_,.nil=>⟨.nil,.nil⟩
 | _,_,.cons (v:=v) (v':=v') i hv t=>by
  obtain ⟨h1,h2⟩:=FI t;unfold CQ;cases d:Br v with
  | some c =>
   have:=wH.1 d; subst this
   cases hv with
   | agg hl =>
    refine ⟨.cons i hl h1,?_⟩;exact lQ.cons rfl h2
  | none =>
   have b:Br v'=none:=by
    cases hv <;> first | rfl | (simp [Br] at d; done)
   rw [b];refine ⟨.cons i (.cons hv .nil) h1,?_⟩;refine lQ.cons ?_ h2
   have:fw v'=false:=by
    unfold Br at b;split at b
    ·cases b
    ·rename_i hn;cases v' <;> first | rfl | (rename_i cs; exact (hn cs.toList rfl).elim)
   exact (zp this)
end
end Go.Sx.Cr
