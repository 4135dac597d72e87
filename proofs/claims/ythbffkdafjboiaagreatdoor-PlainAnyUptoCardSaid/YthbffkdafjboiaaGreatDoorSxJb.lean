/- Part of the framework. No condition. -/
import Derived.Test.YthbffkdafjboiaaGreatDoorSxJa
set_option linter.all false
set_option maxHeartbeats 4000000
namespace Go.Sx.Cr
inductive PR (ρ:gF):List (Nat × Xab)->List (Nat × Xab)->Prop
 | nil:PR ρ [] []
 | cons (i:Nat) {v v':Xab} {l l':List (Nat × Xab)} (h:VR ρ v v') (t:PR ρ l l'):PR ρ ((i,v)::l) ((i,v')::l')
inductive QR (ρ:gF):List (Nat × List Xab)->List (Nat × List Xab)->Prop
 | nil:QR ρ [] []
 | cons (i:Nat) {v v':List Xab} {l l':List (Nat × List Xab)} (h:dS ρ v v') (t:QR ρ l l'):QR ρ ((i,v)::l) ((i,v')::l')
theorem PR.zip {ρ:gF}:∀ (is:List Nat) {vs vs':List Xab},dS ρ vs vs'->PR ρ (is.zip vs) (is.zip vs')
 | [],_,_,_=>by simp only [List.zip_nil_left]; exact .nil
 | i::is,_,_,.nil=>by simp only [List.zip_nil_right]; exact .nil
 | i::is,_,_,.cons h t=>by simp only [List.zip_cons_cons]; exact .cons i h (PR.zip is t)
theorem dS.sZ {ρ:gF}:∀ {vs vs' l l':List Xab} (i:Nat),dS ρ l l'->dS ρ vs vs'->dS ρ (sZ l i vs) (sZ l' i vs')
 | _,_,_,_,_,h,.nil=>h
 | _,_,_,_,i,h,.cons hv t=>dS.sZ (i+1) (h.set i hv) t
theorem AS {ρ:gF} {place:Nat->Option (Nat × Nat)}:∀ (r:List (Nat × List Xab)) {j:List (Nat × List Xab)} {c c' cs:List Xab},fx place c r=some cs->dS ρ c c'->QR ρ r j->∃ d,fx place c' j=some d/\dS ρ cs d
 | [],j,c,c',cs,h,hc,u=>by
  have:some c=some cs:=h
  cases this;cases u;exact ⟨c',rfl,hc⟩
 | (i,v)::r,j,c,c',cs,h,hc,u=>by
  cases u with
  | cons _ hv t =>
  unfold fx at h ⊢;cases F:place i with
  | none=>rw [F] at h; cases h
  | some p =>
   obtain ⟨off,size⟩:=p;rw [F] at h;simp only at h ⊢;rw [<- hv.length,<- hc.length];cases G:(!Nat.beq v.length size || Nat.blt c.length (off+v.length)) with
   | true=>rw [G] at h; cases h
   | false =>
    rw [G] at h;exact AS r h (hc.sZ off hv) t
section
variable {C:Cx} {h0:Hp} {ρ:gF} {s s1:CS} {h:Hp} {e:Ev} {e':Env} {L:Lp} {K:Xab->Hp->Prop} {kk:Xab->T}
theorem xG {agg:Nat->Option Bool}:∀ {ps d:List (Nat × Xab)} {r:List (Nat × List Xab)},PR ρ ps d->Dl agg ps=some r->∃ j,QR ρ r j/\∀ (k:List (Nat × List Xab)->T) (L:Lp) (K:Xab->Hp->Prop),k j L K h->fh agg d k L K h
 | _,_,r,.nil,hx=>by
  have:some []=some r:=hx
  cases this;exact ⟨[],.nil,fun k L K hk=>hk⟩
 | _,_,r,.cons (v:=v) (v':=v') (l:=l) (l':=l') i hv t,hx=>by
  obtain ⟨g,u,hx⟩:=Yt.1 (show (agg i).bind _=some r from hx);obtain ⟨c,hc,hx⟩:=Yt.1 hx;obtain ⟨q,G,hx⟩:=Yt.1 hx;cases hx;obtain ⟨F,c',h1,h2⟩:=tT hv hc;obtain ⟨J,h3,h4⟩:=xG t G;refine ⟨(i,c')::J,.cons i h1 h3,fun k L K hk=>?_⟩;unfold fh;subst h2;cases g with
  | true=>simp only [u,F,cond_true]; exact h4 _ _ _ hk
  | false=>simp only [u,F,cond_false]; exact h4 _ _ _ hk
def Kc {t:TypeId} {ps d:List (Nat × Xab)} {v:Xab} (O:PR ρ ps d) (hx:He C.P t ps=some v):∃ v',VR ρ v v'/\∀ (kk:Xab->T) (L:Lp) (K:Xab->Hp->Prop),kk v' L K h ->
  (match C.P.underlying t,(C.P.info? t).bind (·.zero) with
  | some (.struct fs),some z =>
   bif !(fs.all fun (f:Field)=>nN C.P f.type) then T.fail else fh (fun i=>(fs[i]?).bind fun (f:Field)=>cH C.P f.type) d fun u=>match fx (((fs.map fun (f:Field)=>(f.offset,C.P.cellsOf f.type)))[·]?) z.cells.toList u with
   | some cs=>kk (.agg cs.toArray)
   | none=>T.fail
  | some (.array _ F),some z =>
   bif !nN C.P F then T.fail else fh (fun _=>cH C.P F) d fun u=>match fx (fun i=>some (i*C.P.cellsOf F,C.P.cellsOf F)) z.cells.toList u with
   | some cs=>kk (.agg cs.toArray)
   | none=>T.fail
  | _,_=>T.fail) L K h:=by
 unfold He at hx;obtain ⟨z,U,hx⟩:=Yt.1 hx;obtain ⟨X,G,rfl,J⟩:=AN U;split at hx
 ·rename_i fs hu;unfold IB at hx;obtain ⟨h1,hx⟩:=bF.1 hx;obtain ⟨u,hl,hx⟩:=Yt.1 hx;obtain ⟨cs,hc,hx⟩:=Yt.1 hx;cases hx;obtain ⟨V,h2,h3⟩:=xG (h:=h) O hl;obtain ⟨j,h4,h5⟩:=AS _ hc (J ρ) h2;refine ⟨.agg ⟨j⟩,.agg h5,fun kk L K hk=>?_⟩;simp only [hu,G,h1,Bool.not_true,cond_false];refine h3 _ _ _ ?_;simp only [h4];exact hk
 ·rename_i n F hu;unfold Ig at hx;obtain ⟨h1,hx⟩:=bF.1 hx;obtain ⟨u,hl,hx⟩:=Yt.1 hx;obtain ⟨cs,hc,hx⟩:=Yt.1 hx;cases hx;obtain ⟨V,h2,h3⟩:=xG (h:=h) O hl;obtain ⟨j,h4,h5⟩:=AS _ hc (J ρ) h2;refine ⟨.agg ⟨j⟩,.agg h5,fun kk L K hk=>?_⟩;simp only [hu,G,h1,Bool.not_true,cond_false];refine h3 _ _ _ ?_;simp only [h4];exact hk
 ·cases hx
structure GN (P:Program) (t:TypeId) (q:El) (i:TypeInfo) (z:Xab):Prop where
 Vf:P.underlying t=some (.slice q.e)
 ul:P.info? q.e=some i
 zero:i.zero=some z
 sz:i.size=q.sz
 by_:i.bytes=q.by_
 zl:q.z=z.cells.toList
 zs:z.cells.size=i.size
 pos:1<=q.sz
 flat:∀ ρ,dS ρ q.z q.z
def C0 {P:Program} {t:TypeId} {q:El} (hx:Nq P t=some q):∃ i z,GN P t q i z:=by
 unfold Nq at hx;obtain ⟨e,d,hx⟩:=Yt.1 hx;have hu:P.underlying t=some (.slice e):=by
  unfold elemOf at d;split at d
  ·rename_i j; cases d; exact j
  ·cases d
 unfold MS at hx;obtain ⟨i,hi,hx⟩:=Yt.1 hx;obtain ⟨z,u,hx⟩:=Yt.1 hx;obtain ⟨h1,hx⟩:=bF.1 hx;cases hx;simp only [Bool.and_eq_true] at h1;exact ⟨i,z,hu,hi,u,rfl,rfl,rfl,YL h1.1.2,Y2 h1.2,fun ρ=>qW (sF 9) _ h1.1.1⟩
theorem Et:∀ (xs:List Xab) (i:Nat) (vs:List Xab),sZ xs i vs=lh xs i vs
 | xs,i,[]=>rfl
 | xs,i,v::vs=>Et (xs.set i v) (i+1) vs
theorem Ce {sz:Nat}:∀ {r:List (Nat × List Xab)} {i:Nat} {cs A B:List Xab},Hb sz i r=some cs->A.length=i*sz->B.length=r.length*sz->fx (fun j=>some (j*sz,sz)) (A++B) r=some (A++cs)
 | [],i,cs,A,B,h,F,G=>by
  have:some []=some cs:=h
  cases this
  have:B=[]:=Zf (by simpa using G)
  subst this;rfl
 | (k,c)::r,i,cs,A,B,h,F,G=>by
  obtain ⟨h1,h⟩:=bF.1 (show fF _ _=some cs from h);obtain ⟨d,V,h⟩:=Yt.1 h;cases h;simp only [Bool.and_eq_true] at h1;obtain rfl:k=i:=YL h1.1;have hc:c.length=sz:=YL h1.2;simp only [List.length_cons,Nat.add_mul,Nat.one_mul] at G;unfold fx;simp only;have J:Nat.beq c.length sz=true:=by rw [hc]; exact Nat.beq_refl _
  have O:Nat.blt (A++B).length (k*sz+c.length)=false:=by
   cases U:Nat.blt (A++B).length (k*sz+c.length) with
   | false=>rfl
   | true =>
    rw [Nat.blt_eq] at U;rw [Yy] at U; omega
  rw [J,O];simp only [Bool.not_true,Bool.or_false,cond_false];have u:A++B=A++(B.take sz++B.drop sz):=by rw [Zc]
  rw [Et,u,<- F,zi (by rw [YQ]; omega),<- YV];rw [Ce V (A:=A++c) (by rw [Yy,F,hc,ZA,Nat.one_mul]) (by rw [Zl]; omega),YV]
theorem JF {sz:Nat}:∀ (r:List (Nat × List Xab)) {j:List (Nat × List Xab)} {i:Nat} {cs:List Xab},Hb sz i r=some cs->QR ρ r j->∃ u,Hb sz i j=some u/\dS ρ cs u/\j.length=r.length
 | [],j,i,cs,h,F=>by
  have:some []=some cs:=h
  cases this;cases F;exact ⟨[],rfl,.nil,rfl⟩
 | (k,v)::r,j,i,cs,h,F=>by
  cases F with
  | cons _ hv t =>
  rename_i v' j;obtain ⟨h1,h⟩:=bF.1 (show fF _ _=some cs from h);obtain ⟨d,G,h⟩:=Yt.1 h;cases h;obtain ⟨d',h2,h3,h4⟩:=JF r G t;refine ⟨v'++d',?_,hv.append h3,by simp [h4]⟩;unfold Hb;rw [<- hv.length,h1,h2]; rfl
theorem EE:∀ {ps d:List (Nat × Xab)},PR ρ ps d->QR ρ (BY ps) (BY d)/\lp d (BY d)
 | _,_,.nil=>⟨.nil,.nil⟩
 | _,_,.cons (v:=v) (v':=v') i hv t=>by
  obtain ⟨h1,h2⟩:=EE t;unfold BY;cases u:AB v with
  | some c =>
   have:=uX.1 u; subst this
   cases hv with
   | agg hl =>
    refine ⟨.cons i hl h1,?_⟩;exact lp.cons rfl h2
  | none =>
   have j:AB v'=none:=by
    cases hv <;> first | rfl | (simp [AB] at u; done)
   rw [j];refine ⟨.cons i (.cons hv .nil) h1,?_⟩;refine lp.cons ?_ h2
   have:eS v'=false:=by
    unfold AB at j;split at j
    ·cases j
    ·rename_i hn;cases v' <;> first | rfl | (rename_i cs; exact (hn cs.toList rfl).elim)
   exact (yh this)
end
end Go.Sx.Cr
