/- Part of the framework. No condition. -/
import Derived.Test.YthbffkdafjboiaaGreatDoorSxJa
set_option linter.all false
set_option maxHeartbeats 4000000
namespace Go.Sx.Cr
inductive PR (ρ:gn):List (Nat × Xab)->List (Nat × Xab)->Prop
 | nil:PR ρ [] []
 | cons (i:Nat) {v v':Xab} {l l':List (Nat × Xab)} (h:VR ρ v v') (t:PR ρ l l'):PR ρ ((i,v)::l) ((i,v')::l')
inductive QR (ρ:gn):List (Nat × List Xab)->List (Nat × List Xab)->Prop
 | nil:QR ρ [] []
 | cons (i:Nat) {v v':List Xab} {l l':List (Nat × List Xab)} (h:dS ρ v v') (t:QR ρ l l'):QR ρ ((i,v)::l) ((i,v')::l')
theorem PR.zip {ρ:gn}:∀ (is:List Nat) {vs vs':List Xab},dS ρ vs vs'->PR ρ (is.zip vs) (is.zip vs')
 | [],_,_,_=>by simp only [List.zip_nil_left]; exact .nil
 | i::is,_,_,.nil=>by simp only [List.zip_nil_right]; exact .nil
 | i::is,_,_,.cons h t=>by simp only [List.zip_cons_cons]; exact .cons i h (PR.zip is t)
theorem dS.sL {ρ:gn}:∀ {vs vs' l l':List Xab} (i:Nat),dS ρ l l'->dS ρ vs vs'->dS ρ (sL l i vs) (sL l' i vs')
 | _,_,_,_,_,h,.nil=>h
 | _,_,_,_,i,h,.cons hv t=>dS.sL (i+1) (h.set i hv) t
theorem AA {ρ:gn} {place:Nat->Option (Nat × Nat)}:∀ (r:List (Nat × List Xab)) {r':List (Nat × List Xab)} {c c' cs:List Xab},fA place c r=some cs->dS ρ c c'->QR ρ r r'->∃ j,fA place c' r'=some j/\dS ρ cs j
 | [],r',c,c',cs,h,hc,u=>by
  have:some c=some cs:=h
  cases this;cases u;exact ⟨c',rfl,hc⟩
 | (i,v)::r,r',c,c',cs,h,hc,u=>by
  cases u with
  | cons _ hv t =>
  unfold fA at h ⊢;cases G:place i with
  | none=>rw [G] at h; cases h
  | some p =>
   obtain ⟨off,size⟩:=p;rw [G] at h;simp only at h ⊢;rw [<- hv.length,<- hc.length];cases hb:(!Nat.beq v.length size || Nat.blt c.length (off+v.length)) with
   | true=>rw [hb] at h; cases h
   | false =>
    rw [hb] at h;exact AA r h (hc.sL off hv) t
section
variable {C:Cx} {h0:Hp} {ρ:gn} {s s1:CS} {h:Hp} {e:Ev} {e':Env} {L:Lp} {K:Xab->Hp->Prop} {kk:Xab->T}
theorem xu {agg:Nat->Option Bool}:∀ {ps j:List (Nat × Xab)} {r:List (Nat × List Xab)},PR ρ ps j->C4 agg ps=some r->∃ r',QR ρ r r'/\∀ (k:List (Nat × List Xab)->T) (L:Lp) (K:Xab->Hp->Prop),k r' L K h->fm agg j k L K h
 | _,_,r,.nil,hx=>by
  have:some []=some r:=hx
  cases this;exact ⟨[],.nil,fun k L K hk=>hk⟩
 | _,_,r,.cons (v:=v) (v':=v') (l:=l) (l':=l') i hv t,hx=>by
  obtain ⟨g,u,hx⟩:=YZ.1 (show (agg i).bind _=some r from hx);obtain ⟨c,hc,hx⟩:=YZ.1 hx;obtain ⟨q,J,hx⟩:=YZ.1 hx;cases hx;obtain ⟨G,c',h1,h2⟩:=tE hv hc;obtain ⟨O,h3,h4⟩:=xu t J;refine ⟨(i,c')::O,.cons i h1 h3,fun k L K hk=>?_⟩;unfold fm;subst h2;cases g with
  | true=>simp only [u,G,cond_true]; exact h4 _ _ _ hk
  | false=>simp only [u,G,cond_false]; exact h4 _ _ _ hk
def JP {t:TypeId} {ps j:List (Nat × Xab)} {v:Xab} (V:PR ρ ps j) (hx:GZ C.P t ps=some v):∃ v',VR ρ v v'/\∀ (kk:Xab->T) (L:Lp) (K:Xab->Hp->Prop),kk v' L K h ->
  (match C.P.underlying t,(C.P.info? t).bind (·.zero) with
  | some (.struct fs),some z =>
   bif !(fs.all fun (f:Field)=>nq C.P f.type) then T.fail else fm (fun i=>(fs[i]?).bind fun (f:Field)=>cF C.P f.type) j fun G=>match fA (((fs.map fun (f:Field)=>(f.offset,C.P.cellsOf f.type)))[·]?) z.cells.toList G with
   | some cs=>kk (.agg cs.toArray)
   | none=>T.fail
  | some (.array _ J),some z =>
   bif !nq C.P J then T.fail else fm (fun _=>cF C.P J) j fun G=>match fA (fun i=>some (i*C.P.cellsOf J,C.P.cellsOf J)) z.cells.toList G with
   | some cs=>kk (.agg cs.toArray)
   | none=>T.fail
  | _,_=>T.fail) L K h:=by
 unfold GZ at hx;obtain ⟨z,X,hx⟩:=YZ.1 hx;obtain ⟨Y,O,rfl,U⟩:=Aw X;split at hx
 ·rename_i fs hu;unfold Ik at hx;obtain ⟨h1,hx⟩:=bq.1 hx;obtain ⟨G,hl,hx⟩:=YZ.1 hx;obtain ⟨cs,hc,hx⟩:=YZ.1 hx;cases hx;obtain ⟨r',h2,h3⟩:=xu (h:=h) V hl;obtain ⟨u,h4,h5⟩:=AA _ hc (U ρ) h2;refine ⟨.agg ⟨u⟩,.agg h5,fun kk L K hk=>?_⟩;simp only [hu,O,h1,Bool.not_true,cond_false];refine h3 _ _ _ ?_;simp only [h4];exact hk
 ·rename_i n J hu;unfold H0 at hx;obtain ⟨h1,hx⟩:=bq.1 hx;obtain ⟨G,hl,hx⟩:=YZ.1 hx;obtain ⟨cs,hc,hx⟩:=YZ.1 hx;cases hx;obtain ⟨r',h2,h3⟩:=xu (h:=h) V hl;obtain ⟨u,h4,h5⟩:=AA _ hc (U ρ) h2;refine ⟨.agg ⟨u⟩,.agg h5,fun kk L K hk=>?_⟩;simp only [hu,O,h1,Bool.not_true,cond_false];refine h3 _ _ _ ?_;simp only [h4];exact hk
 ·cases hx
structure Gw (P:Program) (t:TypeId) (q:El) (i:TypeInfo) (z:Xab):Prop where
 U0:P.underlying t=some (.slice q.e)
 tW:P.info? q.e=some i
 zero:i.zero=some z
 sz:i.size=q.sz
 by_:i.bytes=q.by_
 zl:q.z=z.cells.toList
 zs:z.cells.size=i.size
 pos:1<=q.sz
 flat:∀ ρ,dS ρ q.z q.z
def CF {P:Program} {t:TypeId} {q:El} (hx:MX P t=some q):∃ i z,Gw P t q i z:=by
 unfold MX at hx;obtain ⟨e,j,hx⟩:=YZ.1 hx;have hu:P.underlying t=some (.slice e):=by
  unfold elemOf at j;split at j
  ·rename_i u; cases j; exact u
  ·cases j
 unfold Mq at hx;obtain ⟨i,hi,hx⟩:=YZ.1 hx;obtain ⟨z,G,hx⟩:=YZ.1 hx;obtain ⟨h1,hx⟩:=bq.1 hx;cases hx;simp only [Bool.and_eq_true] at h1;exact ⟨i,z,hu,hi,G,rfl,rfl,rfl,Zf h1.1.2,Zw h1.2,fun ρ=>qF (r5 9) _ h1.1.1⟩
theorem Ed:∀ (xs:List Xab) (i:Nat) (vs:List Xab),sL xs i vs=lz xs i vs
 | xs,i,[]=>rfl
 | xs,i,v::vs=>Ed (xs.set i v) (i+1) vs
theorem BS {sz:Nat}:∀ {r:List (Nat × List Xab)} {i:Nat} {cs A B:List Xab},GW sz i r=some cs->A.length=i*sz->B.length=r.length*sz->fA (fun j=>some (j*sz,sz)) (A++B) r=some (A++cs)
 | [],i,cs,A,B,h,G,J=>by
  have:some []=some cs:=h
  cases this
  have:B=[]:=Z4 (by simpa using J)
  subst this;rfl
 | (k,c)::r,i,cs,A,B,h,G,J=>by
  obtain ⟨h1,h⟩:=bq.1 (show fM _ _=some cs from h);obtain ⟨d,V,h⟩:=YZ.1 h;cases h;simp only [Bool.and_eq_true] at h1;obtain rfl:k=i:=Zf h1.1;have hc:c.length=sz:=Zf h1.2;simp only [List.length_cons,Nat.add_mul,Nat.one_mul] at J;unfold fA;simp only;have O:Nat.beq c.length sz=true:=by rw [hc]; exact Nat.beq_refl _
  have U:Nat.blt (A++B).length (k*sz+c.length)=false:=by
   cases hb:Nat.blt (A++B).length (k*sz+c.length) with
   | false=>rfl
   | true =>
    rw [Nat.blt_eq] at hb;rw [Y4] at hb; omega
  rw [O,U];simp only [Bool.not_true,Bool.or_false,cond_false];have u:A++B=A++(B.take sz++B.drop sz):=by rw [ZL]
  rw [Ed,u,<- G,zc (by rw [Zp]; omega),<- Zr];rw [BS V (A:=A++c) (by rw [Y4,G,hc,Z9,Nat.one_mul]) (by rw [Z2]; omega),Zr]
theorem Jj {sz:Nat}:∀ (r:List (Nat × List Xab)) {r':List (Nat × List Xab)} {i:Nat} {cs:List Xab},GW sz i r=some cs->QR ρ r r'->∃ j,GW sz i r'=some j/\dS ρ cs j/\r'.length=r.length
 | [],r',i,cs,h,u=>by
  have:some []=some cs:=h
  cases this;cases u;exact ⟨[],rfl,.nil,rfl⟩
 | (k,v)::r,r',i,cs,h,u=>by
  cases u with
  | cons _ hv t =>
  rename_i v' r';obtain ⟨h1,h⟩:=bq.1 (show fM _ _=some cs from h);obtain ⟨d,G,h⟩:=YZ.1 h;cases h;obtain ⟨d',h2,h3,h4⟩:=Jj r G t;refine ⟨v'++d',?_,hv.append h3,by simp [h4]⟩;unfold GW;rw [<- hv.length,h1,h2]; rfl
theorem En:∀ {ps j:List (Nat × Xab)},PR ρ ps j->QR ρ (BC ps) (BC j)/\kX j (BC j)
 | _,_,.nil=>⟨.nil,.nil⟩
 | _,_,.cons (v:=v) (v':=v') i hv t=>by
  obtain ⟨h1,h2⟩:=En t;unfold BC;cases G:Al v with
  | some c =>
   have:=uI.1 G; subst this
   cases hv with
   | agg hl =>
    refine ⟨.cons i hl h1,?_⟩;exact kX.cons rfl h2
  | none =>
   have u:Al v'=none:=by
    cases hv <;> first | rfl | (simp [Al] at G; done)
   rw [u];refine ⟨.cons i (.cons hv .nil) h1,?_⟩;refine kX.cons ?_ h2
   have:eY v'=false:=by
    unfold Al at u;split at u
    ·cases u
    ·rename_i hn;cases v' <;> first | rfl | (rename_i cs; exact (hn cs.toList rfl).elim)
   exact (xV this)
end
end Go.Sx.Cr
