/- Closed runs, part Jb: structs, slice literals, append. No condition but the store's. -/
import Derived.Test.YtlpcncdglfjnoaaGreatDoorSxJa
set_option linter.all false
set_option maxHeartbeats 4000000
namespace Go.Sx.Cr
inductive PR (ρ:fR):List (Nat × ZB)->List (Nat × ZB)->Prop
 | nil:PR ρ [] []
 | cons (i:Nat) {v v':ZB} {l l':List (Nat × ZB)} (h:VR ρ v v') (t:PR ρ l l'):PR ρ ((i,v)::l) ((i,v')::l')
inductive QR (ρ:fR):List (Nat × List ZB)->List (Nat × List ZB)->Prop
 | nil:QR ρ [] []
 | cons (i:Nat) {v v':List ZB} {l l':List (Nat × List ZB)} (h:dG ρ v v') (t:QR ρ l l'):QR ρ ((i,v)::l) ((i,v')::l')
theorem PR.zip {ρ:fR}:∀ (is:List Nat) {vs vs':List ZB},dG ρ vs vs'->PR ρ (is.zip vs) (is.zip vs')
 | [],_,_,_=>by simp only [List.zip_nil_left]; exact .nil
 | i::is,_,_,.nil=>by simp only [List.zip_nil_right]; exact .nil
 | i::is,_,_,.cons h t=>by simp only [List.zip_cons_cons]; exact .cons i h (PR.zip is t)
theorem dG.rZ {ρ:fR}:∀ {vs vs' l l':List ZB} (i:Nat),dG ρ l l'->dG ρ vs vs'->dG ρ (rZ l i vs) (rZ l' i vs')
 | _,_,_,_,_,h,.nil=>h
 | _,_,_,_,i,h,.cons hv t=>dG.rZ (i+1) (h.set i hv) t
theorem Af {ρ:fR} {place:Nat->Option (Nat × Nat)}:∀ (r:List (Nat × List ZB)) {r':List (Nat × List ZB)} {c c' cs:List ZB},ff place c r=some cs->dG ρ c c'->QR ρ r r'->∃ cs',ff place c' r'=some cs'/\dG ρ cs cs'
 | [],r',c,c',cs,h,hc,hq=>by
  have:some c=some cs:=h
  cases this;cases hq;exact ⟨c',rfl,hc⟩
 | (i,v)::r,r',c,c',cs,h,hc,hq=>by
  cases hq with
  | cons _ hv t =>
  unfold ff at h ⊢;cases hp:place i with
  | none=>rw [hp] at h; cases h
  | some p =>
   obtain ⟨off,size⟩:=p;rw [hp] at h;simp only at h ⊢;rw [<- hv.length,<- hc.length];cases hb:(!Nat.beq v.length size || Nat.blt c.length (off+v.length)) with
   | true=>rw [hb] at h; cases h
   | false =>
    rw [hb] at h;exact Af r h (hc.rZ off hv) t
section
variable {C:Cx} {h0:Hp} {ρ:fR} {s s1:CS} {h:Hp} {e:Ev} {e':Env} {L:Lp} {K:ZB->Hp->Prop} {kk:ZB->T}
theorem wJ {agg:Nat->Option Bool}:∀ {ps ps':List (Nat × ZB)} {r:List (Nat × List ZB)},PR ρ ps ps'->CB agg ps=some r->∃ r',QR ρ r r'/\∀ (k:List (Nat × List ZB)->T) (L:Lp) (K:ZB->Hp->Prop),k r' L K h->eZ agg ps' k L K h
 | _,_,r,.nil,hx=>by
  have:some []=some r:=hx
  cases this;exact ⟨[],.nil,fun k L K hk=>hk⟩
 | _,_,r,.cons (v:=v) (v':=v') (l:=l) (l':=l') i hv t,hx=>by
  obtain ⟨g,hg,hx⟩:=WO.1 (show (agg i).bind _=some r from hx);obtain ⟨c,hc,hx⟩:=WO.1 hx;obtain ⟨q,hq,hx⟩:=WO.1 hx;cases hx;obtain ⟨ha,c',h1,h2⟩:=tk hv hc;obtain ⟨q',h3,h4⟩:=wJ t hq;refine ⟨(i,c')::q',.cons i h1 h3,fun k L K hk=>?_⟩;unfold eZ;subst h2;cases g with
  | true=>simp only [hg,ha,cond_true]; exact h4 _ _ _ hk
  | false=>simp only [hg,ha,cond_false]; exact h4 _ _ _ hk
theorem Ja {t:TypeId} {ps ps':List (Nat × ZB)} {v:ZB} (hp:PR ρ ps ps') (hx:He C.P t ps=some v):∃ v',VR ρ v v'/\∀ (kk:ZB->T) (L:Lp) (K:ZB->Hp->Prop),kk v' L K h ->
  (match C.P.underlying t,(C.P.info? t).bind (·.zero) with
  | some (.struct fs),some z =>
   bif !(fs.all fun (f:Field)=>mz C.P f.type) then T.fail else eZ (fun i=>(fs[i]?).bind fun (f:Field)=>cv C.P f.type) ps' fun ls=>match ff (((fs.map fun (f:Field)=>(f.offset,C.P.cellsOf f.type)))[·]?) z.cells.toList ls with
   | some cs=>kk (.agg cs.toArray)
   | none=>T.fail
  | some (.array _ el),some z =>
   bif !mz C.P el then T.fail else eZ (fun _=>cv C.P el) ps' fun ls=>match ff (fun i=>some (i*C.P.cellsOf el,C.P.cellsOf el)) z.cells.toList ls with
   | some cs=>kk (.agg cs.toArray)
   | none=>T.fail
  | _,_=>T.fail) L K h:=by
 unfold He at hx;obtain ⟨z,hz,hx⟩:=WO.1 hx;obtain ⟨zv,hz1,rfl,hz2⟩:=zn hz;split at hx
 ·rename_i fs hu;unfold Ib at hx;obtain ⟨h1,hx⟩:=bj.1 hx;obtain ⟨ls,hl,hx⟩:=WO.1 hx;obtain ⟨cs,hc,hx⟩:=WO.1 hx;cases hx;obtain ⟨r',h2,h3⟩:=wJ (h:=h) hp hl;obtain ⟨cs',h4,h5⟩:=Af _ hc (hz2 ρ) h2;refine ⟨.agg ⟨cs'⟩,.agg h5,fun kk L K hk=>?_⟩;simp only [hu,hz1,h1,Bool.not_true,cond_false];refine h3 _ _ _ ?_;simp only [h4];exact hk
 ·rename_i n el hu;unfold HF at hx;obtain ⟨h1,hx⟩:=bj.1 hx;obtain ⟨ls,hl,hx⟩:=WO.1 hx;obtain ⟨cs,hc,hx⟩:=WO.1 hx;cases hx;obtain ⟨r',h2,h3⟩:=wJ (h:=h) hp hl;obtain ⟨cs',h4,h5⟩:=Af _ hc (hz2 ρ) h2;refine ⟨.agg ⟨cs'⟩,.agg h5,fun kk L K hk=>?_⟩;simp only [hu,hz1,h1,Bool.not_true,cond_false];refine h3 _ _ _ ?_;simp only [h4];exact hk
 ·cases hx
structure Ha (P:Program) (t:TypeId) (q:El) (i:TypeInfo) (z:ZB):Prop where
 TK:P.underlying t=some (.slice q.e)
 tC:P.info? q.e=some i
 zero:i.zero=some z
 sz:i.size=q.sz
 by_:i.bytes=q.by_
 zl:q.z=z.cells.toList
 zs:z.cells.size=i.size
 pos:1<=q.sz
 flat:∀ ρ,dG ρ q.z q.z
theorem Ca {P:Program} {t:TypeId} {q:El} (hx:Mw P t=some q):∃ i z,Ha P t q i z:=by
 unfold Mw at hx;obtain ⟨e,he,hx⟩:=WO.1 hx;have hu:P.underlying t=some (.slice e):=by
  unfold elemOf at he;split at he
  ·rename_i hh; cases he; exact hh
  ·cases he
 unfold LD at hx;obtain ⟨i,hi,hx⟩:=WO.1 hx;obtain ⟨z,hz,hx⟩:=WO.1 hx;obtain ⟨h1,hx⟩:=bj.1 hx;cases hx;simp only [Bool.and_eq_true] at h1;exact ⟨i,z,hu,hi,hz,rfl,rfl,rfl,W3 h1.1.2,Xi h1.2,fun ρ=>rc (rF 9) _ h1.1.1⟩
theorem E0:∀ (xs:List ZB) (i:Nat) (vs:List ZB),rZ xs i vs=kM xs i vs
 | xs,i,[]=>rfl
 | xs,i,v::vs=>E0 (xs.set i v) (i+1) vs
theorem Bn {sz:Nat}:∀ {r:List (Nat × List ZB)} {i:Nat} {cs A B:List ZB},GF sz i r=some cs->A.length=i*sz->B.length=r.length*sz->ff (fun j=>some (j*sz,sz)) (A++B) r=some (A++cs)
 | [],i,cs,A,B,h,hA,hB=>by
  have:some []=some cs:=h
  cases this
  have:B=[]:=XN (by simpa using hB)
  subst this;rfl
 | (k,c)::r,i,cs,A,B,h,hA,hB=>by
  obtain ⟨h1,h⟩:=bj.1 (show fw _ _=some cs from h);obtain ⟨d,hd,h⟩:=WO.1 h;cases h;simp only [Bool.and_eq_true] at h1;obtain rfl:k=i:=W3 h1.1;have hc:c.length=sz:=W3 h1.2;simp only [List.length_cons,Nat.add_mul,Nat.one_mul] at hB;unfold ff;simp only;have hb1:Nat.beq c.length sz=true:=by rw [hc]; exact Nat.beq_refl _
  have hb2:Nat.blt (A++B).length (k*sz+c.length)=false:=by
   cases hb:Nat.blt (A++B).length (k*sz+c.length) with
   | false=>rfl
   | true =>
    rw [Nat.blt_eq] at hb;rw [WU] at hb; omega
  rw [hb1,hb2];simp only [Bool.not_true,Bool.or_false,cond_false];have hsplit:A++B=A++(B.take sz++B.drop sz):=by rw [Xw]
  rw [E0,hsplit,<- hA,zO (by rw [Xe]; omega),<- Xh];rw [Bn hd (A:=A++c) (by rw [WU,hA,hc,XX,Nat.one_mul]) (by rw [XQ]; omega),Xh]
theorem Ir {sz:Nat}:∀ (r:List (Nat × List ZB)) {r':List (Nat × List ZB)} {i:Nat} {cs:List ZB},GF sz i r=some cs->QR ρ r r'->∃ cs',GF sz i r'=some cs'/\dG ρ cs cs'/\r'.length=r.length
 | [],r',i,cs,h,hq=>by
  have:some []=some cs:=h
  cases this;cases hq;exact ⟨[],rfl,.nil,rfl⟩
 | (k,v)::r,r',i,cs,h,hq=>by
  cases hq with
  | cons _ hv t =>
  rename_i v' r';obtain ⟨h1,h⟩:=bj.1 (show fw _ _=some cs from h);obtain ⟨d,hd,h⟩:=WO.1 h;cases h;obtain ⟨d',h2,h3,h4⟩:=Ir r hd t;refine ⟨v'++d',?_,hv.append h3,by simp [h4]⟩;unfold GF;rw [<- hv.length,h1,h2]; rfl
theorem DM:∀ {ps ps':List (Nat × ZB)},PR ρ ps ps'->QR ρ (Bv ps) (Bv ps')/\kn ps' (Bv ps')
 | _,_,.nil=>⟨.nil,.nil⟩
 | _,_,.cons (v:=v) (v':=v') i hv t=>by
  obtain ⟨h1,h2⟩:=DM t;unfold Bv;cases ha:yH v with
  | some c =>
   have:=uf.1 ha; subst this
   cases hv with
   | agg hl =>
    refine ⟨.cons i hl h1,?_⟩;exact kn.cons rfl h2
  | none =>
   have ha':yH v'=none:=by
    cases hv <;> first | rfl | (simp [yH] at ha; done)
   rw [ha'];refine ⟨.cons i (.cons hv .nil) h1,?_⟩;refine kn.cons ?_ h2
   have:eM v'=false:=by
    unfold yH at ha';split at ha'
    ·cases ha'
    ·rename_i hn;cases v' <;> first | rfl | (rename_i cs; exact (hn cs.toList rfl).elim)
   exact (xp this)
end
end Go.Sx.Cr
