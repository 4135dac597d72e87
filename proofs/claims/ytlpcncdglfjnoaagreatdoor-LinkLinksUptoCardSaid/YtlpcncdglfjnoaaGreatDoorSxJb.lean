/- Closed runs, part Jb: structs, slice literals, append. No condition but the store's. -/
import Derived.Test.YtlpcncdglfjnoaaGreatDoorSxJa
set_option linter.all false
set_option maxHeartbeats 4000000
namespace Go.Sx.Cr
inductive PR (ρ:fZ):List (Nat × YB)->List (Nat × YB)->Prop
 | nil:PR ρ [] []
 | cons (i:Nat) {v v':YB} {l l':List (Nat × YB)} (h:VR ρ v v') (t:PR ρ l l'):PR ρ ((i,v)::l) ((i,v')::l')
inductive QR (ρ:fZ):List (Nat × List YB)->List (Nat × List YB)->Prop
 | nil:QR ρ [] []
 | cons (i:Nat) {v v':List YB} {l l':List (Nat × List YB)} (h:dL ρ v v') (t:QR ρ l l'):QR ρ ((i,v)::l) ((i,v')::l')
theorem PR.zip {ρ:fZ}:∀ (is:List Nat) {vs vs':List YB},dL ρ vs vs'->PR ρ (is.zip vs) (is.zip vs')
 | [],_,_,_=>by simp only [List.zip_nil_left]; exact .nil
 | i::is,_,_,.nil=>by simp only [List.zip_nil_right]; exact .nil
 | i::is,_,_,.cons h t=>by simp only [List.zip_cons_cons]; exact .cons i h (PR.zip is t)
theorem dL.rY {ρ:fZ}:∀ {vs vs' l l':List YB} (i:Nat),dL ρ l l'->dL ρ vs vs'->dL ρ (rY l i vs) (rY l' i vs')
 | _,_,_,_,_,h,.nil=>h
 | _,_,_,_,i,h,.cons hv t=>dL.rY (i+1) (h.set i hv) t
theorem yX {ρ:fZ} {place:Nat->Option (Nat × Nat)}:∀ (r:List (Nat × List YB)) {r':List (Nat × List YB)} {c c' cs:List YB},fh place c r=some cs->dL ρ c c'->QR ρ r r'->∃ cs',fh place c' r'=some cs'/\dL ρ cs cs'
 | [],r',c,c',cs,h,hc,hq=>by
  have:some c=some cs:=h
  cases this;cases hq;exact ⟨c',rfl,hc⟩
 | (i,v)::r,r',c,c',cs,h,hc,hq=>by
  cases hq with
  | cons _ hv t =>
  unfold fh at h ⊢;cases hp:place i with
  | none=>rw [hp] at h; cases h
  | some p =>
   obtain ⟨off,size⟩:=p;rw [hp] at h;simp only at h ⊢;rw [<- hv.length,<- hc.length];cases hb:(!Nat.beq v.length size || Nat.blt c.length (off+v.length)) with
   | true=>rw [hb] at h; cases h
   | false =>
    rw [hb] at h;exact yX r h (hc.rY off hv) t
section
variable {C:Cx} {h0:Hp} {ρ:fZ} {s s1:CS} {h:Hp} {e:Ev} {e':Env} {L:Lp} {K:YB->Hp->Prop} {kk:YB->T}
theorem wc {agg:Nat->Option Bool}:∀ {ps ps':List (Nat × YB)} {r:List (Nat × List YB)},PR ρ ps ps'->CH agg ps=some r->∃ r',QR ρ r r'/\∀ (k:List (Nat × List YB)->T) (L:Lp) (K:YB->Hp->Prop),k r' L K h->eX agg ps' k L K h
 | _,_,r,.nil,hx=>by
  have:some []=some r:=hx
  cases this;exact ⟨[],.nil,fun k L K hk=>hk⟩
 | _,_,r,.cons (v:=v) (v':=v') (l:=l) (l':=l') i hv t,hx=>by
  obtain ⟨g,hg,hx⟩:=Wq.1 (show (agg i).bind _=some r from hx);obtain ⟨c,hc,hx⟩:=Wq.1 hx;obtain ⟨q,hq,hx⟩:=Wq.1 hx;cases hx;obtain ⟨ha,c',h1,h2⟩:=tg hv hc;obtain ⟨q',h3,h4⟩:=wc t hq;refine ⟨(i,c')::q',.cons i h1 h3,fun k L K hk=>?_⟩;unfold eX;subst h2;cases g with
  | true=>simp only [hg,ha,cond_true]; exact h4 _ _ _ hk
  | false=>simp only [hg,ha,cond_false]; exact h4 _ _ _ hk
theorem I2 {t:TypeId} {ps ps':List (Nat × YB)} {v:YB} (hp:PR ρ ps ps') (hx:FV C.P t ps=some v):∃ v',VR ρ v v'/\∀ (kk:YB->T) (L:Lp) (K:YB->Hp->Prop),kk v' L K h ->
  (match C.P.underlying t,(C.P.info? t).bind (·.zero) with
  | some (.struct fs),some z =>
   bif !(fs.all fun (f:Field)=>mM C.P f.type) then T.fail else eX (fun i=>(fs[i]?).bind fun (f:Field)=>cw C.P f.type) ps' fun ls=>match fh (((fs.map fun (f:Field)=>(f.offset,C.P.cellsOf f.type)))[·]?) z.cells.toList ls with
   | some cs=>kk (.agg cs.toArray)
   | none=>T.fail
  | some (.array _ el),some z =>
   bif !mM C.P el then T.fail else eX (fun _=>cw C.P el) ps' fun ls=>match fh (fun i=>some (i*C.P.cellsOf el,C.P.cellsOf el)) z.cells.toList ls with
   | some cs=>kk (.agg cs.toArray)
   | none=>T.fail
  | _,_=>T.fail) L K h:=by
 unfold FV at hx;obtain ⟨z,hz,hx⟩:=Wq.1 hx;obtain ⟨zv,hz1,rfl,hz2⟩:=zc hz;split at hx
 ·rename_i fs hu;unfold HX at hx;obtain ⟨h1,hx⟩:=bn.1 hx;obtain ⟨ls,hl,hx⟩:=Wq.1 hx;obtain ⟨cs,hc,hx⟩:=Wq.1 hx;cases hx;obtain ⟨r',h2,h3⟩:=wc (h:=h) hp hl;obtain ⟨cs',h4,h5⟩:=yX _ hc (hz2 ρ) h2;refine ⟨.agg ⟨cs'⟩,.agg h5,fun kk L K hk=>?_⟩;simp only [hu,hz1,h1,Bool.not_true,cond_false];refine h3 _ _ _ ?_;simp only [h4];exact hk
 ·rename_i n el hu;unfold HJ at hx;obtain ⟨h1,hx⟩:=bn.1 hx;obtain ⟨ls,hl,hx⟩:=Wq.1 hx;obtain ⟨cs,hc,hx⟩:=Wq.1 hx;cases hx;obtain ⟨r',h2,h3⟩:=wc (h:=h) hp hl;obtain ⟨cs',h4,h5⟩:=yX _ hc (hz2 ρ) h2;refine ⟨.agg ⟨cs'⟩,.agg h5,fun kk L K hk=>?_⟩;simp only [hu,hz1,h1,Bool.not_true,cond_false];refine h3 _ _ _ ?_;simp only [h4];exact hk
 ·cases hx
structure Gy (P:Program) (t:TypeId) (q:El) (i:TypeInfo) (z:YB):Prop where
 Tr:P.underlying t=some (.slice q.e)
 sQ:P.info? q.e=some i
 zero:i.zero=some z
 sz:i.size=q.sz
 by_:i.bytes=q.by_
 zl:q.z=z.cells.toList
 zs:z.cells.size=i.size
 pos:1<=q.sz
 flat:∀ ρ,dL ρ q.z q.z
theorem CN {P:Program} {t:TypeId} {q:El} (hx:Ku P t=some q):∃ i z,Gy P t q i z:=by
 unfold Ku at hx;obtain ⟨e,he,hx⟩:=Wq.1 hx;have hu:P.underlying t=some (.slice e):=by
  unfold elemOf at he;split at he
  ·rename_i hh; cases he; exact hh
  ·cases he
 unfold Lm at hx;obtain ⟨i,hi,hx⟩:=Wq.1 hx;obtain ⟨z,hz,hx⟩:=Wq.1 hx;obtain ⟨h1,hx⟩:=bn.1 hx;cases hx;simp only [Bool.and_eq_true] at h1;exact ⟨i,z,hu,hi,hz,rfl,rfl,rfl,WD h1.1.2,WW h1.2,fun ρ=>qq (rP 9) _ h1.1.1⟩
theorem EP:∀ (xs:List YB) (i:Nat) (vs:List YB),rY xs i vs=lG xs i vs
 | xs,i,[]=>rfl
 | xs,i,v::vs=>EP (xs.set i v) (i+1) vs
theorem Be {sz:Nat}:∀ {r:List (Nat × List YB)} {i:Nat} {cs A B:List YB},FT sz i r=some cs->A.length=i*sz->B.length=r.length*sz->fh (fun j=>some (j*sz,sz)) (A++B) r=some (A++cs)
 | [],i,cs,A,B,h,hA,hB=>by
  have:some []=some cs:=h
  cases this
  have:B=[]:=Xr (by simpa using hB)
  subst this;rfl
 | (k,c)::r,i,cs,A,B,h,hA,hB=>by
  obtain ⟨h1,h⟩:=bn.1 (show fz _ _=some cs from h);obtain ⟨d,hd,h⟩:=Wq.1 h;cases h;simp only [Bool.and_eq_true] at h1;obtain rfl:k=i:=WD h1.1;have hc:c.length=sz:=WD h1.2;simp only [List.length_cons,Nat.add_mul,Nat.one_mul] at hB;unfold fh;simp only;have hb1:Nat.beq c.length sz=true:=by rw [hc]; exact Nat.beq_refl _
  have hb2:Nat.blt (A++B).length (k*sz+c.length)=false:=by
   cases hb:Nat.blt (A++B).length (k*sz+c.length) with
   | false=>rfl
   | true =>
    rw [Nat.blt_eq] at hb;rw [Wv] at hb; omega
  rw [hb1,hb2];simp only [Bool.not_true,Bool.or_false,cond_false];have hsplit:A++B=A++(B.take sz++B.drop sz):=by rw [W8]
  rw [EP,hsplit,<- hA,zG (by rw [WO]; omega),<- WU];rw [Be hd (A:=A++c) (by rw [Wv,hA,hc,XA,Nat.one_mul]) (by rw [Xu]; omega),WU]
theorem HT {sz:Nat}:∀ (r:List (Nat × List YB)) {r':List (Nat × List YB)} {i:Nat} {cs:List YB},FT sz i r=some cs->QR ρ r r'->∃ cs',FT sz i r'=some cs'/\dL ρ cs cs'/\r'.length=r.length
 | [],r',i,cs,h,hq=>by
  have:some []=some cs:=h
  cases this;cases hq;exact ⟨[],rfl,.nil,rfl⟩
 | (k,v)::r,r',i,cs,h,hq=>by
  cases hq with
  | cons _ hv t =>
  rename_i v' r';obtain ⟨h1,h⟩:=bn.1 (show fz _ _=some cs from h);obtain ⟨d,hd,h⟩:=Wq.1 h;cases h;obtain ⟨d',h2,h3,h4⟩:=HT r hd t;refine ⟨v'++d',?_,hv.append h3,by simp [h4]⟩;unfold FT;rw [<- hv.length,h1,h2]; rfl
theorem EV:∀ {ps ps':List (Nat × YB)},PR ρ ps ps'->QR ρ (Ba ps) (Ba ps')/\kp ps' (Ba ps')
 | _,_,.nil=>⟨.nil,.nil⟩
 | _,_,.cons (v:=v) (v':=v') i hv t=>by
  obtain ⟨h1,h2⟩:=EV t;unfold Ba;cases ha:zn v with
  | some c =>
   have:=uV.1 ha; subst this
   cases hv with
   | agg hl =>
    refine ⟨.cons i hl h1,?_⟩;exact kp.cons rfl h2
  | none =>
   have ha':zn v'=none:=by
    cases hv <;> first | rfl | (simp [zn] at ha; done)
   rw [ha'];refine ⟨.cons i (.cons hv .nil) h1,?_⟩;refine kp.cons ?_ h2
   have:eR v'=false:=by
    unfold zn at ha';split at ha'
    ·cases ha'
    ·rename_i hn;cases v' <;> first | rfl | (rename_i cs; exact (hn cs.toList rfl).elim)
   exact (xj this)
end
end Go.Sx.Cr
