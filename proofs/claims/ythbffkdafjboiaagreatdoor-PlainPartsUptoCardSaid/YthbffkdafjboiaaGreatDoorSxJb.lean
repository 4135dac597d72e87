/- Part of the framework. No condition. -/
import Derived.Test.YthbffkdafjboiaaGreatDoorSxJa
set_option linter.all false
set_option maxHeartbeats 4000000
namespace Go.Sx.Cr
inductive PR (ρ:gn):List (Nat × ZB)->List (Nat × ZB)->Prop
 | nil:PR ρ [] []
 | cons (i:Nat) {v v':ZB} {l l':List (Nat × ZB)} (h:VR ρ v v') (t:PR ρ l l'):PR ρ ((i,v)::l) ((i,v')::l')
inductive QR (ρ:gn):List (Nat × List ZB)->List (Nat × List ZB)->Prop
 | nil:QR ρ [] []
 | cons (i:Nat) {v v':List ZB} {l l':List (Nat × List ZB)} (h:dQ ρ v v') (t:QR ρ l l'):QR ρ ((i,v)::l) ((i,v')::l')
theorem PR.zip {ρ:gn}:∀ (is:List Nat) {vs vs':List ZB},dQ ρ vs vs'->PR ρ (is.zip vs) (is.zip vs')
 | [],_,_,_=>by simp only [List.zip_nil_left]; exact .nil
 | i::is,_,_,.nil=>by simp only [List.zip_nil_right]; exact .nil
 | i::is,_,_,.cons h t=>by simp only [List.zip_cons_cons]; exact .cons i h (PR.zip is t)
theorem dQ.r7 {ρ:gn}:∀ {vs vs' l l':List ZB} (i:Nat),dQ ρ l l'->dQ ρ vs vs'->dQ ρ (r7 l i vs) (r7 l' i vs')
 | _,_,_,_,_,h,.nil=>h
 | _,_,_,_,i,h,.cons hv t=>dQ.r7 (i+1) (h.set i hv) t
theorem zY {ρ:gn} {place:Nat->Option (Nat × Nat)}:∀ (r:List (Nat × List ZB)) {r':List (Nat × List ZB)} {c c' cs:List ZB},ft place c r=some cs->dQ ρ c c'->QR ρ r r'->∃ cs',ft place c' r'=some cs'/\dQ ρ cs cs'
 | [],r',c,c',cs,h,hc,hq=>by
  have:some c=some cs:=h
  cases this;cases hq;exact ⟨c',rfl,hc⟩
 | (i,v)::r,r',c,c',cs,h,hc,hq=>by
  cases hq with
  | cons _ hv t =>
  unfold ft at h ⊢;cases hp:place i with
  | none=>rw [hp] at h; cases h
  | some p =>
   obtain ⟨off,size⟩:=p;rw [hp] at h;simp only at h ⊢;rw [<- hv.length,<- hc.length];cases hb:(!Nat.beq v.length size || Nat.blt c.length (off+v.length)) with
   | true=>rw [hb] at h; cases h
   | false =>
    rw [hb] at h;exact zY r h (hc.r7 off hv) t
section
variable {C:Cx} {h0:Hp} {ρ:gn} {s s1:CS} {h:Hp} {e:Ev} {e':Env} {L:Lp} {K:ZB->Hp->Prop} {kk:ZB->T}
theorem wY {agg:Nat->Option Bool}:∀ {ps ps':List (Nat × ZB)} {r:List (Nat × List ZB)},PR ρ ps ps'->Cu agg ps=some r->∃ r',QR ρ r r'/\∀ (k:List (Nat × List ZB)->T) (L:Lp) (K:ZB->Hp->Prop),k r' L K h->fc agg ps' k L K h
 | _,_,r,.nil,hx=>by
  have:some []=some r:=hx
  cases this;exact ⟨[],.nil,fun k L K hk=>hk⟩
 | _,_,r,.cons (v:=v) (v':=v') (l:=l) (l':=l') i hv t,hx=>by
  obtain ⟨g,hg,hx⟩:=W1.1 (show (agg i).bind _=some r from hx);obtain ⟨c,hc,hx⟩:=W1.1 hx;obtain ⟨q,hq,hx⟩:=W1.1 hx;cases hx;obtain ⟨ha,c',h1,h2⟩:=sU hv hc;obtain ⟨q',h3,h4⟩:=wY t hq;refine ⟨(i,c')::q',.cons i h1 h3,fun k L K hk=>?_⟩;unfold fc;subst h2;cases g with
  | true=>simp only [hg,ha,cond_true]; exact h4 _ _ _ hk
  | false=>simp only [hg,ha,cond_false]; exact h4 _ _ _ hk
def Jb {t:TypeId} {ps ps':List (Nat × ZB)} {v:ZB} (hp:PR ρ ps ps') (hx:Gl C.P t ps=some v):∃ v',VR ρ v v'/\∀ (kk:ZB->T) (L:Lp) (K:ZB->Hp->Prop),kk v' L K h ->
  (match C.P.underlying t,(C.P.info? t).bind (·.zero) with
  | some (.struct fs),some z =>
   bif !(fs.all fun (f:Field)=>mV C.P f.type) then T.fail else fc (fun i=>(fs[i]?).bind fun (f:Field)=>cB C.P f.type) ps' fun ls=>match ft (((fs.map fun (f:Field)=>(f.offset,C.P.cellsOf f.type)))[·]?) z.cells.toList ls with
   | some cs=>kk (.agg cs.toArray)
   | none=>T.fail
  | some (.array _ el),some z =>
   bif !mV C.P el then T.fail else fc (fun _=>cB C.P el) ps' fun ls=>match ft (fun i=>some (i*C.P.cellsOf el,C.P.cellsOf el)) z.cells.toList ls with
   | some cs=>kk (.agg cs.toArray)
   | none=>T.fail
  | _,_=>T.fail) L K h:=by
 unfold Gl at hx;obtain ⟨z,hz,hx⟩:=W1.1 hx;obtain ⟨zv,hz1,rfl,hz2⟩:=zU hz;split at hx
 ·rename_i fs hu;unfold HH at hx;obtain ⟨h1,hx⟩:=bq.1 hx;obtain ⟨ls,hl,hx⟩:=W1.1 hx;obtain ⟨cs,hc,hx⟩:=W1.1 hx;cases hx;obtain ⟨r',h2,h3⟩:=wY (h:=h) hp hl;obtain ⟨cs',h4,h5⟩:=zY _ hc (hz2 ρ) h2;refine ⟨.agg ⟨cs'⟩,.agg h5,fun kk L K hk=>?_⟩;simp only [hu,hz1,h1,Bool.not_true,cond_false];refine h3 _ _ _ ?_;simp only [h4];exact hk
 ·rename_i n el hu;unfold Hm at hx;obtain ⟨h1,hx⟩:=bq.1 hx;obtain ⟨ls,hl,hx⟩:=W1.1 hx;obtain ⟨cs,hc,hx⟩:=W1.1 hx;cases hx;obtain ⟨r',h2,h3⟩:=wY (h:=h) hp hl;obtain ⟨cs',h4,h5⟩:=zY _ hc (hz2 ρ) h2;refine ⟨.agg ⟨cs'⟩,.agg h5,fun kk L K hk=>?_⟩;simp only [hu,hz1,h1,Bool.not_true,cond_false];refine h3 _ _ _ ?_;simp only [h4];exact hk
 ·cases hx
structure FW (P:Program) (t:TypeId) (q:El) (i:TypeInfo) (z:ZB):Prop where
 TK:P.underlying t=some (.slice q.e)
 tA:P.info? q.e=some i
 zero:i.zero=some z
 sz:i.size=q.sz
 by_:i.bytes=q.by_
 zl:q.z=z.cells.toList
 zs:z.cells.size=i.size
 pos:1<=q.sz
 flat:∀ ρ,dQ ρ q.z q.z
def B7 {P:Program} {t:TypeId} {q:El} (hx:Mc P t=some q):∃ i z,FW P t q i z:=by
 unfold Mc at hx;obtain ⟨e,he,hx⟩:=W1.1 hx;have hu:P.underlying t=some (.slice e):=by
  unfold elemOf at he;split at he
  ·rename_i hh; cases he; exact hh
  ·cases he
 unfold LC at hx;obtain ⟨i,hi,hx⟩:=W1.1 hx;obtain ⟨z,hz,hx⟩:=W1.1 hx;obtain ⟨h1,hx⟩:=bq.1 hx;cases hx;simp only [Bool.and_eq_true] at h1;exact ⟨i,z,hu,hi,hz,rfl,rfl,rfl,Xg h1.1.2,Xx h1.2,fun ρ=>qm (rI 9) _ h1.1.1⟩
theorem DD:∀ (xs:List ZB) (i:Nat) (vs:List ZB),r7 xs i vs=la xs i vs
 | xs,i,[]=>rfl
 | xs,i,v::vs=>DD (xs.set i v) (i+1) vs
theorem Bm {sz:Nat}:∀ {r:List (Nat × List ZB)} {i:Nat} {cs A B:List ZB},Gi sz i r=some cs->A.length=i*sz->B.length=r.length*sz->ft (fun j=>some (j*sz,sz)) (A++B) r=some (A++cs)
 | [],i,cs,A,B,h,hA,hB=>by
  have:some []=some cs:=h
  cases this
  have:B=[]:=X7 (by simpa using hB)
  subst this;rfl
 | (k,c)::r,i,cs,A,B,h,hA,hB=>by
  obtain ⟨h1,h⟩:=bq.1 (show fG _ _=some cs from h);obtain ⟨d,hd,h⟩:=W1.1 h;cases h;simp only [Bool.and_eq_true] at h1;obtain rfl:k=i:=Xg h1.1;have hc:c.length=sz:=Xg h1.2;simp only [List.length_cons,Nat.add_mul,Nat.one_mul] at hB;unfold ft;simp only;have hb1:Nat.beq c.length sz=true:=by rw [hc]; exact Nat.beq_refl _
  have hb2:Nat.blt (A++B).length (k*sz+c.length)=false:=by
   cases hb:Nat.blt (A++B).length (k*sz+c.length) with
   | false=>rfl
   | true =>
    rw [Nat.blt_eq] at hb;rw [W8] at hb; omega
  rw [hb1,hb2];simp only [Bool.not_true,Bool.or_false,cond_false];have hsplit:A++B=A++(B.take sz++B.drop sz):=by rw [XN]
  rw [DD,hsplit,<- hA,yz (by rw [Xr]; omega),<- Xs];rw [Bm hd (A:=A++c) (by rw [W8,hA,hc,Ya,Nat.one_mul]) (by rw [X3]; omega),Xs]
theorem IE {sz:Nat}:∀ (r:List (Nat × List ZB)) {r':List (Nat × List ZB)} {i:Nat} {cs:List ZB},Gi sz i r=some cs->QR ρ r r'->∃ cs',Gi sz i r'=some cs'/\dQ ρ cs cs'/\r'.length=r.length
 | [],r',i,cs,h,hq=>by
  have:some []=some cs:=h
  cases this;cases hq;exact ⟨[],rfl,.nil,rfl⟩
 | (k,v)::r,r',i,cs,h,hq=>by
  cases hq with
  | cons _ hv t =>
  rename_i v' r';obtain ⟨h1,h⟩:=bq.1 (show fG _ _=some cs from h);obtain ⟨d,hd,h⟩:=W1.1 h;cases h;obtain ⟨d',h2,h3,h4⟩:=IE r hd t;refine ⟨v'++d',?_,hv.append h3,by simp [h4]⟩;unfold Gi;rw [<- hv.length,h1,h2]; rfl
theorem DM:∀ {ps ps':List (Nat × ZB)},PR ρ ps ps'->QR ρ (A7 ps) (A7 ps')/\kL ps' (A7 ps')
 | _,_,.nil=>⟨.nil,.nil⟩
 | _,_,.cons (v:=v) (v':=v') i hv t=>by
  obtain ⟨h1,h2⟩:=DM t;unfold A7;cases ha:zL v with
  | some c =>
   have:=uh.1 ha; subst this
   cases hv with
   | agg hl =>
    refine ⟨.cons i hl h1,?_⟩;exact kL.cons rfl h2
  | none =>
   have ha':zL v'=none:=by
    cases hv <;> first | rfl | (simp [zL] at ha; done)
   rw [ha'];refine ⟨.cons i (.cons hv .nil) h1,?_⟩;refine kL.cons ?_ h2
   have:eN v'=false:=by
    unfold zL at ha';split at ha'
    ·cases ha'
    ·rename_i hn;cases v' <;> first | rfl | (rename_i cs; exact (hn cs.toList rfl).elim)
   exact (xC this)
end
end Go.Sx.Cr
