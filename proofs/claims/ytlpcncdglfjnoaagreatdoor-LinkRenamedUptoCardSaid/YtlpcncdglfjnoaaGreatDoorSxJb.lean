/- Part of the framework. No condition. -/
import Derived.Test.YtlpcncdglfjnoaaGreatDoorSxJa
set_option linter.all false
set_option maxHeartbeats 4000000
namespace Go.Sx.Cr
inductive PR (ρ:fY):List (Nat × XB)->List (Nat × XB)->Prop
 | nil:PR ρ [] []
 | cons (i:Nat) {v v':XB} {l l':List (Nat × XB)} (h:VR ρ v v') (t:PR ρ l l'):PR ρ ((i,v)::l) ((i,v')::l')
inductive QR (ρ:fY):List (Nat × List XB)->List (Nat × List XB)->Prop
 | nil:QR ρ [] []
 | cons (i:Nat) {v v':List XB} {l l':List (Nat × List XB)} (h:dO ρ v v') (t:QR ρ l l'):QR ρ ((i,v)::l) ((i,v')::l')
theorem PR.zip {ρ:fY}:∀ (a:List Nat) {c b:List XB},dO ρ c b->PR ρ (a.zip c) (a.zip b)
 | [],_,_,_=>by simp only [List.zip_nil_left]; exact .nil
 | i::a,_,_,.nil=>by simp only [List.zip_nil_right]; exact .nil
 | i::a,_,_,.cons h t=>by simp only [List.zip_cons_cons]; exact .cons i h (PR.zip a t)
theorem dO.rV {ρ:fY}:∀ {b a l l':List XB} (i:Nat),dO ρ l l'->dO ρ b a->dO ρ (rV l i b) (rV l' i a)
 | _,_,_,_,_,h,.nil=>h
 | _,_,_,_,i,h,.cons hv t=>dO.rV (i+1) (h.set i hv) t
theorem zR {ρ:fY} {place:Nat->Option (Nat × Nat)}:∀ (r:List (Nat × List XB)) {b:List (Nat × List XB)} {c c' cs:List XB},fj place c r=some cs->dO ρ c c'->QR ρ r b->∃ a,fj place c' b=some a/\dO ρ cs a
 | [],b,c,c',cs,h,hc,d=>by
  have:some c=some cs:=h
  cases this;cases d;exact ⟨c',rfl,hc⟩
 | (i,v)::r,b,c,c',cs,h,hc,d=>by
  cases d with
  | cons _ hv t =>
  unfold fj at h ⊢;cases e:place i with
  | none=>rw [e] at h; cases h
  | some p =>
   obtain ⟨off,size⟩:=p;rw [e] at h;simp only at h ⊢;rw [<- hv.length,<- hc.length];cases f:(!Nat.beq v.length size || Nat.blt c.length (off+v.length)) with
   | true=>rw [f] at h; cases h
   | false =>
    rw [f] at h;exact zR r h (hc.rV off hv) t
section
variable {C:Cx} {h0:Hp} {ρ:fY} {s s1:CS} {h:Hp} {e:Ev} {e':Env} {L:Lp} {K:XB->Hp->Prop} {kk:XB->T}
theorem xd {agg:Nat->Option Bool}:∀ {ps b:List (Nat × XB)} {r:List (Nat × List XB)},PR ρ ps b->Ce agg ps=some r->∃ d,QR ρ r d/\∀ (k:List (Nat × List XB)->T) (L:Lp) (K:XB->Hp->Prop),k d L K h->eW agg b k L K h
 | _,_,r,.nil,a=>by
  have:some []=some r:=a
  cases this;exact ⟨[],.nil,fun k L K hk=>hk⟩
 | _,_,r,.cons (v:=v) (v':=v') (l:=l) (l':=l') i hv t,a=>by
  obtain ⟨g,f,a⟩:=Vq.1 (show (agg i).bind _=some r from a);obtain ⟨c,hc,a⟩:=Vq.1 a;obtain ⟨q,n,a⟩:=Vq.1 a;cases a;obtain ⟨j,c',h1,h2⟩:=sP hv hc;obtain ⟨o,p,m⟩:=xd t n;refine ⟨(i,c')::o,.cons i h1 p,fun k L K hk=>?_⟩;unfold eW;subst h2;cases g with
  | true=>simp only [f,j,cond_true]; exact m _ _ _ hk
  | false=>simp only [f,j,cond_false]; exact m _ _ _ hk
variable {H:TypeId}
def IH {ps b:List (Nat × XB)} {v:XB} (r:PR ρ ps b) (a:F8 C.P H ps=some v):∃ v',VR ρ v v'/\∀ (kk:XB->T) (L:Lp) (K:XB->Hp->Prop),kk v' L K h ->
  (match C.P.underlying H,(C.P.info? H).bind (·.zero) with
  | some (.struct l),some z =>
   bif !(l.all fun (f:Field)=>mG C.P f.type) then T.fail else eW (fun i=>(l[i]?).bind fun (f:Field)=>cB C.P f.type) b fun d=>match fj (((l.map fun (f:Field)=>(f.offset,C.P.cellsOf f.type)))[·]?) z.cells.toList d with
   | some cs=>kk (.agg cs.toArray)
   | none=>T.fail
  | some (.array _ g),some z =>
   bif !mG C.P g then T.fail else eW (fun _=>cB C.P g) b fun d=>match fj (fun i=>some (i*C.P.cellsOf g,C.P.cellsOf g)) z.cells.toList d with
   | some cs=>kk (.agg cs.toArray)
   | none=>T.fail
  | _,_=>T.fail) L K h:=by
 unfold F8 at a;obtain ⟨z,u,a⟩:=Vq.1 a;obtain ⟨x,j,rfl,k⟩:=zN u;split at a
 ·rename_i l m;unfold Hn at a;obtain ⟨h1,a⟩:=bi.1 a;obtain ⟨d,hl,a⟩:=Vq.1 a;obtain ⟨cs,hc,a⟩:=Vq.1 a;cases a;obtain ⟨w,h2,o⟩:=xd (h:=h) r hl;obtain ⟨c,p,q⟩:=zR _ hc (k ρ) h2;refine ⟨.agg ⟨c⟩,.agg q,fun kk L K hk=>?_⟩;simp only [m,j,h1,Bool.not_true,cond_false];refine o _ _ _ ?_;simp only [p];exact hk
 ·rename_i n g m;unfold G8 at a;obtain ⟨h1,a⟩:=bi.1 a;obtain ⟨d,hl,a⟩:=Vq.1 a;obtain ⟨cs,hc,a⟩:=Vq.1 a;cases a;obtain ⟨w,h2,o⟩:=xd (h:=h) r hl;obtain ⟨c,p,q⟩:=zR _ hc (k ρ) h2;refine ⟨.agg ⟨c⟩,.agg q,fun kk L K hk=>?_⟩;simp only [m,j,h1,Bool.not_true,cond_false];refine o _ _ _ ?_;simp only [p];exact hk
 ·cases a
structure FG (P:Program) (t:TypeId) (q:El) (i:TypeInfo) (z:XB):Prop where
 Sf:P.underlying t=some (.slice q.e)
 tk:P.info? q.e=some i
 zero:i.zero=some z
 sz:i.size=q.sz
 by_:i.bytes=q.by_
 zl:q.z=z.cells.toList
 zs:z.cells.size=i.size
 pos:1<=q.sz
 flat:∀ ρ,dO ρ q.z q.z
def BP {P:Program} {q:El} (a:LC P H=some q):∃ i z,FG P H q i z:=by
 unfold LC at a;obtain ⟨e,b,a⟩:=Vq.1 a;have c:P.underlying H=some (.slice e):=by
  unfold elemOf at b;split at b
  ·rename_i d; cases b; exact d
  ·cases b
 unfold K4 at a;obtain ⟨i,hi,a⟩:=Vq.1 a;obtain ⟨z,f,a⟩:=Vq.1 a;obtain ⟨h1,a⟩:=bi.1 a;cases a;simp only [Bool.and_eq_true] at h1;exact ⟨i,z,c,hi,f,rfl,rfl,rfl,VF h1.1.2,VX h1.2,fun ρ=>pY (rl 9) _ h1.1.1⟩
theorem Dj:∀ (xs:List XB) (i:Nat) (a:List XB),rV xs i a=gW xs i a
 | xs,i,[]=>rfl
 | xs,i,v::a=>Dj (xs.set i v) (i+1) a
theorem Bb {sz:Nat}:∀ {r:List (Nat × List XB)} {i:Nat} {cs A B:List XB},F5 sz i r=some cs->A.length=i*sz->B.length=r.length*sz->fj (fun j=>some (j*sz,sz)) (A++B) r=some (A++cs)
 | [],i,cs,A,B,h,b,f=>by
  have:some []=some cs:=h
  cases this
  have:B=[]:=Wk (by simpa using f)
  subst this;rfl
 | (k,c)::r,i,cs,A,B,h,b,f=>by
  obtain ⟨h1,h⟩:=bi.1 (show fx _ _=some cs from h);obtain ⟨d,n,h⟩:=Vq.1 h;cases h;simp only [Bool.and_eq_true] at h1;obtain rfl:k=i:=VF h1.1;have hc:c.length=sz:=VF h1.2;simp only [List.length_cons,Nat.add_mul,Nat.one_mul] at f;unfold fj;simp only;have g:Nat.beq c.length sz=true:=by rw [hc]; exact Nat.beq_refl _
  have l:Nat.blt (A++B).length (k*sz+c.length)=false:=by
   cases m:Nat.blt (A++B).length (k*sz+c.length) with
   | false=>rfl
   | true =>
    rw [Nat.blt_eq] at m;rw [Vs] at m; omega
  rw [g,l];simp only [Bool.not_true,Bool.or_false,cond_false];have a:A++B=A++(B.take sz++B.drop sz):=by rw [We]
  rw [Dj,a,<- b,pR (by rw [VQ]; omega),<- VW];rw [Bb n (A:=A++c) (by rw [Vs,b,hc,Wx,Nat.one_mul]) (by rw [V6]; omega),VW]
theorem Ii {sz:Nat}:∀ (r:List (Nat × List XB)) {a:List (Nat × List XB)} {i:Nat} {cs:List XB},F5 sz i r=some cs->QR ρ r a->∃ b,F5 sz i a=some b/\dO ρ cs b/\a.length=r.length
 | [],a,i,cs,h,c=>by
  have:some []=some cs:=h
  cases this;cases c;exact ⟨[],rfl,.nil,rfl⟩
 | (k,v)::r,a,i,cs,h,c=>by
  cases c with
  | cons _ hv t =>
  rename_i v' a;obtain ⟨h1,h⟩:=bi.1 (show fx _ _=some cs from h);obtain ⟨d,f,h⟩:=Vq.1 h;cases h;obtain ⟨g,h2,j,l⟩:=Ii r f t;refine ⟨v'++g,?_,hv.append j,by simp [l]⟩;unfold F5;rw [<- hv.length,h1,h2]; rfl
theorem Dr:∀ {ps a:List (Nat × XB)},PR ρ ps a->QR ρ (AX ps) (AX a)/\kh a (AX a)
 | _,_,.nil=>⟨.nil,.nil⟩
 | _,_,.cons (v:=v) (v':=v') i hv t=>by
  obtain ⟨h1,h2⟩:=Dr t;unfold AX;cases d:zH v with
  | some c =>
   have:=ug.1 d; subst this
   cases hv with
   | agg hl =>
    refine ⟨.cons i hl h1,?_⟩;exact kh.cons rfl h2
  | none =>
   have b:zH v'=none:=by
    cases hv <;> first | rfl | (simp [zH] at d; done)
   rw [b];refine ⟨.cons i (.cons hv .nil) h1,?_⟩;refine kh.cons ?_ h2
   have:eO v'=false:=by
    unfold zH at b;split at b
    ·cases b
    ·rename_i hn;cases v' <;> first | rfl | (rename_i cs; exact (hn cs.toList rfl).elim)
   exact (xG this)
end
end Go.Sx.Cr
