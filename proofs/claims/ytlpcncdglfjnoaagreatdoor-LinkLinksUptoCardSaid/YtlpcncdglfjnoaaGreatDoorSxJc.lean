/- Closed runs, part Jc: slice literals, append over a store. No condition but the store's. -/
import Derived.Test.YtlpcncdglfjnoaaGreatDoorSxJb
set_option linter.all false
set_option maxHeartbeats 4000000
namespace Go.Sx.Cr
section
variable {C:Cx} {h0:Hp} {ρ:fZ} {s s1:CS} {h:Hp} {e:Ev} {e':Env} {L:Lp} {K:YB->Hp->Prop} {kk:YB->T}
theorem PU {P:Program} {t:TypeId} {q:El} {i:TypeInfo} {z:YB} (E:Gy P t q i z) {n:Nat} {ps:List (Nat × YB)} {r:List (Nat × List YB)} {cs:List YB} (hn:n*q.sz<=16777216) (hl:r.length=n)
  (hc:kp ps r) (hs:FT q.sz 0 r=some cs) {K:YB->Hp->Prop} (hk:∀ h',bC h' h.size q.e cs->Ext h h'->K (.slice (some ⟨h.size,0,none⟩) n n) h'):aP P (Instr.buildSlice t n ps.toArray) h K:=by
 rcases Nat.eq_zero_or_pos n with h0 | h0
 ·subst h0;have hr:r=[]:=Xr hl;subst hr;cases hc
  have:some []=some cs:=hs
  cases this;unfold Instr.buildSlice;rw [ar,aC E.Tr];simp only;rw [ar,bJ E.sQ];simp only [Nat.zero_mul];rw [Ww ad];have h0:∀ f:Nat->YB,Array.map f (Array.range 0)=#[]:=fun f=>aj
  simp only [h0];exact hk _ (by simpa using bC.new h q.e []) (Ext.push h _)
 ·have hp:=E.pos;have hnz:n*q.sz≠0:=fun hh=>by rcases Nat.mul_eq_zero.1 hh with h1 | h1 <;> omega
  have hlen:((Array.range (n*i.size)).map (z.cells[· % z.cells.size]!)).toList.length=r.length*q.sz:=by simp [hl,E.sz]
  have hf:=Be (A:=[]) hs aj hlen;rw [X1,X1] at hf;have hf':=B3 hc hf;refine jn E.Tr E.sQ E.zero (by rw [E.sz]; exact hnz) (by rw [E.sz]; omega) (cells:=cs.toArray) (by rw [E.sz] at hf' ⊢; exact hf') fun h' b k _=>?_
  exact hk h' (by simpa using b) k
theorem O3 {t:TypeId} (R:Rel C h0 ρ s.σ h) {n:Nat} {ps ps':List (Nat × YB)} {v:YB} (hp:PR ρ ps ps') (hx:M9 C.P t n ps s=some (v,s1)) (P:nK C h0 ρ s1 v kk L K) :
  T.dW C.P (Instr.buildSlice t n ps'.toArray) false [(false,[.slice 0])] (fun p l c=>kk (.slice p l c)) L K h:=by
 unfold M9 at hx;obtain ⟨q,hq,hx⟩:=Wq.1 hx;obtain ⟨h1,hx⟩:=bn.1 hx;obtain ⟨cs,hc,hx⟩:=Wq.1 hx;obtain ⟨h2,hc⟩:=bn.1 (show fz _ _=some cs from hc);obtain ⟨s2,hn2,hx⟩:=Wq.1 (show (x8 s (.row cs q.e 0)).bind _=some (v,s1) from hx);obtain ⟨hn,h3⟩:=iq.1 hn2;subst h3;cases hx;obtain ⟨i,z,E⟩:=CN hq;obtain ⟨h4,h5⟩:=EV hp;obtain ⟨cs',h6,h7,h8⟩:=HT _ hc h4;refine cR ?_;refine PU E (WW h1) (by rw [h8]; exact WD h2) h5 h6 fun h' b k=>?_
 obtain ⟨R1,le⟩:=R.newRow (rest:=[]) (e:=q.e) (m:=0) (cap:=0) hn h7 (by rw [Xy]; exact b) k ad;have hv:=VR.sl (ρ:=jO ρ s.nx ⟨h.size,0,0⟩) (c:=n) (c':=n) 0 n (fg _ _ _) (.inl ⟨?_,rfl⟩) (WH _)
 ·exact ⟨_,_,_,rfl,P _ _ _ le R1 (by simpa using hv)⟩
 ·have hp:=E.pos;have h1:=WW h1
  have:n*1<=n*q.sz:=Nat.mul_le_mul_left n hp
  unfold half; omega
theorem JW (R:Rel C h0 ρ s.σ h) {sz:Nat} {x x':YB} {ys:List YB} (hv:VR ρ x x') (hx:G5 C sz x s=some ys) :
  ∃ q q' m mc mc' ys',x=.slice q m mc/\x'=.slice q' m mc'/\dL ρ ys ys'/\ys.length=m*sz/\∀ K:Array YB->Hp->Prop,K ys'.toArray h->aP C.P (Builtin.firstCells sz m x') h K:=by
 unfold G5 at hx;split at hx
 ·rename_i q m mc;cases m with
  | zero =>
   cases hx;cases hv with
   | lW _=>exact ⟨_,_,_,_,_,[],rfl,rfl,.nil,aj,fun K hk=>hk⟩
   | sl off l h hc _ =>
    refine ⟨_,_,_,_,_,[],rfl,rfl,.nil,aj,fun K hk=>?_⟩;show aP C.P (loadCells _ (0*sz)) _ K;rw [Nat.zero_mul];exact hk
  | succ m =>
   simp only at hx;obtain ⟨⟨b,off⟩,hp,hx⟩:=Wq.1 hx
   have:=je.1 hp
   cases this;cases hv with
   | sl off l hb hc _ =>
    obtain ⟨hn,ys',h1,h2⟩:=re R hx hb;refine ⟨_,_,_,_,_,ys',rfl,rfl,h1,hn,fun K hk=>?_⟩;exact cU (by rw [<- h1.length]; exact hn) h2 _ hk
 ·cases hx
section dW
variable {P:Program} {t t' ty e2:TypeId} {q:El} {i:TypeInfo} {z:YB}
theorem EG (E:Gy P t q i z) (ht':P.underlying t'=some (.slice e2)) {a:YC} {l c m mc:Nat} {x:Option YC} {ys:List YB} (hroom:l+m<=c)
  (hx:∀ K:Array YB->Hp->Prop,K ys.toArray h->aP P (Builtin.firstCells q.sz m (.slice x m mc)) h K) {K:YB->Hp->Prop}
  (hst:xD h (a.add (l*q.sz)) 0 ys) (hk:K (.slice (some a) (l+m) c) (ri h (a.add (l*q.sz)) 0 ys)):aP P (Builtin.append_ #[t,t'] ty #[.slice (some a) l c,.slice x m mc]) h K:=by
 simp [Builtin.append_,ar,aC E.Tr,aC ht',bJ E.sQ,cr E.sQ,Builtin.lenOf,hroom,E.sz];refine hx _ ?_;rw [lE];exact ff _ _ _ 0 _ hst hk
theorem Fs (E:Gy P t q i z) (ht':P.underlying t'=some (.slice e2)) {p:Option YC} {l c mc:Nat} {x:Option YC} (hroom:l<=c)
  (hx:∀ K:Array YB->Hp->Prop,K #[] h->aP P (Builtin.firstCells q.sz 0 (.slice x 0 mc)) h K) {K:YB->Hp->Prop}
  (hk:K (.slice p l c) h):aP P (Builtin.append_ #[t,t'] ty #[.slice p l c,.slice x 0 mc]) h K:=by
 simp [Builtin.append_,ar,aC E.Tr,aC ht',bJ E.sQ,cr E.sQ,Builtin.lenOf,hroom,E.sz];refine hx _ ?_;cases p with
 | none=>exact hk
 | some a=>exact hk
theorem zr (E:Gy P t q i z) (ht':P.underlying t'=some (.slice e2)) {p:Option YC} {l c m mc:Nat} {x:Option YC} {old ys:List YB} (hroom:¬ l+m<=c)
  (hx:∀ K:Array YB->Hp->Prop,K ys.toArray h->aP P (Builtin.firstCells q.sz m (.slice x m mc)) h K)
  (ho:∀ K:Array YB->Hp->Prop,K old.toArray h->aP P (Builtin.firstCells q.sz l (.slice p l c)) h K) {K:YB->Hp->Prop}
  (hby:(2*(l+m)+1024)*q.by_<=281474976710656) (hl:l+m<=281474976710656)
  (hk:∀ nc rest h',l+m<=nc->nc<9223372036854775808->rest.length=(nc-(l+m))*q.sz->bC h' h.size q.e (old++ys++rest)->Ext h h'->K (.slice (some ⟨h.size,0,none⟩) (l+m) nc) h') :
  aP P (Builtin.append_ #[t,t'] ty #[.slice p l c,.slice x m mc]) h K:=by
 have hcap:¬ 281474976710656<Builtin.nextslicecap (l+m) c*i.bytes:=by
  have h1:=tz (need:=l+m) (old:=c) ad;have h2:=Xo i.bytes h1;rw [<- E.by_] at hby
  omega
 have hbig:¬ (9223372036854775807<(l:Int)+(m:Int)/\i.bytes=0):=ad
 have hz':(P.info? q.e).bind (·.zero)=some z:=by rw [E.sQ]; exact E.zero
 simp [Builtin.append_,ar,aC E.Tr,aC ht',bJ E.sQ,cr E.sQ,Builtin.lenOf,hroom,fq E.sQ,cT hz',askRoom,hbig,hcap,E.sz];intro tt;have hge:=CZ (l+m) c q.e tt;generalize (Question.appendCap (l+m) c q.e).cut tt=nc at hge;show aP P (if roomBytes<nc*i.bytes then mark Mark.noRoom else pure ()) h _;have hroomy:∀ K':Unit->Hp->Prop,K' () h->aP P (if roomBytes<nc*i.bytes then mark Mark.noRoom else pure ()) h K':=by
  intro K' hk';split
  ·exact hk'
  ·exact hk'
 refine hroomy _ ?_;refine ho _ ?_;refine hx _ ?_;rw [lE];have hb:=bC.new h q.e (old++ys++(Builtin.zeroCells z.cells (nc-(l+m))).toList);have e1:old.toArray++(ys.toArray++Builtin.zeroCells z.cells (nc-(l+m)))=(old++ys++(Builtin.zeroCells z.cells (nc-(l+m))).toList).toArray:=by
  apply W6.1; simp
 refine hk nc (Builtin.zeroCells z.cells (nc-(l+m))).toList _ hge.1 (hge.2 ad) ?_ ?_ (Ext.push h _)
 ·rw [Xs,kY,E.zs,E.sz]
 ·rw [e1]; exact hb
end dW
theorem vj:half<pF:=cg
theorem OS {pl:Pl} {c c':Nat} (hc:Jm pl c c') (hlt:Nat.blt c half=true):c'=c:=by
 rw [Nat.blt_eq] at hlt;rcases hc with ⟨_,h⟩ | ⟨h,_⟩
 ·exact h
 ·omega
theorem KC {pl:Pl} {c c':Nat} (hc:Jm pl c c') (hlt:Nat.blt c half=false):c'+pF=pl.cap+c:=by
 have:¬ c<half:=fun hh=>by rw [<- Nat.blt_eq] at hh; rw [hh] at hlt; cases hlt
 rcases hc with ⟨h,_⟩ | ⟨_,h⟩
 ·exact (this h).elim
 ·exact h
theorem Sl (R:Rel C h0 ρ s.σ h) {sz pb po l c:Nat} {pl:Pl} {old:List YB} (hp:ρ pb=some pl) (ho:cells C s pb po (l*sz)=some old) :
  ∃ old',dL ρ old old'/\old.length=l*sz/\∀ (K:Array YB->Hp->Prop),K old'.toArray h->aP C.P (Builtin.firstCells sz l (.slice (some ⟨pl.cd,pl.sh+po,none⟩) l c)) h K:=by
 obtain ⟨hn,old',h1,h2⟩:=re R ho hp;exact ⟨old',h1,hn,fun K hk=>cU (by rw [<- h1.length]; exact hn) h2 _ hk⟩
theorem FY {q:El} {t:TypeId} {i:TypeInfo} {z:YB} (E:Gy C.P t q i z) (R:Rel C h0 ρ s.σ h) {pb po l c c':Nat} {cs:List YB} (hx:Cq q po l c (s.σ.get pb)=some cs) {pl:Pl} (hp:ρ pb=some pl) (hc:c'+pF=pl.cap+c) :
  s.σ.get pb=some (.row cs q.e 1)/\po+l*q.sz<=cs.length/\l<=c'/\c'<9223372036854775808/\h0.size<=pl.cd/\∃ rs,bC h pl.cd q.e rs/\rs.length=pl.sh+po+c'*q.sz/\∀ (i:Nat) (v:YB),cs[i]?=some v->∃ v',rs[pl.sh+i]?=some v'/\VR ρ v v':=by
 unfold Cq at hx;split at hx
 ·rename_i cs2 e' m' hr;obtain ⟨h1,h2⟩:=bn.1 hx;cases h2;simp only [Bool.and_eq_true] at h1;obtain ⟨⟨⟨⟨h1,h2⟩,h3⟩,h4⟩,h5⟩:=h1;obtain rfl:m'=1:=WD h1;obtain rfl:q.e=e':=WD h2;have h3:=WW h3;have h4:po=(pF-c)*q.sz:=WD h4;have h5:=WW h5;obtain ⟨rs,f,hg,hcs,hm,ho⟩:=R.row hr hp;obtain ⟨rfl,hgs⟩:=hm ad;obtain ⟨hs,hcap⟩:=ho.1 rfl;rw [cr E.sQ,E.sz] at hs;have hcl:c'+(pF-c)=pl.cap:=ad
  have hsz:rs.size=pl.sh+po+c'*q.sz:=by rw [<- hs,<- hcl,XA,h4]; omega
  refine ⟨hr,h5,?_,ad,hgs,rs.toList,by unfold bC; simpa using hg,by simpa using hsz,fun i v hv=>?_⟩
  ·rcases Nat.eq_zero_or_pos (l*q.sz) with hz | hz
   ·have:=E.pos
    rcases Nat.mul_eq_zero.1 hz with h6 | h6 <;> omega
   ·obtain ⟨v',e1,_⟩:=hcs (po+l*q.sz-1) (cs[po+l*q.sz-1]'ad) (by rw [Wu]);have hlt:pl.sh+(po+l*q.sz-1)<rs.size:=by
     rcases Xg (pl.sh+(po+l*q.sz-1)) rs.size with h | h
     ·exact h
     ·rw [Xm h] at e1; cases e1
    have:l*q.sz<=c'*q.sz:=ad
    exact Nat.le_of_mul_le_mul_right this E.pos
  ·obtain ⟨v',e1,e2⟩:=hcs i v hv;exact ⟨v',by rw [XF]; exact e1,e2⟩
 ·cases hx
theorem openNew {P:Program} (q:El) {t:TypeId} {i:TypeInfo} {z:YB} (E:Gy C.P t q i z) (R:Rel C h0 ρ s.σ h) (hn:s.σ.get s.nx=none) {cs cs' rest:List YB} {l nc:Nat} {h':Hp} (hc:dL ρ cs cs') (hl:cs.length=l*q.sz)
  (h1:l<=nc) (h2:nc<9223372036854775808) (hr:rest.length=(nc-l)*q.sz) (hb:bC h' h.size q.e (cs'++rest)) (k:Ext h h') (Po:∀ ρ1 v1 h1,Le ρ ρ1->Rel C h0 ρ1 (s.σ.put s.nx (.row cs q.e 1)) h1->VR ρ1 (.slice (some ⟨s.nx,0,none⟩) l pF) v1->kk v1 L K h1) :
  kk (.slice (some ⟨h.size,0,none⟩) l nc) L K h':=by
 have hcap:nc*C.P.cellsOf q.e=cs'.length+rest.length:=by
  rw [hr,<- hc.length,hl,cr E.sQ,E.sz,<- XA]
  congr 1; omega
 obtain ⟨R1,le⟩:=R.newRow (e:=q.e) (m:=1) (cap:=nc) hn hc hb k fun _=>⟨hcap,h2⟩
 have hv:=VR.sl (ρ:=jO ρ s.nx ⟨h.size,0,nc⟩) (c:=pF) (c':=nc) 0 l (fg _ _ _) (.inr ⟨Nat.le_of_lt vj,rfl⟩) h1;exact Po _ _ _ le R1 (by simpa using hv)
theorem Gq (R:Rel C h0 ρ s.σ h) {ts:Array TypeId} {ty:TypeId} {vs vs':List YB} {v:YB} (hv:dL ρ vs vs') (hx:BX C ts.toList vs s=some (v,s1)) (P:nK C h0 ρ s1 v kk L K) :
  T.dW C.P (Builtin.append_ ts ty vs'.toArray) false [(false,[.slice 0])] (fun p l c=>kk (.slice p l c)) L K h:=by
 refine cR ?_;unfold BX at hx;split at hx
 ·rename_i t t' a x hts;obtain ⟨h1,hx⟩:=bn.1 hx;obtain ⟨q,hq,hx⟩:=Wq.1 hx;obtain ⟨ys,hys,hx⟩:=Wq.1 hx;have hts':ts=#[t,t']:=by
   have:=WJ List.toArray hts
   simpa using this
  subst hts';obtain ⟨e2,ht'⟩:∃ e2,C.P.underlying t'=some (.slice e2):=by
   unfold Iw at h1;split at h1
   ·rename_i hh; exact ⟨_,hh⟩
   ·cases h1
  obtain ⟨i,z,E⟩:=CN hq;cases hv with
  | cons ha hv =>
  cases hv with
  | cons hxx hv =>
  cases hv;obtain ⟨xq,xq',m,mc,mc',ys',hx1,hx2,hyv,hyl,hfc⟩:=JW R hxx hys;subst hx2;rw [hx1] at hx;obtain ⟨p,l,c,ha1⟩:∃ p l c,a=.slice p l c:=by
   cases a <;> first | exact ⟨_,_,_,rfl⟩ | (simp [RC] at hx; done)
  rw [ha1] at hx ha;unfold RC at hx;obtain ⟨h2,hx⟩:=bn.1 hx;simp only [Bool.and_eq_true] at h2;have hby:=WW h2.1.1;have hlm:=WW h2.1.2;have hpl:ys'.all cS=true:=by rw [vS hyv]; exact h2.2
  cases m with
  | zero =>
   cases hx;have hy0:ys=[]:=Xr (by simpa using hyl);rw [hy0] at hyv;cases hyv;cases ha with
   | lW hl=>exact Fs E ht' hl hfc ⟨_,_,_,rfl,P.here R (.lW hl)⟩
   | sl off l hb hc hl=>exact Fs E ht' hl hfc ⟨_,_,_,rfl,P.here R (.sl _ _ hb hc hl)⟩
  | succ m =>
   simp only at hx;unfold Rb at hx;cases ha with
   | lW _ =>
    simp only at hx;obtain ⟨h3,hx⟩:=bn.1 hx;simp only [Bool.and_eq_true] at h3;obtain rfl:l=0:=WD h3.1;obtain rfl:c=0:=WD h3.2;obtain ⟨s2,hn2,hx⟩:=Wq.1 (show (x8 s (.row ys q.e 1)).bind _=some (v,s1) from hx);obtain ⟨hn,h4⟩:=iq.1 hn2;subst h4;cases hx;refine zr (p:=none) (l:=0) (c:=0) (old:=[]) E ht' ad hfc (fun K hk=>hk) hby hlm ?_;intro nc rest h' g1 g2 g3 g4 g5;rw [X1] at g4;rw [Xa] at g1 g3 ⊢;exact ⟨_,_,_,rfl,openNew (P:=C.P) q E R hn hyv hyl g1 g2 g3 g4 g5 P⟩
   | @sl pb pl off l c c' hb hc hl =>
    simp only at hx;obtain ⟨⟨pb2,po⟩,hp2,hx⟩:=Wq.1 hx;have hp3:=je.1 hp2;cases hp3;simp only at hx;unfold QC at hx;cases hlt:Nat.blt c half with
    | true =>
     rw [hlt] at hx;simp only at hx;obtain rfl:c'=c:=OS hc hlt;unfold MW at hx;cases hr:Nat.ble (l+(m+1)) c' with
     | true =>
      rw [hr] at hx;simp only at hx;obtain ⟨s2,hs2,hx⟩:=Wq.1 hx;cases hx;obtain ⟨k1,k2⟩:=Hn R hyv hs2 hb;rw [show pl.sh+(off+l*q.sz)=pl.sh+off+l*q.sz from ad] at k1 k2;refine EG E ht' (WW hr) hfc (by rw [aE]; exact k1) ⟨_,_,_,rfl,?_⟩;rw [aE];exact P _ _ _ (Le.refl _) k2 (.sl _ _ hb hc (WW hr))
     | false =>
      rw [hr] at hx;simp only at hx;obtain ⟨old,ho,hx⟩:=Wq.1 hx;obtain ⟨s2,hn2,hx⟩:=Wq.1 (show (x8 s (.row (old++ys) q.e 1)).bind _=some (v,s1) from hx);obtain ⟨hn,h4⟩:=iq.1 hn2;subst h4;cases hx;obtain ⟨old',g1,g2,g3⟩:=Sl (c:=c') R hb ho;have hro:¬ l+(m+1)<=c':=fun hh=>by rw [Nat.ble_eq_true_of_le hh] at hr; cases hr
      refine zr E ht' hro hfc g3 hby hlm ?_;intro nc rest h' k1 k2 k3 k4 k5;exact ⟨_,_,_,rfl,openNew (P:=C.P) q E R hn (g1.append hyv) (by rw [Wv,g2,hyl,<- XA]) k1 k2 k3 k4 k5 P⟩
    | false =>
     rw [hlt] at hx;simp only at hx;unfold HP at hx;obtain ⟨cs,ho,hx⟩:=Wq.1 hx;obtain ⟨hle,hx⟩:=bn.1 hx;have hle:cs.length=off+l*q.sz:=WD hle;split at hx
     ·rename_i hn;cases hx;obtain ⟨g1,g2,g3,g4,g5,rs,g6,g7,g8⟩:=FY E R ho hb (KC hc hlt);have hn':pb≠s.nx:=fun hh=>by rw [hh,hn] at g1; cases g1
      by_cases hroom:l+(m+1)<=c'
      ·
       have hmul:(l+(m+1))*q.sz<=c'*q.sz:=Xo _ hroom;rw [XA] at hmul;obtain ⟨k1,k2,k3,k4⟩:=lN (off:=pl.sh+off+l*q.sz) ys' h 0 _ g6 hpl (by rw [<- hyv.length,hyl,g7]; omega);refine EG E ht' hroom hfc (by rw [aE]; exact k1) ⟨_,_,_,rfl,?_⟩;rw [aE];have hobj:wW C.P (jO ρ s.nx ⟨pl.cd,pl.sh+off,c'⟩) h0 (ri h ⟨pl.cd,pl.sh+off+l*q.sz,none⟩ 0 ys') ⟨pl.cd,pl.sh+off,c'⟩ (.row (cs.drop off++ys) q.e 1):=by
        refine ⟨_,_,k2,fun i v hi=>?_,fun _=>⟨rfl,g5⟩,fun _=>⟨by simp only [List.size_toArray,mu]; rw [g7,cr E.sQ,E.sz],g4⟩,fun hh=>by cases hh⟩;have le:Le ρ (jO ρ s.nx ⟨pl.cd,pl.sh+off,c'⟩):=Le.jO (R.N6 _ hn);have hdl:(cs.drop off).length=l*q.sz:=by rw [Xu,hle]; omega
        rw [X8,oO _ _ _ (by rw [<- hyv.length,hyl,g7]; omega),Yt];have e1:(rs.take (pl.sh+off+l*q.sz)).length=pl.sh+off+l*q.sz:=by rw [WO,g7]; omega
        rcases Xg i (l*q.sz) with hi1 | hi1
        ·rw [WZ ad,XV] at hi;obtain ⟨v',e2,e3⟩:=g8 _ _ hi;refine ⟨v',?_,e3.mono le⟩;rw [WU,WZ (by simp only; omega),X7,WC (by simp only; omega),<- e2];simp only; congr 1; omega
        ·rw [WX ad,hdl] at hi;obtain ⟨v',e2,e3⟩:=hyv.get hi;refine ⟨v',?_,e3.mono le⟩
         have:i-l*q.sz<ys'.length:=by
          rcases Xg (i-l*q.sz) ys'.length with h | h
          ·exact h
          ·rw [W2 h] at e2; cases e2
         rw [WU,WX (by simp only; omega),WZ (by simp only; omega),<- e2];simp only; congr 1; omega
       obtain ⟨R1,le⟩:=R.move (n:=s.nx) (b:=pb) (o':=.row (cs.drop off++ys) q.e 1) (pl':=⟨pl.cd,pl.sh+off,c'⟩) hn g1 rfl hb k3 (.inl rfl) g5 hobj;refine P _ _ _ le R1 ?_
       have:=VR.sl (ρ:=jO ρ s.nx ⟨pl.cd,pl.sh+off,c'⟩) (c:=pF) (c':=c') 0 (l+(m+1)) (fg _ _ _) (.inr ⟨Nat.le_of_lt vj,rfl⟩) hroom
       simpa using this
      ·
       have hold:∀ (K:Array YB->Hp->Prop),K ((rs.drop (pl.sh+off)).take (l*q.sz)).toArray h->aP C.P (Builtin.firstCells q.sz l (.slice (some ⟨pl.cd,pl.sh+off,none⟩) l c')) h K:=by
        have hm:l*q.sz<=c'*q.sz:=Xo _ g3;have hln:((rs.drop (pl.sh+off)).take (l*q.sz)).length=l*q.sz:=by rw [WO,Xu,g7]; omega
        exact fun K hk=>cU hln (g6.cells _ (by rw [hln])) _ hk
       have hov:dL ρ (cs.drop off) ((rs.drop (pl.sh+off)).take (l*q.sz)):=by
        have hm:l*q.sz<=c'*q.sz:=Xo _ g3;refine dL.NN (by rw [Xu,WO,Xu,g7,hle]; omega) fun i v hi=>?_
        rw [XV] at hi;obtain ⟨v',e2,e3⟩:=g8 _ _ hi;refine ⟨v',?_,e3⟩
        have:off+i<cs.length:=by
         rcases Xg (off+i) cs.length with h | h
         ·exact h
         ·rw [W2 h] at hi; cases hi
        rw [X7,WC ad,XV,<- e2]
        congr 1; omega
       refine zr E ht' hroom hfc hold hby hlm ?_;intro nc rest h' k1 k2 k3 k4 k5;refine ⟨_,_,_,rfl,?_⟩;have hcs:(cs.drop off++ys).length=(l+(m+1))*q.sz:=by rw [Wv,Xu,hle,hyl,XA l]; omega
       have hcp:nc*C.P.cellsOf q.e=(((rs.drop (pl.sh+off)).take (l*q.sz))++ys').length+rest.length:=by
        rw [k3,<- (hov.append hyv).length,hcs,cr E.sQ,E.sz,<- XA]
        congr 1; omega
       obtain ⟨R1,le⟩:=R.move (n:=s.nx) (b:=pb) (o':=.row (cs.drop off++ys) q.e 1) (pl':=⟨h.size,0,nc⟩) hn g1 rfl hb (k5.mono aj) (.inr rfl) R.size (Gc R.size (hov.append hyv) (Le.jO (R.N6 _ hn)) k4 fun _=>⟨hcp,k2⟩);refine P _ _ _ le R1 ?_
       have:=VR.sl (ρ:=jO ρ s.nx ⟨h.size,0,nc⟩) (c:=pF) (c':=nc) 0 (l+(m+1)) (fg _ _ _) (.inr ⟨Nat.le_of_lt vj,rfl⟩) k1
       simpa using this
     ·cases hx
 ·cases hx
end
end Go.Sx.Cr
