/- Closed runs, part Jc: slice literals, append over a store. No condition but the store's. -/
import Derived.Test.YtlpcncdglfjnoaaGreatDoorSxJb
set_option linter.all false
set_option maxHeartbeats 4000000
namespace Go.Sx.Cr
section
variable {C:Cx} {h0:Hp} {ρ:fR} {s s1:CS} {h:Hp} {e:Ev} {e':Env} {L:Lp} {K:ZB->Hp->Prop} {kk:ZB->T}
theorem Qx {P:Program} {t:TypeId} {q:El} {i:TypeInfo} {z:ZB} (E:Ha P t q i z) {n:Nat} {ps:List (Nat × ZB)} {r:List (Nat × List ZB)} {cs:List ZB} (hn:n*q.sz<=16777216) (hl:r.length=n)
  (hc:kn ps r) (hs:GF q.sz 0 r=some cs) {K:ZB->Hp->Prop} (hk:∀ h',bz h' h.size q.e cs->Ext h h'->K (.slice (some ⟨h.size,0,none⟩) n n) h'):aQ P (Instr.buildSlice t n ps.toArray) h K:=by
 rcases Nat.eq_zero_or_pos n with h0 | h0
 ·subst h0;have hr:r=[]:=XN hl;subst hr;cases hc
  have:some []=some cs:=hs
  cases this;unfold Instr.buildSlice;rw [ar,aD E.TK];simp only;rw [ar,bM E.tC];simp only [Nat.zero_mul];rw [WV ad];have h0:∀ f:Nat->ZB,Array.map f (Array.range 0)=#[]:=fun f=>aj
  simp only [h0];exact hk _ (by simpa using bz.new h q.e []) (Ext.push h _)
 ·have hp:=E.pos;have hnz:n*q.sz≠0:=fun hh=>by rcases Nat.mul_eq_zero.1 hh with h1 | h1 <;> omega
  have hlen:((Array.range (n*i.size)).map (z.cells[· % z.cells.size]!)).toList.length=r.length*q.sz:=by simp [hl,E.sz]
  have hf:=Bn (A:=[]) hs aj hlen;rw [Yj,Yj] at hf;have hf':=CQ hc hf;refine jo E.TK E.tC E.zero (by rw [E.sz]; exact hnz) (by rw [E.sz]; omega) (cells:=cs.toArray) (by rw [E.sz] at hf' ⊢; exact hf') fun h' b k _=>?_
  exact hk h' (by simpa using b) k
theorem QG {t:TypeId} (R:Rel C h0 ρ s.σ h) {n:Nat} {ps ps':List (Nat × ZB)} {v:ZB} (hp:PR ρ ps ps') (hx:Lz C.P t n ps s=some (v,s1)) (P:oi C h0 ρ s1 v kk L K) :
  T.dY C.P (Instr.buildSlice t n ps'.toArray) false [(false,[.slice 0])] (fun p l c=>kk (.slice p l c)) L K h:=by
 unfold Lz at hx;obtain ⟨q,hq,hx⟩:=WO.1 hx;obtain ⟨h1,hx⟩:=bj.1 hx;obtain ⟨cs,hc,hx⟩:=WO.1 hx;obtain ⟨h2,hc⟩:=bj.1 (show fw _ _=some cs from hc);obtain ⟨s2,hn2,hx⟩:=WO.1 (show (xT s (.row cs q.e 0)).bind _=some (v,s1) from hx);obtain ⟨hn,h3⟩:=iB.1 hn2;subst h3;cases hx;obtain ⟨i,z,E⟩:=Ca hq;obtain ⟨h4,h5⟩:=DM hp;obtain ⟨cs',h6,h7,h8⟩:=Ir _ hc h4;refine dm ?_;refine Qx E (Xi h1) (by rw [h8]; exact W3 h2) h5 h6 fun h' b k=>?_
 obtain ⟨R1,le⟩:=R.newRow (rest:=[]) (e:=q.e) (m:=0) (cap:=0) hn h7 (by rw [XP]; exact b) k ad;have hv:=VR.sl (ρ:=jN ρ s.nx ⟨h.size,0,0⟩) (c:=n) (c':=n) 0 n (fj _ _ _) (.inl ⟨?_,rfl⟩) (W9 _)
 ·exact ⟨_,_,_,rfl,P _ _ _ le R1 (by simpa using hv)⟩
 ·have hp:=E.pos;have h1:=Xi h1
  have:n*1<=n*q.sz:=Nat.mul_le_mul_left n hp
  unfold half; omega
theorem JX (R:Rel C h0 ρ s.σ h) {sz:Nat} {x x':ZB} {ys:List ZB} (hv:VR ρ x x') (hx:Gk C sz x s=some ys) :
  ∃ q q' m mc mc' ys',x=.slice q m mc/\x'=.slice q' m mc'/\dG ρ ys ys'/\ys.length=m*sz/\∀ K:Array ZB->Hp->Prop,K ys'.toArray h->aQ C.P (Builtin.firstCells sz m x') h K:=by
 unfold Gk at hx;split at hx
 ·rename_i q m mc;cases m with
  | zero =>
   cases hx;cases hv with
   | lO _=>exact ⟨_,_,_,_,_,[],rfl,rfl,.nil,aj,fun K hk=>hk⟩
   | sl off l h hc _ =>
    refine ⟨_,_,_,_,_,[],rfl,rfl,.nil,aj,fun K hk=>?_⟩;show aQ C.P (loadCells _ (0*sz)) _ K;rw [YX];exact hk
  | succ m =>
   simp only at hx;obtain ⟨⟨b,off⟩,hp,hx⟩:=WO.1 hx
   have:=iY.1 hp
   cases this;cases hv with
   | sl off l hb hc _ =>
    obtain ⟨hn,ys',h1,h2⟩:=qV R hx hb;refine ⟨_,_,_,_,_,ys',rfl,rfl,h1,hn,fun K hk=>?_⟩;exact dA (by rw [<- h1.length]; exact hn) h2 _ hk
 ·cases hx
section dY
variable {P:Program} {t t' ty e2:TypeId} {q:El} {i:TypeInfo} {z:ZB}
theorem Eo (E:Ha P t q i z) (ht':P.underlying t'=some (.slice e2)) {a:ZC} {l c m mc:Nat} {x:Option ZC} {ys:List ZB} (hroom:l+m<=c)
  (hx:∀ K:Array ZB->Hp->Prop,K ys.toArray h->aQ P (Builtin.firstCells q.sz m (.slice x m mc)) h K) {K:ZB->Hp->Prop}
  (hst:xI h (a.add (l*q.sz)) 0 ys) (hk:K (.slice (some a) (l+m) c) (qz h (a.add (l*q.sz)) 0 ys)):aQ P (Builtin.append_ #[t,t'] ty #[.slice (some a) l c,.slice x m mc]) h K:=by
 simp [Builtin.append_,ar,aD E.TK,aD ht',bM E.tC,cz E.tC,Builtin.lenOf,hroom,E.sz];refine hx _ ?_;rw [nC];exact fg _ _ _ 0 _ hst hk
theorem ED (E:Ha P t q i z) (ht':P.underlying t'=some (.slice e2)) {p:Option ZC} {l c mc:Nat} {x:Option ZC} (hroom:l<=c)
  (hx:∀ K:Array ZB->Hp->Prop,K #[] h->aQ P (Builtin.firstCells q.sz 0 (.slice x 0 mc)) h K) {K:ZB->Hp->Prop}
  (hk:K (.slice p l c) h):aQ P (Builtin.append_ #[t,t'] ty #[.slice p l c,.slice x 0 mc]) h K:=by
 simp [Builtin.append_,ar,aD E.TK,aD ht',bM E.tC,cz E.tC,Builtin.lenOf,hroom,E.sz];refine hx _ ?_;cases p with
 | none=>exact hk
 | some a=>exact hk
theorem zC (E:Ha P t q i z) (ht':P.underlying t'=some (.slice e2)) {p:Option ZC} {l c m mc:Nat} {x:Option ZC} {old ys:List ZB} (hroom:¬ l+m<=c)
  (hx:∀ K:Array ZB->Hp->Prop,K ys.toArray h->aQ P (Builtin.firstCells q.sz m (.slice x m mc)) h K)
  (ho:∀ K:Array ZB->Hp->Prop,K old.toArray h->aQ P (Builtin.firstCells q.sz l (.slice p l c)) h K) {K:ZB->Hp->Prop}
  (hby:(2*(l+m)+1024)*q.by_<=281474976710656) (hl:l+m<=281474976710656)
  (hk:∀ nc rest h',l+m<=nc->nc<9223372036854775808->rest.length=(nc-(l+m))*q.sz->bz h' h.size q.e (old++ys++rest)->Ext h h'->K (.slice (some ⟨h.size,0,none⟩) (l+m) nc) h') :
  aQ P (Builtin.append_ #[t,t'] ty #[.slice p l c,.slice x m mc]) h K:=by
 have hcap:¬ 281474976710656<Builtin.nextslicecap (l+m) c*i.bytes:=by
  have h1:=zV (need:=l+m) (old:=c) ad;have h2:=XZ i.bytes h1;rw [<- E.by_] at hby
  omega
 have hbig:¬ (9223372036854775807<(l:Int)+(m:Int)/\i.bytes=0):=ad
 have hz':(P.info? q.e).bind (·.zero)=some z:=by rw [E.tC]; exact E.zero
 simp [Builtin.append_,ar,aD E.TK,aD ht',bM E.tC,cz E.tC,Builtin.lenOf,hroom,gf E.tC,dh hz',askRoom,hbig,hcap,E.sz];intro tt;have hge:=Hy (l+m) c q.e tt;generalize (Question.appendCap (l+m) c q.e).cut tt=nc at hge;show aQ P (if roomBytes<nc*i.bytes then mark Mark.noRoom else pure ()) h _;have hroomy:∀ K':Unit->Hp->Prop,K' () h->aQ P (if roomBytes<nc*i.bytes then mark Mark.noRoom else pure ()) h K':=by
  intro K' hk';split
  ·exact hk'
  ·exact hk'
 refine hroomy _ ?_;refine ho _ ?_;refine hx _ ?_;rw [nC];have hb:=bz.new h q.e (old++ys++(Builtin.zeroCells z.cells (nc-(l+m))).toList);have e1:old.toArray++(ys.toArray++Builtin.zeroCells z.cells (nc-(l+m)))=(old++ys++(Builtin.zeroCells z.cells (nc-(l+m))).toList).toArray:=by
  apply Xv.1; simp
 refine hk nc (Builtin.zeroCells z.cells (nc-(l+m))).toList _ hge.1 (hge.2 ad) ?_ ?_ (Ext.push h _)
 ·rw [XT,qB,E.zs,E.sz]
 ·rw [e1]; exact hb
end dY
theorem uP:half<pH:=bU
theorem Pb {pl:Pl} {c c':Nat} (hc:Jt pl c c') (hlt:Nat.blt c half=true):c'=c:=by
 rw [Nat.blt_eq] at hlt;rcases hc with ⟨_,h⟩ | ⟨h,_⟩
 ·exact h
 ·omega
theorem KV {pl:Pl} {c c':Nat} (hc:Jt pl c c') (hlt:Nat.blt c half=false):c'+pH=pl.cap+c:=by
 have:¬ c<half:=fun hh=>by rw [<- Nat.blt_eq] at hh; rw [hh] at hlt; cases hlt
 rcases hc with ⟨h,_⟩ | ⟨_,h⟩
 ·exact (this h).elim
 ·exact h
theorem Tl (R:Rel C h0 ρ s.σ h) {sz pb po l c:Nat} {pl:Pl} {old:List ZB} (hp:ρ pb=some pl) (ho:cells C s pb po (l*sz)=some old) :
  ∃ old',dG ρ old old'/\old.length=l*sz/\∀ (K:Array ZB->Hp->Prop),K old'.toArray h->aQ C.P (Builtin.firstCells sz l (.slice (some ⟨pl.bY,pl.sh+po,none⟩) l c)) h K:=by
 obtain ⟨hn,old',h1,h2⟩:=qV R ho hp;exact ⟨old',h1,hn,fun K hk=>dA (by rw [<- h1.length]; exact hn) h2 _ hk⟩
theorem GX {q:El} {t:TypeId} {i:TypeInfo} {z:ZB} (E:Ha C.P t q i z) (R:Rel C h0 ρ s.σ h) {pb po l c c':Nat} {cs:List ZB} (hx:Db q po l c (s.σ.get pb)=some cs) {pl:Pl} (hp:ρ pb=some pl) (hc:c'+pH=pl.cap+c) :
  s.σ.get pb=some (.row cs q.e 1)/\po+l*q.sz<=cs.length/\l<=c'/\c'<9223372036854775808/\h0.size<=pl.bY/\∃ rs,bz h pl.bY q.e rs/\rs.length=pl.sh+po+c'*q.sz/\∀ (i:Nat) (v:ZB),cs[i]?=some v->∃ v',rs[pl.sh+i]?=some v'/\VR ρ v v':=by
 unfold Db at hx;split at hx
 ·rename_i cs2 e' m' hr;obtain ⟨h1,h2⟩:=bj.1 hx;cases h2;simp only [Bool.and_eq_true] at h1;obtain ⟨⟨⟨⟨h1,h2⟩,h3⟩,h4⟩,h5⟩:=h1;obtain rfl:m'=1:=W3 h1;obtain rfl:q.e=e':=W3 h2;have h3:=Xi h3;have h4:po=(pH-c)*q.sz:=W3 h4;have h5:=Xi h5;obtain ⟨rs,f,hg,hcs,hm,ho⟩:=R.row hr hp;obtain ⟨rfl,hgs⟩:=hm ad;obtain ⟨hs,hcap⟩:=ho.1 rfl;rw [cz E.tC,E.sz] at hs;have hcl:c'+(pH-c)=pl.cap:=ad
  have hsz:rs.size=pl.sh+po+c'*q.sz:=by rw [<- hs,<- hcl,XX,h4]; omega
  refine ⟨hr,h5,?_,ad,hgs,rs.toList,by unfold bz; simpa using hg,by simpa using hsz,fun i v hv=>?_⟩
  ·rcases Nat.eq_zero_or_pos (l*q.sz) with hz | hz
   ·have:=E.pos
    rcases Nat.mul_eq_zero.1 hz with h6 | h6 <;> omega
   ·obtain ⟨v',e1,_⟩:=hcs (po+l*q.sz-1) (cs[po+l*q.sz-1]'ad) (by rw [WT]);have hlt:pl.sh+(po+l*q.sz-1)<rs.size:=by
     rcases XE (pl.sh+(po+l*q.sz-1)) rs.size with h | h
     ·exact h
     ·rw [XF h] at e1; cases e1
    have:l*q.sz<=c'*q.sz:=ad
    exact Nat.le_of_mul_le_mul_right this E.pos
  ·obtain ⟨v',e1,e2⟩:=hcs i v hv;exact ⟨v',by rw [X5]; exact e1,e2⟩
 ·cases hx
theorem openNew {P:Program} (q:El) {t:TypeId} {i:TypeInfo} {z:ZB} (E:Ha C.P t q i z) (R:Rel C h0 ρ s.σ h) (hn:s.σ.get s.nx=none) {cs cs' rest:List ZB} {l nc:Nat} {h':Hp} (hc:dG ρ cs cs') (hl:cs.length=l*q.sz)
  (h1:l<=nc) (h2:nc<9223372036854775808) (hr:rest.length=(nc-l)*q.sz) (hb:bz h' h.size q.e (cs'++rest)) (k:Ext h h') (Po:∀ ρ1 v1 h1,Le ρ ρ1->Rel C h0 ρ1 (s.σ.put s.nx (.row cs q.e 1)) h1->VR ρ1 (.slice (some ⟨s.nx,0,none⟩) l pH) v1->kk v1 L K h1) :
  kk (.slice (some ⟨h.size,0,none⟩) l nc) L K h':=by
 have hcap:nc*C.P.cellsOf q.e=cs'.length+rest.length:=by
  rw [hr,<- hc.length,hl,cz E.tC,E.sz,<- XX]
  congr 1; omega
 obtain ⟨R1,le⟩:=R.newRow (e:=q.e) (m:=1) (cap:=nc) hn hc hb k fun _=>⟨hcap,h2⟩
 have hv:=VR.sl (ρ:=jN ρ s.nx ⟨h.size,0,nc⟩) (c:=pH) (c':=nc) 0 l (fj _ _ _) (.inr ⟨Nat.le_of_lt uP,rfl⟩) h1;exact Po _ _ _ le R1 (by simpa using hv)
theorem G3 (R:Rel C h0 ρ s.σ h) {ts:Array TypeId} {ty:TypeId} {vs vs':List ZB} {v:ZB} (hv:dG ρ vs vs') (hx:Cm C ts.toList vs s=some (v,s1)) (P:oi C h0 ρ s1 v kk L K) :
  T.dY C.P (Builtin.append_ ts ty vs'.toArray) false [(false,[.slice 0])] (fun p l c=>kk (.slice p l c)) L K h:=by
 refine dm ?_;unfold Cm at hx;split at hx
 ·rename_i t t' a x hts;obtain ⟨h1,hx⟩:=bj.1 hx;obtain ⟨q,hq,hx⟩:=WO.1 hx;obtain ⟨ys,hys,hx⟩:=WO.1 hx;have hts':ts=#[t,t']:=by
   have:=Xa List.toArray hts
   simpa using this
  subst hts';obtain ⟨e2,ht'⟩:∃ e2,C.P.underlying t'=some (.slice e2):=by
   unfold H4 at h1;split at h1
   ·rename_i hh; exact ⟨_,hh⟩
   ·cases h1
  obtain ⟨i,z,E⟩:=Ca hq;cases hv with
  | cons ha hv =>
  cases hv with
  | cons hxx hv =>
  cases hv;obtain ⟨xq,xq',m,mc,mc',ys',hx1,hx2,hyv,hyl,hfc⟩:=JX R hxx hys;subst hx2;rw [hx1] at hx;obtain ⟨p,l,c,ha1⟩:∃ p l c,a=.slice p l c:=by
   cases a <;> first | exact ⟨_,_,_,rfl⟩ | (simp [R8] at hx; done)
  rw [ha1] at hx ha;unfold R8 at hx;obtain ⟨h2,hx⟩:=bj.1 hx;simp only [Bool.and_eq_true] at h2;have hby:=Xi h2.1.1;have hlm:=Xi h2.1.2;have hpl:ys'.all cP=true:=by rw [wG hyv]; exact h2.2
  cases m with
  | zero =>
   cases hx;have hy0:ys=[]:=XN (by simpa using hyl);rw [hy0] at hyv;cases hyv;cases ha with
   | lO hl=>exact ED E ht' hl hfc ⟨_,_,_,rfl,P.here R (.lO hl)⟩
   | sl off l hb hc hl=>exact ED E ht' hl hfc ⟨_,_,_,rfl,P.here R (.sl _ _ hb hc hl)⟩
  | succ m =>
   simp only at hx;unfold Ry at hx;cases ha with
   | lO _ =>
    simp only at hx;obtain ⟨h3,hx⟩:=bj.1 hx;simp only [Bool.and_eq_true] at h3;obtain rfl:l=0:=W3 h3.1;obtain rfl:c=0:=W3 h3.2;obtain ⟨s2,hn2,hx⟩:=WO.1 (show (xT s (.row ys q.e 1)).bind _=some (v,s1) from hx);obtain ⟨hn,h4⟩:=iB.1 hn2;subst h4;cases hx;refine zC (p:=none) (l:=0) (c:=0) (old:=[]) E ht' ad hfc (fun K hk=>hk) hby hlm ?_;intro nc rest h' g1 g2 g3 g4 g5;rw [Yj] at g4;rw [Xq] at g1 g3 ⊢;exact ⟨_,_,_,rfl,openNew (P:=C.P) q E R hn hyv hyl g1 g2 g3 g4 g5 P⟩
   | @sl pb pl off l c c' hb hc hl =>
    simp only at hx;obtain ⟨⟨pb2,po⟩,hp2,hx⟩:=WO.1 hx;have hp3:=iY.1 hp2;cases hp3;simp only at hx;unfold Ro at hx;cases hlt:Nat.blt c half with
    | true =>
     rw [hlt] at hx;simp only at hx;obtain rfl:c'=c:=Pb hc hlt;unfold M4 at hx;cases hr:Nat.ble (l+(m+1)) c' with
     | true =>
      rw [hr] at hx;simp only at hx;obtain ⟨s2,hs2,hx⟩:=WO.1 hx;cases hx;obtain ⟨k1,k2⟩:=HG R hyv hs2 hb;rw [show pl.sh+(off+l*q.sz)=pl.sh+off+l*q.sz from ad] at k1 k2;refine Eo E ht' (Xi hr) hfc (by rw [aE]; exact k1) ⟨_,_,_,rfl,?_⟩;rw [aE];exact P _ _ _ (Le.refl _) k2 (.sl _ _ hb hc (Xi hr))
     | false =>
      rw [hr] at hx;simp only at hx;obtain ⟨old,ho,hx⟩:=WO.1 hx;obtain ⟨s2,hn2,hx⟩:=WO.1 (show (xT s (.row (old++ys) q.e 1)).bind _=some (v,s1) from hx);obtain ⟨hn,h4⟩:=iB.1 hn2;subst h4;cases hx;obtain ⟨old',g1,g2,g3⟩:=Tl (c:=c') R hb ho;have hro:¬ l+(m+1)<=c':=fun hh=>by rw [Nat.ble_eq_true_of_le hh] at hr; cases hr
      refine zC E ht' hro hfc g3 hby hlm ?_;intro nc rest h' k1 k2 k3 k4 k5;exact ⟨_,_,_,rfl,openNew (P:=C.P) q E R hn (g1.append hyv) (by rw [WU,g2,hyl,<- XX]) k1 k2 k3 k4 k5 P⟩
    | false =>
     rw [hlt] at hx;simp only at hx;unfold Hl at hx;obtain ⟨cs,ho,hx⟩:=WO.1 hx;obtain ⟨hle,hx⟩:=bj.1 hx;have hle:cs.length=off+l*q.sz:=W3 hle;split at hx
     ·rename_i hn;cases hx;obtain ⟨g1,g2,g3,g4,g5,rs,g6,g7,g8⟩:=GX E R ho hb (KV hc hlt);have hn':pb≠s.nx:=fun hh=>by rw [hh,hn] at g1; cases g1
      by_cases hroom:l+(m+1)<=c'
      ·
       have hmul:(l+(m+1))*q.sz<=c'*q.sz:=XZ _ hroom;rw [XX] at hmul;obtain ⟨k1,k2,k3,k4⟩:=kX (off:=pl.sh+off+l*q.sz) ys' h 0 _ g6 hpl (by rw [<- hyv.length,hyl,g7]; omega);refine Eo E ht' hroom hfc (by rw [aE]; exact k1) ⟨_,_,_,rfl,?_⟩;rw [aE];have hobj:vT C.P (jN ρ s.nx ⟨pl.bY,pl.sh+off,c'⟩) h0 (qz h ⟨pl.bY,pl.sh+off+l*q.sz,none⟩ 0 ys') ⟨pl.bY,pl.sh+off,c'⟩ (.row (cs.drop off++ys) q.e 1):=by
        refine ⟨_,_,k2,fun i v hi=>?_,fun _=>⟨rfl,g5⟩,fun _=>⟨by simp only [List.size_toArray,ma]; rw [g7,cz E.tC,E.sz],g4⟩,fun hh=>by cases hh⟩;have le:Le ρ (jN ρ s.nx ⟨pl.bY,pl.sh+off,c'⟩):=Le.jN (R.On _ hn);have hdl:(cs.drop off).length=l*q.sz:=by rw [XQ,hle]; omega
        rw [Yw,ow _ _ _ (by rw [<- hyv.length,hyl,g7]; omega),YT];have e1:(rs.take (pl.sh+off+l*q.sz)).length=pl.sh+off+l*q.sz:=by rw [Xe,g7]; omega
        rcases XE i (l*q.sz) with hi1 | hi1
        ·rw [Xm ad,Ym] at hi;obtain ⟨v',e2,e3⟩:=g8 _ _ hi;refine ⟨v',?_,e3.mono le⟩;rw [Xh,Xm (by simp only; omega),Yv,W2 (by simp only; omega),<- e2];simp only; congr 1; omega
        ·rw [Xl ad,hdl] at hi;obtain ⟨v',e2,e3⟩:=hyv.get hi;refine ⟨v',?_,e3.mono le⟩
         have:i-l*q.sz<ys'.length:=by
          rcases XE (i-l*q.sz) ys'.length with h | h
          ·exact h
          ·rw [Xs h] at e2; cases e2
         rw [Xh,Xl (by simp only; omega),Xm (by simp only; omega),<- e2];simp only; congr 1; omega
       obtain ⟨R1,le⟩:=R.move (n:=s.nx) (b:=pb) (o':=.row (cs.drop off++ys) q.e 1) (pl':=⟨pl.bY,pl.sh+off,c'⟩) hn g1 rfl hb k3 (.inl rfl) g5 hobj;refine P _ _ _ le R1 ?_
       have:=VR.sl (ρ:=jN ρ s.nx ⟨pl.bY,pl.sh+off,c'⟩) (c:=pH) (c':=c') 0 (l+(m+1)) (fj _ _ _) (.inr ⟨Nat.le_of_lt uP,rfl⟩) hroom
       simpa using this
      ·
       have hold:∀ (K:Array ZB->Hp->Prop),K ((rs.drop (pl.sh+off)).take (l*q.sz)).toArray h->aQ C.P (Builtin.firstCells q.sz l (.slice (some ⟨pl.bY,pl.sh+off,none⟩) l c')) h K:=by
        have hm:l*q.sz<=c'*q.sz:=XZ _ g3;have hln:((rs.drop (pl.sh+off)).take (l*q.sz)).length=l*q.sz:=by rw [Xe,XQ,g7]; omega
        exact fun K hk=>dA hln (g6.cells _ (by rw [hln])) _ hk
       have hov:dG ρ (cs.drop off) ((rs.drop (pl.sh+off)).take (l*q.sz)):=by
        have hm:l*q.sz<=c'*q.sz:=XZ _ g3;refine dG.Oa (by rw [XQ,Xe,XQ,g7,hle]; omega) fun i v hi=>?_
        rw [Ym] at hi;obtain ⟨v',e2,e3⟩:=g8 _ _ hi;refine ⟨v',?_,e3⟩
        have:off+i<cs.length:=by
         rcases XE (off+i) cs.length with h | h
         ·exact h
         ·rw [Xs h] at hi; cases hi
        rw [Yv,W2 ad,Ym,<- e2]
        congr 1; omega
       refine zC E ht' hroom hfc hold hby hlm ?_;intro nc rest h' k1 k2 k3 k4 k5;refine ⟨_,_,_,rfl,?_⟩;have hcs:(cs.drop off++ys).length=(l+(m+1))*q.sz:=by rw [WU,XQ,hle,hyl,XX l]; omega
       have hcp:nc*C.P.cellsOf q.e=(((rs.drop (pl.sh+off)).take (l*q.sz))++ys').length+rest.length:=by
        rw [k3,<- (hov.append hyv).length,hcs,cz E.tC,E.sz,<- XX]
        congr 1; omega
       obtain ⟨R1,le⟩:=R.move (n:=s.nx) (b:=pb) (o':=.row (cs.drop off++ys) q.e 1) (pl':=⟨h.size,0,nc⟩) hn g1 rfl hb (k5.mono aj) (.inr rfl) R.size (GR R.size (hov.append hyv) (Le.jN (R.On _ hn)) k4 fun _=>⟨hcp,k2⟩);refine P _ _ _ le R1 ?_
       have:=VR.sl (ρ:=jN ρ s.nx ⟨h.size,0,nc⟩) (c:=pH) (c':=nc) 0 (l+(m+1)) (fj _ _ _) (.inr ⟨Nat.le_of_lt uP,rfl⟩) k1
       simpa using this
     ·cases hx
 ·cases hx
end
end Go.Sx.Cr
