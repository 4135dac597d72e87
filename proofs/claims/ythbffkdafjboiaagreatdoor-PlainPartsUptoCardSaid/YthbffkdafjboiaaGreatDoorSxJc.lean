/- Part of the framework. No condition. -/
import Derived.Test.YthbffkdafjboiaaGreatDoorSxJb
set_option linter.all false
set_option maxHeartbeats 4000000
namespace Go.Sx.Cr
section
variable {C:Cx} {h0:Hp} {ρ:gn} {s s1:CS} {h:Hp} {e:Ev} {e':Env} {L:Lp} {K:ZB->Hp->Prop} {kk:ZB->T}
def Qd {P:Program} {t:TypeId} {q:El} {i:TypeInfo} {z:ZB} (E:FW P t q i z) {n:Nat} {ps:List (Nat × ZB)} {r:List (Nat × List ZB)} {cs:List ZB} (hn:n*q.sz<=16777216) (hl:r.length=n)
  (hc:kL ps r) (hs:Gi q.sz 0 r=some cs) {K:ZB->Hp->Prop} (hk:∀ h',bH h' h.size q.e cs->Ext h h'->K (.slice (some ⟨h.size,0,none⟩) n n) h'):aS P (Instr.buildSlice t n ps.toArray) h K:=by
 rcases Nat.eq_zero_or_pos n with h0 | h0
 ·subst h0;have hr:r=[]:=X7 hl;subst hr;cases hc
  have:some []=some cs:=hs
  cases this;unfold Instr.buildSlice;rw [ar,aF E.TK];simp only;rw [ar,bS E.tA];simp only [Nat.zero_mul];rw [W6 ad];have h0:∀ f:Nat->ZB,Array.map f (Array.range 0)=#[]:=fun f=>aj
  simp only [h0];exact hk _ (by simpa using bH.new h q.e []) (Ext.push h _)
 ·have hp:=E.pos;have hnz:n*q.sz≠0:=fun hh=>by rcases Nat.mul_eq_zero.1 hh with h1 | h1 <;> omega
  have hlen:((Array.range (n*i.size)).map (z.cells[· % z.cells.size]!)).toList.length=r.length*q.sz:=by simp [hl,E.sz]
  have hf:=Bm (A:=[]) hs aj hlen;rw [Yr,Yr] at hf;have hf':=Cy hc hf;refine jB E.TK E.tA E.zero (by rw [E.sz]; exact hnz) (by rw [E.sz]; omega) (cells:=cs.toArray) (by rw [E.sz] at hf' ⊢; exact hf') fun h' b k _=>?_
  exact hk h' (by simpa using b) k
def OX {t:TypeId} (R:Rel C h0 ρ s.σ h) {n:Nat} {ps ps':List (Nat × ZB)} {v:ZB} (hp:PR ρ ps ps') (hx:Lq C.P t n ps s=some (v,s1)) (P:nH C h0 ρ s1 v kk L K) :
  T.ek C.P (Instr.buildSlice t n ps'.toArray) false [(false,[.slice 0])] (fun p l c=>kk (.slice p l c)) L K h:=by
 unfold Lq at hx;obtain ⟨q,hq,hx⟩:=W1.1 hx;obtain ⟨h1,hx⟩:=bq.1 hx;obtain ⟨cs,hc,hx⟩:=W1.1 hx;obtain ⟨h2,hc⟩:=bq.1 (show fG _ _=some cs from hc);obtain ⟨s2,hn2,hx⟩:=W1.1 (show (yj s (.row cs q.e 0)).bind _=some (v,s1) from hx);obtain ⟨hn,h3⟩:=iO.1 hn2;subst h3;cases hx;obtain ⟨i,z,E⟩:=B7 hq;obtain ⟨h4,h5⟩:=DM hp;obtain ⟨cs',h6,h7,h8⟩:=IE _ hc h4;refine dt ?_;refine Qd E (Xx h1) (by rw [h8]; exact Xg h2) h5 h6 fun h' b k=>?_
 obtain ⟨R1,le⟩:=R.newRow (rest:=[]) (e:=q.e) (m:=0) (cap:=0) hn h7 (by rw [X4]; exact b) k ad;have hv:=VR.sl (ρ:=je ρ s.nx ⟨h.size,0,0⟩) (c:=n) (c':=n) 0 n (fp _ _ _) (.inl ⟨?_,rfl⟩) (Xk _)
 ·exact ⟨_,_,_,rfl,P _ _ _ le R1 (by simpa using hv)⟩
 ·have hp:=E.pos;have h1:=Xx h1
  have:n*1<=n*q.sz:=Nat.mul_le_mul_left n hp
  unfold half; omega
def Jn (R:Rel C h0 ρ s.σ h) {sz:Nat} {x x':ZB} {ys:List ZB} (hv:VR ρ x x') (hx:F0 C sz x s=some ys) :
  ∃ q q' m mc mc' ys',x=.slice q m mc/\x'=.slice q' m mc'/\dQ ρ ys ys'/\ys.length=m*sz/\∀ K:Array ZB->Hp->Prop,K ys'.toArray h->aS C.P (Builtin.firstCells sz m x') h K:=by
 unfold F0 at hx;split at hx
 ·rename_i q m mc;cases m with
  | zero =>
   cases hx;cases hv with
   | lX _=>exact ⟨_,_,_,_,_,[],rfl,rfl,.nil,aj,fun K hk=>hk⟩
   | sl off l h hc _ =>
    refine ⟨_,_,_,_,_,[],rfl,rfl,.nil,aj,fun K hk=>?_⟩;show aS C.P (loadCells _ (0*sz)) _ K;rw [Za];exact hk
  | succ m =>
   simp only at hx;obtain ⟨⟨b,off⟩,hp,hx⟩:=W1.1 hx
   have:=jv.1 hp
   cases this;cases hv with
   | sl off l hb hc _ =>
    obtain ⟨hn,ys',h1,h2⟩:=qP R hx hb;refine ⟨_,_,_,_,_,ys',rfl,rfl,h1,hn,fun K hk=>?_⟩;exact dH (by rw [<- h1.length]; exact hn) h2 _ hk
 ·cases hx
section ek
variable {P:Program} {t t' ty e2:TypeId} {q:El} {i:TypeInfo} {z:ZB}
def Fk (E:FW P t q i z) (ht':P.underlying t'=some (.slice e2)) {a:Zx} {l c m mc:Nat} {x:ZC} {ys:List ZB} (hroom:l+m<=c)
  (hx:∀ K:Array ZB->Hp->Prop,K ys.toArray h->aS P (Builtin.firstCells q.sz m (.slice x m mc)) h K) {K:ZB->Hp->Prop}
  (hst:xK h (a.add (l*q.sz)) 0 ys) (hk:K (.slice (some a) (l+m) c) (rp h (a.add (l*q.sz)) 0 ys)):aS P (Builtin.append_ #[t,t'] ty #[.slice (some a) l c,.slice x m mc]) h K:=by
 simp [Builtin.append_,ar,aF E.TK,aF ht',bS E.tA,cE E.tA,Builtin.lenOf,hroom,E.sz];refine hx _ ?_;rw [nE];exact fx _ _ _ 0 _ hst hk
def Fv (E:FW P t q i z) (ht':P.underlying t'=some (.slice e2)) {p:ZC} {l c mc:Nat} {x:ZC} (hroom:l<=c)
  (hx:∀ K:Array ZB->Hp->Prop,K #[] h->aS P (Builtin.firstCells q.sz 0 (.slice x 0 mc)) h K) {K:ZB->Hp->Prop}
  (hk:K (.slice p l c) h):aS P (Builtin.append_ #[t,t'] ty #[.slice p l c,.slice x 0 mc]) h K:=by
 simp [Builtin.append_,ar,aF E.TK,aF ht',bS E.tA,cE E.tA,Builtin.lenOf,hroom,E.sz];refine hx _ ?_;cases p with
 | none=>exact hk
 | some a=>exact hk
def Ai (E:FW P t q i z) (ht':P.underlying t'=some (.slice e2)) {p:ZC} {l c m mc:Nat} {x:ZC} {old ys:List ZB} (hroom:¬ l+m<=c)
  (hx:∀ K:Array ZB->Hp->Prop,K ys.toArray h->aS P (Builtin.firstCells q.sz m (.slice x m mc)) h K)
  (ho:∀ K:Array ZB->Hp->Prop,K old.toArray h->aS P (Builtin.firstCells q.sz l (.slice p l c)) h K) {K:ZB->Hp->Prop}
  (hby:(2*(l+m)+1024)*q.by_<=281474976710656) (hl:l+m<=281474976710656)
  (hk:∀ nc rest h',l+m<=nc->nc<9223372036854775808->rest.length=(nc-(l+m))*q.sz->bH h' h.size q.e (old++ys++rest)->Ext h h'->K (.slice (some ⟨h.size,0,none⟩) (l+m) nc) h') :
  aS P (Builtin.append_ #[t,t'] ty #[.slice p l c,.slice x m mc]) h K:=by
 have hcap:¬ 281474976710656<Builtin.nextslicecap (l+m) c*i.bytes:=by
  have h1:=Aj (need:=l+m) (old:=c) ad;have h2:=Ye i.bytes h1;rw [<- E.by_] at hby
  omega
 have hbig:¬ (9223372036854775807<(l:Int)+(m:Int)/\i.bytes=0):=ad
 have hz':(P.info? q.e).bind (·.zero)=some z:=by rw [E.tA]; exact E.zero
 simp [Builtin.append_,ar,aF E.TK,aF ht',bS E.tA,cE E.tA,Builtin.lenOf,hroom,gw E.tA,dp hz',askRoom,hbig,hcap,E.sz];intro tt;have hge:=H3 (l+m) c q.e tt;generalize (Question.appendCap (l+m) c q.e).cut tt=nc at hge;show aS P (if roomBytes<nc*i.bytes then mark Mark.noRoom else pure ()) h _;have hroomy:∀ K':Unit->Hp->Prop,K' () h->aS P (if roomBytes<nc*i.bytes then mark Mark.noRoom else pure ()) h K':=by
  intro K' hk';split
  ·exact hk'
  ·exact hk'
 refine hroomy _ ?_;refine ho _ ?_;refine hx _ ?_;rw [nE];have hb:=bH.new h q.e (old++ys++(Builtin.zeroCells z.cells (nc-(l+m))).toList);have e1:old.toArray++(ys.toArray++Builtin.zeroCells z.cells (nc-(l+m)))=(old++ys++(Builtin.zeroCells z.cells (nc-(l+m))).toList).toArray:=by
  apply XM.1; simp
 refine hk nc (Builtin.zeroCells z.cells (nc-(l+m))).toList _ hge.1 (hge.2 ad) ?_ ?_ (Ext.push h _)
 ·rw [Yb,qj,E.zs,E.sz]
 ·rw [e1]; exact hb
end ek
def vq:half<pB:=cn
def Ph {pl:Pl} {c c':Nat} (hc:JD pl c c') (hlt:Nat.blt c half=true):c'=c:=by
 rw [Nat.blt_eq] at hlt;rcases hc with ⟨_,h⟩ | ⟨h,_⟩
 ·exact h
 ·omega
def Lf {pl:Pl} {c c':Nat} (hc:JD pl c c') (hlt:Nat.blt c half=false):c'+pB=pl.cap+c:=by
 have:¬ c<half:=fun hh=>by rw [<- Nat.blt_eq] at hh; rw [hh] at hlt; cases hlt
 rcases hc with ⟨h,_⟩ | ⟨_,h⟩
 ·exact (this h).elim
 ·exact h
def Si (R:Rel C h0 ρ s.σ h) {sz pb po l c:Nat} {pl:Pl} {old:List ZB} (hp:ρ pb=some pl) (ho:cells C s pb po (l*sz)=some old) :
  ∃ old',dQ ρ old old'/\old.length=l*sz/\∀ (K:Array ZB->Hp->Prop),K old'.toArray h->aS C.P (Builtin.firstCells sz l (.slice (some ⟨pl.cj,pl.sh+po,none⟩) l c)) h K:=by
 obtain ⟨hn,old',h1,h2⟩:=qP R ho hp;exact ⟨old',h1,hn,fun K hk=>dH (by rw [<- h1.length]; exact hn) h2 _ hk⟩
def FU {q:El} {t:TypeId} {i:TypeInfo} {z:ZB} (E:FW C.P t q i z) (R:Rel C h0 ρ s.σ h) {pb po l c c':Nat} {cs:List ZB} (hx:B8 q po l c (s.σ.get pb)=some cs) {pl:Pl} (hp:ρ pb=some pl) (hc:c'+pB=pl.cap+c) :
  s.σ.get pb=some (.row cs q.e 1)/\po+l*q.sz<=cs.length/\l<=c'/\c'<9223372036854775808/\h0.size<=pl.cj/\∃ rs,bH h pl.cj q.e rs/\rs.length=pl.sh+po+c'*q.sz/\∀ (i:Nat) (v:ZB),cs[i]?=some v->∃ v',rs[pl.sh+i]?=some v'/\VR ρ v v':=by
 unfold B8 at hx;split at hx
 ·rename_i cs2 e' m' hr;obtain ⟨h1,h2⟩:=bq.1 hx;cases h2;simp only [Bool.and_eq_true] at h1;obtain ⟨⟨⟨⟨h1,h2⟩,h3⟩,h4⟩,h5⟩:=h1;obtain rfl:m'=1:=Xg h1;obtain rfl:q.e=e':=Xg h2;have h3:=Xx h3;have h4:po=(pB-c)*q.sz:=Xg h4;have h5:=Xx h5;obtain ⟨rs,f,hg,hcs,hm,ho⟩:=R.row hr hp;obtain ⟨rfl,hgs⟩:=hm ad;obtain ⟨hs,hcap⟩:=ho.1 rfl;rw [cE E.tA,E.sz] at hs;have hcl:c'+(pB-c)=pl.cap:=ad
  have hsz:rs.size=pl.sh+po+c'*q.sz:=by rw [<- hs,<- hcl,Ya,h4]; omega
  refine ⟨hr,h5,?_,ad,hgs,rs.toList,by unfold bH; simpa using hg,by simpa using hsz,fun i v hv=>?_⟩
  ·rcases Nat.eq_zero_or_pos (l*q.sz) with hz | hz
   ·have:=E.pos
    rcases Nat.mul_eq_zero.1 hz with h6 | h6 <;> omega
   ·obtain ⟨v',e1,_⟩:=hcs (po+l*q.sz-1) (cs[po+l*q.sz-1]'ad) (by rw [W5]);have hlt:pl.sh+(po+l*q.sz-1)<rs.size:=by
     rcases XR (pl.sh+(po+l*q.sz-1)) rs.size with h | h
     ·exact h
     ·rw [XY h] at e1; cases e1
    have:l*q.sz<=c'*q.sz:=ad
    exact Nat.le_of_mul_le_mul_right this E.pos
  ·obtain ⟨v',e1,e2⟩:=hcs i v hv;exact ⟨v',by rw [Yn]; exact e1,e2⟩
 ·cases hx
def openNew {P:Program} (q:El) {t:TypeId} {i:TypeInfo} {z:ZB} (E:FW C.P t q i z) (R:Rel C h0 ρ s.σ h) (hn:s.σ.get s.nx=none) {cs cs' rest:List ZB} {l nc:Nat} {h':Hp} (hc:dQ ρ cs cs') (hl:cs.length=l*q.sz)
  (h1:l<=nc) (h2:nc<9223372036854775808) (hr:rest.length=(nc-l)*q.sz) (hb:bH h' h.size q.e (cs'++rest)) (k:Ext h h') (Po:∀ ρ1 v1 h1,Le ρ ρ1->Rel C h0 ρ1 (s.σ.put s.nx (.row cs q.e 1)) h1->VR ρ1 (.slice (some ⟨s.nx,0,none⟩) l pB) v1->kk v1 L K h1) :
  kk (.slice (some ⟨h.size,0,none⟩) l nc) L K h':=by
 have hcap:nc*C.P.cellsOf q.e=cs'.length+rest.length:=by
  rw [hr,<- hc.length,hl,cE E.tA,E.sz,<- Ya]
  congr 1; omega
 obtain ⟨R1,le⟩:=R.newRow (e:=q.e) (m:=1) (cap:=nc) hn hc hb k fun _=>⟨hcap,h2⟩
 have hv:=VR.sl (ρ:=je ρ s.nx ⟨h.size,0,nc⟩) (c:=pB) (c':=nc) 0 l (fp _ _ _) (.inr ⟨Nat.le_of_lt vq,rfl⟩) h1;exact Po _ _ _ le R1 (by simpa using hv)
def Ga (R:Rel C h0 ρ s.σ h) {ts:Array TypeId} {ty:TypeId} {vs vs':List ZB} {v:ZB} (hv:dQ ρ vs vs') (hx:CX C ts.toList vs s=some (v,s1)) (P:nH C h0 ρ s1 v kk L K) :
  T.ek C.P (Builtin.append_ ts ty vs'.toArray) false [(false,[.slice 0])] (fun p l c=>kk (.slice p l c)) L K h:=by
 refine dt ?_;unfold CX at hx;split at hx
 ·rename_i t t' a x hts;obtain ⟨h1,hx⟩:=bq.1 hx;obtain ⟨q,hq,hx⟩:=W1.1 hx;obtain ⟨ys,hys,hx⟩:=W1.1 hx;have hts':ts=#[t,t']:=by
   have:=Xj List.toArray hts
   simpa using this
  subst hts';obtain ⟨e2,ht'⟩:∃ e2,C.P.underlying t'=some (.slice e2):=by
   unfold Ie at h1;split at h1
   ·rename_i hh; exact ⟨_,hh⟩
   ·cases h1
  obtain ⟨i,z,E⟩:=B7 hq;cases hv with
  | cons ha hv =>
  cases hv with
  | cons hxx hv =>
  cases hv;obtain ⟨xq,xq',m,mc,mc',ys',hx1,hx2,hyv,hyl,hfc⟩:=Jn R hxx hys;subst hx2;rw [hx1] at hx;obtain ⟨p,l,c,ha1⟩:∃ p l c,a=.slice p l c:=by
   cases a <;> first | exact ⟨_,_,_,rfl⟩ | (simp [SJ] at hx; done)
  rw [ha1] at hx ha;unfold SJ at hx;obtain ⟨h2,hx⟩:=bq.1 hx;simp only [Bool.and_eq_true] at h2;have hby:=Xx h2.1.1;have hlm:=Xx h2.1.2;have hpl:ys'.all cX=true:=by rw [wj hyv]; exact h2.2
  cases m with
  | zero =>
   cases hx;have hy0:ys=[]:=X7 (by simpa using hyl);rw [hy0] at hyv;cases hyv;cases ha with
   | lX hl=>exact Fv E ht' hl hfc ⟨_,_,_,rfl,P.here R (.lX hl)⟩
   | sl off l hb hc hl=>exact Fv E ht' hl hfc ⟨_,_,_,rfl,P.here R (.sl _ _ hb hc hl)⟩
  | succ m =>
   simp only at hx;unfold Ru at hx;cases ha with
   | lX _ =>
    simp only at hx;obtain ⟨h3,hx⟩:=bq.1 hx;simp only [Bool.and_eq_true] at h3;obtain rfl:l=0:=Xg h3.1;obtain rfl:c=0:=Xg h3.2;obtain ⟨s2,hn2,hx⟩:=W1.1 (show (yj s (.row ys q.e 1)).bind _=some (v,s1) from hx);obtain ⟨hn,h4⟩:=iO.1 hn2;subst h4;cases hx;refine Ai (p:=none) (l:=0) (c:=0) (old:=[]) E ht' ad hfc (fun K hk=>hk) hby hlm ?_;intro nc rest h' g1 g2 g3 g4 g5;rw [Yr] at g4;rw [XK] at g1 g3 ⊢;exact ⟨_,_,_,rfl,openNew (P:=C.P) q E R hn hyv hyl g1 g2 g3 g4 g5 P⟩
   | @sl pb pl off l c c' hb hc hl =>
    simp only at hx;obtain ⟨⟨pb2,po⟩,hp2,hx⟩:=W1.1 hx;have hp3:=jv.1 hp2;cases hp3;simp only at hx;unfold Rc at hx;cases hlt:Nat.blt c half with
    | true =>
     rw [hlt] at hx;simp only at hx;obtain rfl:c'=c:=Ph hc hlt;unfold Nh at hx;cases hr:Nat.ble (l+(m+1)) c' with
     | true =>
      rw [hr] at hx;simp only at hx;obtain ⟨s2,hs2,hx⟩:=W1.1 hx;cases hx;obtain ⟨k1,k2⟩:=Il R hyv hs2 hb;rw [show pl.sh+(off+l*q.sz)=pl.sh+off+l*q.sz from ad] at k1 k2;refine Fk E ht' (Xx hr) hfc (by rw [aG]; exact k1) ⟨_,_,_,rfl,?_⟩;rw [aG];exact P _ _ _ (Le.refl _) k2 (.sl _ _ hb hc (Xx hr))
     | false =>
      rw [hr] at hx;simp only at hx;obtain ⟨old,ho,hx⟩:=W1.1 hx;obtain ⟨s2,hn2,hx⟩:=W1.1 (show (yj s (.row (old++ys) q.e 1)).bind _=some (v,s1) from hx);obtain ⟨hn,h4⟩:=iO.1 hn2;subst h4;cases hx;obtain ⟨old',g1,g2,g3⟩:=Si (c:=c') R hb ho;have hro:¬ l+(m+1)<=c':=fun hh=>by rw [Nat.ble_eq_true_of_le hh] at hr; cases hr
      refine Ai E ht' hro hfc g3 hby hlm ?_;intro nc rest h' k1 k2 k3 k4 k5;exact ⟨_,_,_,rfl,openNew (P:=C.P) q E R hn (g1.append hyv) (by rw [W8,g2,hyl,<- Ya]) k1 k2 k3 k4 k5 P⟩
    | false =>
     rw [hlt] at hx;simp only at hx;unfold HD at hx;obtain ⟨cs,ho,hx⟩:=W1.1 hx;obtain ⟨hle,hx⟩:=bq.1 hx;have hle:cs.length=off+l*q.sz:=Xg hle;split at hx
     ·rename_i hn;cases hx;obtain ⟨g1,g2,g3,g4,g5,rs,g6,g7,g8⟩:=FU E R ho hb (Lf hc hlt);have hn':pb≠s.nx:=fun hh=>by rw [hh,hn] at g1; cases g1
      by_cases hroom:l+(m+1)<=c'
      ·
       have hmul:(l+(m+1))*q.sz<=c'*q.sz:=Ye _ hroom;rw [Ya] at hmul;obtain ⟨k1,k2,k3,k4⟩:=lf (off:=pl.sh+off+l*q.sz) ys' h 0 _ g6 hpl (by rw [<- hyv.length,hyl,g7]; omega);refine Fk E ht' hroom hfc (by rw [aG]; exact k1) ⟨_,_,_,rfl,?_⟩;rw [aG];have hobj:wu C.P (je ρ s.nx ⟨pl.cj,pl.sh+off,c'⟩) h0 (rp h ⟨pl.cj,pl.sh+off+l*q.sz,none⟩ 0 ys') ⟨pl.cj,pl.sh+off,c'⟩ (.row (cs.drop off++ys) q.e 1):=by
        refine ⟨_,_,k2,fun i v hi=>?_,fun _=>⟨rfl,g5⟩,fun _=>⟨by simp only [List.size_toArray,my]; rw [g7,cE E.tA,E.sz],g4⟩,fun hh=>by cases hh⟩;have le:Le ρ (je ρ s.nx ⟨pl.cj,pl.sh+off,c'⟩):=Le.je (R.Oe _ hn);have hdl:(cs.drop off).length=l*q.sz:=by rw [X3,hle]; omega
        rw [YP,pd _ _ _ (by rw [<- hyv.length,hyl,g7]; omega),Zi];have e1:(rs.take (pl.sh+off+l*q.sz)).length=pl.sh+off+l*q.sz:=by rw [Xr,g7]; omega
        rcases XR i (l*q.sz) with hi1 | hi1
        ·rw [XG ad,YC] at hi;obtain ⟨v',e2,e3⟩:=g8 _ _ hi;refine ⟨v',?_,e3.mono le⟩;rw [Xs,XG (by simp only; omega),YN,Xb (by simp only; omega),<- e2];simp only; congr 1; omega
        ·rw [XC ad,hdl] at hi;obtain ⟨v',e2,e3⟩:=hyv.get hi;refine ⟨v',?_,e3.mono le⟩
         have:i-l*q.sz<ys'.length:=by
          rcases XR (i-l*q.sz) ys'.length with h | h
          ·exact h
          ·rw [XI h] at e2; cases e2
         rw [Xs,XC (by simp only; omega),XG (by simp only; omega),<- e2];simp only; congr 1; omega
       obtain ⟨R1,le⟩:=R.move (n:=s.nx) (b:=pb) (o':=.row (cs.drop off++ys) q.e 1) (pl':=⟨pl.cj,pl.sh+off,c'⟩) hn g1 rfl hb k3 (.inl rfl) g5 hobj;refine P _ _ _ le R1 ?_
       have:=VR.sl (ρ:=je ρ s.nx ⟨pl.cj,pl.sh+off,c'⟩) (c:=pB) (c':=c') 0 (l+(m+1)) (fp _ _ _) (.inr ⟨Nat.le_of_lt vq,rfl⟩) hroom
       simpa using this
      ·
       have hold:∀ (K:Array ZB->Hp->Prop),K ((rs.drop (pl.sh+off)).take (l*q.sz)).toArray h->aS C.P (Builtin.firstCells q.sz l (.slice (some ⟨pl.cj,pl.sh+off,none⟩) l c')) h K:=by
        have hm:l*q.sz<=c'*q.sz:=Ye _ g3;have hln:((rs.drop (pl.sh+off)).take (l*q.sz)).length=l*q.sz:=by rw [Xr,X3,g7]; omega
        exact fun K hk=>dH hln (g6.cells _ (by rw [hln])) _ hk
       have hov:dQ ρ (cs.drop off) ((rs.drop (pl.sh+off)).take (l*q.sz)):=by
        have hm:l*q.sz<=c'*q.sz:=Ye _ g3;refine dQ.NW (by rw [X3,Xr,X3,g7,hle]; omega) fun i v hi=>?_
        rw [YC] at hi;obtain ⟨v',e2,e3⟩:=g8 _ _ hi;refine ⟨v',?_,e3⟩
        have:off+i<cs.length:=by
         rcases XR (off+i) cs.length with h | h
         ·exact h
         ·rw [XI h] at hi; cases hi
        rw [YN,Xb ad,YC,<- e2]
        congr 1; omega
       refine Ai E ht' hroom hfc hold hby hlm ?_;intro nc rest h' k1 k2 k3 k4 k5;refine ⟨_,_,_,rfl,?_⟩;have hcs:(cs.drop off++ys).length=(l+(m+1))*q.sz:=by rw [W8,X3,hle,hyl,Ya l]; omega
       have hcp:nc*C.P.cellsOf q.e=(((rs.drop (pl.sh+off)).take (l*q.sz))++ys').length+rest.length:=by
        rw [k3,<- (hov.append hyv).length,hcs,cE E.tA,E.sz,<- Ya]
        congr 1; omega
       obtain ⟨R1,le⟩:=R.move (n:=s.nx) (b:=pb) (o':=.row (cs.drop off++ys) q.e 1) (pl':=⟨h.size,0,nc⟩) hn g1 rfl hb (k5.mono aj) (.inr rfl) R.size (G5 R.size (hov.append hyv) (Le.je (R.Oe _ hn)) k4 fun _=>⟨hcp,k2⟩);refine P _ _ _ le R1 ?_
       have:=VR.sl (ρ:=je ρ s.nx ⟨h.size,0,nc⟩) (c:=pB) (c':=nc) 0 (l+(m+1)) (fp _ _ _) (.inr ⟨Nat.le_of_lt vq,rfl⟩) k1
       simpa using this
     ·cases hx
 ·cases hx
end
end Go.Sx.Cr
