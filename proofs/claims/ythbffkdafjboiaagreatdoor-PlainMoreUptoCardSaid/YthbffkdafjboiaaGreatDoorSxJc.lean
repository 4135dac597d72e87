/- Part of the framework. No condition. -/
import Derived.Test.YthbffkdafjboiaaGreatDoorSxJb
set_option linter.all false
set_option maxHeartbeats 4000000
namespace Go.Sx.Cr
section
variable {C:Cx} {h0:Hp} {ρ:gn} {s s1:CS} {h:Hp} {e:Ev} {e':Env} {L:Lp} {K:Xab->Hp->Prop} {kk:Xab->T}
def Rh {P:Program} {t:TypeId} {q:El} {i:TypeInfo} {z:Xab} (E:Gw P t q i z) {n:Nat} {ps:List (Nat × Xab)} {r:List (Nat × List Xab)} {cs:List Xab} (hn:n*q.sz<=16777216) (hl:r.length=n)
  (hc:kX ps r) (hs:GW q.sz 0 r=some cs) {K:Xab->Hp->Prop} (hk:∀ h',bF h' h.size q.e cs->Ext h h'->K (.slice (some ⟨h.size,0,none⟩) n n) h'):aS P (Instr.buildSlice t n ps.toArray) h K:=by
 rcases Nat.eq_zero_or_pos n with h0 | h0
 ·subst h0;have O:r=[]:=Z4 hl;subst O;cases hc
  have:some []=some cs:=hs
  cases this;unfold Instr.buildSlice;rw [ao,aF E.U0];simp only;rw [ao,cd E.tW];simp only [Nat.zero_mul];rw [Y2 ad];have h0:∀ f:Nat->Xab,Array.map f (Array.range 0)=#[]:=fun f=>aj
  simp only [h0];exact hk _ (by simpa using bF.new h q.e []) (Ext.push h _)
 ·have V:=E.pos;have G:n*q.sz≠0:=fun U=>by rcases Nat.mul_eq_zero.1 U with h1 | h1 <;> omega
  have j:((Array.range (n*i.size)).map (z.cells[· % z.cells.size]!)).toList.length=r.length*q.sz:=by simp [hl,E.sz]
  have J:=BS (A:=[]) hs aj j;rw [aq9,aq9] at J;have u:=C7 hc J;refine jN E.U0 E.tW E.zero (by rw [E.sz]; exact G) (by rw [E.sz]; omega) (cells:=cs.toArray) (by rw [E.sz] at u ⊢; exact u) fun h' b k _=>?_
  exact hk h' (by simpa using b) k
def PX {t:TypeId} (R:Rel C h0 ρ s.σ h) {n:Nat} {ps j:List (Nat × Xab)} {v:Xab} (u:PR ρ ps j) (hx:Mg C.P t n ps s=some (v,s1)) (P:nV C h0 ρ s1 v kk L K) :
  T.eh C.P (Instr.buildSlice t n j.toArray) false [(false,[.slice 0])] (fun p l c=>kk (.slice p l c)) L K h:=by
 unfold Mg at hx;obtain ⟨q,J,hx⟩:=YZ.1 hx;obtain ⟨h1,hx⟩:=bq.1 hx;obtain ⟨cs,hc,hx⟩:=YZ.1 hx;obtain ⟨h2,hc⟩:=bq.1 (show fM _ _=some cs from hc);obtain ⟨V,G,hx⟩:=YZ.1 (show (yN s (.row cs q.e 0)).bind _=some (v,s1) from hx);obtain ⟨hn,h3⟩:=iX.1 G;subst h3;cases hx;obtain ⟨i,z,E⟩:=CF J;obtain ⟨h4,h5⟩:=En u;obtain ⟨O,h6,h7,h8⟩:=Jj _ hc h4;refine dz ?_;refine Rh E (Zw h1) (by rw [h8]; exact Zf h2) h5 h6 fun h' b k=>?_
 obtain ⟨U,le⟩:=R.newRow (rest:=[]) (e:=q.e) (m:=0) (cap:=0) hn h7 (by rw [ZQ]; exact b) k ad;have hv:=VR.sl (ρ:=jn ρ s.nx ⟨h.size,0,0⟩) (c:=n) (c':=n) 0 n (fy _ _ _) (.inl ⟨?_,rfl⟩) (Zh _)
 ·exact ⟨_,_,_,rfl,P _ _ _ le U (by simpa using hv)⟩
 ·have u:=E.pos;have h1:=Zw h1
  have:n*1<=n*q.sz:=Nat.mul_le_mul_left n u
  unfold half; omega
def J3 (R:Rel C h0 ρ s.σ h) {sz:Nat} {x u:Xab} {ys:List Xab} (hv:VR ρ x u) (hx:GA C sz x s=some ys) :
  ∃ q O m J G j,x=.slice q m J/\u=.slice O m G/\dS ρ ys j/\ys.length=m*sz/\∀ K:Array Xab->Hp->Prop,K j.toArray h->aS C.P (Builtin.firstCells sz m u) h K:=by
 unfold GA at hx;split at hx
 ·rename_i q m J;cases m with
  | zero =>
   cases hx;cases hv with
   | mj _=>exact ⟨_,_,_,_,_,[],rfl,rfl,.nil,aj,fun K hk=>hk⟩
   | sl off l h hc _ =>
    refine ⟨_,_,_,_,_,[],rfl,rfl,.nil,aj,fun K hk=>?_⟩;show aS C.P (loadCells _ (0*sz)) _ K;rw [ck9];exact hk
  | succ m =>
   simp only at hx;obtain ⟨⟨b,off⟩,U,hx⟩:=YZ.1 hx
   have:=jG.1 U
   cases this;cases hv with
   | sl off l hb hc _ =>
    obtain ⟨hn,j,h1,h2⟩:=ri R hx hb;refine ⟨_,_,_,_,_,j,rfl,rfl,h1,hn,fun K hk=>?_⟩;exact dJ (by rw [<- h1.length]; exact hn) h2 _ hk
 ·cases hx
section eh
variable {P:Program} {t t' ty e2:TypeId} {q:El} {i:TypeInfo} {z:Xab}
def FZ (E:Gw P t q i z) (u:P.underlying t'=some (.slice e2)) {a:Xax} {l c m J:Nat} {x:Xac} {ys:List Xab} (j:l+m<=c)
  (hx:∀ K:Array Xab->Hp->Prop,K ys.toArray h->aS P (Builtin.firstCells q.sz m (.slice x m J)) h K) {K:Xab->Hp->Prop}
  (G:yb h (a.add (l*q.sz)) 0 ys) (hk:K (.slice (some a) (l+m) c) (rN h (a.add (l*q.sz)) 0 ys)):aS P (Builtin.append_ #[t,t'] ty #[.slice (some a) l c,.slice x m J]) h K:=by
 simp [Builtin.append_,ao,aF E.U0,aF u,cd E.tW,cI E.tW,Builtin.lenOf,j,E.sz];refine hx _ ?_;rw [nS];exact fB _ _ _ 0 _ G hk
def F6 (E:Gw P t q i z) (u:P.underlying t'=some (.slice e2)) {p:Xac} {l c G:Nat} {x:Xac} (j:l<=c)
  (hx:∀ K:Array Xab->Hp->Prop,K #[] h->aS P (Builtin.firstCells q.sz 0 (.slice x 0 G)) h K) {K:Xab->Hp->Prop}
  (hk:K (.slice p l c) h):aS P (Builtin.append_ #[t,t'] ty #[.slice p l c,.slice x 0 G]) h K:=by
 simp [Builtin.append_,ao,aF E.U0,aF u,cd E.tW,cI E.tW,Builtin.lenOf,j,E.sz];refine hx _ ?_;cases p with
 | none=>exact hk
 | some a=>exact hk
def AM (E:Gw P t q i z) (X:P.underlying t'=some (.slice e2)) {p:Xac} {l c m mc:Nat} {x:Xac} {old ys:List Xab} (G:¬ l+m<=c)
  (hx:∀ K:Array Xab->Hp->Prop,K ys.toArray h->aS P (Builtin.firstCells q.sz m (.slice x m mc)) h K)
  (ho:∀ K:Array Xab->Hp->Prop,K old.toArray h->aS P (Builtin.firstCells q.sz l (.slice p l c)) h K) {K:Xab->Hp->Prop}
  (Y:(2*(l+m)+1024)*q.by_<=281474976710656) (hl:l+m<=281474976710656)
  (hk:∀ j rest h',l+m<=j->j<9223372036854775808->rest.length=(j-(l+m))*q.sz->bF h' h.size q.e (old++ys++rest)->Ext h h'->K (.slice (some ⟨h.size,0,none⟩) (l+m) j) h') :
  aS P (Builtin.append_ #[t,t'] ty #[.slice p l c,.slice x m mc]) h K:=by
 have O:¬ 281474976710656<Builtin.nextslicecap (l+m) c*i.bytes:=by
  have h1:=AN (need:=l+m) (old:=c) ad;have h2:=ag9 i.bytes h1;rw [<- E.by_] at Y
  omega
 have U:¬ (9223372036854775807<(l:Int)+(m:Int)/\i.bytes=0):=ad
 have Z:(P.info? q.e).bind (·.zero)=some z:=by rw [E.tW]; exact E.zero
 simp [Builtin.append_,ao,aF E.U0,aF X,cd E.tW,cI E.tW,Builtin.lenOf,G,gM E.tW,dt Z,askRoom,U,O,E.sz];intro tt;have J:=IG (l+m) c q.e tt;generalize (Question.appendCap (l+m) c q.e).cut tt=j at J;show aS P (if roomBytes<j*i.bytes then mark Mark.noRoom else pure ()) h _;have u:∀ K':Unit->Hp->Prop,K' () h->aS P (if roomBytes<j*i.bytes then mark Mark.noRoom else pure ()) h K':=by
  intro K' V;split
  ·exact V
  ·exact V
 refine u _ ?_;refine ho _ ?_;refine hx _ ?_;rw [nS];have hb:=bF.new h q.e (old++ys++(Builtin.zeroCells z.cells (j-(l+m))).toList);have e1:old.toArray++(ys.toArray++Builtin.zeroCells z.cells (j-(l+m)))=(old++ys++(Builtin.zeroCells z.cells (j-(l+m))).toList).toArray:=by
  apply ZK.1; simp
 refine hk j (Builtin.zeroCells z.cells (j-(l+m))).toList _ J.1 (J.2 ad) ?_ ?_ (Ext.push h _)
 ·rw [aa9,qC,E.zs,E.sz]
 ·rw [e1]; exact hb
end eh
def vX:half<pT:=bZ
def Qj {pl:Pl} {c c':Nat} (hc:Kk pl c c') (j:Nat.blt c half=true):c'=c:=by
 rw [Nat.blt_eq] at j;rcases hc with ⟨_,h⟩ | ⟨h,_⟩
 ·exact h
 ·omega
def L8 {pl:Pl} {c c':Nat} (hc:Kk pl c c') (j:Nat.blt c half=false):c'+pT=pl.cap+c:=by
 have:¬ c<half:=fun u=>by rw [<- Nat.blt_eq] at u; rw [u] at j; cases j
 rcases hc with ⟨h,_⟩ | ⟨_,h⟩
 ·exact (this h).elim
 ·exact h
def TB (R:Rel C h0 ρ s.σ h) {sz u G l c:Nat} {pl:Pl} {old:List Xab} (J:ρ u=some pl) (O:cells C s u G (l*sz)=some old) :
  ∃ j,dS ρ old j/\old.length=l*sz/\∀ (K:Array Xab->Hp->Prop),K j.toArray h->aS C.P (Builtin.firstCells sz l (.slice (some ⟨pl.cr,pl.sh+G,none⟩) l c)) h K:=by
 obtain ⟨hn,j,h1,h2⟩:=ri R O J;exact ⟨j,h1,hn,fun K hk=>dJ (by rw [<- h1.length]; exact hn) h2 _ hk⟩
def Gu {q:El} {t:TypeId} {i:TypeInfo} {z:Xab} (E:Gw C.P t q i z) (R:Rel C h0 ρ s.σ h) {G j l c c':Nat} {cs:List Xab} (hx:CG q j l c (s.σ.get G)=some cs) {pl:Pl} (Z:ρ G=some pl) (hc:c'+pT=pl.cap+c) :
  s.σ.get G=some (.row cs q.e 1)/\j+l*q.sz<=cs.length/\l<=c'/\c'<9223372036854775808/\h0.size<=pl.cr/\∃ rs,bF h pl.cr q.e rs/\rs.length=pl.sh+j+c'*q.sz/\∀ (i:Nat) (v:Xab),cs[i]?=some v->∃ v',rs[pl.sh+i]?=some v'/\VR ρ v v':=by
 unfold CG at hx;split at hx
 ·rename_i cs2 e' m' V;obtain ⟨h1,h2⟩:=bq.1 hx;cases h2;simp only [Bool.and_eq_true] at h1;obtain ⟨⟨⟨⟨h1,h2⟩,h3⟩,h4⟩,h5⟩:=h1;obtain rfl:m'=1:=Zf h1;obtain rfl:q.e=e':=Zf h2;have h3:=Zw h3;have h4:j=(pT-c)*q.sz:=Zf h4;have h5:=Zw h5;obtain ⟨rs,f,hg,u,hm,ho⟩:=R.row V Z;obtain ⟨rfl,J⟩:=hm ad;obtain ⟨hs,X⟩:=ho.1 rfl;rw [cI E.tW,E.sz] at hs;have O:c'+(pT-c)=pl.cap:=ad
  have U:rs.size=pl.sh+j+c'*q.sz:=by rw [<- hs,<- O,Z9,h4]; omega
  refine ⟨V,h5,?_,ad,J,rs.toList,by unfold bF; simpa using hg,by simpa using U,fun i v hv=>?_⟩
  ·rcases Nat.eq_zero_or_pos (l*q.sz) with Y | Y
   ·have:=E.pos
    rcases Nat.mul_eq_zero.1 Y with h6 | h6 <;> omega
   ·obtain ⟨v',e1,_⟩:=u (j+l*q.sz-1) (cs[j+l*q.sz-1]'ad) (by rw [Y1]);have hlt:pl.sh+(j+l*q.sz-1)<rs.size:=by
     rcases ZS (pl.sh+(j+l*q.sz-1)) rs.size with h | h
     ·exact h
     ·rw [ZT h] at e1; cases e1
    have:l*q.sz<=c'*q.sz:=ad
    exact Nat.le_of_mul_le_mul_right this E.pos
  ·obtain ⟨v',e1,e2⟩:=u i v hv;exact ⟨v',by rw [an9]; exact e1,e2⟩
 ·cases hx
def openNew {P:Program} (q:El) {t:TypeId} {i:TypeInfo} {z:Xab} (E:Gw C.P t q i z) (R:Rel C h0 ρ s.σ h) (hn:s.σ.get s.nx=none) {cs u rest:List Xab} {l j:Nat} {h':Hp} (hc:dS ρ cs u) (hl:cs.length=l*q.sz)
  (h1:l<=j) (h2:j<9223372036854775808) (O:rest.length=(j-l)*q.sz) (hb:bF h' h.size q.e (u++rest)) (k:Ext h h') (U:∀ ρ1 J h1,Le ρ ρ1->Rel C h0 ρ1 (s.σ.put s.nx (.row cs q.e 1)) h1->VR ρ1 (.slice (some ⟨s.nx,0,none⟩) l pT) J->kk J L K h1) :
  kk (.slice (some ⟨h.size,0,none⟩) l j) L K h':=by
 have G:j*C.P.cellsOf q.e=u.length+rest.length:=by
  rw [O,<- hc.length,hl,cI E.tW,E.sz,<- Z9]
  congr 1; omega
 obtain ⟨V,le⟩:=R.newRow (e:=q.e) (m:=1) (cap:=j) hn hc hb k fun _=>⟨G,h2⟩
 have hv:=VR.sl (ρ:=jn ρ s.nx ⟨h.size,0,j⟩) (c:=pT) (c':=j) 0 l (fy _ _ _) (.inr ⟨Nat.le_of_lt vX,rfl⟩) h1;exact U _ _ _ le V (by simpa using hv)
def GN (R:Rel C h0 ρ s.σ h) {ts:Array TypeId} {ty:TypeId} {vs vs':List Xab} {v:Xab} (hv:dS ρ vs vs') (hx:Du C ts.toList vs s=some (v,s1)) (P:nV C h0 ρ s1 v kk L K) :
  T.eh C.P (Builtin.append_ ts ty vs'.toArray) false [(false,[.slice 0])] (fun p l c=>kk (.slice p l c)) L K h:=by
 refine dz ?_;unfold Du at hx;split at hx
 ·rename_i t t' a x hts;obtain ⟨h1,hx⟩:=bq.1 hx;obtain ⟨q,hq,hx⟩:=YZ.1 hx;obtain ⟨ys,hys,hx⟩:=YZ.1 hx;have hts':ts=#[t,t']:=by
   have:=Zl List.toArray hts
   simpa using this
  subst hts';obtain ⟨e2,G⟩:∃ e2,C.P.underlying t'=some (.slice e2):=by
   unfold IR at h1;split at h1
   ·rename_i hh; exact ⟨_,hh⟩
   ·cases h1
  obtain ⟨i,z,E⟩:=CF hq;cases hv with
  | cons ha hv =>
  cases hv with
  | cons hxx hv =>
  cases hv;obtain ⟨xq,xq',m,mc,mc',O,hx1,hx2,j,U,J⟩:=J3 R hxx hys;subst hx2;rw [hx1] at hx;obtain ⟨p,l,c,ha1⟩:∃ p l c,a=.slice p l c:=by
   cases a <;> first | exact ⟨_,_,_,rfl⟩ | (simp [T0] at hx; done)
  rw [ha1] at hx ha;unfold T0 at hx;obtain ⟨h2,hx⟩:=bq.1 hx;simp only [Bool.and_eq_true] at h2;have hby:=Zw h2.1.1;have hlm:=Zw h2.1.2;have hpl:O.all cO=true:=by rw [wR j]; exact h2.2
  cases m with
  | zero =>
   cases hx;have hy0:ys=[]:=Z4 (by simpa using U);rw [hy0] at j;cases j;cases ha with
   | mj hl=>exact F6 E G hl J ⟨_,_,_,rfl,P.here R (.mj hl)⟩
   | sl off l hb hc hl=>exact F6 E G hl J ⟨_,_,_,rfl,P.here R (.sl _ _ hb hc hl)⟩
  | succ m =>
   simp only at hx;unfold SJ at hx;cases ha with
   | mj _ =>
    simp only at hx;obtain ⟨h3,hx⟩:=bq.1 hx;simp only [Bool.and_eq_true] at h3;obtain rfl:l=0:=Zf h3.1;obtain rfl:c=0:=Zf h3.2;obtain ⟨s2,hn2,hx⟩:=YZ.1 (show (yN s (.row ys q.e 1)).bind _=some (v,s1) from hx);obtain ⟨hn,h4⟩:=iX.1 hn2;subst h4;cases hx;refine AM (p:=none) (l:=0) (c:=0) (old:=[]) E G ad J (fun K hk=>hk) hby hlm ?_;intro nc rest h' g1 g2 g3 g4 g5;rw [aq9] at g4;rw [ZJ] at g1 g3 ⊢;exact ⟨_,_,_,rfl,openNew (P:=C.P) q E R hn j U g1 g2 g3 g4 g5 P⟩
   | @sl pb pl off l c c' hb hc hl =>
    simp only at hx;obtain ⟨⟨pb2,po⟩,hp2,hx⟩:=YZ.1 hx;have hp3:=jG.1 hp2;cases hp3;simp only at hx;unfold Sk at hx;cases X:Nat.blt c half with
    | true =>
     rw [X] at hx;simp only at hx;obtain rfl:c'=c:=Qj hc X;unfold N6 at hx;cases hr:Nat.ble (l+(m+1)) c' with
     | true =>
      rw [hr] at hx;simp only at hx;obtain ⟨s2,hs2,hx⟩:=YZ.1 hx;cases hx;obtain ⟨Y,Z⟩:=IY R j hs2 hb;rw [show pl.sh+(off+l*q.sz)=pl.sh+off+l*q.sz from ad] at Y Z;refine FZ E G (Zw hr) J (by rw [aE]; exact Y) ⟨_,_,_,rfl,?_⟩;rw [aE];exact P _ _ _ (Le.refl _) Z (.sl _ _ hb hc (Zw hr))
     | false =>
      rw [hr] at hx;simp only at hx;obtain ⟨old,ho,hx⟩:=YZ.1 hx;obtain ⟨s2,hn2,hx⟩:=YZ.1 (show (yN s (.row (old++ys) q.e 1)).bind _=some (v,s1) from hx);obtain ⟨hn,h4⟩:=iX.1 hn2;subst h4;cases hx;obtain ⟨old',g1,g2,g3⟩:=TB (c:=c') R hb ho;have hro:¬ l+(m+1)<=c':=fun hh=>by rw [Nat.ble_eq_true_of_le hh] at hr; cases hr
      refine AM E G hro J g3 hby hlm ?_;intro nc rest h' Y Z k3 k4 k5;exact ⟨_,_,_,rfl,openNew (P:=C.P) q E R hn (g1.append j) (by rw [Y4,g2,U,<- Z9]) Y Z k3 k4 k5 P⟩
    | false =>
     rw [X] at hx;simp only at hx;unfold Ig at hx;obtain ⟨cs,ho,hx⟩:=YZ.1 hx;obtain ⟨V,hx⟩:=bq.1 hx;have V:cs.length=off+l*q.sz:=Zf V;split at hx
     ·rename_i hn;cases hx;obtain ⟨g1,g2,g3,g4,g5,rs,g6,g7,g8⟩:=Gu E R ho hb (L8 hc X);have hn':pb≠s.nx:=fun hh=>by rw [hh,hn] at g1; cases g1
      by_cases u:l+(m+1)<=c'
      ·
       have hmul:(l+(m+1))*q.sz<=c'*q.sz:=ag9 _ u;rw [Z9] at hmul;obtain ⟨Y,Z,k3,k4⟩:=lB (off:=pl.sh+off+l*q.sz) O h 0 _ g6 hpl (by rw [<- j.length,U,g7]; omega);refine FZ E G u J (by rw [aE]; exact Y) ⟨_,_,_,rfl,?_⟩;rw [aE];have hobj:wW C.P (jn ρ s.nx ⟨pl.cr,pl.sh+off,c'⟩) h0 (rN h ⟨pl.cr,pl.sh+off+l*q.sz,none⟩ 0 O) ⟨pl.cr,pl.sh+off,c'⟩ (.row (cs.drop off++ys) q.e 1):=by
        refine ⟨_,_,Z,fun i v hi=>?_,fun _=>⟨rfl,g5⟩,fun _=>⟨by simp only [List.size_toArray,mK]; rw [g7,cI E.tW,E.sz],g4⟩,fun hh=>by cases hh⟩;have le:Le ρ (jn ρ s.nx ⟨pl.cr,pl.sh+off,c'⟩):=Le.jn (R.Pb _ hn);have hdl:(cs.drop off).length=l*q.sz:=by rw [Z2,V]; omega
        rw [br9,pH _ _ _ (by rw [<- j.length,U,g7]; omega),cv9];have e1:(rs.take (pl.sh+off+l*q.sz)).length=pl.sh+off+l*q.sz:=by rw [Zp,g7]; omega
        rcases ZS i (l*q.sz) with hi1 | hi1
        ·rw [ZD ad,bc9] at hi;obtain ⟨v',e2,e3⟩:=g8 _ _ hi;refine ⟨v',?_,e3.mono le⟩;rw [Zr,ZD (by simp only; omega),bp9,Y8 (by simp only; omega),<- e2];simp only; congr 1; omega
        ·rw [ZC ad,hdl] at hi;obtain ⟨v',e2,e3⟩:=j.get hi;refine ⟨v',?_,e3.mono le⟩
         have:i-l*q.sz<O.length:=by
          rcases ZS (i-l*q.sz) O.length with h | h
          ·exact h
          ·rw [ZI h] at e2; cases e2
         rw [Zr,ZC (by simp only; omega),ZD (by simp only; omega),<- e2];simp only; congr 1; omega
       obtain ⟨R1,le⟩:=R.move (n:=s.nx) (b:=pb) (o':=.row (cs.drop off++ys) q.e 1) (pl':=⟨pl.cr,pl.sh+off,c'⟩) hn g1 rfl hb k3 (.inl rfl) g5 hobj;refine P _ _ _ le R1 ?_
       have:=VR.sl (ρ:=jn ρ s.nx ⟨pl.cr,pl.sh+off,c'⟩) (c:=pT) (c':=c') 0 (l+(m+1)) (fy _ _ _) (.inr ⟨Nat.le_of_lt vX,rfl⟩) u
       simpa using this
      ·
       have hold:∀ (K:Array Xab->Hp->Prop),K ((rs.drop (pl.sh+off)).take (l*q.sz)).toArray h->aS C.P (Builtin.firstCells q.sz l (.slice (some ⟨pl.cr,pl.sh+off,none⟩) l c')) h K:=by
        have hm:l*q.sz<=c'*q.sz:=ag9 _ g3;have hln:((rs.drop (pl.sh+off)).take (l*q.sz)).length=l*q.sz:=by rw [Zp,Z2,g7]; omega
        exact fun K hk=>dJ hln (g6.cells _ (by rw [hln])) _ hk
       have hov:dS ρ (cs.drop off) ((rs.drop (pl.sh+off)).take (l*q.sz)):=by
        have hm:l*q.sz<=c'*q.sz:=ag9 _ g3;refine dS.OR (by rw [Z2,Zp,Z2,g7,V]; omega) fun i v hi=>?_
        rw [bc9] at hi;obtain ⟨v',e2,e3⟩:=g8 _ _ hi;refine ⟨v',?_,e3⟩
        have:off+i<cs.length:=by
         rcases ZS (off+i) cs.length with h | h
         ·exact h
         ·rw [ZI h] at hi; cases hi
        rw [bp9,Y8 ad,bc9,<- e2]
        congr 1; omega
       refine AM E G u J hold hby hlm ?_;intro nc rest h' Y Z k3 k4 k5;refine ⟨_,_,_,rfl,?_⟩;have hcs:(cs.drop off++ys).length=(l+(m+1))*q.sz:=by rw [Y4,Z2,V,U,Z9 l]; omega
       have hcp:nc*C.P.cellsOf q.e=(((rs.drop (pl.sh+off)).take (l*q.sz))++O).length+rest.length:=by
        rw [k3,<- (hov.append j).length,hcs,cI E.tW,E.sz,<- Z9]
        congr 1; omega
       obtain ⟨R1,le⟩:=R.move (n:=s.nx) (b:=pb) (o':=.row (cs.drop off++ys) q.e 1) (pl':=⟨h.size,0,nc⟩) hn g1 rfl hb (k5.mono aj) (.inr rfl) R.size (HH R.size (hov.append j) (Le.jn (R.Pb _ hn)) k4 fun _=>⟨hcp,Z⟩);refine P _ _ _ le R1 ?_
       have:=VR.sl (ρ:=jn ρ s.nx ⟨h.size,0,nc⟩) (c:=pT) (c':=nc) 0 (l+(m+1)) (fy _ _ _) (.inr ⟨Nat.le_of_lt vX,rfl⟩) Y
       simpa using this
     ·cases hx
 ·cases hx
end
end Go.Sx.Cr
