/- Part of the framework. No condition. -/
import Derived.Test.YthbffkdafjboiaaGreatDoorSxJb
set_option linter.all false
set_option maxHeartbeats 4000000
namespace Go.Sx.Cr
section
variable {C:Cx} {h0:Hp} {ρ:gF} {s s1:CS} {h:Hp} {e:Ev} {e':Env} {L:Lp} {K:Xab->Hp->Prop} {kk:Xab->T}
def RN {P:Program} {t:TypeId} {q:El} {i:TypeInfo} {z:Xab} (E:GN P t q i z) {n:Nat} {ps:List (Nat × Xab)} {r:List (Nat × List Xab)} {cs:List Xab} (hn:n*q.sz<=16777216) (hl:r.length=n)
  (hc:lp ps r) (hs:Hb q.sz 0 r=some cs) {K:Xab->Hp->Prop} (hk:∀ h',bI h' h.size q.e cs->Ext h h'->K (.slice (some ⟨h.size,0,none⟩) n n) h'):aU P (Instr.buildSlice t n ps.toArray) h K:=by
 rcases Nat.eq_zero_or_pos n with h0 | h0
 ·subst h0;have G:r=[]:=Zf hl;subst G;cases hc
  have:some []=some cs:=hs
  cases this;unfold Instr.buildSlice;rw [ao,aF E.Vf];simp only;rw [ao,bT E.ul];simp only [Nat.zero_mul];rw [Yx ad];have h0:∀ f:Nat->Xab,Array.map f (Array.range 0)=#[]:=fun f=>aj
  simp only [h0];exact hk _ (by simpa using bI.new h q.e []) (Ext.push h _)
 ·have O:=E.pos;have u:n*q.sz≠0:=fun J=>by rcases Nat.mul_eq_zero.1 J with h1 | h1 <;> omega
  have d:((Array.range (n*i.size)).map (z.cells[· % z.cells.size]!)).toList.length=r.length*q.sz:=by simp [hl,E.sz]
  have F:=Ce (A:=[]) hs aj d;rw [ZT,ZT] at F;have j:=Dp hc F;refine jQ E.Vf E.ul E.zero (by rw [E.sz]; exact u) (by rw [E.sz]; omega) (cells:=cs.toArray) (by rw [E.sz] at j ⊢; exact j) fun h' b k _=>?_
  exact hk h' (by simpa using b) k
def Qo {t:TypeId} (R:Rel C h0 ρ s.σ h) {n:Nat} {ps d:List (Nat × Xab)} {v:Xab} (j:PR ρ ps d) (hx:MF C.P t n ps s=some (v,s1)) (P:oy C h0 ρ s1 v kk L K) :
  T.ek C.P (Instr.buildSlice t n d.toArray) false [(false,[.slice 0])] (fun p l c=>kk (.slice p l c)) L K h:=by
 unfold MF at hx;obtain ⟨q,F,hx⟩:=Yt.1 hx;obtain ⟨h1,hx⟩:=bF.1 hx;obtain ⟨cs,hc,hx⟩:=Yt.1 hx;obtain ⟨h2,hc⟩:=bF.1 (show fF _ _=some cs from hc);obtain ⟨O,u,hx⟩:=Yt.1 (show (yX s (.row cs q.e 0)).bind _=some (v,s1) from hx);obtain ⟨hn,h3⟩:=iX.1 u;subst h3;cases hx;obtain ⟨i,z,E⟩:=C0 F;obtain ⟨h4,h5⟩:=EE j;obtain ⟨G,h6,h7,h8⟩:=JF _ hc h4;refine du ?_;refine RN E (Y2 h1) (by rw [h8]; exact YL h2) h5 h6 fun h' b k=>?_
 obtain ⟨J,le⟩:=R.newRow (rest:=[]) (e:=q.e) (m:=0) (cap:=0) hn h7 (by rw [Zs]; exact b) k ad;have hv:=VR.sl (ρ:=iR ρ s.nx ⟨h.size,0,0⟩) (c:=n) (c':=n) 0 n (fv _ _ _) (.inl ⟨?_,rfl⟩) (YI _)
 ·exact ⟨_,_,_,rfl,P _ _ _ le J (by simpa using hv)⟩
 ·have j:=E.pos;have h1:=Y2 h1
  have:n*1<=n*q.sz:=Nat.mul_le_mul_left n j
  unfold half; omega
def Kn (R:Rel C h0 ρ s.σ h) {sz:Nat} {x j:Xab} {ys:List Xab} (hv:VR ρ x j) (hx:GR C sz x s=some ys) :
  ∃ q G m F u d,x=.slice q m F/\j=.slice G m u/\dS ρ ys d/\ys.length=m*sz/\∀ K:Array Xab->Hp->Prop,K d.toArray h->aU C.P (Builtin.firstCells sz m j) h K:=by
 unfold GR at hx;split at hx
 ·rename_i q m F;cases m with
  | zero =>
   cases hx;cases hv with
   | mM _=>exact ⟨_,_,_,_,_,[],rfl,rfl,.nil,aj,fun K hk=>hk⟩
   | sl off l h hc _ =>
    refine ⟨_,_,_,_,_,[],rfl,rfl,.nil,aj,fun K hk=>?_⟩;show aU C.P (loadCells _ (0*sz)) _ K;rw [ab9];exact hk
  | succ m =>
   simp only at hx;obtain ⟨⟨b,off⟩,J,hx⟩:=Yt.1 hx
   have:=jJ.1 J
   cases this;cases hv with
   | sl off l O hc _ =>
    obtain ⟨hn,d,h1,h2⟩:=rG R hx O;refine ⟨_,_,_,_,_,d,rfl,rfl,h1,hn,fun K hk=>?_⟩;exact dt (by rw [<- h1.length]; exact hn) h2 _ hk
 ·cases hx
section ek
variable {P:Program} {t t' ty e2:TypeId} {q:El} {i:TypeInfo} {z:Xab}
def Ge (E:GN P t q i z) (j:P.underlying t'=some (.slice e2)) {a:Xax} {l c m F:Nat} {x:Xac} {ys:List Xab} (d:l+m<=c)
  (hx:∀ K:Array Xab->Hp->Prop,K ys.toArray h->aU P (Builtin.firstCells q.sz m (.slice x m F)) h K) {K:Xab->Hp->Prop}
  (u:yq h (a.add (l*q.sz)) 0 ys) (hk:K (.slice (some a) (l+m) c) (r5 h (a.add (l*q.sz)) 0 ys)):aU P (Builtin.append_ #[t,t'] ty #[.slice (some a) l c,.slice x m F]) h K:=by
 simp [Builtin.append_,ao,aF E.Vf,aF j,bT E.ul,cE E.ul,Builtin.lenOf,d,E.sz];refine hx _ ?_;rw [j0];exact dN _ _ _ 0 _ u hk
def Gl (E:GN P t q i z) (j:P.underlying t'=some (.slice e2)) {p:Xac} {l c u:Nat} {x:Xac} (d:l<=c)
  (hx:∀ K:Array Xab->Hp->Prop,K #[] h->aU P (Builtin.firstCells q.sz 0 (.slice x 0 u)) h K) {K:Xab->Hp->Prop}
  (hk:K (.slice p l c) h):aU P (Builtin.append_ #[t,t'] ty #[.slice p l c,.slice x 0 u]) h K:=by
 simp [Builtin.append_,ao,aF E.Vf,aF j,bT E.ul,cE E.ul,Builtin.lenOf,d,E.sz];refine hx _ ?_;cases p with
 | none=>exact hk
 | some a=>exact hk
def A5 (E:GN P t q i z) (U:P.underlying t'=some (.slice e2)) {p:Xac} {l c m Y:Nat} {x:Xac} {old ys:List Xab} (u:¬ l+m<=c)
  (hx:∀ K:Array Xab->Hp->Prop,K ys.toArray h->aU P (Builtin.firstCells q.sz m (.slice x m Y)) h K)
  (ho:∀ K:Array Xab->Hp->Prop,K old.toArray h->aU P (Builtin.firstCells q.sz l (.slice p l c)) h K) {K:Xab->Hp->Prop}
  (V:(2*(l+m)+1024)*q.by_<=281474976710656) (hl:l+m<=281474976710656)
  (hk:∀ d rest h',l+m<=d->d<9223372036854775808->rest.length=(d-(l+m))*q.sz->bI h' h.size q.e (old++ys++rest)->Ext h h'->K (.slice (some ⟨h.size,0,none⟩) (l+m) d) h') :
  aU P (Builtin.append_ #[t,t'] ty #[.slice p l c,.slice x m Y]) h K:=by
 have G:¬ 281474976710656<Builtin.nextslicecap (l+m) c*i.bytes:=by
  have h1:=A6 (need:=l+m) (old:=c) ad;have h2:=ZC i.bytes h1;rw [<- E.by_] at V
  omega
 have J:¬ (9223372036854775807<(l:Int)+(m:Int)/\i.bytes=0):=ad
 have X:(P.info? q.e).bind (·.zero)=some z:=by rw [E.ul]; exact E.zero
 simp [Builtin.append_,ao,aF E.Vf,aF U,bT E.ul,cE E.ul,Builtin.lenOf,u,gM E.ul,dr X,askRoom,J,G,E.sz];intro Z;have F:=IW (l+m) c q.e Z;generalize (Question.appendCap (l+m) c q.e).cut Z=d at F;show aU P (if roomBytes<d*i.bytes then mark Mark.noRoom else pure ()) h _;have j:∀ K':Unit->Hp->Prop,K' () h->aU P (if roomBytes<d*i.bytes then mark Mark.noRoom else pure ()) h K':=by
  intro K' O;split
  ·exact O
  ·exact O
 refine j _ ?_;refine ho _ ?_;refine hx _ ?_;rw [j0];have hb:=bI.new h q.e (old++ys++(Builtin.zeroCells z.cells (d-(l+m))).toList);have e1:old.toArray++(ys.toArray++Builtin.zeroCells z.cells (d-(l+m)))=(old++ys++(Builtin.zeroCells z.cells (d-(l+m))).toList).toArray:=by
  apply Zg.1; simp
 refine hk d (Builtin.zeroCells z.cells (d-(l+m))).toList _ F.1 (F.2 ad) ?_ ?_ (Ext.push h _)
 ·rw [ZE,qT,E.zs,E.sz]
 ·rw [e1]; exact hb
end ek
def wv:half<qh:=cm
def QP {pl:Pl} {c c':Nat} (hc:KD pl c c') (d:Nat.blt c half=true):c'=c:=by
 rw [Nat.blt_eq] at d;rcases hc with ⟨_,h⟩ | ⟨h,_⟩
 ·exact h
 ·omega
def Mx {pl:Pl} {c c':Nat} (hc:KD pl c c') (d:Nat.blt c half=false):c'+qh=pl.cap+c:=by
 have:¬ c<half:=fun j=>by rw [<- Nat.blt_eq] at j; rw [j] at d; cases d
 rcases hc with ⟨h,_⟩ | ⟨_,h⟩
 ·exact (this h).elim
 ·exact h
def T2 (R:Rel C h0 ρ s.σ h) {sz j u l c:Nat} {pl:Pl} {old:List Xab} (F:ρ j=some pl) (G:cells C s j u (l*sz)=some old) :
  ∃ d,dS ρ old d/\old.length=l*sz/\∀ (K:Array Xab->Hp->Prop),K d.toArray h->aU C.P (Builtin.firstCells sz l (.slice (some ⟨pl.cv,pl.sh+u,none⟩) l c)) h K:=by
 obtain ⟨hn,d,h1,h2⟩:=rG R G F;exact ⟨d,h1,hn,fun K hk=>dt (by rw [<- h1.length]; exact hn) h2 _ hk⟩
def GK {q:El} {t:TypeId} {i:TypeInfo} {z:Xab} (E:GN C.P t q i z) (R:Rel C h0 ρ s.σ h) {u d l c c':Nat} {cs:List Xab} (hx:C1 q d l c (s.σ.get u)=some cs) {pl:Pl} (X:ρ u=some pl) (hc:c'+qh=pl.cap+c) :
  s.σ.get u=some (.row cs q.e 1)/\d+l*q.sz<=cs.length/\l<=c'/\c'<9223372036854775808/\h0.size<=pl.cv/\∃ rs,bI h pl.cv q.e rs/\rs.length=pl.sh+d+c'*q.sz/\∀ (i:Nat) (v:Xab),cs[i]?=some v->∃ v',rs[pl.sh+i]?=some v'/\VR ρ v v':=by
 unfold C1 at hx;split at hx
 ·rename_i Y e' m' O;obtain ⟨h1,h2⟩:=bF.1 hx;cases h2;simp only [Bool.and_eq_true] at h1;obtain ⟨⟨⟨⟨h1,h2⟩,h3⟩,h4⟩,h5⟩:=h1;obtain rfl:m'=1:=YL h1;obtain rfl:q.e=e':=YL h2;have h3:=Y2 h3;have h4:d=(qh-c)*q.sz:=YL h4;have h5:=Y2 h5;obtain ⟨rs,f,Z,j,hm,ho⟩:=R.row O X;obtain ⟨rfl,F⟩:=hm ad;obtain ⟨hs,U⟩:=ho.1 rfl;rw [cE E.ul,E.sz] at hs;have G:c'+(qh-c)=pl.cap:=ad
  have J:rs.size=pl.sh+d+c'*q.sz:=by rw [<- hs,<- G,ZA,h4]; omega
  refine ⟨O,h5,?_,ad,F,rs.toList,by unfold bI; simpa using Z,by simpa using J,fun i v hv=>?_⟩
  ·rcases Nat.eq_zero_or_pos (l*q.sz) with V | V
   ·have:=E.pos
    rcases Nat.mul_eq_zero.1 V with h6 | h6 <;> omega
   ·obtain ⟨v',e1,_⟩:=j (d+l*q.sz-1) (cs[d+l*q.sz-1]'ad) (by rw [Yv]);have hlt:pl.sh+(d+l*q.sz-1)<rs.size:=by
     rcases Zn (pl.sh+(d+l*q.sz-1)) rs.size with h | h
     ·exact h
     ·rw [Zt h] at e1; cases e1
    have:l*q.sz<=c'*q.sz:=ad
    exact Nat.le_of_mul_le_mul_right this E.pos
  ·obtain ⟨v',e1,e2⟩:=j i v hv;exact ⟨v',by rw [ZO]; exact e1,e2⟩
 ·cases hx
def openNew {P:Program} (q:El) {t:TypeId} {i:TypeInfo} {z:Xab} (E:GN C.P t q i z) (R:Rel C h0 ρ s.σ h) (hn:s.σ.get s.nx=none) {cs j rest:List Xab} {l d:Nat} {h':Hp} (hc:dS ρ cs j) (hl:cs.length=l*q.sz)
  (h1:l<=d) (h2:d<9223372036854775808) (G:rest.length=(d-l)*q.sz) (J:bI h' h.size q.e (j++rest)) (k:Ext h h') (O:∀ ρ1 F h1,Le ρ ρ1->Rel C h0 ρ1 (s.σ.put s.nx (.row cs q.e 1)) h1->VR ρ1 (.slice (some ⟨s.nx,0,none⟩) l qh) F->kk F L K h1) :
  kk (.slice (some ⟨h.size,0,none⟩) l d) L K h':=by
 have u:d*C.P.cellsOf q.e=j.length+rest.length:=by
  rw [G,<- hc.length,hl,cE E.ul,E.sz,<- ZA]
  congr 1; omega
 obtain ⟨U,le⟩:=R.newRow (e:=q.e) (m:=1) (cap:=d) hn hc J k fun _=>⟨u,h2⟩
 have hv:=VR.sl (ρ:=iR ρ s.nx ⟨h.size,0,d⟩) (c:=qh) (c':=d) 0 l (fv _ _ _) (.inr ⟨Nat.le_of_lt wv,rfl⟩) h1;exact O _ _ _ le U (by simpa using hv)
def G2 (R:Rel C h0 ρ s.σ h) {ts:Array TypeId} {ty:TypeId} {vs vs':List Xab} {v:Xab} (hv:dS ρ vs vs') (hx:DL C ts.toList vs s=some (v,s1)) (P:oy C h0 ρ s1 v kk L K) :
  T.ek C.P (Builtin.append_ ts ty vs'.toArray) false [(false,[.slice 0])] (fun p l c=>kk (.slice p l c)) L K h:=by
 refine du ?_;unfold DL at hx;split at hx
 ·rename_i t t' a x hts;obtain ⟨h1,hx⟩:=bF.1 hx;obtain ⟨q,hq,hx⟩:=Yt.1 hx;obtain ⟨ys,hys,hx⟩:=Yt.1 hx;have hts':ts=#[t,t']:=by
   have:=YJ List.toArray hts
   simpa using this
  subst hts';obtain ⟨e2,u⟩:∃ e2,C.P.underlying t'=some (.slice e2):=by
   unfold Jc at h1;split at h1
   ·rename_i Z; exact ⟨_,Z⟩
   ·cases h1
  obtain ⟨i,z,E⟩:=C0 hq;cases hv with
  | cons ha hv =>
  cases hv with
  | cons hxx hv =>
  cases hv;obtain ⟨xq,xq',m,mc,mc',G,hx1,hx2,d,J,F⟩:=Kn R hxx hys;subst hx2;rw [hx1] at hx;obtain ⟨p,l,c,ha1⟩:∃ p l c,a=.slice p l c:=by
   cases a <;> first | exact ⟨_,_,_,rfl⟩ | (simp [Uo] at hx; done)
  rw [ha1] at hx ha;unfold Uo at hx;obtain ⟨h2,hx⟩:=bF.1 hx;simp only [Bool.and_eq_true] at h2;have hby:=Y2 h2.1.1;have hlm:=Y2 h2.1.2;have hpl:G.all cU=true:=by rw [xd d]; exact h2.2
  cases m with
  | zero =>
   cases hx;have hy0:ys=[]:=Zf (by simpa using J);rw [hy0] at d;cases d;cases ha with
   | mM hl=>exact Gl E u hl F ⟨_,_,_,rfl,P.here R (.mM hl)⟩
   | sl off l V hc hl=>exact Gl E u hl F ⟨_,_,_,rfl,P.here R (.sl _ _ V hc hl)⟩
  | succ m =>
   simp only at hx;unfold Td at hx;cases ha with
   | mM _ =>
    simp only at hx;obtain ⟨h3,hx⟩:=bF.1 hx;simp only [Bool.and_eq_true] at h3;obtain rfl:l=0:=YL h3.1;obtain rfl:c=0:=YL h3.2;obtain ⟨s2,hn2,hx⟩:=Yt.1 (show (yX s (.row ys q.e 1)).bind _=some (v,s1) from hx);obtain ⟨hn,h4⟩:=iX.1 hn2;subst h4;cases hx;refine A5 (p:=none) (l:=0) (c:=0) (old:=[]) E u ad F (fun K hk=>hk) hby hlm ?_;intro nc rest h' g1 g2 g3 g4 g5;rw [ZT] at g4;rw [Y7] at g1 g3 ⊢;exact ⟨_,_,_,rfl,openNew (P:=C.P) q E R hn d J g1 g2 g3 g4 g5 P⟩
   | @sl pb pl off l c c' V hc hl =>
    simp only at hx;obtain ⟨⟨pb2,po⟩,hp2,hx⟩:=Yt.1 hx;have hp3:=jJ.1 hp2;cases hp3;simp only at hx;unfold SS at hx;cases U:Nat.blt c half with
    | true =>
     rw [U] at hx;simp only at hx;obtain rfl:c'=c:=QP hc U;unfold OA at hx;cases hr:Nat.ble (l+(m+1)) c' with
     | true =>
      rw [hr] at hx;simp only at hx;obtain ⟨s2,hs2,hx⟩:=Yt.1 hx;cases hx;obtain ⟨X,Y⟩:=Ji R d hs2 V;rw [show pl.sh+(off+l*q.sz)=pl.sh+off+l*q.sz from ad] at X Y;refine Ge E u (Y2 hr) F (by rw [aE]; exact X) ⟨_,_,_,rfl,?_⟩;rw [aE];exact P _ _ _ (Le.refl _) Y (.sl _ _ V hc (Y2 hr))
     | false =>
      rw [hr] at hx;simp only at hx;obtain ⟨old,ho,hx⟩:=Yt.1 hx;obtain ⟨s2,hn2,hx⟩:=Yt.1 (show (yX s (.row (old++ys) q.e 1)).bind _=some (v,s1) from hx);obtain ⟨hn,h4⟩:=iX.1 hn2;subst h4;cases hx;obtain ⟨old',g1,g2,g3⟩:=T2 (c:=c') R V ho;have hro:¬ l+(m+1)<=c':=fun Z=>by rw [Nat.ble_eq_true_of_le Z] at hr; cases hr
      refine A5 E u hro F g3 hby hlm ?_;intro nc rest h' X Y k3 k4 k5;exact ⟨_,_,_,rfl,openNew (P:=C.P) q E R hn (g1.append d) (by rw [Yy,g2,J,<- ZA]) X Y k3 k4 k5 P⟩
    | false =>
     rw [U] at hx;simp only at hx;unfold Ix at hx;obtain ⟨cs,ho,hx⟩:=Yt.1 hx;obtain ⟨O,hx⟩:=bF.1 hx;have O:cs.length=off+l*q.sz:=YL O;split at hx
     ·rename_i hn;cases hx;obtain ⟨g1,g2,g3,g4,g5,rs,g6,g7,g8⟩:=GK E R ho V (Mx hc U);have hn':pb≠s.nx:=fun Z=>by rw [Z,hn] at g1; cases g1
      by_cases j:l+(m+1)<=c'
      ·
       have hmul:(l+(m+1))*q.sz<=c'*q.sz:=ZC _ j;rw [ZA] at hmul;obtain ⟨X,Y,k3,k4⟩:=jE (off:=pl.sh+off+l*q.sz) G h 0 _ g6 hpl (by rw [<- d.length,J,g7]; omega);refine Ge E u j F (by rw [aE]; exact X) ⟨_,_,_,rfl,?_⟩;rw [aE];have hobj:xh C.P (iR ρ s.nx ⟨pl.cv,pl.sh+off,c'⟩) h0 (r5 h ⟨pl.cv,pl.sh+off+l*q.sz,none⟩ 0 G) ⟨pl.cv,pl.sh+off,c'⟩ (.row (cs.drop off++ys) q.e 1):=by
        refine ⟨_,_,Y,fun i v hi=>?_,fun _=>⟨rfl,g5⟩,fun _=>⟨by simp only [List.size_toArray,nj]; rw [g7,cE E.ul,E.sz],g4⟩,fun Z=>by cases Z⟩;have le:Le ρ (iR ρ s.nx ⟨pl.cv,pl.sh+off,c'⟩):=Le.iR (R.PG _ hn);have hdl:(cs.drop off).length=l*q.sz:=by rw [Zl,O]; omega
        rw [al9,nk _ _ _ (by rw [<- d.length,J,g7]; omega),bm9];have e1:(rs.take (pl.sh+off+l*q.sz)).length=pl.sh+off+l*q.sz:=by rw [YQ,g7]; omega
        rcases Zn i (l*q.sz) with hi1 | hi1
        ·rw [Za ad,Z6] at hi;obtain ⟨v',e2,e3⟩:=g8 _ _ hi;refine ⟨v',?_,e3.mono le⟩;rw [YV,Za (by simp only; omega),ah9,YC (by simp only; omega),<- e2];simp only; congr 1; omega
        ·rw [Y5 ad,hdl] at hi;obtain ⟨v',e2,e3⟩:=d.get hi;refine ⟨v',?_,e3.mono le⟩
         have:i-l*q.sz<G.length:=by
          rcases Zn (i-l*q.sz) G.length with h | h
          ·exact h
          ·rw [Y9 h] at e2; cases e2
         rw [YV,Y5 (by simp only; omega),Za (by simp only; omega),<- e2];simp only; congr 1; omega
       obtain ⟨R1,le⟩:=R.move (n:=s.nx) (b:=pb) (o':=.row (cs.drop off++ys) q.e 1) (pl':=⟨pl.cv,pl.sh+off,c'⟩) hn g1 rfl V k3 (.inl rfl) g5 hobj;refine P _ _ _ le R1 ?_
       have:=VR.sl (ρ:=iR ρ s.nx ⟨pl.cv,pl.sh+off,c'⟩) (c:=qh) (c':=c') 0 (l+(m+1)) (fv _ _ _) (.inr ⟨Nat.le_of_lt wv,rfl⟩) j
       simpa using this
      ·
       have hold:∀ (K:Array Xab->Hp->Prop),K ((rs.drop (pl.sh+off)).take (l*q.sz)).toArray h->aU C.P (Builtin.firstCells q.sz l (.slice (some ⟨pl.cv,pl.sh+off,none⟩) l c')) h K:=by
        have hm:l*q.sz<=c'*q.sz:=ZC _ g3;have hln:((rs.drop (pl.sh+off)).take (l*q.sz)).length=l*q.sz:=by rw [YQ,Zl,g7]; omega
        exact fun K hk=>dt hln (g6.cells _ (by rw [hln])) _ hk
       have hov:dS ρ (cs.drop off) ((rs.drop (pl.sh+off)).take (l*q.sz)):=by
        have hm:l*q.sz<=c'*q.sz:=ZC _ g3;refine dS.Pf (by rw [Zl,YQ,Zl,g7,O]; omega) fun i v hi=>?_
        rw [Z6] at hi;obtain ⟨v',e2,e3⟩:=g8 _ _ hi;refine ⟨v',?_,e3⟩
        have:off+i<cs.length:=by
         rcases Zn (off+i) cs.length with h | h
         ·exact h
         ·rw [Y9 h] at hi; cases hi
        rw [ah9,YC ad,Z6,<- e2]
        congr 1; omega
       refine A5 E u j F hold hby hlm ?_;intro nc rest h' X Y k3 k4 k5;refine ⟨_,_,_,rfl,?_⟩;have hcs:(cs.drop off++ys).length=(l+(m+1))*q.sz:=by rw [Yy,Zl,O,J,ZA l]; omega
       have hcp:nc*C.P.cellsOf q.e=(((rs.drop (pl.sh+off)).take (l*q.sz))++G).length+rest.length:=by
        rw [k3,<- (hov.append d).length,hcs,cE E.ul,E.sz,<- ZA]
        congr 1; omega
       obtain ⟨R1,le⟩:=R.move (n:=s.nx) (b:=pb) (o':=.row (cs.drop off++ys) q.e 1) (pl':=⟨h.size,0,nc⟩) hn g1 rfl V (k5.mono aj) (.inr rfl) R.size (HW R.size (hov.append d) (Le.iR (R.PG _ hn)) k4 fun _=>⟨hcp,Y⟩);refine P _ _ _ le R1 ?_
       have:=VR.sl (ρ:=iR ρ s.nx ⟨h.size,0,nc⟩) (c:=qh) (c':=nc) 0 (l+(m+1)) (fv _ _ _) (.inr ⟨Nat.le_of_lt wv,rfl⟩) X
       simpa using this
     ·cases hx
 ·cases hx
end
end Go.Sx.Cr
