/- Part of the framework. No condition. -/
import Derived.Test.YtlpcncdglfjnoaaGreatDoorSxJb
set_option linter.all false
set_option maxHeartbeats 4000000
namespace Go.Sx.Cr
section
variable {C:Cx} {h0:Hp} {ρ:ix} {s s1:CS} {h:Hp} {e:Ev} {e':Env} {L:Lp} {K:Xab->Hp->Prop} {kk:Xab->T}
variable {H:TypeId} {V:El} {O:TypeInfo} {I U Y:Nat}
def Su {P:Program} {z:Xab} (E:HO P H V O z) {ps:List (Nat × Xab)} {r:List (Nat × List Xab)} {cs:List Xab} (hn:I*V.sz<=16777216) (hl:r.length=I)
  (hc:lQ ps r) (d:Ic V.sz 0 r=some cs) {K:Xab->Hp->Prop} (hk:∀ h',bF h' h.size V.e cs->Ext h h'->K (.slice (some ⟨h.size,0,none⟩) I I) h'):aZ P (Instr.buildSlice H I ps.toArray) h K:=by
 rcases Nat.eq_zero_or_pos I with h0 | h0
 ·subst h0;have g:r=[]:=Z6 hl;subst g;cases hc
  have:some []=some cs:=d
  cases this;unfold Instr.buildSlice;rw [an,aE E.VO];simp only;rw [an,bR E.vN];simp only [Nat.zero_mul];rw [Y1 ad];have h0:∀ f:Nat->Xab,Array.map f (Array.range 0)=#[]:=fun f=>aj
  simp only [h0];exact hk _ (by simpa using bF.new h V.e []) (Ext.push h _)
 ·have hp:=E.pos;have c:I*V.sz≠0:=fun j=>by rcases Nat.mul_eq_zero.1 j with h1 | h1 <;> omega
  have a:((Array.range (I*O.size)).map (z.cells[· % z.cells.size]!)).toList.length=r.length*V.sz:=by simp [hl,E.sz]
  have hf:=C7 (A:=[]) d aj a;rw [Z8,Z8] at hf;have hf':=Em hc hf;refine kj E.VO E.vN E.zero (by rw [E.sz]; exact c) (by rw [E.sz]; omega) (cells:=cs.toArray) (by rw [E.sz] at hf' ⊢; exact hf') fun h' b k _=>?_
  exact hk h' (by simpa using b) k
def Rc (R:Rel C h0 ρ s.σ h) {ps d:List (Nat × Xab)} {v:Xab} (hp:PR ρ ps d) (a:NI C.P H I ps s=some (v,s1)) (P:pA C h0 ρ s1 v kk L K) :
  T.eN C.P (Instr.buildSlice H I d.toArray) false [(false,[.slice 0])] (fun p l c=>kk (.slice p l c)) L K h:=by
 unfold NI at a;obtain ⟨q,g,a⟩:=YX.1 a;obtain ⟨h1,a⟩:=bI.1 a;obtain ⟨cs,hc,a⟩:=YX.1 a;obtain ⟨h2,hc⟩:=bI.1 (show gu _ _=some cs from hc);obtain ⟨B,f,a⟩:=YX.1 (show (Ac s (.row cs q.e 0)).bind _=some (v,s1) from a);obtain ⟨hn,j⟩:=jC.1 f;subst j;cases a;obtain ⟨i,z,E⟩:=DQ g;obtain ⟨o,r⟩:=FI hp;obtain ⟨u,w,x,y⟩:=KI _ hc o;refine df ?_;refine Su E (Zw h1) (by rw [y]; exact Zd h2) r w fun h' b k=>?_
 obtain ⟨A,le⟩:=R.newRow (rest:=[]) (e:=q.e) (m:=0) (cap:=0) hn x (by rw [Z2]; exact b) k ad;have hv:=VR.sl (ρ:=kR ρ s.nx ⟨h.size,0,0⟩) (c:=I) (c':=I) 0 I (fS _ _ _) (.inl ⟨?_,rfl⟩) (Zc _)
 ·exact ⟨_,_,_,rfl,P _ _ _ le A (by simpa using hv)⟩
 ·have hp:=E.pos;have h1:=Zw h1
  have:I*1<=I*q.sz:=Nat.mul_le_mul_left I hp
  unfold half; omega
def Lt (R:Rel C h0 ρ s.σ h) {sz:Nat} {x d:Xab} {f:List Xab} (hv:VR ρ x d) (c:HS C sz x s=some f) :
  ∃ q j m i g a,x=.slice q m i/\d=.slice j m g/\eC ρ f a/\f.length=m*sz/\∀ K:Array Xab->Hp->Prop,K a.toArray h->aZ C.P (Builtin.firstCells sz m d) h K:=by
 unfold HS at c;split at c
 ·rename_i q m i;cases m with
  | zero =>
   cases c;cases hv with
   | lZ _=>exact ⟨_,_,_,_,_,[],rfl,rfl,.nil,aj,fun K hk=>hk⟩
   | sl off l h hc _ =>
    refine ⟨_,_,_,_,_,[],rfl,rfl,.nil,aj,fun K hk=>?_⟩;show aZ C.P (loadCells _ (0*sz)) _ K;rw [cx9];exact hk
  | succ m =>
   simp only at c;obtain ⟨⟨b,off⟩,k,c⟩:=YX.1 c
   have:=j8.1 k
   cases this;cases hv with
   | sl off l n hc _ =>
    obtain ⟨hn,a,h1,h2⟩:=th R c n;refine ⟨_,_,_,_,_,a,rfl,rfl,h1,hn,fun K hk=>?_⟩;exact ef (by rw [<- h1.length]; exact hn) h2 _ hk
 ·cases c
section eN
variable {P:Program} {t t' ty e2:TypeId} {q:El} {i:TypeInfo} {z:Xab}
variable {H I U:Nat} {O:Xac}
def He (E:HO P t q i z) (d:P.underlying t'=some (.slice e2)) {a:Xax} {j:Nat} {f:List Xab} (b:H+U<=I)
  (k:∀ K:Array Xab->Hp->Prop,K f.toArray h->aZ P (Builtin.firstCells q.sz U (.slice O U j)) h K) {K:Xab->Hp->Prop}
  (g:zB h (a.add (H*q.sz)) 0 f) (hk:K (.slice (some a) (H+U) I) (tK h (a.add (H*q.sz)) 0 f)):aZ P (Builtin.append_ #[t,t'] ty #[.slice (some a) H I,.slice O U j]) h K:=by
 simp [Builtin.append_,an,aE E.VO,aE d,bR E.vN,cJ E.vN,Builtin.lenOf,b,E.sz];refine k _ ?_;rw [pv];exact fX _ _ _ 0 _ g hk
def Hn (E:HO P t q i z) (d:P.underlying t'=some (.slice e2)) {x:Xac} (b:H<=I)
  (f:∀ K:Array Xab->Hp->Prop,K #[] h->aZ P (Builtin.firstCells q.sz 0 (.slice x 0 U)) h K) {K:Xab->Hp->Prop}
  (hk:K (.slice O H I) h):aZ P (Builtin.append_ #[t,t'] ty #[.slice O H I,.slice x 0 U]) h K:=by
 simp [Builtin.append_,an,aE E.VO,aE d,bR E.vN,cJ E.vN,Builtin.lenOf,b,E.sz];refine f _ ?_;cases O with
 | none=>exact hk
 | some a=>exact hk
def BW (E:HO P t q i z) (n:P.underlying t'=some (.slice e2)) {p:Xac} {l c:Nat} {old f:List Xab} (d:¬ l+H<=c)
  (w:∀ K:Array Xab->Hp->Prop,K f.toArray h->aZ P (Builtin.firstCells q.sz H (.slice O H I)) h K)
  (y:∀ K:Array Xab->Hp->Prop,K old.toArray h->aZ P (Builtin.firstCells q.sz l (.slice p l c)) h K) {K:Xab->Hp->Prop}
  (o:(2*(l+H)+1024)*q.by_<=281474976710656) (hl:l+H<=281474976710656)
  (hk:∀ a rest h',l+H<=a->a<9223372036854775808->rest.length=(a-(l+H))*q.sz->bF h' h.size q.e (old++f++rest)->Ext h h'->K (.slice (some ⟨h.size,0,none⟩) (l+H) a) h') :
  aZ P (Builtin.append_ #[t,t'] ty #[.slice p l c,.slice O H I]) h K:=by
 have g:¬ 281474976710656<Builtin.nextslicecap (l+H) c*i.bytes:=by
  have h1:=BX (need:=l+H) (old:=c) ad;have h2:=ZT i.bytes h1;rw [<- E.by_] at o
  omega
 have j:¬ (9223372036854775807<(l:Int)+(H:Int)/\i.bytes=0):=ad
 have r:(P.info? q.e).bind (·.zero)=some z:=by rw [E.vN]; exact E.zero
 simp [Builtin.append_,an,aE E.VO,aE n,bR E.vN,cJ E.vN,Builtin.lenOf,d,iD E.vN,dL r,askRoom,j,g,E.sz];intro u;have hge:=J7 (l+H) c q.e u;generalize (Question.appendCap (l+H) c q.e).cut u=a at hge;show aZ P (if roomBytes<a*i.bytes then mark Mark.noRoom else pure ()) h _;have b:∀ K':Unit->Hp->Prop,K' () h->aZ P (if roomBytes<a*i.bytes then mark Mark.noRoom else pure ()) h K':=by
  intro K' k;split
  ·exact k
  ·exact k
 refine b _ ?_;refine y _ ?_;refine w _ ?_;rw [pv];have hb:=bF.new h q.e (old++f++(Builtin.zeroCells z.cells (a-(l+H))).toList);have A:old.toArray++(f.toArray++Builtin.zeroCells z.cells (a-(l+H)))=(old++f++(Builtin.zeroCells z.cells (a-(l+H))).toList).toArray:=by
  apply ZM.1; simp
 refine hk a (Builtin.zeroCells z.cells (a-(l+H))).toList _ hge.1 (hge.2 ad) ?_ ?_ (Ext.push h _)
 ·rw [ab9,r8,E.zs,E.sz]
 ·rw [A]; exact hb
end eN
def xH:half<rj:=bY
def Rz {pl:Pl} {c c':Nat} (hc:LI pl c c') (a:Nat.blt c half=true):c'=c:=by
 rw [Nat.blt_eq] at a;rcases hc with ⟨_,h⟩ | ⟨h,_⟩
 ·exact h
 ·omega
def Nz {pl:Pl} {c c':Nat} (hc:LI pl c c') (a:Nat.blt c half=false):c'+rj=pl.cap+c:=by
 have:¬ c<half:=fun b=>by rw [<- Nat.blt_eq] at b; rw [b] at a; cases a
 rcases hc with ⟨h,_⟩ | ⟨_,h⟩
 ·exact (this h).elim
 ·exact h
def UC (R:Rel C h0 ρ s.σ h) {sz c:Nat} {pl:Pl} {old:List Xab} (b:ρ I=some pl) (d:cells C s I U (Y*sz)=some old) :
  ∃ a,eC ρ old a/\old.length=Y*sz/\∀ (K:Array Xab->Hp->Prop),K a.toArray h->aZ C.P (Builtin.firstCells sz Y (.slice (some ⟨pl.cj,pl.sh+U,none⟩) Y c)) h K:=by
 obtain ⟨hn,a,h1,h2⟩:=th R d b;exact ⟨a,h1,hn,fun K hk=>ef (by rw [<- h1.length]; exact hn) h2 _ hk⟩
def HM {z:Xab} (E:HO C.P H V O z) (R:Rel C h0 ρ s.σ h) {c c':Nat} {cs:List Xab} (d:DU V U Y c (s.σ.get I)=some cs) {pl:Pl} (w:ρ I=some pl) (hc:c'+rj=pl.cap+c) :
  s.σ.get I=some (.row cs V.e 1)/\U+Y*V.sz<=cs.length/\Y<=c'/\c'<9223372036854775808/\h0.size<=pl.cj/\∃ a,bF h pl.cj V.e a/\a.length=pl.sh+U+c'*V.sz/\∀ (O:Nat) (v:Xab),cs[O]?=some v->∃ v',a[pl.sh+O]?=some v'/\VR ρ v v':=by
 unfold DU at d;split at d
 ·rename_i x e' y o;obtain ⟨h1,h2⟩:=bI.1 d;cases h2;simp only [Bool.and_eq_true] at h1;obtain ⟨⟨⟨⟨h1,h2⟩,h3⟩,j⟩,h5⟩:=h1;obtain rfl:y=1:=Zd h1;obtain rfl:V.e=e':=Zd h2;have h3:=Zw h3;have j:U=(rj-c)*V.sz:=Zd j;have h5:=Zw h5;obtain ⟨a,f,A,b,B,D⟩:=R.row o w;obtain ⟨rfl,k⟩:=B ad;obtain ⟨p,r⟩:=D.1 rfl;rw [cJ E.vN,E.sz] at p;have m:c'+(rj-c)=pl.cap:=ad
  have n:a.size=pl.sh+U+c'*V.sz:=by rw [<- p,<- m,Z5,j]; omega
  refine ⟨o,h5,?_,ad,k,a.toList,by unfold bF; simpa using A,by simpa using n,fun O v hv=>?_⟩
  ·rcases Nat.eq_zero_or_pos (Y*V.sz) with u | u
   ·have:=E.pos
    rcases Nat.mul_eq_zero.1 u with F | F <;> omega
   ·obtain ⟨v',g,_⟩:=b (U+Y*V.sz-1) (cs[U+Y*V.sz-1]'ad) (by rw [YZ]);have G:pl.sh+(U+Y*V.sz-1)<a.size:=by
     rcases ZP (pl.sh+(U+Y*V.sz-1)) a.size with h | h
     ·exact h
     ·rw [ZY h] at g; cases g
    have:Y*V.sz<=c'*V.sz:=ad
    exact Nat.le_of_mul_le_mul_right this E.pos
  ·obtain ⟨v',g,J⟩:=b O v hv;exact ⟨v',by rw [an9]; exact g,J⟩
 ·cases d
def openNew {P:Program} (q:El) {z:Xab} (E:HO C.P H q O z) (R:Rel C h0 ρ s.σ h) (hn:s.σ.get s.nx=none) {cs a rest:List Xab} {h':Hp} (hc:eC ρ cs a) (hl:cs.length=I*q.sz)
  (h1:I<=U) (h2:U<9223372036854775808) (f:rest.length=(U-I)*q.sz) (g:bF h' h.size q.e (a++rest)) (k:Ext h h') (j:∀ ρ1 d h1,Le ρ ρ1->Rel C h0 ρ1 (s.σ.put s.nx (.row cs q.e 1)) h1->VR ρ1 (.slice (some ⟨s.nx,0,none⟩) I rj) d->kk d L K h1) :
  kk (.slice (some ⟨h.size,0,none⟩) I U) L K h':=by
 have b:U*C.P.cellsOf q.e=a.length+rest.length:=by
  rw [f,<- hc.length,hl,cJ E.vN,E.sz,<- Z5]
  congr 1; omega
 obtain ⟨n,le⟩:=R.newRow (e:=q.e) (m:=1) (cap:=U) hn hc g k fun _=>⟨b,h2⟩
 have hv:=VR.sl (ρ:=kR ρ s.nx ⟨h.size,0,U⟩) (c:=rj) (c':=U) 0 I (fS _ _ _) (.inr ⟨Nat.le_of_lt xH,rfl⟩) h1;exact j _ _ _ le n (by simpa using hv)
def H5 (R:Rel C h0 ρ s.σ h) {ts:Array TypeId} {vs S:List Xab} {v:Xab} (hv:eC ρ vs S) (d:EJ C ts.toList vs s=some (v,s1)) (P:pA C h0 ρ s1 v kk L K) :
  T.eN C.P (Builtin.append_ ts H S.toArray) false [(false,[.slice 0])] (fun p l c=>kk (.slice p l c)) L K h:=by
 refine df ?_;unfold EJ at d;split at d
 ·rename_i t t' a x hts;obtain ⟨h1,d⟩:=bI.1 d;obtain ⟨q,hq,d⟩:=YX.1 d;obtain ⟨G,hys,d⟩:=YX.1 d;have U:ts=#[t,t']:=by
   have:=Zg List.toArray hts
   simpa using this
  subst U;obtain ⟨w,j⟩:∃ w,C.P.underlying t'=some (.slice w):=by
   unfold Kh at h1;split at h1
   ·rename_i I; exact ⟨_,I⟩
   ·cases h1
  obtain ⟨i,z,E⟩:=DQ hq;cases hv with
  | cons ha hv =>
  cases hv with
  | cons hxx hv =>
  cases hv;obtain ⟨xq,xq',m,mc,mc',o,hx1,hx2,f,r,k⟩:=Lt R hxx hys;subst hx2;rw [hx1] at d;obtain ⟨p,l,c,ha1⟩:∃ p l c,a=.slice p l c:=by
   cases a <;> first | exact ⟨_,_,_,rfl⟩ | (simp [UX] at d; done)
  rw [ha1] at d ha;unfold UX at d;obtain ⟨h2,d⟩:=bI.1 d;simp only [Bool.and_eq_true] at h2;have hby:=Zw h2.1.1;have hlm:=Zw h2.1.2;have hpl:o.all da=true:=by rw [yh f]; exact h2.2
  cases m with
  | zero =>
   cases d;have hy0:G=[]:=Z6 (by simpa using r);rw [hy0] at f;cases f;cases ha with
   | lZ hl=>exact Hn E j hl k ⟨_,_,_,rfl,P.here R (.lZ hl)⟩
   | sl off l B hc hl=>exact Hn E j hl k ⟨_,_,_,rfl,P.here R (.sl _ _ B hc hl)⟩
  | succ m =>
   simp only at d;unfold TV at d;cases ha with
   | lZ _ =>
    simp only at d;obtain ⟨h3,d⟩:=bI.1 d;simp only [Bool.and_eq_true] at h3;obtain rfl:l=0:=Zd h3.1;obtain rfl:c=0:=Zd h3.2;obtain ⟨s2,J,d⟩:=YX.1 (show (Ac s (.row G q.e 1)).bind _=some (v,s1) from d);obtain ⟨hn,h4⟩:=jC.1 J;subst h4;cases d;refine BW (p:=none) (l:=0) (c:=0) (old:=[]) E j ad k (fun K hk=>hk) hby hlm ?_;intro N rest h' y g2 M g4 g5;rw [Z8] at g4;rw [ZH] at y M ⊢;exact ⟨_,_,_,rfl,openNew (P:=C.P) q E R hn f r y g2 M g4 g5 P⟩
   | @sl pb pl off l c c' B hc hl =>
    simp only at d;obtain ⟨⟨pb2,po⟩,hp2,d⟩:=YX.1 d;have hp3:=j8.1 hp2;cases hp3;simp only at d;unfold Tz at d;cases A:Nat.blt c half with
    | true =>
     rw [A] at d;simp only at d;obtain rfl:c'=c:=Rz hc A;unfold Pv at d;cases O:Nat.ble (l+(m+1)) c' with
     | true =>
      rw [O] at d;simp only at d;obtain ⟨s2,hs2,d⟩:=YX.1 d;cases d;obtain ⟨D,F⟩:=Km R f hs2 B;rw [show pl.sh+(off+l*q.sz)=pl.sh+off+l*q.sz from ad] at D F;refine He E j (Zw O) k (by rw [aC]; exact D) ⟨_,_,_,rfl,?_⟩;rw [aC];exact P _ _ _ (Le.refl _) F (.sl _ _ B hc (Zw O))
     | false =>
      rw [O] at d;simp only at d;obtain ⟨old,ho,d⟩:=YX.1 d;obtain ⟨s2,J,d⟩:=YX.1 (show (Ac s (.row (old++G) q.e 1)).bind _=some (v,s1) from d);obtain ⟨hn,h4⟩:=jC.1 J;subst h4;cases d;obtain ⟨old',y,g2,M⟩:=UC (c:=c') R B ho;have hro:¬ l+(m+1)<=c':=fun I=>by rw [Nat.ble_eq_true_of_le I] at O; cases O
      refine BW E j hro k M hby hlm ?_;intro N rest h' D F V k4 k5;exact ⟨_,_,_,rfl,openNew (P:=C.P) q E R hn (y.append f) (by rw [Y0,g2,r,<- Z5]) D F V k4 k5 P⟩
    | false =>
     rw [A] at d;simp only at d;unfold JF at d;obtain ⟨cs,ho,d⟩:=YX.1 d;obtain ⟨u,d⟩:=bI.1 d;have u:cs.length=off+l*q.sz:=Zd u;split at d
     ·rename_i hn;cases d;obtain ⟨y,g2,M,g4,g5,W,g6,Q,g8⟩:=HM E R ho B (Nz hc A);have hn':pb≠s.nx:=fun I=>by rw [I,hn] at y; cases y
      by_cases g:l+(m+1)<=c'
      ·
       have X:(l+(m+1))*q.sz<=c'*q.sz:=ZT _ g;rw [Z5] at X;obtain ⟨D,F,V,k4⟩:=mI (off:=pl.sh+off+l*q.sz) o h 0 _ g6 hpl (by rw [<- f.length,r,Q]; omega);refine He E j g k (by rw [aC]; exact D) ⟨_,_,_,rfl,?_⟩;rw [aC];have Y:yk C.P (kR ρ s.nx ⟨pl.cj,pl.sh+off,c'⟩) h0 (tK h ⟨pl.cj,pl.sh+off+l*q.sz,none⟩ 0 o) ⟨pl.cj,pl.sh+off,c'⟩ (.row (cs.drop off++G) q.e 1):=by
        refine ⟨_,_,F,fun i v hi=>?_,fun _=>⟨rfl,g5⟩,fun _=>⟨by simp only [List.size_toArray,gS]; rw [Q,cJ E.vN,E.sz],g4⟩,fun I=>by cases I⟩;have le:Le ρ (kR ρ s.nx ⟨pl.cj,pl.sh+off,c'⟩):=Le.kR (R.Qp _ hn);have hdl:(cs.drop off).length=l*q.sz:=by rw [ZI,u]; omega
        rw [bq9,gZ _ _ _ (by rw [<- f.length,r,Q]; omega),cc9];have e1:(W.take (pl.sh+off+l*q.sz)).length=pl.sh+off+l*q.sz:=by rw [Zi,Q]; omega
        rcases ZP i (l*q.sz) with hi1 | hi1
        ·rw [ZE ad,bf9] at hi;obtain ⟨v',w,Z⟩:=g8 _ _ hi;refine ⟨v',?_,Z.mono le⟩;rw [Zp,ZE (by simp only; omega),bo9,Y8 (by simp only; omega),<- w];simp only; congr 1; omega
        ·rw [ZB ad,hdl] at hi;obtain ⟨v',w,Z⟩:=f.get hi;refine ⟨v',?_,Z.mono le⟩
         have:i-l*q.sz<o.length:=by
          rcases ZP (i-l*q.sz) o.length with h | h
          ·exact h
          ·rw [ZC h] at w; cases w
         rw [Zp,ZB (by simp only; omega),ZE (by simp only; omega),<- w];simp only; congr 1; omega
       obtain ⟨R1,le⟩:=R.move (n:=s.nx) (b:=pb) (o':=.row (cs.drop off++G) q.e 1) (pl':=⟨pl.cj,pl.sh+off,c'⟩) hn y rfl B V (.inl rfl) g5 Y;refine P _ _ _ le R1 ?_
       have:=VR.sl (ρ:=kR ρ s.nx ⟨pl.cj,pl.sh+off,c'⟩) (c:=rj) (c':=c') 0 (l+(m+1)) (fS _ _ _) (.inr ⟨Nat.le_of_lt xH,rfl⟩) g
       simpa using this
      ·
       have hold:∀ (K:Array Xab->Hp->Prop),K ((W.drop (pl.sh+off)).take (l*q.sz)).toArray h->aZ C.P (Builtin.firstCells q.sz l (.slice (some ⟨pl.cj,pl.sh+off,none⟩) l c')) h K:=by
        have hm:l*q.sz<=c'*q.sz:=ZT _ M;have hln:((W.drop (pl.sh+off)).take (l*q.sz)).length=l*q.sz:=by rw [Zi,ZI,Q]; omega
        exact fun K hk=>ef hln (g6.cells _ (by rw [hln])) _ hk
       have hov:eC ρ (cs.drop off) ((W.drop (pl.sh+off)).take (l*q.sz)):=by
        have hm:l*q.sz<=c'*q.sz:=ZT _ M;refine eC.P' (by rw [ZI,Zi,ZI,Q,u]; omega) fun i v hi=>?_
        rw [bf9] at hi;obtain ⟨v',w,Z⟩:=g8 _ _ hi;refine ⟨v',?_,Z⟩
        have:off+i<cs.length:=by
         rcases ZP (off+i) cs.length with h | h
         ·exact h
         ·rw [ZC h] at hi; cases hi
        rw [bo9,Y8 ad,bf9,<- w]
        congr 1; omega
       refine BW E j g k hold hby hlm ?_;intro N rest h' D F V k4 k5;refine ⟨_,_,_,rfl,?_⟩;have hcs:(cs.drop off++G).length=(l+(m+1))*q.sz:=by rw [Y0,ZI,u,r,Z5 l]; omega
       have hcp:N*C.P.cellsOf q.e=(((W.drop (pl.sh+off)).take (l*q.sz))++o).length+rest.length:=by
        rw [V,<- (hov.append f).length,hcs,cJ E.vN,E.sz,<- Z5]
        congr 1; omega
       obtain ⟨R1,le⟩:=R.move (n:=s.nx) (b:=pb) (o':=.row (cs.drop off++G) q.e 1) (pl':=⟨h.size,0,N⟩) hn y rfl B (k5.mono aj) (.inr rfl) R.size (I1 R.size (hov.append f) (Le.kR (R.Qp _ hn)) k4 fun _=>⟨hcp,F⟩);refine P _ _ _ le R1 ?_
       have:=VR.sl (ρ:=kR ρ s.nx ⟨h.size,0,N⟩) (c:=rj) (c':=N) 0 (l+(m+1)) (fS _ _ _) (.inr ⟨Nat.le_of_lt xH,rfl⟩) D
       simpa using this
     ·cases d
 ·cases d
end
end Go.Sx.Cr
