/- Part of the framework. No condition. -/
import Derived.Test.YtmdncdaladplkaaGreatDoorSxJb
set_option linter.all false
set_option maxHeartbeats 4000000
namespace Go.Sx.Cr
section
variable {C:Cx} {h0:Hp} {ρ:iG} {s s1:CS} {h:Hp} {e:Ev} {e':Env} {L:Lp} {K:Xab->Hp->Prop} {kk:Xab->T}
variable {H:TypeId} {Y:El} {U:TypeInfo} {O V Z:Nat}
def U2 {P:Program} {z:Xab} (E:IY P H Y U z) {ps:List (Nat × Xab)} {r:List (Nat × List Xab)} {cs:List Xab} (hn:O*Y.sz<=16777216) (hl:r.length=O)
  (hc:mz ps r) (d:JB Y.sz 0 r=some cs) {K:Xab->Hp->Prop} (hk:∀ h',br h' h.size Y.e cs->Ext h h'->K (.slice (some ⟨h.size,0,none⟩) O O) h'):aQ P (Instr.buildSlice H O ps.toArray) h K:=by
 rcases Nat.eq_zero_or_pos O with h0 | h0
 ·subst h0;have g:r=[]:=bu9 hl;subst g;cases hc
  have:some []=some cs:=d
  cases this;unfold Instr.buildSlice;rw [an,az E.Yv];simp only;rw [an,bT E.vW];simp only [Nat.zero_mul];rw [ac9 ad];have h0:∀ f:Nat->Xab,Array.map f (Array.range 0)=#[]:=λf=>ai
  simp only [h0];exact hk _ (by simpa using br.new h Y.e []) (Ext.push h _)
 ·have hp:=E.pos;have c:O*Y.sz≠0:=λj=>by rcases Nat.mul_eq_zero.1 j with h1 | h1 <;> omega
  have a:((Array.range (O*U.size)).map (z.cells[· % z.cells.size]!)).toList.length=r.length*Y.sz:=by simp [hl,E.sz]
  have hf:=DT (A:=[]) d ai a;rw [cw9,cw9] at hf;have hf':=Fe hc hf;refine kG E.Yv E.vW E.zero (by rw [E.sz]; exact c) (by rw [E.sz]; omega) (cells:=cs.toArray) (by rw [E.sz] at hf' ⊢; exact hf') λh' b k _=>?_
  exact hk h' (by simpa using b) k
def TL (R:Rel C h0 ρ s.σ h) {ps d:List (Nat × Xab)} {v:Xab} (hp:PR ρ ps d) (a:Pu C.P H O ps s=some (v,s1)) (P:pJ C h0 ρ s1 v kk L K) :
  T.dP C.P (Instr.buildSlice H O d.toArray) false [(false,[.slice 0])] (λp l c=>kk (.slice p l c)) L K h:=by
 unfold Pu at a;obtain ⟨q,g,a⟩:=aa9.1 a;obtain ⟨h1,a⟩:=bt.1 a;obtain ⟨cs,hc,a⟩:=aa9.1 a;obtain ⟨h2,hc⟩:=bt.1 (show gF _ _=some cs from hc);obtain ⟨B,f,a⟩:=aa9.1 (show (Ar s (.row cs q.e 0)).bind _=some (v,s1) from a);obtain ⟨hn,j⟩:=jK.1 f;subst j;cases a;obtain ⟨i,z,E⟩:=EG g;obtain ⟨o,r⟩:=GI hp;obtain ⟨u,w,x,y⟩:=Ml _ hc o;refine dt ?_;refine U2 E (bk9 h1) (by rw [y]; exact av9 h2) r w λh' b k=>?_
 obtain ⟨A,le⟩:=R.newRow (rest:=[]) (e:=q.e) (m:=0) (cap:=0) hn x (by rw [cb9]; exact b) k ad;have hv:=VR.sl (ρ:=lG ρ s.nx ⟨h.size,0,0⟩) (c:=O) (c':=O) 0 O (fW _ _ _) (.inl ⟨?_,rfl⟩) (am9 _)
 ·exact ⟨_,_,_,rfl,P _ _ _ le A (by simpa using hv)⟩
 ·have hp:=E.pos;have h1:=bk9 h1
  have:O*1<=O*q.sz:=Nat.mul_le_mul_left O hp
  unfold half; omega
def M9 (R:Rel C h0 ρ s.σ h) {sz:Nat} {x d:Xab} {ys:List Xab} (hv:VR ρ x d) (c:I2 C sz x s=some ys) :
  ∃ q i m g f a,x=.slice q m g/\d=.slice i m f/\eA ρ ys a/\ys.length=m*sz/\∀ K:Array Xab->Hp->Prop,K a.toArray h->aQ C.P (Builtin.firstCells sz m d) h K:=by
 unfold I2 at c;split at c
 ·rename_i q m g;cases m with
  | zero =>
   cases c;cases hv with
   | mG _=>exact ⟨_,_,_,_,_,[],rfl,rfl,.nil,ai,λK hk=>hk⟩
   | sl off l h hc _ =>
    refine ⟨_,_,_,_,_,[],rfl,rfl,.nil,ai,λK hk=>?_⟩;show aQ C.P (loadCells _ (0*sz)) _ K;rw [Nat.zero_mul];exact hk
  | succ m =>
   simp only at c;obtain ⟨⟨b,off⟩,j,c⟩:=aa9.1 c
   have:=kw.1 j
   cases this;cases hv with
   | sl off l k hc _ =>
    obtain ⟨hn,a,h1,h2⟩:=tz R c k;refine ⟨_,_,_,_,_,a,rfl,rfl,h1,hn,λK hk=>?_⟩;exact dK (by rw [<- h1.length]; exact hn) h2 _ hk
 ·cases c
section dP
variable {P:Program} {t t' ty e2:TypeId} {q:El} {i:TypeInfo} {z:Xab}
variable {H O V:Nat} {U:Xac}
def Ih (E:IY P t q i z) (d:P.underlying t'=some (.slice e2)) {a:Xax} {g:Nat} {ys:List Xab} (b:H+V<=O)
  (j:∀ K:Array Xab->Hp->Prop,K ys.toArray h->aQ P (Builtin.firstCells q.sz V (.slice U V g)) h K) {K:Xab->Hp->Prop}
  (f:zQ h (a.add (H*q.sz)) 0 ys) (hk:K (.slice (some a) (H+V) O) (tS h (a.add (H*q.sz)) 0 ys)):aQ P (Builtin.append_ #[t,t'] ty #[.slice (some a) H O,.slice U V g]) h K:=by
 simp [Builtin.append_,an,az E.Yv,az d,bT E.vW,cJ E.vW,Builtin.lenOf,b,E.sz];refine j _ ?_;rw [pG];exact gh _ _ _ 0 _ f hk
def Ir (E:IY P t q i z) (d:P.underlying t'=some (.slice e2)) {x:Xac} (b:H<=O)
  (f:∀ K:Array Xab->Hp->Prop,K #[] h->aQ P (Builtin.firstCells q.sz 0 (.slice x 0 V)) h K) {K:Xab->Hp->Prop}
  (hk:K (.slice U H O) h):aQ P (Builtin.append_ #[t,t'] ty #[.slice U H O,.slice x 0 V]) h K:=by
 simp [Builtin.append_,an,az E.Yv,az d,bT E.vW,cJ E.vW,Builtin.lenOf,b,E.sz];refine f _ ?_;cases U with
 | none=>exact hk
 | some a=>exact hk
def CF (E:IY P t q i z) (k:P.underlying t'=some (.slice e2)) {p:Xac} {l c:Nat} {old ys:List Xab} (d:¬ l+H<=c)
  (u:∀ K:Array Xab->Hp->Prop,K ys.toArray h->aQ P (Builtin.firstCells q.sz H (.slice U H O)) h K)
  (w:∀ K:Array Xab->Hp->Prop,K old.toArray h->aQ P (Builtin.firstCells q.sz l (.slice p l c)) h K) {K:Xab->Hp->Prop}
  (n:(2*(l+H)+1024)*q.by_<=281474976710656) (hl:l+H<=281474976710656)
  (hk:∀ a rest h',l+H<=a->a<9223372036854775808->rest.length=(a-(l+H))*q.sz->br h' h.size q.e (old++ys++rest)->Ext h h'->K (.slice (some ⟨h.size,0,none⟩) (l+H) a) h') :
  aQ P (Builtin.append_ #[t,t'] ty #[.slice p l c,.slice U H O]) h K:=by
 have f:¬ 281474976710656<Builtin.nextslicecap (l+H) c*i.bytes:=by
  have h1:=CG (need:=l+H) (old:=c) ad;have h2:=cz9 i.bytes h1;rw [<- E.by_] at n
  omega
 have g:¬ (9223372036854775807<(l:Int)+(H:Int)/\i.bytes=0):=ad
 have o:(P.info? q.e).bind (·.zero)=some z:=by rw [E.vW]; exact E.zero
 simp [Builtin.append_,an,az E.Yv,az k,bT E.vW,cJ E.vW,Builtin.lenOf,d,iJ E.vW,dI o,askRoom,g,f,E.sz];intro r;have hge:=Lv (l+H) c q.e r;generalize (Question.appendCap (l+H) c q.e).cut r=a at hge;show aQ P (if roomBytes<a*i.bytes then mark Mark.noRoom else pure ()) h _;have b:∀ K':Unit->Hp->Prop,K' () h->aQ P (if roomBytes<a*i.bytes then mark Mark.noRoom else pure ()) h K':=by
  intro K' j;split
  ·exact j
  ·exact j
 refine b _ ?_;refine w _ ?_;refine u _ ?_;rw [pG];have hb:=br.new h q.e (old++ys++(Builtin.zeroCells z.cells (a-(l+H))).toList);have y:old.toArray++(ys.toArray++Builtin.zeroCells z.cells (a-(l+H)))=(old++ys++(Builtin.zeroCells z.cells (a-(l+H))).toList).toArray:=by
  apply ca9.1; simp
 refine hk a (Builtin.zeroCells z.cells (a-(l+H))).toList _ hge.1 (hge.2 ad) ?_ ?_ (Ext.push h _)
 ·rw [de9,sE,E.zs,E.sz]
 ·rw [y]; exact hb
end dP
def xW:half<rC:=bH
def Ua {pl:Pl} {c c':Nat} (hc:Np pl c c') (a:Nat.blt c half=true):c'=c:=by
 rw [Nat.blt_eq] at a;rcases hc with ⟨_,h⟩ | ⟨h,_⟩
 ·exact h
 ·omega
def Pj {pl:Pl} {c c':Nat} (hc:Np pl c c') (a:Nat.blt c half=false):c'+rC=pl.cap+c:=by
 have:¬ c<half:=λb=>by rw [<- Nat.blt_eq] at b; rw [b] at a; cases a
 rcases hc with ⟨h,_⟩ | ⟨_,h⟩
 ·exact (this h).elim
 ·exact h
def W7 (R:Rel C h0 ρ s.σ h) {sz c:Nat} {pl:Pl} {old:List Xab} (b:ρ O=some pl) (d:cells C s O V (Z*sz)=some old) :
  ∃ a,eA ρ old a/\old.length=Z*sz/\∀ (K:Array Xab->Hp->Prop),K a.toArray h->aQ C.P (Builtin.firstCells sz Z (.slice (some ⟨pl.cj,pl.sh+V,none⟩) Z c)) h K:=by
 obtain ⟨hn,a,h1,h2⟩:=tz R d b;exact ⟨a,h1,hn,λK hk=>dK (by rw [<- h1.length]; exact hn) h2 _ hk⟩
def IW {z:Xab} (E:IY C.P H Y U z) (R:Rel C h0 ρ s.σ h) {c c':Nat} {cs:List Xab} (d:EH Y V Z c (s.σ.get O)=some cs) {pl:Pl} (w:ρ O=some pl) (hc:c'+rC=pl.cap+c) :
  s.σ.get O=some (.row cs Y.e 1)/\V+Z*Y.sz<=cs.length/\Z<=c'/\c'<9223372036854775808/\h0.size<=pl.cj/\∃ a,br h pl.cj Y.e a/\a.length=pl.sh+V+c'*Y.sz/\∀ (U:Nat) (v:Xab),cs[U]?=some v->∃ v',a[pl.sh+U]?=some v'/\VR ρ v v':=by
 unfold EH at d;split at d
 ·rename_i x e' y o;obtain ⟨h1,h2⟩:=bt.1 d;cases h2;simp only [Bool.and_eq_true] at h1;obtain ⟨⟨⟨⟨h1,h2⟩,h3⟩,j⟩,h5⟩:=h1;obtain rfl:y=1:=av9 h1;obtain rfl:Y.e=e':=av9 h2;have h3:=bk9 h3;have j:V=(rC-c)*Y.sz:=av9 j;have h5:=bk9 h5;obtain ⟨a,f,A,b,B,D⟩:=R.row o w;obtain ⟨rfl,k⟩:=B ad;obtain ⟨p,r⟩:=D.1 rfl;rw [cJ E.vW,E.sz] at p;have m:c'+(rC-c)=pl.cap:=ad
  have n:a.size=pl.sh+V+c'*Y.sz:=by rw [<- p,<- m,dd9,j]; omega
  refine ⟨o,h5,?_,ad,k,a.toList,by unfold br; simpa using A,by simpa using n,λU v hv=>?_⟩
  ·rcases Nat.eq_zero_or_pos (Z*Y.sz) with u | u
   ·have:=E.pos
    rcases Nat.mul_eq_zero.1 u with F | F <;> omega
   ·obtain ⟨v',g,_⟩:=b (V+Z*Y.sz-1) (cs[V+Z*Y.sz-1]'ad) (by rw [ad9]);have G:pl.sh+(V+Z*Y.sz-1)<a.size:=by
     rcases cj9 (pl.sh+(V+Z*Y.sz-1)) a.size with h | h
     ·exact h
     ·rw [cx9 h] at g; cases g
    have:Z*Y.sz<=c'*Y.sz:=ad
    exact Nat.le_of_mul_le_mul_right this E.pos
  ·obtain ⟨v',g,I⟩:=b U v hv;exact ⟨v',by rw [dq9]; exact g,I⟩
 ·cases d
def openNew {P:Program} (q:El) {z:Xab} (E:IY C.P H q U z) (R:Rel C h0 ρ s.σ h) (hn:s.σ.get s.nx=none) {cs a rest:List Xab} {h':Hp} (hc:eA ρ cs a) (hl:cs.length=O*q.sz)
  (h1:O<=V) (h2:V<9223372036854775808) (f:rest.length=(V-O)*q.sz) (g:br h' h.size q.e (a++rest)) (k:Ext h h') (Po:∀ ρ1 d h1,Le ρ ρ1->Rel C h0 ρ1 (s.σ.put s.nx (.row cs q.e 1)) h1->VR ρ1 (.slice (some ⟨s.nx,0,none⟩) O rC) d->kk d L K h1) :
  kk (.slice (some ⟨h.size,0,none⟩) O V) L K h':=by
 have b:V*C.P.cellsOf q.e=a.length+rest.length:=by
  rw [f,<- hc.length,hl,cJ E.vW,E.sz,<- dd9]
  congr 1; omega
 obtain ⟨j,le⟩:=R.newRow (e:=q.e) (m:=1) (cap:=V) hn hc g k λ_=>⟨b,h2⟩
 have hv:=VR.sl (ρ:=lG ρ s.nx ⟨h.size,0,V⟩) (c:=rC) (c':=V) 0 O (fW _ _ _) (.inr ⟨Nat.le_of_lt xW,rfl⟩) h1;exact Po _ _ _ le j (by simpa using hv)
def Jo (R:Rel C h0 ρ s.σ h) {ts:Array TypeId} {vs Q:List Xab} {v:Xab} (hv:eA ρ vs Q) (d:FG C ts.toList vs s=some (v,s1)) (P:pJ C h0 ρ s1 v kk L K) :
  T.dP C.P (Builtin.append_ ts H Q.toArray) false [(false,[.slice 0])] (λp l c=>kk (.slice p l c)) L K h:=by
 refine dt ?_;unfold FG at d;split at d
 ·rename_i t t' a x hts;obtain ⟨h1,d⟩:=bt.1 d;obtain ⟨q,hq,d⟩:=aa9.1 d;obtain ⟨ys,hys,d⟩:=aa9.1 d;have S:ts=#[t,t']:=by
   have:=as9 List.toArray hts
   simpa using this
  subst S;obtain ⟨w,j⟩:∃ w,C.P.underlying t'=some (.slice w):=by
   unfold LJ at h1;split at h1
   ·rename_i G; exact ⟨_,G⟩
   ·cases h1
  obtain ⟨i,z,E⟩:=EG hq;cases hv with
  | cons ha hv =>
  cases hv with
  | cons hxx hv =>
  cases hv;obtain ⟨xq,xq',m,mc,mc',o,hx1,hx2,f,r,k⟩:=M9 R hxx hys;subst hx2;rw [hx1] at d;obtain ⟨p,l,c,ha1⟩:∃ p l c,a=.slice p l c:=by
   cases a <;> first | exact ⟨_,_,_,rfl⟩ | (simp [Xx] at d; done)
  rw [ha1] at d ha;unfold Xx at d;obtain ⟨h2,d⟩:=bt.1 d;simp only [Bool.and_eq_true] at h2;have hby:=bk9 h2.1.1;have hlm:=bk9 h2.1.2;have hpl:o.all df=true:=by rw [yD f]; exact h2.2
  cases m with
  | zero =>
   cases d;have hy0:ys=[]:=bu9 (by simpa using r);rw [hy0] at f;cases f;cases ha with
   | mG hl=>exact Ir E j hl k ⟨_,_,_,rfl,P.here R (.mG hl)⟩
   | sl off l B hc hl=>exact Ir E j hl k ⟨_,_,_,rfl,P.here R (.sl _ _ B hc hl)⟩
  | succ m =>
   simp only at d;unfold Wf at d;cases ha with
   | mG _ =>
    simp only at d;obtain ⟨h3,d⟩:=bt.1 d;simp only [Bool.and_eq_true] at h3;obtain rfl:l=0:=av9 h3.1;obtain rfl:c=0:=av9 h3.2;obtain ⟨s2,I,d⟩:=aa9.1 (show (Ar s (.row ys q.e 1)).bind _=some (v,s1) from d);obtain ⟨hn,h4⟩:=jK.1 I;subst h4;cases d;refine CF (p:=none) (l:=0) (c:=0) (old:=[]) E j ad k (λK hk=>hk) hby hlm ?_;intro M rest h' y g2 J g4 g5;rw [cw9] at g4;rw [by9] at y J ⊢;exact ⟨_,_,_,rfl,openNew (P:=C.P) q E R hn f r y g2 J g4 g5 P⟩
   | @sl pb pl off l c c' B hc hl =>
    simp only at d;obtain ⟨⟨pb2,po⟩,hp2,d⟩:=aa9.1 d;have hp3:=kw.1 hp2;cases hp3;simp only at d;unfold VX at d;cases A:Nat.blt c half with
    | true =>
     rw [A] at d;simp only at d;obtain rfl:c'=c:=Ua hc A;unfold RB at d;cases N:Nat.ble (l+(m+1)) c' with
     | true =>
      rw [N] at d;simp only at d;obtain ⟨s2,hs2,d⟩:=aa9.1 d;cases d;obtain ⟨D,F⟩:=LU R f hs2 B;rw [show pl.sh+(off+l*q.sz)=pl.sh+off+l*q.sz from ad] at D F;refine Ih E j (bk9 N) k (by rw [aw]; exact D) ⟨_,_,_,rfl,?_⟩;rw [aw];exact P _ _ _ (Le.refl _) F (.sl _ _ B hc (bk9 N))
     | false =>
      rw [N] at d;simp only at d;obtain ⟨old,ho,d⟩:=aa9.1 d;obtain ⟨s2,I,d⟩:=aa9.1 (show (Ar s (.row (old++ys) q.e 1)).bind _=some (v,s1) from d);obtain ⟨hn,h4⟩:=jK.1 I;subst h4;cases d;obtain ⟨old',y,g2,J⟩:=W7 (c:=c') R B ho;have hro:¬ l+(m+1)<=c':=λG=>by rw [Nat.ble_eq_true_of_le G] at N; cases N
      refine CF E j hro k J hby hlm ?_;intro M rest h' D F U k4 k5;exact ⟨_,_,_,rfl,openNew (P:=C.P) q E R hn (y.append f) (by rw [ae9,g2,r,<- dd9]) D F U k4 k5 P⟩
    | false =>
     rw [A] at d;simp only at d;unfold KY at d;obtain ⟨cs,ho,d⟩:=aa9.1 d;obtain ⟨u,d⟩:=bt.1 d;have u:cs.length=off+l*q.sz:=av9 u;split at d
     ·rename_i hn;cases d;obtain ⟨y,g2,J,g4,g5,V,g6,O,g8⟩:=IW E R ho B (Pj hc A);have hn':pb≠s.nx:=λG=>by rw [G,hn] at y; cases y
      by_cases g:l+(m+1)<=c'
      ·
       have W:(l+(m+1))*q.sz<=c'*q.sz:=cz9 _ g;rw [dd9] at W;obtain ⟨D,F,U,k4⟩:=ni (off:=pl.sh+off+l*q.sz) o h 0 _ g6 hpl (by rw [<- f.length,r,O]; omega);refine Ih E j g k (by rw [aw]; exact D) ⟨_,_,_,rfl,?_⟩;rw [aw];have X:yF C.P (lG ρ s.nx ⟨pl.cj,pl.sh+off,c'⟩) h0 (tS h ⟨pl.cj,pl.sh+off+l*q.sz,none⟩ 0 o) ⟨pl.cj,pl.sh+off,c'⟩ (.row (cs.drop off++ys) q.e 1):=by
        refine ⟨_,_,F,λi v hi=>?_,λ_=>⟨rfl,g5⟩,λ_=>⟨by simp only [List.size_toArray,jg]; rw [O,cJ E.vW,E.sz],g4⟩,λG=>by cases G⟩;have le:Le ρ (lG ρ s.nx ⟨pl.cj,pl.sh+off,c'⟩):=Le.lG (R.SX _ hn);have hdl:(cs.drop off).length=l*q.sz:=by rw [bs9,u]; omega
        rw [ex9,ig _ _ _ (by rw [<- f.length,r,O]; omega),eh9];have e1:(V.take (pl.sh+off+l*q.sz)).length=pl.sh+off+l*q.sz:=by rw [au9,O]; omega
        rcases cj9 i (l*q.sz) with hi1 | hi1
        ·rw [bw9 ad,ep9] at hi;obtain ⟨v',w,Y⟩:=g8 _ _ hi;refine ⟨v',?_,Y.mono le⟩;rw [az9,bw9 (by simp only; omega),eo9,ag9 (by simp only; omega),<- w];simp only; congr 1; omega
        ·rw [bp9 ad,hdl] at hi;obtain ⟨v',w,Y⟩:=f.get hi;refine ⟨v',?_,Y.mono le⟩
         have:i-l*q.sz<o.length:=by
          rcases cj9 (i-l*q.sz) o.length with h | h
          ·exact h
          ·rw [bv9 h] at w; cases w
         rw [az9,bp9 (by simp only; omega),bw9 (by simp only; omega),<- w];simp only; congr 1; omega
       obtain ⟨R1,le⟩:=R.move (n:=s.nx) (b:=pb) (o':=.row (cs.drop off++ys) q.e 1) (pl':=⟨pl.cj,pl.sh+off,c'⟩) hn y rfl B U (.inl rfl) g5 X;refine P _ _ _ le R1 ?_
       have:=VR.sl (ρ:=lG ρ s.nx ⟨pl.cj,pl.sh+off,c'⟩) (c:=rC) (c':=c') 0 (l+(m+1)) (fW _ _ _) (.inr ⟨Nat.le_of_lt xW,rfl⟩) g
       simpa using this
      ·
       have Z:∀ (K:Array Xab->Hp->Prop),K ((V.drop (pl.sh+off)).take (l*q.sz)).toArray h->aQ C.P (Builtin.firstCells q.sz l (.slice (some ⟨pl.cj,pl.sh+off,none⟩) l c')) h K:=by
        have hm:l*q.sz<=c'*q.sz:=cz9 _ J;have hln:((V.drop (pl.sh+off)).take (l*q.sz)).length=l*q.sz:=by rw [au9,bs9,O]; omega
        exact λK hk=>dK hln (g6.cells _ (by rw [hln])) _ hk
       have hov:eA ρ (cs.drop off) ((V.drop (pl.sh+off)).take (l*q.sz)):=by
        have hm:l*q.sz<=c'*q.sz:=cz9 _ J;refine eA.Su (by rw [bs9,au9,bs9,O,u]; omega) λi v hi=>?_
        rw [ep9] at hi;obtain ⟨v',w,Y⟩:=g8 _ _ hi;refine ⟨v',?_,Y⟩
        have:off+i<cs.length:=by
         rcases cj9 (off+i) cs.length with h | h
         ·exact h
         ·rw [bv9 h] at hi; cases hi
        rw [eo9,ag9 ad,ep9,<- w]
        congr 1; omega
       refine CF E j g k Z hby hlm ?_;intro M rest h' D F U k4 k5;refine ⟨_,_,_,rfl,?_⟩;have hcs:(cs.drop off++ys).length=(l+(m+1))*q.sz:=by rw [ae9,bs9,u,r,dd9 l]; omega
       have hcp:M*C.P.cellsOf q.e=(((V.drop (pl.sh+off)).take (l*q.sz))++o).length+rest.length:=by
        rw [U,<- (hov.append f).length,hcs,cJ E.vW,E.sz,<- dd9]
        congr 1; omega
       obtain ⟨R1,le⟩:=R.move (n:=s.nx) (b:=pb) (o':=.row (cs.drop off++ys) q.e 1) (pl':=⟨h.size,0,M⟩) hn y rfl B (k5.mono ai) (.inr rfl) R.size (Ko R.size (hov.append f) (Le.lG (R.SX _ hn)) k4 λ_=>⟨hcp,F⟩);refine P _ _ _ le R1 ?_
       have:=VR.sl (ρ:=lG ρ s.nx ⟨h.size,0,M⟩) (c:=rC) (c':=M) 0 (l+(m+1)) (fW _ _ _) (.inr ⟨Nat.le_of_lt xW,rfl⟩) D
       simpa using this
     ·cases d
 ·cases d
end
end Go.Sx.Cr
