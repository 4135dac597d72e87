/- Part of the framework. No condition. -/
import Derived.Test.YtlpcncdglfjnoaaGreatDoorSxJb
set_option linter.all false
set_option maxHeartbeats 4000000
namespace Go.Sx.Cr
section
variable {C:Cx} {h0:Hp} {ρ:fY} {s s1:CS} {h:Hp} {e:Ev} {e':Env} {L:Lp} {K:XB->Hp->Prop} {kk:XB->T}
variable {H:TypeId} {V:El} {O:TypeInfo} {I U Y:Nat}
def O' {P:Program} {z:XB} (E:FG P H V O z) {ps:List (Nat × XB)} {r:List (Nat × List XB)} {cs:List XB} (hn:I*V.sz<=16777216) (hl:r.length=I)
  (hc:kh ps r) (d:F5 V.sz 0 r=some cs) {K:XB->Hp->Prop} (hk:∀ h',bm h' h.size V.e cs->Ext h h'->K (.slice (some ⟨h.size,0,none⟩) I I) h'):aI P (Instr.buildSlice H I ps.toArray) h K:=by
 rcases Nat.eq_zero_or_pos I with h0 | h0
 ·subst h0;have g:r=[]:=Wk hl;subst g;cases hc
  have:some []=some cs:=d
  cases this;unfold Instr.buildSlice;rw [al,au E.Sf];simp only;rw [al,bF E.tk];simp only [Nat.zero_mul];rw [Vu ad];have h0:∀ f:Nat->XB,Array.map f (Array.range 0)=#[]:=fun f=>ah
  simp only [h0];exact hk _ (by simpa using bm.new h V.e []) (Ext.push h _)
 ·have hp:=E.pos;have c:I*V.sz≠0:=fun j=>by rcases Nat.mul_eq_zero.1 j with h1 | h1 <;> omega
  have a:((Array.range (I*O.size)).map (z.cells[· % z.cells.size]!)).toList.length=r.length*V.sz:=by simp [hl,E.sz]
  have hf:=Bb (A:=[]) d ah a;rw [WM,WM] at hf;have hf':=Ci hc hf;refine jo E.Sf E.tk E.zero (by rw [E.sz]; exact c) (by rw [E.sz]; omega) (cells:=cs.toArray) (by rw [E.sz] at hf' ⊢; exact hf') fun h' b k _=>?_
  exact hk h' (by simpa using b) k
def Oc (R:Rel C h0 ρ s.σ h) {ps d:List (Nat × XB)} {v:XB} (hp:PR ρ ps d) (a:KT C.P H I ps s=some (v,s1)) (P:nr C h0 ρ s1 v kk L K) :
  T.eK C.P (Instr.buildSlice H I d.toArray) false [(false,[.slice 0])] (fun p l c=>kk (.slice p l c)) L K h:=by
 unfold KT at a;obtain ⟨q,g,a⟩:=Vq.1 a;obtain ⟨h1,a⟩:=bi.1 a;obtain ⟨cs,hc,a⟩:=Vq.1 a;obtain ⟨h2,hc⟩:=bi.1 (show fx _ _=some cs from hc);obtain ⟨B,f,a⟩:=Vq.1 (show (yh s (.row cs q.e 0)).bind _=some (v,s1) from a);obtain ⟨hn,j⟩:=iy.1 f;subst j;cases a;obtain ⟨i,z,E⟩:=BP g;obtain ⟨o,r⟩:=Dr hp;obtain ⟨u,w,x,y⟩:=Ii _ hc o;refine dc ?_;refine O' E (VX h1) (by rw [y]; exact VF h2) r w fun h' b k=>?_
 obtain ⟨A,le⟩:=R.newRow (rest:=[]) (e:=q.e) (m:=0) (cap:=0) hn x (by rw [Wr]; exact b) k ad;have hv:=VR.sl (ρ:=jL ρ s.nx ⟨h.size,0,0⟩) (c:=I) (c':=I) 0 I (ff _ _ _) (.inl ⟨?_,rfl⟩) (VL _)
 ·exact ⟨_,_,_,rfl,P _ _ _ le A (by simpa using hv)⟩
 ·have hp:=E.pos;have h1:=VX h1
  have:I*1<=I*q.sz:=Nat.mul_le_mul_left I hp
  unfold half; omega
def IS (R:Rel C h0 ρ s.σ h) {sz:Nat} {x d:XB} {f:List XB} (hv:VR ρ x d) (c:FK C sz x s=some f) :
  ∃ q j m i g a,x=.slice q m i/\d=.slice j m g/\dO ρ f a/\f.length=m*sz/\∀ K:Array XB->Hp->Prop,K a.toArray h->aI C.P (Builtin.firstCells sz m d) h K:=by
 unfold FK at c;split at c
 ·rename_i q m i;cases m with
  | zero =>
   cases c;cases hv with
   | nZ _=>exact ⟨_,_,_,_,_,[],rfl,rfl,.nil,ah,fun K hk=>hk⟩
   | sl off l h hc _ =>
    refine ⟨_,_,_,_,_,[],rfl,rfl,.nil,ah,fun K hk=>?_⟩;show aI C.P (loadCells _ (0*sz)) _ K;rw [Nat.zero_mul];exact hk
  | succ m =>
   simp only at c;obtain ⟨⟨b,off⟩,k,c⟩:=Vq.1 c
   have:=jf.1 k
   cases this;cases hv with
   | sl off l n hc _ =>
    obtain ⟨hn,a,h1,h2⟩:=qB R c n;refine ⟨_,_,_,_,_,a,rfl,rfl,h1,hn,fun K hk=>?_⟩;exact dZ (by rw [<- h1.length]; exact hn) h2 _ hk
 ·cases c
section eK
variable {P:Program} {t t' ty e2:TypeId} {q:El} {i:TypeInfo} {z:XB}
variable {H I U:Nat} {O:XC}
def EU (E:FG P t q i z) (d:P.underlying t'=some (.slice e2)) {a:YA} {j:Nat} {f:List XB} (b:H+U<=I)
  (k:∀ K:Array XB->Hp->Prop,K f.toArray h->aI P (Builtin.firstCells q.sz U (.slice O U j)) h K) {K:XB->Hp->Prop}
  (g:xO h (a.add (H*q.sz)) 0 f) (hk:K (.slice (some a) (H+U) I) (qW h (a.add (H*q.sz)) 0 f)):aI P (Builtin.append_ #[t,t'] ty #[.slice (some a) H I,.slice O U j]) h K:=by
 simp [Builtin.append_,al,au E.Sf,au d,bF E.tk,cH E.tk,Builtin.lenOf,b,E.sz];refine k _ ?_;rw [np];exact fk _ _ _ 0 _ g hk
def E2 (E:FG P t q i z) (d:P.underlying t'=some (.slice e2)) {x:XC} (b:H<=I)
  (f:∀ K:Array XB->Hp->Prop,K #[] h->aI P (Builtin.firstCells q.sz 0 (.slice x 0 U)) h K) {K:XB->Hp->Prop}
  (hk:K (.slice O H I) h):aI P (Builtin.append_ #[t,t'] ty #[.slice O H I,.slice x 0 U]) h K:=by
 simp [Builtin.append_,al,au E.Sf,au d,bF E.tk,cH E.tk,Builtin.lenOf,b,E.sz];refine f _ ?_;cases O with
 | none=>exact hk
 | some a=>exact hk
def Aa (E:FG P t q i z) (n:P.underlying t'=some (.slice e2)) {p:XC} {l c:Nat} {old f:List XB} (d:¬ l+H<=c)
  (w:∀ K:Array XB->Hp->Prop,K f.toArray h->aI P (Builtin.firstCells q.sz H (.slice O H I)) h K)
  (y:∀ K:Array XB->Hp->Prop,K old.toArray h->aI P (Builtin.firstCells q.sz l (.slice p l c)) h K) {K:XB->Hp->Prop}
  (o:(2*(l+H)+1024)*q.by_<=281474976710656) (hl:l+H<=281474976710656)
  (hk:∀ a rest h',l+H<=a->a<9223372036854775808->rest.length=(a-(l+H))*q.sz->bm h' h.size q.e (old++f++rest)->Ext h h'->K (.slice (some ⟨h.size,0,none⟩) (l+H) a) h') :
  aI P (Builtin.append_ #[t,t'] ty #[.slice p l c,.slice O H I]) h K:=by
 have g:¬ 281474976710656<Builtin.nextslicecap (l+H) c*i.bytes:=by
  have h1:=Ab (need:=l+H) (old:=c) ad;have h2:=Wq i.bytes h1;rw [<- E.by_] at o
  omega
 have j:¬ (9223372036854775807<(l:Int)+(H:Int)/\i.bytes=0):=ad
 have r:(P.info? q.e).bind (·.zero)=some z:=by rw [E.tk]; exact E.zero
 simp [Builtin.append_,al,au E.Sf,au n,bF E.tk,cH E.tk,Builtin.lenOf,d,gf E.tk,dp r,askRoom,j,g,E.sz];intro u;have hge:=HG (l+H) c q.e u;generalize (Question.appendCap (l+H) c q.e).cut u=a at hge;show aI P (if roomBytes<a*i.bytes then mark Mark.noRoom else pure ()) h _;have b:∀ K':Unit->Hp->Prop,K' () h->aI P (if roomBytes<a*i.bytes then mark Mark.noRoom else pure ()) h K':=by
  intro K' k;split
  ·exact k
  ·exact k
 refine b _ ?_;refine y _ ?_;refine w _ ?_;rw [np];have hb:=bm.new h q.e (old++f++(Builtin.zeroCells z.cells (a-(l+H))).toList);have A:old.toArray++(f.toArray++Builtin.zeroCells z.cells (a-(l+H)))=(old++f++(Builtin.zeroCells z.cells (a-(l+H))).toList).toArray:=by
  apply Wf.1; simp
 refine hk a (Builtin.zeroCells z.cells (a-(l+H))).toList _ hge.1 (hge.2 ad) ?_ ?_ (Ext.push h _)
 ·rw [Wy,pW,E.zs,E.sz]
 ·rw [A]; exact hb
end eK
def vH:half<o5:=bJ
def Ox {pl:Pl} {c c':Nat} (hc:I2 pl c c') (a:Nat.blt c half=true):c'=c:=by
 rw [Nat.blt_eq] at a;rcases hc with ⟨_,h⟩ | ⟨h,_⟩
 ·exact h
 ·omega
def KK {pl:Pl} {c c':Nat} (hc:I2 pl c c') (a:Nat.blt c half=false):c'+o5=pl.cap+c:=by
 have:¬ c<half:=fun b=>by rw [<- Nat.blt_eq] at b; rw [b] at a; cases a
 rcases hc with ⟨h,_⟩ | ⟨_,h⟩
 ·exact (this h).elim
 ·exact h
def QZ (R:Rel C h0 ρ s.σ h) {sz c:Nat} {pl:Pl} {old:List XB} (b:ρ I=some pl) (d:cells C s I U (Y*sz)=some old) :
  ∃ a,dO ρ old a/\old.length=Y*sz/\∀ (K:Array XB->Hp->Prop),K a.toArray h->aI C.P (Builtin.firstCells sz Y (.slice (some ⟨pl.cu,pl.sh+U,none⟩) Y c)) h K:=by
 obtain ⟨hn,a,h1,h2⟩:=qB R d b;exact ⟨a,h1,hn,fun K hk=>dZ (by rw [<- h1.length]; exact hn) h2 _ hk⟩
def FC {z:XB} (E:FG C.P H V O z) (R:Rel C h0 ρ s.σ h) {c c':Nat} {cs:List XB} (d:BQ V U Y c (s.σ.get I)=some cs) {pl:Pl} (w:ρ I=some pl) (hc:c'+o5=pl.cap+c) :
  s.σ.get I=some (.row cs V.e 1)/\U+Y*V.sz<=cs.length/\Y<=c'/\c'<9223372036854775808/\h0.size<=pl.cu/\∃ a,bm h pl.cu V.e a/\a.length=pl.sh+U+c'*V.sz/\∀ (O:Nat) (v:XB),cs[O]?=some v->∃ v',a[pl.sh+O]?=some v'/\VR ρ v v':=by
 unfold BQ at d;split at d
 ·rename_i x e' y o;obtain ⟨h1,h2⟩:=bi.1 d;cases h2;simp only [Bool.and_eq_true] at h1;obtain ⟨⟨⟨⟨h1,h2⟩,h3⟩,j⟩,h5⟩:=h1;obtain rfl:y=1:=VF h1;obtain rfl:V.e=e':=VF h2;have h3:=VX h3;have j:U=(o5-c)*V.sz:=VF j;have h5:=VX h5;obtain ⟨a,f,A,b,B,D⟩:=R.row o w;obtain ⟨rfl,k⟩:=B ad;obtain ⟨p,r⟩:=D.1 rfl;rw [cH E.tk,E.sz] at p;have m:c'+(o5-c)=pl.cap:=ad
  have n:a.size=pl.sh+U+c'*V.sz:=by rw [<- p,<- m,Wx,j]; omega
  refine ⟨o,h5,?_,ad,k,a.toList,by unfold bm; simpa using A,by simpa using n,fun O v hv=>?_⟩
  ·rcases Nat.eq_zero_or_pos (Y*V.sz) with u | u
   ·have:=E.pos
    rcases Nat.mul_eq_zero.1 u with F | F <;> omega
   ·obtain ⟨v',g,_⟩:=b (U+Y*V.sz-1) (cs[U+Y*V.sz-1]'ad) (by rw [VC]);have G:pl.sh+(U+Y*V.sz-1)<a.size:=by
     rcases Wo (pl.sh+(U+Y*V.sz-1)) a.size with h | h
     ·exact h
     ·rw [Wp h] at g; cases g
    have:Y*V.sz<=c'*V.sz:=ad
    exact Nat.le_of_mul_le_mul_right this E.pos
  ·obtain ⟨v',g,J⟩:=b O v hv;exact ⟨v',by rw [WE]; exact g,J⟩
 ·cases d
def openNew {P:Program} (q:El) {z:XB} (E:FG C.P H q O z) (R:Rel C h0 ρ s.σ h) (hn:s.σ.get s.nx=none) {cs a rest:List XB} {h':Hp} (hc:dO ρ cs a) (hl:cs.length=I*q.sz)
  (h1:I<=U) (h2:U<9223372036854775808) (f:rest.length=(U-I)*q.sz) (g:bm h' h.size q.e (a++rest)) (k:Ext h h') (j:∀ ρ1 d h1,Le ρ ρ1->Rel C h0 ρ1 (s.σ.put s.nx (.row cs q.e 1)) h1->VR ρ1 (.slice (some ⟨s.nx,0,none⟩) I o5) d->kk d L K h1) :
  kk (.slice (some ⟨h.size,0,none⟩) I U) L K h':=by
 have b:U*C.P.cellsOf q.e=a.length+rest.length:=by
  rw [f,<- hc.length,hl,cH E.tk,E.sz,<- Wx]
  congr 1; omega
 obtain ⟨n,le⟩:=R.newRow (e:=q.e) (m:=1) (cap:=U) hn hc g k fun _=>⟨b,h2⟩
 have hv:=VR.sl (ρ:=jL ρ s.nx ⟨h.size,0,U⟩) (c:=o5) (c':=U) 0 I (ff _ _ _) (.inr ⟨Nat.le_of_lt vH,rfl⟩) h1;exact j _ _ _ le n (by simpa using hv)
def FX (R:Rel C h0 ρ s.σ h) {ts:Array TypeId} {vs S:List XB} {v:XB} (hv:dO ρ vs S) (d:CD C ts.toList vs s=some (v,s1)) (P:nr C h0 ρ s1 v kk L K) :
  T.eK C.P (Builtin.append_ ts H S.toArray) false [(false,[.slice 0])] (fun p l c=>kk (.slice p l c)) L K h:=by
 refine dc ?_;unfold CD at d;split at d
 ·rename_i t t' a x hts;obtain ⟨h1,d⟩:=bi.1 d;obtain ⟨q,hq,d⟩:=Vq.1 d;obtain ⟨G,hys,d⟩:=Vq.1 d;have U:ts=#[t,t']:=by
   have:=VO List.toArray hts
   simpa using this
  subst U;obtain ⟨w,j⟩:∃ w,C.P.underlying t'=some (.slice w):=by
   unfold HS at h1;split at h1
   ·rename_i I; exact ⟨_,I⟩
   ·cases h1
  obtain ⟨i,z,E⟩:=BP hq;cases hv with
  | cons ha hv =>
  cases hv with
  | cons hxx hv =>
  cases hv;obtain ⟨xq,xq',m,mc,mc',o,hx1,hx2,f,r,k⟩:=IS R hxx hys;subst hx2;rw [hx1] at d;obtain ⟨p,l,c,ha1⟩:∃ p l c,a=.slice p l c:=by
   cases a <;> first | exact ⟨_,_,_,rfl⟩ | (simp [Rg] at d; done)
  rw [ha1] at d ha;unfold Rg at d;obtain ⟨h2,d⟩:=bi.1 d;simp only [Bool.and_eq_true] at h2;have hby:=VX h2.1.1;have hlm:=VX h2.1.2;have hpl:o.all cO=true:=by rw [wC f]; exact h2.2
  cases m with
  | zero =>
   cases d;have hy0:G=[]:=Wk (by simpa using r);rw [hy0] at f;cases f;cases ha with
   | nZ hl=>exact E2 E j hl k ⟨_,_,_,rfl,P.here R (.nZ hl)⟩
   | sl off l B hc hl=>exact E2 E j hl k ⟨_,_,_,rfl,P.here R (.sl _ _ B hc hl)⟩
  | succ m =>
   simp only at d;unfold Qc at d;cases ha with
   | nZ _ =>
    simp only at d;obtain ⟨h3,d⟩:=bi.1 d;simp only [Bool.and_eq_true] at h3;obtain rfl:l=0:=VF h3.1;obtain rfl:c=0:=VF h3.2;obtain ⟨s2,J,d⟩:=Vq.1 (show (yh s (.row G q.e 1)).bind _=some (v,s1) from d);obtain ⟨hn,h4⟩:=iy.1 J;subst h4;cases d;refine Aa (p:=none) (l:=0) (c:=0) (old:=[]) E j ad k (fun K hk=>hk) hby hlm ?_;intro N rest h' y g2 M g4 g5;rw [WM] at g4;rw [V9] at y M ⊢;exact ⟨_,_,_,rfl,openNew (P:=C.P) q E R hn f r y g2 M g4 g5 P⟩
   | @sl pb pl off l c c' B hc hl =>
    simp only at d;obtain ⟨⟨pb2,po⟩,hp2,d⟩:=Vq.1 d;have hp3:=jf.1 hp2;cases hp3;simp only at d;unfold PV at d;cases A:Nat.blt c half with
    | true =>
     rw [A] at d;simp only at d;obtain rfl:c'=c:=Ox hc A;unfold MG at d;cases O:Nat.ble (l+(m+1)) c' with
     | true =>
      rw [O] at d;simp only at d;obtain ⟨s2,hs2,d⟩:=Vq.1 d;cases d;obtain ⟨D,F⟩:=HW R f hs2 B;rw [show pl.sh+(off+l*q.sz)=pl.sh+off+l*q.sz from ad] at D F;refine EU E j (VX O) k (by rw [ax]; exact D) ⟨_,_,_,rfl,?_⟩;rw [ax];exact P _ _ _ (Le.refl _) F (.sl _ _ B hc (VX O))
     | false =>
      rw [O] at d;simp only at d;obtain ⟨old,ho,d⟩:=Vq.1 d;obtain ⟨s2,J,d⟩:=Vq.1 (show (yh s (.row (old++G) q.e 1)).bind _=some (v,s1) from d);obtain ⟨hn,h4⟩:=iy.1 J;subst h4;cases d;obtain ⟨old',y,g2,M⟩:=QZ (c:=c') R B ho;have hro:¬ l+(m+1)<=c':=fun I=>by rw [Nat.ble_eq_true_of_le I] at O; cases O
      refine Aa E j hro k M hby hlm ?_;intro N rest h' D F V k4 k5;exact ⟨_,_,_,rfl,openNew (P:=C.P) q E R hn (y.append f) (by rw [Vs,g2,r,<- Wx]) D F V k4 k5 P⟩
    | false =>
     rw [A] at d;simp only at d;unfold Hj at d;obtain ⟨cs,ho,d⟩:=Vq.1 d;obtain ⟨u,d⟩:=bi.1 d;have u:cs.length=off+l*q.sz:=VF u;split at d
     ·rename_i hn;cases d;obtain ⟨y,g2,M,g4,g5,W,g6,Q,g8⟩:=FC E R ho B (KK hc A);have hn':pb≠s.nx:=fun I=>by rw [I,hn] at y; cases y
      by_cases g:l+(m+1)<=c'
      ·
       have X:(l+(m+1))*q.sz<=c'*q.sz:=Wq _ g;rw [Wx] at X;obtain ⟨D,F,V,k4⟩:=kO (off:=pl.sh+off+l*q.sz) o h 0 _ g6 hpl (by rw [<- f.length,r,Q]; omega);refine EU E j g k (by rw [ax]; exact D) ⟨_,_,_,rfl,?_⟩;rw [ax];have Y:wH C.P (jL ρ s.nx ⟨pl.cu,pl.sh+off,c'⟩) h0 (qW h ⟨pl.cu,pl.sh+off+l*q.sz,none⟩ 0 o) ⟨pl.cu,pl.sh+off,c'⟩ (.row (cs.drop off++G) q.e 1):=by
        refine ⟨_,_,F,fun i v hi=>?_,fun _=>⟨rfl,g5⟩,fun _=>⟨by simp only [List.size_toArray,lY]; rw [Q,cH E.tk,E.sz],g4⟩,fun I=>by cases I⟩;have le:Le ρ (jL ρ s.nx ⟨pl.cu,pl.sh+off,c'⟩):=Le.jL (R.NB _ hn);have hdl:(cs.drop off).length=l*q.sz:=by rw [V6,u]; omega
        rw [W4,oR _ _ _ (by rw [<- f.length,r,Q]; omega),Xy];have e1:(W.take (pl.sh+off+l*q.sz)).length=pl.sh+off+l*q.sz:=by rw [VQ,Q]; omega
        rcases Wo i (l*q.sz) with hi1 | hi1
        ·rw [Wb ad,WW] at hi;obtain ⟨v',w,Z⟩:=g8 _ _ hi;refine ⟨v',?_,Z.mono le⟩;rw [VW,Wb (by simp only; omega),W3,VE (by simp only; omega),<- w];simp only; congr 1; omega
        ·rw [V8 ad,hdl] at hi;obtain ⟨v',w,Z⟩:=f.get hi;refine ⟨v',?_,Z.mono le⟩
         have:i-l*q.sz<o.length:=by
          rcases Wo (i-l*q.sz) o.length with h | h
          ·exact h
          ·rw [V5 h] at w; cases w
         rw [VW,V8 (by simp only; omega),Wb (by simp only; omega),<- w];simp only; congr 1; omega
       obtain ⟨R1,le⟩:=R.move (n:=s.nx) (b:=pb) (o':=.row (cs.drop off++G) q.e 1) (pl':=⟨pl.cu,pl.sh+off,c'⟩) hn y rfl B V (.inl rfl) g5 Y;refine P _ _ _ le R1 ?_
       have:=VR.sl (ρ:=jL ρ s.nx ⟨pl.cu,pl.sh+off,c'⟩) (c:=o5) (c':=c') 0 (l+(m+1)) (ff _ _ _) (.inr ⟨Nat.le_of_lt vH,rfl⟩) g
       simpa using this
      ·
       have hold:∀ (K:Array XB->Hp->Prop),K ((W.drop (pl.sh+off)).take (l*q.sz)).toArray h->aI C.P (Builtin.firstCells q.sz l (.slice (some ⟨pl.cu,pl.sh+off,none⟩) l c')) h K:=by
        have hm:l*q.sz<=c'*q.sz:=Wq _ M;have hln:((W.drop (pl.sh+off)).take (l*q.sz)).length=l*q.sz:=by rw [VQ,V6,Q]; omega
        exact fun K hk=>dZ hln (g6.cells _ (by rw [hln])) _ hk
       have hov:dO ρ (cs.drop off) ((W.drop (pl.sh+off)).take (l*q.sz)):=by
        have hm:l*q.sz<=c'*q.sz:=Wq _ M;refine dO.Nn (by rw [V6,VQ,V6,Q,u]; omega) fun i v hi=>?_
        rw [WW] at hi;obtain ⟨v',w,Z⟩:=g8 _ _ hi;refine ⟨v',?_,Z⟩
        have:off+i<cs.length:=by
         rcases Wo (off+i) cs.length with h | h
         ·exact h
         ·rw [V5 h] at hi; cases hi
        rw [W3,VE ad,WW,<- w]
        congr 1; omega
       refine Aa E j g k hold hby hlm ?_;intro N rest h' D F V k4 k5;refine ⟨_,_,_,rfl,?_⟩;have hcs:(cs.drop off++G).length=(l+(m+1))*q.sz:=by rw [Vs,V6,u,r,Wx l]; omega
       have hcp:N*C.P.cellsOf q.e=(((W.drop (pl.sh+off)).take (l*q.sz))++o).length+rest.length:=by
        rw [V,<- (hov.append f).length,hcs,cH E.tk,E.sz,<- Wx]
        congr 1; omega
       obtain ⟨R1,le⟩:=R.move (n:=s.nx) (b:=pb) (o':=.row (cs.drop off++G) q.e 1) (pl':=⟨h.size,0,N⟩) hn y rfl B (k5.mono ah) (.inr rfl) R.size (GO R.size (hov.append f) (Le.jL (R.NB _ hn)) k4 fun _=>⟨hcp,F⟩);refine P _ _ _ le R1 ?_
       have:=VR.sl (ρ:=jL ρ s.nx ⟨h.size,0,N⟩) (c:=o5) (c':=N) 0 (l+(m+1)) (ff _ _ _) (.inr ⟨Nat.le_of_lt vH,rfl⟩) D
       simpa using this
     ·cases d
 ·cases d
end
end Go.Sx.Cr
