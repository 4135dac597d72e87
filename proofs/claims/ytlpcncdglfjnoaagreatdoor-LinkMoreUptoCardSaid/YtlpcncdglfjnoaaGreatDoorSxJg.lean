/- Closed runs, part Jg: an operation over a store, and over the heap that it stands for. Asked: of the context, what Ok says; of calls, what CallOk says. -/
import Derived.Test.YtlpcncdglfjnoaaGreatDoorSxJf
set_option linter.all false
set_option maxHeartbeats 4000000
namespace Go.Sx.Cr
section
variable {C:Cx} {h0:Hp} {ρ:fR} {s s1:CS} {h:Hp} {e:Ev} {e':Env} {L:Lp} {K:ZB->Hp->Prop} {kk:ZB->T}
theorem N2 (R:Rel C h0 ρ s.σ h) (er:ER ρ e e') {c a b:Operand} {v:ZB} (hx:L7 C e s c a b=some (v,s1)) (P:oi C h0 ρ s1 v kk L K) :
  (bP e' c fun c=>match c with
  | .bool b'=>cond b' (bP e' a kk) (bP e' b kk)
  | _=>T.fail) L K h:=by
 unfold L7 at hx;obtain ⟨u,hu,hx⟩:=WO.1 hx;obtain ⟨u',g1,_,g2⟩:=bH R er hu;rw [g2];split at hx
 ·cases g1;obtain ⟨h1,rfl⟩:=dM.1 hx;obtain ⟨v',g3,_,g4⟩:=bH R er h1;simp only [cond_true];rw [g4];exact P.here R g3
 ·cases g1;obtain ⟨h1,rfl⟩:=dM.1 hx;obtain ⟨v',g3,_,g4⟩:=bH R er h1;simp only [cond_false];rw [g4];exact P.here R g3
 ·cases hx
theorem Gv (O:Ok C) {call:fL} (CO:mE C h0 call) (R:Rel C h0 ρ s.σ h) {t:TypeId} {f:FuncId} {vs vs':List ZB} {v:ZB} (hv:dG ρ vs vs') (hx:FZ C call t s f vs=some (v,s1)) (P:oi C h0 ρ s1 v kk L K) :
  AU C.P f vs' t kk L K h:=by
 unfold FZ at hx;unfold AU;cases hb:ft C.P f with
 | true =>
  rw [hb] at hx;simp only at hx ⊢;obtain ⟨h1,h2⟩:=tD.1 hx;cases hs:Nat.beq f C.RB with
  | true =>
   rw [hs] at h1;obtain rfl:f=C.RB:=W3 hs;exact Cd (Hd O R hv h1) h2 P
  | false =>
   rw [hs] at h1;exact Cd (CO f vs s v s1 h1 ρ h vs' R hv) h2 P
 | false =>
  rw [hb] at hx;simp only at hx ⊢;obtain ⟨hi,hx1⟩:=bj.1 hx;clear hx;obtain rfl:f=C.idx:=W3 hi;obtain ⟨h1,h2⟩:=tD.1 hx1;clear hx1;obtain ⟨h3,rfl⟩:=dM.1 h1;clear h1;unfold Nz at h3;split at h3
  ·cases h3;cases hv with
   | cons a1 hv =>
   cases hv with
   | cons a2 hv =>
   cases hv; cases a1; cases a2;obtain ⟨y,hy⟩:=ur (.int (ρ:=ρ) _ _) h2;refine O.idx _ _ h _ ⟨y,hy,?_⟩;rw [du,<- hy];exact P.here R (.int _ _)
  ·cases h3
theorem Jk {call:fL} (CO:mE C h0 call) (R:Rel C h0 ρ s.σ h) {t:TypeId} {g g':ZB} {vs vs':List ZB} {v:ZB} (hg:VR ρ g g') (hv:dG ρ vs vs') (hx:LH C call t s g vs=some (v,s1)) (P:oi C h0 ρ s1 v kk L K) :
  T.vA C.P g' vs' (kq C.P t).1 (kq C.P t).2 (jd _ fun l=>kk (rv (kq C.P t).1 (kq C.P t).2 l)) L K h:=by
 unfold LH at hx;split at hx
 ·rename_i f fi ca;obtain ⟨hb,hx⟩:=bj.1 hx;obtain ⟨h1,h2⟩:=tD.1 hx;cases hg with
  | @func _ _ fi' _ ca' k1 k2 =>
  refine ⟨f,⟨fi'⟩,⟨ca'⟩,rfl,?_,?_⟩
  ·have:=Cd (t:=t) (kk:=kk) (L:=L) (K:=K) (CO f _ s v s1 h1 ρ h (fi'++vs'++ca') R ((k1.append hv).append k2)) h2 P
   exact this
  ·unfold ft at hb;split at hb
   ·rename_i fn hf;simp only [Bool.and_eq_true,Bool.not_eq_true',beq_eq_false_iff_ne] at hb;exact ⟨fn,hf,hb.1,hb.2⟩
   ·cases hb
 ·cases hx
theorem FH (R:Rel C h0 ρ s.σ h) {b:Builtin} {t:TypeId} {c:Call} {vs vs':List ZB} {v:ZB} (hv:dG ρ vs vs') (hx:Ae C b t c vs s=some (v,s1)) (P:oi C h0 ρ s1 v kk L K) :
  qS C.P b c t vs' kk L K h:=by
 unfold Ae at hx;split at hx
 ·obtain ⟨u,hu,hx⟩:=WO.1 hx;obtain ⟨hx1,hs⟩:=dM.1 hx;subst hs;obtain ⟨u',rfl,hu'⟩:=HU hv hu;obtain ⟨g1,g2⟩:=Pj (t:=t) R hu' hx1;exact g2 kk L K (P.here R g1)
 ·exact G3 R hv hx P
 ·obtain ⟨hx1,hs⟩:=dM.1 hx;subst hs;obtain ⟨g1,g2⟩:=P3 (h:=h) (ts:=c.argTypes) hv hx1;exact g2 kk L K (P.here R g1)
 ·cases hx
theorem K3 (O:Ok C) {call:fL} (CO:mE C h0 call) (R:Rel C h0 ρ s.σ h) (er:ER ρ e e') {t:TypeId} {c:Call} {v:ZB} (hx:Kr C call e s t c=some (v,s1)) (P:oi C h0 ρ s1 v kk L K) (o:Oper) (ho:o.op=.call c) (ht:o.type=t) :
  tQ C.P o e' kk L K h:=by
 unfold Kr at hx;obtain ⟨vs,dU,hx⟩:=WO.1 hx;obtain ⟨vs',g1,g2⟩:=jj R er dU;unfold tQ;rw [ho];simp only;obtain ⟨callee,args,argTypes⟩:=c;simp only at hx g2 ⊢;subst ht;cases callee with
 | builtin b =>
  simp only at hx ⊢;rw [g2];exact FH R g1 hx P
 | value g =>
  cases g with
  | func f =>
   simp only [EG] at hx ⊢;obtain ⟨w,w1,w2,w3⟩:=bH R er (x:=.func f) (v:=.func (.func f) #[] #[]) rfl;rw [w3,g2];cases w1 with
   | func f k1 k2 =>
   cases k1; cases k2;simp only [List.nil_append,List.append_nil];exact Gv O CO R g1 hx P
  | tmp t =>
   simp only [EG] at hx ⊢;obtain ⟨g,hg,hx⟩:=WO.1 hx;obtain ⟨w,w1,w2,w3⟩:=bH R er (x:=.tmp t) hg;rw [w3,g2];exact Jk CO R w1 g1 hx P
  | const _=>cases hx
  | global _=>cases hx
 | invoke _ _=>cases hx
theorem FN (O:Ok C) {call:fL} (CO:mE C h0 call) (R:Rel C h0 ρ s.σ h) (er:ER ρ e e') {o:Oper} {v:ZB} (hx:TI C call o e s=some (v,s1)) (P:oi C h0 ρ s1 v kk L K):tQ C.P o e' kk L K h:=by
 unfold TI at hx;cases hop:o.op <;> simp only [hop] at hx <;> first
  | (cases hx; done)
  | (exact K3 O CO R er hx P o hop rfl)
  | (unfold tQ; simp only [hop])
  | skip
 case move x =>
  obtain ⟨hx1,hs⟩:=dM.1 hx;subst hs;clear hx;have hx:=hx1;obtain ⟨v',g1,_,g2⟩:=bH R er hx;rw [g2]; exact P.here R g1
 case assign x =>
  obtain ⟨hx1,hs⟩:=dM.1 hx;subst hs;clear hx;have hx:=hx1;obtain ⟨v',g1,_,g2⟩:=bH R er hx;rw [g2]; exact P.here R g1
 case pick c a b=>exact N2 R er hx P
 case alloc t =>
  obtain ⟨z,hz,hx⟩:=WO.1 hx;obtain ⟨zv,h1,rfl,h2⟩:=zn hz;simp only [h1];exact CT R (h2 ρ) hx P
 case box t x =>
  obtain ⟨u,hu,hx⟩:=WO.1 (show (jQ C e x).bind _=some (v,s1) from hx);obtain ⟨g,hg,hx⟩:=WO.1 hx;obtain ⟨l,hl,hx3⟩:=WO.1 hx;obtain ⟨u',g1,_,g2⟩:=bH R er hu;rw [g2];obtain ⟨ha,l',hl1,hl2⟩:=tk g1 hl;subst hl2;cases g with
  | true=>simp only [hg,ha,cond_true]; exact CT R hl1 hx3 P
  | false=>simp only [hg,ha,cond_false]; exact CT R hl1 hx3 P
 case build t ps =>
  obtain ⟨vs,dU,hx⟩:=WO.1 (show (yv C e _).bind _=some (v,s1) from hx);obtain ⟨hx1,hs⟩:=dM.1 hx;subst hs;clear hx;have hx:=hx1;obtain ⟨vs',g1,g2⟩:=jj R er dU;rw [g2];obtain ⟨v',g3,g4⟩:=Ja (h:=h) (PR.zip (ps.toList.map (·.1)) g1) hx;exact g4 kk L K (P.here R g3)
 case buildSlice t n ps =>
  obtain ⟨vs,dU,hx⟩:=WO.1 (show (yv C e _).bind _=some (v,s1) from hx);obtain ⟨vs',g1,g2⟩:=jj R er dU;rw [g2];exact QG R (PR.zip (ps.toList.map (·.1)) g1) hx P
 case load t x =>
  obtain ⟨u,hu,hx⟩:=WO.1 (show (jQ C e x).bind _=some (v,s1) from hx);obtain ⟨⟨b,off,l,w⟩,hl,hx⟩:=WO.1 hx;cases hx;obtain ⟨u',g1,_,g2⟩:=bH R er hu;rw [g2];obtain ⟨pl,l',w',k1,k2,k3,k4,k5⟩:=zD R g1 hl;exact k5 (fun _ _ v=>kk v) L K (P.here R k3)
 case store t x y =>
  obtain ⟨p,hp,hx⟩:=WO.1 (show (jQ C e x).bind _=some (v,s1) from hx);obtain ⟨u,hu,hx⟩:=WO.1 hx;obtain ⟨s2,hs,hx⟩:=WO.1 hx;cases hx;obtain ⟨p',g1,_,g2⟩:=bH R er hp;obtain ⟨u',g3,_,g4⟩:=bH R er hu;rw [g2,g4];exact JL R g1 g3 hs fun h1 R1=>P ρ undef h1 (Le.refl _) R1 ob
 case nilCheck x =>
  obtain ⟨u,hu,hx⟩:=WO.1 (show (jQ C e x).bind _=some (v,s1) from hx);obtain ⟨hx1,hs⟩:=dM.1 hx;subst hs;clear hx;have hx:=hx1;obtain ⟨u',g1,_,g2⟩:=bH R er hu;rw [g2];unfold notNil at hx;split at hx
  ·cases hx;cases g1 with
   | ptr off hb=>exact P.here R (.ptr off hb)
  ·cases hx
 case binOp op t x y yt =>
  obtain ⟨a,ha,hx⟩:=WO.1 (show (jQ C e x).bind _=some (v,s1) from hx);obtain ⟨b,hb,hx⟩:=WO.1 hx;obtain ⟨hx1,hs⟩:=dM.1 hx;subst hs;clear hx;have hx:=hx1;obtain ⟨a',g1,_,g2⟩:=bH R er ha;obtain ⟨b',g3,_,g4⟩:=bH R er hb;rw [g2,g4];obtain ⟨g5,g6⟩:=QJ (h:=h) g1 g3 hx;exact g6 kk L K (P.here R g5)
 case unOp op t x =>
  obtain ⟨a,ha,hx⟩:=WO.1 (show (jQ C e x).bind _=some (v,s1) from hx);obtain ⟨hx1,hs⟩:=dM.1 hx;subst hs;clear hx;have hx:=hx1;obtain ⟨a',g1,_,g2⟩:=bH R er ha;rw [g2];have g5:=(LV (L:=[]) (K:=fun _ _=>True) (h:=h) (kk:=fun _ _ _ _=>True) g1 hx trivial).2;exact (LV g1 hx (P.here R g5)).1
 case convert a d x =>
  obtain ⟨u,hu,hx⟩:=WO.1 (show (jQ C e x).bind _=some (v,s1) from hx);obtain ⟨hx1,hs⟩:=dM.1 hx;subst hs;clear hx;have hx:=hx1;obtain ⟨u',g1,_,g2⟩:=bH R er hu;rw [g2];have g5:=(Fa (L:=[]) (K:=fun _ _=>True) (h:=h) (kk:=fun _ _ _ _=>True) g1 hx trivial).2;exact (Fa g1 hx (P.here R g5)).1
 case makeFunc fn fi ca =>
  cases fn <;> first | (cases hx; done) | skip
  rename_i f;obtain ⟨a,ha,hx⟩:=WO.1 (show (yv C e fi.toList).bind _=some (v,s1) from hx);obtain ⟨c,hc,hx⟩:=WO.1 hx;cases hx;obtain ⟨a',g1,g2⟩:=jj R er ha;obtain ⟨c',g3,g4⟩:=jj R er hc;rw [g2,g4];exact P.here R (.func f g1 g3)
 case makeMap t r =>
  cases r with
  | some _=>cases hx
  | none=>exact J6 R hx P
 case makeSlice t l c =>
  obtain ⟨a,ha,hx⟩:=WO.1 (show (jQ C e l).bind _=some (v,s1) from hx);obtain ⟨b,hb,hx⟩:=WO.1 hx;obtain ⟨a',g1,_,g2⟩:=bH R er ha;obtain ⟨b',g3,_,g4⟩:=bH R er hb;rw [g2,g4];exact DY R g1 g3 hx P
 case lookup t m x ok =>
  obtain ⟨a,ha,hx⟩:=WO.1 (show (jQ C e m).bind _=some (v,s1) from hx);obtain ⟨b,hb,hx⟩:=WO.1 hx;obtain ⟨hx1,hs⟩:=dM.1 hx;subst hs;clear hx;have hx:=hx1;obtain ⟨a',g1,_,g2⟩:=bH R er ha;obtain ⟨b',g3,_,g4⟩:=bH R er hb;rw [g2,g4];obtain ⟨v',g5,g6⟩:=MS O R g1 g3 hx;exact g6 kk L K (P.here R g5)
 case mapUpdate t m x y =>
  obtain ⟨a,ha,hx⟩:=WO.1 (show (jQ C e m).bind _=some (v,s1) from hx);obtain ⟨b,hb,hx⟩:=WO.1 hx;obtain ⟨c,hc,hx⟩:=WO.1 hx;obtain ⟨s2,hs,hx⟩:=WO.1 hx;cases hx;obtain ⟨a',g1,_,g2⟩:=bH R er ha;obtain ⟨b',g3,_,g4⟩:=bH R er hb;obtain ⟨c',g5,_,g6⟩:=bH R er hc;rw [g2,g4,g6];exact P4 O R g1 g3 g5 hs fun h1 R1=>P ρ undef h1 (Le.refl _) R1 ob
 case slice t x lo hi mx =>
  obtain ⟨a,ha,hx⟩:=WO.1 (show (jQ C e x).bind _=some (v,s1) from hx);obtain ⟨vs,dU,hx⟩:=WO.1 hx;obtain ⟨hx1,hs⟩:=dM.1 hx;subst hs;clear hx;have hx:=hx1;obtain ⟨a',g1,_,g2⟩:=bH R er ha;obtain ⟨vs',g3,g4⟩:=jj R er dU;rw [g2,g4];obtain ⟨v',g5,g6⟩:=Sl (h:=h) g1 g3 hx;exact g6 kk L K (P.here R g5)
 case fieldAddr t x f =>
  obtain ⟨a,ha,hx⟩:=WO.1 (show (jQ C e x).bind _=some (v,s1) from hx);obtain ⟨hx1,hs⟩:=dM.1 hx;subst hs;clear hx;have hx:=hx1;obtain ⟨a',g1,_,g2⟩:=bH R er ha;rw [g2];obtain ⟨v',g5,g6⟩:=G1 (h:=h) g1 hx;exact g6 kk L K (P.here R g5)
 case field t x f =>
  obtain ⟨a,ha,hx⟩:=WO.1 (show (jQ C e x).bind _=some (v,s1) from hx);obtain ⟨cs,hcs,hx⟩:=WO.1 hx;obtain ⟨fd,hfd,hx⟩:=WO.1 hx;obtain ⟨hx9,hs⟩:=dM.1 hx;subst hs;obtain ⟨a',g1,_,g2⟩:=bH R er ha;rw [g2]
  have:=uf.1 hcs
  subst this;have hx:=hx9;obtain ⟨fs,hd,hf⟩:=ME hfd;cases g1 with
  | agg hl =>
  obtain ⟨v',g5,g6⟩:=N7 (h:=h) hl hx;simp only [hd,hf];exact g6 kk L K (P.here R g5)
 case indexAddr t x i =>
  obtain ⟨a,ha,hx⟩:=WO.1 (show (jQ C e x).bind _=some (v,s1) from hx);obtain ⟨b,hb,hx⟩:=WO.1 hx;obtain ⟨hx1,hs⟩:=dM.1 hx;subst hs;clear hx;have hx:=hx1;obtain ⟨a',g1,_,g2⟩:=bH R er ha;obtain ⟨b',g3,_,g4⟩:=bH R er hb;rw [g2,g4];obtain ⟨v',g5,g6⟩:=KC (h:=h) g1 g3 hx;exact g6 kk L K (P.here R g5)
 case index t x i =>
  obtain ⟨a,ha,hx⟩:=WO.1 (show (jQ C e x).bind _=some (v,s1) from hx);obtain ⟨b,hb,hx⟩:=WO.1 hx;obtain ⟨hx1,hs⟩:=dM.1 hx;subst hs;clear hx;have hx:=hx1;obtain ⟨a',g1,_,g2⟩:=bH R er ha;obtain ⟨b',g3,_,g4⟩:=bH R er hb;rw [g2,g4];obtain ⟨g5,g6⟩:=QH (h:=h) g1 g3 hx;exact g6 kk L K (P.here R g5)
 case extract x i =>
  obtain ⟨a,ha,hx⟩:=WO.1 (show (jQ C e x).bind _=some (v,s1) from hx);obtain ⟨vs,dU,hx⟩:=WO.1 hx;obtain ⟨hx9,hs⟩:=dM.1 hx;subst hs;obtain ⟨a',g1,_,g2⟩:=bH R er ha;rw [g2]
  have:=D7.1 dU
  subst this;have hx:=hx9;cases g1 with
  | tuple hl =>
  obtain ⟨v',g5,g6⟩:=hl.get hx;simp only [g5];exact P.here R g6
end
end Go.Sx.Cr
