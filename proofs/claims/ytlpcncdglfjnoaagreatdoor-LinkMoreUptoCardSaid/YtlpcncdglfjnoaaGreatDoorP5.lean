/- Contracts over heaps, and plain laws, for the functions that the laws of chapter 9 call, part 5: Where spandrelref12.Link finds the unit and the name of an equ that comes back t Condition: as each statement says. -/
import Derived.Test.YtlpcncdglfjnoaaGreatDoorP4
import Derived.Test.YtlpcncdglfjnoaaGreatDoorBtL
import Derived.Test.YtlpcncdglfjnoaaGreatDoorSxZa
import Derived.RangeFuncNested
import Derived.RangeFuncBound
import Derived.RangeFuncCalls
import Derived.RangeFuncLeaves
import Derived.Shelf.Abstract
import Derived.Shelf.RegionOpen
import Derived.OwnWalkIn
import Derived.TacticsInMore
import Derived.LoopNIn
import Derived.LoopIn
set_option linter.all false
set_option maxRecDepth 100000
set_option maxHeartbeats 4000000
namespace Go.Sx.Lk
open Go.Proofs Go.Sx.Ob
def pR (us:List bJ):List Nat:=us.flatMap fun u=>List.range u.aY.length
theorem qE:∀ (us:List bJ) (n:Nat),(dX n us).length=(pR us).length
 | [],n=>rfl
 | u::us,n=>by
  unfold pR;rw [dX,XH,WU,WU,WQ,Yh,qE us (n+1)] <;> rfl
def Lw (lv:Nat) (pp00:Option ZC) (ll00:Nat) (a1:ZC) (p12:Option ZC) (l13:Nat) (n19:Int):T :=
   T.loop [aM,aM] [.int .i64 (0:Int),.int .i64 n19] <| fun (n21:Int) (n22:Int) =>
   T.need (((0:Int)<=n21)/\(n21<(ll00:Int))) <|
   T.bk pp00 <| fun (a23:ZC) =>
   T.ah ((a23.add (aK n21 4)).add 2) [.slice 88] <| fun (p24:Option ZC) (l25:Nat) (l26:Nat) =>
   cond (decide (n22>=(l25:Int)))
   (T.need (((0:Int)<=n21)/\(n21<(ll00:Int))) <|
   T.bk pp00 <| fun (a27:ZC) =>
   T.ah ((a27.add (aK n21 4)).add 2) [.slice 88] <| fun (p28:Option ZC) (l29:Nat) (l30:Nat) =>
   T.again lv [.int .i64 (bi (n21+(1:Int))),.int .i64 (bi (n22-(l29:Int)))])
   (T.need (((0:Int)<=n21)/\(n21<(ll00:Int))) <|
   T.bk pp00 <| fun (a27:ZC) =>
   T.ah ((a27.add (aK n21 4)).add 2) [.slice 88] <| fun (p28:Option ZC) (l29:Nat) (l30:Nat) =>
   T.need (((0:Int)<=n19)/\(n19<(l13:Int))) <|
   T.bk p12 <| fun (a31:ZC) =>
   T.ah (a31.add (aK n19 1)) [.int .i64] <| fun (n32:Int) =>
   T.need (((0:Int)<=n32)/\(n32<(l29:Int))) <|
   T.bk p28 <| fun (a33:ZC) =>
   T.ah (a33.add (aK n32 3)) [.string] <| fun (s34:ZA) =>
   T.bf [((a33.add (aK n32 3)),[.string s34]),((a31.add (aK n19 1)),[.int .i64 n32]),(((a27.add (aK n21 4)).add 2),[.slice p28 l29 l30])] <|
   T.aC a1 [.int .i64 (24:Int),.int .i64 n21,.string s34] <|
   T.ah a1 [.int .i64,.int .i64,.string] <| fun (n35:Int) (n36:Int) (s37:ZA) =>
   T.ret (.tuple #[.pointer none,.agg #[.int .i64 n35,.int .i64 n36,.string s37]]))
theorem P6 {L:Lp} {K:ZB->Hp->Prop} {h0 h:Hp} {ga lv b:Nat} {p:Option ZC} {l:Nat} {us:List bJ} {x y:Int} {z:ZA} {p12:Option ZC} {l13 c13:Nat} {i0:Nat} {q:Nat × qi} (hlv:lv=L.length) (h0g:h0.size<=ga) (e0:Ext h0 h) (b1:bz h ga 54 [.int .i64 x,.int .i64 y,.string z]) (v:uz h p l us) (hmany:us.length<=2^20)
  (k12:SL h b 3 1 p12 l13 c13 ((pR us).map Kf)) (hle:(dX 0 us).length<=2^40) (hq:(dX 0 us)[i0]?=some q) (hk:∀ h',Ext h0 h'->K (.tuple #[.pointer none,Oj ⟨24,q.1,q.2.1⟩]) h'):Lw lv p l ⟨ga,0,none⟩ p12 l13 i0 L K h:=by
 subst hlv;unfold Lw aK bi aM;have hll:=v.len;have hi0:i0<(dX 0 us).length:=(W6.1 hq).1;have hkl:=qE us 0;refine aR (cs:=[(false,[.int .i64]),(false,[.int .i64])]) (fun y k h'=>∃ (u r:Nat),y.1=(u:Int)/\y.2.1=(r:Int)/\k=us.length-u/\h'=h/\u<=us.length/\(dX u (us.drop u))[r]?=some q/\(pR (us.drop u))[r]?=(pR us)[i0]?/\r<=i0) ((0:Int),(i0:Int),()) us.length rfl
  ⟨0,i0,rfl,rfl,rfl,rfl,ad,hq,rfl,W9 _⟩ ?_
 rintro ⟨n21,n22,⟨⟩⟩ k h' ⟨u,r,hu,hr,rfl,rfl,hul,hqr,hkr,hri⟩;simp only at hu hr;subst hu hr;refine an ?_;have hult:u<us.length:=by
  by_cases h:u<us.length
  ·exact h
  ·rw [Xz ad] at hqr;simp [dX] at hqr
 rw [W8 hult] at hqr hkr;have hkr:(List.range us[u].aY.length++pR (us.drop (u+1)))[r]?=(pR us)[i0]?:=hkr;have hqr:(us[u].aY.map (fun e=>(u,e))++dX (u+1) (us.drop (u+1)))[r]?=some q:=hqr;obtain ⟨au,sa,sb,sc,sd,rfl,hcu,va⟩:=v.cells u hult;generalize us[u]=w at hkr hqr hcu va;have hlq:=va.aY.len;have hcq:aG h' ((au.add (u*4)).add 2) 0 [.slice sc.p sc.l sc.c]:=⟨by rw [add_add]; exact hcu.2.2.1,trivial⟩
 refine ay ⟨ad,ad⟩ (av rfl ?_);rw [show Int.toNat (u:Int)=u from ad];refine az ((sc.p,sc.l,sc.c),()) hcq ?_;refine an ?_;refine ak (fun g=>?_) (fun g=>?_)
 ·have g:=WR g;have hge:w.aY.length<=r:=ad
  refine ay ⟨ad,ad⟩ (av rfl ?_);refine az ((sc.p,sc.l,sc.c),()) hcq ?_;refine an ?_;have hw1:IntKind.wrap .i64 ((u:Int)+1)=((u+1:Nat):Int):=by rw [wrap_i64 ad ad]; omega
  have hw2:IntKind.wrap .i64 ((r:Int)-(sc.l:Int))=((r-w.aY.length:Nat):Int):=by rw [wrap_i64 ad ad]; omega
  rw [Xl (by rw [WQ]; exact hge),WQ] at hqr;rw [Xl (by rw [Yh]; exact hge),Yh] at hkr;exact BF (cs:=[(false,[.int .i64]),(false,[.int .i64])]) (((u+1:Nat):Int),((r-w.aY.length:Nat):Int),()) (us.length-(u+1)) ad (by rw [hw1,hw2]; rfl) ⟨u+1,r-w.aY.length,rfl,rfl,rfl,rfl,ad,hqr,hkr,ad⟩
 ·have g:=WS g;have hlt:r<w.aY.length:=ad
  rw [Xm (by rw [WQ]; exact hlt),XB,WT hlt] at hqr;rw [Xm (by rw [Yh]; exact hlt),X4 hlt] at hkr;have hq':(u,w.aY[r])=q:=Xc hqr;subst hq';refine ay ⟨ad,ad⟩ (av rfl ?_);refine az ((sc.p,sc.l,sc.c),()) hcq ?_;refine an ?_;have hi0k:i0<(pR us).length:=ad
  obtain ⟨a12,ha12,hc12⟩:=SL.cells k12 (i:=i0) (by rw [WQ]; exact hi0k);rw [WY] at hc12;have hgr:(pR us)[i0]=r:=by
   rw [WT hi0k] at hkr;exact (Xc hkr).symm
  rw [hgr] at hc12;have hl13:l13=(pR us).length:=by have:=k12.1; rwa [WQ] at this
  refine ay ⟨ad,ad⟩ (av ha12 ?_);rw [show Int.toNat (i0:Int)=i0 from ad];refine az ((r:Int),()) hc12 ?_;refine an ?_;obtain ⟨aq,pq,mq,cq,haq,hcqr,_,_⟩:=va.aY.cells r hlt;refine ay ⟨ad,ad⟩ (av haq ?_);rw [show Int.toNat (r:Int)=r from ad];refine az (w.aY[r].1,()) ⟨hcqr.1,trivial⟩ ?_;refine an ?_;refine ⟨⟨⟨hcqr.1,trivial⟩,hc12,hcq,trivial⟩,?_⟩;refine aw b1 rfl aj ?_;intro h2 b2 k2 z2;have b2:bz h2 ga 54 [.int .i64 24,.int .i64 (u:Int),.string w.aY[r].1]:=b2;refine af b2 ((24:Int),(u:Int),w.aY[r].1,()) rfl ?_;exact hk h2 (Ch.trans e0 k2 (fun j hj hl=>by simp at hj; omega))
def Q7 (pp00:Option ZC) (ll00:Nat) (a1 a7:ZC):T :=
  T.loop [db,db,aM] [bd,bd,.int .i64 (0:Int)] <| fun (p9:Option ZC) (l10:Nat) (l11:Nat) (p12:Option ZC) (l13:Nat) (l14:Nat) (n15:Int) =>
  bq n15 ll00
  (T.loop [db,db,aM] [.slice p9 l10 l11,.slice p12 l13 l14,.int .i64 (0:Int)] <| fun (p16:Option ZC) (l17:Nat) (l18:Nat) (p19:Option ZC) (l20:Nat) (l21:Nat) (n22:Int) =>
  T.need (((0:Int)<=n15)/\(n15<(ll00:Int))) <|
  T.bk pp00 <| fun (a23:ZC) =>
  T.ah ((a23.add (aK n15 4)).add 2) [.slice 88] <| fun (p24:Option ZC) (l25:Nat) (l26:Nat) =>
  bq n22 l25
   (T.need (((0:Int)<=n15)/\(n15<(ll00:Int))) <|
   T.bk pp00 <| fun (a27:ZC) =>
   T.ah ((a27.add (aK n15 4)).add 2) [.slice 88] <| fun (p28:Option ZC) (l29:Nat) (l30:Nat) =>
   T.need (((0:Int)<=n22)/\(n22<(l29:Int))) <|
   T.bk p28 <| fun (a31:ZC) =>
   T.ah (a31.add (aK n22 3)) [.string,.slice 66,.int .u32] <| fun (Re:ZA) (p33:Option ZC) (l34:Nat) (l35:Nat) (n36:Int) =>
   T.new [bS,bd,.int .u32 (0:Int)] 88 <| fun (a37:ZC) =>
   T.aC a37 [.string Re,.slice p33 l34 l35,.int .u32 n36] <|
   T.ah a37 [.string] <| fun (s38:ZA) =>
   T.ah (a37.add 1) [.slice 66,.int .u32] <| fun (p39:Option ZC) (l40:Nat) (l41:Nat) (n42:Int) =>
   bG 62 [.pointer (some a7),.int .i64 n15,.string s38] false [(false,[.string])] <| fun (s43:ZA) =>
   T.bf [((a37.add 1),[.slice p39 l40 l41,.int .u32 n42])] <|
   bG 63 [.pointer (some a7),.int .i64 n15,.agg #[.slice p39 l40 l41,.int .u32 n42]] false [(true,[.slice 66,.int .u32])] <| fun (p44:Option ZC) (l45:Nat) (l46:Nat) (n47:Int) =>
   T.bf [(a37,[.string s38])] <|
   bK (Instr.buildSlice 27 1 #[(0,.agg #[.string s43,.slice p44 l45 l46,.int .u32 n47])]) false [db] <| fun (p48:Option ZC) (l49:Nat) (l50:Nat) =>
   T.bf [((a37.add 1),[.slice p39 l40 l41,.int .u32 n42]),(a37,[.string s38])] <|
   bK (Builtin.append_ #[27,27] 27 #[.slice p16 l17 l18,.slice p48 l49 l50]) false [db] <| fun (p51:Option ZC) (l52:Nat) (l53:Nat) =>
   T.bf [((a37.add 1),[.slice p39 l40 l41,.int .u32 n42]),(a37,[.string s38])] <|
   bK (Instr.buildSlice 126 1 #[(0,.int .i64 n22)]) false [db] <| fun (p54:Option ZC) (l55:Nat) (l56:Nat) =>
   bK (Builtin.append_ #[126,126] 126 #[.slice p19 l20 l21,.slice p54 l55 l56]) false [db] <| fun (p57:Option ZC) (l58:Nat) (l59:Nat) =>
   T.again 2 [.slice p51 l52 l53,.slice p57 l58 l59,.int .i64 (bi (n22+(1:Int)))])
   (T.again 1 [.slice p16 l17 l18,.slice p19 l20 l21,.int .i64 (bi (n15+(1:Int)))]))
  (bG 64 [.slice p9 l10 l11] true [(false,[.slice 88]),aM,aM] <| fun (p16:Option ZC) (l17:Nat) (l18:Nat) (n19:Int) (n20:Int) =>
  cond (n20 != (0:Int)) (Lw 2 pp00 ll00 a1 p12 l13 n19) (KA 2 pp00 ll00 a1 a7 p16 l17 l18))
structure UG (h:Hp) (b:Nat) (p:Option ZC) (l c:Nat) (q:Option ZC) (m d:Nat) (ms:List cE) (ks:List Nat):Prop where
 out:SL h b 88 3 p l c (ms.map zi)
 num:SL h b 3 1 q m d (ks.map Kf)
 fe:∀ e,e∈ms->SL h b 66 2 e.p e.l e.c (e.x.ai.map cR)
theorem UG.ext {h h':Hp} {b:Nat} {p:Option ZC} {l c:Nat} {q:Option ZC} {m d:Nat} {ms:List cE} {ks:List Nat} (s:UG h b p l c q m d ms ks) (e:Ext h h'):UG h' b p l c q m d ms ks :=
 ⟨s.out.bF e aj,s.num.bF e aj,fun x hx=>(s.fe x hx).bF e aj⟩
def dR (us:List bJ) (L:List Lb) (l:List bJ):List (ZA × bX):=(dX 0 l).map fun q=>(df us L q.1 q.2.1,fV us L q.1 q.2.2)
theorem Jq (l:List bJ) (u:bJ):pR (l++[u])=pR l++List.range u.aY.length:=by
 unfold pR;rw [Yc]
 simp
theorem Qn (us:List bJ) (L:List Lb) (l:List bJ) (u:bJ):dR us L (l++[u])=dR us L l++u.aY.map fun e=>(df us L l.length e.1,fV us L l.length e.2):=by
 unfold dR;rw [oa,W5,Xf];simp only [Nat.zero_add] <;> rfl
def Wn (us:List bJ) (n:Nat) (u:bJ):Prop:=∀ e,e∈u.aY->Kq us n e.2/\(∃ o,fU us n e.1=some o)/\e.1.size<=2^60
theorem nj (n:Nat):lW n=fI n:=vV n
theorem DI (n:Nat):∀ c,c∈Lib.decDigits n->c≠95:=by
 intro c hc e;rw [Lib.decDigits_eq] at hc;obtain ⟨t,_,rfl⟩:=WX.1 hc;unfold Lib.dg at e;have h1:=Xa UInt8.toNat e;have h2:(UInt8.ofNat (48+n / 10^(Lib.nDigits n-1-t) % 10)).toNat=48+n / 10^(Lib.nDigits n-1-t) % 10:=by
  rw [UInt8.toNat_ofNat'];omega
 rw [h2] at h1;have h3:(95:UInt8).toNat=95:=rfl;omega
theorem Q0:∀ {a b:List UInt8} {s t:List UInt8},(∀ c,c∈a->c≠95)->(∀ c,c∈b->c≠95)->a++95::s=b++95::t->a=b/\s=t
 | [],[],s,t,_,_,h=>by simpa using h
 | [],c::b,s,t,_,hb,h=>by
  simp only [List.nil_append,List.cons_append,List.cons.injEq] at h;exact absurd h.1.symm (hb c aj)
 | c::a,[],s,t,ha,_,h=>by
  simp only [List.nil_append,List.cons_append,List.cons.injEq] at h;exact absurd h.1 (ha c aj)
 | c::a,d::b,s,t,ha,hb,h=>by
  simp only [List.cons_append,List.cons.injEq] at h;obtain ⟨h1,h2⟩:=Q0 (fun x hx=>ha x (Xb _ hx)) (fun x hx=>hb x (Xb _ hx)) h.2;exact ⟨by rw [h.1,h1],h2⟩
theorem C9 (L:List Lb) (o:Nat) (s:ZA):Oh L o s=mM (L.map ya) (o,s):=by
 unfold Oh mM;rw [YI]
 congr 1
 funext x
 show _=decide (ya x=(o,s));unfold ya;rw [Bool.eq_iff_iff]
 simp
def Oo (L:List Lb) (k:Ky):ZA:=rf L k.1 k.2
theorem OD {L:List Lb} {k k':Ky} (h:Oo L k=Oo L k'):k=k':=by
 have hne:∀ a b:ZA,(⟨#[76]⟩:ZA)++a≠(⟨#[69]⟩:ZA)++b:=by
  intro a b e;have h1:=Xa (fun b:ZA=>b.data.toList) e;simp only [eh] at h1;simp at h1
 have has:∀ a b c:ZA,((⟨#[69]⟩++a)++⟨#[95]⟩)++b=(⟨#[69]⟩:ZA)++(a++(⟨#[95]⟩++b)):=by
  intro a b c;simp only [ByteArray.append_assoc]
 obtain ⟨o,s⟩:=k;obtain ⟨o',s'⟩:=k';unfold Oo rf at h;rw [C9,C9] at h;cases h1:mM (L.map ya) (o,s) with
 | some i =>
  cases h2:mM (L.map ya) (o',s') with
  | some j =>
   rw [h1,h2] at h;have h:(⟨#[76]⟩:ZA)++fI i=⟨#[76]⟩++fI j:=h;rw [<- nj,<- nj] at h
   have:=rz (ug h)
   subst this;obtain ⟨a,ha⟩:=jl h1;obtain ⟨b,hb⟩:=jl h2;rw [<- ha,<- hb]
  | none =>
   rw [h1,h2] at h;have h:(⟨#[76]⟩:ZA)++fI i=((⟨#[69]⟩++fI o')++⟨#[95]⟩)++s':=h;rw [has _ _ ⟨#[]⟩] at h;exact absurd h (hne _ _)
 | none =>
  cases h2:mM (L.map ya) (o',s') with
  | some j =>
   rw [h1,h2] at h;have h:((⟨#[69]⟩++fI o)++⟨#[95]⟩)++s=(⟨#[76]⟩:ZA)++fI j:=h;rw [has _ _ ⟨#[]⟩] at h;exact absurd h.symm (hne _ _)
  | none =>
   rw [h1,h2] at h;have h:((⟨#[69]⟩++fI o)++⟨#[95]⟩)++s=((⟨#[69]⟩++fI o')++⟨#[95]⟩)++s':=h;rw [has _ _ ⟨#[]⟩,has _ _ ⟨#[]⟩] at h;have h:=ug h;have h3:=Xa (fun b:ZA=>b.data.toList) h;simp only [eh] at h3;have h4:Lib.decDigits o++95::s.data.toList=Lib.decDigits o'++95::s'.data.toList:=by
    have e:∀ n:Nat,(fI n).data.toList=Lib.decDigits n:=fun n=>by unfold fI; simp
    rw [e,e] at h3;simpa using h3
   obtain ⟨h5,h6⟩:=Q0 (DI o) (DI o') h4;have h7:o=o':=by
    apply rz;rw [nj,nj];unfold fI;rw [h5]
   subst h7
   congr 1
   cases s; cases s';simp only at h6
   congr 1
   exact Array.ext' h6
structure rh (us:List bJ) (w:LW):Prop where
 right:∀ u,u∈us->dC u=0
 wi:WI w (bC 0 us) ((dX 0 us).map jI)
 gl:∀ s,w.gl s=Pt us s
def T2 (us:List bJ) (k:Ky):Prop:=k∈(bC 0 us).map ya\/k∈(dX 0 us).map jI
theorem LO {us:List bJ} {n:Nat} {u:bJ} (hu:us[n]?=some u) {s:ZA} (hs:s∈ek u):T2 us (n,s):=by
 unfold ek at hs;rw [Xj,Xj] at hs;rcases hs with hs | hs
 ·exact .inl ((wC s n us 0).2 ⟨u,YK _,by rw [YW]; exact hu,hs⟩)
 ·exact .inr ((zu s n us 0).2 ⟨u,YK _,by rw [YW]; exact hu,hs⟩)
theorem Dv {u:bJ} (h:dC u=0):∀ x,x∈u.aP->x∈ek u:=by
 have h1:=(vW h).2;rw [wg] at h1;unfold wQ at h1;simp only [Bool.and_eq_true,decide_eq_true_eq] at h1;exact fun x hx=>((qu _ _ _ h1.2.2.2.2).1 x hx).1
theorem u7 {l:List ZA} {s:ZA}:fz l s=true↔s∈l:=by
 unfold fz;rw [YB];constructor
 ·rintro ⟨x,hx,he⟩;rw [<- WR he]; exact hx
 ·intro h;exact ⟨s,h,W1 rfl⟩
theorem H9 {us:List bJ} (hr:∀ u,u∈us->dC u=0) {n o:Nat} {s:ZA} (h:fU us n s=some o):T2 us (o,s):=by
 unfold fU at h;split at h
 ·rename_i hh;cases h;cases hu:us[n]? with
  | none=>rw [hu] at hh; cases hh
  | some u =>
   rw [hu] at hh;exact LO hu (u7.1 (Xc hh))
 ·rw [Xd] at h;obtain ⟨ho,h1,_⟩:=h;exact LO (WT ho) (Dv (hr _ (WZ ho)) s (u7.1 h1))
theorem xd {us:List bJ} {n:Nat} {u:bJ} (hu:us[n]?=some u) {s:ZA} (hs:s∈ek u):fU us n s=some n:=by
 unfold fU;rw [hu,YQ,W2 (by rw [u7.2 hs])]
theorem L4 {us:List bJ} {w:LW} (i0:WI w (bC 0 us) ((dX 0 us).map jI)) {k:Ky} (hk:T2 us k) (hn:k∉(dX 0 us).map jI):w.word k=Oo (bC 0 us) k:=by
 have hk:k∈(bC 0 us).map ya:=hk.elim id fun h=>absurd h hn
 obtain ⟨i,hi⟩:=zx hk;unfold LW.word Oo rf;rw [C9,i0.num];show (match mM ((bC 0 us).map ya) k with | some n=>(⟨#[76]⟩:ZA)++lW n | none=>_)=match mM ((bC 0 us).map ya) (k.1,k.2) with | some i=>(⟨#[76]⟩:ZA)++fI i | none=>_
 rw [hi];show (⟨#[76]⟩:ZA)++lW i=⟨#[76]⟩++fI i;rw [nj]
theorem TV (f:ZA->Nat) (s:ZA):jc f (kU s)=f s % 4294967296:=by
 unfold jc kU;show (0+(1*f s+0)) % 4294967296=_
 congr 1
 omega
theorem rh.own {us:List bJ} {w:LW} (A:rh us w) {n:Nat} (hn:n<us.length) (s:ZA):w.own n s=(fU us n s).map fun o=>(o,s):=Mv A.wi A.gl hn s
theorem rh.rel {us:List bJ} {w:LW} (A:rh us w) {n:Nat} (hn:n<us.length) {x:bX} (hb:w.bad n x=none):xV (T2 us) w.word (Oo (bC 0 us)) (w.lin n x) (fV us (bC 0 us) n x):=by
 intro f g hfg;unfold LW.lin fV;rw [fp,fp];refine oB fun t ht=>?_
 obtain ⟨k,hk⟩:=Ab hb t ht;rw [A.own hn] at hk;obtain ⟨o,ho,rfl⟩:=YE.1 hk;have hky:=H9 A.right ho;unfold Gf r7 df;simp only [A.own hn,ho,Option.map_some,Option.getD_some];rw [TV,TV,hfg _ hky] <;> rfl
theorem yi {us:List bJ} {q:Nat × qi} (hq:q∈dX 0 us):∃ u,us[q.1]?=some u/\q.2∈u.aY:=by
 obtain ⟨i,hi,h1,h2⟩:=vJ us 0 q hq;rw [Xq] at h1;exact ⟨us[i],by rw [h1]; exact WT hi,h2⟩
theorem rh.two {us:List bJ} {w:LW} (A:rh us w) (hb:fv w 0 us=none):uK (dX 0 us) jI (T2 us) w.word (Oo (bC 0 us)) (fun q=>w.lin q.1 q.2.2) fun q=>fV us (bC 0 us) q.1 q.2.2 where
 nd:=wv us 0 fun u hu=>by
  have:=wW (A.right u hu)
  unfold ek at this;rw [X6] at this;exact this.2.1
 Ou:=fun q hq=>.inr (W7 hq)
 ia:=fun k k' hk hk' h=>word_inj A.wi hk hk' h
 ib:=fun k k' _ _ h=>OD h
 Hv:=fun k hk hn=>L4 A.wi hk hn
 rel:=fun q hq=>by
  obtain ⟨u,hu,_⟩:=yi hq;exact A.rel (W6.1 hu).1 (CA hb hq)
 fa:=fun q _=>eF _ _
 fb:=fun q _=>eF _ _
theorem M0 (w:LW) (us:List bJ):uu w us=wD (dX 0 us) jI w.word fun q=>w.lin q.1 q.2.2:=rfl
theorem L8 (us:List bJ):dR us (bC 0 us) us=wD (dX 0 us) jI (Oo (bC 0 us)) fun q=>fV us (bC 0 us) q.1 q.2.2:=by
 unfold dR wD;refine XC fun q hq=>?_
 obtain ⟨u,hu,he⟩:=yi hq
 have:fU us q.1 q.2.1=some q.1:=xd hu (by
  unfold ek;exact Xr _ (W7 he))
 unfold df;rw [this] <;> rfl
theorem rh.UY {us:List bJ} {w:LW} (A:rh us w) (hb:fv w 0 us=none):mu (uu w us)=dr (eE (dR us (bC 0 us) us)):=by
 rw [M0,L8];exact (A.two hb).UY
theorem rh.put {us:List bJ} {w:LW} (A:rh us w) (hb:fv w 0 us=none) (hc:mu (uu w us)=none) {n:Nat} (hn:n<us.length) {x:bX} (hbx:w.bad n x=none) (hx:x.num<4294967296) {ms:List cE} (hm:ms.map eU=(dR us (bC 0 us) us).map fun y=>(y.1,eC (eE (dR us (bC 0 us) us)) y.1)) :
  uY (lL (uu w us)) (w.lin n x)=cV (cj ms) (fV us (bC 0 us) n x):=by
 have h1:cj ms=cj (eE (lL (dR us (bC 0 us) us))):=EO (by rw [mf,hm]; rfl);rw [h1];show _=uY (lL (dR us (bC 0 us) us)) _;rw [L8];rw [M0] at hc ⊢;exact (A.two hb).same hc (A.rel hn hbx) (kE hx) (kE hx)
theorem Fv {es fs:List cE} (h:es.map eU=fs.map eU):dr es=dr fs:=by
 unfold dr;have hf:∀ (gs:List cE),(gs.findIdx? fun e=>@decide (jT (da gs) e.name) (Classical.propDecidable _))=(gs.map eU).findIdx? fun q=>@decide (jT (da gs) q.1) (Classical.propDecidable _):=by
  intro gs;rw [YI] <;> rfl
 rw [hf,hf,h,zI h]
theorem QD {J0:List ZB->Hp->Prop} {K:ZB->Hp->Prop} {h0 h:Hp} {ga g:Nat} {su lb:cn} {LB:List Lb} {us:List bJ} {a b:Int} {z:ZA} {S:List ZA} (hga:ga<g) (h0g:h0.size<=ga) (e0:Ext h0 h) (b1:bz h ga 54 [.int .i64 a,.int .i64 b,.string z])
  (pr:Di h g su lb lO lO LB) (v:uz h0 su.p su.l us) (sz:J2 us) (hL:LB.length<=2^40) (hE:∀ n u,us[n]?=some u->Wn us n u) (hW:∀ n u,us[n]?=some u->R6 us LB S n u) (hnd:((dR us LB us).map (·.1)).Nodup) (hlen:(dX 0 us).length<=2^20) (hS:S.length<=2^30)
  (hSd:∀ y,y∈dR us LB us->∀ t,t∈y.2.ai->t.1∈S)
  (hk1:∀ h' i q,dr (eE (dR us LB us))=some i->(dX 0 us)[i]?=some q->Ext h0 h'->K (.tuple #[.pointer none,Oj ⟨24,q.1,q.2.1⟩]) h')
  (hk0:∀ h' b' st sd tw dw ms,dr (eE (dR us LB us))=none->ms.map eU=(dR us LB us).map (fun y=>(y.1,eC (eE (dR us LB us)) y.1))->Ext h0 h'->Di h' g su lb st sd LB->uR h' b' st tw->uR h' b' sd dw->yc us LB ms (·.text) us.length tw->yc us LB ms (·.data) us.length dw->K (.tuple #[.pointer (some ⟨g,0,none⟩),Oj ⟨0,0,dt⟩]) h') :
  Q7 su.p su.l ⟨ga,0,none⟩ ⟨g,0,none⟩ [J0] K h:=by
 unfold Q7 bq aK bG bK bi bd bS aM db;have hll:=v.len;have hmany:=sz.many;have hgs:=pr.box.lt;have hz0:=e0.size;refine aR (cs:=[(false,[.slice 0]),(false,[.slice 0]),(false,[.int .i64])]) (fun y k h'=>∃ (i:Nat) (ms:List cE) (ks:List Nat),y.2.2.1=(i:Int)/\k=us.length-i/\i<=us.length/\Ext h h'/\UG h' h.size y.1.1 y.1.2.1 y.1.2.2 y.2.1.1 y.2.1.2.1 y.2.1.2.2 ms ks/\ms.map eU=dR us LB (us.take i)/\ks=pR (us.take i))
  ((none,0,0),(none,0,0),(0:Int),()) us.length rfl ⟨0,[],[],rfl,rfl,ad,Ch.refl _ _,⟨SL.nil _ _ _ _,SL.nil _ _ _ _,aj⟩,rfl,rfl⟩ ?_
 rintro ⟨⟨p9,l10,l11⟩,⟨p12,l13,l14⟩,n15,⟨⟩⟩ k h1 ⟨i,ms,ks,hi,rfl,hle,e1,o1,hms,rfl⟩;simp only at hi o1;subst hi;refine an ?_;refine ak (fun q=>?_) (fun q=>?_)
 ·have q:=WR q;have hil:i<us.length:=ad
  have hug:us[i]?=some us[i]:=WT hil;have htk:us.take (i+1)=us.take i++[us[i]]:=WW hil;have hti:(us.take i).length=i:=by rw [Xe]; omega
  have hwt:IntKind.wrap .i64 ((i:Int)+1)=((i+1:Nat):Int):=by rw [wrap_i64 ad ad]; omega
  obtain ⟨au,sa,sb,sc,sd,hau,hcu,va⟩:=v.cells i hil;have hum:=WZ hil;generalize us[i]=u at hug htk hcu va hum;have ew:=hE i u hug;have hlq:=va.aY.len;have hue:=sz.aY u hum;refine aR (cs:=[(false,[.slice 0]),(false,[.slice 0]),(false,[.int .i64])]) (fun y k h'=>∃ (j:Nat) (ms:List cE) (ks:List Nat),y.2.2.1=(j:Int)/\k=u.aY.length-j/\j<=u.aY.length/\Ext h h'/\UG h' h.size y.1.1 y.1.2.1 y.1.2.2 y.2.1.1 y.2.1.2.1 y.2.1.2.2 ms ks /\
   ms.map eU=dR us LB (us.take i)++(u.aY.take j).map (fun e=>(df us LB i e.1,fV us LB i e.2))/\ks=pR (us.take i)++List.range j) ((p9,l10,l11),(p12,l13,l14),(0:Int),()) u.aY.length rfl ⟨0,ms,_,rfl,rfl,ad,e1,o1,by simpa using hms,aj⟩ ?_
  rintro ⟨⟨p16,l17,l18⟩,⟨p19,l20,l21⟩,n22,⟨⟩⟩ k h2 ⟨j,ms2,ks2,hj,rfl,hlj,e2,o2,hms2,rfl⟩;simp only at hj o2;subst hj;refine an ?_;have e02:=e0.trans e2;have z2:=e2.size;have hwj:IntKind.wrap .i64 ((j:Int)+1)=((j+1:Nat):Int):=by rw [wrap_i64 ad ad]; omega
  have hcq:aG h2 ((au.add (i*4)).add 2) 0 [.slice sc.p sc.l sc.c]:=⟨by rw [add_add]; exact (aT e02 aj _ _ hcu).2.2.1,trivial⟩
  have hkl:=qE (us.take i) 0;have hsum1:(dX 0 (us.take i)).length<=(dX 0 us).length:=by
   have:=oa
   rw [qE,qE];unfold pR
   conv=>rhs; rw [<- Xw i us]
   rw [Yc,WU];omega
  refine ay ⟨ad,ad⟩ (av hau ?_);rw [show Int.toNat (i:Int)=i from ad];refine az ((sc.p,sc.l,sc.c),()) hcq ?_;refine an ?_;refine ak (fun r=>?_) (fun r=>?_)
  ·have r:=WR r;have hjl:j<u.aY.length:=ad
   have htj:u.aY.take (j+1)=u.aY.take j++[u.aY[j]]:=WW hjl;refine ay ⟨ad,ad⟩ (av hau ?_);refine az ((sc.p,sc.l,sc.c),()) hcq ?_;refine an ?_;obtain ⟨aq,pq,mq,cq,haq,hce,hlin,_⟩:=(va.aY.ao e02).cells j hjl;have hem:=WZ hjl;generalize u.aY[j]=e at htj hce hlin hem;obtain ⟨hsw,⟨o,hoo⟩,hsn⟩:=ew e hem;refine ay ⟨ad,ad⟩ (av haq ?_);rw [show Int.toNat (j:Int)=j from ad];refine az (e.1,(pq,mq,cq),(e.2.num:Int),()) hce ?_;refine an ?_;refine bm ?_;intro h3 b3 e3 z3;refine aw b3 rfl aj ?_;intro h4 b4 k4 z4;have b4:bz h4 h2.size 88 [.string e.1,.slice pq mq cq,.int .u32 (e.2.num:Int)]:=b4;have e24:Ext h2 h4:=Ch.trans e3 k4 (fun q hq hl=>by simp at hq; omega);refine af b4 (e.1,()) rfl ?_;refine an ?_;rw [aE];refine af b4 ((pq,mq,cq),(e.2.num:Int),()) rfl ?_;refine an ?_;have e04:=e02.trans e24;have prk:∀ {h':Hp},Ext h h'->Di h' g su lb lO lO LB:=fun e=>pr.ao e
   refine aH (Ih (prk (e2.trans e24)) (v.ao e04) sz hil hL hoo hsn) ?_;rintro _ h5 ⟨rfl,e5⟩;refine ⟨(df us LB i e.1,()),rfl,?_⟩;refine an ?_;have b45:=b4.ao e5 aj;refine ⟨⟨b45.cells _ rfl,trivial⟩,?_⟩;have e25:=e24.trans e5;refine aH (Dt (d:=cq) (prk (e2.trans e25)) (v.ao (e02.trans e25)) sz hil hL (hlin.vw.ao e25 aj) hsw.nf hsw.num hsw.len hsw.own hsw.sz) ?_;rintro _ h6 ⟨e6,p6,l6,c6,rfl,s6⟩;refine ⟨((p6,l6,c6),((fV us LB i e.2).num:Int),()),rfl,?_⟩;refine an ?_;have b46:=b45.ao e6 aj;refine ⟨⟨b46.cells _ rfl,trivial⟩,?_⟩;have e26:=e25.trans e6;have o6:=o2.ext e26;have z26:=e26.size;have z25:=e25.size;have hl17:l17=ms2.length:=by have:=o2.out.1; rwa [WQ] at this
   have hl20:l20=(pR (us.take i)++List.range j).length:=by have:=o2.num.1; rwa [WQ] at this
   rw [WU,Yh] at hl20;have hm2:ms2.length=(dX 0 (us.take i)).length+j:=by
    have:=Xa List.length hms2
    rw [WQ,WU,WQ,Xe,Yi hlj] at this;unfold dR at this
    rwa [WQ] at this
   refine gu (vs:=zi ⟨df us LB i e.1,p6,l6,c6,fV us LB i e.2⟩) A6 Jf rfl ad ad (GU _ _ _ _ _) rfl rfl o6.out ad ad ad (fun h' x=>⟨(b46.ao x aj).cells _ rfl,(b46.ao x aj).cells _ rfl,trivial⟩) ?_;intro p7 c7 h7 s7 k7 hp7;have hbx7:=SL.Ay o6.out;have hnb:h2.size∉aJ p16:=fun hh=>by have:=(o2.out.bY hh).2; omega
   have b47:=b46.ao k7 hnb;refine ⟨⟨b47.cells _ rfl,b47.cells _ rfl,trivial⟩,?_⟩;have n7:SL h7 h.size 3 1 p19 l20 l21 ((pR (us.take i)++List.range j).map Kf):=SL.qG o6.num k7 hbx7 bU;have i7:∀ x,x∈ms2++[⟨df us LB i e.1,p6,l6,c6,fV us LB i e.2⟩]->SL h7 h.size 66 2 x.p x.l x.c (x.x.ai.map cR):=fun x hx=>by
    rcases Xj.1 hx with hx | hx
    ·exact SL.qG (o6.fe x hx) k7 hbx7 bU
    ·rw [Xu.1 hx];exact SL.qG (s6.mono ad) k7 hbx7 bU
   have z7:=k7.size;refine kh (vs:=Kf j) Df OJ rfl ad ad (CR _) rfl rfl n7 ad ad ad ?_;intro p8 c8 h8 s8 k8 hp8;have hbx8:=SL.Ay n7;have e7:Ext h h7:=Ch.trans (e2.trans e26) k7 (fun q hq hl=>by have:=(o2.out.bY hq).1; omega);have e8:Ext h h8:=Ch.trans e7 k8 (fun q hq hl=>by have:=(n7.bY hq).1; omega);refine aF (cs:=[(false,[.slice 0]),(false,[.slice 0]),(false,[.int .i64])]) ((p7,l17+1,c7),(p8,l20+1,c8),((j+1:Nat):Int),()) (u.aY.length-(j+1)) rfl ad (Xa (fun z=>[Value.slice p7 (l17+1) c7,.slice p8 (l20+1) c8,Value.int .i64 z]) hwj)
    ⟨j+1,ms2++[⟨df us LB i e.1,p6,l6,c6,fV us LB i e.2⟩],_,rfl,rfl,ad,e8,⟨?_,?_,fun x hx=>SL.qG (i7 x hx) k8 hbx8 bU⟩,?_,rfl⟩
   ·have:SL h7 h.size 88 3 p7 (l17+1) c7 ((ms2++[(⟨df us LB i e.1,p6,l6,c6,fV us LB i e.2⟩:cE)]).map zi):=by rw [W5]; exact s7
    exact SL.qG this k8 hbx8 bU
   ·rw [List.range_succ,<- Xh,W5];exact s8
   ·rw [htj,W5,W5,hms2,Xh] <;> rfl
  ·have r:=WS r
   have:j=u.aY.length:=ad
   subst this;rw [XG] at hms2;refine aF (cs:=[(false,[.slice 0]),(false,[.slice 0]),(false,[.int .i64])]) ((p16,l17,l18),(p19,l20,l21),((i+1:Nat):Int),()) (us.length-(i+1)) rfl ad (Xa (fun z=>[Value.slice p16 l17 l18,.slice p19 l20 l21,Value.int .i64 z]) hwt)
    ⟨i+1,ms2,_,rfl,rfl,ad,e2,o2,?_,?_⟩
   ·rw [hms2,htk,Qn,hti]
   ·rw [htk,Jq]
 ·have q:=WS q
  have:i=us.length:=ad
  subst this;rw [XG] at hms o1;have z1:=e1.size;have e01:=e0.trans e1;have pr1:=pr.ao e1;have b11:=b1.ao e1 aj;have hkm:ms.map eU=(eE (dR us LB us)).map eU:=by rw [hms,mf]
  have hml:ms.length=(dX 0 us).length:=by
   have:=Xa List.length hms
   rw [WQ] at this;rw [this];unfold dR;rw [WQ]
  have hnm:(aS ms).Nodup:=by
   have:aS ms=(dR us LB us).map (·.1):=by
    rw [<- hms,Xf] <;> rfl
   rw [this];exact hnd
  have hmem:∀ e,e∈ms->eU e∈dR us LB us:=fun e he=>by
   rw [<- hms];exact WX.2 ⟨e,he,rfl⟩
  have hsum:∀ e,e∈ms->rX S e.x:=fun e he=>by
   have h1:=hmem e he;have h2:=hSd _ h1;unfold dR at h1;obtain ⟨q,hq,hqe⟩:=WX.1 h1;have hx:e.x=fV us LB q.1 q.2.2:=(Xa (·.2) hqe).symm;obtain ⟨n,hn,hn1,hn2⟩:=vJ us 0 q hq;have hqn:q.1=n:=ad
   have hew:=hE n us[n] (WT hn) q.2 hn2;exact ⟨by rw [hx]; exact Ic _ _ _ _,by rw [hx]; exact EA hew.1.num,h2⟩
  have ve:tH h1 p9 l10 ms:=⟨by have:=o1.out.1; rwa [WQ] at this,fun i hi=>by
   obtain ⟨a,ha,hc⟩:=SL.cells o1.out (i:=i) (by rw [WQ]; exact hi);rw [WY] at hc;exact ⟨a,ha,hc⟩,fun e he=>(o1.fe e he).Rq⟩
  refine aH (Ke (c:=l11) (B:=h.size) z1 ve (fun e he i hi=>(o1.fe e he).bY hi) hnm ad hS hsum) ?_;rintro w h2 ⟨e2,hw⟩;rw [Fv hkm] at hw;cases hf:dr (eE (dR us LB us)) with
  | some i0 =>
   rw [hf] at hw;subst hw;refine ⟨((none,0,0),(i0:Int),(24:Int),()),rfl,?_⟩;refine an ?_;refine bT rfl ?_;have hi0:i0<(dX 0 us).length:=by
    have h1:=hf;unfold dr at h1;rw [Xd] at h1;obtain ⟨h2,_⟩:=h1
    have:(eE (dR us LB us)).length=(dX 0 us).length:=by unfold eE dR; rw [WQ,WQ]
    omega
   exact P6 (lv:=2) (i0:=i0) rfl h0g (e01.trans e2) (b11.ao e2 aj) (v.ao (e01.trans e2)) hmany (o1.num.bF e2 aj) ad (WT hi0) fun h' e'=>hk1 h' i0 _ hf (WT hi0) e'
  | none =>
   rw [hf] at hw;obtain ⟨p',l',c',ns,rfl,on⟩:=hw;refine ⟨((p',l',c'),(0:Int),(0:Int),()),rfl,?_⟩;refine an ?_;refine bZ rfl ?_;have hin:∀ m,m∈ns->∃ e,e∈ms/\m.name=e.name/\m.x=Q8 (cj ms) ms.length e.x:=fun m hm=>by
    obtain ⟨j,hj,rfl⟩:=Xg hm;have hj':j<ms.length:=by rw [<- on.len]; exact hj
    obtain ⟨h1,h2⟩:=on.eq j ms[j] ns[j] (WT hj') (WT hj);exact ⟨ms[j],WZ hj',h1,h2⟩
   have vn:tH h2 p' l' ns:=⟨by have:=on.out.1; rwa [WQ] at this,fun i hi=>by
    obtain ⟨a,ha,hc⟩:=SL.cells on.out (i:=i) (by rw [WQ]; exact hi);rw [WY] at hc;exact ⟨a,ha,hc⟩,on.fe⟩
   have hkn:ns.map eU=(dR us LB us).map (fun y=>(y.1,eC (eE (dR us LB us)) y.1)):=by
    rw [<- hms,Xf,hms];apply YP
    ·rw [WQ,WQ,on.len]
    ·intro j h1' h2';rw [WQ] at h1' h2';rw [WY,WY];obtain ⟨h1,h2⟩:=on.eq j ms[j] ns[j] (WT h2') (WT h1');have h3:=QK hnm (fun e he=>(hsum e he).num) (WZ h2');unfold eU;rw [h1,h2,h3];show _=(ms[j].name,eC (eE (dR us LB us)) ms[j].name);rw [Iv hkm]
   have z2:=e2.size;refine Pr (lv:=2) (S:=S) rfl hga h0g (e01.trans e2) (b11.ao e2 aj) (pr1.ao e2) (v.ao (Ch.refl _ _)) sz hL vn (fun i hi=>by have:=(on.out.bY hi).1; omega) (fun e he i hi=>by have:=(on.low e he i hi).1; omega) (by rw [on.len]; omega) hS (fun e he=>by
    obtain ⟨d,hd,_,hx⟩:=hin e he;rw [hx];exact rX.it hsum (hsum d hd) _) hW ?_
   intro h' st sd tw dw e' pr' t' d' i1 i2;exact hk0 h' _ st sd tw dw ns hf hkn e' pr' t' d' i1 i2
theorem tj (u:bJ):∀ (l:List bJ) (n:Nat),bC n (l++[u])=bC n l++uJ (n+l.length) u
 | [],n=>by simp [bC]
 | y::l,n=>by
  simp only [List.cons_append,bC,List.length_cons];rw [tj u l (n+1),show n+1+l.length=n+(l.length+1) from ad,Xh]
theorem zU (us:List bJ) (i:Nat):(bC 0 (us.take i)).length<=(bC 0 us).length:=by
 have key:∀ (a b:List bJ) (n:Nat),(bC n a).length<=(bC n (a++b)).length:=by
  intro a
  induction a with
  | nil=>intro b n; simp [bC]
  | cons u a ih =>
   intro b n;simp only [List.cons_append,bC,List.length_append]
   have:=ih b (n+1)
   omega
 have:=key (us.take i) (us.drop i) 0
 rwa [Xw] at this
structure LN (us:List bJ) (S:List ZA):Prop where
 sz:J2 us
 dL:(bC 0 us).length<=2^39
 aY:∀ n u,us[n]?=some u->Wn us n u
 items:∀ n u,us[n]?=some u->R6 us (bC 0 us) S n u
 nd:((dR us (bC 0 us) us).map (·.1)).Nodup
 len:(dX 0 us).length<=2^20
 names:S.length<=2^30
 fe:∀ y,y∈dR us (bC 0 us) us->∀ t,t∈y.2.ai->t.1∈S
def BL (us:List bJ) (su:cn) (w:ZB) (h':Hp):Prop :=
 if (et us).nT≠0 then w=.tuple #[.pointer none,Oj (et us)]
 else (∃ i q,dr (eE (dR us (bC 0 us) us))=some i/\(dX 0 us)[i]?=some q/\w=.tuple #[.pointer none,Oj ⟨24,q.1,q.2.1⟩]) \/
  ∃ g b' lb st sd tw dw ms,dr (eE (dR us (bC 0 us) us))=none/\w=.tuple #[.pointer (some ⟨g,0,none⟩),Oj ⟨0,0,dt⟩]/\ms.map eU=(dR us (bC 0 us) us).map (fun y=>(y.1,eC (eE (dR us (bC 0 us) us)) y.1)) /\
   Di h' g su lb st sd (bC 0 us)/\uR h' b' st tw/\uR h' b' sd dw/\yc us (bC 0 us) ms (·.text) us.length tw/\yc us (bC 0 us) ms (·.data) us.length dw
theorem Bu {h:Hp} {su:cn} {us:List bJ} {S:List ZA} (v:uz h su.p su.l us) (hC:(et us).nT=0->LN us S):HC Tryz.prog 26 #[.slice su.p su.l su.c] h fun w h'=>Ext h h'/\BL us su w h':=by
 refine aX (args:=[.slice su.p su.l su.c]) mixed Tryz.func26 ax (nK su.p su.l su.c) ?_;unfold jB aZ bg bq aK hY bG bh bi bd bS aM db;have hll:=v.len;refine bm ?_;intro h1 b1 e1 z1;refine aH (F1 (c:=su.c) (v.ao e1)) ?_;rintro _ h2 ⟨rfl,e2⟩;refine ⟨(((et us).nT:Int),((et us).unit:Int),(et us).name,()),rfl,?_⟩;refine an ?_;have b12:=b1.ao e2 aj;have e02:=e1.trans e2;refine bm ?_;intro h3 b3 e3 z3;refine aw b3 rfl aj ?_;intro h4 b4 k4 z4;have b4:bz h4 h2.size 54 [.int .i64 ((et us).nT:Int),.int .i64 ((et us).unit:Int),.string (et us).name]:=b4;have e24:Ext h2 h4:=Ch.trans e3 k4 (fun j hj hl=>by simp at hj; omega);have e04:=e02.trans e24;have b14:=b12.ao e24 aj;have z2:=e2.size;refine af b4 (((et us).nT:Int),()) rfl ?_;refine an ?_;refine ak (fun g=>?_) (fun g=>?_)
 ·have g:(et us).nT≠0:=by
   intro hh;rw [hh] at g;cases g
  refine af b4 (((et us).nT:Int),((et us).unit:Int),(et us).name,()) rfl ?_;refine an ?_;refine ⟨⟨b4.cells _ rfl,trivial⟩,?_⟩;refine aw b14 rfl aj ?_;intro h5 b5 k5 z5;have b5:bz h5 h.size 54 [.int .i64 ((et us).nT:Int),.int .i64 ((et us).unit:Int),.string (et us).name]:=b5;refine af b5 (((et us).nT:Int),((et us).unit:Int),(et us).name,()) rfl ?_;refine ⟨Ch.trans e04 k5 (fun j hj hl=>by simp at hj; omega),?_⟩;unfold BL;rw [W2 g] <;> rfl
 ·have g:(et us).nT=0:=by
   have:(((et us).nT:Nat):Int)=0:=by simpa using g
   omega
  have C:=hC g;refine bm ?_;intro h5 b5 e5 z5;have b5:bz h5 h4.size 70 [su.v,lO.v,lO.v,lO.v]:=b5;have v4:=v.ao e04;have hmany:=C.sz.many;refine aR (cs:=[(false,[.int .i64])]) (fun y k h'=>∃ (i:Nat) (lb:cn),y.1=(i:Int)/\k=us.length-i/\i<=us.length/\Ext h4 h'/\Di h' h4.size su lb lO lO (bC 0 (us.take i))) ((0:Int),()) us.length rfl
   ⟨0,lO,rfl,rfl,ad,e5,⟨b5,SL.nil _ _ _ _⟩⟩ ?_
  rintro ⟨n8,⟨⟩⟩ k h6 ⟨i,lb,hi,rfl,hle,e6,pr⟩;simp only at hi;subst hi;refine an ?_;have hw:IntKind.wrap .i64 ((i:Int)+1)=((i+1:Nat):Int):=by rw [wrap_i64 ad ad]; omega
  refine ak (fun q=>?_) (fun q=>?_)
  ·have q:=WR q;have hil:i<us.length:=ad
   have htk:us.take (i+1)=us.take i++[us[i]]:=WW hil;have hti:(us.take i).length=i:=by rw [Xe]; omega
   obtain ⟨au,sa,sb,sc,sd,hau,hcu,va⟩:=v4.cells i hil;have hum:=WZ hil;generalize us[i]=u at htk hcu va hum;have h1t:=C.sz.text u hum;have h1d:=C.sz.data u hum;have hlt:=zU us i;have hlb:=C.dL;have hl1:=qt i 0 u.text 0;have cu:∀ {h':Hp},Ext h4 h'->aG h' (au.add (i*4)) 0 [.slice sa.p sa.l sa.c]/\aG h' ((au.add (i*4)).add 1) 0 [.slice sb.p sb.l sb.c]:=fun e=>⟨⟨(aT e aj _ _ hcu).1,trivial⟩,⟨by rw [add_add]; exact (aT e aj _ _ hcu).2.1,trivial⟩⟩
   refine ay ⟨ad,ad⟩ (av hau ?_);rw [show Int.toNat (i:Int)=i from ad];refine az ((sa.p,sa.l,sa.c),()) (cu e6).1 ?_;refine an ?_;refine aH (Ej (c:=sa.c) (W9 _) e6 pr va.text ad i 0) ?_;rintro _ h7 ⟨rfl,e7,z7,lb7,pr7⟩;refine ⟨(),rfl,?_⟩;refine an ?_;refine ay ⟨ad,ad⟩ (av hau ?_);refine az ((sb.p,sb.l,sb.c),()) (cu e7).2 ?_;refine an ?_;refine aH (Ej (c:=sb.c) (W9 _) e7 pr7 va.data (by rw [WU]; omega) i 1) ?_;rintro _ h8 ⟨rfl,e8,z8,lb8,pr8⟩;refine ⟨(),rfl,?_⟩;refine an ?_;refine aF (cs:=[(false,[.int .i64])]) (((i+1:Nat):Int),()) (us.length-(i+1)) rfl ad (Xa (fun z=>[Value.int .i64 z]) hw) ⟨i+1,lb8,rfl,rfl,ad,e8,?_⟩;rw [htk,tj,hti,Xq];unfold uJ;rw [<- Xh];exact pr8
  ·have q:=WS q
   have:i=us.length:=ad
   subst this;rw [XG] at pr;have e06:=e04.trans e6;refine QD (h0:=h) (S:=S) (by have:=e04.size; omega) (W9 _) e06 (b14.ao e6 aj) pr v C.sz (by have:=C.dL; omega) C.aY C.items C.nd C.len C.names C.fe (fun h' i q hf hq e'=>⟨e',?_⟩) (fun h' b' st sd tw dw ms hf hms e' pr' t' d' i1 i2=>⟨e',?_⟩)
   ·unfold BL;rw [WV ad];exact .inl ⟨i,q,hf,hq,rfl⟩
   ·unfold BL;rw [WV ad];exact .inr ⟨_,b',lb,st,sd,tw,dw,ms,hf,rfl,hms,pr',t',d',i1,i2⟩
theorem J5 {us:List bJ} {w:LW} (A:rh us w) {n:Nat} (hn:n<us.length) (x:bX):w.bad n x=fS us n x:=by
 unfold LW.bad fS
 have:(fun t:ZA × Nat=>(w.own n t.1).isNone)=fun t=>(fU us n t.1).isNone:=by
  funext t
  rw [A.own hn]
  all_goals (cases fU us n t.1 <;> rfl)
 rw [this]
theorem rG (w:LW) (n:Nat) (u:bJ):qn w n u=(cg u).findSome? (w.bad n):=by
 unfold qn LW.xY cg;rw [YH,YH,List.findSome?_map,List.findSome?_map,List.findSome?_map,Option.or_assoc] <;> rfl
theorem Ei {us:List bJ} {n:Nat}:∀ (l:List bX),(∀ x,x∈l->∀ t,t∈x.ai->¬ t.1.data.toList=[])->((lM us n l).data.toList=[]↔l.findSome? (fS us n)=none)/\∀ s,l.findSome? (fS us n)=some s->lM us n l=s
 | [],_=>by
  refine ⟨⟨fun _=>rfl,fun _=>rfl⟩,fun s hs=>by cases hs⟩
 | x::l,h=>by
  obtain ⟨i1,i2⟩:=Ei l fun y hy=>h y (Xb _ hy)
  have hx:=h x aj;have hu:lM us n (x::l)=if (de us n x).data.toList=[] then lM us n l else de us n x:=by
   unfold lM;rw [Xy,YF]
   by_cases e:(de us n x).data.toList=[]
   ·rw [W2 e];simp [e]
   ·rw [WV e];simp [e]
  rw [List.findSome?_cons];cases hf:fS us n x with
  | none =>
   have:de us n x=⟨#[]⟩:=by unfold de; rw [hf]; rfl
   rw [hu,W2 (by rw [this])];exact ⟨i1,i2⟩
  | some s =>
   have h1:de us n x=s:=by unfold de; rw [hf]; rfl
   have h2:¬ s.data.toList=[]:=by
    unfold fS at hf;obtain ⟨t,ht,rfl⟩:=YE.1 hf;exact hx t (List.mem_of_find?_eq_some ht)
   rw [hu,WV (by rw [h1]; exact h2),h1];refine ⟨⟨fun k=>absurd k h2,fun k=>by cases k⟩,fun r hr=>by cases hr; rfl⟩
theorem Th {us:List bJ} {w:LW} (A:rh us w) (hne:∀ u,u∈us->∀ x,x∈cg u->∀ t,t∈x.ai->¬ t.1.data.toList=[]) {n:Nat} (hn:n<us.length):vk us n=(qn w n us[n]).map fun s=>(n,s):=by
 have hf:w.bad n=fS us n:=funext fun x=>J5 A hn x
 obtain ⟨h1,h2⟩:=Ei (us:=us) (n:=n) (cg us[n]) (hne _ (WZ hn));unfold vk;rw [WT hn,XR,rG,hf];cases hs:(cg us[n]).findSome? (fS us n) with
 | none=>rw [W2 (h1.2 hs)]; rfl
 | some s =>
  rw [hs] at h1;have h2:=h2 s hs;rw [WV (fun k=>by cases h1.1 k),h2] <;> rfl
theorem H0 {us:List bJ} {w:LW} (A:rh us w) (hne:∀ u,u∈us->∀ x,x∈cg u->∀ t,t∈x.ai->¬ t.1.data.toList=[]):∀ (k n:Nat),us.length-n=k->n<=us.length->(∀ j,j<n->vk us j=none)->E6 us=fv w n (us.drop n)
 | 0,n,hk,hn,hd=>by
  have:n=us.length:=ad
  subst this;rw [Yu];exact fo _ _ hd
 | k+1,n,hk,hn,hd=>by
  have hlt:n<us.length:=ad
  rw [yy w us n hlt];have hu:=Th A hne hlt;cases hb:qn w n us[n] with
  | some s =>
   rw [hb] at hu;exact jG _ _ _ n hlt hd hu
  | none =>
   rw [hb] at hu;refine H0 A hne k (n+1) ad hlt fun j hj=>?_
   by_cases e:j=n
   ·subst e; exact hu
   ·exact hd j ad
theorem QF {x:bX} (g:Good x):∀ t,t∈x.ai->¬ t.1.data.toList=[]:=by
 intro t ht e;have h:=g.Kw t ht;rw [e] at h;cases h
theorem OC {x:bX} (g:Good x):∀ t,t∈x.ai->t.1.size<=32:=by
 intro t ht;have h:=g.Kw t ht;unfold cM at h;simp only [Bool.and_eq_true] at h
 have:=WR h.1.1.1.2
 simpa using this
def La (us:List bJ):Except Fl LP->Prop
 | .error f=>f.nT≠0/\(et us=f\/((et us).nT=0/\(us.length<=64/\∃ w,rh us w/\fv w 0 us=none)/\∃ i q,dr (eE (dR us (bC 0 us) us))=some i/\(dX 0 us)[i]?=some q/\f=⟨24,q.1,q.2.1⟩))
 | .ok P=>(et us).nT=0/\us.length<=64/\P.us=us/\P.D=uu P.w us/\rh us P.w/\fv P.w 0 us=none/\mu (uu P.w us)=none/\dr (eE (dR us (bC 0 us) us))=none
theorem OT {D:List (ZA × bX)} {i:Nat} (h:mu D=some i):i<D.length:=by
 unfold mu at h;rw [Xd] at h;exact h.1
theorem pf {us:List bJ} (sm:∀ u,u∈us->∀ x,x∈cg u->x.num<4294967296/\∀ t,t∈x.ai->t.2<4294967296):La us (iR us):=by
 unfold iR
 by_cases h0:us.length=0
 ·rw [W2 h0];refine ⟨aj,.inl ?_⟩;unfold et;rw [W2 h0]
 rw [WV h0]
 by_cases h64:64<us.length
 ·rw [W2 h64];refine ⟨aj,.inl ?_⟩;unfold et;rw [WV h0,W2 h64]
 rw [WV h64];have href:et us=match us.findIdx? fun u=>decide (dC u≠0) with
  | some n=>⟨31,n,dt⟩
  | none=>match zm us with
   | some q=>⟨22,q.1,q.2⟩
   | none=>match E6 us with
    | some q=>⟨23,q.1,q.2⟩
    | none=>⟨0,0,dt⟩:=by
  unfold et;rw [WV h0,WV h64] <;> rfl
 cases hf:us.findIdx? fun u=>decide (dC u≠0) with
 | some n =>
  rw [hf] at href;exact ⟨aj,.inl href⟩
 | none =>
  rw [hf] at href;have hr:∀ u,u∈us->dC u=0:=by
   intro u hu;rw [Xp] at hf
   have:=WS (hf u hu)
   omega
  have i0:=Q1 hr;have hg0:∀ s,(my 0 us Rb).gl s=none:=by
   have e1:∀ (n sec:Nat) (l:List cB) (i:Nat) (w:LW),(ig n sec i l w).gl=w.gl:=by
    intro n sec l
    induction l with
    | nil=>intro i w; rfl
    | cons x l ih =>
     intro i w;rw [ig,ih];unfold je;split <;> rfl
   have e2:∀ (n:Nat) (l:List qi) (w:LW),(l.foldl (uo n) w).gl=w.gl:=by
    intro n l
    induction l with
    | nil=>intro w; rfl
    | cons x l ih=>intro w; rw [XI,ih]; rfl
   have e3:∀ (l:List bJ) (n:Nat) (w:LW),(my n l w).gl=w.gl:=by
    intro l
    induction l with
    | nil=>intro n w; rfl
    | cons u l ih =>
     intro n w;rw [my,ih];unfold Fe;rw [e2,e1,e1]
   intro s;rw [e3] <;> rfl
  have hm:=Ff us us.length 0 (my 0 us Rb) ad (YK _) (fun s=>by rw [hg0]; rfl) (fun j hj=>absurd hj ad);rw [List.drop_zero] at hm;simp only;cases hw:j4 0 us (my 0 us Rb) with
  | error q =>
   rw [hw] at hm;have hm:zm us=some q:=hm;rw [hm] at href;exact ⟨aj,.inl href⟩
  | ok w =>
   rw [hw] at hm;obtain ⟨hd,hg⟩:zm us=none/\∀ s,w.gl s=Pt us s:=hm
   rw [hd] at href;have A:rh us w:=⟨hr,i0.meet hw,hg⟩
   have hne:∀ u,u∈us->∀ x,x∈cg u->∀ t,t∈x.ai->¬ t.1.data.toList=[]:=fun u hu x hx=>QF (zd (hr u hu) (sm u hu) x hx)
   have hu:=H0 A hne us.length 0 ad (YK _) (fun j hj=>absurd hj ad);rw [List.drop_zero] at hu;rw [hu] at href;cases hb:fv w 0 us with
   | some q =>
    rw [hb] at href;simp only [hb];exact ⟨aj,.inl href⟩
   | none =>
    rw [hb] at href;have hz:(et us).nT=0:=by rw [href]
    have hcy:=A.UY hb;cases hc:mu (uu w us) with
    | some i =>
     have hi:=OT hc;have hi:i<(dX 0 us).length:=by unfold uu at hi; rwa [WQ] at hi
     simp only [hb,hc];refine ⟨aj,.inr ⟨hz,⟨ad,w,A,hb⟩,i,(dX 0 us)[i],by rw [<- hcy,hc],WT hi,?_⟩⟩;have hgd:((dX 0 us).map fun q=>(q.1,q.2.1)).getD i (0,dt)=((dX 0 us)[i].1,(dX 0 us)[i].2.1):=by
      rw [X8,XB,WT hi] <;> rfl
     rw [hgd]
    | none =>
     simp only [hb,hc];exact ⟨hz,ad,rfl,rfl,A,hb,hc,by rw [<- hcy,hc]⟩
def PJ (us:List bJ):List ZA:=((bC 0 us).map ya++(dX 0 us).map jI).map (Oo (bC 0 us))
theorem DU {us:List bJ} {w:LW} (sm:FJ us) (h64:us.length<=64) (A:rh us w) (hb:fv w 0 us=none):LN us (PJ us):=by
 have r:Ex us:=⟨A.right,h64⟩
 have hg:∀ u,u∈us->∀ x,x∈cg u->Good x:=fun u hu=>zd (A.right u hu) (sm.num u hu)
 have hbad:∀ n u,us[n]?=some u->∀ x,x∈cg u->w.bad n x=none:=by
  intro n u hu x hx;have hn:=(W6.1 hu).1;have h1:=jb us 0 hb n hn;have he:us[n]=u:=(W6.1 hu).2;rw [Xq,he,rG,XA] at h1;exact h1 x hx
 have hown:∀ n u,us[n]?=some u->∀ x,x∈cg u->∀ t,t∈x.ai->∃ o,fU us n t.1=some o:=by
  intro n u hu x hx t ht;obtain ⟨k,hk⟩:=Ab (hbad n u hu x hx) t ht;rw [A.own (W6.1 hu).1] at hk;obtain ⟨o,ho,_⟩:=YE.1 hk;exact ⟨o,ho⟩
 have hsum:∀ n u,us[n]?=some u->∀ x,x∈cg u->Kq us n x:=by
  intro n u hu x hx;have hm:=XD hu;have g:=hg u hm x hx;refine ⟨g.nf,g.num,?_,hown n u hu x hx,fun t ht=>?_⟩
  ·have:=sm.len hm hx
   omega
  ·have:=OC g t ht
   omega
 have hS:∀ n u,us[n]?=some u->∀ x,x∈cg u->∀ t,t∈x.ai->df us (bC 0 us) n t.1∈PJ us:=by
  intro n u hu x hx t ht;obtain ⟨o,ho⟩:=hown n u hu x hx t ht;unfold df;rw [ho,Option.getD_some];exact W7 (f:=Oo (bC 0 us)) (a:=(o,t.1)) (Xj.2 (H9 A.right ho))
 have hmt:∀ u:bJ,∀ x,x∈u.text->x.e∈cg u:=fun u x hx=>Xk _ (Xk _ (W7 hx))
 have hmd:∀ u:bJ,∀ x,x∈u.data->x.e∈cg u:=fun u x hx=>Xk _ (Xr _ (W7 hx))
 have hme:∀ u:bJ,∀ e,e∈u.aY->e.2∈cg u:=fun u e he=>Xr _ (W7 he)
 refine ⟨J2.of h64 A.right,?_,fun n u hu e he=>⟨hsum n u hu _ (hme u e he),?_,?_⟩,fun n u hu=>⟨fun x hx=>⟨hsum n u hu _ (hmt u x hx),hS n u hu _ (hmt u x hx)⟩,fun x hx=>⟨hsum n u hu _ (hmd u x hx),hS n u hu _ (hmd u x hx)⟩⟩,?_,?_,?_,?_⟩
 ·have:=r.dL; omega
 ·exact ⟨n,xd hu (Xr _ (W7 he))⟩
 ·have h1:=(vW (A.right u (XD hu))).2;unfold sO at h1;simp only [Bool.and_eq_true] at h1;have h2:=(tL h1.1.2 e he).1;unfold cM at h2;simp only [Bool.and_eq_true] at h2;have h3:=WR h2.1.1.1.2;have h4:e.1.size<=32:=by simpa using h3
  omega
 ·rw [L8];exact (A.two hb).symm.TR
 ·have:=r.eqs; omega
 ·unfold PJ;rw [WQ,WU,WQ,WQ];have h1:=r.dL;have h2:=r.eqs;omega
 ·intro y hy t ht;unfold dR at hy;obtain ⟨q,hq,rfl⟩:=WX.1 hy;obtain ⟨u,hu,he⟩:=yi hq;obtain ⟨p,hp,e⟩:=D5 ht;rw [e];exact hS q.1 u hu _ (hme u q.2 he) p hp
theorem JU {us:List bJ} (h:(et us).nT=0):us.length≠0/\us.length<=64/\(∀ u,u∈us->dC u=0)/\zm us=none/\E6 us=none:=by
 unfold et at h
 by_cases h0:us.length=0
 ·rw [W2 h0] at h; cases h
 rw [WV h0] at h
 by_cases h64:64<us.length
 ·rw [W2 h64] at h; cases h
 rw [WV h64] at h;cases hf:us.findIdx? fun u=>decide (dC u≠0) with
 | some n=>rw [hf] at h; cases h
 | none =>
  rw [hf] at h;simp only at h;cases hd:zm us with
  | some q=>rw [hd] at h; cases h
  | none =>
   rw [hd] at h;simp only at h;cases hu:E6 us with
   | some q=>rw [hu] at h; cases h
   | none =>
    refine ⟨h0,ad,fun u hm=>?_,rfl,rfl⟩;rw [Xp] at hf
    have:=WS (hf u hm)
    omega
theorem OA {us:List bJ} (h0:us.length≠0) (h64:us.length<=64) (hr:∀ u,u∈us->dC u=0) (hd:zm us=none) (hu:E6 us=none):(et us).nT=0:=by
 have hf:(us.findIdx? fun u=>decide (dC u≠0))=none:=by
  rw [Xp];intro u hm;exact W4 fun h=>h (hr u hm)
 unfold et;rw [WV h0,WV ad,hf];simp only [hd,hu]
theorem JZ {n:Nat} {u:bJ} {x:Lb} (h:x∈uJ n u):x.u=n:=by
 have h1:ya x∈(uJ n u).map ya:=W7 h;unfold uJ at h1;rw [W5,re,re,Xj,WX,WX] at h1;rcases h1 with ⟨s,_,e⟩ | ⟨s,_,e⟩
 ·exact (Ys e).1.symm
 ·exact (Ys e).1.symm
section
variable {us:List bJ} {uM:bJ}
theorem uL {n:Nat} (hn:n<us.length):(us++[uM])[n]?=us[n]?:=Xm hn
theorem A7 (hg:uM.aP=[]) {n:Nat} (hn:n<us.length) (s:ZA):fU (us++[uM]) n s=fU us n s:=by
 unfold fU;rw [uL hn,Yy]
 have:([uM]:List bJ).findIdx? (fun u=>fz u.aP s)=none:=by
  rw [Xp];intro u hu;rw [Xu.1 hu,hg] <;> rfl
 rw [this]
 simp
theorem AS:bC 0 (us++[uM])=bC 0 us++uJ us.length uM:=by rw [tj,Xq]
theorem NE {o:Nat} (ho:o<us.length) (s:ZA):Oh (bC 0 (us++[uM])) o s=Oh (bC 0 us) o s:=by
 unfold Oh;rw [AS,Yy]
 have:(uJ us.length uM).findIdx? (fun x=>decide (x.u=o) && decide (x.n=s))=none:=by
  rw [Xp];intro x hx
  have:=JZ hx
  have h:decide (x.u=o)=false:=W4 ad;rw [h,Bool.false_and]
 rw [this]
 simp
theorem F9 {o:Nat} (ho:o<us.length) (s:ZA):rf (bC 0 (us++[uM])) o s=rf (bC 0 us) o s:=by
 unfold rf;rw [NE ho]
theorem Ai (hg:uM.aP=[]) {n:Nat} (hn:n<us.length) (s:ZA):df (us++[uM]) (bC 0 (us++[uM])) n s=df us (bC 0 us) n s:=by
 unfold df;rw [A7 hg hn];refine F9 ?_ s;cases ho:fU us n s with
 | none=>show 0<_; omega
 | some o=>exact IG ho
theorem BJ (hg:uM.aP=[]) {n:Nat} (hn:n<us.length) (x:bX):fV (us++[uM]) (bC 0 (us++[uM])) n x=fV us (bC 0 us) n x:=by
 unfold fV
 congr 1
 funext s
 unfold r7;rw [Ai hg hn]
theorem Qj (hg:uM.aP=[]) (he:uM.aY=[]):dR (us++[uM]) (bC 0 (us++[uM])) (us++[uM])=dR us (bC 0 us) us:=by
 unfold dR;rw [oa,he,List.map_nil,XP];refine XC fun q hq=>?_
 obtain ⟨u,hu,_⟩:=yi hq;have hn:=(W6.1 hu).1;rw [Ai hg hn,BJ hg hn]
theorem D9 (hg:uM.aP=[]) {n:Nat} (hn:n<us.length) (x:bX):fS (us++[uM]) n x=fS us n x:=by
 unfold fS
 have:(fun t:ZA × Nat=>(fU (us++[uM]) n t.1).isNone)=fun t=>(fU us n t.1).isNone:=by
  funext t
  rw [A7 hg hn]
 rw [this]
theorem Jv (hg:uM.aP=[]) {n:Nat} (hn:n<us.length) (l:List bX):lM (us++[uM]) n l=lM us n l:=by
 unfold lM
 have:de (us++[uM]) n=de us n:=by
  funext x
  unfold de;rw [D9 hg hn]
 rw [this]
theorem tR {α:Type} {f:Nat->Option α} {n:Nat} (h:(List.range n).findSome? f=none) {i:Nat} (hi:i<n):f i=none:=by
 rw [XA] at h;exact h i (Yo.2 hi)
theorem I8 (hN:us.length<64) (hr:dC uM=0) (hg:uM.aP=[]) (ho:∀ x,x∈cg uM->∀ t,t∈x.ai->t.1∈ek uM) (h:(et us).nT=0):(et (us++[uM])).nT=0:=by
 obtain ⟨h0,h64,h1,h2,h3⟩:=JU h;have hlen:(us++[uM]).length=us.length+1:=aj
 have hlast:(us++[uM])[us.length]?=some uM:=aj
 refine OA ad ad (fun u hu=>?_) ?_ ?_
 ·rcases Xj.1 hu with hu | hu
  ·exact h1 u hu
  ·rw [Xu.1 hu]; exact hr
 ·refine fo _ _ fun j hj=>?_
  unfold sH
  by_cases e:j<us.length
  ·have h4:=tR h2 e;unfold sH at h4;rw [uL e,List.take_append_of_le_length ad];exact h4
  ·have:j=us.length:=ad
   subst this;rw [hlast,XR,hg] <;> rfl
 ·refine fo _ _ fun j hj=>?_
  unfold vk
  by_cases e:j<us.length
  ·have h4:=tR h3 e;unfold vk at h4;rw [uL e];simp only [Jv hg e];exact h4
  ·have:j=us.length:=ad
   subst this;rw [hlast,XR];have hu:lM (us++[uM]) us.length (cg uM)=⟨#[]⟩:=by
    refine A3 fun j hj=>?_
    have hx:=WZ hj
    have:fS (us++[uM]) us.length (cg uM)[j]=none:=by
     unfold fS;rw [Option.map_eq_none_iff,List.find?_eq_none];intro t ht;rw [xd hlast (ho _ hx t ht)]
     simp
    unfold de;rw [this] <;> rfl
   rw [hu,W2 rfl]
theorem JK {P:LP} (h:iR us=.ok P) (sm:∀ u,u∈us++[uM]->∀ x,x∈cg u->x.num<4294967296/\∀ t,t∈x.ai->t.2<4294967296) (hN:us.length<64) (hr:dC uM=0) (hg:uM.aP=[]) (he:uM.aY=[]) (ho:∀ x,x∈cg uM->∀ t,t∈x.ai->t.1∈ek uM) :
  ∃ P',iR (us++[uM])=.ok P'/\(∀ n u,us[n]?=some u->(∀ x,x∈u.text\/x∈u.data->P'.eJ n x=P.eJ n x))/\P'.w.lb=P.w.lb++uJ us.length uM:=by
 have a1:=pf (us:=us) fun u hu=>sm u (Xk _ hu)
 rw [h] at a1;obtain ⟨z1,l1,u1,d1,A1,b1,c1,f1⟩:=a1;have z2:=I8 hN hr hg ho z1;have hdr:=Qj (us:=us) hg he;have a2:=pf sm;cases h2:iR (us++[uM]) with
 | error f =>
  rw [h2] at a2;obtain ⟨q1,q2⟩:=a2;rcases q2 with q2 | ⟨_,_,i,q,q3,_⟩
  ·rw [q2] at z2;exact absurd z2 q1
  ·rw [hdr,f1] at q3;cases q3
 | ok P' =>
  rw [h2] at a2;obtain ⟨_,l2,u2,d2,A2,b2,c2,f2⟩:=a2;refine ⟨P',rfl,fun n u hu x hx=>?_,?_⟩
  ·have hn:=(W6.1 hu).1;have hum:=XD hu;have hxl:x.e∈cg u:=by
    unfold cg;rcases hx with hx | hx
    ·exact Xk _ (Xk _ (W7 hx))
    ·exact Xk _ (Xr _ (W7 hx))
   have hbad:∀ {vs:List bJ} {w:LW},fv w 0 vs=none->vs[n]?=some u->w.bad n x.e=none:=by
    intro vs w hb hv;have hnv:=(W6.1 hv).1;have h1:=jb vs 0 hb n hnv;rw [Xq,(W6.1 hv).2,rG,XA] at h1;exact h1 _ hxl
   have hnum:=(sm u (Xk _ hum) _ hxl).1;have hm:(eE ((dR us (bC 0 us) us).map fun y=>(y.1,eC (eE (dR us (bC 0 us) us)) y.1))).map eU=_:=mf _;have e1:=A1.put b1 c1 hn (hbad b1 hu) hnum hm;have e2:=A2.put b2 c2 (by rw [WU]; omega) (hbad b2 (by rw [uL hn]; exact hu)) hnum (by rw [hdr]; exact hm);unfold LP.eJ;rw [d1,d2,e1,e2,BJ hg hn]
  ·rw [A1.wi.lb,A2.wi.lb,AS]
end
theorem gj {h:Hp} {a:ZC}:∀ (n:Nat) (vs:List ZB) (i:Nat),aG h a i vs->aG h a (i+n) (vs.drop n)
 | 0,vs,i,hc=>hc
 | n+1,[],i,hc=>trivial
 | n+1,v::vs,i,hc=>by
  have:=gj n vs (i+1) hc.2
  rw [show i+1+n=i+(n+1) from ad] at this;exact this
theorem hQ {h:Hp} {a:ZC}:∀ (vs:List ZB) (o i:Nat),aG h a (o+i) vs->aG h (a.add o) i vs
 | [],_,_,_=>trivial
 | v::vs,o,i,h1=>⟨by have:=h1.1; rw [add_add]; exact this,hQ vs o (i+1) h1.2⟩
theorem ey {h:Hp} {a:ZC}:∀ (n:Nat) (vs:List ZB) (i:Nat),aG h a i vs->aG h a i (vs.take n)
 | 0,vs,i,hc=>trivial
 | n+1,[],i,hc=>trivial
 | n+1,v::vs,i,hc=>⟨hc.1,ey n vs (i+1) hc.2⟩
theorem _root_.Go.Sx.rb.qm {h h':Hp} {b b2:Nat} {p q:Option ZC} {l c m d sz:Nat} {e:TypeId} {ms:List cE} {xs:List (List ZB)} (o:rb h b p l c ms) (t:SL h b2 e sz q m d xs) (k:Ch (aJ q) h h') (h1:e≠88) (h2:e≠66):rb h' b p l c ms :=
 ⟨o.out.bF k (fun i hi hm=>tZ t o.out h1 i hm hi),fun m hm=>(o.fe m hm).bF k (fun i hi hm'=>tZ t (o.fe m hm) h2 i hm' hi),o.ap,o.dj⟩
def qO (of:ZA->Option bX) (x:cB):cB:={ x with e:=cV of x.e }
def S7 (p55:Option ZC) (l56:Nat) (p21:Option ZC) (l22 l23 lv:Nat) (k:T):T :=
 T.loop [aM] [.int .i64 (0:Int)] <| fun (n58:Int) =>
     bq n58 l56
     (T.need (((0:Int)<=n58)/\(n58<(l56:Int))) <|
     T.bk p55 <| fun (a59:ZC) =>
     T.ah ((a59.add (aK n58 10)).add 7) [.slice 66,.int .u32] <| fun (p60:Option ZC) (l61:Nat) (l62:Nat) (n63:Int) =>
     bG 50 [.agg #[.slice p60 l61 l62,.int .u32 n63],.slice p21 l22 l23] false [(true,[.slice 66,.int .u32])] <| fun (p64:Option ZC) (l65:Nat) (l66:Nat) (n67:Int) =>
     T.need (((0:Int)<=n58)/\(n58<(l56:Int))) <|
     T.bk p55 <| fun (a68:ZC) =>
     T.aC ((a68.add (aK n58 10)).add 7) [.slice p64 l65 l66,.int .u32 n67] <|
     T.again lv [.int .i64 (bi (n58+(1:Int)))])
     k
structure Kg (h:Hp) (b:Nat) (p:Option ZC) (l c:Nat) (ms:List cE):Prop where
 own:rb h b p l c ms
 ok:EqsOk ms
 het:∀ e,e∈ms->e.x.ai.length<=2^20
 TJ:(ms.flatMap (·.x.ai)).length<=2^39
 len:ms.length<=2^20
theorem Kg.ext {h h':Hp} {b:Nat} {p:Option ZC} {l c:Nat} {ms:List cE} (s:Kg h b p l c ms) (k:Ext h h'):Kg h' b p l c ms:=⟨s.own.ao k aj,s.ok,s.het,s.TJ,s.len⟩
theorem Kg.qm {h h':Hp} {b b2:Nat} {p q:Option ZC} {l c m d sz:Nat} {e:TypeId} {ms:List cE} {xs:List (List ZB)} (o:Kg h b p l c ms) (t:SL h b2 e sz q m d xs) (k:Ch (aJ q) h h') (h1:e≠88) (h2:e≠66):Kg h' b p l c ms :=
 ⟨o.own.qm t k h1 h2,o.ok,o.het,o.TJ,o.len⟩
def Iu (ws:List (cn × cB)):Prop:=∀ u,u∈ws->u.2.e.ai.length<=2^20/\u.2.e.num<4294967296/\∀ t,t∈u.2.e.ai->t.1.size<=maxLen
theorem O6 {L : Lp} {K : ZB -> Hp -> Prop} {h : Hp} {b N b2 : Nat} {S : Nat -> kr} {p21 : Option ZC} {l22 l23 lv : Nat} {k : T} {ms : List cE} (hlv : lv = L.length) (s : kP h b N S) {j : Nat} (hj : j < N) (sv : Kg h b2 p21 l22 l23 ms) (ok : Iu (S j).ws) (hbig : (S j).ws.length <= 2 ^ 20)
    (hk : ∀ h' S' J, kP h' b N S' -> (∀ i, i ≠ j -> S' i = S i) -> (S' j).s = (S j).s -> (S' j).ws.map (·.2) = (S j).ws.map (fun u => qO (cj ms) u.2) -> Ch (aJ (S j).s.p) h h' -> Kg h' b2 p21 l22 l23 ms -> k (L ++ [J]) K h') :
    S7 (S j).s.p (S j).s.l p21 l22 l23 lv k L K h := by
  subst hlv;unfold S7 bq aK bG bi aM;have hl0 : (S j).s.l = (S j).ws.length := by have := (s.sec j hj).out.1; rwa [WQ] at this
  generalize hws : (S j).ws = ws at *;generalize hl : (S j).s.l = l at *;subst hl0
  refine aR (cs := [(false, [.int .i64])]) (fun y m' h' => ∃ (i : Nat) (S' : Nat -> kr), y.1 = (i : Int) /\ i <= ws.length /\ m' = ws.length - i /\ kP h' b N S' /\ (∀ i, i ≠ j -> S' i = S i) /\ (S' j).s = (S j).s /\ (S' j).ws.length = ws.length /\ (∀ m, (hm : m < ws.length) -> (hm' : m < (S' j).ws.length) -> if m < i then (S' j).ws[m].2 = qO (cj ms) ws[m].2 else (S' j).ws[m] = ws[m]) /\ Ch (aJ (S j).s.p) h h' /\ Kg h' b2 p21 l22 l23 ms) ((0 : Int), ()) ws.length rfl
    ⟨0, S, rfl, ad, ad, s, fun _ _ => rfl, rfl, by rw [hws], fun m hm hm' => by rw [WV ad]; simp only [hws], Ch.refl _ _, sv⟩ ?_
  clear s sv;rintro ⟨n58, ⟨⟩⟩ m' h1 ⟨i, S', hi, hil, rfl, s, so, ss, sl, sw, k1, sv⟩;simp only at hi;subst hi;refine an ?_;refine ak (fun q => ?_) (fun q => ?_)
  · have q := WR q
    have hlt : i < ws.length :=ad
    have hlt' : i < (S' j).ws.length :=ad
    have sj := s.sec j hj;have hwi := sw i hlt hlt';rw [WV ad] at hwi;have okw := ok ws[i] (WZ hlt);have hin := sj.fe _ (WZ hlt');obtain ⟨a, ha, hc⟩ := sj.out.cells (i := i) (by simpa using hlt');rw [WY, hwi] at hc;rw [hwi] at hin;rw [ss] at ha;generalize hu : ws[i] = u at okw hin hc;refine ay ⟨ad, ad⟩ (av ha ?_);rw [show Int.toNat (i : Int) = i from ad];refine az ((u.1.p, u.1.l, u.1.c), (u.2.e.num : Int), ()) (ey 2 [_, _, _] 0 (hQ _ 7 0 (gj 7 _ 0 hc))) ?_;refine an ?_;refine aH (NK (c := u.1.c) (d := l23) (wF hin) (Co sv.own) sv.ok sv.het sv.TJ sv.len okw.1 okw.2.2) ?_;rintro _ h2 ⟨⟨p', l', c', rfl, s2⟩, e2⟩;rw [xr (eF _ _) (kE okw.2.1)] at s2 ⊢;refine ⟨((p', l', c'), ((cV (cj ms) u.2.e).num : Int), ()), rfl, ?_⟩;refine an ?_;refine ay ⟨ad, ad⟩ (av ha ?_);have s' := s.ext e2;have sj' := s'.sec j hj;have so2 := sj'.out;refine SL.part (P := Tryz.prog) so2 (i := i) (by rw [WQ]; exact hlt') (o := 7) aj (by simp [cP]) (by rw [ss]; exact ha) ?_;intro h3 s3 k3 z3
    have hnew : ((S' j).ws.map sB).set i (kM (((S' j).ws.map sB)[i]'(by rw [WQ]; exact hlt')) 7 [.slice p' l' c', .int .u32 ((cV (cj ms) u.2.e).num : Int)]) = ((S' j).ws.set i (⟨p', l', c'⟩, qO (cj ms) u.2)).map sB := by
      rw [YN, WY, hwi, hu] <;> rfl
    rw [hnew] at s3
    have sp := s'.put hj hlt' (q := (⟨p', l', c'⟩, qO (cj ms) u.2)) (s2.mono (by have := s.sec j hj; have hb : b <= h1.size := by have := (sj.out.bY (i := a.block) (by rw [ss, ha]; simp [aJ])); omega
                                                                                 exact hb)) s3 k3
    have hw : IntKind.wrap .i64 ((i : Int) + 1) = ((i + 1 : Nat) : Int) := by rw [wrap_i64 ad ad]; omega
    rw [hw];rw [ss] at k3;refine aF (cs := [(false, [.int .i64])]) (((i + 1 : Nat) : Int), ()) (ws.length - (i + 1)) (by rw [Xl (W9 _), YO]; rfl) ad rfl ?_;refine ⟨i + 1, _, rfl, ad, rfl, sp, fun m hm => ?_, ?_, ?_, fun m hm hm' => ?_, (k1.trans (e2.mono aj) (fun i hi _ => hi)).trans k3 (fun i hi _ => hi), (sv.ext e2).qm so2 (by rw [ss]; exact k3) bU bU⟩
    · unfold ko
      rw [WV hm];exact so m hm
    · unfold ko
      rw [W2 rfl];exact ss
    · unfold ko
      rw [W2 rfl, Ya];exact sl
    · have e1 : (ko S' j ⟨(S' j).s, (S' j).ws.set i (⟨p', l', c'⟩, qO (cj ms) u.2)⟩ j).ws = (S' j).ws.set i (⟨p', l', c'⟩, qO (cj ms) u.2) := by
        unfold ko;rw [W2 rfl]
      simp only [e1]
      by_cases hmi : m = i
      · subst hmi
        rw [W2 ad, List.getElem_set_self, hu]
      · have hm2 : m < (S' j).ws.length :=ad
        have := sw m hm hm2;rw [List.getElem_set_ne (Ne.symm hmi)]
        by_cases hlt2 : m < i
        · rw [W2 hlt2] at this
          rw [W2 ad];exact this
        · rw [WV hlt2] at this
          rw [WV ad];exact this
  · have q := WS q
    have hi : i = ws.length :=ad
    subst hi;refine hk h1 S' _ s so ss ?_ k1 sv;refine YP (by rw [WQ, WQ]; exact sl) fun m hm1 hm2 => ?_
    rw [WQ] at hm1 hm2;have := sw m hm2 hm1;rw [W2 hm2] at this;rw [WY, WY];exact this
structure oV (h:Hp) (B:Nat) (w:LW) (usl lb:cn) (sp:Int) (N M:Nat) (S:Nat->kr):Prop where
 box:Ot h (B+3) usl lb B (B+1) (B+2) sp
 maps:LM h B (B+1) (B+2) w
 pz:SL h (B+4) 76 4 lb.p lb.l lb.c (w.lb.map Am)
 un:SL h (B+4) 30 4 usl.p usl.l usl.c (lU S N)
 wV:kP h (B+4) M S
section
variable {h h':Hp} {B N M:Nat} {w:LW} {usl lb:cn} {sp:Int} {S:Nat->kr}
theorem oV.lS {ws:List Nat} (s:oV h B w usl lb sp N M S) (k:Ch ws h h') (hw:∀ i,i∈ws->i<B):oV h' B w usl lb sp N M S :=
 ⟨s.box.ao k (fun hm=>by have:=hw _ hm; omega),s.maps.ao k (fun hm=>by have:=hw _ hm; omega) (fun hm=>by have:=hw _ hm; omega) (fun hm=>by have:=hw _ hm; omega),
  s.pz.bF k (fun i hi hm=>by have:=(s.pz.bY hi).1; have:=hw _ hm; omega),s.un.bF k (fun i hi hm=>by have:=(s.un.bY hi).1; have:=hw _ hm; omega),s.wV.lS k (fun i hi=>by have:=hw _ hi; omega)⟩
theorem oV.ext (s:oV h B w usl lb sp N M S) (k:Ext h h'):oV h' B w usl lb sp N M S:=s.lS k aj
theorem oV.lt (s:oV h B w usl lb sp N M S):B+4<=h.size:=by have:=s.box.lt; omega
theorem oV.qm {b2 sz:Nat} {e:TypeId} {q:Option ZC} {m d:Nat} {xs:List (List ZB)} (s:oV h B w usl lb sp N M S) (t:SL h b2 e sz q m d xs) (k:Ch (aJ q) h h') (hb:B+4<=b2) (h1:e≠76) (h2:e≠30) (h3:e≠64) (h4:e≠66):oV h' B w usl lb sp N M S:=by
 have hw:∀ i,i∈aJ q->B+4<=i:=fun i hi=>by have:=(t.bY hi).1; omega
 exact ⟨s.box.ao k (fun hm=>by have:=hw _ hm; omega),s.maps.ao k (fun hm=>by have:=hw _ hm; omega) (fun hm=>by have:=hw _ hm; omega) (fun hm=>by have:=hw _ hm; omega),
  s.pz.bF k (fun i hi hm=>tZ t s.pz h1 i hm hi),s.un.bF k (fun i hi hm=>tZ t s.un h2 i hm hi),s.wV.qm t k h3 h4⟩
theorem oV.Vx {S':Nat->kr} {j:Nat} (s:oV h B w usl lb sp N M S) (hj:j<M) (s':kP h' (B+4) M S') (hs:∀ i,(S' i).s=(S i).s) (k:Ch (aJ (S j).s.p) h h'):oV h' B w usl lb sp N M S':=by
 have t:=(s.wV.sec j hj).out;have hw:∀ i,i∈aJ (S j).s.p->B+4<=i:=fun i hi=>(t.bY hi).1
 have he:lU S' N=lU S N:=by
  unfold lU;apply XC;intro i _;unfold xg;rw [hs,hs]
 exact ⟨s.box.ao k (fun hm=>by have:=hw _ hm; omega),s.maps.ao k (fun hm=>by have:=hw _ hm; omega) (fun hm=>by have:=hw _ hm; omega) (fun hm=>by have:=hw _ hm; omega),
  s.pz.bF k (fun i hi hm=>tZ t s.pz bU i hm hi),by rw [he]; exact s.un.bF k (fun i hi hm=>tZ t s.un bU i hm hi),s'⟩
end
def BO (of:ZA->Option bX) (S S':Nat->kr) (m:Nat):Prop:=∀ k,(S' k).s=(S k).s/\if k<m then (S' k).ws.map (·.2)=(S k).ws.map (fun u=>qO of u.2) else S' k=S k
theorem BO.step {of:ZA->Option bX} {S S' S2:Nat->kr} {m:Nat} (d:BO of S S' m) (h1:∀ i,i≠m->S2 i=S' i) (h2:(S2 m).s=(S' m).s) (h3:(S2 m).ws.map (·.2)=(S' m).ws.map (fun u=>qO of u.2)):BO of S S2 (m+1):=by
 intro k;obtain ⟨e1,e2⟩:=d k
 by_cases hk:k=m
 ·subst hk;rw [WV ad] at e2;rw [W2 ad];exact ⟨h2.trans e1,by rw [h3,e2]⟩
 ·rw [h1 k hk];refine ⟨e1,?_⟩
  by_cases hlt:k<m
  ·rw [W2 hlt] at e2;rw [W2 ad];exact e2
  ·rw [WV hlt] at e2;rw [WV ad];exact e2
def RP (a1 a7:ZC) (p21:Option ZC) (l22 l23:Nat):T :=
    (T.ah a7 [.slice 30] <| fun (p26:Option ZC) (l27:Nat) (l28:Nat) =>
    T.loop [aM] [.int .i64 (0:Int)] <| fun (n29:Int) =>
    bq n29 l27
    (T.need (((0:Int)<=n29)/\(n29<(l27:Int))) <|
    T.bk p26 <| fun (a30:ZC) =>
    T.ah (a30.add (aK n29 4)) [.slice 64,.slice 64,.slice 88,.slice 9] <| fun (p31:Option ZC) (l32:Nat) (l33:Nat) (p34:Option ZC) (l35:Nat) (l36:Nat) (p37:Option ZC) (l38:Nat) (l39:Nat) (p40:Option ZC) (l41:Nat) (l42:Nat) =>
    T.new [bd,bd,bd,bd] 30 <| fun (a43:ZC) =>
    T.aC a43 [.slice p31 l32 l33,.slice p34 l35 l36,.slice p37 l38 l39,.slice p40 l41 l42] <|
    T.ah a43 [.slice 64] <| fun (p44:Option ZC) (l45:Nat) (l46:Nat) =>
    T.ah (a43.add 1) [.slice 64] <| fun (p47:Option ZC) (l48:Nat) (l49:Nat) =>
    bK (Instr.buildSlice 68 2 #[(0,.slice p44 l45 l46),(1,.slice p47 l48 l49)]) false [db] <| fun (p50:Option ZC) (l51:Nat) (l52:Nat) =>
    T.loop [aM] [.int .i64 (0:Int)] <| fun (n53:Int) =>
    bq n53 l51
     (T.need (((0:Int)<=n53)/\(n53<(l51:Int))) <|
     T.bk p50 <| fun (a54:ZC) =>
     T.ah (a54.add (aK n53 1)) [.slice 64] <| fun (p55:Option ZC) (l56:Nat) (l57:Nat) =>
     S7 p55 l56 p21 l22 l23 4 (T.again 3 [.int .i64 (bi (n53+(1:Int)))]))
     (T.again 2 [.int .i64 (bi (n29+(1:Int)))]))
    (T.aC a1 [.int .i64 (0:Int),.int .i64 (0:Int),bS] <|
    T.ah a1 [.int .i64,.int .i64,.string] <| fun (n30:Int) (n31:Int) (Re:ZA) =>
    T.ret (.tuple #[.pointer (some a7),.agg #[.int .i64 n30,.int .i64 n31,.string Re]])))
theorem OU {J0 J1:List ZB->Hp->Prop} {K:ZB->Hp->Prop} {h0 h:Hp} {A B N b2:Nat} {w:LW} {usl lb:cn} {sp:Int} {S:Nat->kr} {p21:Option ZC} {l22 l23:Nat} {ms:List cE}
  (hA:h0.size<=A) (hAB:A<B) (e0:Ext h0 h) (ba:bz h A 37 [.int .i64 0,.int .i64 0,.string ⟨#[]⟩]) (s:oV h B w usl lb sp N (2*N) S) (sv:Kg h b2 p21 l22 l23 ms) (hN:N<=2^20)
  (ok:∀ j,j<2*N->Iu (S j).ws/\(S j).ws.length<=2^20)
  (hk:∀ h' S',Ext h0 h'->oV h' B w usl lb sp N (2*N) S'->BO (cj ms) S S' (2*N)->K (.tuple #[ptr (B+3),.agg #[.int .i64 0,.int .i64 0,.string ⟨#[]⟩]]) h') :
  RP ⟨A,0,none⟩ ⟨B+3,0,none⟩ p21 l22 l23 [J0,J1] K h:=by
 unfold RP bq aK bK bi bd bS aM db;refine af s.box ((usl.p,usl.l,usl.c),()) rfl ?_;refine an ?_;have hul:usl.l=N:=by have:=s.un.1; rwa [jf] at this
 rw [hul];refine aR (cs:=[(false,[.int .i64])]) (fun y m' h'=>∃ (n:Nat) (S':Nat->kr),y.1=(n:Int)/\n<=N/\m'=N-n/\Ext h0 h'/\bz h' A 37 [.int .i64 0,.int .i64 0,.string ⟨#[]⟩]/\oV h' B w usl lb sp N (2*N) S'/\BO (cj ms) S S' (2*n)/\Kg h' b2 p21 l22 l23 ms) ((0:Int),()) N rfl
  ⟨0,S,rfl,ad,ad,e0,ba,s,fun k=>⟨rfl,by rw [WV ad]⟩,sv⟩ ?_
 clear s sv ba e0;rintro ⟨n29,⟨⟩⟩ m' h1 ⟨n,S1,hn,hnN,rfl,e1,ba,s,d,sv⟩;simp only at hn;subst hn;refine an ?_;refine ak (fun q=>?_) (fun q=>?_)
 ·have q:=WR q;have hlt:n<N:=ad
  obtain ⟨a,ha,hc⟩:=s.un.cells (i:=n) (by rw [jf]; exact hlt);rw [BK] at hc;refine ay ⟨ad,ad⟩ (av ha ?_);rw [show Int.toNat (n:Int)=n from ad];generalize hta:(S1 (2*n)).s=ta;generalize htb:(S1 (2*n+1)).s=tb;have hc:aG h1 (a.add (n*4)) 0 [ta.v,tb.v,lO.v,lO.v]:=by rw [<- hta,<- htb]; exact hc
  refine az ((ta.p,ta.l,ta.c),(tb.p,tb.l,tb.c),(none,0,0),(none,0,0),()) hc ?_;refine an ?_;refine bm ?_;intro h2 b2' e2 z2;refine aw b2' rfl aj ?_;intro h3 b3 k3 z3;have b3:bz h3 h1.size 30 [ta.v,tb.v,lO.v,lO.v]:=b3;have e13:Ext h1 h3:=Ch.trans e2 k3 (fun i hi hl=>by simp at hi; omega);refine af b3 ((ta.p,ta.l,ta.c),()) rfl ?_;refine an ?_;rw [aE];refine af b3 ((tb.p,tb.l,tb.c),()) rfl ?_;refine an ?_;refine ml MT VT ad ad (NC ta.p ta.l ta.c tb.p tb.l tb.c) ?_;intro h4 b4 e4 z4;have b4:bz h4 h3.size 26 [ta.v,tb.v]:=b4;have e14:=e13.trans e4;have hsec:∀ k,k<2->([ta.v,tb.v]:List ZB).drop k=(S (2*n+k)).s.v::([ta.v,tb.v]:List ZB).drop (k+1):=by
   intro k hk;have h0:∀ k,(S1 k).s=(S k).s:=fun k=>(d k).1
   have:k=0\/k=1:=ad
   rcases this with rfl | rfl
   ·rw [<- h0]; show [ta.v,tb.v]=(S1 (2*n)).s.v::[tb.v]; rw [hta]
   ·rw [<- h0]; show [tb.v]=(S1 (2*n+1)).s.v::[]; rw [htb]
  have hb3:∀ j,j<2*N->h3.size∉aJ (S j).s.p:=by
   intro j hj hm;rw [<- (d j).1] at hm
   have:=((s.wV.sec j hj).out.bY hm).2
   have:=e13.size
   omega
  refine aR (cs:=[(false,[.int .i64])]) (fun y m' h'=>∃ (j:Nat) (S':Nat->kr),y.1=(j:Int)/\j<=2/\m'=2-j/\Ext h0 h'/\bz h' A 37 [.int .i64 0,.int .i64 0,.string ⟨#[]⟩]/\oV h' B w usl lb sp N (2*N) S'/\BO (cj ms) S S' (2*n+j)/\Kg h' b2 p21 l22 l23 ms/\bz h' h3.size 26 [ta.v,tb.v]) ((0:Int),()) 2 rfl
   ⟨0,S1,rfl,ad,ad,e1.trans e14,ba.ao e14 aj,s.ext e14,d,sv.ext e14,b4⟩ ?_
  clear s sv ba d hta htb hc ha b3;rintro ⟨n53,⟨⟩⟩ m' h5 ⟨j,S2,hj,hj2,rfl,e5,ba,s,d,sv,b5⟩;simp only at hj;subst hj;refine an ?_;refine ak (fun q=>?_) (fun q=>?_)
  ·have q:=WR q;have hj2:j<2:=ad
   refine ay ⟨ad,ad⟩ (av rfl ?_);rw [show Int.toNat (j:Int)=j from ad,aE];have hsj:=(d (2*n+j)).1;have hSe:S2 (2*n+j)=S (2*n+j):=by
    have:=(d (2*n+j)).2
    rwa [WV ad] at this
   refine af b5 (((S (2*n+j)).s.p,(S (2*n+j)).s.l,(S (2*n+j)).s.c),()) (by
    have:=hsec j hj2
    rw [show 0+j*1=j from ad,this];rfl) ?_
   refine an ?_;rw [<- hSe];have hjN:2*n+j<2*N:=ad
   have okj:=ok _ hjN;rw [<- hSe] at okj;have key:=fun (L:Lp) (hL:4=L.length)=>@O6 L K h5 (B+4) (2*N) b2 S2 p21 l22 l23 4 (T.again 3 [.int .i64 (IntKind.wrap .i64 ((j:Int)+(1:Int)))]) ms hL s.wV (2*n+j) hjN sv okj.1 okj.2
   refine key _ ?_ ?_
   ·rfl
   clear key;intro h6 S3 J s6 so ss sw k6 sv6;have hw:IntKind.wrap .i64 ((j:Int)+1)=((j+1:Nat):Int):=by rw [wrap_i64 ad ad]; omega
   rw [hw];have hss:∀ i,(S3 i).s=(S2 i).s:=by
    intro i
    by_cases hi:i=2*n+j
    ·rw [hi]; exact ss
    ·rw [so i hi]
   have hblk:∀ i,i∈aJ (S2 (2*n+j)).s.p->B+4<=i:=fun i hi=>((s.wV.sec _ hjN).out.bY hi).1
   have z0:=e1.size;refine aF (cs:=[(false,[.int .i64])]) (((j+1:Nat):Int),()) (2-(j+1)) rfl ad rfl ?_;refine ⟨j+1,S3,rfl,ad,rfl,Ch.trans e5 k6 (fun i hi hl=>by have:=hblk i hi; omega),ba.ao k6 (fun hm=>by have:=hblk _ hm; omega),s.Vx hjN s6 hss k6,d.step so ss sw,sv6,b5.ao k6 (by rw [hSe]; exact hb3 _ hjN)⟩
  ·have q:=WS q;have hj:j=2:=ad
   subst hj;have hw:IntKind.wrap .i64 ((n:Int)+1)=((n+1:Nat):Int):=by rw [wrap_i64 ad ad]; omega
   rw [hw];refine aF (cs:=[(false,[.int .i64])]) (((n+1:Nat):Int),()) (N-(n+1)) rfl ad rfl ?_;exact ⟨n+1,S2,rfl,ad,rfl,e5,ba,s,d,sv⟩
 ·have q:=WS q;have hn:n=N:=ad
  subst hn;refine aw ba rfl aj ?_;intro h2 b2' k2 z2;have b2':bz h2 A 37 [.int .i64 0,.int .i64 0,.string ⟨#[]⟩]:=b2';refine af b2' ((0:Int),(0:Int),(⟨#[]⟩:ZA),()) rfl ?_;exact hk h2 S1 (Ch.trans e1 k2 (fun i hi hl=>by simp at hi; omega)) (s.lS k2 (by simp; omega)) d
def Fz (k:Ky):List ZB:=[.int .i64 (k.1:Int),.string k.2]
theorem Tq:Tryz.prog.underlying 103=some (.slice 110):=ax
theorem WG:(Tryz.prog.info? 110).map (fun i=>(i.zero,i.size,i.bytes))=some (some (.agg #[.int .i64 0,.string ⟨#[]⟩]),2,24):=ax
theorem Sb (n:Int) (s:ZA):Instr.fill (fun j=>some (j*2,2)) ((Array.range (1*2)).map ((Value.agg #[.int .i64 0,.string ⟨#[]⟩]).cells[· % (Value.agg #[.int .i64 0,.string ⟨#[]⟩]).cells.size]!)) [(0,.agg #[.int .i64 n,.string s])]=some ([.int .i64 n,.string s]:List ZB).toArray:=ax
theorem Be {h:Hp} {b x:Nat} {e e':TypeId} {sz:Nat} {p:Option ZC} {l c:Nat} {xs:List (List ZB)} {ys:List ZB} (s:SL h b e sz p l c xs) (t:bz h x e' ys) (he:e≠e'):x∉aJ p:=fun hm=>by
 obtain ⟨zs,hz⟩:=SL.Ay s x hm;unfold bz at hz t;rw [hz] at t;simp only [Option.some.injEq,Obj.cells.injEq] at t;exact he t.2.1
def HM (nT unit:Nat) (s:ZA):ZB:=.tuple #[.pointer none,.agg #[.int .i64 (nT:Int),.int .i64 (unit:Int),.string s]]
def zo (h h':Hp):Prop:=∀ x e xs,e≠88->e≠110->bz h x e xs->bz h' x e xs
theorem zo.ext {h h' h2:Hp} (k:zo h h') (e:Ext h' h2):zo h h2:=fun x t xs h1 h2 b=>(k x t xs h1 h2 b).ao e aj
abbrev Lc:List fq:=[(false,[.pointer 0]),(false,[.slice 0]),(false,[.slice 0]),(false,[.int .i64])]
def SH (a1 a7:ZC) (n20:Int) (p52:Option ZC) (l53:Nat) (p13 p14:Option ZC) (l15 l16:Nat) (p17:Option ZC) (l18 l19:Nat) (k:Option ZC->Option ZC->Nat->Nat->Option ZC->Nat->Nat->T):T :=
    T.loop [(false,[.pointer 0]),db,db,aM] [.pointer p13,.slice p14 l15 l16,.slice p17 l18 l19,.int .i64 (0:Int)] <| fun (p55:Option ZC) (p56:Option ZC) (l57:Nat) (l58:Nat) (p59:Option ZC) (l60:Nat) (l61:Nat) (n62:Int) =>
    bq n62 l53
     (T.need (((0:Int)<=n62)/\(n62<(l53:Int))) <|
     T.bk p52 <| fun (a63:ZC) =>
     T.ah (a63.add (aK n62 3)) [.string,.slice 66,.int .u32] <| fun (s64:ZA) (p65:Option ZC) (l66:Nat) (l67:Nat) (n68:Int) =>
     T.new [bS,bd,.int .u32 (0:Int)] 88 <| fun (a69:ZC) =>
     T.aC a69 [.string s64,.slice p65 l66 l67,.int .u32 n68] <|
     T.ah (a69.add 1) [.slice 66,.int .u32] <| fun (p70:Option ZC) (l71:Nat) (l72:Nat) (n73:Int) =>
     bG 46 [.pointer (some a7),.int .i64 n20,.agg #[.slice p70 l71 l72,.int .u32 n73]] true [(true,[.slice 66,.int .u32]),(false,[.string]),cd] <| fun (p74:Option ZC) (l75:Nat) (l76:Nat) (n77:Int) (s78:ZA) (b79:Bool) =>
     T.new [bd,.int .u32 (0:Int)] 60 <| fun (a80:ZC) =>
     T.aC a80 [.slice p74 l75 l76,.int .u32 n77] <|
     cond (!b79)
     (T.aC a1 [.int .i64 (23:Int),.int .i64 n20,.string s78] <|
     T.ah a1 [.int .i64,.int .i64,.string] <| fun (n81:Int) (n82:Int) (s83:ZA) =>
     T.ret (.tuple #[.pointer none,.agg #[.int .i64 n81,.int .i64 n82,.string s83]]))
     (T.ah a69 [.string] <| fun (s81:ZA) =>
     T.ah a80 [.slice 66,.int .u32] <| fun (p82:Option ZC) (l83:Nat) (l84:Nat) (n85:Int) =>
     bG 47 [.pointer (some a7),.agg #[.int .i64 n20,.string s81]] false [(false,[.string])] <| fun (Vt:ZA) =>
     T.bf [(a80,[.slice p82 l83 l84,.int .u32 n85]),(a69,[.string s81])] <|
     bK (Instr.buildSlice 27 1 #[(0,.agg #[.string Vt,.slice p82 l83 l84,.int .u32 n85])]) false [db] <| fun (p87:Option ZC) (l88:Nat) (l89:Nat) =>
     T.bf [(a80,[.slice p82 l83 l84,.int .u32 n85]),(a69,[.string s81])] <|
     bK (Builtin.append_ #[27,27] 27 #[.slice p56 l57 l58,.slice p87 l88 l89]) false [db] <| fun (p90:Option ZC) (l91:Nat) (l92:Nat) =>
     T.bf [(a80,[.slice p82 l83 l84,.int .u32 n85]),(a69,[.string s81])] <|
     T.ah a69 [.string] <| fun (s93:ZA) =>
     bK (Instr.buildSlice 103 1 #[(0,.agg #[.int .i64 n20,.string s93])]) false [db] <| fun (p94:Option ZC) (l95:Nat) (l96:Nat) =>
     bK (Builtin.append_ #[103,103] 103 #[.slice p59 l60 l61,.slice p94 l95 l96]) false [db] <| fun (p97:Option ZC) (l98:Nat) (l99:Nat) =>
     T.again 2 [.pointer p55,.slice p90 l91 l92,.slice p97 l98 l99,.int .i64 (bi (n62+(1:Int)))]))
     (k p55 p56 l57 l58 p59 l60 l61)
structure AT (h:Hp) (b:Nat) (e k:cn) (D:List (ZA × bX)) (ks:List Ky):Prop where
 eq:∃ ms,rb h b e.p e.l e.c ms/\ms.map eU=D
 ky:SL h b 110 2 k.p k.l k.c (ks.map Fz)
theorem AT.ext {h h':Hp} {b:Nat} {e k:cn} {D:List (ZA × bX)} {ks:List Ky} (s:AT h b e k D ks) (x:Ext h h'):AT h' b e k D ks:=by
 obtain ⟨⟨ms,o,hm⟩,y⟩:=s;exact ⟨⟨ms,o.ao x aj,hm⟩,y.ao x aj⟩
theorem PB {L:Lp} {K:ZB->Hp->Prop} {h0 h:Hp} {A B N M n:Nat} {w:LW} {usl lb:cn} {sp:Int} {S:Nat->kr} {p52:Option ZC} {l53:Nat} {es:List qi} {el kl:cn} {D:List (ZA × bX)} {ks:List Ky}
  {k:Option ZC->Option ZC->Nat->Nat->Option ZC->Nat->Nat->T} {p13:Option ZC}
  (hL:2=L.length) (pw:fZ h0) (hA:h0.size<=A) (hAB:A<B) (e0:Ext h0 h) (ba:bz h A 37 [.int .i64 0,.int .i64 0,.string ⟨#[]⟩]) (s:oV h B w usl lb sp N M S) (IM:Oi w) (es0:AT h (B+4) el kl D ks)
  (v:Ob.tH h0 p52 l53 es) (ge:∀ e,e∈es->EE e.2) (hl:es.length<=2^20) (hD:D.length<=2^20) (hks:ks.length<=2^20)
  (hbad:∀ h' q,Ext h0 h'->(es.findSome? fun e=>w.bad n e.2)=some q->K (HM 23 n q) h')
  (hk:∀ h' el' kl' J,Ext h0 h'->bz h' A 37 [.int .i64 0,.int .i64 0,.string ⟨#[]⟩]->oV h' B w usl lb sp N M S->AT h' (B+4) el' kl' (D++es.map fun e=>(w.word (n,e.1),w.lin n e.2)) (ks++es.map fun e=>(n,e.1)) ->
   zo h h'->(es.findSome? fun e=>w.bad n e.2)=none->k p13 el'.p el'.l el'.c kl'.p kl'.l kl'.c (L++[J]) K h') :
  SH ⟨A,0,none⟩ ⟨B+3,0,none⟩ (n:Int) p52 l53 p13 el.p el.l el.c kl.p kl.l kl.c k L K h:=by
 unfold SH bq aK bG bK bi bd bS aM cd db;have hl53:=v.len
 refine aR (cs:=Lc) (fun y m' h'=>∃ (i:Nat) (el' kl':cn),y.1=p13/\y.2.1=(el'.p,el'.l,el'.c)/\y.2.2.1=(kl'.p,kl'.l,kl'.c)/\y.2.2.2.1=(i:Int)/\i<=es.length/\m'=es.length-i/\Ext h0 h'/\bz h' A 37 [.int .i64 0,.int .i64 0,.string ⟨#[]⟩]/\oV h' B w usl lb sp N M S /\
   AT h' (B+4) el' kl' (D++(es.take i).map fun e=>(w.word (n,e.1),w.lin n e.2)) (ks++(es.take i).map fun e=>(n,e.1))/\zo h h'/\∀ j,(hj:j<i)->(hx:j<es.length)->w.bad n es[j].2=none)
  (p13,(el.p,el.l,el.c),(kl.p,kl.l,kl.c),(0:Int),()) es.length rfl ⟨0,el,kl,rfl,rfl,rfl,rfl,ad,ad,e0,ba,s,by simpa using es0,fun x e xs _ _ b=>b,by intro j hj; omega⟩ ?_
 clear e0 ba s es0;rintro ⟨p55,⟨p56,l57,l58⟩,⟨p59,l60,l61⟩,n62,⟨⟩⟩ m' h1 ⟨i,el1,kl1,hy1,hy2,hy3,hy4,hil,rfl,e1,ba,s,es1,ke,hok⟩;simp only [Prod.mk.injEq] at hy1 hy2 hy3 hy4;obtain ⟨rfl,rfl,rfl⟩:=hy2;obtain ⟨rfl,rfl,rfl⟩:=hy3;subst hy1 hy4;refine an ?_;refine ak (fun q=>?_) (fun q=>?_)
 ·have q:=WR q;have hlt:i<es.length:=ad
  obtain ⟨aa,pp,ll,cc,haa,hc0,va0,hsz⟩:=v.cells i hlt;have gxi:=ge es[i] (WZ hlt);have htk:es.take (i+1)=es.take i++[es[i]]:=WW hlt;have hfs:∀ q,w.bad n es[i].2=some q->(es.findSome? fun e=>w.bad n e.2)=some q:=by
   intro q hq;have hsp:es=es.take i++es[i]::es.drop (i+1):=by rw [<- W8 hlt,Xw]
   have hnone:((es.take i).findSome? fun e=>w.bad n e.2)=none:=by
    rw [XA];intro x hx;obtain ⟨j,hj,rfl⟩:=Xg hx;rw [Xe] at hj;rw [List.getElem_take];exact hok j ad ad
   generalize hz:es[i]=z at hsp hq;rw [hsp,YH,hnone,List.findSome?_cons,hq] <;> rfl
  have hnx:w.bad n es[i].2=none->∀ j,(hj:j<i+1)->(hx:j<es.length)->w.bad n es[j].2=none:=by
   intro hn j hj hx
   by_cases hji:j=i
   ·subst hji; exact hn
   ·exact hok j ad hx
  generalize es[i]=x at hc0 va0 hsz gxi htk hfs hnx;refine ay ⟨ad,ad⟩ (av haa ?_);rw [show Int.toNat (i:Int)=i from ad];refine az (x.1,(pp,ll,cc),(x.2.num:Int),()) (aT e1 aj _ _ hc0) ?_;refine an ?_;refine bm ?_;intro h2 b2' e2 z2;refine aw b2' rfl aj ?_;intro h3 b3 k3 z3;have b3:bz h3 h1.size 88 [.string x.1,.slice pp ll cc,.int .u32 (x.2.num:Int)]:=b3;have e13:Ext h1 h3:=Ch.trans e2 k3 (fun i hi hl=>by simp at hi; omega);have e03:=e1.trans e13;have s3:=s.ext e13;rw [aE];refine af b3 ((pp,ll,cc),(x.2.num:Int),()) rfl ?_;refine an ?_;refine aH (xn (c:=cc) (pw.ao e03 aj) s3.box s3.maps IM n (va0.ao e03).vw gxi) ?_;rintro _ h4 ⟨e4,hq⟩;have z1:=e1.size;have l1:=s.lt;have q3:=b3.lt;cases hb:w.bad n x.2 with
  | some t =>
   rw [hb] at hq;subst hq;refine ⟨((none,0,0),(0:Int),t,false,()),rfl,?_⟩;refine an ?_;refine bm ?_;intro h5 b5' e5 z5;refine aw b5' rfl aj ?_;intro h6 b6 k6 z6;refine bT rfl ?_;have e46:Ext h4 h6:=Ch.trans e5 k6 (fun i hi hl=>by simp at hi; omega);have e16:=(e13.trans e4).trans e46;refine aw (ba.ao e16 aj) rfl aj ?_;intro h7 b7 k7 z7;have b7:bz h7 A 37 [.int .i64 23,.int .i64 (n:Int),.string t]:=b7;refine af b7 ((23:Int),(n:Int),t,()) rfl ?_;exact hbad h7 t (Ch.trans (e1.trans e16) k7 (fun i hi hl=>by simp at hi; omega)) (hfs t hb)
  | none =>
   rw [hb] at hq;obtain ⟨p7,l7,c7,rfl,s7⟩:=hq;refine ⟨((p7,l7,c7),((w.lin n x.2).num:Int),(⟨#[]⟩:ZA),true,()),rfl,?_⟩;refine an ?_;refine bm ?_;intro h5 b5' e5 z5;refine aw b5' rfl aj ?_;intro h6 b6 k6 z6;have b6:bz h6 h4.size 60 [.slice p7 l7 c7,.int .u32 ((w.lin n x.2).num:Int)]:=b6;have e46:Ext h4 h6:=Ch.trans e5 k6 (fun i hi hl=>by simp at hi; omega);have e16:=(e13.trans e4).trans e46;refine bZ rfl ?_;have b36:=b3.ao (e4.trans e46) aj;refine af b36 (x.1,()) rfl ?_;refine an ?_;refine af b6 ((p7,l7,c7),((w.lin n x.2).num:Int),()) rfl ?_;refine an ?_;have s6:=s.ext e16;refine aH (BS (pw.ao (e1.trans e16) aj) s6.box s6.maps IM n x.1) ?_;rintro _ h8 ⟨rfl,e8⟩;refine ⟨(w.word (n,x.1),()),rfl,?_⟩;refine an ?_;have e18:=e16.trans e8;have b68:=b6.ao e8 aj;have b38:=b36.ao e8 aj;have hst:∀ h',Ext h8 h'->T.C1 h' [(⟨h4.size,0,none⟩,[.slice p7 l7 c7,.int .u32 ((w.lin n x.2).num:Int)]),(⟨h1.size,0,none⟩,[.string x.1])]:=fun h' e=>⟨(b68.ao e aj).cells _ rfl,(b38.ao e aj).cells _ rfl,trivial⟩
   refine ⟨hst h8 (Ch.refl _ _),?_⟩;obtain ⟨⟨ms,o1,hms⟩,y1⟩:=es1;have o8:=o1.ao e18 aj;have y8:=y1.ao e18 aj;have hml:ms.length=D.length+i:=by
    have:=Xa List.length hms
    rw [WQ,WU,WQ,Xe,Yi hil] at this;exact this
   have hel:el1.l=ms.length:=by have:=o1.out.1; rwa [WQ] at this
   have hkl:kl1.l=ks.length+i:=by
    have:=y1.1
    rw [WQ,WU,WQ,Xe,Yi hil] at this;exact this
   have z18:=e18.size;have z4:=e4.size;have z46:=e46.size;have z8:=e8.size;have z13:=e13.size;refine gu (vs:=zi ⟨w.word (n,x.1),p7,l7,c7,w.lin n x.2⟩) A6 Jf rfl ad ad (GU _ p7 l7 c7 _) rfl rfl o8.out ad ad ad hst ?_;intro p9 c9 h9 s9 k9 hp9;have hnin:∀ j,h1.size<=j->j∉aJ el1.p:=fun j hj hm=>by have:=(o1.out.bY hm).2; omega
   have b69:=b68.ao k9 (hnin _ ad);have b39:=b38.ao k9 (hnin _ ad);refine ⟨⟨b69.cells _ rfl,b39.cells _ rfl,trivial⟩,?_⟩;have VB:SL h8 (B+4) 66 2 p7 l7 c7 ((w.lin n x.2).ai.map cR):=(s7.ao (e46.trans e8) aj).mono ad;have o9:rb h9 (B+4) p9 (el1.l+1) c9 (ms++[⟨w.word (n,x.1),p7,l7,c7,w.lin n x.2⟩]):=by
    refine o8.push VB (fun j hj=>?_) (by rw [W5]; exact s9) k9 (fun j hj=>?_)
    ·have hj3:=(s7.bY hj).1;refine ⟨fun y hy m hm=>?_,hnin _ ad⟩
     have:=((o1.fe y hy).bY hm).2
     omega
    ·rcases hp9 with rfl | ⟨a,rfl,ha⟩
     ·exact .inl hj
     ·simp [aJ] at hj;subst hj;exact .inr ha
   have y9:=y8.bF k9 (fun j hj hm=>tZ o8.out y8 bU j hm hj);have g9:=(s.ext e18).qm o8.out k9 (W9 _) bU bU bU bU;have ba8:=ba.ao e18 aj;have ba9:=ba8.ao k9 (Be o8.out ba8 bU);have z9:=k9.size;have ke8:zo h h8:=ke.ext e18;have ke9:zo h h9:=fun x e xs h1 h2 b=>by
    have b8:=ke8 x e xs h1 h2 b;exact b8.ao k9 (Be o8.out b8 (Ne.symm h1))
   have e09:Ext h0 h9:=Ch.trans (e1.trans e18) k9 (fun j hj hl=>by have:=(o8.out.bY hj).1; omega);refine af b39 (x.1,()) rfl ?_;refine an ?_;refine kh (vs:=Fz (n,x.1)) Tq WG rfl ad ad (Sb _ _) rfl rfl y9 ad ad ad ?_;intro p10 c10 h10 s10 k10 hp10;have hw:IntKind.wrap .i64 ((i:Int)+1)=((i+1:Nat):Int):=by rw [wrap_i64 ad ad]; omega
   rw [hw];refine aF (cs:=Lc) (p55,(p9,el1.l+1,c9),(p10,kl1.l+1,c10),((i+1:Nat):Int),()) (es.length-(i+1)) (by rw [Xl ad,<- hL,YO]; rfl) ad rfl ?_;refine ⟨i+1,⟨p9,el1.l+1,c9⟩,⟨p10,kl1.l+1,c10⟩,rfl,rfl,rfl,rfl,ad,rfl,Ch.trans e09 k10 (fun j hj hl=>by have:=(y9.bY hj).1; omega),ba9.ao k10 (Be y9 ba9 bU),
    g9.qm y9 k10 (W9 _) bU bU bU bU,⟨⟨_,o9.qm y9 k10 bU bU,?_⟩,?_⟩,?_,hnx hb⟩
   ·rw [htk,W5,hms,W5,<- Xh] <;> rfl
   ·have he:(ks++(es.take (i+1)).map fun e=>(n,e.1)).map Fz=(ks++(es.take i).map fun e=>(n,e.1)).map Fz++[Fz (n,x.1)]:=by
     rw [htk]
     simp
    rw [he];exact s10
   ·intro x e xs h1 h2 b;have b9:=ke9 x e xs h1 h2 b;exact b9.ao k10 (Be y9 b9 (Ne.symm h2))
 ·have q:=WS q;have hi:i=es.length:=ad
  subst hi;rw [Xt (W9 _)] at es1;refine hk h1 el1 kl1 _ e1 ba s es1 ke ?_;rw [XA];intro x hx;obtain ⟨j,hj,rfl⟩:=Xg hx;exact hok j hj hj
theorem Se:Tryz.prog.underlying 22=some (.slice 30):=ax
theorem UK:(Tryz.prog.info? 30).map (fun i=>(i.zero,i.size,i.bytes))=some (some (.agg #[.slice none 0 0,.slice none 0 0,.slice none 0 0,.slice none 0 0]),4,96):=ax
theorem RU (p1:Option ZC) (l1 c1:Nat) (p2:Option ZC) (l2 c2:Nat) (p3:Option ZC) (l3 c3:Nat) (p4:Option ZC) (l4 c4:Nat):Instr.fill (fun j=>some (j*4,4)) ((Array.range (1*4)).map ((Value.agg #[.slice none 0 0,.slice none 0 0,.slice none 0 0,.slice none 0 0]).cells[· % (Value.agg #[.slice none 0 0,.slice none 0 0,.slice none 0 0,.slice none 0 0]).cells.size]!)) [(0,.agg #[.slice p1 l1 c1,.slice p2 l2 c2,.slice p3 l3 c3,.slice p4 l4 c4])]=some ([.slice p1 l1 c1,.slice p2 l2 c2,.slice p3 l3 c3,.slice p4 l4 c4]:List ZB).toArray:=ax
def TH (a1 a7:ZC) (p14:Option ZC) (l15 l16:Nat) (p17:Option ZC) (l18 l19:Nat):T :=
   (bG 49 [.slice p14 l15 l16] true [(false,[.slice 88]),aM,aM] <| fun (p21:Option ZC) (l22:Nat) (l23:Nat) (n24:Int) (n25:Int) =>
   cond (n25 != (0:Int))
    (T.need (((0:Int)<=n24)/\(n24<(l18:Int))) <|
    T.bk p17 <| fun (a26:ZC) =>
    T.ah (a26.add (aK n24 2)) [.int .i64] <| fun (n27:Int) =>
    T.need (((0:Int)<=n24)/\(n24<(l18:Int))) <|
    T.bk p17 <| fun (a28:ZC) =>
    T.ah ((a28.add (aK n24 2)).add 1) [.string] <| fun (s29:ZA) =>
    T.bf [(((a28.add (aK n24 2)).add 1),[.string s29]),((a26.add (aK n24 2)),[.int .i64 n27])] <|
    T.aC a1 [.int .i64 n25,.int .i64 n27,.string s29] <|
    T.ah a1 [.int .i64,.int .i64,.string] <| fun (n30:Int) (n31:Int) (Re:ZA) =>
    T.ret (.tuple #[.pointer none,.agg #[.int .i64 n30,.int .i64 n31,.string Re]]))
    (RP a1 a7 p21 l22 l23))
def TD (a1 a7:ZC) (p13 p14:Option ZC) (l15 l16:Nat) (p17:Option ZC) (l18 l19:Nat) (n20:Int) (p22:Option ZC) (l23 l24:Nat) (p25:Option ZC) (l26 l27:Nat) (p28:Option ZC) (l29 l30:Nat) (p31:Option ZC) (l32 l33:Nat):T :=
   T.new [bd,bd,bd,bd] 30 <| fun (a34:ZC) =>
   T.aC a34 [.slice p22 l23 l24,.slice p25 l26 l27,.slice p28 l29 l30,.slice p31 l32 l33] <|
   T.new [bd,bd,bd,bd] 30 <| fun (a35:ZC) =>
   T.ah a34 [.slice 64] <| fun (p36:Option ZC) (l37:Nat) (l38:Nat) =>
   bG 45 [.pointer (some a7),.int .i64 n20,.slice p36 l37 l38] true [(false,[.slice 64]),(false,[.string]),cd] <| fun (p39:Option ZC) (l40:Nat) (l41:Nat) (s42:ZA) (b43:Bool) =>
   T.aC a35 [.slice p39 l40 l41] <|
   cond (!b43)
    (T.aC a1 [.int .i64 (23:Int),.int .i64 n20,.string s42] <|
    T.ah a1 [.int .i64,.int .i64,.string] <| fun (n44:Int) (n45:Int) (s46:ZA) =>
    T.ret (.tuple #[.pointer none,.agg #[.int .i64 n44,.int .i64 n45,.string s46]]))
    (T.ah (a34.add 1) [.slice 64] <| fun (p44:Option ZC) (l45:Nat) (l46:Nat) =>
    bG 45 [.pointer (some a7),.int .i64 n20,.slice p44 l45 l46] true [(false,[.slice 64]),(false,[.string]),cd] <| fun (p47:Option ZC) (l48:Nat) (l49:Nat) (s50:ZA) (b51:Bool) =>
    T.aC (a35.add 1) [.slice p47 l48 l49] <|
    cond (!b51)
    (T.aC a1 [.int .i64 (23:Int),.int .i64 n20,.string s50] <|
    T.ah a1 [.int .i64,.int .i64,.string] <| fun (n52:Int) (n53:Int) (s54:ZA) =>
    T.ret (.tuple #[.pointer none,.agg #[.int .i64 n52,.int .i64 n53,.string s54]]))
    (T.ah (a34.add 2) [.slice 88] <| fun (p52:Option ZC) (l53:Nat) (l54:Nat) =>
    SH a1 a7 n20 p52 l53 p13 p14 l15 l16 p17 l18 l19 fun p55 p56 l57 l58 p59 l60 l61 =>
     (T.ah a7 [.slice 30] <| fun (p63:Option ZC) (l64:Nat) (l65:Nat) =>
     T.ah a35 [.slice 64,.slice 64,.slice 88,.slice 9] <| fun (p66:Option ZC) (l67:Nat) (l68:Nat) (p69:Option ZC) (l70:Nat) (l71:Nat) (p72:Option ZC) (l73:Nat) (l74:Nat) (p75:Option ZC) (l76:Nat) (l77:Nat) =>
     bK (Instr.buildSlice 22 1 #[(0,.agg #[.slice p66 l67 l68,.slice p69 l70 l71,.slice p72 l73 l74,.slice p75 l76 l77])]) false [db] <| fun (p78:Option ZC) (l79:Nat) (l80:Nat) =>
     T.bf [(a7,[.slice p63 l64 l65])] <|
     bK (Builtin.append_ #[22,22] 22 #[.slice p63 l64 l65,.slice p78 l79 l80]) false [db] <| fun (p81:Option ZC) (l82:Nat) (l83:Nat) =>
     T.bf [(a35,[.slice p66 l67 l68,.slice p69 l70 l71,.slice p72 l73 l74,.slice p75 l76 l77])] <|
     T.aC a7 [.slice p81 l82 l83] <|
     T.ah (a7.add 6) [.int .i64] <| fun (n84:Int) =>
     T.ah a34 [.slice 64,.slice 64,.slice 88,.slice 9] <| fun (p85:Option ZC) (l86:Nat) (l87:Nat) (p88:Option ZC) (l89:Nat) (l90:Nat) (p91:Option ZC) (l92:Nat) (l93:Nat) (p94:Option ZC) (l95:Nat) (l96:Nat) =>
     bG 48 [.agg #[.slice p85 l86 l87,.slice p88 l89 l90,.slice p91 l92 l93,.slice p94 l95 l96]] false [aM] <| fun (n97:Int) =>
     T.bf [((a7.add 6),[.int .i64 n84])] <|
     T.aC (a7.add 6) [.int .i64 (bi (n84+n97))] <|
     T.again 1 [.pointer p55,.slice p56 l57 l58,.slice p59 l60 l61,.int .i64 (bi (n20+(1:Int)))])))
theorem y7 {S:Nat->kr} {k n:Nat} {x:kr} (hk:2*n<=k):lU (ko S k x) n=lU S n:=by
 unfold lU;apply XC;intro i hi;have hi:i<n:=Yo.1 hi;unfold xg ko;rw [WV ad,WV ad]
section
variable {h h':Hp} {B N M:Nat} {w:LW} {usl lb:cn} {sp:Int} {S:Nat->kr}
theorem oV.add (s:oV h B w usl lb sp N M S) (e:Ext h h') (hM:2*N<=M) {x:kr} (hx:lR h' h.size x):oV h' B w usl lb sp N (M+1) (ko S M x):=by
 have s':=s.ext e;exact ⟨s'.box,s'.maps,s'.pz,by rw [y7 hM]; exact s'.un,s.wV.add e s.lt hx⟩
end
section
variable {h h':Hp} {B N M:Nat} {w:LW} {usl lb:cn} {sp:Int} {S:Nat->kr}
theorem oV.Dz {x:Nat} {xs:List ZB} (s:oV h B w usl lb sp N M S) (b:bz h x 30 xs) (hx:B+4<=x) (hu:x∉aJ usl.p) (k:Ch [x] h h'):oV h' B w usl lb sp N M S:=by
 have hs:∀ {b2 sz:Nat} {e:TypeId} {q:Option ZC} {m d:Nat} {ys:List (List ZB)},SL h b2 e sz q m d ys->e≠30->SL h' b2 e sz q m d ys:=fun t he=>t.bF k (fun i hi hm=>by
  have:i=x:=by simpa using hm
  subst this;exact Be t b he hi)
 exact ⟨s.box.ao k (by simp; omega),s.maps.ao k (by simp; omega) (by simp; omega) (by simp; omega),hs s.pz bU,s.un.bF k (fun i hi hm=>by
  have:i=x:=by simpa using hm
  subst this;exact hu hi),⟨fun j hj=>⟨hs (s.wV.sec j hj).out bU,fun u hu=>hs ((s.wV.sec j hj).fe u hu) bU⟩,s.wV.ap⟩⟩
theorem AT.Dz {x b:Nat} {xs:List ZB} {e k:cn} {D:List (ZA × bX)} {ks:List Ky} (s:AT h b e k D ks) (bx:bz h x 30 xs) (c:Ch [x] h h'):AT h' b e k D ks:=by
 have hs:∀ {b2 sz:Nat} {e:TypeId} {q:Option ZC} {m d:Nat} {ys:List (List ZB)},SL h b2 e sz q m d ys->e≠30->SL h' b2 e sz q m d ys:=fun t he=>t.bF c (fun i hi hm=>by
  have:i=x:=by simpa using hm
  subst this;exact Be t bx he hi)
 obtain ⟨⟨ms,o,hm⟩,y⟩:=s;exact ⟨⟨ms,⟨hs o.out bU,fun m hm=>hs (o.fe m hm) bU,o.ap,o.dj⟩,hm⟩,hs y bU⟩
theorem AT.qG {b b2 sz:Nat} {q:Option ZC} {m d:Nat} {ys:List (List ZB)} {e k:cn} {D:List (ZA × bX)} {ks:List Ky} (s:AT h b e k D ks) (t:SL h b2 30 sz q m d ys) (c:Ch (aJ q) h h'):AT h' b e k D ks:=by
 obtain ⟨⟨ms,o,hm⟩,y⟩:=s;exact ⟨⟨ms,o.qm t c bU bU,hm⟩,y.bF c (fun i hi hm=>tZ t y bU i hm hi)⟩
theorem AT.QP {b x : Nat} {e k : cn} {D : List (ZA × bX)} {ks : List Ky} (s : AT h b e k D ks) (hx : x < b) (c : Ch [x] h h') : AT h' b e k D ks := by
  obtain ⟨⟨ms, o, hm⟩, y⟩ := s
  exact ⟨⟨ms, o.ao c (fun i hi => by have : i = x := by simpa using hi
                                     omega), hm⟩, y.bF c (fun i hi hm => by
    have : i = x := by simpa using hm
    have := (y.bY hi).1;omega)⟩
end
theorem Ow {L:Lp} {K:ZB->Hp->Prop} {h0 h:Hp} {A B n:Nat} {w:LW} {usl lb:cn} {sp:Nat} {S:Nat->kr} {u:bJ} {ta tb tc td el kl:cn} {D:List (ZA × bX)} {ks:List Ky} {p13:Option ZC} {I:qd (flat Lc)->Nat->Hp->Prop} {m:Nat}
  (hL:2=L.length) (hJ:L[1]?=some (Jl I m)) (pw:fZ h0) (tb0:An h0) (hA:h0.size<=A) (hAB:A<B) (e0:Ext h0 h) (ba:bz h A 37 [.int .i64 0,.int .i64 0,.string ⟨#[]⟩]) (s:oV h B w usl lb (sp:Int) n (2*n) S) (IM:Oi w) (es0:AT h (B+4) el kl D ks)
  (v:nX h0 ta tb tc td u) (ge:∀ x,x∈cg u->EE x) (hr:dC u=0) (hl1:u.text.length<=2^20) (hl2:u.data.length<=2^20) (hl3:u.aY.length<=2^20) (hD:D.length<=2^20) (hks:ks.length<=2^20) (hn:n<=2^20) (hsp:sp<=2^40)
  (hbad:∀ h' q,Ext h0 h'->qn w n u=some q->K (HM 23 n q) h')
  (hk:∀ h' el' kl' usl' S',Ext h0 h'->bz h' A 37 [.int .i64 0,.int .i64 0,.string ⟨#[]⟩]->oV h' B w usl' lb ((sp+iV u.text:Nat):Int) (n+1) (2*(n+1)) S'->AT h' (B+4) el' kl' (D++u.aY.map fun e=>(w.word (n,e.1),w.lin n e.2)) (ks++u.aY.map fun e=>(n,e.1)) ->
   qn w n u=none->(∀ k,k<2*n->S' k=S k)->(S' (2*n)).ws.map (·.2)=u.text.map (w.eJ n)->(S' (2*n+1)).ws.map (·.2)=u.data.map (w.eJ n) ->
   ∃ m',m'<m/\I (p13,(el'.p,el'.l,el'.c),(kl'.p,kl'.l,kl'.c),((n+1:Nat):Int),()) m' h') :
  TD ⟨A,0,none⟩ ⟨B+3,0,none⟩ p13 el.p el.l el.c kl.p kl.l kl.c (n:Int) ta.p ta.l ta.c tb.p tb.l tb.c tc.p tc.l tc.c td.p td.l td.c L K h:=by
 unfold TD bG bK bi bd aM cd db;have l0:=s.lt;have zA:=e0.size;refine bm ?_;intro h1 b1' e1 z1;refine aw b1' rfl aj ?_;intro h2 b2 k2 z2;have b2:bz h2 h.size 30 [ta.v,tb.v,tc.v,td.v]:=b2;have e02:Ext h h2:=Ch.trans e1 k2 (fun i hi hl=>by simp at hi; omega);refine bm ?_;intro h3 b3 e3 z3;have b23:=b2.ao e3 aj;refine af b23 ((ta.p,ta.l,ta.c),()) rfl ?_;refine an ?_;have e03:=e02.trans e3;have s3:=s.ext e03;have E3:=e0.trans e03;refine aH (zG (c:=ta.c) (pw.ao E3 aj) s3.box s3.maps IM n (v.ao E3).text hl1 (fun x hx=>ge _ (by unfold cg; simp only [List.mem_append]; exact .inl (.inl (W7 hx))))) ?_;rintro _ h4 ⟨e4,hq⟩;have z03:=e03.size;have z4:=e4.size;have q3:=b3.lt;cases hb:w.xY n u.text with
 | some t =>
  rw [hb] at hq;subst hq;refine ⟨((none,0,0),t,false,()),rfl,?_⟩;refine an ?_;refine aw (b3.ao e4 aj) rfl aj ?_;intro h5 b5 k5 z5;refine bT rfl ?_;have e35:Ext h3 h5\/True:=.inr trivial;have ba5:=((ba.ao (e03.trans e4) aj).ao k5 (by simp; omega))
  refine aw ba5 rfl aj ?_;intro h6 b6 k6 z6;have b6:bz h6 A 37 [.int .i64 23,.int .i64 (n:Int),.string t]:=b6;refine af b6 ((23:Int),(n:Int),t,()) rfl ?_;refine hbad h6 t ?_ (by unfold qn; rw [hb]; rfl);exact Ch.trans (Ch.trans (E3.trans e4) k5 (fun i hi hl=>by simp at hi; omega)) k6 (fun i hi hl=>by simp at hi; omega)
 | none =>
  rw [hb] at hq;obtain ⟨p4,c4,B4,w4,rfl,lc4,hB4,hw4⟩:=hq;refine ⟨((p4,ta.l,c4),(⟨#[]⟩:ZA),true,()),rfl,?_⟩;refine an ?_;refine aw (b3.ao e4 aj) rfl aj ?_;intro h5 b5 k5 z5;have b5:bz h5 h2.size 30 [.slice p4 ta.l c4,.slice none 0 0,.slice none 0 0,.slice none 0 0]:=b5;refine bZ rfl ?_;have x4:lR h4 h3.size ⟨⟨p4,ta.l,c4⟩,w4⟩:=⟨lc4.out,fun y hy=>(lc4.fe y hy).mono hB4⟩
  have s4:=s3.add e4 (W9 _) x4;have hu2:h2.size∉aJ usl.p:=fun hm=>by have:=(s.un.bY hm).2; have:=e02.size; omega
  have l2:=e02.size;have s5:=s4.Dz (b3.ao e4 aj) ad hu2 k5;have ba5:=(ba.ao (e03.trans e4) aj).ao k5 (by simp; omega);have q2:=b2.lt;have b25:=(b23.ao e4 aj).ao k5 (by simp; omega);have E5:Ext h0 h5:=Ch.trans (E3.trans e4) k5 (fun i hi hl=>by simp at hi; omega);have es5:AT h5 (B+4) el kl D ks:=((es0.ext (e03.trans e4))).Dz (b3.ao e4 aj) k5;rw [aE];refine af b25 ((tb.p,tb.l,tb.c),()) rfl ?_;refine an ?_;refine aH (zG (c:=tb.c) (pw.ao E5 aj) s5.box s5.maps IM n (v.ao E5).data hl2 (fun x hx=>ge _ (by unfold cg; simp only [List.mem_append]; exact .inl (.inr (W7 hx))))) ?_;rintro _ h6 ⟨e6,hq⟩;have b56:=b5.ao e6 aj;have z6:=e6.size;cases hb2:w.xY n u.data with
  | some t =>
   rw [hb2] at hq;subst hq;refine ⟨((none,0,0),t,false,()),rfl,?_⟩;refine an ?_;rw [aE];refine aw b56 rfl aj ?_;intro h7 b7 k7 z7;refine bT rfl ?_;have ba7:=(ba5.ao e6 aj).ao k7 (by simp; omega);refine aw ba7 rfl aj ?_;intro h8 b8 k8 z8;have b8:bz h8 A 37 [.int .i64 23,.int .i64 (n:Int),.string t]:=b8;refine af b8 ((23:Int),(n:Int),t,()) rfl ?_;refine hbad h8 t ?_ (by unfold qn; rw [hb,hb2]; rfl);exact Ch.trans (Ch.trans (E5.trans e6) k7 (fun i hi hl=>by simp at hi; omega)) k8 (fun i hi hl=>by simp at hi; omega)
  | none =>
   rw [hb2] at hq;obtain ⟨p6,c6,B6,w6,rfl,lc6,hB6,hw6⟩:=hq;refine ⟨((p6,tb.l,c6),(⟨#[]⟩:ZA),true,()),rfl,?_⟩;refine an ?_;rw [aE];refine aw b56 rfl aj ?_;intro h7 b7 k7 z7;have b7:bz h7 h2.size 30 [.slice p4 ta.l c4,.slice p6 tb.l c6,.slice none 0 0,.slice none 0 0]:=b7;refine bZ rfl ?_;have x6:lR h6 h5.size ⟨⟨p6,tb.l,c6⟩,w6⟩:=⟨lc6.out,fun y hy=>(lc6.fe y hy).mono hB6⟩
   have s6:=s5.add e6 ad x6;have s7:=s6.Dz b56 ad hu2 k7;have es7:=(es5.ext e6).Dz b56 k7;have ba7:=(ba5.ao e6 aj).ao k7 (by simp; omega);have b27:=(b25.ao e6 aj).ao k7 (by simp; omega);have E7:Ext h0 h7:=Ch.trans (E5.trans e6) k7 (fun i hi hl=>by simp at hi; omega);have S8:=b27;rw [aE];refine af b27 ((tc.p,tc.l,tc.c),()) rfl ?_;refine an ?_;refine PB hL pw hA hAB E7 ba7 s7 IM es7 v.aY (fun e he=>ge _ (by unfold cg; simp only [List.mem_append]; exact .inr (W7 he))) hl3 hD hks (fun h' q e hq=>hbad h' q e (by unfold qn; rw [hb,hb2]; exact hq)) ?_;intro h8 el8 kl8 J E8 ba8 s8 es8 ke8 hb3;have b78:=ke8 _ _ _ bU bU b7;have b28:=ke8 _ _ _ bU bU b27;generalize hS2:ko (ko S (2*n) ⟨⟨p4,ta.l,c4⟩,w4⟩) (2*n+1) ⟨⟨p6,tb.l,c6⟩,w6⟩=S2 at s8;refine af s8.box ((usl.p,usl.l,usl.c),()) rfl ?_;refine an ?_;refine af b78 ((p4,ta.l,c4),(p6,tb.l,c6),(none,0,0),(none,0,0),()) rfl ?_;refine an ?_;have hul:usl.l=n:=by have:=s.un.1; rwa [jf] at this
   have z8':=E8.size;have l8:=s8.lt;refine gu (vs:=[.slice p4 ta.l c4,.slice p6 tb.l c6,.slice none 0 0,.slice none 0 0]) Se UK rfl ad ad (RU p4 ta.l c4 p6 tb.l c6 none 0 0 none 0 0) rfl rfl s8.un ad ad ad (fun h' e=>⟨(s8.box.ao e aj).cells _ rfl,trivial⟩) ?_;intro p9 c9 h9 s9 k9 hp9;have b79:=b78.ao k9 hu2;have hu1:h.size∉aJ usl.p:=fun hm=>by have:=(s.un.bY hm).2; omega
   have b29:=b28.ao k9 hu1;refine ⟨⟨b79.cells _ rfl,trivial⟩,?_⟩;have hge9:∀ i,i∈aJ usl.p->B+4<=i:=fun i hi=>(s8.un.bY hi).1
   have bx9:=s8.box.ao k9 (fun hm=>by have:=hge9 _ hm; omega);have ba9:=ba8.ao k9 (fun hm=>by have:=hge9 _ hm; omega);have es9:=es8.qG s8.un k9;have E9:Ext h0 h9:=Ch.trans E8 k9 (fun i hi hl=>by have:=hge9 _ hi; omega);have m9:=s8.maps.ao k9 (fun hm=>by have:=hge9 _ hm; omega) (fun hm=>by have:=hge9 _ hm; omega) (fun hm=>by have:=hge9 _ hm; omega);have lb9:=s8.pz.bF k9 (fun i hi hm=>tZ s8.un s8.pz bU i hm hi);have se9:=s8.wV.qm s8.un k9 bU bU;have z9:=k9.size;refine aw bx9 rfl aj ?_;intro h10 bx10 k10 z10;have bx10:Ot h10 (B+3) ⟨p9,usl.l+1,c9⟩ lb B (B+1) (B+2) (sp:Int):=bx10;have es10:=es9.QP ad k10;have ba10:=ba9.ao k10 (by simp; omega);have m10:=m9.ao k10 aj aj aj;have lb10:=lb9.bF k10 (fun i hi=>by have:=(lb9.bY hi).1; simp; omega);have se10:=se9.lS k10 aj;have un10:=s9.bF k10 (fun i hi=>by have:=(s9.bY hi).1; simp; omega);have E10:Ext h0 h10:=Ch.trans E9 k10 (fun i hi hl=>by simp at hi; omega);have b210:=b29.ao k10 (by simp; omega);rw [aE];refine af bx10 ((sp:Int),()) rfl ?_;refine an ?_;refine af b210 ((ta.p,ta.l,ta.c),(tb.p,tb.l,tb.c),(tc.p,tc.l,tc.c),(td.p,td.l,td.c),()) rfl ?_;refine an ?_;refine aH (JS (tb0.ao E10 aj) (v.ao E10)) ?_;rintro _ h11 ⟨rfl,e11⟩;rw [W2 hr];refine ⟨(((iV u.text:Nat):Int),()),rfl,?_⟩;refine an ?_;have bx11:=bx10.ao e11 aj;refine ⟨⟨bx11.cells _ rfl,trivial⟩,?_⟩;have hsl:=yU u.text;refine aw bx11 rfl aj ?_;intro h12 bx12 k12 z12;have hw1:IntKind.wrap .i64 ((sp:Int)+((iV u.text:Nat):Int))=((sp+iV u.text:Nat):Int):=by rw [wrap_i64 ad ad]; omega
   rw [hw1] at bx12;have bx12:Ot h12 (B+3) ⟨p9,usl.l+1,c9⟩ lb B (B+1) (B+2) ((sp+iV u.text:Nat):Int):=bx12;have hw:IntKind.wrap .i64 ((n:Int)+1)=((n+1:Nat):Int):=by rw [wrap_i64 ad ad]; omega
   rw [hw];have un11:=un10.ao e11 aj;have lb11:=lb10.ao e11 aj;obtain ⟨m',hm',hI⟩:=hk h12 el8 kl8 ⟨p9,usl.l+1,c9⟩ S2 (Ch.trans (E10.trans e11) k12 (fun i hi hl=>by simp at hi; omega)) ((ba10.ao e11 aj).ao k12 (by simp; omega))
    ⟨bx12,(m10.ao e11 aj aj aj).ao k12 aj aj aj,lb11.bF k12 (fun i hi=>by have:=(lb11.bY hi).1; simp; omega),by
     have:=un11.bF k12 (fun i hi=>by have:=(un11.bY hi).1; simp; omega)
     rw [<- hS2,FT];rw [<- hS2,y7 ad,y7 ad] at this;exact this,(se10.ext e11).lS k12 aj⟩
    ((es10.ext e11).QP ad k12) (by unfold qn; rw [hb,hb2]; exact hb3) (fun k hk=>by rw [<- hS2]; unfold ko; rw [WV ad,WV ad]) (by rw [<- hS2]; unfold ko; rw [WV ad,W2 rfl]; exact hw4) (by rw [<- hS2]; unfold ko; rw [W2 rfl]; exact hw6)
   exact aF (cs:=Lc) (p13,(el8.p,el8.l,el8.c),(kl8.p,kl8.l,kl8.c),((n+1:Nat):Int),()) m' (by rw [Xm ad]; exact hJ) hm' rfl hI
def kG (us:List bJ):Nat:=(us.map fun u=>iV u.text).sum
structure Ma (x:kr):Prop where
 len:x.ws.length<=2^30
 TN:∀ u,u∈x.ws->u.2.e.ai.length<=2^40
 sz:∀ u,u∈x.ws->∀ t,t∈u.2.e.ai->t.1.size<=maxLen
def L9 (h0:Hp) (us:List bJ) (v:ZB) (h':Hp):Prop:=Ext h0 h'/\match iR us with
 | .error f=>v=HM f.nT f.unit f.name
 | .ok P=>∃ B usl lb S,h0.size<=B/\v=.tuple #[ptr (B+3),.agg #[.int .i64 0,.int .i64 0,.string ⟨#[]⟩]]/\oV h' B P.w usl lb ((kG us:Nat):Int) us.length (2*us.length) S /\
   (∀ n,(hn:n<us.length)->(S (2*n)).ws.map (·.2)=us[n].text.map (P.eJ n)/\(S (2*n+1)).ws.map (·.2)=us[n].data.map (P.eJ n))/\∀ k,k<2*us.length->Ma (S k)
theorem MN {ms:List cE} (ok:EqsOk ms) (het:∀ e,e∈ms->e.x.ai.length<=2^20) {x:bX} (hl:x.ai.length<=2^20) (hs:∀ t,t∈x.ai->t.1.size<=maxLen):(cV (cj ms) x).ai.length<=2^40/\∀ t,t∈(cV (cj ms) x).ai->t.1.size<=maxLen:=by
 have hof:∀ s y,cj ms s=some y->∃ e,e∈ms/\y=e.x:=by
  intro s y hy;unfold cj at hy;split at hy
  ·next ho =>
   obtain ⟨e,he,_,hx⟩:=kF ((dV ms s).1 ho);exact ⟨e,he,by cases hy; exact hx⟩
  ·cases hy
 refine ⟨?_,fun t ht=>?_⟩
 ·have hnf:=eF (cj ms) x;have h1:((cV (cj ms) x).ai.map (·.1)).Nodup:=XM.2 (hnf.1.imp fun h=>jk h);have h2:=jy _ ((x.ai.flatMap (qA (cj ms))).map (·.1)) h1 (fun s hs=>by
   obtain ⟨t,ht,rfl⟩:=WX.1 hs;obtain ⟨p,hp,e⟩:=De ht;exact WX.2 ⟨p,hp,e⟩)
  rw [WQ,WQ] at h2;have h3:=oP (of:=cj ms) (B:=2^20) bU (fun s y hy=>by
   obtain ⟨e,he,rfl⟩:=hof s y hy;exact het e he) x.ai
  exact XU h2 (XU h3 (XU (XZ _ hl) bU))
 ·rcases rT ht with ⟨p,hp,he,_⟩ | ⟨p,y,u,_,hy,hu,he⟩
  ·rw [<- he]; exact hs p hp
  ·obtain ⟨e,hm,rfl⟩:=hof _ _ hy;rw [<- he]; exact ok.ts e hm u hu
theorem UX {x:bX} (g:Good x) (h:x.ai.length<=2^20):EE x :=
 ⟨g.nf,g.num,h,fun t ht=>by
  have:=GD (g.Kw t ht)
  have hml:2000<=maxLen:=bU
  omega⟩
theorem FJ.Cb {us:List bJ} (s:FJ us) (r:Ex us) {u:bJ} (hu:u∈us) {x:bX} (hx:x∈cg u):EE x :=
 UX (zd (r.right u hu) (s.num u hu) x hx) (s.len hu hx)
theorem Es {us:List bJ} (s:FJ us) (r:Ex us) {w:LW} (lb:Oi w) {u:bJ} (hu:u∈us) {n:Nat} (hb:qn w n u=none) {l:List cB} (hl:l=u.text\/l=u.data) {ws:List (cn × cB)} (hw:ws.map (·.2)=l.map (w.eJ n)):Iu ws/\ws.length<=2^20:=by
 have hb':=By hb;have h2:=(r.aY hu).2;refine ⟨fun y hy=>?_,?_⟩
 ·have h1:y.2∈l.map (w.eJ n):=by rw [<- hw]; exact W7 hy
  obtain ⟨x,hx,he⟩:=WX.1 h1;have hbx:w.bad n x.e=none:=by
   rcases hl with rfl | rfl
   ·exact hb'.1 x hx
   ·exact hb'.2.1 x hx
  have hlx:x.e∈cg u:=by
   unfold cg;simp only [List.mem_append];rcases hl with rfl | rfl
   ·exact .inl (.inl (W7 hx))
   ·exact .inl (.inr (W7 hx))
  have g:=s.Cb r hu hlx;have hy:y.2.e=w.lin n x.e:=by rw [<- he]; rfl
  rw [hy];exact ⟨XU (yh hbx) g.len,kE g.num,Mp lb hbx⟩
 ·have:=Xa List.length hw
  rw [WQ,WQ] at this;rcases hl with rfl | rfl <;> omega
theorem Nc {D:List (ZA × bX)} {es:List cE} (h:es.map eU=D) {i:Nat} (hi:i<es.length) (h1:jT (da es) es[i].name) (h2:∀ j,(hj:j<i)->¬ jT (da es) es[j].name):mu D=some i:=by
 classical
 have he:da (eE D)=da es:=zI (by rw [mf,h]);have hl:D.length=es.length:=by rw [<- h,WQ]
 have hn:∀ j,(hj:j<es.length)->(D[j]'ad).1=es[j].name:=by
  intro j hj;subst h;rw [WY] <;> rfl
 unfold mu;rw [Xd];refine ⟨ad,?_,fun j hj=>?_⟩
 ·refine W1 ?_;rw [he,hn i hi];exact h1
 ·intro hd;have hd:=WR hd;rw [he,hn j ad] at hd;exact h2 j hj hd
theorem LQ {D:List (ZA × bX)} {es:List cE} (h:es.map eU=D) (h2:∀ v,¬ jT (da es) v):mu D=none:=by
 have he:da (eE D)=da es:=zI (by rw [mf,h]);unfold mu;rw [Xp];intro x hx;rw [decide_eq_false_iff_not,he];exact h2 _
theorem N0 {D:List (ZA × bX)} {es ms:List cE} (h:es.map eU=D) (hm:ms.map (fun m=>(m.name,m.x))=es.map (fun e=>(e.name,eC es e.name))):cj ms=cj (eE (lL D)):=by
 refine EO ?_;rw [mf];show ms.map (fun m=>(m.name,m.x))=_;rw [hm];unfold lL;have hs:eC (eE D)=eC es:=Iv (by rw [mf,h]);rw [hs,<- h,Xf] <;> rfl
theorem P5 {J0 J1:List ZB->Hp->Prop} {h0 h:Hp} {A B:Nat} {w:LW} {usl lb:cn} {S:Nat->kr} {us:List bJ} {el kl:cn}
  (hA:h0.size<=A) (hAB:A<B) (e0:Ext h0 h) (ba:bz h A 37 [.int .i64 0,.int .i64 0,.string ⟨#[]⟩]) (s:oV h B w usl lb ((kG us:Nat):Int) us.length (2*us.length) S)
  (es0:AT h (B+4) el kl (uu w us) ((dX 0 us).map jI)) (r:Ex us) (sm:FJ us) (i0:WI w (bC 0 us) ((dX 0 us).map jI)) (hb:fv w 0 us=none)
  (hS:∀ n,(hn:n<us.length)->(S (2*n)).ws.map (·.2)=us[n].text.map (w.eJ n)/\(S (2*n+1)).ws.map (·.2)=us[n].data.map (w.eJ n))
  (hlp:iR us=match mu (uu w us) with
    | some i=>.error ⟨24,((dX 0 us).map fun q=>(q.1,q.2.1)).getD i (0,dt) |>.1,((dX 0 us).map fun q=>(q.1,q.2.1)).getD i (0,dt) |>.2⟩
    | none=>.ok ⟨w,us,uu w us⟩) :
  TH ⟨A,0,none⟩ ⟨B+3,0,none⟩ el.p el.l el.c kl.p kl.l kl.c [J0,J1] (L9 h0 us) h:=by
 unfold TH aK bG aM;obtain ⟨⟨es,o,hes⟩,y⟩:=es0;have eo:=Tr r sm i0 hb hes;have hl:es.length=(dX 0 us).length:=by
  have:=Xa List.length hes
  unfold uu at this;simpa using this
 have hl2:=r.eqs;refine aH (FC (c:=el.c) (Co o) eo (fun i hi=>(o.out.bY hi).2) ad) ?_;rintro _ h1 ⟨hq,e1⟩;rcases hq with ⟨i,hi,hon,hmin,rfl⟩ | ⟨hno,p',l',c',ms,rfl,oms,hms⟩
 ·refine ⟨((none,0,0),(i:Int),(24:Int),()),rfl,?_⟩;refine an ?_;refine bT rfl ?_;have y1:=y.ao e1 aj;have hkl:kl.l=(dX 0 us).length:=by have:=y.1; rwa [WQ,WQ] at this
  have hik:i<(dX 0 us).length:=ad
  obtain ⟨a,ha,hc⟩:=y1.cells (i:=i) (by rw [WQ,WQ]; exact hik);rw [WY,WY] at hc;generalize hq:(dX 0 us)[i]=q at hc;have hc:aG h1 (a.add (i*2)) 0 [.int .i64 (q.1:Int),.string q.2.1]:=hc;refine ay ⟨ad,ad⟩ (av ha ?_);rw [show Int.toNat (i:Int)=i from ad];refine az ((q.1:Int),()) (ey 1 _ 0 hc) ?_;refine an ?_;refine ay ⟨ad,ad⟩ (av ha ?_);have hc1:aG h1 ((a.add (i*2)).add 1) 0 [.string q.2.1]:=hQ _ 1 0 (gj 1 _ 0 hc);refine az (q.2.1,()) hc1 ?_;refine an ?_;refine ⟨⟨hc1,ey 1 _ 0 hc,trivial⟩,?_⟩;refine aw (ba.ao e1 aj) rfl aj ?_;intro h2 b2 k2 z2;have b2:bz h2 A 37 [.int .i64 24,.int .i64 (q.1:Int),.string q.2.1]:=b2;refine af b2 ((24:Int),(q.1:Int),q.2.1,()) rfl ?_;refine ⟨Ch.trans (e0.trans e1) k2 (fun i hi hl=>by simp at hi; omega),?_⟩;rw [hlp,Nc hes hi hon hmin];have hg:((dX 0 us).map fun q=>(q.1,q.2.1)).getD i (0,dt)=(q.1,q.2.1):=by
   rw [X8,XB,WT hik,hq] <;> rfl
  simp only [hg] <;> rfl
 ·refine ⟨((p',l',c'),(0:Int),(0:Int),()),rfl,?_⟩;refine an ?_;refine bZ rfl ?_;obtain ⟨k1,k2,k3,k4⟩:=J3 eo hno hms ad;have hmany:=r.many;have hput:∀ j,j<2*us.length->Iu (S j).ws/\(S j).ws.length<=2^20:=by
   intro j hj;have hn:j / 2<us.length:=ad
   have hbn:=jb us 0 hb (j / 2) hn;rw [Xq] at hbn;have hSn:=hS (j / 2) hn
   by_cases h2:j % 2=0
   ·have:j=2*(j / 2):=ad
    rw [this];exact Es sm r (r.IM i0) (WZ hn) hbn (.inl rfl) hSn.1
   ·have:j=2*(j / 2)+1:=ad
    rw [this];exact Es sm r (r.IM i0) (WZ hn) hbn (.inr rfl) hSn.2
  refine OU hA hAB (e0.trans e1) (ba.ao e1 aj) (s.ext e1) ⟨oms,k1,k2,k3,k4⟩ ad hput ?_
  ·intro h' S' E' s' d;refine ⟨E',?_⟩;rw [hlp,LQ hes hno];refine ⟨B,usl,lb,S',ad,rfl,s',fun n hn=>?_,fun k hk=>?_⟩
   rotate_left
   ·have hd:=(d k).2;rw [W2 hk] at hd;obtain ⟨q1,q2⟩:=hput k hk;have hlen:(S' k).ws.length=(S k).ws.length:=by
     have:=Xa List.length hd
     rwa [WQ,WQ] at this
    have hmem:∀ u,u∈(S' k).ws->∃ v,v∈(S k).ws/\u.2=qO (cj ms) v.2:=by
     intro u hu;have h1:u.2∈(S k).ws.map (fun u=>qO (cj ms) u.2):=by rw [<- hd]; exact W7 hu
     obtain ⟨v,hv,he⟩:=WX.1 h1;exact ⟨v,hv,he.symm⟩
    refine ⟨ad,fun u hu=>?_,fun u hu=>?_⟩
    ·obtain ⟨v,hv,he⟩:=hmem u hu;rw [he];exact (MN k1 k2 (q1 v hv).1 (q1 v hv).2.2).1
    ·obtain ⟨v,hv,he⟩:=hmem u hu;rw [he];exact (MN k1 k2 (q1 v hv).1 (q1 v hv).2.2).2
   have hSn:=hS n hn;have hlo:=N0 hes hms;have hd:∀ (k:Nat) (l:List cB),k<2*us.length->(S k).ws.map (·.2)=l.map (w.eJ n)->(S' k).ws.map (·.2)=l.map ((⟨w,us,uu w us⟩:LP).eJ n):=by
    intro k l hk hl
    have:=(d k).2
    rw [W2 hk] at this;rw [this,show (S k).ws.map (fun u=>qO (cj ms) u.2)=((S k).ws.map (·.2)).map (qO (cj ms)) by rw [Xf]; rfl,hl,Xf,hlo] <;> rfl
   exact ⟨hd _ _ ad hSn.1,hd _ _ ad hSn.2⟩
def Uq (a1 a7:ZC) (p2 pp00:Option ZC) (ll00 cc00:Nat):T :=
   (T.loop [(false,[.pointer 0]),db,db,aM] [.pointer p2,bd,bd,.int .i64 (0:Int)] <| fun (p13:Option ZC) (p14:Option ZC) (l15:Nat) (l16:Nat) (p17:Option ZC) (l18:Nat) (l19:Nat) (n20:Int) =>
   bq n20 ll00
   (T.need (((0:Int)<=n20)/\(n20<(ll00:Int))) <|
   T.bk pp00 <| fun (a21:ZC) =>
   T.ah (a21.add (aK n20 4)) [.slice 64,.slice 64,.slice 88,.slice 9] <| fun (p22:Option ZC) (l23:Nat) (l24:Nat) (p25:Option ZC) (l26:Nat) (l27:Nat) (p28:Option ZC) (l29:Nat) (l30:Nat) (p31:Option ZC) (l32:Nat) (l33:Nat) =>
   TD a1 a7 p13 p14 l15 l16 p17 l18 l19 n20 p22 l23 l24 p25 l26 l27 p28 l29 l30 p31 l32 l33)
   (TH a1 a7 p14 l15 l16 p17 l18 l19))
theorem LF (w:LW) (us:List bJ) (u:bJ):uu w (us++[u])=uu w us++u.aY.map fun e=>(w.word (us.length,e.1),w.lin us.length e.2):=by
 unfold uu;rw [oa,W5,Xf,Xq] <;> rfl
theorem IK (us:List bJ) (u:bJ):(dX 0 (us++[u])).map jI=(dX 0 us).map jI++u.aY.map fun e=>(us.length,e.1):=by
 rw [oa,W5,Xf,Xq] <;> rfl
theorem zE (us:List bJ) (u:bJ):kG (us++[u])=kG us+iV u.text:=by
 unfold kG
 simp
theorem zW:∀ us:List bJ,kG us<=pn us
 | []=>by simp [kG,pn]
 | u::us=>by
  have h1:=zW us;have h2:=yU u.text;unfold kG pn at *;simp only [List.map_cons,List.sum_cons];omega
theorem Gp (us:List bJ) (n:Nat):kG (us.take n)<=kG us:=by
 have h:us=us.take n++us.drop n:=(Xw n us).symm
 conv=>rhs; rw [h]
 unfold kG;rw [W5,List.sum_append];omega
theorem MI (us:List bJ) (n:Nat):(dX 0 (us.take n)).length<=(dX 0 us).length:=by
 have e:∀ (a b:List bJ) (k:Nat),dX k (a++b)=dX k a++dX (k+a.length) b:=by
  intro a
  induction a with
  | nil=>intro b k; simp [dX]
  | cons x a ih =>
   intro b k;rw [List.cons_append,dX,dX,ih,Xh,XL,show k+1+a.length=k+(a.length+1) from ad]
 have h:=e (us.take n) (us.drop n) 0;rw [Xw] at h;rw [h,WU];omega
theorem P9 {J0:List ZB->Hp->Prop} {h0 h:Hp} {A B:Nat} {w:LW} {lb:cn} {us:List bJ} {pp:Option ZC} {ll cc:Nat}
  (pw:fZ h0) (tb0:An h0) (hA:h0.size<=A) (hAB:A<B) (e0:Ext h0 h) (ba:bz h A 37 [.int .i64 0,.int .i64 0,.string ⟨#[]⟩]) (s:EV h B lO lb 0 w)
  (v:uz h0 pp ll us) (r:Ex us) (sm:FJ us) (i0:WI w (bC 0 us) ((dX 0 us).map jI))
  (hlp:iR us=match fv w 0 us with
   | some q=>.error ⟨23,q.1,q.2⟩
   | none=>match mu (uu w us) with
    | some i=>.error ⟨24,((dX 0 us).map fun q=>(q.1,q.2.1)).getD i (0,dt) |>.1,((dX 0 us).map fun q=>(q.1,q.2.1)).getD i (0,dt) |>.2⟩
    | none=>.ok ⟨w,us,uu w us⟩) :
  Uq ⟨A,0,none⟩ ⟨B+3,0,none⟩ none pp ll cc [J0] (L9 h0 us) h:=by
 unfold Uq bq aK bd aM db;have hll:=v.len;have hmany:=r.many;have hlwb:=r.IM i0;have s0:oV h B w lO lb ((0:Nat):Int) 0 (2*0) (fun _=>Ve):=⟨s.box,s.maps,s.pz,SL.nil _ _ _ _,kP.nil _ _ _⟩
 refine aR (cs:=Lc) (fun y m' h'=>∃ (n:Nat) (usl el kl:cn) (S:Nat->kr),y.1=none/\y.2.1=(el.p,el.l,el.c)/\y.2.2.1=(kl.p,kl.l,kl.c)/\y.2.2.2.1=(n:Int)/\n<=us.length/\m'=us.length-n/\Ext h0 h'/\bz h' A 37 [.int .i64 0,.int .i64 0,.string ⟨#[]⟩]/\oV h' B w usl lb ((kG (us.take n):Nat):Int) n (2*n) S /\
   AT h' (B+4) el kl (uu w (us.take n)) ((dX 0 (us.take n)).map jI)/\fv w 0 us=fv w n (us.drop n)/\∀ j,(hj:j<n)->(hx:j<us.length)->(S (2*j)).ws.map (·.2)=us[j].text.map (w.eJ j)/\(S (2*j+1)).ws.map (·.2)=us[j].data.map (w.eJ j))
  (none,(none,0,0),(none,0,0),(0:Int),()) us.length rfl
  ⟨0,lO,lO,lO,fun _=>Ve,rfl,rfl,rfl,rfl,ad,ad,e0,ba,by simpa [kG] using s0,⟨⟨[],⟨SL.nil _ _ _ _,aj,List.Pairwise.nil,aj⟩,rfl⟩,SL.nil _ _ _ _⟩,rfl,by intro j hj; omega⟩ ?_
 clear e0 ba s s0;rintro ⟨p13,⟨p14,l15,l16⟩,⟨p17,l18,l19⟩,n20,⟨⟩⟩ m' h1 ⟨n,usl,el,kl,S,hy1,hy2,hy3,hy4,hnl,rfl,e1,ba,s,es1,hM,hS⟩;simp only [Prod.mk.injEq] at hy1 hy2 hy3 hy4;obtain ⟨rfl,rfl,rfl⟩:=hy2;obtain ⟨rfl,rfl,rfl⟩:=hy3;subst hy1 hy4;refine an ?_;refine ak (fun q=>?_) (fun q=>?_)
 ·have q:=WR q;have hlt:n<us.length:=ad
  obtain ⟨a,ta,tb,tc,td,ha,hc,hu⟩:=v.cells n hlt;have hmem:=WZ hlt;have htk:us.take (n+1)=us.take n++[us[n]]:=WW hlt;have htl:(us.take n).length=n:=by rw [Xe]; omega
  rw [yy w us n hlt] at hM;have hre:=r.aY hmem;have hrr:=r.right _ hmem;have hgood:=fun x hx=>sm.Cb r hmem (x:=x) hx
  have hsu:=Gp us n;have hsu2:=zW us;have hit:=sm.items;have hek:=MI us n;have hek2:=r.eqs;generalize hux:us[n]=u at hc hu htk hM hre hrr hgood;refine ay ⟨ad,ad⟩ (av ha ?_);rw [show Int.toNat (n:Int)=n from ad];refine az ((ta.p,ta.l,ta.c),(tb.p,tb.l,tb.c),(tc.p,tc.l,tc.c),(td.p,td.l,td.c),()) (aT e1 aj _ _ hc) ?_;refine an ?_;refine Ow rfl rfl pw tb0 hA hAB e1 ba s hlwb es1 hu hgood hrr ad ad ad (by unfold uu; rw [WQ]; omega) (by rw [WQ]; omega) ad ad ?_ ?_
  ·intro h' q E hq;refine ⟨E,?_⟩;rw [hq] at hM;rw [hlp,hM]
  ·intro h' el' kl' usl' S' E ba' s' es' hb hold h1 h2;rw [hb] at hM;refine ⟨us.length-(n+1),ad,n+1,usl',el',kl',S',rfl,rfl,rfl,rfl,ad,rfl,E,ba',?_,?_,hM,fun j hj hx=>?_⟩
   ·rw [htk,zE];exact s'
   ·rw [htk,LF,IK,htl];exact es'
   ·by_cases hjn:j=n
    ·subst hjn;rw [hux];exact ⟨h1,h2⟩
    ·rw [hold _ ad,hold _ ad];exact hS j ad hx
 ·have q:=WS q;have hn:n=us.length:=ad
  subst hn;rw [YC (W9 _)] at hM;rw [Xt (W9 _)] at s es1;have hM:fv w 0 us=none:=hM;rw [hM] at hlp;exact P5 hA hAB e1 ba s es1 r sm i0 hM (fun n hn=>hS n hn hn) hlp
theorem H8 {h:Hp} (pw:fZ h) (tb0:An h) {p:Option ZC} {l c:Nat} {us:List bJ} (v:uz h p l us) (sm:FJ us):HC Tryz.prog 14 #[.slice p l c] h (L9 h us):=by
 refine aX (args:=[.slice p l c]) mixed Tryz.func14 ax (zp p l c) ?_;unfold xG aZ bg bq aK cD hY bG bh bK bi bd bS aM cd db;have hll:=v.len;have hmany:=v.many;refine bm ?_;intro h1 b1 e1 z1;refine ak (fun q=>?_) (fun q=>?_)
 ·have q:l=0:=by
   have:=WR q
   omega
  refine aw b1 rfl aj ?_;intro h2 b2 k2 z2;have b2:bz h2 h.size 37 [.int .i64 25,.int .i64 0,.string ⟨#[]⟩]:=b2;refine af b2 ((25:Int),(0:Int),(⟨#[]⟩:ZA),()) rfl ?_;refine ⟨Ch.trans e1 k2 (fun i hi hl=>by simp at hi; omega),?_⟩;unfold iR;rw [W2 ad] <;> rfl
 have hl0:¬ us.length=0:=by
  have:=WS q
  omega
 refine ak (fun q=>?_) (fun q=>?_)
 ·have q:=WR q;refine aw b1 rfl aj ?_;intro h2 b2 k2 z2;have b2:bz h2 h.size 37 [.int .i64 4,.int .i64 0,.string ⟨#[]⟩]:=b2;refine af b2 ((4:Int),(0:Int),(⟨#[]⟩:ZA),()) rfl ?_;refine ⟨Ch.trans e1 k2 (fun i hi hl=>by simp at hi; omega),?_⟩;unfold iR;rw [WV hl0,W2 ad] <;> rfl
 have hl64:¬ 64<us.length:=by
  have:=WS q
  omega
 have hlp1:∀ n,us.findIdx? (fun u=>decide (dC u≠0))=some n->iR us=.error ⟨31,n,dt⟩:=by
  intro n hn;unfold iR;rw [WV hl0,WV hl64,hn]
 refine aR (cs:=[(false,[.pointer 0]),(false,[.int .i64])]) (fun y m' h'=>∃ n:Nat,y.1=none/\y.2.1=(n:Int)/\n<=us.length/\m'=us.length-n/\Ext h h'/\bz h' h.size 37 [.int .i64 0,.int .i64 0,.string ⟨#[]⟩]/\∀ j,(hj:j<n)->(hx:j<us.length)->dC us[j]=0) (none,(0:Int),()) us.length rfl
  ⟨0,rfl,rfl,ad,ad,e1,b1,by intro j hj; omega⟩ ?_
 clear e1 b1;rintro ⟨p2,n3,⟨⟩⟩ m' h2 ⟨n,hy1,hy2,hnl,rfl,e2,b2,hok⟩;simp only at hy1 hy2;subst hy1 hy2;refine an ?_;refine ak (fun q=>?_) (fun q=>?_)
 ·have q:=WR q;have hlt:n<us.length:=ad
  obtain ⟨a,ta,tb,tc,td,ha,hc,hu⟩:=v.cells n hlt;refine ay ⟨ad,ad⟩ (av ha ?_);rw [show Int.toNat (n:Int)=n from ad];refine az ((ta.p,ta.l,ta.c),(tb.p,tb.l,tb.c),(tc.p,tc.l,tc.c),(td.p,td.l,td.c),()) (aT e2 aj _ _ hc) ?_;refine an ?_;refine bm ?_;intro h3 b3' e3 z3;refine aw b3' rfl aj ?_;intro h4 b4 k4 z4;have b4:bz h4 h2.size 30 [ta.v,tb.v,tc.v,td.v]:=b4;have e24:Ext h2 h4:=Ch.trans e3 k4 (fun i hi hl=>by simp at hi; omega);have e04:=e2.trans e24;refine af b4 ((ta.p,ta.l,ta.c),(tb.p,tb.l,tb.c),(tc.p,tc.l,tc.c),(td.p,td.l,td.c),()) rfl ?_;refine an ?_;refine aH (vc (tb0.ao e04 aj) (hu.ao e04)) ?_;rintro _ h5 ⟨rfl,e5⟩;refine ⟨(((dC us[n]:Nat):Int),()),rfl,?_⟩;refine an ?_;have b5:=b2.ao (e24.trans e5) aj;have e05:=e04.trans e5;refine ak (fun q=>?_) (fun q=>?_)
  ·have hne:dC us[n]≠0:=by
    intro h0;rw [h0] at q;exact absurd q bU
   refine aw b5 rfl aj ?_;intro h6 b6 k6 z6;have b6:bz h6 h.size 37 [.int .i64 31,.int .i64 (n:Int),.string ⟨#[]⟩]:=b6;refine af b6 ((31:Int),(n:Int),(⟨#[]⟩:ZA),()) rfl ?_;refine ⟨Ch.trans e05 k6 (fun i hi hl=>by simp at hi; omega),?_⟩;rw [hlp1 n (by
    rw [Xd];exact ⟨hlt,W1 hne,fun j hj=>by rw [hok j hj ad]; decide⟩)]
   rfl
  ·have hz:dC us[n]=0:=by
    have hb:(((dC us[n]:Nat):Int) != 0)=false:=q
    by_cases h0:dC us[n]=0
    ·exact h0
    ·have:(((dC us[n]:Nat):Int) != 0)=true:=by
      rw [bne_iff_ne];omega
     rw [this] at hb;cases hb
   have hw:IntKind.wrap .i64 ((n:Int)+1)=((n+1:Nat):Int):=by rw [wrap_i64 ad ad]; omega
   rw [hw];refine aF (cs:=[(false,[.pointer 0]),(false,[.int .i64])]) (none,((n+1:Nat):Int),()) (us.length-(n+1)) rfl ad rfl ⟨n+1,rfl,rfl,ad,rfl,e05,b5,fun j hj hx=>?_⟩
   by_cases hjn:j=n
   ·subst hjn; exact hz
   ·exact hok j ad hx
 ·have q:=WS q;have hn:n=us.length:=ad
  subst hn;have r:Ex us:=⟨fun u hu=>by
   obtain ⟨j,hj,rfl⟩:=Xg hu;exact hok j hj hj,ad⟩
  have hfi:us.findIdx? (fun u=>decide (dC u≠0))=none:=by
   rw [Xp];intro u hu;rw [r.right u hu];decide
  have q2:=b2.lt;refine NL (kv:=Om) (en:=eI) ?_;intro h3 m3 e3 z3;refine NL (kv:=Om) (en:=eI) ?_;intro h4 m4 e4 z4;refine xv (en:=eI) ?_;intro h5 m5 e5 z5;refine bm ?_;intro h6 b6 e6 z6;have e26:=((e3.trans e4).trans e5).trans e6;have z4':h4.size=h2.size+2:=ad
  have z5':h5.size=h2.size+3:=ad
  rw [z3] at m4;rw [z4'] at m5;rw [z5',z3,z4'] at b6;rw [z5'];have p6:EV h6 h2.size lO lO 0 Rb:=⟨b6,⟨((m3.ao e4 aj).ao e5 aj).ao e6 aj,(m4.ao e5 aj).ao e6 aj,m5.ao e6 aj⟩,SL.nil _ _ _ _⟩
  have v2:=v.ao e2;have hit:=sm.items;refine aH (GC (c:=c) rfl e26 p6 v2 (by show 0+pn us<=_; omega) ad rfl) ?_;rintro _ h7 ⟨rfl,lb7,p7,e7⟩;refine ⟨(),rfl,?_⟩;refine an ?_;refine aH (Kc (c:=c) rfl e7 p7 v2 ad) ?_;rintro _ h8 ⟨e8,hq⟩;have b28:=b2.ao e8 aj;have z8:=e8.size;have w0:=Q1 r.right;cases hM:j4 0 us (my 0 us Rb) with
  | error q =>
   rw [hM] at hq;subst hq;refine ⟨((22:Int),(q.1:Int),q.2,true,()),rfl,?_⟩;refine an ?_;refine bm ?_;intro h9 b9' e9 z9;refine aw b9' rfl aj ?_;intro h10 b10 k10 z10;have b10:bz h10 h8.size 37 [.int .i64 22,.int .i64 (q.1:Int),.string q.2]:=b10;have e810:Ext h8 h10:=Ch.trans e9 k10 (fun i hi hl=>by simp at hi; omega);refine bT rfl ?_;refine af b10 ((22:Int),(q.1:Int),q.2,()) rfl ?_;refine ⟨⟨b10.cells _ rfl,trivial⟩,?_⟩;refine aw (b28.ao e810 aj) rfl aj ?_;intro h11 b11 k11 z11;have b11:bz h11 h.size 37 [.int .i64 22,.int .i64 (q.1:Int),.string q.2]:=b11;refine af b11 ((22:Int),(q.1:Int),q.2,()) rfl ?_;refine ⟨Ch.trans ((e2.trans e8).trans e810) k11 (fun i hi hl=>by simp at hi; omega),?_⟩;unfold iR;rw [WV hl0,WV hl64,hfi];simp only [hM] <;> rfl
  | ok w =>
   rw [hM] at hq;obtain ⟨rfl,p8⟩:=hq;refine ⟨((0:Int),(0:Int),(⟨#[]⟩:ZA),false,()),rfl,?_⟩;refine an ?_;refine bm ?_;intro h9 b9' e9 z9;refine aw b9' rfl aj ?_;intro h10 b10 k10 z10;have e810:Ext h8 h10:=Ch.trans e9 k10 (fun i hi hl=>by simp at hi; omega);refine bZ rfl ?_;have e010:=(e2.trans e8).trans e810;refine P9 (cc:=c) pw tb0 (W9 _) q2 e010 (b28.ao e810 aj) (p8.ao e810) v r sm (w0.meet hM) ?_;unfold iR;rw [WV hl0,WV hl64,hfi];simp only [hM];cases fv w 0 us with
   | some q=>rfl
   | none =>
    cases mu (uu w us) with
    | some i=>rfl
    | none=>rfl
structure GO (h:Hp) (b:Nat) (s:cn) (ws:List (cn × cB)):Prop where
 out:SL h b 64 10 s.p s.l s.c (ws.map sB)
 fe:∀ u,u∈ws->SL h b 66 2 u.1.p u.1.l u.1.c (u.2.e.ai.map cR)
theorem GO.vd {h:Hp} {b:Nat} {s:cn} {ws:List (cn × cB)} (o:GO h b s ws):Tu h s.p s.l ws :=
 ⟨by have:=o.out.1; rwa [WQ] at this,fun i hi=>by
  obtain ⟨a,ha,hc⟩:=o.out.cells (i:=i) (by simpa using hi);rw [WY] at hc;exact ⟨a,ha,hc⟩⟩
def Vu (p15:Option ZC) (l16 l17:Nat):T :=
   T.loop [aM] [.int .i64 (0:Int)] <| fun (n18:Int) =>
   bq n18 l16
    (T.need (((0:Int)<=n18)/\(n18<(l16:Int))) <|
    T.bk p15 <| fun (a19:ZC) =>
    T.ah ((a19.add (aK n18 10)).add 7) [.slice 66] <| fun (p20:Option ZC) (l21:Nat) (l22:Nat) =>
    bG 54 [.slice p20 l21 l22] false [(false,[.slice 66])] <| fun (p23:Option ZC) (l24:Nat) (l25:Nat) =>
    T.need (((0:Int)<=n18)/\(n18<(l16:Int))) <|
    T.bk p15 <| fun (a26:ZC) =>
    T.aC ((a26.add (aK n18 10)).add 7) [.slice p23 l24 l25] <|
    T.again 0 [.int .i64 (bi (n18+(1:Int)))])
    (T.ret (.slice p15 l16 l17))
def w8 (h:Hp) (us:List cB) (v:ZB) (h':Hp):Prop:=Ext h h'/\∃ s ws,v=cn.v s/\GO h' h.size s ws/\ws.map (·.2)=us
theorem RM {h0 h:Hp} {b0:Nat} {s:cn} {ws:List (cn × cB)} (e0:Ext h0 h) (o:SL h h0.size 64 10 s.p s.l s.c (ws.map sB)) (hin:∀ u,u∈ws->SL h0 b0 66 2 u.1.p u.1.l u.1.c (u.2.e.ai.map cR)) (hl:ws.length<=2^30) (ht:∀ u,u∈ws->u.2.e.ai.length<=2^40) :
  Vu s.p s.l s.c [] (w8 h0 (ws.map (·.2))) h:=by
 unfold Vu bq aK bG bi aM;have hsl:s.l=ws.length:=by have:=o.1; rwa [WQ] at this
 have z0:=e0.size
 refine aR (cs:=[(false,[.int .i64])]) (fun y m' h'=>∃ (i:Nat) (vs:List (cn × cB)),y.1=(i:Int)/\i<=ws.length/\m'=ws.length-i/\Ext h0 h'/\SL h' h0.size 64 10 s.p s.l s.c (vs.map sB)/\vs.length=ws.length /\
   ∀ m,(hm:m<ws.length)->(hm':m<vs.length)->vs[m].2=ws[m].2/\if m<i then SL h' h0.size 66 2 vs[m].1.p vs[m].1.l vs[m].1.c (vs[m].2.e.ai.map cR) else vs[m]=ws[m]) ((0:Int),()) ws.length rfl
  ⟨0,ws,rfl,ad,ad,e0,o,rfl,fun m hm hm'=>⟨rfl,by rw [WV ad]⟩⟩ ?_
 clear e0 o z0;rintro ⟨n18,⟨⟩⟩ m' h1 ⟨i,vs,hi,hil,rfl,e1,o,hvl,dU⟩;simp only at hi;subst hi;refine an ?_;have z1:=e1.size;refine ak (fun q=>?_) (fun q=>?_)
 ·have q:=WR q;have hlt:i<ws.length:=ad
  have hlt':i<vs.length:=ad
  have hi:=(dU i hlt hlt').2;rw [WV ad] at hi;obtain ⟨a,ha,hc⟩:=o.cells (i:=i) (by simpa using hlt');rw [WY,hi] at hc;have hin:=hin ws[i] (WZ hlt);have ht:=ht ws[i] (WZ hlt);generalize hu:ws[i]=u at hin hc ht;refine ay ⟨ad,ad⟩ (av ha ?_);rw [show Int.toNat (i:Int)=i from ad];refine az ((u.1.p,u.1.l,u.1.c),()) (ey 1 [_,_,_] 0 (hQ _ 7 0 (gj 7 _ 0 hc))) ?_;refine an ?_;refine aH (DE (c:=u.1.c) (wF (hin.ao e1 aj)) ht) ?_;rintro _ h2 ⟨⟨p',l',c',rfl,s2⟩,e2⟩;refine ⟨((p',l',c'),()),rfl,?_⟩;refine an ?_;refine ay ⟨ad,ad⟩ (av ha ?_);have o2:=o.ao e2 aj;refine SL.part (P:=Tryz.prog) o2 (i:=i) (by rw [WQ]; exact hlt') (o:=7) aj (by simp [cP]) ha ?_;intro h3 o3 k3 z3;have hnew:(vs.map sB).set i (kM ((vs.map sB)[i]'(by rw [WQ]; exact hlt')) 7 [.slice p' l' c'])=(vs.set i (⟨p',l',c'⟩,u.2)).map sB:=by
   rw [YN,WY,hi,hu] <;> rfl
  rw [hnew] at o3;have hw:IntKind.wrap .i64 ((i:Int)+1)=((i+1:Nat):Int):=by rw [wrap_i64 ad ad]; omega
  rw [hw];refine aF (cs:=[(false,[.int .i64])]) (((i+1:Nat):Int),()) (ws.length-(i+1)) rfl ad rfl ?_;refine ⟨i+1,_,rfl,ad,rfl,Ch.trans (e1.trans e2) k3 (fun j hj hl=>by have:=(o2.bY hj).1; omega),o3,by rw [Ya]; exact hvl,fun m hm hm'=>?_⟩
  by_cases hmi:m=i
  ·subst hmi;rw [W2 ad,List.getElem_set_self,hu];exact ⟨rfl,(s2.bF k3 (fun j hj hm=>tZ o2 s2 bU j hm hj)).mono z1⟩
  ·have hm2:m<vs.length:=ad
   have:=dU m hm hm2
   rw [List.getElem_set_ne (Ne.symm hmi)];refine ⟨this.1,?_⟩;have this:=this.2
   by_cases hlt2:m<i
   ·rw [W2 hlt2] at this;rw [W2 ad]
    have:=this.ao e2 aj
    exact this.bF k3 (fun j hj hm=>tZ o2 this bU j hm hj)
   ·rw [WV hlt2] at this;rw [WV ad];exact this
 ·have q:=WS q;have hi:i=ws.length:=ad
  subst hi;refine ⟨e1,s,vs,rfl,⟨o,fun u hu=>?_⟩,?_⟩
  ·obtain ⟨m,hm,rfl⟩:=Xg hu
   have:=(dU m ad hm).2
   rwa [W2 ad] at this
  ·refine YP (by rw [WQ,WQ]; exact hvl) fun m hm1 hm2=>?_
   rw [WQ] at hm1 hm2;rw [WY,WY];exact (dU m hm2 hm1).1
section
variable {h:Hp} {B N M:Nat} {w:LW} {usl lb:cn} {sp:Int} {S:Nat->kr}
theorem Mt (s:oV h B w usl lb sp N M S):vM Tryz.prog 22 [ptr (B+3)] h (.int .i64 (N:Int)):=by
 refine ee mixed Tryz.func22 ax (mH (some ⟨B+3,0,none⟩)) ?_;unfold iW;refine av rfl ?_;refine af s.box ((usl.p,usl.l,usl.c),()) rfl ?_;have hul:usl.l=N:=by have:=s.un.1; rwa [jf] at this
 exact ⟨by rw [<- hul],rfl⟩
theorem uV (s:oV h B w usl lb sp N M S):vM Tryz.prog 19 [ptr (B+3)] h (.int .i64 sp):=by
 refine ee mixed Tryz.func19 ax (mj (some ⟨B+3,0,none⟩)) ?_;unfold iG;refine av rfl ?_;rw [aE];refine af s.box (sp,()) rfl ?_;exact ⟨rfl,rfl⟩
def th (S:Nat->kr) (N:Nat) (n k:Int):List cB:=if 0<=n/\n<N/\(k=0\/k=1) then (S (2*n.toNat+k.toNat)).ws.map (·.2) else []
theorem pB (h:Hp):w8 h [] (.slice none 0 0) h:=⟨Ch.refl _ _,lO,[],rfl,⟨SL.nil _ _ _ _,aj⟩,rfl⟩
theorem NB (s:oV h B w usl lb sp N M S) (hM:2*N<=M) (hN:N<=2^30) (hs:∀ k,k<2*N->(S k).ws.length<=2^30/\∀ u,u∈(S k).ws->u.2.e.ai.length<=2^40) (n k:Int) (hn:-9223372036854775808<=n/\n<=9223372036854775807) :
  HC Tryz.prog 17 #[ptr (B+3),.int .i64 n,.int .i64 k] h (w8 h (th S N n k)):=by
 refine aX (args:=[ptr (B+3),.int .i64 n,.int .i64 k]) mixed Tryz.func17 ax (mh (some ⟨B+3,0,none⟩) n k) ?_;unfold iJ aZ bg bq aK bG bd aM;have hul:usl.l=N:=by have:=s.un.1; rwa [jf] at this
 have hno:¬ (0<=n/\n<N/\(k=0\/k=1))->th S N n k=[]:=fun h=>by unfold th; rw [WV h]
 refine ak (fun q=>?_) (fun q=>?_)
 ·have q:=WR q;rw [hno ad];exact pB h
 have q1:=WS q;refine av rfl ?_;refine af s.box ((usl.p,usl.l,usl.c),()) rfl ?_;refine an ?_;refine ak (fun q=>?_) (fun q=>?_)
 ·have q:=WR q;rw [hno ad];exact pB h
 have q2:=WS q;refine ak (fun q=>?_) (fun q=>?_)
 ·have q:=WR q;rw [hno ad];exact pB h
 have q3:=WS q;refine ak (fun q=>?_) (fun q=>?_)
 ·have q:=WR q;rw [hno ad];exact pB h
 have q4:=WS q;have hlt:n.toNat<N:=ad
 obtain ⟨a,ha,hc⟩:=s.un.cells (i:=n.toNat) (by rw [jf]; exact hlt);rw [BK] at hc;generalize hn':n.toNat=m at hc hlt;have hsec:∀ j,j<2->∃ ta:cn,ta=(S (2*m+j)).s/\Tu h ta.p ta.l (S (2*m+j)).ws:=by
  intro j hj;have hs:=s.wV.sec (2*m+j) ad;exact ⟨_,rfl,GO.vd (b:=B+4) ⟨hs.out,hs.fe⟩⟩
 have hit:k=0\/k=1->th S N n k=(S (2*m+k.toNat)).ws.map (·.2):=fun hk=>by
  unfold th;rw [W2 ⟨ad,ad,hk⟩,hn']
 refine av rfl ?_;refine af s.box ((usl.p,usl.l,usl.c),()) rfl ?_;refine an ?_;refine ay ⟨ad,ad⟩ (av ha ?_);obtain ⟨ta,hta,va⟩:=hsec 0 ad;obtain ⟨tb,htb,vb⟩:=hsec 1 ad;have hc:aG h (a.add (m*4)) 0 [ta.v,tb.v,lO.v,lO.v]:=by rw [hta,htb]; exact hc
 refine az ((ta.p,ta.l,ta.c),()) (ey 1 _ 0 hc) ?_;refine an ?_;have fin:∀ (j:Nat) (t:cn),j<2->t=(S (2*m+j)).s->Tu h t.p t.l (S (2*m+j)).ws->(T.call Tryz.prog 53 [.slice t.p t.l t.c] false [(false,[.slice 64])] fun p l c=>Vu p l c) [] (w8 h ((S (2*m+j)).ws.map (·.2))) h:=by
  intro j t hj ht vt;have hsz:=hs (2*m+j) ad;have se:=s.wV.sec (2*m+j) ad;refine aH (BI (c:=t.c) vt hsz.1) ?_;rintro _ h1 ⟨⟨p',c',rfl,s1⟩,e1⟩;refine ⟨((p',t.l,c'),()),rfl,?_⟩;refine an ?_;exact RM (s:=⟨p',t.l,c'⟩) e1 s1 se.fe hsz.1 hsz.2
 refine ak (fun q=>?_) (fun q=>?_)
 ·have hk:k=1:=by simpa using q
  rw [hit (.inr hk),hk];refine av rfl ?_;refine af s.box ((usl.p,usl.l,usl.c),()) rfl ?_;refine an ?_;refine ay ⟨ad,ad⟩ (av ha ?_);refine az ((tb.p,tb.l,tb.c),()) (ey 1 [_,_,_] 0 (hQ _ 1 0 (gj 1 _ 0 hc))) ?_;refine an ?_;exact fin 1 tb ad htb vb
 ·have hk:k=0:=by
   have:¬ k=1:=by
    intro h;rw [h] at q;exact absurd q bU
   omega
  rw [hit (.inl hk),hk];exact fin 0 ta ad hta va
theorem SO {h:Hp} {b:Nat} {e:TypeId} {sz:Nat} {p:Option ZC} {l c:Nat} {xs:List (List ZB)} (s:SL h b e sz p l c xs):(p=none/\xs=[])\/∃ a,p=some a/\aG h a 0 xs.flatten:=by
 cases p with
 | none=>exact .inl ⟨rfl,s.2.2.2⟩
 | some a =>
  refine .inr ⟨a,rfl,?_⟩
  have:=fD (h:=h) (a:=a) (sz:=sz) xs 0 s.2.1 (fun i hi=>by
   obtain ⟨a',ha,hc⟩:=s.cells hi;cases ha;rw [Xq];exact hc)
  rwa [YX] at this
theorem Gw (ls:List Lb):(ls.map Am).flatten.all cP=true:=by
 rw [Xn];intro v hv;obtain ⟨x,hx,hv⟩:=YM.1 hv;obtain ⟨t,_,rfl⟩:=WX.1 hx;simp only [Am,List.mem_cons,List.not_mem_nil,or_false] at hv;rcases hv with rfl | rfl | rfl | rfl <;> rfl
theorem I0 (ls:List Lb):∀ y,y∈ls.map Am->y.length=4:=by
 intro y hy;obtain ⟨u,_,rfl⟩:=WX.1 hy;rfl
theorem IU {h:Hp} {b:Nat} {p:Option ZC} {l c:Nat} {ls:List Lb} (s:SL h b 76 4 p l c (ls.map Am)) (hl:ls.length<=2^30) :
  HC Tryz.prog 55 #[.slice p l c] h fun w h'=>(∃ p' c',w=.slice p' l c'/\SL h' h.size 76 4 p' l c' (ls.map Am))/\Ext h h':=by
 refine aX (args:=[.slice p l c]) mixed Tryz.func55 ax (fc p l c) ?_;unfold dp bh bd;have hll:l=ls.length:=by have:=s.1; rwa [WQ] at this
 cases p with
 | none =>
  refine bT rfl ?_;have h2:ls=[]:=by simpa using s.2.2.2
  subst h2;subst hll;exact ⟨⟨none,0,rfl,SL.nil _ _ _ _⟩,Ch.refl _ _⟩
 | some a =>
  refine bZ rfl ?_;refine lf (e:=76) (z:=.agg #[.int .i64 0,.int .i64 0,.int .i64 0,.string ⟨#[]⟩]) (sz:=4) (by':=40) Rs UF rfl (SO s) (by simpa using hll) (I0 ls) (Gw ls) ad ad ?_;intro p' c' h' s' e';exact ⟨⟨p',c',rfl,s'⟩,e'⟩
theorem nw (s:oV h B w usl lb sp N M S) (hl:w.lb.length<=2^30):HC Tryz.prog 18 #[ptr (B+3)] h fun v h'=>Ext h h'/\∃ p l c,v=.slice p l c/\SL h' h.size 76 4 p l c (w.lb.map Am):=by
 refine aX (args:=[ptr (B+3)]) mixed Tryz.func18 ax (lJ (some ⟨B+3,0,none⟩)) ?_;unfold iy bG;refine av rfl ?_;rw [aE];refine af s.box ((lb.p,lb.l,lb.c),()) rfl ?_;refine an ?_;refine aH (IU (c:=lb.c) s.pz hl) ?_;rintro _ h1 ⟨⟨p',c',rfl,s1⟩,e1⟩;exact ⟨((p',lb.l,c'),()),rfl,e1,p',lb.l,c',rfl,s1⟩
end
def RO:ZB:=.tuple #[.pointer none,.pointer none,.bool false,.bool true]
def NU (us:List bJ) (P:LP) (F:bJ->List cB) (tw:List (cn × List (cn × cB))):Prop :=
 tw.length=us.length/\∀ n u x,us[n]?=some u->tw[n]?=some x->x.2.map (·.2)=(F u).map (P.eJ n)
structure Oz (h0 h':Hp) (us:List bJ) (su:cn) (P:LP) (B:Nat) (usl lb:cn) (S:Nat->kr) (g b':Nat) (lb2 st sd:cn) (tw dw:List (cn × List (cn × cB))):Prop where
 le:h0.size<=B
 pg:oV h' B P.w usl lb ((kG us:Nat):Int) us.length (2*us.length) S
 R3:∀ n,(hn:n<us.length)->(S (2*n)).ws.map (·.2)=us[n].text.map (P.eJ n)/\(S (2*n+1)).ws.map (·.2)=us[n].data.map (P.eJ n)
 sz:∀ k,k<2*us.length->Ma (S k)
 pr:Di h' g su lb2 st sd (bC 0 us)
 tx:uR h' b' st tw
 dx:uR h' b' sd dw
 ti:NU us P (·.text) tw
 di:NU us P (·.data) dw
def Wc (h0:Hp) (us:List bJ) (su:cn) (v:ZB) (h':Hp):Prop:=Ext h0 h' /\
 if mQ us=true then v=RO else match iR us with
 | .error _=>v=RO
 | .ok P=>∃ B usl lb S g b' lb2 st sd tw dw,v=.tuple #[ptr (B+3),ptr g,.bool true,.bool true]/\Oz h0 h' us su P B usl lb S g b' lb2 st sd tw dw
theorem KL {us:List bJ} {P:LP} (a1:La us (.ok P)) (sm:FJ us) {ms:List cE} (hm:ms.map eU=(dR us (bC 0 us) us).map fun y=>(y.1,eC (eE (dR us (bC 0 us) us)) y.1)) {F:bJ->List cB} (hF:∀ u x,x∈F u->x.e∈cg u)
  {tw:List (cn × List (cn × cB))} (t:yc us (bC 0 us) ms F us.length tw):NU us P F tw:=by
 obtain ⟨z1,l1,u1,d1,A1,b1,c1,f1⟩:=a1;refine ⟨t.1,fun n u x hu hx=>?_⟩;rw [t.2 n u x hu hx];refine XC fun y hy=>?_
 have hn:=(W6.1 hu).1;have hyl:=hF u y hy;have hbad:P.w.bad n y.e=none:=by
  have h1:=jb us 0 b1 n hn;rw [Xq,(W6.1 hu).2,rG,XA] at h1;exact h1 _ hyl
 have e1:=A1.put b1 c1 hn hbad (sm.num u (XD hu) _ hyl).1 hm;unfold LP.eJ vQ;rw [d1,e1]
theorem UA {h:Hp} (pw:fZ h) (tb0:An h) {su:cn} {us:List bJ} (v:uz h su.p su.l us) (sm:FJ us):HC Tryz.prog 20 #[.slice su.p su.l su.c] h (Wc h us su):=by
 refine aX (args:=[.slice su.p su.l su.c]) mixed Tryz.func20 ax (qL su.p su.l su.c) ?_;unfold lV aU bG bS;refine aI (MJ (c:=su.c) v) ?_;refine ak (fun q=>?_) (fun q=>?_)
 ·refine ⟨Ch.refl _ _,?_⟩;rw [W2 q] <;> rfl
 ·have hq:∀ (w:ZB) (h':Hp),(Ext h h'/\match iR us with
    | .error _=>w=RO
    | .ok P=>∃ B usl lb S g b' lb2 st sd tw dw,w=.tuple #[ptr (B+3),ptr g,.bool true,.bool true]/\Oz h h' us su P B usl lb S g b' lb2 st sd tw dw)->Wc h us su w h':=by
   intro w h' hh;refine ⟨hh.1,?_⟩;rw [WV (by rw [q]; simp)];exact hh.2
  have ag:=pf sm.num;refine aH (H8 (c:=su.c) pw tb0 v sm) ?_;rintro _ h1 ⟨e1,hl⟩;have v1:=v.ao e1;cases hlp:iR us with
  | error f =>
   rw [hlp] at hl ag hq;have hl:_=HM f.nT f.unit f.name:=hl;subst hl;obtain ⟨hne,ha⟩:=ag;refine ⟨(none,(f.nT:Int),(f.unit:Int),f.name,()),rfl,?_⟩;refine an ?_;refine bm ?_;intro h2 b2 e2 z2;refine aw b2 rfl aj ?_;intro h3 b3 k3 z3;have b3:bz h3 h1.size 37 [.int .i64 (f.nT:Int),.int .i64 (f.unit:Int),.string f.name]:=b3;have e13:Ext h1 h3:=Ch.trans e2 k3 (fun i hi hx=>by simp at hi; omega);have hC:(et us).nT=0->LN us (PJ us):=by
    intro hz;rcases ha with ha | ⟨_,⟨h64,w,A,hb⟩,_⟩
    ·rw [ha] at hz;exact absurd hz hne
    ·exact DU sm h64 A hb
   refine aH (Bu (v1.ao e13) hC) ?_;rintro w4 h4 ⟨e4,hr⟩;have hw:w4=Value.tuple #[.pointer none,Oj f]:=by
    unfold BL at hr;rcases ha with ha | ⟨hz,_,i,x,hx,hi,rfl⟩
    ·rw [W2 (by rw [ha]; exact hne),ha] at hr;exact hr
    ·rw [WV ad] at hr;rcases hr with ⟨i',x',hx',hi',hw⟩ | ⟨_,_,_,_,_,_,_,_,hx',_⟩
     ·rw [hx] at hx';cases hx';rw [hi] at hi';cases hi';exact hw
     ·rw [hx] at hx';cases hx'
   subst hw;refine ⟨(none,(f.nT:Int),(f.unit:Int),f.name,()),rfl,?_⟩;refine an ?_;refine bm ?_;intro h5 b5 e5 z5;refine aw b5 rfl aj ?_;intro h6 b6 k6 z6;have b6:bz h6 h4.size 54 [.int .i64 (f.nT:Int),.int .i64 (f.unit:Int),.string f.name]:=b6;have e46:Ext h4 h6:=Ch.trans e5 k6 (fun i hi hx=>by simp at hi; omega);have b36:=b3.ao (e4.trans e46) aj;have e06:=((e1.trans e13).trans e4).trans e46;refine af b36 ((f.nT:Int),()) rfl ?_;refine an ?_;refine af b6 ((f.nT:Int),()) rfl ?_;refine an ?_;refine bT aj ?_;rw [aE,aE];refine af b36 ((f.unit:Int),()) rfl ?_;refine an ?_;refine af b6 ((f.unit:Int),()) rfl ?_;refine an ?_;refine bT aj ?_;rw [aE,aE];refine af b36 (f.name,()) rfl ?_;refine an ?_;refine af b6 (f.name,()) rfl ?_;refine an ?_;refine bT aj ?_;refine af b6 ((f.nT:Int),()) rfl ?_;refine an ?_;have hz:((f.nT:Int)==(0:Int))=false:=by
    have:¬ (f.nT:Int)=0:=ad
    simpa using this
   rw [hz];refine bT rfl ?_;exact hq _ _ ⟨e06,rfl⟩
  | ok P =>
   rw [hlp] at hl ag hq;obtain ⟨B,usl,lb,S,hB,hv,pg,R3,hz⟩:=hl;subst hv;have ag':=ag;obtain ⟨z1,h64,u1,d1,A1,b1,c1,f1⟩:=ag;refine ⟨(some ⟨B+3,0,none⟩,(0:Int),(0:Int),(⟨#[]⟩:ZA),()),rfl,?_⟩;refine an ?_;refine bm ?_;intro h2 b2 e2 z2;refine aw b2 rfl aj ?_;intro h3 b3 k3 z3;have b3:bz h3 h1.size 37 [.int .i64 0,.int .i64 0,.string ⟨#[]⟩]:=b3;have e13:Ext h1 h3:=Ch.trans e2 k3 (fun i hi hx=>by simp at hi; omega);refine aH (Bu (v1.ao e13) (fun _=>DU sm h64 A1 b1)) ?_;rintro _ h4 ⟨e4,hr⟩;unfold BL at hr;rw [WV ad] at hr;rcases hr with ⟨i',x',hx',_⟩ | ⟨g,b',lb2,st,sd,tw,dw,ms,_,hw,hms,pr,tx,dx,ti,di⟩
   ·rw [f1] at hx';cases hx'
   subst hw;refine ⟨(some ⟨g,0,none⟩,(0:Int),(0:Int),(⟨#[]⟩:ZA),()),rfl,?_⟩;refine an ?_;refine bm ?_;intro h5 b5 e5 z5;refine aw b5 rfl aj ?_;intro h6 b6 k6 z6;have b6:bz h6 h4.size 54 [.int .i64 0,.int .i64 0,.string ⟨#[]⟩]:=b6;have e46:Ext h4 h6:=Ch.trans e5 k6 (fun i hi hx=>by simp at hi; omega);have b36:=b3.ao (e4.trans e46) aj;have e16:=(e13.trans e4).trans e46;refine af b36 ((0:Int),()) rfl ?_;refine an ?_;refine af b6 ((0:Int),()) rfl ?_;refine an ?_;refine bT rfl ?_;rw [aE,aE];refine af b36 ((0:Int),()) rfl ?_;refine an ?_;refine af b6 ((0:Int),()) rfl ?_;refine an ?_;refine bT rfl ?_;rw [aE,aE];refine af b36 ((⟨#[]⟩:ZA),()) rfl ?_;refine an ?_;refine af b6 ((⟨#[]⟩:ZA),()) rfl ?_;refine an ?_;refine bT aj ?_;refine af b6 ((0:Int),()) rfl ?_;refine an ?_;refine bT rfl ?_;refine hq _ _ ⟨e1.trans e16,B,usl,lb,S,g,b',lb2,st,sd,tw,dw,rfl,hB,pg.ext e16,R3,hz,pr.ao e46,tx.ext e46,dx.ext e46,?_,?_⟩
   ·exact KL ag' sm hms (fun u x hx=>Xk _ (Xk _ (W7 hx))) ti
   ·exact KL ag' sm hms (fun u x hx=>Xk _ (Xr _ (W7 hx))) di
end Go.Sx.Lk
namespace Go.Sx.Ob
open Go.Proofs
structure Wh where
 kind:Nat
 items:List cB
 name:ZA
 e:bX
 sec:Nat
def VJ (k:Nat):List UInt8:=(um k).data.toList
structure Wg where
 text:List cB
 data:List cB
 aY:List qi
 names:List ZA
 aP:List (ZA × Nat)
 sec:Nat
def Ue (w:Wg) (Hv:ZA) (t:Wh):Prop:=(Hv≠dt/\fz w.names Hv=true)\/(t.kind=3/\(fz w.names t.name=true\/t.name=Hv))
instance (w:Wg) (Hv:ZA) (t:Wh):Decidable (Ue w Hv t):=by unfold Ue; infer_instance
end Go.Sx.Ob
namespace Go.Sx.Lk
open Go.Proofs Go.Sx.Ob
theorem Ux:Tryz.prog.underlying 37=some (.struct (AH Tryz.prog 37)):=ax
theorem U2 (a b:Int) (s:ZA) (a' b':Int) (s':ZA):(AH Tryz.prog 37).all (FK #[.int .i64 a,.int .i64 b,.string s] #[.int .i64 a',.int .i64 b',.string s'])=(a==a' && (b==b' && (s==s' && true))):=by
 rw [<- Yb]
 kernel_rfl
theorem Sd (x y:Operand) (a b:Int) (s:ZA) (a' b':Int) (s':ZA) (h:Hp) (K:ZB->Hp->Prop) (hk:K (.bool !(a==a' && (b==b' && s==s'))) h) :
  aQ Tryz.prog (Sx.iF (BinOp.neq) 37 x y (.agg #[.int .i64 a,.int .i64 b,.string s]) (.agg #[.int .i64 a',.int .i64 b',.string s'])) h K:=by
 refine uG Ux ax ax ax K ?_;rw [U2,Yf];exact hk
theorem GO.vw {h:Hp} {b:Nat} {s:cn} {ws:List (cn × cB)} (o:GO h b s ws) (hl:ws.length<=2^60) (hx:∀ x,x∈ws.map (·.2)->x.name.size<=maxLen/\Sm x.inst.op/\x.e.ai.length<=2^60/\∀ t,t∈x.e.ai->t.1.size<=maxLen):CD h s.p s.l (ws.map (·.2)) :=
 ⟨by have:=o.out.1; rw [WQ] at this ⊢; exact this,by rw [WQ]; exact hl,fun i hi=>by
  rw [WQ] at hi;obtain ⟨a,ha,hc⟩:=o.out.cells (i:=i) (by simpa using hi);rw [WY] at hc;rw [WY];have h1:=hx ws[i].2 (W7 (WZ hi));exact ⟨a,_,_,_,ha,hc,⟨wF (o.fe _ (WZ hi)),h1.2.2.1,h1.2.2.2⟩,h1.1,h1.2.1⟩⟩
section
variable {L:Lp} {K:ZB->Hp->Prop}
end
section
variable {h0 h h':Hp} {us:List bJ} {su:cn} {P:LP} {B:Nat} {usl lb:cn} {S:Nat->kr} {g b':Nat} {lb2 st sd:cn} {tw dw:List (cn × List (cn × cB))}
structure One (h0 h':Hp) (us:List bJ) (P:LP) (B:Nat) (usl lb:cn) (S:Nat->kr):Prop where
 le:h0.size<=B
 pg:oV h' B P.w usl lb ((kG us:Nat):Int) us.length (2*us.length) S
 R3:∀ n,(hn:n<us.length)->(S (2*n)).ws.map (·.2)=us[n].text.map (P.eJ n)/\(S (2*n+1)).ws.map (·.2)=us[n].data.map (P.eJ n)
 sz:∀ k,k<2*us.length->Ma (S k)
theorem One.ext (b:One h0 h us P B usl lb S) (e:Ext h h'):One h0 h' us P B usl lb S:=⟨b.le,b.pg.ext e,b.R3,b.sz⟩
theorem Oz.one (b:Oz h0 h us su P B usl lb S g b' lb2 st sd tw dw):One h0 h us P B usl lb S:=⟨b.le,b.pg,b.R3,b.sz⟩
def wR (u:bJ) (j:Nat):List cB:=if j=0 then u.text else u.data
theorem One.sec (b:One h0 h us P B usl lb S) {n j:Nat} (hn:n<us.length) (hj:j<2):(S (2*n+j)).ws.map (·.2)=(wR us[n] j).map (P.eJ n):=by
 unfold wR
 by_cases h:j=0
 ·rw [W2 h,h]; exact (b.R3 n hn).1
 ·rw [WV h,show j=1 from ad]; exact (b.R3 n hn).2
theorem One.item (b:One h0 h us P B usl lb S) {n j:Nat} (hn:n<us.length) (hj:j<2):th S us.length (n:Int) (j:Int)=(wR us[n] j).map (P.eJ n):=by
 unfold th;rw [W2 ⟨ad,ad,ad⟩];rw [show ((n:Int)).toNat=n from ad,show ((j:Int)).toNat=j from ad];exact b.sec hn hj
theorem One.ok (b:One h0 h us P B usl lb S) {hv:Hp} {p:Option ZC} {l:Nat} (v:uz hv p l us) {n j:Nat} (hn:n<us.length) (hj:j<2):∀ x,x∈(wR us[n] j).map (P.eJ n)->x.name.size<=maxLen/\Sm x.inst.op/\x.e.ai.length<=2^60/\∀ t,t∈x.e.ai->t.1.size<=maxLen:=by
 intro x hx;obtain ⟨y,hy,rfl⟩:=WX.1 hx;have hz:=b.sz (2*n+j) ad;rw [<- b.sec hn hj] at hx;obtain ⟨w,hw,he⟩:=WX.1 hx;have h1:=hz.TN w hw;have h2:=hz.sz w hw;rw [he] at h1 h2;obtain ⟨a,sa,sb,sc,sd',ha,hc,va⟩:=v.cells n hn;have hi:iM hv none 0 y\/(y.name.size<=maxLen/\Sm y.inst.op):=by
  right
  have key:∀ {q:Option ZC} {m:Nat} {xs:List cB},CD hv q m xs->y∈xs->y.name.size<=maxLen/\Sm y.inst.op:=by
   intro q m xs vx hm;obtain ⟨i,hi,rfl⟩:=Xg hm;obtain ⟨_,_,_,_,_,_,it⟩:=vx.cells i hi;exact ⟨it.name,it.op⟩
  unfold wR at hy
  by_cases h:j=0
  ·rw [W2 h] at hy; exact key va.text hy
  ·rw [WV h] at hy; exact key va.data hy
 have hi:y.name.size<=maxLen/\Sm y.inst.op:=hi.elim (fun it=>⟨it.name,it.op⟩) id;exact ⟨hi.1,hi.2,ad,h2⟩
theorem One.many (b:One h0 h us P B usl lb S) {n j:Nat} (hn:n<us.length) (hj:j<2):(wR us[n] j).length<=2^30:=by
 have h1:=(b.sz (2*n+j) ad).len;have h2:=Xa List.length (b.sec hn hj);rw [WQ,WQ] at h2;omega
theorem One.out (b:One h0 h us P B usl lb S) (h64:us.length<=2^20) {hv:Hp} {p:Option ZC} {l:Nat} (v:uz hv p l us) {n j:Nat} (hn:n<us.length) (hj:j<2) :
  HC Tryz.prog 17 #[ptr (B+3),.int .i64 (n:Int),.int .i64 (j:Int)] h fun w h'=>Ext h h'/\∃ t ws,w=cn.v t/\GO h' h.size t ws/\ws.map (·.2)=(wR us[n] j).map (P.eJ n)/\CD h' t.p t.l ((wR us[n] j).map (P.eJ n)):=by
 have hit:=NB b.pg (W9 _) ad (fun k hk=>⟨(b.sz k hk).len,(b.sz k hk).TN⟩) n j ad;rw [b.item hn hj] at hit;refine HC.mono hit fun w h' hr=>?_
 obtain ⟨e,t,ws,hw,o,hm⟩:=hr;refine ⟨e,t,ws,hw,o,hm,?_⟩;have hmn:=b.many hn hj;have hlen:ws.length<=2^60:=by
  have:=Xa List.length hm
  rw [WQ,WQ] at this;omega
 have:=o.vw hlen (by rw [hm]; exact b.ok v hn hj)
 rwa [hm] at this
end
end Go.Sx.Lk
namespace Go.Sx.Cr
open Go.Proofs Go.MapKept Go.WideAt Go.WideMaps Go.Maps Go.RowKit Go.WideElems Go.Sort Go.Shelf
theorem G0 {h:Hp} {q b:Nat} {D:List (ZA × ZB)} {cs:Array ZB} {e:TypeId} {f:Nat × Nat} (hq:h[q]?=some (.cells cs e f)) (hc:cs[0]?=some (.map (some b))) (m:eD h b D) (hl:D.length<=1024) :
  HC Tryz.prog 108 #[.func (.func 124) #[] #[.pointer (some ⟨q,0,none⟩)]] h fun v h'=>∃ ss:List (List UInt8),ss.Perm (D.map fun p=>p.1.data.toList)/\(v=.slice none 0 0↔ss=[])/\Ext h h' /\
   ss.length=((ss.mergeSort fun x y=>decide (x<=y)).map encStr).length /\
   ((v=.slice none 0 0/\ss.length=0)\/∃ g cap jd,v=.slice (some ⟨g,0,none⟩) ss.length cap/\h.size<=g/\h'[g]?=some (.cells jd 9 (0,0))/\ss.length<=cap/\cap<=maxLen/\jd.size=cap*1/\jd.toList.take (ss.length*1)=(ss.mergeSort fun x y=>decide (x<=y)).map encStr):=by
 intro W hW;subst hW;obtain ⟨D0,hown,hperm,hsize⟩:=eD.owns m (by unfold maxLen; omega);have gU:W.cell? ⟨q,0,none⟩=some (.map (some b)):=by
  unfold World.cell?;rw [hq];exact hc
 have hseq:SeqGives Fence.wide 2 Tryz.prog 124 #[.pointer (some ⟨q,0,none⟩)] encStr (fun ss=>ss.Perm (strKeys D0)) (Maps.size D0) W :=
  AnyZ.keys_gives (ρ:=Tryz.rm) { Tryz.CP with } Fence.wide _ trivial rfl ad q b D.length D0 _ (eP hq) gU hown
 have hmax:Maps.size D0<=maxLen:=by rw [hsize]; unfold maxLen; omega
 have hbytes:Maps.size D0*16<=140737488355328:=by rw [hsize]; omega
 have:=AnyZ.sorted_in Tryz.Bg Fence.wide 5 trivial trivial trivial trivial rfl ad (Tryz.Ez _) (enters_of Tryz.func123 ax rfl) 124 #[.pointer (some ⟨q,0,none⟩)] trivial (enters_of Tryz.func124 ax rfl) _ _ hmax hbytes _ hseq
 refine (callsIn_wide.1 this).mono fun e w' hr=>?_
 obtain ⟨v,ss,he,hp,hrow,hnil,hb⟩:=hr;obtain ⟨h1,h2⟩:=hrow;exact ⟨v,he,⟨hb.os,hb.tape,hb.output⟩,ss,hp.trans hperm,hnil,⟨hb.size,fun i hi _=>hb.block i hi⟩,by rw [h1]; simp,h2⟩
theorem wc (x:ZA):∀ l,(B9 x l).Perm (x::l)
 | []=>List.Perm.refl _
 | y::l=>by
  unfold B9;split
  ·exact List.Perm.refl _
  ·exact ((wc x l).cons y).trans (List.Perm.swap x y l)
theorem yE:∀ l,(qW l).Perm l
 | []=>List.Perm.refl _
 | x::l=>(wc x (qW l)).trans ((yE l).cons x)
theorem xN (x:ZA):∀ l:List ZA,(l.Pairwise fun a b=>a.data.toList<=b.data.toList)->((B9 x l).Pairwise fun a b=>a.data.toList<=b.data.toList)
 | [],_=>by simp [B9]
 | y::l,h=>by
  rw [X9] at h;unfold B9;rw [Proofs.bytesLess_eq]
  by_cases hlt:x.data.toList<y.data.toList
  ·rw [W1 hlt];have hxy:x.data.toList<=y.data.toList:=List.le_of_lt hlt;refine X9.2 ⟨fun b hb=>?_,X9.2 h⟩;rcases Xo.1 hb with rfl | hb
   ·exact hxy
   ·exact List.le_trans hxy (h.1 b hb)
  ·rw [W4 hlt];refine X9.2 ⟨fun b hb=>?_,xN x l h.2⟩;rcases Xo.1 ((wc x l).mem_iff.1 hb) with rfl | hb
   ·exact List.not_lt.1 hlt
   ·exact h.1 b hb
theorem uC:∀ l,(qW l).Pairwise fun a b=>a.data.toList<=b.data.toList
 | []=>List.Pairwise.nil
 | x::l=>xN x _ (uC l)
theorem Gq {ss:List (List UInt8)} {ks:List ZA} (hp:ss.Perm (ks.map fun k=>k.data.toList)):(ss.mergeSort fun x y=>decide (x<=y)).map encStr=(qW ks).map Value.string:=by
 have h1:ss.mergeSort (fun x y=>decide (x<=y))=(qW ks).map fun k=>k.data.toList:=by
  have tr:∀ a b c:List UInt8,decide (a<=b)=true->decide (b<=c)=true->decide (a<=c)=true:=fun a b c h1 h2=>by simp only [decide_eq_true_eq] at *; exact List.le_trans h1 h2
  have to:∀ a b:List UInt8,(decide (a<=b) || decide (b<=a))=true:=fun a b=>by simp only [Bool.or_eq_true,decide_eq_true_eq]; exact List.le_total a b
  refine List.Perm.eq_of_pairwise (le:=fun a b=>decide (a<=b)=true) (fun a b _ _ h1 h2=>?_) (List.pairwise_mergeSort tr to ss) ?_ ((List.mergeSort_perm ss _).trans (hp.trans ((yE ks).map _).symm))
  ·simp only [decide_eq_true_eq] at h1 h2;exact List.le_antisymm h1 h2
  ·rw [XM];exact (uC ks).imp fun h=>by simpa using h
 rw [h1,Xf];refine XC fun k _=>?_
 show encStr k.data.toList=.string k;unfold encStr
 congr 1
noncomputable def VV (tab:List ZB):Cx:=⟨Tryz.prog,110,110,0,108,124,144,3,fun | 0=>some tab | _=>none⟩
theorem Sn:Tryz.prog.cellsOf 9=1:=ax
theorem Ti (tab:List ZB):Ok (VV tab) where
 kt k hk:=by
  have hk:(Nat.beq k 110 || Nat.beq k 110)=true:=hk;rw [Bool.or_eq_true] at hk;have e:k=110:=hk.elim W3 W3;subst e;exact Ob.Vm
 ki k hk:=by cases (show false=true from hk)
 idx x n h K hk:=by
  show aQ Tryz.prog (G7 144 #[.string x,.int .u8 n]) h K;refine DX (e:=Extern.BytealgIndexByte.indexByte) Tryz.func144 RJ Ra QZ Q4 ?_;rw [qJ];exact hk
 RB h q b D cs e f hq hc m hl:=by
  show HC Tryz.prog 108 #[.func (.func 124) #[] #[.pointer (some ⟨q,0,none⟩)]] h _;refine HC.mono (G0 hq hc m hl) fun v h' hr=>?_
  obtain ⟨ss,hp,hnil,hext,hlen,hrow⟩:=hr;refine ⟨hext,?_⟩;have hsl:ss.length=D.length:=by rw [hp.length_eq]; simp
  cases D with
  | nil =>
   have:ss=[]:=XN (by rw [hsl]; rfl)
   exact hnil.2 this
  | cons p D =>
   rcases hrow with ⟨_,h0⟩ | ⟨g,cap,jd,hv,hg,hcur,hle,hcap,hsz,htk⟩
   ·rw [hsl] at h0; simp at h0
   ·have hk:=Gq (ss:=ss) (ks:=(p::D).map (·.1)) (by rw [Xf]; exact hp);rw [hk] at htk;refine ⟨g,jd.toList.drop ss.length,cap,hg,by rw [<- hsl]; exact hv,by unfold maxLen at hcap; omega,?_,by rw [<- hsl]; exact hle,?_⟩
    ·have h9:jd.toList.length=cap*1:=by rw [XT]; exact hsz
     rw [show (VV tab).P.cellsOf 9=1 from Sn,XQ,h9,<- hsl]; omega
    ·unfold bz;rw [hcur,<- htk,Nat.mul_one,Xw]
open Go.Proofs
def opsV:List ZB:=Ob.lE Ob.um Ob.uN
noncomputable def cx:Cx:=VV opsV
theorem Nu:Ok cx:=Ti opsV
theorem J8:opsV.all (fk 9)=true:=ax
theorem Ru {h:Hp} (ht:∃ e f,h[0]?=some (.cells opsV.toArray e f)):∀ b c,cx.ro b=some c->b<cx.ng/\∃ cs e f,h[b]?=some (.cells cs e f)/\∀ (i:Nat) (v:ZB),c[i]?=some v->cs[i]?=some v/\fk 9 v=true:=by
 obtain ⟨e,f,ht⟩:=ht;intro b c hb;cases b with
 | succ b=>cases (show none=some c from hb)
 | zero =>
  cases (show some opsV=some c from hb);refine ⟨show 0<3 from ad,opsV.toArray,e,f,ht,fun i v hv=>⟨by rw [Yw]; exact hv,?_⟩⟩;exact Xn.1 J8 v (XD hv)
noncomputable def QQ:Code:=Tryz.f9.body.getD .skip
noncomputable def Wt:CS:=⟨oy cx.ng .nil,cx.ng⟩
theorem MK:Tryz.f9.body=some QQ:=ax
theorem OL:Ng cx (O9 cx 60) Tryz.f9 (.bool true) QQ .nil Wt=true:=ax
theorem MO {h:Hp} (ht:∃ e f,h[0]?=some (.cells opsV.toArray e f)):HC Tryz.prog 9 #[] h fun v h'=>v=.bool true/\Ext h h' :=
 K5 (C:=cx) Tryz.func9 MK fun e' a er g=>OY Nu mixed (Ix Nu mixed 60) rfl OL _ e' a h (Bd (Ru ht)) er g
open Go.Proofs Go.Sx.Ob
section
variable {C:Cx} {h0 h:Hp} {ρ:fR} {σ:dB AO}
def Up (n:Nat) (h h2:Hp):Prop:=∀ i,n<=i->i<h.size->h2[i]?=h[i]?
theorem yB {n g off:Nat} {h h2:Hp} (u:Up n h h2) (hg:n<=g):∀ (r:List ZB) (i:Nat),aG h ⟨g,off,none⟩ i r->aG h2 ⟨g,off,none⟩ i r
 | [],_,_=>trivial
 | v::r,i,hc=>by
  have h1:=hc.1;refine ⟨?_,yB u hg r (i+1) hc.2⟩;rw [aE] at h1 ⊢;unfold gU at h1 ⊢
  by_cases hl:g<h.size
  ·rw [u g hg hl];exact h1
  ·rw [show h[(Addr.mk g (off+i) none).block]?=none from XF (by show h.size<=g; omega)] at h1;cases h1
theorem Su (R:Rel C h0 ρ σ h) {b off l c m:Nat} {cs:List ZB} {e:TypeId} {v':ZB} (hv:VR ρ (.slice (some ⟨b,off,none⟩) l c) v') (hb:σ.get b=some (.row cs e m)) (hm2:m≠2) {ts:cU} (hl:l=ts.length) (hc:∀ i,(hi:i<ts.length)->zJ (off+i*2) 2 cs=some (cR ts[i])) :
  ∃ q c',v'=.slice q l c'/\∀ hz,Up h0.size h hz->gn hz q l ts:=by
 cases hv with
 | sl off l hp hcap hle =>
  rename_i pl c';have hlow:h0.size<=pl.bY:=by
   obtain ⟨_,_,_,_,z,_⟩:=R.row hb hp;exact (z hm2).2
  refine ⟨_,_,rfl,fun hz up=>⟨hl,fun i hi=>⟨_,rfl,?_⟩⟩⟩;obtain ⟨r',h1,h2⟩:=EK R hb hp _ _ (hc i hi);have h3:r'=cR ts[i]:=by
   replace h1:dG ρ [.string ts[i].1,.int .u32 (ts[i].2:Int)] r':=h1
   cases h1 with
   | cons a1 h1 =>
   cases h1 with
   | cons a2 h1 =>
   cases h1; cases a1; cases a2; rfl
  rw [h3] at h2;rw [aE,show pl.sh+off+i*2=pl.sh+(off+i*2) from ad];exact yB up hlow _ _ h2
theorem SQ (R:Rel C h0 ρ σ h) {b off l c m:Nat} {cs:List ZB} {e:TypeId} {v':ZB} (hv:VR ρ (.slice (some ⟨b,off,none⟩) l c) v') (hb:σ.get b=some (.row cs e m)) (hm2:m≠2) {xs:List cB} (hl:l=xs.length) (hm:xs.length<=2^60)
  (hc:∀ i,(hi:i<xs.length)->∃ q m' c',zJ (off+i*10) 10 cs=some (encI q m' c' xs[i])/\∀ w,VR ρ (.slice q m' c') w->∃ q2 c2,w=.slice q2 m' c2/\∀ hz,Up h0.size h hz->iM hz q2 m' xs[i]) :
  ∃ q c',v'=.slice q l c'/\∀ hz,Up h0.size h hz->CD hz q l xs:=by
 cases hv with
 | sl off l hp hcap hle =>
  rename_i pl c';have hlow:h0.size<=pl.bY:=by
   obtain ⟨_,_,_,_,z,_⟩:=R.row hb hp;exact (z hm2).2
  refine ⟨_,_,rfl,fun hz up=>⟨hl,hm,fun i hi=>?_⟩⟩;obtain ⟨q,m',c'',hh0,hw⟩:=hc i hi;obtain ⟨r',h1,h2⟩:=EK R hb hp _ _ hh0;generalize xs[i]=x at h1 hw;have h3:∃ q2 c2,r'=encI q2 m' c2 x/\∀ hz,Up h0.size h hz->iM hz q2 m' x:=by
   replace h1:dG ρ [.int .i64 x.kind,.string x.name,.int .i64 x.inst.op,.int .i64 x.inst.a,.int .i64 x.inst.b,.int .i32 x.inst.n,.int .i64 x.inst.form,.slice q m' c'',.int .u32 x.e.num,.int .i64 x.n] r':=h1
   cases h1 with
   | cons a1 h1 =>
   cases h1 with
   | cons a2 h1 =>
   cases h1 with
   | cons a3 h1 =>
   cases h1 with
   | cons a4 h1 =>
   cases h1 with
   | cons a5 h1 =>
   cases h1 with
   | cons a6 h1 =>
   cases h1 with
   | cons a7 h1 =>
   cases h1 with
   | cons a8 h1 =>
   cases h1 with
   | cons a9 h1 =>
   cases h1 with
   | cons a10 h1 =>
   cases h1;obtain ⟨q2,c2,rfl,it⟩:=hw _ a8;cases a1; cases a2; cases a3; cases a4; cases a5; cases a6; cases a7; cases a9; cases a10;exact ⟨q2,c2,rfl,it⟩
  obtain ⟨q2,c2,rfl,it⟩:=h3;refine ⟨_,q2,m',c2,rfl,?_,it hz up⟩;rw [aE,show pl.sh+off+i*10=pl.sh+(off+i*10) from ad];exact yB up hlow _ _ h2
theorem B2 {v':ZB} (hv:VR ρ (.slice none 0 0) v'):v'=.slice none 0 0:=by
 cases hv;rfl
theorem Ia {x:cB} (he:x.e.ai=[]) (hn:x.name.size<=maxLen) (ho:Sm x.inst.op) (w:ZB) (hw:VR ρ (.slice none 0 0) w):∃ q2 c2,w=.slice q2 0 c2/\∀ hz,Up h0.size h hz->iM hz q2 0 x:=by
 rw [B2 hw];refine ⟨none,0,rfl,fun hz _=>⟨⟨⟨by rw [he]; rfl,fun i hi=>by rw [he] at hi; simp at hi⟩,by rw [he]; simp,by rw [he]; simp⟩,hn,ho⟩⟩
end
def sM:ZA:=⟨#[110,111,112,10,104,101,114,101,58,32,106,109,112,32,104,101,114,101]⟩
def kY:ZA:=⟨#[104,101,114,101]⟩
def uM:bJ:=⟨[⟨2,⟨#[]⟩,⟨1,0,0,0,0⟩,⟨[],0⟩,0⟩,⟨1,kY,⟨0,0,0,0,0⟩,⟨[],0⟩,0⟩,⟨2,⟨#[]⟩,⟨40,0,0,0,0⟩,⟨[(kY,1)],0⟩,0⟩],[],[],[]⟩
noncomputable def Wk:CS:=⟨oy cx.ng .nil,cx.ng⟩
noncomputable def rM:VS:=O9 cx 60 21 [.string sM] Wk
def VO:List ZB:=encI none 0 0 ⟨2,⟨#[]⟩,⟨1,0,0,0,0⟩,⟨[],0⟩,0⟩++encI none 0 0 ⟨1,kY,⟨0,0,0,0,0⟩,⟨[],0⟩,0⟩++encI (some ⟨62,0,none⟩) 1 1 ⟨2,⟨#[]⟩,⟨40,0,0,0,0⟩,⟨[(kY,1)],0⟩,0⟩
theorem NZ:rM.map (fun r=>(r.1,r.2.σ.get 73,r.2.σ.get 62))=some (.agg #[.slice (some ⟨73,0,none⟩) 3 1208925819614629174706176,.slice none 0 0,.slice none 0 0,.slice none 0 0],some (.row VO 64 1),some (.row (cR (kY,1)) 66 0)):=ax
theorem V4:zJ 0 2 (cR (kY,1))=some (cR (kY,1)):=ax
theorem Mh {h:Hp} (ht:∃ e f,h[0]?=some (.cells opsV.toArray e f)):HC Tryz.prog 21 #[.string sM] h fun v h'=>Ext h h'/\∃ a b c d,v=Ce a b c d/\∀ hz,Up h.size h' hz->nX hz a b c d uM:=by
 cases hr:rM with
 | none=>have:=NZ; rw [hr] at this; cases this
 | some r =>
  obtain ⟨v,s1⟩:=r;have ha:=NZ;rw [hr] at ha;simp only [Option.map_some,Option.some.injEq,Prod.mk.injEq] at ha;obtain ⟨hv,h73,h62⟩:=ha;have hc:=Ix (h0:=h) Nu mixed 60 21 [.string sM] Wk v s1 hr _ h [.string sM] (Bd (Ru ht)) (.cons (.string _) .nil);refine HC.mono hc fun v' h' hh=>?_
  obtain ⟨ρ1,_,R,hvr⟩:=hh;refine ⟨R.gives,?_⟩;rw [hv] at hvr;cases hvr with
  | agg hl =>
  cases hl with
  | cons a1 hl =>
  cases hl with
  | cons a2 hl =>
  cases hl with
  | cons a3 hl =>
  cases hl with
  | cons a4 hl =>
  cases hl;obtain rfl:=B2 a2;obtain rfl:=B2 a3;obtain rfl:=B2 a4;have hml:2000<=maxLen:=bU
  have hz:∀ n:Int,-1000<=n->n<=1000->Sm n:=fun n h1 h2=>by unfold Sm; omega
  obtain ⟨q,c',rfl,vi⟩:=SQ R a1 h73 bU (xs:=uM.text) rfl bU (fun i hi=>by
   match i,hi with
   | 0,_=>exact ⟨none,0,0,ax,Ia rfl (by show 0<=_; omega) (hz 1 ad ad)⟩
   | 1,_=>exact ⟨none,0,0,ax,Ia rfl (by show 4<=_; omega) (hz 0 ad ad)⟩
   | 2,_ =>
    refine ⟨some ⟨62,0,none⟩,1,1,ax,fun w hw=>?_⟩;obtain ⟨q2,c2,e,vt⟩:=Su R hw h62 bU (ts:=[(kY,1)]) rfl (fun i hi=>match i,hi with
     | 0,_=>V4)
    refine ⟨q2,c2,e,fun hx up=>⟨⟨vt hx up,show 1<=2^60 from bU,fun t ht=>?_⟩,(by show 0<=_; omega),hz 40 ad ad⟩⟩;have ht:t=(kY,1):=by simpa [uM] using ht
    rw [ht];show 4<=_;omega)
  exact ⟨⟨q,3,c'⟩,⟨none,0,0⟩,⟨none,0,0⟩,⟨none,0,0⟩,rfl,fun hh up=>⟨vi hh up,⟨rfl,bU,fun i hi=>absurd hi (by simp [uM])⟩,⟨rfl,bU,fun i hi=>absurd hi (by simp [uM])⟩,⟨rfl,bU,fun i hi=>absurd hi (by simp [uM])⟩⟩⟩
end Go.Sx.Cr
namespace Go.Sx.Lk
open Go.Proofs Go.Sx.Ob
theorem Mc {h0 h:Hp} (tab:∃ e f,h0[0]?=some (.cells Cr.opsV.toArray e f)) (e0:Ext h0 h):HC Tryz.prog 9 #[] h fun v h'=>v=.bool true/\Ext h0 h':=by
 refine HC.mono (Cr.MO ?_) fun v h' hr=>⟨hr.1,e0.trans hr.2⟩
 obtain ⟨e,f,ht⟩:=tab;exact ⟨e,f,e0.get ht aj⟩
def JC (h:Hp) (u:bJ) (ys:List ZB):Prop:=∃ sa sb sc sd:cn,ys=[sa.v,sb.v,sc.v,sd.v]/\nX h sa sb sc sd u
theorem KK {h:Hp} {p:Option ZC} {l:Nat} {us:List bJ} (v:uz h p l us):∃ xs:List (List ZB),xs.length=us.length/\(∀ y,y∈xs->y.length=4)/\((p=none/\xs=[])\/∃ a,p=some a/\aG h a 0 xs.flatten)/\∀ i,(hi:i<us.length)->(hx:i<xs.length)->JC h us[i] xs[i]:=by
 cases p with
 | none =>
  have:us=[]:=by
   cases us with
   | nil=>rfl
   | cons u us =>
    obtain ⟨a,_,_,_,_,ha,_⟩:=v.cells 0 aj;cases ha
  subst this;exact ⟨[],rfl,aj,.inl ⟨rfl,rfl⟩,fun i hi=>absurd hi aj⟩
 | some a =>
  obtain ⟨xs,hl,hx⟩:=lY (fun (u:bJ) (y:List ZB)=>y.length=4/\JC h u y/\True) us (fun i hi=>by
   obtain ⟨a',sa,sb,sc,sd,ha,hc,hu⟩:=v.cells i hi;exact ⟨[sa.v,sb.v,sc.v,sd.v],rfl,⟨sa,sb,sc,sd,rfl,hu⟩,trivial⟩)
  clear hx hl xs;obtain ⟨xs,hl,hx⟩:=lY (fun (iu:Nat × bJ) (y:List ZB)=>y.length=4/\JC h iu.2 y/\aG h (a.add (iu.1*4)) 0 y) ((List.range us.length).zip us) (fun i hi=>by
   have hi':i<us.length:=by simpa using hi
   obtain ⟨a',sa,sb,sc,sd,ha,hc,hu⟩:=v.cells i hi';cases ha;refine ⟨[sa.v,sb.v,sc.v,sd.v],rfl,⟨sa,sb,sc,sd,rfl,?_⟩,?_⟩
   ·simpa using hu
   ·simpa using hc)
  have hl':xs.length=us.length:=by simpa using hl
  have key:∀ i,(hi:i<us.length)->(hx:i<xs.length)->xs[i].length=4/\JC h us[i] xs[i]/\aG h (a.add (i*4)) 0 xs[i]:=by
   intro i hi hxi
   have:=hx i (by simpa using hi) hxi
   simpa using this
  have h4:∀ y,y∈xs->y.length=4:=by
   intro y hy;obtain ⟨i,hi,rfl⟩:=Xg hy;exact (key i ad hi).1
  refine ⟨xs,hl',h4,.inr ⟨a,rfl,?_⟩,fun i hi hxi=>(key i hi hxi).2.1⟩
  have:=fD (h:=h) (a:=a) (sz:=4) xs 0 h4 (fun i hi=>by
   rw [Xq];exact (key i ad hi).2.2)
  rwa [YX] at this
theorem SK {h:Hp} {b:Nat} {e:TypeId} {p:Option ZC} {l c:Nat} {xs:List (List ZB)} {us:List bJ} (s:SL h b e 4 p l c xs) (hl:xs.length=us.length) (hm:us.length<=2^60) (hx:∀ i,(hi:i<us.length)->(hxi:i<xs.length)->JC h us[i] xs[i]):uz h p l us :=
 ⟨by have:=s.1; omega,hm,fun i hi=>by
  obtain ⟨a,ha,hc⟩:=SL.cells s (i:=i) ad;obtain ⟨sa,sb,sc,sd,e,hu⟩:=hx i hi ad;rw [e] at hc;exact ⟨a,sa,sb,sc,sd,ha,hc,hu⟩⟩
theorem JC.ao {h h':Hp} {u:bJ} {ys:List ZB} (c:JC h u ys) (e:Ext h h'):JC h' u ys:=by
 obtain ⟨sa,sb,sc,sd,rfl,hu⟩:=c;exact ⟨sa,sb,sc,sd,rfl,hu.ao e⟩
theorem JC.plain {h:Hp} {u:bJ} {ys:List ZB} (c:JC h u ys):ys.all cP=true:=by
 obtain ⟨sa,sb,sc,sd,rfl,hu⟩:=c;rfl
theorem FO:Tryz.prog.underlying 22=some (.slice 30):=ax
theorem L5:(Tryz.prog.info? 30).map (fun i=>(i.zero,i.size,i.bytes))=some (some (.agg #[.slice none 0 0,.slice none 0 0,.slice none 0 0,.slice none 0 0]),4,96):=ax
theorem Hf {h:Hp} {us:List bJ} {xs:List (List ZB)} (hl:xs.length=us.length) (hx:∀ i,(hi:i<us.length)->(hxi:i<xs.length)->JC h us[i] xs[i]):xs.flatten.all cP=true:=by
 rw [Xn];intro v hv;obtain ⟨y,hy,hv⟩:=YM.1 hv;obtain ⟨i,hi,rfl⟩:=Xg hy;exact Xn.1 (hx i ad hi).plain v hv
open Cr in
theorem Of:dC uM=0:=ax
open Cr in
theorem Ty:∀ x,x∈cg uM->∀ t,t∈x.ai->t.1∈ek uM:=by
 intro x hx t ht;have hx:x=⟨[],0⟩\/x=⟨[(kY,1)],0⟩:=by
  have:x∈([⟨[],0⟩,⟨[],0⟩,⟨[(kY,1)],0⟩]:List bX):=hx
  simp only [List.mem_cons,List.not_mem_nil,or_false] at this;rcases this with h | h | h
  ·exact .inl h
  ·exact .inl h
  ·exact .inr h
 rcases hx with rfl | rfl
 ·simp at ht
 ·have ht:t=(kY,1):=by simpa using ht
  subst ht
  have:ek uM=[kY]:=ax
  rw [this]
  simp
open Cr in
theorem RR:∀ x,x∈cg uM->x.num<4294967296/\∀ t,t∈x.ai->t.2<4294967296:=by
 intro x hx
 have:x∈([⟨[],0⟩,⟨[],0⟩,⟨[(kY,1)],0⟩]:List bX):=hx
 simp only [List.mem_cons,List.not_mem_nil,or_false] at this;rcases this with rfl | rfl | rfl
 ·exact ⟨bU,fun t ht=>by simp at ht⟩
 ·exact ⟨bU,fun t ht=>by simp at ht⟩
 ·refine ⟨bU,fun t ht=>?_⟩;have ht:t=(kY,1):=by simpa using ht
  subst ht;decide
theorem Pv {u:bJ} (h:dC u=0):u.aP.length<=u.text.length+u.data.length+u.aY.length:=by
 have h1:=(vW h).2;have h0:=h1;unfold sO at h1;simp only [Bool.and_eq_true] at h1;have hn:u.aP.Nodup:=((qu _ _ _ h1.2).2).imp fun h=>jk h
 have h2:=jy u.aP (ek u) hn (Dv h);unfold ek at h2;rw [WU,WU,WQ] at h2;have k1:∀ l:List cB,(dL l).length<=l.length:=by
  intro l;unfold dL;rw [WQ];exact Yd _ _
 have:=k1 u.text
 have:=k1 u.data
 omega
theorem BE {us:List bJ} (hr:∀ u,u∈us->dC u=0) (h64:us.length<=64) (hl:mQ us=false):pn us<=1800:=by
 have h1:fG us<=900:=by
  unfold mQ at hl;rw [Bool.or_eq_false_iff] at hl
  have:=WS hl.2
  rw [Xt ad] at this;omega
 have key:∀ vs:List bJ,(∀ u,u∈vs->dC u=0)->pn vs<=2*fG vs:=by
  intro vs
  induction vs with
  | nil=>intro _; simp [pn,fG]
  | cons u vs ih =>
   intro hv;have h1:=ih fun w hw=>hv w (Xb _ hw)
   have h2:=Pv (hv u aj);unfold pn fG Eg at *;rw [Xy,XW,Xy,XW];omega
 have:=key us hr
 omega
open Cr in
theorem OP {us:List bJ} (sm:FJ us) (ht:3*((us.flatMap cg).flatMap (·.ai)).length<=2^20) (hr:∀ u,u∈us->dC u=0) (h64:us.length<64) (hl:mQ us=false):FJ (us++[uM]):=by
 have h1:=BE hr ad hl;refine ⟨by rw [WU,Yx]; omega,?_,fun u hu=>?_,?_⟩
 ·unfold pn at *;rw [W5,List.sum_append];show _+(3+0+0+0+0)<=_;omega
 ·rcases Xj.1 hu with hu | hu
  ·exact sm.num u hu
  ·rw [Xu.1 hu];exact RR
 ·rw [Yc,Yc,WU];show _+1<=_;omega
theorem Px:iV Cr.uM.text=1:=ax
theorem SZ (a b c d:cn):Instr.fill (fun j=>some (j*4,4)) ((Array.range (1*4)).map ((Value.agg #[.slice none 0 0,.slice none 0 0,.slice none 0 0,.slice none 0 0]).cells[· % (Value.agg #[.slice none 0 0,.slice none 0 0,.slice none 0 0,.slice none 0 0]).cells.size]!)) [(0,.agg #[.slice a.p a.l a.c,.slice b.p b.l b.c,.slice c.p c.l c.c,.slice d.p d.l d.c])]=some ([a.v,b.v,c.v,d.v]:List ZB).toArray:=ax
theorem Fg {L:Lp} {K:ZB->Hp->Prop} {ha hb h:Hp} {us vs:List bJ} {P Q:LP} {A B:Nat} {ua la ub lb:cn} {SA SB:Nat->kr} (x:One ha h us P A ua la SA) (y:One hb h vs Q B ub lb SB) (hu:us.length<=2^20) (hv:vs.length<=2^20)
  {p q:Option ZC} {l m:Nat} (vu:uz h p l us) (vv:uz h q m vs) {n j:Nat} (hn:n<us.length) (hm:n<vs.length) (hj:j<2) (he:(wR us[n] j).map (P.eJ n)=(wR vs[n] j).map (Q.eJ n)) {k:Bool->T} (hk:∀ h',Ext h h'->k true L K h') :
  T.call Tryz.prog 17 [.pointer (some ⟨A+3,0,none⟩),.int .i64 (n:Int),.int .i64 (j:Int)] false [(false,[.slice 64])] (fun (p43:Option ZC) (l44:Nat) (l45:Nat) =>
   T.call Tryz.prog 17 [.pointer (some ⟨B+3,0,none⟩),.int .i64 (n:Int),.int .i64 (j:Int)] false [(false,[.slice 64])] <| fun (p46:Option ZC) (l47:Nat) (l48:Nat) =>
    T.call Tryz.prog 15 [.slice p43 l44 l45,.slice p46 l47 l48] false [(false,[.bool])] k) L K h:=by
 refine aH (x.out hu vu hn hj) ?_;rintro _ h1 ⟨e1,t1,ws,rfl,o,hm1,v1⟩;refine ⟨((t1.p,t1.l,t1.c),()),rfl,?_⟩;refine an ?_;refine aH ((y.ext e1).out hv (vv.ao e1) hm hj) ?_;rintro _ h2 ⟨e2,t2,ws2,rfl,o2,hm2,v2⟩;refine ⟨((t2.p,t2.l,t2.c),()),rfl,?_⟩;refine an ?_;refine aH (C5 (c:=t1.c) (d:=t2.c) (v1.ao e2) v2) ?_;rintro _ h3 ⟨r,rfl,hr,e3⟩;refine ⟨(r,()),rfl,?_⟩;obtain rfl:r=true:=hr.2 he;exact hk h3 ((e1.trans e2).trans e3)
theorem OE {h:Hp} (pw:fZ h) (tb0:An h) (tab:∃ e f,h[0]?=some (.cells Cr.opsV.toArray e f)) {su:cn} {us:List bJ} (v:uz h su.p su.l us) (sm:FJ us) (ht:3*((us.flatMap cg).flatMap (·.ai)).length<=2^20) :
  HC Tryz.prog 4 #[.slice su.p su.l su.c] h fun w h'=>w=.bool true/\Ext h h':=by
 refine aX (args:=[.slice su.p su.l su.c]) mixed Tryz.func4 ax (km su.p su.l su.c) ?_;unfold gk bg bq aU cD bG dQ bh bi bt bS aM cd;refine aH (UA (su:=su) pw tb0 v sm) ?_;rintro w1 h1 ⟨e1,hq⟩;have fin0:∀ {L:Lp} {h1:Hp},Ext h h1->(T.call Tryz.prog 9 [] false [(false,[.bool])] fun (b6:Bool)=>T.ret (.bool b6)) L (fun w h'=>w=.bool true/\Ext h h') h1:=by
  intro L h1 e1;refine aH (Mc tab e1) ?_;rintro _ h2 ⟨rfl,e2⟩;exact ⟨(true,()),rfl,rfl,e2⟩
 by_cases hlg:mQ us=true
 ·rw [W2 hlg] at hq;refine ⟨(none,none,false,true,()),hq,?_⟩;refine an ?_;exact bT rfl (bT rfl (fin0 e1))
 rw [WV hlg] at hq;have ag:=pf (us:=us) sm.num;cases hlp:iR us with
 | error f =>
  rw [hlp] at hq;refine ⟨(none,none,false,true,()),hq,?_⟩;refine an ?_;exact bT rfl (bT rfl (fin0 e1))
 | ok P =>
 rw [hlp] at hq ag;obtain ⟨_,h64,_,_,A,_,_,_⟩:=ag;obtain ⟨B,usl,lb,S,g,b',lb2,st,sd,tw,dw,rfl,bo⟩:=hq;have b:=bo.one;have r:Ex us:=⟨A.right,h64⟩
 have hLl:=r.dL;refine ⟨(some ⟨B+3,0,none⟩,some ⟨g,0,none⟩,true,true,()),rfl,?_⟩;refine an ?_;refine bZ rfl ?_;have hul:=v.len;refine ak (fun q=>?_) (fun q=>?_)
 ·exact fin0 e1
 have q:=WS q;have h63:us.length<64:=ad
 refine Ht FO L5 ?_;intro h2 s2 e2;have e02:=e1.trans e2;obtain ⟨xs,x1,x2,x3,y4⟩:=KK (v.ao e1);have x3:(su.p=none/\xs=[])\/∃ a,su.p=some a/\aG h2 a 0 xs.flatten:=x3.imp id fun ⟨a,ha,hc⟩=>⟨a,ha,aT e2 aj _ _ hc⟩
 have x4:∀ i,(hi:i<us.length)->(hxi:i<xs.length)->JC h2 us[i] xs[i]:=fun i hi hxi=>(y4 i hi hxi).ao e2
 refine wX (z:=.agg #[.slice none 0 0,.slice none 0 0,.slice none 0 0,.slice none 0 0]) (sz:=4) (by':=96) FO L5 rfl s2 (ys:=xs) x3 ad x2 (Hf x1 x4) ad ad (by have:=e2.size; omega) ?_;intro p8 c10 h3 s3 k3;rw [Yj,Xq] at s3;have e13:Ext h1 h3:=Ch.trans e2 k3 (fun j hj hl=>by have:=(s2.bY hj).1; omega);have e03:=e1.trans e13;refine aH (Cr.Mh (h:=h3) ?_) ?_
 ·obtain ⟨e,f,ht⟩:=tab;exact ⟨e,f,e03.get ht aj⟩
 rintro _ h4 ⟨e4,a,b2,c,d,rfl,hM⟩;refine ⟨((a.p,a.l,a.c),(b2.p,b2.l,b2.c),(c.p,c.l,c.c),(d.p,d.l,d.c),()),rfl,?_⟩;refine an ?_;have s4:SL h4 h1.size 30 4 p8 (0+su.l) c10 xs:=by rw [Xq]; exact s3.bF e4 aj
 have z13:=e13.size;have z4:=e4.size;have e14:=e13.trans e4;have hbl:∀ j,j∈aJ p8->h1.size<=j/\j<h3.size:=fun j hj=>s3.bY hj
 refine kh (b:=h1.size) (vs:=[a.v,b2.v,c.v,d.v]) FO L5 rfl ad ad (SZ a b2 c d) rfl rfl s4 ad ad ad ?_;intro p26 VA h5 s5 k5 _;rw [Xq] at s5;rw [Xq];have e15:Ext h1 h5:=Ch.trans e14 k5 (fun j hj hl=>by have:=hbl j hj; omega);have hM5:nX h5 a b2 c d Cr.uM:=hM h5 fun i hi hl=>k5.same i hl fun hj=>by have:=hbl i hj; omega
 have e25:Ext h2 h5->True:=fun _=>trivial
 have x5:∀ i,(hi:i<(us++[Cr.uM]).length)->(hxi:i<(xs++[[a.v,b2.v,c.v,d.v]]).length)->JC h5 (us++[Cr.uM])[i] (xs++[[a.v,b2.v,c.v,d.v]])[i]:=by
  intro i hi hxi
  by_cases hlt:i<us.length
  ·rw [XK hlt,XK ad];exact (y4 i hlt ad).ao e15
  ·rw [WU,Yx] at hi;have hieq:i=us.length:=ad
   subst hieq;rw [Yk ad,Yk ad];simp only [x1,Nat.sub_self,List.getElem_cons_zero];exact ⟨a,b2,c,d,rfl,hM5⟩
 have sm':=OP sm ht r.right h63 (by simpa using hlg);have v5:uz h5 p26 (su.l+1) (us++[Cr.uM]):=by
  have z:=SK s5 (by simp [x1]) (by simp; omega) x5;exact z
 obtain ⟨P',hP',hit,hlb'⟩:=JK hlp sm'.num h63 Of rfl rfl Ty;refine aH (H8 (c:=VA) (pw.ao (e1.trans e15) aj) (tb0.ao (e1.trans e15) aj) v5 sm') ?_;rintro w6 h6 ⟨e6,hl⟩;rw [hP'] at hl;obtain ⟨B',usl',lb',S',hle',rfl,pg',its',sz'⟩:=hl;refine ⟨(some ⟨B'+3,0,none⟩,(0:Int),(0:Int),⟨#[]⟩,()),rfl,?_⟩;refine an ?_;have o':One h5 h6 (us++[Cr.uM]) P' B' usl' lb' S':=⟨hle',pg',its',sz'⟩
 have e16:=e15.trans e6;refine bm ?_;intro h7 b7 e7 z7;refine aw b7 rfl aj ?_;intro h8 b8 k8 z8;have b8:bz h8 h6.size 37 [.int .i64 (0:Int),.int .i64 (0:Int),.string ⟨#[]⟩]:=b8;have e68:Ext h6 h8:=Ch.trans e7 k8 (fun i hi hx=>by simp at hi; omega);refine bZ rfl ?_;refine az ((0:Int),(0:Int),⟨#[]⟩,()) (b8.cells _ rfl) ?_;refine an ?_;refine mU (fun K' hK=>Sd _ _ _ _ _ _ _ _ _ _ hK) ?_;refine bZ ax ?_;have o8:=o'.ext e68;have e18:=e16.trans e68;have b9:=b.ext e18;have hsp:=zW us;have hsl:=BE r.right ad (by simpa using hlg);refine gi (Mt o8.pg) ?_;refine bZ (by rw [wrap_i64 ad ad,hul,WU,Yx]; simp) ?_;refine gi (uV o8.pg) ?_;refine gi (uV b9.pg) ?_;refine bZ (by rw [wrap_i64 ad ad,zE,Px]; simp) ?_;refine aR (cs:=[(false,[.bool]),(false,[.int .i64])]) (fun y k h'=>∃ n:Nat,y.2.1=(n:Int)/\k=us.length-n/\n<=us.length/\Ext h8 h') (false,(0:Int),()) us.length rfl
  ⟨0,rfl,rfl,ad,Ch.refl _ _⟩ ?_
 rintro ⟨b41,n42,⟨⟩⟩ k h9 ⟨n,hi,rfl,hle,e9⟩;simp only at hi;subst hi;refine an ?_;have hw:IntKind.wrap .i64 ((n:Int)+1)=((n+1:Nat):Int):=by rw [wrap_i64 ad ad]; omega
 have e19:=e18.trans e9;have e01':=e1.trans e19;refine ak (fun q=>?_) (fun q=>?_)
 ·have q:=WR q;have hn:n<us.length:=ad
  have hm:n<(us++[Cr.uM]).length:=by rw [WU]; omega
  have hgu:(us++[Cr.uM])[n]=us[n]:=XK hn;have hse:∀ j,j<2->(wR us[n] j).map (P.eJ n)=(wR (us++[Cr.uM])[n] j).map (P'.eJ n):=by
   intro j hj;rw [hgu];refine XC fun x hx=>?_
   refine (hit n us[n] (WT hn) x ?_).symm;unfold wR at hx;split at hx
   ·exact .inl hx
   ·exact .inr hx
  refine Fg (j:=0) (b9.ext e9) (o8.ext e9) ad (by rw [WU,Yx]; omega) (v.ao e01') (v5.ao ((e6.trans e68).trans e9)) hn hm ad (hse 0 ad) ?_;intro h10 e10;refine bZ rfl ?_;have e910:=e9.trans e10;refine Fg (j:=1) (b9.ext e910) (o8.ext e910) ad (by rw [WU,Yx]; omega) (v.ao (e01'.trans e10)) (v5.ao ((e6.trans e68).trans e910)) hn hm ad (hse 1 ad) ?_;intro h11 e11;refine bZ rfl ?_;exact aF (cs:=[(false,[.bool]),(false,[.int .i64])]) (b41,((n+1:Nat):Int),()) (us.length-(n+1)) rfl ad (Xa (fun z=>[Value.bool b41,Value.int .i64 z]) hw) ⟨n+1,rfl,rfl,ad,e910.trans e11⟩
 ·have hlbw:P.w.lb=bC 0 us:=A.wi.lb;have hll:P'.w.lb.length=(bC 0 us).length+1:=by rw [hlb',hlbw,WU]; rfl
  refine aH (nw (o8.ext e9).pg (by rw [hll]; omega)) ?_;rintro _ h10 ⟨e10,p43,l44,c45,rfl,s43⟩;refine ⟨((p43,l44,c45),()),rfl,?_⟩;refine an ?_;refine aH (nw (b9.ext (e9.trans e10)).pg (by rw [hlbw]; omega)) ?_;rintro _ h11 ⟨e11,p46,l47,c48,rfl,s46⟩;refine ⟨((p46,l47,c48),()),rfl,?_⟩;refine an ?_;have h44:l44=(bC 0 us).length+1:=by have:=s43.1; rwa [WQ,hll] at this
  have h47:l47=(bC 0 us).length:=by have:=s46.1; rwa [WQ,hlbw] at this
  refine bT (by rw [wrap_i64 ad ad,h44,h47]; simp) ?_;exact fin0 ((e01'.trans e10).trans e11)
end Go.Sx.Lk
