/- Contracts over heaps, and plain laws, for the functions that the laws of chapter 9 call, part 5: Where spandrelref12.Link finds the unit and the name of an equ that comes back t Condition: as each statement says. -/
import Derived.Test.YtlpcncdglfjnoaaGreatDoorP4
import Derived.Test.YtlpcncdglfjnoaaGreatDoorBtP
import Derived.Test.YtlpcncdglfjnoaaGreatDoorSxZ
import Derived.RangeFuncNested
import Derived.RangeFuncBound
import Derived.RangeFuncCalls
import Derived.RangeFuncLeaves
import Derived.Shelf.Abstract
import Derived.Shelf.RegionOpen
import Derived.OwnWalkIn
import Derived.TacticsInMore
import Derived.LoopNIn
import Derived.LoopIn
set_option linter.all false
set_option maxRecDepth 100000
set_option maxHeartbeats 4000000
namespace Go.Sx.Lk
open Go.Proofs Go.Sx.Ob
def pV (us:List bP):List Nat:=us.flatMap fun u=>List.range u.bf.length
theorem ql:∀ (us:List bP) (n:Nat),(dZ n us).length=(pV us).length
 | [],n=>rfl
 | u::us,n=>by
  unfold pV;rw [dZ,Xj,Wv,Wv,Wr,XQ,ql us (n+1)] <;> rfl
def LX (lv:Nat) (pp00:Option YC) (ll00:Nat) (a1:YC) (p12:Option YC) (l13:Nat) (n19:Int):T :=
   T.loop [aM,aM] [.int .i64 (0:Int),.int .i64 n19] <| fun (n21:Int) (n22:Int) =>
   T.need (((0:Int)<=n21)/\(n21<(ll00:Int))) <|
   T.bd pp00 <| fun (a23:YC) =>
   T.ah ((a23.add (aH n21 4)).add 2) [.slice 88] <| fun (p24:Option YC) (l25:Nat) (l26:Nat) =>
   cond (decide (n22>=(l25:Int)))
   (T.need (((0:Int)<=n21)/\(n21<(ll00:Int))) <|
   T.bd pp00 <| fun (a27:YC) =>
   T.ah ((a27.add (aH n21 4)).add 2) [.slice 88] <| fun (p28:Option YC) (l29:Nat) (l30:Nat) =>
   T.again lv [.int .i64 (bj (n21+(1:Int))),.int .i64 (bj (n22-(l29:Int)))])
   (T.need (((0:Int)<=n21)/\(n21<(ll00:Int))) <|
   T.bd pp00 <| fun (a27:YC) =>
   T.ah ((a27.add (aH n21 4)).add 2) [.slice 88] <| fun (p28:Option YC) (l29:Nat) (l30:Nat) =>
   T.need (((0:Int)<=n19)/\(n19<(l13:Int))) <|
   T.bd p12 <| fun (a31:YC) =>
   T.ah (a31.add (aH n19 1)) [.int .i64] <| fun (n32:Int) =>
   T.need (((0:Int)<=n32)/\(n32<(l29:Int))) <|
   T.bd p28 <| fun (a33:YC) =>
   T.ah (a33.add (aH n32 3)) [.string] <| fun (s34:YA) =>
   T.aY [((a33.add (aH n32 3)),[.string s34]),((a31.add (aH n19 1)),[.int .i64 n32]),(((a27.add (aH n21 4)).add 2),[.slice p28 l29 l30])] <|
   T.aD a1 [.int .i64 (24:Int),.int .i64 n21,.string s34] <|
   T.ah a1 [.int .i64,.int .i64,.string] <| fun (n35:Int) (n36:Int) (s37:YA) =>
   T.ret (.tuple #[.pointer none,.agg #[.int .i64 n35,.int .i64 n36,.string s37]]))
theorem Oh {L:Lp} {K:YB->Hp->Prop} {h0 h:Hp} {ga lv b:Nat} {p:Option YC} {l:Nat} {us:List bP} {x y:Int} {z:YA} {p12:Option YC} {l13 c13:Nat} {i0:Nat} {q:Nat × qi} (hlv:lv=L.length) (h0g:h0.size<=ga) (e0:Ext h0 h) (b1:bC h ga 54 [.int .i64 x,.int .i64 y,.string z]) (v:sT h p l us) (hmany:us.length<=2^20)
  (k12:SL h b 3 1 p12 l13 c13 ((pV us).map J8)) (hle:(dZ 0 us).length<=2^40) (hq:(dZ 0 us)[i0]?=some q) (hk:∀ h',Ext h0 h'->K (.tuple #[.pointer none,N2 ⟨24,q.1,q.2.1⟩]) h'):LX lv p l ⟨ga,0,none⟩ p12 l13 i0 L K h:=by
 subst hlv;unfold LX aH bj aM;have hll:=v.len;have hi0:i0<(dZ 0 us).length:=(WM.1 hq).1;have hkl:=ql us 0;refine aR (cs:=[(false,[.int .i64]),(false,[.int .i64])]) (fun y k h'=>∃ (u r:Nat),y.1=(u:Int)/\y.2.1=(r:Int)/\k=us.length-u/\h'=h/\u<=us.length/\(dZ u (us.drop u))[r]?=some q/\(pV (us.drop u))[r]?=(pV us)[i0]?/\r<=i0) ((0:Int),(i0:Int),()) us.length rfl
  ⟨0,i0,rfl,rfl,rfl,rfl,ad,hq,rfl,WH _⟩ ?_
 rintro ⟨n21,n22,⟨⟩⟩ k h' ⟨u,r,hu,hr,rfl,rfl,hul,hqr,hkr,hri⟩;simp only at hu hr;subst hu hr;refine an ?_;have hult:u<us.length:=by
  by_cases h:u<us.length
  ·exact h
  ·rw [Xb ad] at hqr;simp [dZ] at hqr
 rw [WK hult] at hqr hkr;have hkr:(List.range us[u].bf.length++pV (us.drop (u+1)))[r]?=(pV us)[i0]?:=hkr;have hqr:(us[u].bf.map (fun e=>(u,e))++dZ (u+1) (us.drop (u+1)))[r]?=some q:=hqr;obtain ⟨au,sa,sb,sc,sd,rfl,hcu,va⟩:=v.cells u hult;generalize us[u]=w at hkr hqr hcu va;have hlq:=va.bf.len;have hcq:aG h' ((au.add (u*4)).add 2) 0 [.slice sc.p sc.l sc.c]:=⟨by rw [add_add]; exact hcu.2.2.1,trivial⟩
 refine ay ⟨ad,ad⟩ (av rfl ?_);rw [show Int.toNat (u:Int)=u from ad];refine ax ((sc.p,sc.l,sc.c),()) hcq ?_;refine an ?_;refine ak (fun g=>?_) (fun g=>?_)
 ·have g:=Ws g;have hge:w.bf.length<=r:=ad
  refine ay ⟨ad,ad⟩ (av rfl ?_);refine ax ((sc.p,sc.l,sc.c),()) hcq ?_;refine an ?_;have hw1:IntKind.wrap .i64 ((u:Int)+1)=((u+1:Nat):Int):=by rw [wrap_i64 ad ad]; omega
  have hw2:IntKind.wrap .i64 ((r:Int)-(sc.l:Int))=((r-w.bf.length:Nat):Int):=by rw [wrap_i64 ad ad]; omega
  rw [WX (by rw [Wr]; exact hge),Wr] at hqr;rw [WX (by rw [XQ]; exact hge),XQ] at hkr;exact A5 (cs:=[(false,[.int .i64]),(false,[.int .i64])]) (((u+1:Nat):Int),((r-w.bf.length:Nat):Int),()) (us.length-(u+1)) ad (by rw [hw1,hw2]; rfl) ⟨u+1,r-w.bf.length,rfl,rfl,rfl,rfl,ad,hqr,hkr,ad⟩
 ·have g:=Wt g;have hlt:r<w.bf.length:=ad
  rw [WZ (by rw [Wr]; exact hlt),Xc,Wu hlt] at hqr;rw [WZ (by rw [XQ]; exact hlt),XE hlt] at hkr;have hq':(u,w.bf[r])=q:=WQ hqr;subst hq';refine ay ⟨ad,ad⟩ (av rfl ?_);refine ax ((sc.p,sc.l,sc.c),()) hcq ?_;refine an ?_;have hi0k:i0<(pV us).length:=ad
  obtain ⟨a12,ha12,hc12⟩:=SL.cells k12 (i:=i0) (by rw [Wr]; exact hi0k);rw [Wy] at hc12;have hgr:(pV us)[i0]=r:=by
   rw [Wu hi0k] at hkr;exact (WQ hkr).symm
  rw [hgr] at hc12;have hl13:l13=(pV us).length:=by have:=k12.1; rwa [Wr] at this
  refine ay ⟨ad,ad⟩ (av ha12 ?_);rw [show Int.toNat (i0:Int)=i0 from ad];refine ax ((r:Int),()) hc12 ?_;refine an ?_;obtain ⟨aq,pq,mq,cq,haq,hcqr,_,_⟩:=va.bf.cells r hlt;refine ay ⟨ad,ad⟩ (av haq ?_);rw [show Int.toNat (r:Int)=r from ad];refine ax (w.bf[r].1,()) ⟨hcqr.1,trivial⟩ ?_;refine an ?_;refine ⟨⟨⟨hcqr.1,trivial⟩,hc12,hcq,trivial⟩,?_⟩;refine aw b1 rfl aj ?_;intro h2 b2 k2 z2;have b2:bC h2 ga 54 [.int .i64 24,.int .i64 (u:Int),.string w.bf[r].1]:=b2;refine af b2 ((24:Int),(u:Int),w.bf[r].1,()) rfl ?_;exact hk h2 (Ch.trans e0 k2 (fun j hj hl=>by simp at hj; omega))
def QV (pp00:Option YC) (ll00:Nat) (a1 a7:YC):T :=
  T.loop [da,da,aM] [bi,bi,.int .i64 (0:Int)] <| fun (p9:Option YC) (l10:Nat) (l11:Nat) (p12:Option YC) (l13:Nat) (l14:Nat) (n15:Int) =>
  bm n15 ll00
  (T.loop [da,da,aM] [.slice p9 l10 l11,.slice p12 l13 l14,.int .i64 (0:Int)] <| fun (p16:Option YC) (l17:Nat) (l18:Nat) (p19:Option YC) (l20:Nat) (l21:Nat) (n22:Int) =>
  T.need (((0:Int)<=n15)/\(n15<(ll00:Int))) <|
  T.bd pp00 <| fun (a23:YC) =>
  T.ah ((a23.add (aH n15 4)).add 2) [.slice 88] <| fun (p24:Option YC) (l25:Nat) (l26:Nat) =>
  bm n22 l25
   (T.need (((0:Int)<=n15)/\(n15<(ll00:Int))) <|
   T.bd pp00 <| fun (a27:YC) =>
   T.ah ((a27.add (aH n15 4)).add 2) [.slice 88] <| fun (p28:Option YC) (l29:Nat) (l30:Nat) =>
   T.need (((0:Int)<=n22)/\(n22<(l29:Int))) <|
   T.bd p28 <| fun (a31:YC) =>
   T.ah (a31.add (aH n22 3)) [.string,.slice 66,.int .u32] <| fun (Q6:YA) (p33:Option YC) (l34:Nat) (l35:Nat) (n36:Int) =>
   T.new [bU,bi,.int .u32 (0:Int)] 88 <| fun (a37:YC) =>
   T.aD a37 [.string Q6,.slice p33 l34 l35,.int .u32 n36] <|
   T.ah a37 [.string] <| fun (s38:YA) =>
   T.ah (a37.add 1) [.slice 66,.int .u32] <| fun (p39:Option YC) (l40:Nat) (l41:Nat) (n42:Int) =>
   bF 62 [.pointer (some a7),.int .i64 n15,.string s38] false [(false,[.string])] <| fun (s43:YA) =>
   T.aY [((a37.add 1),[.slice p39 l40 l41,.int .u32 n42])] <|
   bF 63 [.pointer (some a7),.int .i64 n15,.agg #[.slice p39 l40 l41,.int .u32 n42]] false [(true,[.slice 66,.int .u32])] <| fun (p44:Option YC) (l45:Nat) (l46:Nat) (n47:Int) =>
   T.aY [(a37,[.string s38])] <|
   bK (Instr.buildSlice 27 1 #[(0,.agg #[.string s43,.slice p44 l45 l46,.int .u32 n47])]) false [da] <| fun (p48:Option YC) (l49:Nat) (l50:Nat) =>
   T.aY [((a37.add 1),[.slice p39 l40 l41,.int .u32 n42]),(a37,[.string s38])] <|
   bK (Builtin.append_ #[27,27] 27 #[.slice p16 l17 l18,.slice p48 l49 l50]) false [da] <| fun (p51:Option YC) (l52:Nat) (l53:Nat) =>
   T.aY [((a37.add 1),[.slice p39 l40 l41,.int .u32 n42]),(a37,[.string s38])] <|
   bK (Instr.buildSlice 126 1 #[(0,.int .i64 n22)]) false [da] <| fun (p54:Option YC) (l55:Nat) (l56:Nat) =>
   bK (Builtin.append_ #[126,126] 126 #[.slice p19 l20 l21,.slice p54 l55 l56]) false [da] <| fun (p57:Option YC) (l58:Nat) (l59:Nat) =>
   T.again 2 [.slice p51 l52 l53,.slice p57 l58 l59,.int .i64 (bj (n22+(1:Int)))])
   (T.again 1 [.slice p16 l17 l18,.slice p19 l20 l21,.int .i64 (bj (n15+(1:Int)))]))
  (bF 64 [.slice p9 l10 l11] true [(false,[.slice 88]),aM,aM] <| fun (p16:Option YC) (l17:Nat) (l18:Nat) (n19:Int) (n20:Int) =>
  cond (n20 != (0:Int)) (LX 2 pp00 ll00 a1 p12 l13 n19) (LQ 2 pp00 ll00 a1 a7 p16 l17 l18))
structure TW (h:Hp) (b:Nat) (p:Option YC) (l c:Nat) (q:Option YC) (m d:Nat) (ms:List cD) (ks:List Nat):Prop where
 out:SL h b 88 3 p l c (ms.map Ah)
 num:SL h b 3 1 q m d (ks.map J8)
 eY:∀ e,e∈ms->SL h b 66 2 e.p e.l e.c (e.x.ai.map cX)
theorem TW.ext {h h':Hp} {b:Nat} {p:Option YC} {l c:Nat} {q:Option YC} {m d:Nat} {ms:List cD} {ks:List Nat} (s:TW h b p l c q m d ms ks) (e:Ext h h'):TW h' b p l c q m d ms ks :=
 ⟨s.out.bG e aj,s.num.bG e aj,fun x hx=>(s.eY x hx).bG e aj⟩
def dR (us:List bP) (L:List Lb) (l:List bP):List (YA × bZ):=(dZ 0 l).map fun q=>(dq us L q.1 q.2.1,gY us L q.1 q.2.2)
theorem IV (l:List bP) (u:bP):pV (l++[u])=pV l++List.range u.bf.length:=by
 unfold pV;rw [X3]
 simp
theorem On (us:List bP) (L:List Lb) (l:List bP) (u:bP):dR us L (l++[u])=dR us L l++u.bf.map fun e=>(dq us L l.length e.1,gY us L l.length e.2):=by
 unfold dR;rw [qV,WG,WT];simp only [Nat.zero_add] <;> rfl
def VV (us:List bP) (n:Nat) (u:bP):Prop:=∀ e,e∈u.bf->Km us n e.2/\(∃ o,fw us n e.1=some o)/\e.1.size<=2^60
theorem nj (n:Nat):mv n=fK n:=vR n
theorem Dr (n:Nat):∀ c,c∈Lib.decDigits n->c≠95:=by
 intro c hc e;rw [Lib.decDigits_eq] at hc;obtain ⟨t,_,rfl⟩:=Wz.1 hc;unfold Lib.dg at e;have h1:=WJ UInt8.toNat e;have h2:(UInt8.ofNat (48+n / 10^(Lib.nDigits n-1-t) % 10)).toNat=48+n / 10^(Lib.nDigits n-1-t) % 10:=by
  rw [UInt8.toNat_ofNat'];omega
 rw [h2] at h1;have h3:(95:UInt8).toNat=95:=rfl;omega
theorem Rh:∀ {a b:List UInt8} {s t:List UInt8},(∀ c,c∈a->c≠95)->(∀ c,c∈b->c≠95)->a++95::s=b++95::t->a=b/\s=t
 | [],[],s,t,_,_,h=>by simpa using h
 | [],c::b,s,t,_,hb,h=>by
  simp only [List.nil_append,List.cons_append,List.cons.injEq] at h;exact absurd h.1.symm (hb c aj)
 | c::a,[],s,t,ha,_,h=>by
  simp only [List.nil_append,List.cons_append,List.cons.injEq] at h;exact absurd h.1 (ha c aj)
 | c::a,d::b,s,t,ha,hb,h=>by
  simp only [List.cons_append,List.cons.injEq] at h;obtain ⟨h1,h2⟩:=Rh (fun x hx=>ha x (WN _ hx)) (fun x hx=>hb x (WN _ hx)) h.2;exact ⟨by rw [h.1,h1],h2⟩
theorem yx (L:List Lb) (o:Nat) (s:YA):OP L o s=mF (L.map yP) (o,s):=by
 unfold OP mF;rw [Yj]
 congr 1
 funext x
 show _=decide (yP x=(o,s));unfold yP;rw [Bool.eq_iff_iff]
 simp
def N4 (L:List Lb) (k:Ky):YA:=xw L k.1 k.2
theorem PW {L:List Lb} {k k':Ky} (h:N4 L k=N4 L k'):k=k':=by
 have hne:∀ a b:YA,(⟨#[76]⟩:YA)++a≠(⟨#[69]⟩:YA)++b:=by
  intro a b e;have h1:=WJ (fun b:YA=>b.data.toList) e;simp only [ek] at h1;simp at h1
 have has:∀ a b c:YA,((⟨#[69]⟩++a)++⟨#[95]⟩)++b=(⟨#[69]⟩:YA)++(a++(⟨#[95]⟩++b)):=by
  intro a b c;simp only [ByteArray.append_assoc]
 obtain ⟨o,s⟩:=k;obtain ⟨o',s'⟩:=k';unfold N4 xw at h;rw [yx,yx] at h;cases h1:mF (L.map yP) (o,s) with
 | some i =>
  cases h2:mF (L.map yP) (o',s') with
  | some j =>
   rw [h1,h2] at h;have h:(⟨#[76]⟩:YA)++fK i=⟨#[76]⟩++fK j:=h;rw [<- nj,<- nj] at h
   have:=rJ (uY h)
   subst this;obtain ⟨a,ha⟩:=jc h1;obtain ⟨b,hb⟩:=jc h2;rw [<- ha,<- hb]
  | none =>
   rw [h1,h2] at h;have h:(⟨#[76]⟩:YA)++fK i=((⟨#[69]⟩++fK o')++⟨#[95]⟩)++s':=h;rw [has _ _ ⟨#[]⟩] at h;exact absurd h (hne _ _)
 | none =>
  cases h2:mF (L.map yP) (o',s') with
  | some j =>
   rw [h1,h2] at h;have h:((⟨#[69]⟩++fK o)++⟨#[95]⟩)++s=(⟨#[76]⟩:YA)++fK j:=h;rw [has _ _ ⟨#[]⟩] at h;exact absurd h.symm (hne _ _)
  | none =>
   rw [h1,h2] at h;have h:((⟨#[69]⟩++fK o)++⟨#[95]⟩)++s=((⟨#[69]⟩++fK o')++⟨#[95]⟩)++s':=h;rw [has _ _ ⟨#[]⟩,has _ _ ⟨#[]⟩] at h;have h:=uY h;have h3:=WJ (fun b:YA=>b.data.toList) h;simp only [ek] at h3;have h4:Lib.decDigits o++95::s.data.toList=Lib.decDigits o'++95::s'.data.toList:=by
    have e:∀ n:Nat,(fK n).data.toList=Lib.decDigits n:=fun n=>by unfold fK; simp
    rw [e,e] at h3;simpa using h3
   obtain ⟨h5,h6⟩:=Rh (Dr o) (Dr o') h4;have h7:o=o':=by
    apply rJ;rw [nj,nj];unfold fK;rw [h5]
   subst h7
   congr 1
   cases s; cases s';simp only at h6
   congr 1
   exact Array.ext' h6
structure mU (us:List bP) (w:LW):Prop where
 right:∀ u,u∈us->eG u=0
 wi:WI w (bt 0 us) ((dZ 0 us).map ju)
 gl:∀ s,w.gl s=Oy us s
def Uu (us:List bP) (k:Ky):Prop:=k∈(bt 0 us).map yP\/k∈(dZ 0 us).map ju
theorem K5 {us:List bP} {n:Nat} {u:bP} (hu:us[n]?=some u) {s:YA} (hs:s∈fl u):Uu us (n,s):=by
 unfold fl at hs;rw [WV,WV] at hs;rcases hs with hs | hs
 ·exact .inl ((we s n us 0).2 ⟨u,Yl _,by rw [Yw]; exact hu,hs⟩)
 ·exact .inr ((zw s n us 0).2 ⟨u,Yl _,by rw [Yw]; exact hu,hs⟩)
theorem KF {u:bP} (h:eG u=0):∀ x,x∈u.aS->x∈fl u:=by
 have h1:=(zZ h).2;rw [wK] at h1;unfold vK at h1;simp only [Bool.and_eq_true,decide_eq_true_eq] at h1;exact fun x hx=>((xG _ _ _ h1.2.2.2.2).1 x hx).1
theorem uj {l:List YA} {s:YA}:fC l s=true↔s∈l:=by
 unfold fC;rw [Yb];constructor
 ·rintro ⟨x,hx,he⟩;rw [<- Ws he]; exact hx
 ·intro h;exact ⟨s,h,WB rfl⟩
theorem Iz {us:List bP} (hr:∀ u,u∈us->eG u=0) {n o:Nat} {s:YA} (h:fw us n s=some o):Uu us (o,s):=by
 unfold fw at h;split at h
 ·rename_i hh;cases h;cases hu:us[n]? with
  | none=>rw [hu] at hh; cases hh
  | some u =>
   rw [hu] at hh;exact K5 hu (uj.1 (WQ hh))
 ·rw [WR] at h;obtain ⟨ho,h1,_⟩:=h;exact K5 (Wu ho) (KF (hr _ (WA ho)) s (uj.1 h1))
theorem A9 {us:List bP} {n:Nat} {u:bP} (hu:us[n]?=some u) {s:YA} (hs:s∈fl u):fw us n s=some n:=by
 unfold fw;rw [hu,Yq,WC (by rw [uj.2 hs])]
theorem MQ {us:List bP} {w:LW} (i0:WI w (bt 0 us) ((dZ 0 us).map ju)) {k:Ky} (hk:Uu us k) (hn:k∉(dZ 0 us).map ju):w.word k=N4 (bt 0 us) k:=by
 have hk:k∈(bt 0 us).map yP:=hk.elim id fun h=>absurd h hn
 obtain ⟨i,hi⟩:=zS hk;unfold LW.word N4 xw;rw [yx,i0.num];show (match mF ((bt 0 us).map yP) k with | some n=>(⟨#[76]⟩:YA)++mv n | none=>_)=match mF ((bt 0 us).map yP) (k.1,k.2) with | some i=>(⟨#[76]⟩:YA)++fK i | none=>_
 rw [hi];show (⟨#[76]⟩:YA)++mv i=⟨#[76]⟩++fK i;rw [nj]
theorem Uv (f:YA->Nat) (s:YA):ja f (lO s)=f s % 4294967296:=by
 unfold ja lO;show (0+(1*f s+0)) % 4294967296=_
 congr 1
 omega
theorem mU.own {us:List bP} {w:LW} (A:mU us w) {n:Nat} (hn:n<us.length) (s:YA):w.own n s=(fw us n s).map fun o=>(o,s):=MK A.wi A.gl hn s
theorem mU.rel {us:List bP} {w:LW} (A:mU us w) {n:Nat} (hn:n<us.length) {x:bZ} (hb:w.bad n x=none):xV (Uu us) w.word (N4 (bt 0 us)) (w.lin n x) (gY us (bt 0 us) n x):=by
 intro f g hfg;unfold LW.lin gY;rw [ft,ft];refine pu fun t ht=>?_
 obtain ⟨k,hk⟩:=zJ hb t ht;rw [A.own hn] at hk;obtain ⟨o,ho,rfl⟩:=Yf.1 hk;have hky:=Iz A.right ho;unfold FK sV dq;simp only [A.own hn,ho,Option.map_some,Option.getD_some];rw [Uv,Uv,hfg _ hky] <;> rfl
theorem Cn {us:List bP} {q:Nat × qi} (hq:q∈dZ 0 us):∃ u,us[q.1]?=some u/\q.2∈u.bf:=by
 obtain ⟨i,hi,h1,h2⟩:=vu us 0 q hq;rw [Xa] at h1;exact ⟨us[i],by rw [h1]; exact Wu hi,h2⟩
theorem mU.two {us:List bP} {w:LW} (A:mU us w) (hb:fJ w 0 us=none):vA (dZ 0 us) ju (Uu us) w.word (N4 (bt 0 us)) (fun q=>w.lin q.1 q.2.2) fun q=>gY us (bt 0 us) q.1 q.2.2 where
 nd:=wy us 0 fun u hu=>by
  have:=vD (A.right u hu)
  unfold fl at this;rw [XG] at this;exact this.2.1
 N7:=fun q hq=>.inr (WL hq)
 ia:=fun k k' hk hk' h=>word_inj A.wi hk hk' h
 ib:=fun k k' _ _ h=>PW h
 Hx:=fun k hk hn=>MQ A.wi hk hn
 rel:=fun q hq=>by
  obtain ⟨u,hu,_⟩:=Cn hq;exact A.rel (WM.1 hu).1 (CR hb hq)
 fa:=fun q _=>eE _ _
 fb:=fun q _=>eE _ _
theorem Nn (w:LW) (us:List bP):uS w us=wD (dZ 0 us) ju w.word fun q=>w.lin q.1 q.2.2:=rfl
theorem MI (us:List bP):dR us (bt 0 us) us=wD (dZ 0 us) ju (N4 (bt 0 us)) fun q=>gY us (bt 0 us) q.1 q.2.2:=by
 unfold dR wD;refine Xl fun q hq=>?_
 obtain ⟨u,hu,he⟩:=Cn hq
 have:fw us q.1 q.2.1=some q.1:=A9 hu (by
  unfold fl;exact W5 _ (WL he))
 unfold dq;rw [this] <;> rfl
theorem mU.UE {us:List bP} {w:LW} (A:mU us w) (hb:fJ w 0 us=none):mE (uS w us)=dt (eN (dR us (bt 0 us) us)):=by
 rw [Nn,MI];exact (A.two hb).UE
theorem mU.put {us:List bP} {w:LW} (A:mU us w) (hb:fJ w 0 us=none) (hc:mE (uS w us)=none) {n:Nat} (hn:n<us.length) {x:bZ} (hbx:w.bad n x=none) (hx:x.num<4294967296) {ms:List cD} (hm:ms.map fc=(dR us (bt 0 us) us).map fun y=>(y.1,eM (eN (dR us (bt 0 us) us)) y.1)) :
  ue (lU (uS w us)) (w.lin n x)=cY (cj ms) (gY us (bt 0 us) n x):=by
 have h1:cj ms=cj (eN (lU (dR us (bt 0 us) us))):=DD (by rw [oG,hm]; rfl);rw [h1];show _=ue (lU (dR us (bt 0 us) us)) _;rw [MI];rw [Nn] at hc ⊢;exact (A.two hb).same hc (A.rel hn hbx) (lf hx) (lf hx)
theorem DH {es fs:List cD} (h:es.map fc=fs.map fc):dt es=dt fs:=by
 unfold dt;have hf:∀ (gs:List cD),(gs.findIdx? fun e=>@decide (jS (df gs) e.name) (Classical.propDecidable _))=(gs.map fc).findIdx? fun q=>@decide (jS (df gs) q.1) (Classical.propDecidable _):=by
  intro gs;rw [Yj] <;> rfl
 rw [hf,hf,h,zo h]
theorem Qc {J0:List YB->Hp->Prop} {K:YB->Hp->Prop} {h0 h:Hp} {ga g:Nat} {su lb:bY} {LB:List Lb} {us:List bP} {a b:Int} {z:YA} {S:List YA} (hga:ga<g) (h0g:h0.size<=ga) (e0:Ext h0 h) (b1:bC h ga 54 [.int .i64 a,.int .i64 b,.string z])
  (pr:Bq h g su lb lW lW LB) (v:sT h0 su.p su.l us) (sz:Dd us) (hL:LB.length<=2^40) (hE:∀ n u,us[n]?=some u->VV us n u) (hW:∀ n u,us[n]?=some u->SR us LB S n u) (hnd:((dR us LB us).map (·.1)).Nodup) (hlen:(dZ 0 us).length<=2^20) (hS:S.length<=2^30)
  (hSd:∀ y,y∈dR us LB us->∀ t,t∈y.2.ai->t.1∈S)
  (hk1:∀ h' i q,dt (eN (dR us LB us))=some i->(dZ 0 us)[i]?=some q->Ext h0 h'->K (.tuple #[.pointer none,N2 ⟨24,q.1,q.2.1⟩]) h')
  (hk0:∀ h' b' st sd tw dw ms,dt (eN (dR us LB us))=none->ms.map fc=(dR us LB us).map (fun y=>(y.1,eM (eN (dR us LB us)) y.1))->Ext h0 h'->Bq h' g su lb st sd LB->tQ h' b' st tw->tQ h' b' sd dw->yh us LB ms (·.text) us.length tw->yh us LB ms (·.data) us.length dw->K (.tuple #[.pointer (some ⟨g,0,none⟩),N2 ⟨0,0,du⟩]) h') :
  QV su.p su.l ⟨ga,0,none⟩ ⟨g,0,none⟩ [J0] K h:=by
 unfold QV bm aH bF bK bj bi bU aM da;have hll:=v.len;have hmany:=sz.many;have hgs:=pr.box.lt;have hz0:=e0.size;refine aR (cs:=[(false,[.slice 0]),(false,[.slice 0]),(false,[.int .i64])]) (fun y k h'=>∃ (i:Nat) (ms:List cD) (ks:List Nat),y.2.2.1=(i:Int)/\k=us.length-i/\i<=us.length/\Ext h h'/\TW h' h.size y.1.1 y.1.2.1 y.1.2.2 y.2.1.1 y.2.1.2.1 y.2.1.2.2 ms ks/\ms.map fc=dR us LB (us.take i)/\ks=pV (us.take i))
  ((none,0,0),(none,0,0),(0:Int),()) us.length rfl ⟨0,[],[],rfl,rfl,ad,Ch.refl _ _,⟨SL.nil _ _ _ _,SL.nil _ _ _ _,aj⟩,rfl,rfl⟩ ?_
 rintro ⟨⟨p9,l10,l11⟩,⟨p12,l13,l14⟩,n15,⟨⟩⟩ k h1 ⟨i,ms,ks,hi,rfl,hle,e1,o1,hms,rfl⟩;simp only at hi o1;subst hi;refine an ?_;refine ak (fun q=>?_) (fun q=>?_)
 ·have q:=Ws q;have hil:i<us.length:=ad
  have hug:us[i]?=some us[i]:=Wu hil;have htk:us.take (i+1)=us.take i++[us[i]]:=Wx hil;have hti:(us.take i).length=i:=by rw [WO]; omega
  have hwt:IntKind.wrap .i64 ((i:Int)+1)=((i+1:Nat):Int):=by rw [wrap_i64 ad ad]; omega
  obtain ⟨au,sa,sb,sc,sd,hau,hcu,va⟩:=v.cells i hil;have hum:=WA hil;generalize us[i]=u at hug htk hcu va hum;have ew:=hE i u hug;have hlq:=va.bf.len;have hue:=sz.bf u hum;refine aR (cs:=[(false,[.slice 0]),(false,[.slice 0]),(false,[.int .i64])]) (fun y k h'=>∃ (j:Nat) (ms:List cD) (ks:List Nat),y.2.2.1=(j:Int)/\k=u.bf.length-j/\j<=u.bf.length/\Ext h h'/\TW h' h.size y.1.1 y.1.2.1 y.1.2.2 y.2.1.1 y.2.1.2.1 y.2.1.2.2 ms ks /\
   ms.map fc=dR us LB (us.take i)++(u.bf.take j).map (fun e=>(dq us LB i e.1,gY us LB i e.2))/\ks=pV (us.take i)++List.range j) ((p9,l10,l11),(p12,l13,l14),(0:Int),()) u.bf.length rfl ⟨0,ms,_,rfl,rfl,ad,e1,o1,by simpa using hms,aj⟩ ?_
  rintro ⟨⟨p16,l17,l18⟩,⟨p19,l20,l21⟩,n22,⟨⟩⟩ k h2 ⟨j,ms2,ks2,hj,rfl,hlj,e2,o2,hms2,rfl⟩;simp only at hj o2;subst hj;refine an ?_;have e02:=e0.trans e2;have z2:=e2.size;have hwj:IntKind.wrap .i64 ((j:Int)+1)=((j+1:Nat):Int):=by rw [wrap_i64 ad ad]; omega
  have hcq:aG h2 ((au.add (i*4)).add 2) 0 [.slice sc.p sc.l sc.c]:=⟨by rw [add_add]; exact (aQ e02 aj _ _ hcu).2.2.1,trivial⟩
  have hkl:=ql (us.take i) 0;have hsum1:(dZ 0 (us.take i)).length<=(dZ 0 us).length:=by
   have:=qV
   rw [ql,ql];unfold pV
   conv=>rhs; rw [<- W8 i us]
   rw [X3,Wv];omega
  refine ay ⟨ad,ad⟩ (av hau ?_);rw [show Int.toNat (i:Int)=i from ad];refine ax ((sc.p,sc.l,sc.c),()) hcq ?_;refine an ?_;refine ak (fun r=>?_) (fun r=>?_)
  ·have r:=Ws r;have hjl:j<u.bf.length:=ad
   have htj:u.bf.take (j+1)=u.bf.take j++[u.bf[j]]:=Wx hjl;refine ay ⟨ad,ad⟩ (av hau ?_);refine ax ((sc.p,sc.l,sc.c),()) hcq ?_;refine an ?_;obtain ⟨aq,pq,mq,cq,haq,hce,hlin,_⟩:=(va.bf.ao e02).cells j hjl;have hem:=WA hjl;generalize u.bf[j]=e at htj hce hlin hem;obtain ⟨hsw,⟨o,hoo⟩,hsn⟩:=ew e hem;refine ay ⟨ad,ad⟩ (av haq ?_);rw [show Int.toNat (j:Int)=j from ad];refine ax (e.1,(pq,mq,cq),(e.2.num:Int),()) hce ?_;refine an ?_;refine bq ?_;intro h3 b3 e3 z3;refine aw b3 rfl aj ?_;intro h4 b4 k4 z4;have b4:bC h4 h2.size 88 [.string e.1,.slice pq mq cq,.int .u32 (e.2.num:Int)]:=b4;have e24:Ext h2 h4:=Ch.trans e3 k4 (fun q hq hl=>by simp at hq; omega);refine af b4 (e.1,()) rfl ?_;refine an ?_;rw [aE];refine af b4 ((pq,mq,cq),(e.2.num:Int),()) rfl ?_;refine an ?_;have e04:=e02.trans e24;have prk:∀ {h':Hp},Ext h h'->Bq h' g su lb lW lW LB:=fun e=>pr.ao e
   refine aI (HW (prk (e2.trans e24)) (v.ao e04) sz hil hL hoo hsn) ?_;rintro _ h5 ⟨rfl,e5⟩;refine ⟨(dq us LB i e.1,()),rfl,?_⟩;refine an ?_;have b45:=b4.ao e5 aj;refine ⟨⟨b45.cells _ rfl,trivial⟩,?_⟩;have e25:=e24.trans e5;refine aI (EI (d:=cq) (prk (e2.trans e25)) (v.ao (e02.trans e25)) sz hil hL (hlin.vw.ao e25 aj) hsw.nf hsw.num hsw.len hsw.own hsw.sz) ?_;rintro _ h6 ⟨e6,p6,l6,c6,rfl,s6⟩;refine ⟨((p6,l6,c6),((gY us LB i e.2).num:Int),()),rfl,?_⟩;refine an ?_;have b46:=b45.ao e6 aj;refine ⟨⟨b46.cells _ rfl,trivial⟩,?_⟩;have e26:=e25.trans e6;have o6:=o2.ext e26;have z26:=e26.size;have z25:=e25.size;have hl17:l17=ms2.length:=by have:=o2.out.1; rwa [Wr] at this
   have hl20:l20=(pV (us.take i)++List.range j).length:=by have:=o2.num.1; rwa [Wr] at this
   rw [Wv,XQ] at hl20;have hm2:ms2.length=(dZ 0 (us.take i)).length+j:=by
    have:=WJ List.length hms2
    rw [Wr,Wv,Wr,WO,XR hlj] at this;unfold dR at this
    rwa [Wr] at this
   refine gj (vs:=Ah ⟨dq us LB i e.1,p6,l6,c6,gY us LB i e.2⟩) Bc JQ rfl ad ad (Gr _ _ _ _ _) rfl rfl o6.out ad ad ad (fun h' x=>⟨(b46.ao x aj).cells _ rfl,(b46.ao x aj).cells _ rfl,trivial⟩) ?_;intro p7 c7 h7 s7 k7 hp7;have hbx7:=SL.Aq o6.out;have hnb:h2.size∉aK p16:=fun hh=>by have:=(o2.out.cd hh).2; omega
   have b47:=b46.ao k7 hnb;refine ⟨⟨b47.cells _ rfl,b47.cells _ rfl,trivial⟩,?_⟩;have n7:SL h7 h.size 3 1 p19 l20 l21 ((pV (us.take i)++List.range j).map J8):=SL.qT o6.num k7 hbx7 cg;have i7:∀ x,x∈ms2++[⟨dq us LB i e.1,p6,l6,c6,gY us LB i e.2⟩]->SL h7 h.size 66 2 x.p x.l x.c (x.x.ai.map cX):=fun x hx=>by
    rcases WV.1 hx with hx | hx
    ·exact SL.qT (o6.eY x hx) k7 hbx7 cg
    ·rw [W4.1 hx];exact SL.qT (s6.mono ad) k7 hbx7 cg
   have z7:=k7.size;refine ml (vs:=J8 j) CA Pc rfl ad ad (B9 _) rfl rfl n7 ad ad ad ?_;intro p8 c8 h8 s8 k8 hp8;have hbx8:=SL.Aq n7;have e7:Ext h h7:=Ch.trans (e2.trans e26) k7 (fun q hq hl=>by have:=(o2.out.cd hq).1; omega);have e8:Ext h h8:=Ch.trans e7 k8 (fun q hq hl=>by have:=(n7.cd hq).1; omega);refine aF (cs:=[(false,[.slice 0]),(false,[.slice 0]),(false,[.int .i64])]) ((p7,l17+1,c7),(p8,l20+1,c8),((j+1:Nat):Int),()) (u.bf.length-(j+1)) rfl ad (WJ (fun z=>[Value.slice p7 (l17+1) c7,.slice p8 (l20+1) c8,Value.int .i64 z]) hwj)
    ⟨j+1,ms2++[⟨dq us LB i e.1,p6,l6,c6,gY us LB i e.2⟩],_,rfl,rfl,ad,e8,⟨?_,?_,fun x hx=>SL.qT (i7 x hx) k8 hbx8 cg⟩,?_,rfl⟩
   ·have:SL h7 h.size 88 3 p7 (l17+1) c7 ((ms2++[(⟨dq us LB i e.1,p6,l6,c6,gY us LB i e.2⟩:cD)]).map Ah):=by rw [WG]; exact s7
    exact SL.qT this k8 hbx8 cg
   ·rw [List.range_succ,<- WU,WG];exact s8
   ·rw [htj,WG,WG,hms2,WU] <;> rfl
  ·have r:=Wt r
   have:j=u.bf.length:=ad
   subst this;rw [Xd] at hms2;refine aF (cs:=[(false,[.slice 0]),(false,[.slice 0]),(false,[.int .i64])]) ((p16,l17,l18),(p19,l20,l21),((i+1:Nat):Int),()) (us.length-(i+1)) rfl ad (WJ (fun z=>[Value.slice p16 l17 l18,.slice p19 l20 l21,Value.int .i64 z]) hwt)
    ⟨i+1,ms2,_,rfl,rfl,ad,e2,o2,?_,?_⟩
   ·rw [hms2,htk,On,hti]
   ·rw [htk,IV]
 ·have q:=Wt q
  have:i=us.length:=ad
  subst this;rw [Xd] at hms o1;have z1:=e1.size;have e01:=e0.trans e1;have pr1:=pr.ao e1;have b11:=b1.ao e1 aj;have hkm:ms.map fc=(eN (dR us LB us)).map fc:=by rw [hms,oG]
  have hml:ms.length=(dZ 0 us).length:=by
   have:=WJ List.length hms
   rw [Wr] at this;rw [this];unfold dR;rw [Wr]
  have hnm:(aT ms).Nodup:=by
   have:aT ms=(dR us LB us).map (·.1):=by
    rw [<- hms,WT] <;> rfl
   rw [this];exact hnd
  have hmem:∀ e,e∈ms->fc e∈dR us LB us:=fun e he=>by
   rw [<- hms];exact Wz.2 ⟨e,he,rfl⟩
  have hsum:∀ e,e∈ms->rX S e.x:=fun e he=>by
   have h1:=hmem e he;have h2:=hSd _ h1;unfold dR at h1;obtain ⟨q,hq,hqe⟩:=Wz.1 h1;have hx:e.x=gY us LB q.1 q.2.2:=(WJ (·.2) hqe).symm;obtain ⟨n,hn,hn1,hn2⟩:=vu us 0 q hq;have hqn:q.1=n:=ad
   have hew:=hE n us[n] (Wu hn) q.2 hn2;exact ⟨by rw [hx]; exact HZ _ _ _ _,by rw [hx]; exact Ef hew.1.num,h2⟩
  have ve:tu h1 p9 l10 ms:=⟨by have:=o1.out.1; rwa [Wr] at this,fun i hi=>by
   obtain ⟨a,ha,hc⟩:=SL.cells o1.out (i:=i) (by rw [Wr]; exact hi);rw [Wy] at hc;exact ⟨a,ha,hc⟩,fun e he=>(o1.eY e he).QH⟩
  refine aI (Jv (c:=l11) (B:=h.size) z1 ve (fun e he i hi=>(o1.eY e he).cd hi) hnm ad hS hsum) ?_;rintro w h2 ⟨e2,hw⟩;rw [DH hkm] at hw;cases hf:dt (eN (dR us LB us)) with
  | some i0 =>
   rw [hf] at hw;subst hw;refine ⟨((none,0,0),(i0:Int),(24:Int),()),rfl,?_⟩;refine an ?_;refine bX rfl ?_;have hi0:i0<(dZ 0 us).length:=by
    have h1:=hf;unfold dt at h1;rw [WR] at h1;obtain ⟨h2,_⟩:=h1
    have:(eN (dR us LB us)).length=(dZ 0 us).length:=by unfold eN dR; rw [Wr,Wr]
    omega
   exact Oh (lv:=2) (i0:=i0) rfl h0g (e01.trans e2) (b11.ao e2 aj) (v.ao (e01.trans e2)) hmany (o1.num.bG e2 aj) ad (Wu hi0) fun h' e'=>hk1 h' i0 _ hf (Wu hi0) e'
  | none =>
   rw [hf] at hw;obtain ⟨p',l',c',ns,rfl,on⟩:=hw;refine ⟨((p',l',c'),(0:Int),(0:Int),()),rfl,?_⟩;refine an ?_;refine bM rfl ?_;have hin:∀ m,m∈ns->∃ e,e∈ms/\m.name=e.name/\m.x=Q8 (cj ms) ms.length e.x:=fun m hm=>by
    obtain ⟨j,hj,rfl⟩:=WS hm;have hj':j<ms.length:=by rw [<- on.len]; exact hj
    obtain ⟨h1,h2⟩:=on.eq j ms[j] ns[j] (Wu hj') (Wu hj);exact ⟨ms[j],WA hj',h1,h2⟩
   have vn:tu h2 p' l' ns:=⟨by have:=on.out.1; rwa [Wr] at this,fun i hi=>by
    obtain ⟨a,ha,hc⟩:=SL.cells on.out (i:=i) (by rw [Wr]; exact hi);rw [Wy] at hc;exact ⟨a,ha,hc⟩,on.eY⟩
   have hkn:ns.map fc=(dR us LB us).map (fun y=>(y.1,eM (eN (dR us LB us)) y.1)):=by
    rw [<- hms,WT,hms];apply Yp
    ·rw [Wr,Wr,on.len]
    ·intro j h1' h2';rw [Wr] at h1' h2';rw [Wy,Wy];obtain ⟨h1,h2⟩:=on.eq j ms[j] ns[j] (Wu h2') (Wu h1');have h3:=Oo hnm (fun e he=>(hsum e he).num) (WA h2');unfold fc;rw [h1,h2,h3];show _=(ms[j].name,eM (eN (dR us LB us)) ms[j].name);rw [Hf hkm]
   have z2:=e2.size;refine Qd (lv:=2) (S:=S) rfl hga h0g (e01.trans e2) (b11.ao e2 aj) (pr1.ao e2) (v.ao (Ch.refl _ _)) sz hL vn (fun i hi=>by have:=(on.out.cd hi).1; omega) (fun e he i hi=>by have:=(on.low e he i hi).1; omega) (by rw [on.len]; omega) hS (fun e he=>by
    obtain ⟨d,hd,_,hx⟩:=hin e he;rw [hx];exact rX.it hsum (hsum d hd) _) hW ?_
   intro h' st sd tw dw e' pr' t' d' i1 i2;exact hk0 h' _ st sd tw dw ns hf hkn e' pr' t' d' i1 i2
theorem Aj (u:bP):∀ (l:List bP) (n:Nat),bt n (l++[u])=bt n l++Ce (n+l.length) u
 | [],n=>by simp [bt]
 | y::l,n=>by
  simp only [List.cons_append,bt,List.length_cons];rw [Aj u l (n+1),show n+1+l.length=n+(l.length+1) from ad,WU]
theorem zy (us:List bP) (i:Nat):(bt 0 (us.take i)).length<=(bt 0 us).length:=by
 have key:∀ (a b:List bP) (n:Nat),(bt n a).length<=(bt n (a++b)).length:=by
  intro a
  induction a with
  | nil=>intro b n; simp [bt]
  | cons u a ih =>
   intro b n;simp only [List.cons_append,bt,List.length_append]
   have:=ih b (n+1)
   omega
 have:=key (us.take i) (us.drop i) 0
 rwa [W8] at this
structure MC (us:List bP) (S:List YA):Prop where
 sz:Dd us
 dY:(bt 0 us).length<=2^39
 bf:∀ n u,us[n]?=some u->VV us n u
 items:∀ n u,us[n]?=some u->SR us (bt 0 us) S n u
 nd:((dR us (bt 0 us) us).map (·.1)).Nodup
 len:(dZ 0 us).length<=2^20
 names:S.length<=2^30
 eY:∀ y,y∈dR us (bt 0 us) us->∀ t,t∈y.2.ai->t.1∈S
def Bu (us:List bP) (su:bY) (w:YB) (h':Hp):Prop :=
 if (fk us).pX≠0 then w=.tuple #[.pointer none,N2 (fk us)]
 else (∃ i q,dt (eN (dR us (bt 0 us) us))=some i/\(dZ 0 us)[i]?=some q/\w=.tuple #[.pointer none,N2 ⟨24,q.1,q.2.1⟩]) \/
  ∃ g b' lb st sd tw dw ms,dt (eN (dR us (bt 0 us) us))=none/\w=.tuple #[.pointer (some ⟨g,0,none⟩),N2 ⟨0,0,du⟩]/\ms.map fc=(dR us (bt 0 us) us).map (fun y=>(y.1,eM (eN (dR us (bt 0 us) us)) y.1)) /\
   Bq h' g su lb st sd (bt 0 us)/\tQ h' b' st tw/\tQ h' b' sd dw/\yh us (bt 0 us) ms (·.text) us.length tw/\yh us (bt 0 us) ms (·.data) us.length dw
theorem Bb {h:Hp} {su:bY} {us:List bP} {S:List YA} (v:sT h su.p su.l us) (hC:(fk us).pX=0->MC us S):HC Tryz.prog 26 #[.slice su.p su.l su.c] h fun w h'=>Ext h h'/\Bu us su w h':=by
 refine aZ (args:=[.slice su.p su.l su.c]) mixed Tryz.func26 az (np su.p su.l su.c) ?_;unfold jL aX bh bm aH iA bF bk bj bi bU aM da;have hll:=v.len;refine bq ?_;intro h1 b1 e1 z1;refine aI (GS (c:=su.c) (v.ao e1)) ?_;rintro _ h2 ⟨rfl,e2⟩;refine ⟨(((fk us).pX:Int),((fk us).unit:Int),(fk us).name,()),rfl,?_⟩;refine an ?_;have b12:=b1.ao e2 aj;have e02:=e1.trans e2;refine bq ?_;intro h3 b3 e3 z3;refine aw b3 rfl aj ?_;intro h4 b4 k4 z4;have b4:bC h4 h2.size 54 [.int .i64 ((fk us).pX:Int),.int .i64 ((fk us).unit:Int),.string (fk us).name]:=b4;have e24:Ext h2 h4:=Ch.trans e3 k4 (fun j hj hl=>by simp at hj; omega);have e04:=e02.trans e24;have b14:=b12.ao e24 aj;have z2:=e2.size;refine af b4 (((fk us).pX:Int),()) rfl ?_;refine an ?_;refine ak (fun g=>?_) (fun g=>?_)
 ·have g:(fk us).pX≠0:=by
   intro hh;rw [hh] at g;cases g
  refine af b4 (((fk us).pX:Int),((fk us).unit:Int),(fk us).name,()) rfl ?_;refine an ?_;refine ⟨⟨b4.cells _ rfl,trivial⟩,?_⟩;refine aw b14 rfl aj ?_;intro h5 b5 k5 z5;have b5:bC h5 h.size 54 [.int .i64 ((fk us).pX:Int),.int .i64 ((fk us).unit:Int),.string (fk us).name]:=b5;refine af b5 (((fk us).pX:Int),((fk us).unit:Int),(fk us).name,()) rfl ?_;refine ⟨Ch.trans e04 k5 (fun j hj hl=>by simp at hj; omega),?_⟩;unfold Bu;rw [WC g] <;> rfl
 ·have g:(fk us).pX=0:=by
   have:(((fk us).pX:Nat):Int)=0:=by simpa using g
   omega
  have C:=hC g;refine bq ?_;intro h5 b5 e5 z5;have b5:bC h5 h4.size 70 [su.v,lW.v,lW.v,lW.v]:=b5;have v4:=v.ao e04;have hmany:=C.sz.many;refine aR (cs:=[(false,[.int .i64])]) (fun y k h'=>∃ (i:Nat) (lb:bY),y.1=(i:Int)/\k=us.length-i/\i<=us.length/\Ext h4 h'/\Bq h' h4.size su lb lW lW (bt 0 (us.take i))) ((0:Int),()) us.length rfl
   ⟨0,lW,rfl,rfl,ad,e5,⟨b5,SL.nil _ _ _ _⟩⟩ ?_
  rintro ⟨n8,⟨⟩⟩ k h6 ⟨i,lb,hi,rfl,hle,e6,pr⟩;simp only at hi;subst hi;refine an ?_;have hw:IntKind.wrap .i64 ((i:Int)+1)=((i+1:Nat):Int):=by rw [wrap_i64 ad ad]; omega
  refine ak (fun q=>?_) (fun q=>?_)
  ·have q:=Ws q;have hil:i<us.length:=ad
   have htk:us.take (i+1)=us.take i++[us[i]]:=Wx hil;have hti:(us.take i).length=i:=by rw [WO]; omega
   obtain ⟨au,sa,sb,sc,sd,hau,hcu,va⟩:=v4.cells i hil;have hum:=WA hil;generalize us[i]=u at htk hcu va hum;have h1t:=C.sz.text u hum;have h1d:=C.sz.data u hum;have hlt:=zy us i;have hlb:=C.dY;have hl1:=qW i 0 u.text 0;have cu:∀ {h':Hp},Ext h4 h'->aG h' (au.add (i*4)) 0 [.slice sa.p sa.l sa.c]/\aG h' ((au.add (i*4)).add 1) 0 [.slice sb.p sb.l sb.c]:=fun e=>⟨⟨(aQ e aj _ _ hcu).1,trivial⟩,⟨by rw [add_add]; exact (aQ e aj _ _ hcu).2.1,trivial⟩⟩
   refine ay ⟨ad,ad⟩ (av hau ?_);rw [show Int.toNat (i:Int)=i from ad];refine ax ((sa.p,sa.l,sa.c),()) (cu e6).1 ?_;refine an ?_;refine aI (EM (c:=sa.c) (WH _) e6 pr va.text ad i 0) ?_;rintro _ h7 ⟨rfl,e7,z7,lb7,pr7⟩;refine ⟨(),rfl,?_⟩;refine an ?_;refine ay ⟨ad,ad⟩ (av hau ?_);refine ax ((sb.p,sb.l,sb.c),()) (cu e7).2 ?_;refine an ?_;refine aI (EM (c:=sb.c) (WH _) e7 pr7 va.data (by rw [Wv]; omega) i 1) ?_;rintro _ h8 ⟨rfl,e8,z8,lb8,pr8⟩;refine ⟨(),rfl,?_⟩;refine an ?_;refine aF (cs:=[(false,[.int .i64])]) (((i+1:Nat):Int),()) (us.length-(i+1)) rfl ad (WJ (fun z=>[Value.int .i64 z]) hw) ⟨i+1,lb8,rfl,rfl,ad,e8,?_⟩;rw [htk,Aj,hti,Xa];unfold Ce;rw [<- WU];exact pr8
  ·have q:=Wt q
   have:i=us.length:=ad
   subst this;rw [Xd] at pr;have e06:=e04.trans e6;refine Qc (h0:=h) (S:=S) (by have:=e04.size; omega) (WH _) e06 (b14.ao e6 aj) pr v C.sz (by have:=C.dY; omega) C.bf C.items C.nd C.len C.names C.eY (fun h' i q hf hq e'=>⟨e',?_⟩) (fun h' b' st sd tw dw ms hf hms e' pr' t' d' i1 i2=>⟨e',?_⟩)
   ·unfold Bu;rw [Ww ad];exact .inl ⟨i,q,hf,hq,rfl⟩
   ·unfold Bu;rw [Ww ad];exact .inr ⟨_,b',lb,st,sd,tw,dw,ms,hf,rfl,hms,pr',t',d',i1,i2⟩
def zI (us:List bP) (L:List Lb) (n:Nat) (s:YA):Option Nat:=(fw us n s).bind fun o=>OP L o s
theorem Jo {h:Hp} {g:Nat} {su lb st sd:bY} {L:List Lb} (s:Bq h g su lb st sd L) {us:List bP} (v:sT h su.p su.l us) (sz:Dd us) {n:Nat} (hn:n<us.length) (hL:L.length<=2^40) (a:YA) :
  HC Tryz.prog 33 #[.pointer (some ⟨g,0,none⟩),.int .i64 (n:Int),.string a] h fun w h'=>w=.int .i64 (Ha (zI us L n a))/\Ext h h':=by
 refine aZ (args:=[.pointer (some ⟨g,0,none⟩),.int .i64 (n:Int),.string a]) mixed Tryz.func33 az (iC (some ⟨g,0,none⟩) n a) ?_;unfold eU aX bh bm aH cn aM;have hmany:=sz.many;have hul:=v.len;refine bM (WE ad) ?_;refine av rfl ?_;refine af s.box ((su.p,su.l,su.c),()) rfl ?_;refine an ?_;refine bM (WE ad) ?_;refine av rfl ?_;refine af s.box ((su.p,su.l,su.c),()) rfl ?_;refine an ?_;refine aI (yF (c:=su.c) v sz hn a) ?_;rintro _ h1 ⟨rfl,e1⟩;refine ⟨(Ha (fw us n a),()),rfl,?_⟩;refine an ?_;have s1:=s.ao e1;have hll:lb.l=L.length:=by have:=s.mV.1; rwa [Wr] at this
 refine aR (cs:=[(false,[.int .i64]),(false,[.int .i64])]) (fun y k h'=>∃ i:Nat,y.2.1=(i:Int)/\k=L.length-i/\i<=L.length/\h'=h1/\∀ o,fw us n a=some o->∀ j,j<i->(hj:j<L.length)->¬ (L[j].u=o/\L[j].n=a)) ((0:Int),(0:Int),()) L.length rfl
  ⟨0,rfl,rfl,ad,rfl,fun o _ j hj=>absurd hj ad⟩ ?_
 rintro ⟨s8,n9,⟨⟩⟩ k h2 ⟨i,hi,rfl,hle,rfl,hno⟩;simp only at hi;subst hi;refine an ?_;have hw:IntKind.wrap .i64 ((i:Int)+1)=((i+1:Nat):Int):=by rw [wrap_i64 ad ad]; omega
 refine av rfl ?_;rw [aE];refine af s1.box ((lb.p,lb.l,lb.c),()) rfl ?_;refine an ?_;refine ak (fun q=>?_) (fun q=>?_)
 ·have q:=Ws q;have hil:i<L.length:=ad
  refine av rfl ?_;rw [aE];refine af s1.box ((lb.p,lb.l,lb.c),()) rfl ?_;refine an ?_;obtain ⟨al,hal,hc⟩:=SL.cells s1.mV (i:=i) (by rw [Wr]; exact hil);rw [Wy] at hc;refine ay ⟨ad,ad⟩ (av hal ?_);rw [show Int.toNat (i:Int)=i from ad];refine ax ((L[i].u:Int),()) ⟨hc.1,trivial⟩ ?_;refine an ?_;have hst:(∀ o,fw us n a=some o->¬ (L[i].u=o/\L[i].n=a))->∀ o,fw us n a=some o->∀ j,j<i+1->(hj:j<L.length)->¬ (L[j].u=o/\L[j].n=a):=fun hne o ho j hj hx=>by
   by_cases e:j=i
   ·subst e; exact hne o ho
   ·exact hno o ho j ad hx
  refine ak (fun r=>?_) (fun r=>?_)
  ·have r:((L[i].u:Nat):Int)=Ha (fw us n a):=by simpa using r
   refine av rfl ?_;rw [aE];refine af s1.box ((lb.p,lb.l,lb.c),()) rfl ?_;refine an ?_;refine ay ⟨ad,ad⟩ (av hal ?_);refine ax (L[i].n,()) ⟨by rw [add_add]; exact hc.2.2.2.1,trivial⟩ ?_;refine an ?_;rw [ow];refine ak (fun t=>?_) (fun t=>?_)
   ·have t:=Ws t;refine ⟨?_,e1⟩;cases ho:fw us n a with
    | none=>rw [ho] at r; exact absurd r (by show ¬ ((_:Int)=-1); omega)
    | some o =>
     rw [ho] at r;have r:((L[i].u:Nat):Int)=(o:Int):=r;unfold zI;rw [ho,Xv,M8 hil (fun j hj=>hno o ho j hj ad) ad t] <;> rfl
   ·have t:=Wt t;refine aF (cs:=[(false,[.int .i64]),(false,[.int .i64])]) (s8,((i+1:Nat):Int),()) (L.length-(i+1)) rfl ad (WJ (fun z=>[Value.int .i64 s8,Value.int .i64 z]) hw) ⟨i+1,rfl,rfl,ad,rfl,hst fun o ho hh=>t hh.2⟩
  ·have r:¬ ((L[i].u:Nat):Int)=Ha (fw us n a):=by simpa using r
   refine aF (cs:=[(false,[.int .i64]),(false,[.int .i64])]) (s8,((i+1:Nat):Int),()) (L.length-(i+1)) rfl ad (WJ (fun z=>[Value.int .i64 s8,Value.int .i64 z]) hw) ⟨i+1,rfl,rfl,ad,rfl,hst fun o ho hh=>r (by rw [ho,hh.1]; rfl)⟩
 ·have q:=Wt q
  have:i=L.length:=ad
  subst this;refine ⟨?_,e1⟩;unfold zI;cases ho:fw us n a with
  | none=>rfl
  | some o =>
   rw [Xv,DB fun j hj=>hno o ho j hj hj] <;> rfl
theorem JT {us:List bP} {w:LW} (A:mU us w) {n:Nat} (hn:n<us.length) (x:bZ):w.bad n x=kG us n x:=by
 unfold LW.bad kG
 have:(fun t:YA × Nat=>(w.own n t.1).isNone)=fun t=>(fw us n t.1).isNone:=by
  funext t
  rw [A.own hn]
  all_goals (cases fw us n t.1 <;> rfl)
 rw [this]
theorem vO (w:LW) (n:Nat) (u:bP):rb w n u=(cF u).findSome? (w.bad n):=by
 unfold rb LW.xN cF;rw [Yi,Yi,List.findSome?_map,List.findSome?_map,List.findSome?_map,Option.or_assoc] <;> rfl
theorem FC {us:List bP} {n:Nat}:∀ (l:List bZ),(∀ x,x∈l->∀ t,t∈x.ai->¬ t.1.data.toList=[])->((qf us n l).data.toList=[]↔l.findSome? (kG us n)=none)/\∀ s,l.findSome? (kG us n)=some s->qf us n l=s
 | [],_=>by
  refine ⟨⟨fun _=>rfl,fun _=>rfl⟩,fun s hs=>by cases hs⟩
 | x::l,h=>by
  obtain ⟨i1,i2⟩:=FC l fun y hy=>h y (WN _ hy)
  have hx:=h x aj;have hu:qf us n (x::l)=if (dG us n x).data.toList=[] then qf us n l else dG us n x:=by
   unfold qf;rw [Xf,Yg]
   by_cases e:(dG us n x).data.toList=[]
   ·rw [WC e];simp [e]
   ·rw [Ww e];simp [e]
  rw [List.findSome?_cons];cases hf:kG us n x with
  | none =>
   have:dG us n x=⟨#[]⟩:=by unfold dG; rw [hf]; rfl
   rw [hu,WC (by rw [this])];exact ⟨i1,i2⟩
  | some s =>
   have h1:dG us n x=s:=by unfold dG; rw [hf]; rfl
   have h2:¬ s.data.toList=[]:=by
    unfold kG at hf;obtain ⟨t,ht,rfl⟩:=Yf.1 hf;exact hx t (List.mem_of_find?_eq_some ht)
   rw [hu,Ww (by rw [h1]; exact h2),h1];refine ⟨⟨fun k=>absurd k h2,fun k=>by cases k⟩,fun r hr=>by cases hr; rfl⟩
theorem SG {us:List bP} {w:LW} (A:mU us w) (hne:∀ u,u∈us->∀ x,x∈cF u->∀ t,t∈x.ai->¬ t.1.data.toList=[]) {n:Nat} (hn:n<us.length):y7 us n=(rb w n us[n]).map fun s=>(n,s):=by
 have hf:w.bad n=kG us n:=funext fun x=>JT A hn x
 obtain ⟨h1,h2⟩:=FC (us:=us) (n:=n) (cF us[n]) (hne _ (WA hn));unfold y7;rw [Wu hn,Xv,vO,hf];cases hs:(cF us[n]).findSome? (kG us n) with
 | none=>rw [WC (h1.2 hs)]; rfl
 | some s =>
  rw [hs] at h1;have h2:=h2 s hs;rw [Ww (fun k=>by cases h1.1 k),h2] <;> rfl
theorem HS {us:List bP} {w:LW} (A:mU us w) (hne:∀ u,u∈us->∀ x,x∈cF u->∀ t,t∈x.ai->¬ t.1.data.toList=[]):∀ (k n:Nat),us.length-n=k->n<=us.length->(∀ j,j<n->y7 us j=none)->Nk us=fJ w n (us.drop n)
 | 0,n,hk,hn,hd=>by
  have:n=us.length:=ad
  subst this;rw [X5];exact jm _ _ hd
 | k+1,n,hk,hn,hd=>by
  have hlt:n<us.length:=ad
  rw [yU w us n hlt];have hu:=SG A hne hlt;cases hb:rb w n us[n] with
  | some s =>
   rw [hb] at hu;exact jJ _ _ _ n hlt hd hu
  | none =>
   rw [hb] at hu;refine HS A hne k (n+1) ad hlt fun j hj=>?_
   by_cases e:j=n
   ·subst e; exact hu
   ·exact hd j ad
theorem Pm {x:bZ} (g:Good x):∀ t,t∈x.ai->¬ t.1.data.toList=[]:=by
 intro t ht e;have h:=g.NK t ht;rw [e] at h;cases h
theorem Qs {x:bZ} (g:Good x):∀ t,t∈x.ai->t.1.size<=32:=by
 intro t ht;have h:=g.NK t ht;unfold cP at h;simp only [Bool.and_eq_true] at h
 have:=Ws h.1.1.1.2
 simpa using this
def L9 (us:List bP):Except Fl LP->Prop
 | .error f=>f.pX≠0/\(fk us=f\/((fk us).pX=0/\(us.length<=64/\∃ w,mU us w/\fJ w 0 us=none)/\∃ i q,dt (eN (dR us (bt 0 us) us))=some i/\(dZ 0 us)[i]?=some q/\f=⟨24,q.1,q.2.1⟩))
 | .ok P=>(fk us).pX=0/\us.length<=64/\P.us=us/\P.D=uS P.w us/\mU us P.w/\fJ P.w 0 us=none/\mE (uS P.w us)=none/\dt (eN (dR us (bt 0 us) us))=none
theorem Og {D:List (YA × bZ)} {i:Nat} (h:mE D=some i):i<D.length:=by
 unfold mE at h;rw [WR] at h;exact h.1
theorem zO {us:List bP} (sm:∀ u,u∈us->∀ x,x∈cF u->x.num<4294967296/\∀ t,t∈x.ai->t.2<4294967296):L9 us (kJ us):=by
 unfold kJ
 by_cases h0:us.length=0
 ·rw [WC h0];refine ⟨aj,.inl ?_⟩;unfold fk;rw [WC h0]
 rw [Ww h0]
 by_cases h64:64<us.length
 ·rw [WC h64];refine ⟨aj,.inl ?_⟩;unfold fk;rw [Ww h0,WC h64]
 rw [Ww h64];have href:fk us=match us.findIdx? fun u=>decide (eG u≠0) with
  | some n=>⟨31,n,du⟩
  | none=>match Ed us with
   | some q=>⟨22,q.1,q.2⟩
   | none=>match Nk us with
    | some q=>⟨23,q.1,q.2⟩
    | none=>⟨0,0,du⟩:=by
  unfold fk;rw [Ww h0,Ww h64] <;> rfl
 cases hf:us.findIdx? fun u=>decide (eG u≠0) with
 | some n =>
  rw [hf] at href;exact ⟨aj,.inl href⟩
 | none =>
  rw [hf] at href;have hr:∀ u,u∈us->eG u=0:=by
   intro u hu;rw [Xe] at hf
   have:=Wt (hf u hu)
   omega
  have i0:=Qx hr;have hg0:∀ s,(mw 0 us Q4).gl s=none:=by
   have e1:∀ (n sec:Nat) (l:List cz) (i:Nat) (w:LW),(ix n sec i l w).gl=w.gl:=by
    intro n sec l
    induction l with
    | nil=>intro i w; rfl
    | cons x l ih =>
     intro i w;rw [ix,ih];unfold jf;split <;> rfl
   have e2:∀ (n:Nat) (l:List qi) (w:LW),(l.foldl (uM n) w).gl=w.gl:=by
    intro n l
    induction l with
    | nil=>intro w; rfl
    | cons x l ih=>intro w; rw [Xk,ih]; rfl
   have e3:∀ (l:List bP) (n:Nat) (w:LW),(mw n l w).gl=w.gl:=by
    intro l
    induction l with
    | nil=>intro n w; rfl
    | cons u l ih =>
     intro n w;rw [mw,ih];unfold Fm;rw [e2,e1,e1]
   intro s;rw [e3] <;> rfl
  have hm:=FE us us.length 0 (mw 0 us Q4) ad (Yl _) (fun s=>by rw [hg0]; rfl) (fun j hj=>absurd hj ad);rw [List.drop_zero] at hm;simp only;cases hw:jZ 0 us (mw 0 us Q4) with
  | error q =>
   rw [hw] at hm;have hm:Ed us=some q:=hm;rw [hm] at href;exact ⟨aj,.inl href⟩
  | ok w =>
   rw [hw] at hm;obtain ⟨hd,hg⟩:Ed us=none/\∀ s,w.gl s=Oy us s:=hm
   rw [hd] at href;have A:mU us w:=⟨hr,i0.meet hw,hg⟩
   have hne:∀ u,u∈us->∀ x,x∈cF u->∀ t,t∈x.ai->¬ t.1.data.toList=[]:=fun u hu x hx=>Pm (zH (hr u hu) (sm u hu) x hx)
   have hu:=HS A hne us.length 0 ad (Yl _) (fun j hj=>absurd hj ad);rw [List.drop_zero] at hu;rw [hu] at href;cases hb:fJ w 0 us with
   | some q =>
    rw [hb] at href;simp only [hb];exact ⟨aj,.inl href⟩
   | none =>
    rw [hb] at href;have hz:(fk us).pX=0:=by rw [href]
    have hcy:=A.UE hb;cases hc:mE (uS w us) with
    | some i =>
     have hi:=Og hc;have hi:i<(dZ 0 us).length:=by unfold uS at hi; rwa [Wr] at hi
     simp only [hb,hc];refine ⟨aj,.inr ⟨hz,⟨ad,w,A,hb⟩,i,(dZ 0 us)[i],by rw [<- hcy,hc],Wu hi,?_⟩⟩;have hgd:((dZ 0 us).map fun q=>(q.1,q.2.1)).getD i (0,du)=((dZ 0 us)[i].1,(dZ 0 us)[i].2.1):=by
      rw [XI,Xc,Wu hi] <;> rfl
     rw [hgd]
    | none =>
     simp only [hb,hc];exact ⟨hz,ad,rfl,rfl,A,hb,hc,by rw [<- hcy,hc]⟩
def OZ (us:List bP):List YA:=((bt 0 us).map yP++(dZ 0 us).map ju).map (N4 (bt 0 us))
theorem DY {us:List bP} {w:LW} (sm:Ho us) (h64:us.length<=64) (A:mU us w) (hb:fJ w 0 us=none):MC us (OZ us):=by
 have r:Ew us:=⟨A.right,h64⟩
 have hg:∀ u,u∈us->∀ x,x∈cF u->Good x:=fun u hu=>zH (A.right u hu) (sm.num u hu)
 have hbad:∀ n u,us[n]?=some u->∀ x,x∈cF u->w.bad n x=none:=by
  intro n u hu x hx;have hn:=(WM.1 hu).1;have h1:=kX us 0 hb n hn;have he:us[n]=u:=(WM.1 hu).2;rw [Xa,he,vO,Xq] at h1;exact h1 x hx
 have hown:∀ n u,us[n]?=some u->∀ x,x∈cF u->∀ t,t∈x.ai->∃ o,fw us n t.1=some o:=by
  intro n u hu x hx t ht;obtain ⟨k,hk⟩:=zJ (hbad n u hu x hx) t ht;rw [A.own (WM.1 hu).1] at hk;obtain ⟨o,ho,_⟩:=Yf.1 hk;exact ⟨o,ho⟩
 have hsum:∀ n u,us[n]?=some u->∀ x,x∈cF u->Km us n x:=by
  intro n u hu x hx;have hm:=Xh hu;have g:=hg u hm x hx;refine ⟨g.nf,g.num,?_,hown n u hu x hx,fun t ht=>?_⟩
  ·have:=sm.len hm hx
   omega
  ·have:=Qs g t ht
   omega
 have hS:∀ n u,us[n]?=some u->∀ x,x∈cF u->∀ t,t∈x.ai->dq us (bt 0 us) n t.1∈OZ us:=by
  intro n u hu x hx t ht;obtain ⟨o,ho⟩:=hown n u hu x hx t ht;unfold dq;rw [ho,Option.getD_some];exact WL (f:=N4 (bt 0 us)) (a:=(o,t.1)) (WV.2 (Iz A.right ho))
 have hmt:∀ u:bP,∀ x,x∈u.text->x.e∈cF u:=fun u x hx=>W3 _ (W3 _ (WL hx))
 have hmd:∀ u:bP,∀ x,x∈u.data->x.e∈cF u:=fun u x hx=>W3 _ (W5 _ (WL hx))
 have hme:∀ u:bP,∀ e,e∈u.bf->e.2∈cF u:=fun u e he=>W5 _ (WL he)
 refine ⟨Dd.of h64 A.right,?_,fun n u hu e he=>⟨hsum n u hu _ (hme u e he),?_,?_⟩,fun n u hu=>⟨fun x hx=>⟨hsum n u hu _ (hmt u x hx),hS n u hu _ (hmt u x hx)⟩,fun x hx=>⟨hsum n u hu _ (hmd u x hx),hS n u hu _ (hmd u x hx)⟩⟩,?_,?_,?_,?_⟩
 ·have:=r.dY; omega
 ·exact ⟨n,A9 hu (W5 _ (WL he))⟩
 ·have h1:=(zZ (A.right u (Xh hu))).2;unfold uH at h1;simp only [Bool.and_eq_true] at h1;have h2:=(tN h1.1.2 e he).1;unfold cP at h2;simp only [Bool.and_eq_true] at h2;have h3:=Ws h2.1.1.1.2;have h4:e.1.size<=32:=by simpa using h3
  omega
 ·rw [MI];exact (A.two hb).symm.Tn
 ·have:=r.eqs; omega
 ·unfold OZ;rw [Wr,Wv,Wr,Wr];have h1:=r.dY;have h2:=r.eqs;omega
 ·intro y hy t ht;unfold dR at hy;obtain ⟨q,hq,rfl⟩:=Wz.1 hy;obtain ⟨u,hu,he⟩:=Cn hq;obtain ⟨p,hp,e⟩:=DG ht;rw [e];exact hS q.1 u hu _ (hme u q.2 he) p hp
theorem mU.find {us:List bP} {w:LW} (A:mU us w) {n:Nat} (hn:n<us.length) (s:YA):(w.own n s).bind w.num=zI us (bt 0 us) n s:=by
 unfold zI;rw [A.own hn];cases fw us n s with
 | none=>rfl
 | some o =>
  show w.num (o,s)=OP (bt 0 us) o s;rw [yx,A.wi.num]
theorem gd {h:Hp} {a:YC}:∀ (n:Nat) (vs:List YB) (i:Nat),aG h a i vs->aG h a (i+n) (vs.drop n)
 | 0,vs,i,hc=>hc
 | n+1,[],i,hc=>trivial
 | n+1,v::vs,i,hc=>by
  have:=gd n vs (i+1) hc.2
  rw [show i+1+n=i+(n+1) from ad] at this;exact this
theorem hZ {h:Hp} {a:YC}:∀ (vs:List YB) (o i:Nat),aG h a (o+i) vs->aG h (a.add o) i vs
 | [],_,_,_=>trivial
 | v::vs,o,i,h1=>⟨by have:=h1.1; rw [add_add]; exact this,hZ vs o (i+1) h1.2⟩
theorem et {h:Hp} {a:YC}:∀ (n:Nat) (vs:List YB) (i:Nat),aG h a i vs->aG h a i (vs.take n)
 | 0,vs,i,hc=>trivial
 | n+1,[],i,hc=>trivial
 | n+1,v::vs,i,hc=>⟨hc.1,et n vs (i+1) hc.2⟩
theorem _root_.Go.Sx.rl.qJ {h h':Hp} {b b2:Nat} {p q:Option YC} {l c m d sz:Nat} {e:TypeId} {ms:List cD} {xs:List (List YB)} (o:rl h b p l c ms) (t:SL h b2 e sz q m d xs) (k:Ch (aK q) h h') (h1:e≠88) (h2:e≠66):rl h' b p l c ms :=
 ⟨o.out.bG k (fun i hi hm=>uF t o.out h1 i hm hi),fun m hm=>(o.eY m hm).bG k (fun i hi hm'=>uF t (o.eY m hm) h2 i hm' hi),o.ap,o.dj⟩
def qE (of:YA->Option bZ) (x:cz):cz:={ x with e:=cY of x.e }
def RQ (p55:Option YC) (l56:Nat) (p21:Option YC) (l22 l23 lv:Nat) (k:T):T :=
 T.loop [aM] [.int .i64 (0:Int)] <| fun (n58:Int) =>
     bm n58 l56
     (T.need (((0:Int)<=n58)/\(n58<(l56:Int))) <|
     T.bd p55 <| fun (a59:YC) =>
     T.ah ((a59.add (aH n58 10)).add 7) [.slice 66,.int .u32] <| fun (p60:Option YC) (l61:Nat) (l62:Nat) (n63:Int) =>
     bF 50 [.agg #[.slice p60 l61 l62,.int .u32 n63],.slice p21 l22 l23] false [(true,[.slice 66,.int .u32])] <| fun (p64:Option YC) (l65:Nat) (l66:Nat) (n67:Int) =>
     T.need (((0:Int)<=n58)/\(n58<(l56:Int))) <|
     T.bd p55 <| fun (a68:YC) =>
     T.aD ((a68.add (aH n58 10)).add 7) [.slice p64 l65 l66,.int .u32 n67] <|
     T.again lv [.int .i64 (bj (n58+(1:Int)))])
     k
structure J9 (h:Hp) (b:Nat) (p:Option YC) (l c:Nat) (ms:List cD):Prop where
 own:rl h b p l c ms
 ok:EqsOk ms
 het:∀ e,e∈ms->e.x.ai.length<=2^20
 To:(ms.flatMap (·.x.ai)).length<=2^39
 len:ms.length<=2^20
theorem J9.ext {h h':Hp} {b:Nat} {p:Option YC} {l c:Nat} {ms:List cD} (s:J9 h b p l c ms) (k:Ext h h'):J9 h' b p l c ms:=⟨s.own.ao k aj,s.ok,s.het,s.To,s.len⟩
theorem J9.qJ {h h':Hp} {b b2:Nat} {p q:Option YC} {l c m d sz:Nat} {e:TypeId} {ms:List cD} {xs:List (List YB)} (o:J9 h b p l c ms) (t:SL h b2 e sz q m d xs) (k:Ch (aK q) h h') (h1:e≠88) (h2:e≠66):J9 h' b p l c ms :=
 ⟨o.own.qJ t k h1 h2,o.ok,o.het,o.To,o.len⟩
def H6 (ws:List (bY × cz)):Prop:=∀ u,u∈ws->u.2.e.ai.length<=2^20/\u.2.e.num<4294967296/\∀ t,t∈u.2.e.ai->t.1.size<=maxLen
theorem Oq {L : Lp} {K : YB -> Hp -> Prop} {h : Hp} {b N b2 : Nat} {S : Nat -> kw} {p21 : Option YC} {l22 l23 lv : Nat} {k : T} {ms : List cD} (hlv : lv = L.length) (s : kE h b N S) {j : Nat} (hj : j < N) (sv : J9 h b2 p21 l22 l23 ms) (ok : H6 (S j).ws) (hbig : (S j).ws.length <= 2 ^ 20)
    (hk : ∀ h' S' J, kE h' b N S' -> (∀ i, i ≠ j -> S' i = S i) -> (S' j).s = (S j).s -> (S' j).ws.map (·.2) = (S j).ws.map (fun u => qE (cj ms) u.2) -> Ch (aK (S j).s.p) h h' -> J9 h' b2 p21 l22 l23 ms -> k (L ++ [J]) K h') :
    RQ (S j).s.p (S j).s.l p21 l22 l23 lv k L K h := by
  subst hlv;unfold RQ bm aH bF bj aM;have hl0 : (S j).s.l = (S j).ws.length := by have := (s.sec j hj).out.1; rwa [Wr] at this
  generalize hws : (S j).ws = ws at *;generalize hl : (S j).s.l = l at *;subst hl0
  refine aR (cs := [(false, [.int .i64])]) (fun y m' h' => ∃ (i : Nat) (S' : Nat -> kw), y.1 = (i : Int) /\ i <= ws.length /\ m' = ws.length - i /\ kE h' b N S' /\ (∀ i, i ≠ j -> S' i = S i) /\ (S' j).s = (S j).s /\ (S' j).ws.length = ws.length /\ (∀ m, (hm : m < ws.length) -> (hm' : m < (S' j).ws.length) -> if m < i then (S' j).ws[m].2 = qE (cj ms) ws[m].2 else (S' j).ws[m] = ws[m]) /\ Ch (aK (S j).s.p) h h' /\ J9 h' b2 p21 l22 l23 ms) ((0 : Int), ()) ws.length rfl
    ⟨0, S, rfl, ad, ad, s, fun _ _ => rfl, rfl, by rw [hws], fun m hm hm' => by rw [Ww ad]; simp only [hws], Ch.refl _ _, sv⟩ ?_
  clear s sv;rintro ⟨n58, ⟨⟩⟩ m' h1 ⟨i, S', hi, hil, rfl, s, so, ss, sl, sw, k1, sv⟩;simp only at hi;subst hi;refine an ?_;refine ak (fun q => ?_) (fun q => ?_)
  · have q := Ws q
    have hlt : i < ws.length :=ad
    have hlt' : i < (S' j).ws.length :=ad
    have sj := s.sec j hj;have hwi := sw i hlt hlt';rw [Ww ad] at hwi;have okw := ok ws[i] (WA hlt);have hin := sj.eY _ (WA hlt');obtain ⟨a, ha, hc⟩ := sj.out.cells (i := i) (by simpa using hlt');rw [Wy, hwi] at hc;rw [hwi] at hin;rw [ss] at ha;generalize hu : ws[i] = u at okw hin hc;refine ay ⟨ad, ad⟩ (av ha ?_);rw [show Int.toNat (i : Int) = i from ad];refine ax ((u.1.p, u.1.l, u.1.c), (u.2.e.num : Int), ()) (et 2 [_, _, _] 0 (hZ _ 7 0 (gd 7 _ 0 hc))) ?_;refine an ?_;refine aI (La (c := u.1.c) (d := l23) (wo hin) (Ca sv.own) sv.ok sv.het sv.To sv.len okw.1 okw.2.2) ?_;rintro _ h2 ⟨⟨p', l', c', rfl, s2⟩, e2⟩;rw [xz (eE _ _) (lf okw.2.1)] at s2 ⊢;refine ⟨((p', l', c'), ((cY (cj ms) u.2.e).num : Int), ()), rfl, ?_⟩;refine an ?_;refine ay ⟨ad, ad⟩ (av ha ?_);have s' := s.ext e2;have sj' := s'.sec j hj;have so2 := sj'.out;refine SL.part (P := Tryz.prog) so2 (i := i) (by rw [Wr]; exact hlt') (o := 7) aj (by simp [cS]) (by rw [ss]; exact ha) ?_;intro h3 s3 k3 z3
    have hnew : ((S' j).ws.map sH).set i (lG (((S' j).ws.map sH)[i]'(by rw [Wr]; exact hlt')) 7 [.slice p' l' c', .int .u32 ((cY (cj ms) u.2.e).num : Int)]) = ((S' j).ws.set i (⟨p', l', c'⟩, qE (cj ms) u.2)).map sH := by
      rw [Yn, Wy, hwi, hu] <;> rfl
    rw [hnew] at s3
    have sp := s'.put hj hlt' (q := (⟨p', l', c'⟩, qE (cj ms) u.2)) (s2.mono (by have := s.sec j hj; have hb : b <= h1.size := by have := (sj.out.cd (i := a.block) (by rw [ss, ha]; simp [aK])); omega
                                                                                 exact hb)) s3 k3
    have hw : IntKind.wrap .i64 ((i : Int) + 1) = ((i + 1 : Nat) : Int) := by rw [wrap_i64 ad ad]; omega
    rw [hw];rw [ss] at k3;refine aF (cs := [(false, [.int .i64])]) (((i + 1 : Nat) : Int), ()) (ws.length - (i + 1)) (by rw [WX (WH _), Yo]; rfl) ad rfl ?_;refine ⟨i + 1, _, rfl, ad, rfl, sp, fun m hm => ?_, ?_, ?_, fun m hm hm' => ?_, (k1.trans (e2.mono aj) (fun i hi _ => hi)).trans k3 (fun i hi _ => hi), (sv.ext e2).qJ so2 (by rw [ss]; exact k3) cg cg⟩
    · unfold kr
      rw [Ww hm];exact so m hm
    · unfold kr
      rw [WC rfl];exact ss
    · unfold kr
      rw [WC rfl, XK];exact sl
    · have e1 : (kr S' j ⟨(S' j).s, (S' j).ws.set i (⟨p', l', c'⟩, qE (cj ms) u.2)⟩ j).ws = (S' j).ws.set i (⟨p', l', c'⟩, qE (cj ms) u.2) := by
        unfold kr;rw [WC rfl]
      simp only [e1]
      by_cases hmi : m = i
      · subst hmi
        rw [WC ad, List.getElem_set_self, hu]
      · have hm2 : m < (S' j).ws.length :=ad
        have := sw m hm hm2;rw [List.getElem_set_ne (Ne.symm hmi)]
        by_cases hlt2 : m < i
        · rw [WC hlt2] at this
          rw [WC ad];exact this
        · rw [Ww hlt2] at this
          rw [Ww ad];exact this
  · have q := Wt q
    have hi : i = ws.length :=ad
    subst hi;refine hk h1 S' _ s so ss ?_ k1 sv;refine Yp (by rw [Wr, Wr]; exact sl) fun m hm1 hm2 => ?_
    rw [Wr] at hm1 hm2;have := sw m hm2 hm1;rw [WC hm2] at this;rw [Wy, Wy];exact this
structure oA (h:Hp) (B:Nat) (w:LW) (usl lb:bY) (sp:Int) (N M:Nat) (S:Nat->kw):Prop where
 box:N9 h (B+3) usl lb B (B+1) (B+2) sp
 maps:LM h B (B+1) (B+2) w
 mV:SL h (B+4) 76 4 lb.p lb.l lb.c (w.lb.map wq)
 un:SL h (B+4) 30 4 usl.p usl.l usl.c (mf S N)
 wP:kE h (B+4) M S
section
variable {h h':Hp} {B N M:Nat} {w:LW} {usl lb:bY} {sp:Int} {S:Nat->kw}
theorem oA.mi {ws:List Nat} (s:oA h B w usl lb sp N M S) (k:Ch ws h h') (hw:∀ i,i∈ws->i<B):oA h' B w usl lb sp N M S :=
 ⟨s.box.ao k (fun hm=>by have:=hw _ hm; omega),s.maps.ao k (fun hm=>by have:=hw _ hm; omega) (fun hm=>by have:=hw _ hm; omega) (fun hm=>by have:=hw _ hm; omega),
  s.mV.bG k (fun i hi hm=>by have:=(s.mV.cd hi).1; have:=hw _ hm; omega),s.un.bG k (fun i hi hm=>by have:=(s.un.cd hi).1; have:=hw _ hm; omega),s.wP.mi k (fun i hi=>by have:=hw _ hi; omega)⟩
theorem oA.ext (s:oA h B w usl lb sp N M S) (k:Ext h h'):oA h' B w usl lb sp N M S:=s.mi k aj
theorem oA.lt (s:oA h B w usl lb sp N M S):B+4<=h.size:=by have:=s.box.lt; omega
theorem oA.qJ {b2 sz:Nat} {e:TypeId} {q:Option YC} {m d:Nat} {xs:List (List YB)} (s:oA h B w usl lb sp N M S) (t:SL h b2 e sz q m d xs) (k:Ch (aK q) h h') (hb:B+4<=b2) (h1:e≠76) (h2:e≠30) (h3:e≠64) (h4:e≠66):oA h' B w usl lb sp N M S:=by
 have hw:∀ i,i∈aK q->B+4<=i:=fun i hi=>by have:=(t.cd hi).1; omega
 exact ⟨s.box.ao k (fun hm=>by have:=hw _ hm; omega),s.maps.ao k (fun hm=>by have:=hw _ hm; omega) (fun hm=>by have:=hw _ hm; omega) (fun hm=>by have:=hw _ hm; omega),
  s.mV.bG k (fun i hi hm=>uF t s.mV h1 i hm hi),s.un.bG k (fun i hi hm=>uF t s.un h2 i hm hi),s.wP.qJ t k h3 h4⟩
theorem oA.Vj {S':Nat->kw} {j:Nat} (s:oA h B w usl lb sp N M S) (hj:j<M) (s':kE h' (B+4) M S') (hs:∀ i,(S' i).s=(S i).s) (k:Ch (aK (S j).s.p) h h'):oA h' B w usl lb sp N M S':=by
 have t:=(s.wP.sec j hj).out;have hw:∀ i,i∈aK (S j).s.p->B+4<=i:=fun i hi=>(t.cd hi).1
 have he:mf S' N=mf S N:=by
  unfold mf;apply Xl;intro i _;unfold xe;rw [hs,hs]
 exact ⟨s.box.ao k (fun hm=>by have:=hw _ hm; omega),s.maps.ao k (fun hm=>by have:=hw _ hm; omega) (fun hm=>by have:=hw _ hm; omega) (fun hm=>by have:=hw _ hm; omega),
  s.mV.bG k (fun i hi hm=>uF t s.mV cg i hm hi),by rw [he]; exact s.un.bG k (fun i hi hm=>uF t s.un cg i hm hi),s'⟩
end
def AZ (of:YA->Option bZ) (S S':Nat->kw) (m:Nat):Prop:=∀ k,(S' k).s=(S k).s/\if k<m then (S' k).ws.map (·.2)=(S k).ws.map (fun u=>qE of u.2) else S' k=S k
theorem AZ.step {of:YA->Option bZ} {S S' S2:Nat->kw} {m:Nat} (d:AZ of S S' m) (h1:∀ i,i≠m->S2 i=S' i) (h2:(S2 m).s=(S' m).s) (h3:(S2 m).ws.map (·.2)=(S' m).ws.map (fun u=>qE of u.2)):AZ of S S2 (m+1):=by
 intro k;obtain ⟨e1,e2⟩:=d k
 by_cases hk:k=m
 ·subst hk;rw [Ww ad] at e2;rw [WC ad];exact ⟨h2.trans e1,by rw [h3,e2]⟩
 ·rw [h1 k hk];refine ⟨e1,?_⟩
  by_cases hlt:k<m
  ·rw [WC hlt] at e2;rw [WC ad];exact e2
  ·rw [Ww hlt] at e2;rw [Ww ad];exact e2
def RY (a1 a7:YC) (p21:Option YC) (l22 l23:Nat):T :=
    (T.ah a7 [.slice 30] <| fun (p26:Option YC) (l27:Nat) (l28:Nat) =>
    T.loop [aM] [.int .i64 (0:Int)] <| fun (n29:Int) =>
    bm n29 l27
    (T.need (((0:Int)<=n29)/\(n29<(l27:Int))) <|
    T.bd p26 <| fun (a30:YC) =>
    T.ah (a30.add (aH n29 4)) [.slice 64,.slice 64,.slice 88,.slice 9] <| fun (p31:Option YC) (l32:Nat) (l33:Nat) (p34:Option YC) (l35:Nat) (l36:Nat) (p37:Option YC) (l38:Nat) (l39:Nat) (p40:Option YC) (l41:Nat) (l42:Nat) =>
    T.new [bi,bi,bi,bi] 30 <| fun (a43:YC) =>
    T.aD a43 [.slice p31 l32 l33,.slice p34 l35 l36,.slice p37 l38 l39,.slice p40 l41 l42] <|
    T.ah a43 [.slice 64] <| fun (p44:Option YC) (l45:Nat) (l46:Nat) =>
    T.ah (a43.add 1) [.slice 64] <| fun (p47:Option YC) (l48:Nat) (l49:Nat) =>
    bK (Instr.buildSlice 68 2 #[(0,.slice p44 l45 l46),(1,.slice p47 l48 l49)]) false [da] <| fun (p50:Option YC) (l51:Nat) (l52:Nat) =>
    T.loop [aM] [.int .i64 (0:Int)] <| fun (n53:Int) =>
    bm n53 l51
     (T.need (((0:Int)<=n53)/\(n53<(l51:Int))) <|
     T.bd p50 <| fun (a54:YC) =>
     T.ah (a54.add (aH n53 1)) [.slice 64] <| fun (p55:Option YC) (l56:Nat) (l57:Nat) =>
     RQ p55 l56 p21 l22 l23 4 (T.again 3 [.int .i64 (bj (n53+(1:Int)))]))
     (T.again 2 [.int .i64 (bj (n29+(1:Int)))]))
    (T.aD a1 [.int .i64 (0:Int),.int .i64 (0:Int),bU] <|
    T.ah a1 [.int .i64,.int .i64,.string] <| fun (n30:Int) (n31:Int) (Q6:YA) =>
    T.ret (.tuple #[.pointer (some a7),.agg #[.int .i64 n30,.int .i64 n31,.string Q6]])))
theorem Qf {J0 J1:List YB->Hp->Prop} {K:YB->Hp->Prop} {h0 h:Hp} {A B N b2:Nat} {w:LW} {usl lb:bY} {sp:Int} {S:Nat->kw} {p21:Option YC} {l22 l23:Nat} {ms:List cD}
  (hA:h0.size<=A) (hAB:A<B) (e0:Ext h0 h) (ba:bC h A 37 [.int .i64 0,.int .i64 0,.string ⟨#[]⟩]) (s:oA h B w usl lb sp N (2*N) S) (sv:J9 h b2 p21 l22 l23 ms) (hN:N<=2^20)
  (ok:∀ j,j<2*N->H6 (S j).ws/\(S j).ws.length<=2^20)
  (hk:∀ h' S',Ext h0 h'->oA h' B w usl lb sp N (2*N) S'->AZ (cj ms) S S' (2*N)->K (.tuple #[ptr (B+3),.agg #[.int .i64 0,.int .i64 0,.string ⟨#[]⟩]]) h') :
  RY ⟨A,0,none⟩ ⟨B+3,0,none⟩ p21 l22 l23 [J0,J1] K h:=by
 unfold RY bm aH bK bj bi bU aM da;refine af s.box ((usl.p,usl.l,usl.c),()) rfl ?_;refine an ?_;have hul:usl.l=N:=by have:=s.un.1; rwa [gI] at this
 rw [hul];refine aR (cs:=[(false,[.int .i64])]) (fun y m' h'=>∃ (n:Nat) (S':Nat->kw),y.1=(n:Int)/\n<=N/\m'=N-n/\Ext h0 h'/\bC h' A 37 [.int .i64 0,.int .i64 0,.string ⟨#[]⟩]/\oA h' B w usl lb sp N (2*N) S'/\AZ (cj ms) S S' (2*n)/\J9 h' b2 p21 l22 l23 ms) ((0:Int),()) N rfl
  ⟨0,S,rfl,ad,ad,e0,ba,s,fun k=>⟨rfl,by rw [Ww ad]⟩,sv⟩ ?_
 clear s sv ba e0;rintro ⟨n29,⟨⟩⟩ m' h1 ⟨n,S1,hn,hnN,rfl,e1,ba,s,d,sv⟩;simp only at hn;subst hn;refine an ?_;refine ak (fun q=>?_) (fun q=>?_)
 ·have q:=Ws q;have hlt:n<N:=ad
  obtain ⟨a,ha,hc⟩:=s.un.cells (i:=n) (by rw [gI]; exact hlt);rw [Bo] at hc;refine ay ⟨ad,ad⟩ (av ha ?_);rw [show Int.toNat (n:Int)=n from ad];generalize hta:(S1 (2*n)).s=ta;generalize htb:(S1 (2*n+1)).s=tb;have hc:aG h1 (a.add (n*4)) 0 [ta.v,tb.v,lW.v,lW.v]:=by rw [<- hta,<- htb]; exact hc
  refine ax ((ta.p,ta.l,ta.c),(tb.p,tb.l,tb.c),(none,0,0),(none,0,0),()) hc ?_;refine an ?_;refine bq ?_;intro h2 b2' e2 z2;refine aw b2' rfl aj ?_;intro h3 b3 k3 z3;have b3:bC h3 h1.size 30 [ta.v,tb.v,lW.v,lW.v]:=b3;have e13:Ext h1 h3:=Ch.trans e2 k3 (fun i hi hl=>by simp at hi; omega);refine af b3 ((ta.p,ta.l,ta.c),()) rfl ?_;refine an ?_;rw [aE];refine af b3 ((tb.p,tb.l,tb.c),()) rfl ?_;refine an ?_;refine jX NV Vm ad ad (NB ta.p ta.l ta.c tb.p tb.l tb.c) ?_;intro h4 b4 e4 z4;have b4:bC h4 h3.size 26 [ta.v,tb.v]:=b4;have e14:=e13.trans e4;have hsec:∀ k,k<2->([ta.v,tb.v]:List YB).drop k=(S (2*n+k)).s.v::([ta.v,tb.v]:List YB).drop (k+1):=by
   intro k hk;have h0:∀ k,(S1 k).s=(S k).s:=fun k=>(d k).1
   have:k=0\/k=1:=ad
   rcases this with rfl | rfl
   ·rw [<- h0]; show [ta.v,tb.v]=(S1 (2*n)).s.v::[tb.v]; rw [hta]
   ·rw [<- h0]; show [tb.v]=(S1 (2*n+1)).s.v::[]; rw [htb]
  have hb3:∀ j,j<2*N->h3.size∉aK (S j).s.p:=by
   intro j hj hm;rw [<- (d j).1] at hm
   have:=((s.wP.sec j hj).out.cd hm).2
   have:=e13.size
   omega
  refine aR (cs:=[(false,[.int .i64])]) (fun y m' h'=>∃ (j:Nat) (S':Nat->kw),y.1=(j:Int)/\j<=2/\m'=2-j/\Ext h0 h'/\bC h' A 37 [.int .i64 0,.int .i64 0,.string ⟨#[]⟩]/\oA h' B w usl lb sp N (2*N) S'/\AZ (cj ms) S S' (2*n+j)/\J9 h' b2 p21 l22 l23 ms/\bC h' h3.size 26 [ta.v,tb.v]) ((0:Int),()) 2 rfl
   ⟨0,S1,rfl,ad,ad,e1.trans e14,ba.ao e14 aj,s.ext e14,d,sv.ext e14,b4⟩ ?_
  clear s sv ba d hta htb hc ha b3;rintro ⟨n53,⟨⟩⟩ m' h5 ⟨j,S2,hj,hj2,rfl,e5,ba,s,d,sv,b5⟩;simp only at hj;subst hj;refine an ?_;refine ak (fun q=>?_) (fun q=>?_)
  ·have q:=Ws q;have hj2:j<2:=ad
   refine ay ⟨ad,ad⟩ (av rfl ?_);rw [show Int.toNat (j:Int)=j from ad,aE];have hsj:=(d (2*n+j)).1;have hSe:S2 (2*n+j)=S (2*n+j):=by
    have:=(d (2*n+j)).2
    rwa [Ww ad] at this
   refine af b5 (((S (2*n+j)).s.p,(S (2*n+j)).s.l,(S (2*n+j)).s.c),()) (by
    have:=hsec j hj2
    rw [show 0+j*1=j from ad,this];rfl) ?_
   refine an ?_;rw [<- hSe];have hjN:2*n+j<2*N:=ad
   have okj:=ok _ hjN;rw [<- hSe] at okj;have key:=fun (L:Lp) (hL:4=L.length)=>@Oq L K h5 (B+4) (2*N) b2 S2 p21 l22 l23 4 (T.again 3 [.int .i64 (IntKind.wrap .i64 ((j:Int)+(1:Int)))]) ms hL s.wP (2*n+j) hjN sv okj.1 okj.2
   refine key _ ?_ ?_
   ·rfl
   clear key;intro h6 S3 J s6 so ss sw k6 sv6;have hw:IntKind.wrap .i64 ((j:Int)+1)=((j+1:Nat):Int):=by rw [wrap_i64 ad ad]; omega
   rw [hw];have hss:∀ i,(S3 i).s=(S2 i).s:=by
    intro i
    by_cases hi:i=2*n+j
    ·rw [hi]; exact ss
    ·rw [so i hi]
   have hblk:∀ i,i∈aK (S2 (2*n+j)).s.p->B+4<=i:=fun i hi=>((s.wP.sec _ hjN).out.cd hi).1
   have z0:=e1.size;refine aF (cs:=[(false,[.int .i64])]) (((j+1:Nat):Int),()) (2-(j+1)) rfl ad rfl ?_;refine ⟨j+1,S3,rfl,ad,rfl,Ch.trans e5 k6 (fun i hi hl=>by have:=hblk i hi; omega),ba.ao k6 (fun hm=>by have:=hblk _ hm; omega),s.Vj hjN s6 hss k6,d.step so ss sw,sv6,b5.ao k6 (by rw [hSe]; exact hb3 _ hjN)⟩
  ·have q:=Wt q;have hj:j=2:=ad
   subst hj;have hw:IntKind.wrap .i64 ((n:Int)+1)=((n+1:Nat):Int):=by rw [wrap_i64 ad ad]; omega
   rw [hw];refine aF (cs:=[(false,[.int .i64])]) (((n+1:Nat):Int),()) (N-(n+1)) rfl ad rfl ?_;exact ⟨n+1,S2,rfl,ad,rfl,e5,ba,s,d,sv⟩
 ·have q:=Wt q;have hn:n=N:=ad
  subst hn;refine aw ba rfl aj ?_;intro h2 b2' k2 z2;have b2':bC h2 A 37 [.int .i64 0,.int .i64 0,.string ⟨#[]⟩]:=b2';refine af b2' ((0:Int),(0:Int),(⟨#[]⟩:YA),()) rfl ?_;exact hk h2 S1 (Ch.trans e1 k2 (fun i hi hl=>by simp at hi; omega)) (s.mi k2 (by simp; omega)) d
def Ee (k:Ky):List YB:=[.int .i64 (k.1:Int),.string k.2]
theorem Sa:Tryz.prog.underlying 103=some (.slice 110):=az
theorem V9:(Tryz.prog.info? 110).map (fun i=>(i.zero,i.size,i.bytes))=some (some (.agg #[.int .i64 0,.string ⟨#[]⟩]),2,24):=az
theorem Sy (n:Int) (s:YA):Instr.fill (fun j=>some (j*2,2)) ((Array.range (1*2)).map ((Value.agg #[.int .i64 0,.string ⟨#[]⟩]).cells[· % (Value.agg #[.int .i64 0,.string ⟨#[]⟩]).cells.size]!)) [(0,.agg #[.int .i64 n,.string s])]=some ([.int .i64 n,.string s]:List YB).toArray:=az
theorem BG {h:Hp} {b x:Nat} {e e':TypeId} {sz:Nat} {p:Option YC} {l c:Nat} {xs:List (List YB)} {ys:List YB} (s:SL h b e sz p l c xs) (t:bC h x e' ys) (he:e≠e'):x∉aK p:=fun hm=>by
 obtain ⟨zs,hz⟩:=SL.Aq s x hm;unfold bC at hz t;rw [hz] at t;simp only [Option.some.injEq,Obj.cells.injEq] at t;exact he t.2.1
def Hy (pX unit:Nat) (s:YA):YB:=.tuple #[.pointer none,.agg #[.int .i64 (pX:Int),.int .i64 (unit:Int),.string s]]
def Ac (h h':Hp):Prop:=∀ x e xs,e≠88->e≠110->bC h x e xs->bC h' x e xs
theorem Ac.ext {h h' h2:Hp} (k:Ac h h') (e:Ext h' h2):Ac h h2:=fun x t xs h1 h2 b=>(k x t xs h1 h2 b).ao e aj
abbrev ML:List fx:=[(false,[.pointer 0]),(false,[.slice 0]),(false,[.slice 0]),(false,[.int .i64])]
def Se (a1 a7:YC) (n20:Int) (p52:Option YC) (l53:Nat) (p13 p14:Option YC) (l15 l16:Nat) (p17:Option YC) (l18 l19:Nat) (k:Option YC->Option YC->Nat->Nat->Option YC->Nat->Nat->T):T :=
    T.loop [(false,[.pointer 0]),da,da,aM] [.pointer p13,.slice p14 l15 l16,.slice p17 l18 l19,.int .i64 (0:Int)] <| fun (p55:Option YC) (p56:Option YC) (l57:Nat) (l58:Nat) (p59:Option YC) (l60:Nat) (l61:Nat) (n62:Int) =>
    bm n62 l53
     (T.need (((0:Int)<=n62)/\(n62<(l53:Int))) <|
     T.bd p52 <| fun (a63:YC) =>
     T.ah (a63.add (aH n62 3)) [.string,.slice 66,.int .u32] <| fun (s64:YA) (p65:Option YC) (l66:Nat) (l67:Nat) (n68:Int) =>
     T.new [bU,bi,.int .u32 (0:Int)] 88 <| fun (a69:YC) =>
     T.aD a69 [.string s64,.slice p65 l66 l67,.int .u32 n68] <|
     T.ah (a69.add 1) [.slice 66,.int .u32] <| fun (p70:Option YC) (l71:Nat) (l72:Nat) (n73:Int) =>
     bF 46 [.pointer (some a7),.int .i64 n20,.agg #[.slice p70 l71 l72,.int .u32 n73]] true [(true,[.slice 66,.int .u32]),(false,[.string]),bT] <| fun (p74:Option YC) (l75:Nat) (l76:Nat) (n77:Int) (s78:YA) (b79:Bool) =>
     T.new [bi,.int .u32 (0:Int)] 60 <| fun (a80:YC) =>
     T.aD a80 [.slice p74 l75 l76,.int .u32 n77] <|
     cond (!b79)
     (T.aD a1 [.int .i64 (23:Int),.int .i64 n20,.string s78] <|
     T.ah a1 [.int .i64,.int .i64,.string] <| fun (n81:Int) (n82:Int) (s83:YA) =>
     T.ret (.tuple #[.pointer none,.agg #[.int .i64 n81,.int .i64 n82,.string s83]]))
     (T.ah a69 [.string] <| fun (s81:YA) =>
     T.ah a80 [.slice 66,.int .u32] <| fun (p82:Option YC) (l83:Nat) (l84:Nat) (n85:Int) =>
     bF 47 [.pointer (some a7),.agg #[.int .i64 n20,.string s81]] false [(false,[.string])] <| fun (Vc:YA) =>
     T.aY [(a80,[.slice p82 l83 l84,.int .u32 n85]),(a69,[.string s81])] <|
     bK (Instr.buildSlice 27 1 #[(0,.agg #[.string Vc,.slice p82 l83 l84,.int .u32 n85])]) false [da] <| fun (p87:Option YC) (l88:Nat) (l89:Nat) =>
     T.aY [(a80,[.slice p82 l83 l84,.int .u32 n85]),(a69,[.string s81])] <|
     bK (Builtin.append_ #[27,27] 27 #[.slice p56 l57 l58,.slice p87 l88 l89]) false [da] <| fun (p90:Option YC) (l91:Nat) (l92:Nat) =>
     T.aY [(a80,[.slice p82 l83 l84,.int .u32 n85]),(a69,[.string s81])] <|
     T.ah a69 [.string] <| fun (s93:YA) =>
     bK (Instr.buildSlice 103 1 #[(0,.agg #[.int .i64 n20,.string s93])]) false [da] <| fun (p94:Option YC) (l95:Nat) (l96:Nat) =>
     bK (Builtin.append_ #[103,103] 103 #[.slice p59 l60 l61,.slice p94 l95 l96]) false [da] <| fun (p97:Option YC) (l98:Nat) (l99:Nat) =>
     T.again 2 [.pointer p55,.slice p90 l91 l92,.slice p97 l98 l99,.int .i64 (bj (n62+(1:Int)))]))
     (k p55 p56 l57 l58 p59 l60 l61)
structure A0 (h:Hp) (b:Nat) (e k:bY) (D:List (YA × bZ)) (ks:List Ky):Prop where
 eq:∃ ms,rl h b e.p e.l e.c ms/\ms.map fc=D
 ky:SL h b 110 2 k.p k.l k.c (ks.map Ee)
theorem A0.ext {h h':Hp} {b:Nat} {e k:bY} {D:List (YA × bZ)} {ks:List Ky} (s:A0 h b e k D ks) (x:Ext h h'):A0 h' b e k D ks:=by
 obtain ⟨⟨ms,o,hm⟩,y⟩:=s;exact ⟨⟨ms,o.ao x aj,hm⟩,y.ao x aj⟩
theorem Oe {L:Lp} {K:YB->Hp->Prop} {h0 h:Hp} {A B N M n:Nat} {w:LW} {usl lb:bY} {sp:Int} {S:Nat->kw} {p52:Option YC} {l53:Nat} {es:List qi} {el kl:bY} {D:List (YA × bZ)} {ks:List Ky}
  {k:Option YC->Option YC->Nat->Nat->Option YC->Nat->Nat->T} {p13:Option YC}
  (hL:2=L.length) (pw:fY h0) (hA:h0.size<=A) (hAB:A<B) (e0:Ext h0 h) (ba:bC h A 37 [.int .i64 0,.int .i64 0,.string ⟨#[]⟩]) (s:oA h B w usl lb sp N M S) (JE:N5 w) (es0:A0 h (B+4) el kl D ks)
  (v:Ob.tu h0 p52 l53 es) (ge:∀ e,e∈es->Dj e.2) (hl:es.length<=2^20) (hD:D.length<=2^20) (hks:ks.length<=2^20)
  (hbad:∀ h' q,Ext h0 h'->(es.findSome? fun e=>w.bad n e.2)=some q->K (Hy 23 n q) h')
  (hk:∀ h' el' kl' J,Ext h0 h'->bC h' A 37 [.int .i64 0,.int .i64 0,.string ⟨#[]⟩]->oA h' B w usl lb sp N M S->A0 h' (B+4) el' kl' (D++es.map fun e=>(w.word (n,e.1),w.lin n e.2)) (ks++es.map fun e=>(n,e.1)) ->
   Ac h h'->(es.findSome? fun e=>w.bad n e.2)=none->k p13 el'.p el'.l el'.c kl'.p kl'.l kl'.c (L++[J]) K h') :
  Se ⟨A,0,none⟩ ⟨B+3,0,none⟩ (n:Int) p52 l53 p13 el.p el.l el.c kl.p kl.l kl.c k L K h:=by
 unfold Se bm aH bF bK bj bi bU aM bT da;have hl53:=v.len
 refine aR (cs:=ML) (fun y m' h'=>∃ (i:Nat) (el' kl':bY),y.1=p13/\y.2.1=(el'.p,el'.l,el'.c)/\y.2.2.1=(kl'.p,kl'.l,kl'.c)/\y.2.2.2.1=(i:Int)/\i<=es.length/\m'=es.length-i/\Ext h0 h'/\bC h' A 37 [.int .i64 0,.int .i64 0,.string ⟨#[]⟩]/\oA h' B w usl lb sp N M S /\
   A0 h' (B+4) el' kl' (D++(es.take i).map fun e=>(w.word (n,e.1),w.lin n e.2)) (ks++(es.take i).map fun e=>(n,e.1))/\Ac h h'/\∀ j,(hj:j<i)->(hx:j<es.length)->w.bad n es[j].2=none)
  (p13,(el.p,el.l,el.c),(kl.p,kl.l,kl.c),(0:Int),()) es.length rfl ⟨0,el,kl,rfl,rfl,rfl,rfl,ad,ad,e0,ba,s,by simpa using es0,fun x e xs _ _ b=>b,by intro j hj; omega⟩ ?_
 clear e0 ba s es0;rintro ⟨p55,⟨p56,l57,l58⟩,⟨p59,l60,l61⟩,n62,⟨⟩⟩ m' h1 ⟨i,el1,kl1,hy1,hy2,hy3,hy4,hil,rfl,e1,ba,s,es1,ke,hok⟩;simp only [Prod.mk.injEq] at hy1 hy2 hy3 hy4;obtain ⟨rfl,rfl,rfl⟩:=hy2;obtain ⟨rfl,rfl,rfl⟩:=hy3;subst hy1 hy4;refine an ?_;refine ak (fun q=>?_) (fun q=>?_)
 ·have q:=Ws q;have hlt:i<es.length:=ad
  obtain ⟨aa,pp,ll,cc,haa,hc0,va0,hsz⟩:=v.cells i hlt;have gxi:=ge es[i] (WA hlt);have htk:es.take (i+1)=es.take i++[es[i]]:=Wx hlt;have hfs:∀ q,w.bad n es[i].2=some q->(es.findSome? fun e=>w.bad n e.2)=some q:=by
   intro q hq;have hsp:es=es.take i++es[i]::es.drop (i+1):=by rw [<- WK hlt,W8]
   have hnone:((es.take i).findSome? fun e=>w.bad n e.2)=none:=by
    rw [Xq];intro x hx;obtain ⟨j,hj,rfl⟩:=WS hx;rw [WO] at hj;rw [List.getElem_take];exact hok j ad ad
   generalize hz:es[i]=z at hsp hq;rw [hsp,Yi,hnone,List.findSome?_cons,hq] <;> rfl
  have hnx:w.bad n es[i].2=none->∀ j,(hj:j<i+1)->(hx:j<es.length)->w.bad n es[j].2=none:=by
   intro hn j hj hx
   by_cases hji:j=i
   ·subst hji; exact hn
   ·exact hok j ad hx
  generalize es[i]=x at hc0 va0 hsz gxi htk hfs hnx;refine ay ⟨ad,ad⟩ (av haa ?_);rw [show Int.toNat (i:Int)=i from ad];refine ax (x.1,(pp,ll,cc),(x.2.num:Int),()) (aQ e1 aj _ _ hc0) ?_;refine an ?_;refine bq ?_;intro h2 b2' e2 z2;refine aw b2' rfl aj ?_;intro h3 b3 k3 z3;have b3:bC h3 h1.size 88 [.string x.1,.slice pp ll cc,.int .u32 (x.2.num:Int)]:=b3;have e13:Ext h1 h3:=Ch.trans e2 k3 (fun i hi hl=>by simp at hi; omega);have e03:=e1.trans e13;have s3:=s.ext e13;rw [aE];refine af b3 ((pp,ll,cc),(x.2.num:Int),()) rfl ?_;refine an ?_;refine aI (xh (c:=cc) (pw.ao e03 aj) s3.box s3.maps JE n (va0.ao e03).vw gxi) ?_;rintro _ h4 ⟨e4,hq⟩;have z1:=e1.size;have l1:=s.lt;have q3:=b3.lt;cases hb:w.bad n x.2 with
  | some t =>
   rw [hb] at hq;subst hq;refine ⟨((none,0,0),(0:Int),t,false,()),rfl,?_⟩;refine an ?_;refine bq ?_;intro h5 b5' e5 z5;refine aw b5' rfl aj ?_;intro h6 b6 k6 z6;refine bX rfl ?_;have e46:Ext h4 h6:=Ch.trans e5 k6 (fun i hi hl=>by simp at hi; omega);have e16:=(e13.trans e4).trans e46;refine aw (ba.ao e16 aj) rfl aj ?_;intro h7 b7 k7 z7;have b7:bC h7 A 37 [.int .i64 23,.int .i64 (n:Int),.string t]:=b7;refine af b7 ((23:Int),(n:Int),t,()) rfl ?_;exact hbad h7 t (Ch.trans (e1.trans e16) k7 (fun i hi hl=>by simp at hi; omega)) (hfs t hb)
  | none =>
   rw [hb] at hq;obtain ⟨p7,l7,c7,rfl,s7⟩:=hq;refine ⟨((p7,l7,c7),((w.lin n x.2).num:Int),(⟨#[]⟩:YA),true,()),rfl,?_⟩;refine an ?_;refine bq ?_;intro h5 b5' e5 z5;refine aw b5' rfl aj ?_;intro h6 b6 k6 z6;have b6:bC h6 h4.size 60 [.slice p7 l7 c7,.int .u32 ((w.lin n x.2).num:Int)]:=b6;have e46:Ext h4 h6:=Ch.trans e5 k6 (fun i hi hl=>by simp at hi; omega);have e16:=(e13.trans e4).trans e46;refine bM rfl ?_;have b36:=b3.ao (e4.trans e46) aj;refine af b36 (x.1,()) rfl ?_;refine an ?_;refine af b6 ((p7,l7,c7),((w.lin n x.2).num:Int),()) rfl ?_;refine an ?_;have s6:=s.ext e16;refine aI (Bg (pw.ao (e1.trans e16) aj) s6.box s6.maps JE n x.1) ?_;rintro _ h8 ⟨rfl,e8⟩;refine ⟨(w.word (n,x.1),()),rfl,?_⟩;refine an ?_;have e18:=e16.trans e8;have b68:=b6.ao e8 aj;have b38:=b36.ao e8 aj;have hst:∀ h',Ext h8 h'->T.Al h' [(⟨h4.size,0,none⟩,[.slice p7 l7 c7,.int .u32 ((w.lin n x.2).num:Int)]),(⟨h1.size,0,none⟩,[.string x.1])]:=fun h' e=>⟨(b68.ao e aj).cells _ rfl,(b38.ao e aj).cells _ rfl,trivial⟩
   refine ⟨hst h8 (Ch.refl _ _),?_⟩;obtain ⟨⟨ms,o1,hms⟩,y1⟩:=es1;have o8:=o1.ao e18 aj;have y8:=y1.ao e18 aj;have hml:ms.length=D.length+i:=by
    have:=WJ List.length hms
    rw [Wr,Wv,Wr,WO,XR hil] at this;exact this
   have hel:el1.l=ms.length:=by have:=o1.out.1; rwa [Wr] at this
   have hkl:kl1.l=ks.length+i:=by
    have:=y1.1
    rw [Wr,Wv,Wr,WO,XR hil] at this;exact this
   have z18:=e18.size;have z4:=e4.size;have z46:=e46.size;have z8:=e8.size;have z13:=e13.size;refine gj (vs:=Ah ⟨w.word (n,x.1),p7,l7,c7,w.lin n x.2⟩) Bc JQ rfl ad ad (Gr _ p7 l7 c7 _) rfl rfl o8.out ad ad ad hst ?_;intro p9 c9 h9 s9 k9 hp9;have hnin:∀ j,h1.size<=j->j∉aK el1.p:=fun j hj hm=>by have:=(o1.out.cd hm).2; omega
   have b69:=b68.ao k9 (hnin _ ad);have b39:=b38.ao k9 (hnin _ ad);refine ⟨⟨b69.cells _ rfl,b39.cells _ rfl,trivial⟩,?_⟩;have VG:SL h8 (B+4) 66 2 p7 l7 c7 ((w.lin n x.2).ai.map cX):=(s7.ao (e46.trans e8) aj).mono ad;have o9:rl h9 (B+4) p9 (el1.l+1) c9 (ms++[⟨w.word (n,x.1),p7,l7,c7,w.lin n x.2⟩]):=by
    refine o8.push VG (fun j hj=>?_) (by rw [WG]; exact s9) k9 (fun j hj=>?_)
    ·have hj3:=(s7.cd hj).1;refine ⟨fun y hy m hm=>?_,hnin _ ad⟩
     have:=((o1.eY y hy).cd hm).2
     omega
    ·rcases hp9 with rfl | ⟨a,rfl,ha⟩
     ·exact .inl hj
     ·simp [aK] at hj;subst hj;exact .inr ha
   have y9:=y8.bG k9 (fun j hj hm=>uF o8.out y8 cg j hm hj);have g9:=(s.ext e18).qJ o8.out k9 (WH _) cg cg cg cg;have ba8:=ba.ao e18 aj;have ba9:=ba8.ao k9 (BG o8.out ba8 cg);have z9:=k9.size;have ke8:Ac h h8:=ke.ext e18;have ke9:Ac h h9:=fun x e xs h1 h2 b=>by
    have b8:=ke8 x e xs h1 h2 b;exact b8.ao k9 (BG o8.out b8 (Ne.symm h1))
   have e09:Ext h0 h9:=Ch.trans (e1.trans e18) k9 (fun j hj hl=>by have:=(o8.out.cd hj).1; omega);refine af b39 (x.1,()) rfl ?_;refine an ?_;refine ml (vs:=Ee (n,x.1)) Sa V9 rfl ad ad (Sy _ _) rfl rfl y9 ad ad ad ?_;intro p10 c10 h10 s10 k10 hp10;have hw:IntKind.wrap .i64 ((i:Int)+1)=((i+1:Nat):Int):=by rw [wrap_i64 ad ad]; omega
   rw [hw];refine aF (cs:=ML) (p55,(p9,el1.l+1,c9),(p10,kl1.l+1,c10),((i+1:Nat):Int),()) (es.length-(i+1)) (by rw [WX ad,<- hL,Yo]; rfl) ad rfl ?_;refine ⟨i+1,⟨p9,el1.l+1,c9⟩,⟨p10,kl1.l+1,c10⟩,rfl,rfl,rfl,rfl,ad,rfl,Ch.trans e09 k10 (fun j hj hl=>by have:=(y9.cd hj).1; omega),ba9.ao k10 (BG y9 ba9 cg),
    g9.qJ y9 k10 (WH _) cg cg cg cg,⟨⟨_,o9.qJ y9 k10 cg cg,?_⟩,?_⟩,?_,hnx hb⟩
   ·rw [htk,WG,hms,WG,<- WU] <;> rfl
   ·have he:(ks++(es.take (i+1)).map fun e=>(n,e.1)).map Ee=(ks++(es.take i).map fun e=>(n,e.1)).map Ee++[Ee (n,x.1)]:=by
     rw [htk]
     simp
    rw [he];exact s10
   ·intro x e xs h1 h2 b;have b9:=ke9 x e xs h1 h2 b;exact b9.ao k10 (BG y9 b9 (Ne.symm h2))
 ·have q:=Wt q;have hi:i=es.length:=ad
  subst hi;rw [W7 (WH _)] at es1;refine hk h1 el1 kl1 _ e1 ba s es1 ke ?_;rw [Xq];intro x hx;obtain ⟨j,hj,rfl⟩:=WS hx;exact hok j hj hj
theorem RN:Tryz.prog.underlying 22=some (.slice 30):=az
theorem UU:(Tryz.prog.info? 30).map (fun i=>(i.zero,i.size,i.bytes))=some (some (.agg #[.slice none 0 0,.slice none 0 0,.slice none 0 0,.slice none 0 0]),4,96):=az
theorem Sz (p1:Option YC) (l1 c1:Nat) (p2:Option YC) (l2 c2:Nat) (p3:Option YC) (l3 c3:Nat) (p4:Option YC) (l4 c4:Nat):Instr.fill (fun j=>some (j*4,4)) ((Array.range (1*4)).map ((Value.agg #[.slice none 0 0,.slice none 0 0,.slice none 0 0,.slice none 0 0]).cells[· % (Value.agg #[.slice none 0 0,.slice none 0 0,.slice none 0 0,.slice none 0 0]).cells.size]!)) [(0,.agg #[.slice p1 l1 c1,.slice p2 l2 c2,.slice p3 l3 c3,.slice p4 l4 c4])]=some ([.slice p1 l1 c1,.slice p2 l2 c2,.slice p3 l3 c3,.slice p4 l4 c4]:List YB).toArray:=az
def S0 (a1 a7:YC) (p14:Option YC) (l15 l16:Nat) (p17:Option YC) (l18 l19:Nat):T :=
   (bF 49 [.slice p14 l15 l16] true [(false,[.slice 88]),aM,aM] <| fun (p21:Option YC) (l22:Nat) (l23:Nat) (n24:Int) (n25:Int) =>
   cond (n25 != (0:Int))
    (T.need (((0:Int)<=n24)/\(n24<(l18:Int))) <|
    T.bd p17 <| fun (a26:YC) =>
    T.ah (a26.add (aH n24 2)) [.int .i64] <| fun (n27:Int) =>
    T.need (((0:Int)<=n24)/\(n24<(l18:Int))) <|
    T.bd p17 <| fun (a28:YC) =>
    T.ah ((a28.add (aH n24 2)).add 1) [.string] <| fun (s29:YA) =>
    T.aY [(((a28.add (aH n24 2)).add 1),[.string s29]),((a26.add (aH n24 2)),[.int .i64 n27])] <|
    T.aD a1 [.int .i64 n25,.int .i64 n27,.string s29] <|
    T.ah a1 [.int .i64,.int .i64,.string] <| fun (n30:Int) (n31:Int) (Q6:YA) =>
    T.ret (.tuple #[.pointer none,.agg #[.int .i64 n30,.int .i64 n31,.string Q6]]))
    (RY a1 a7 p21 l22 l23))
def Tj (a1 a7:YC) (p13 p14:Option YC) (l15 l16:Nat) (p17:Option YC) (l18 l19:Nat) (n20:Int) (p22:Option YC) (l23 l24:Nat) (p25:Option YC) (l26 l27:Nat) (p28:Option YC) (l29 l30:Nat) (p31:Option YC) (l32 l33:Nat):T :=
   T.new [bi,bi,bi,bi] 30 <| fun (a34:YC) =>
   T.aD a34 [.slice p22 l23 l24,.slice p25 l26 l27,.slice p28 l29 l30,.slice p31 l32 l33] <|
   T.new [bi,bi,bi,bi] 30 <| fun (a35:YC) =>
   T.ah a34 [.slice 64] <| fun (p36:Option YC) (l37:Nat) (l38:Nat) =>
   bF 45 [.pointer (some a7),.int .i64 n20,.slice p36 l37 l38] true [(false,[.slice 64]),(false,[.string]),bT] <| fun (p39:Option YC) (l40:Nat) (l41:Nat) (s42:YA) (b43:Bool) =>
   T.aD a35 [.slice p39 l40 l41] <|
   cond (!b43)
    (T.aD a1 [.int .i64 (23:Int),.int .i64 n20,.string s42] <|
    T.ah a1 [.int .i64,.int .i64,.string] <| fun (n44:Int) (n45:Int) (s46:YA) =>
    T.ret (.tuple #[.pointer none,.agg #[.int .i64 n44,.int .i64 n45,.string s46]]))
    (T.ah (a34.add 1) [.slice 64] <| fun (p44:Option YC) (l45:Nat) (l46:Nat) =>
    bF 45 [.pointer (some a7),.int .i64 n20,.slice p44 l45 l46] true [(false,[.slice 64]),(false,[.string]),bT] <| fun (p47:Option YC) (l48:Nat) (l49:Nat) (s50:YA) (b51:Bool) =>
    T.aD (a35.add 1) [.slice p47 l48 l49] <|
    cond (!b51)
    (T.aD a1 [.int .i64 (23:Int),.int .i64 n20,.string s50] <|
    T.ah a1 [.int .i64,.int .i64,.string] <| fun (n52:Int) (n53:Int) (s54:YA) =>
    T.ret (.tuple #[.pointer none,.agg #[.int .i64 n52,.int .i64 n53,.string s54]]))
    (T.ah (a34.add 2) [.slice 88] <| fun (p52:Option YC) (l53:Nat) (l54:Nat) =>
    Se a1 a7 n20 p52 l53 p13 p14 l15 l16 p17 l18 l19 fun p55 p56 l57 l58 p59 l60 l61 =>
     (T.ah a7 [.slice 30] <| fun (p63:Option YC) (l64:Nat) (l65:Nat) =>
     T.ah a35 [.slice 64,.slice 64,.slice 88,.slice 9] <| fun (p66:Option YC) (l67:Nat) (l68:Nat) (p69:Option YC) (l70:Nat) (l71:Nat) (p72:Option YC) (l73:Nat) (l74:Nat) (p75:Option YC) (l76:Nat) (l77:Nat) =>
     bK (Instr.buildSlice 22 1 #[(0,.agg #[.slice p66 l67 l68,.slice p69 l70 l71,.slice p72 l73 l74,.slice p75 l76 l77])]) false [da] <| fun (p78:Option YC) (l79:Nat) (l80:Nat) =>
     T.aY [(a7,[.slice p63 l64 l65])] <|
     bK (Builtin.append_ #[22,22] 22 #[.slice p63 l64 l65,.slice p78 l79 l80]) false [da] <| fun (p81:Option YC) (l82:Nat) (l83:Nat) =>
     T.aY [(a35,[.slice p66 l67 l68,.slice p69 l70 l71,.slice p72 l73 l74,.slice p75 l76 l77])] <|
     T.aD a7 [.slice p81 l82 l83] <|
     T.ah (a7.add 6) [.int .i64] <| fun (n84:Int) =>
     T.ah a34 [.slice 64,.slice 64,.slice 88,.slice 9] <| fun (p85:Option YC) (l86:Nat) (l87:Nat) (p88:Option YC) (l89:Nat) (l90:Nat) (p91:Option YC) (l92:Nat) (l93:Nat) (p94:Option YC) (l95:Nat) (l96:Nat) =>
     bF 48 [.agg #[.slice p85 l86 l87,.slice p88 l89 l90,.slice p91 l92 l93,.slice p94 l95 l96]] false [aM] <| fun (n97:Int) =>
     T.aY [((a7.add 6),[.int .i64 n84])] <|
     T.aD (a7.add 6) [.int .i64 (bj (n84+n97))] <|
     T.again 1 [.pointer p55,.slice p56 l57 l58,.slice p59 l60 l61,.int .i64 (bj (n20+(1:Int)))])))
theorem zT {S:Nat->kw} {k n:Nat} {x:kw} (hk:2*n<=k):mf (kr S k x) n=mf S n:=by
 unfold mf;apply Xl;intro i hi;have hi:i<n:=X6.1 hi;unfold xe kr;rw [Ww ad,Ww ad]
section
variable {h h':Hp} {B N M:Nat} {w:LW} {usl lb:bY} {sp:Int} {S:Nat->kw}
theorem oA.add (s:oA h B w usl lb sp N M S) (e:Ext h h') (hM:2*N<=M) {x:kw} (hx:lX h' h.size x):oA h' B w usl lb sp N (M+1) (kr S M x):=by
 have s':=s.ext e;exact ⟨s'.box,s'.maps,s'.mV,by rw [zT hM]; exact s'.un,s.wP.add e s.lt hx⟩
end
section
variable {h h':Hp} {B N M:Nat} {w:LW} {usl lb:bY} {sp:Int} {S:Nat->kw}
theorem oA.FF {x:Nat} {xs:List YB} (s:oA h B w usl lb sp N M S) (b:bC h x 30 xs) (hx:B+4<=x) (hu:x∉aK usl.p) (k:Ch [x] h h'):oA h' B w usl lb sp N M S:=by
 have hs:∀ {b2 sz:Nat} {e:TypeId} {q:Option YC} {m d:Nat} {ys:List (List YB)},SL h b2 e sz q m d ys->e≠30->SL h' b2 e sz q m d ys:=fun t he=>t.bG k (fun i hi hm=>by
  have:i=x:=by simpa using hm
  subst this;exact BG t b he hi)
 exact ⟨s.box.ao k (by simp; omega),s.maps.ao k (by simp; omega) (by simp; omega) (by simp; omega),hs s.mV cg,s.un.bG k (fun i hi hm=>by
  have:i=x:=by simpa using hm
  subst this;exact hu hi),⟨fun j hj=>⟨hs (s.wP.sec j hj).out cg,fun u hu=>hs ((s.wP.sec j hj).eY u hu) cg⟩,s.wP.ap⟩⟩
theorem A0.FF {x b:Nat} {xs:List YB} {e k:bY} {D:List (YA × bZ)} {ks:List Ky} (s:A0 h b e k D ks) (bx:bC h x 30 xs) (c:Ch [x] h h'):A0 h' b e k D ks:=by
 have hs:∀ {b2 sz:Nat} {e:TypeId} {q:Option YC} {m d:Nat} {ys:List (List YB)},SL h b2 e sz q m d ys->e≠30->SL h' b2 e sz q m d ys:=fun t he=>t.bG c (fun i hi hm=>by
  have:i=x:=by simpa using hm
  subst this;exact BG t bx he hi)
 obtain ⟨⟨ms,o,hm⟩,y⟩:=s;exact ⟨⟨ms,⟨hs o.out cg,fun m hm=>hs (o.eY m hm) cg,o.ap,o.dj⟩,hm⟩,hs y cg⟩
theorem A0.qT {b b2 sz:Nat} {q:Option YC} {m d:Nat} {ys:List (List YB)} {e k:bY} {D:List (YA × bZ)} {ks:List Ky} (s:A0 h b e k D ks) (t:SL h b2 30 sz q m d ys) (c:Ch (aK q) h h'):A0 h' b e k D ks:=by
 obtain ⟨⟨ms,o,hm⟩,y⟩:=s;exact ⟨⟨ms,o.qJ t c cg cg,hm⟩,y.bG c (fun i hi hm=>uF t y cg i hm hi)⟩
theorem A0.QX {b x : Nat} {e k : bY} {D : List (YA × bZ)} {ks : List Ky} (s : A0 h b e k D ks) (hx : x < b) (c : Ch [x] h h') : A0 h' b e k D ks := by
  obtain ⟨⟨ms, o, hm⟩, y⟩ := s
  exact ⟨⟨ms, o.ao c (fun i hi => by have : i = x := by simpa using hi
                                     omega), hm⟩, y.bG c (fun i hi hm => by
    have : i = x := by simpa using hm
    have := (y.cd hi).1;omega)⟩
end
theorem PL {L:Lp} {K:YB->Hp->Prop} {h0 h:Hp} {A B n:Nat} {w:LW} {usl lb:bY} {sp:Nat} {S:Nat->kw} {u:bP} {ta tb tc td el kl:bY} {D:List (YA × bZ)} {ks:List Ky} {p13:Option YC} {I:qa (flat ML)->Nat->Hp->Prop} {m:Nat}
  (hL:2=L.length) (hJ:L[1]?=some (Jl I m)) (pw:fY h0) (tb0:An h0) (hA:h0.size<=A) (hAB:A<B) (e0:Ext h0 h) (ba:bC h A 37 [.int .i64 0,.int .i64 0,.string ⟨#[]⟩]) (s:oA h B w usl lb (sp:Int) n (2*n) S) (JE:N5 w) (es0:A0 h (B+4) el kl D ks)
  (v:rm h0 ta tb tc td u) (ge:∀ x,x∈cF u->Dj x) (hr:eG u=0) (hl1:u.text.length<=2^20) (hl2:u.data.length<=2^20) (hl3:u.bf.length<=2^20) (hD:D.length<=2^20) (hks:ks.length<=2^20) (hn:n<=2^20) (hsp:sp<=2^40)
  (hbad:∀ h' q,Ext h0 h'->rb w n u=some q->K (Hy 23 n q) h')
  (hk:∀ h' el' kl' usl' S',Ext h0 h'->bC h' A 37 [.int .i64 0,.int .i64 0,.string ⟨#[]⟩]->oA h' B w usl' lb ((sp+eu u.text:Nat):Int) (n+1) (2*(n+1)) S'->A0 h' (B+4) el' kl' (D++u.bf.map fun e=>(w.word (n,e.1),w.lin n e.2)) (ks++u.bf.map fun e=>(n,e.1)) ->
   rb w n u=none->(∀ k,k<2*n->S' k=S k)->(S' (2*n)).ws.map (·.2)=u.text.map (w.fj n)->(S' (2*n+1)).ws.map (·.2)=u.data.map (w.fj n) ->
   ∃ m',m'<m/\I (p13,(el'.p,el'.l,el'.c),(kl'.p,kl'.l,kl'.c),((n+1:Nat):Int),()) m' h') :
  Tj ⟨A,0,none⟩ ⟨B+3,0,none⟩ p13 el.p el.l el.c kl.p kl.l kl.c (n:Int) ta.p ta.l ta.c tb.p tb.l tb.c tc.p tc.l tc.c td.p td.l td.c L K h:=by
 unfold Tj bF bK bj bi aM bT da;have l0:=s.lt;have zA:=e0.size;refine bq ?_;intro h1 b1' e1 z1;refine aw b1' rfl aj ?_;intro h2 b2 k2 z2;have b2:bC h2 h.size 30 [ta.v,tb.v,tc.v,td.v]:=b2;have e02:Ext h h2:=Ch.trans e1 k2 (fun i hi hl=>by simp at hi; omega);refine bq ?_;intro h3 b3 e3 z3;have b23:=b2.ao e3 aj;refine af b23 ((ta.p,ta.l,ta.c),()) rfl ?_;refine an ?_;have e03:=e02.trans e3;have s3:=s.ext e03;have E3:=e0.trans e03;refine aI (yE (c:=ta.c) (pw.ao E3 aj) s3.box s3.maps JE n (v.ao E3).text hl1 (fun x hx=>ge _ (by unfold cF; simp only [List.mem_append]; exact .inl (.inl (WL hx))))) ?_;rintro _ h4 ⟨e4,hq⟩;have z03:=e03.size;have z4:=e4.size;have q3:=b3.lt;cases hb:w.xN n u.text with
 | some t =>
  rw [hb] at hq;subst hq;refine ⟨((none,0,0),t,false,()),rfl,?_⟩;refine an ?_;refine aw (b3.ao e4 aj) rfl aj ?_;intro h5 b5 k5 z5;refine bX rfl ?_;have e35:Ext h3 h5\/True:=.inr trivial;have ba5:=((ba.ao (e03.trans e4) aj).ao k5 (by simp; omega))
  refine aw ba5 rfl aj ?_;intro h6 b6 k6 z6;have b6:bC h6 A 37 [.int .i64 23,.int .i64 (n:Int),.string t]:=b6;refine af b6 ((23:Int),(n:Int),t,()) rfl ?_;refine hbad h6 t ?_ (by unfold rb; rw [hb]; rfl);exact Ch.trans (Ch.trans (E3.trans e4) k5 (fun i hi hl=>by simp at hi; omega)) k6 (fun i hi hl=>by simp at hi; omega)
 | none =>
  rw [hb] at hq;obtain ⟨p4,c4,B4,w4,rfl,lc4,hB4,hw4⟩:=hq;refine ⟨((p4,ta.l,c4),(⟨#[]⟩:YA),true,()),rfl,?_⟩;refine an ?_;refine aw (b3.ao e4 aj) rfl aj ?_;intro h5 b5 k5 z5;have b5:bC h5 h2.size 30 [.slice p4 ta.l c4,.slice none 0 0,.slice none 0 0,.slice none 0 0]:=b5;refine bM rfl ?_;have x4:lX h4 h3.size ⟨⟨p4,ta.l,c4⟩,w4⟩:=⟨lc4.out,fun y hy=>(lc4.eY y hy).mono hB4⟩
  have s4:=s3.add e4 (WH _) x4;have hu2:h2.size∉aK usl.p:=fun hm=>by have:=(s.un.cd hm).2; have:=e02.size; omega
  have l2:=e02.size;have s5:=s4.FF (b3.ao e4 aj) ad hu2 k5;have ba5:=(ba.ao (e03.trans e4) aj).ao k5 (by simp; omega);have q2:=b2.lt;have b25:=(b23.ao e4 aj).ao k5 (by simp; omega);have E5:Ext h0 h5:=Ch.trans (E3.trans e4) k5 (fun i hi hl=>by simp at hi; omega);have es5:A0 h5 (B+4) el kl D ks:=((es0.ext (e03.trans e4))).FF (b3.ao e4 aj) k5;rw [aE];refine af b25 ((tb.p,tb.l,tb.c),()) rfl ?_;refine an ?_;refine aI (yE (c:=tb.c) (pw.ao E5 aj) s5.box s5.maps JE n (v.ao E5).data hl2 (fun x hx=>ge _ (by unfold cF; simp only [List.mem_append]; exact .inl (.inr (WL hx))))) ?_;rintro _ h6 ⟨e6,hq⟩;have b56:=b5.ao e6 aj;have z6:=e6.size;cases hb2:w.xN n u.data with
  | some t =>
   rw [hb2] at hq;subst hq;refine ⟨((none,0,0),t,false,()),rfl,?_⟩;refine an ?_;rw [aE];refine aw b56 rfl aj ?_;intro h7 b7 k7 z7;refine bX rfl ?_;have ba7:=(ba5.ao e6 aj).ao k7 (by simp; omega);refine aw ba7 rfl aj ?_;intro h8 b8 k8 z8;have b8:bC h8 A 37 [.int .i64 23,.int .i64 (n:Int),.string t]:=b8;refine af b8 ((23:Int),(n:Int),t,()) rfl ?_;refine hbad h8 t ?_ (by unfold rb; rw [hb,hb2]; rfl);exact Ch.trans (Ch.trans (E5.trans e6) k7 (fun i hi hl=>by simp at hi; omega)) k8 (fun i hi hl=>by simp at hi; omega)
  | none =>
   rw [hb2] at hq;obtain ⟨p6,c6,B6,w6,rfl,lc6,hB6,hw6⟩:=hq;refine ⟨((p6,tb.l,c6),(⟨#[]⟩:YA),true,()),rfl,?_⟩;refine an ?_;rw [aE];refine aw b56 rfl aj ?_;intro h7 b7 k7 z7;have b7:bC h7 h2.size 30 [.slice p4 ta.l c4,.slice p6 tb.l c6,.slice none 0 0,.slice none 0 0]:=b7;refine bM rfl ?_;have x6:lX h6 h5.size ⟨⟨p6,tb.l,c6⟩,w6⟩:=⟨lc6.out,fun y hy=>(lc6.eY y hy).mono hB6⟩
   have s6:=s5.add e6 ad x6;have s7:=s6.FF b56 ad hu2 k7;have es7:=(es5.ext e6).FF b56 k7;have ba7:=(ba5.ao e6 aj).ao k7 (by simp; omega);have b27:=(b25.ao e6 aj).ao k7 (by simp; omega);have E7:Ext h0 h7:=Ch.trans (E5.trans e6) k7 (fun i hi hl=>by simp at hi; omega);have RF:=b27;rw [aE];refine af b27 ((tc.p,tc.l,tc.c),()) rfl ?_;refine an ?_;refine Oe hL pw hA hAB E7 ba7 s7 JE es7 v.bf (fun e he=>ge _ (by unfold cF; simp only [List.mem_append]; exact .inr (WL he))) hl3 hD hks (fun h' q e hq=>hbad h' q e (by unfold rb; rw [hb,hb2]; exact hq)) ?_;intro h8 el8 kl8 J E8 ba8 s8 es8 ke8 hb3;have b78:=ke8 _ _ _ cg cg b7;have b28:=ke8 _ _ _ cg cg b27;generalize hS2:kr (kr S (2*n) ⟨⟨p4,ta.l,c4⟩,w4⟩) (2*n+1) ⟨⟨p6,tb.l,c6⟩,w6⟩=S2 at s8;refine af s8.box ((usl.p,usl.l,usl.c),()) rfl ?_;refine an ?_;refine af b78 ((p4,ta.l,c4),(p6,tb.l,c6),(none,0,0),(none,0,0),()) rfl ?_;refine an ?_;have hul:usl.l=n:=by have:=s.un.1; rwa [gI] at this
   have z8':=E8.size;have l8:=s8.lt;refine gj (vs:=[.slice p4 ta.l c4,.slice p6 tb.l c6,.slice none 0 0,.slice none 0 0]) RN UU rfl ad ad (Sz p4 ta.l c4 p6 tb.l c6 none 0 0 none 0 0) rfl rfl s8.un ad ad ad (fun h' e=>⟨(s8.box.ao e aj).cells _ rfl,trivial⟩) ?_;intro p9 c9 h9 s9 k9 hp9;have b79:=b78.ao k9 hu2;have hu1:h.size∉aK usl.p:=fun hm=>by have:=(s.un.cd hm).2; omega
   have b29:=b28.ao k9 hu1;refine ⟨⟨b79.cells _ rfl,trivial⟩,?_⟩;have hge9:∀ i,i∈aK usl.p->B+4<=i:=fun i hi=>(s8.un.cd hi).1
   have bx9:=s8.box.ao k9 (fun hm=>by have:=hge9 _ hm; omega);have ba9:=ba8.ao k9 (fun hm=>by have:=hge9 _ hm; omega);have es9:=es8.qT s8.un k9;have E9:Ext h0 h9:=Ch.trans E8 k9 (fun i hi hl=>by have:=hge9 _ hi; omega);have m9:=s8.maps.ao k9 (fun hm=>by have:=hge9 _ hm; omega) (fun hm=>by have:=hge9 _ hm; omega) (fun hm=>by have:=hge9 _ hm; omega);have lb9:=s8.mV.bG k9 (fun i hi hm=>uF s8.un s8.mV cg i hm hi);have se9:=s8.wP.qJ s8.un k9 cg cg;have z9:=k9.size;refine aw bx9 rfl aj ?_;intro h10 bx10 k10 z10;have bx10:N9 h10 (B+3) ⟨p9,usl.l+1,c9⟩ lb B (B+1) (B+2) (sp:Int):=bx10;have es10:=es9.QX ad k10;have ba10:=ba9.ao k10 (by simp; omega);have m10:=m9.ao k10 aj aj aj;have lb10:=lb9.bG k10 (fun i hi=>by have:=(lb9.cd hi).1; simp; omega);have se10:=se9.mi k10 aj;have un10:=s9.bG k10 (fun i hi=>by have:=(s9.cd hi).1; simp; omega);have E10:Ext h0 h10:=Ch.trans E9 k10 (fun i hi hl=>by simp at hi; omega);have b210:=b29.ao k10 (by simp; omega);rw [aE];refine af bx10 ((sp:Int),()) rfl ?_;refine an ?_;refine af b210 ((ta.p,ta.l,ta.c),(tb.p,tb.l,tb.c),(tc.p,tc.l,tc.c),(td.p,td.l,td.c),()) rfl ?_;refine an ?_;refine aI (J3 (tb0.ao E10 aj) (v.ao E10)) ?_;rintro _ h11 ⟨rfl,e11⟩;rw [WC hr];refine ⟨(((eu u.text:Nat):Int),()),rfl,?_⟩;refine an ?_;have bx11:=bx10.ao e11 aj;refine ⟨⟨bx11.cells _ rfl,trivial⟩,?_⟩;have hsl:=rc u.text;refine aw bx11 rfl aj ?_;intro h12 bx12 k12 z12;have hw1:IntKind.wrap .i64 ((sp:Int)+((eu u.text:Nat):Int))=((sp+eu u.text:Nat):Int):=by rw [wrap_i64 ad ad]; omega
   rw [hw1] at bx12;have bx12:N9 h12 (B+3) ⟨p9,usl.l+1,c9⟩ lb B (B+1) (B+2) ((sp+eu u.text:Nat):Int):=bx12;have hw:IntKind.wrap .i64 ((n:Int)+1)=((n+1:Nat):Int):=by rw [wrap_i64 ad ad]; omega
   rw [hw];have un11:=un10.ao e11 aj;have lb11:=lb10.ao e11 aj;obtain ⟨m',hm',hI⟩:=hk h12 el8 kl8 ⟨p9,usl.l+1,c9⟩ S2 (Ch.trans (E10.trans e11) k12 (fun i hi hl=>by simp at hi; omega)) ((ba10.ao e11 aj).ao k12 (by simp; omega))
    ⟨bx12,(m10.ao e11 aj aj aj).ao k12 aj aj aj,lb11.bG k12 (fun i hi=>by have:=(lb11.cd hi).1; simp; omega),by
     have:=un11.bG k12 (fun i hi=>by have:=(un11.cd hi).1; simp; omega)
     rw [<- hS2,G8];rw [<- hS2,zT ad,zT ad] at this;exact this,(se10.ext e11).mi k12 aj⟩
    ((es10.ext e11).QX ad k12) (by unfold rb; rw [hb,hb2]; exact hb3) (fun k hk=>by rw [<- hS2]; unfold kr; rw [Ww ad,Ww ad]) (by rw [<- hS2]; unfold kr; rw [Ww ad,WC rfl]; exact hw4) (by rw [<- hS2]; unfold kr; rw [WC rfl]; exact hw6)
   exact aF (cs:=ML) (p13,(el8.p,el8.l,el8.c),(kl8.p,kl8.l,kl8.c),((n+1:Nat):Int),()) m' (by rw [WZ ad]; exact hJ) hm' rfl hI
def lL (us:List bP):Nat:=(us.map fun u=>eu u.text).sum
structure Rl (x:kw):Prop where
 len:x.ws.length<=2^30
 U0:∀ u,u∈x.ws->u.2.e.ai.length<=2^40
 sz:∀ u,u∈x.ws->∀ t,t∈u.2.e.ai->t.1.size<=maxLen
def K0 (h0:Hp) (us:List bP) (v:YB) (h':Hp):Prop:=Ext h0 h'/\match kJ us with
 | .error f=>v=Hy f.pX f.unit f.name
 | .ok P=>∃ B usl lb S,h0.size<=B/\v=.tuple #[ptr (B+3),.agg #[.int .i64 0,.int .i64 0,.string ⟨#[]⟩]]/\oA h' B P.w usl lb ((lL us:Nat):Int) us.length (2*us.length) S /\
   (∀ n,(hn:n<us.length)->(S (2*n)).ws.map (·.2)=us[n].text.map (P.fj n)/\(S (2*n+1)).ws.map (·.2)=us[n].data.map (P.fj n))/\∀ k,k<2*us.length->Rl (S k)
theorem Nq {ms:List cD} (ok:EqsOk ms) (het:∀ e,e∈ms->e.x.ai.length<=2^20) {x:bZ} (hl:x.ai.length<=2^20) (hs:∀ t,t∈x.ai->t.1.size<=maxLen):(cY (cj ms) x).ai.length<=2^40/\∀ t,t∈(cY (cj ms) x).ai->t.1.size<=maxLen:=by
 have hof:∀ s y,cj ms s=some y->∃ e,e∈ms/\y=e.x:=by
  intro s y hy;unfold cj at hy;split at hy
  ·next ho =>
   obtain ⟨e,he,_,hx⟩:=kP ((dX ms s).1 ho);exact ⟨e,he,by cases hy; exact hx⟩
  ·cases hy
 refine ⟨?_,fun t ht=>?_⟩
 ·have hnf:=eE (cj ms) x;have h1:((cY (cj ms) x).ai.map (·.1)).Nodup:=Xp.2 (hnf.1.imp fun h=>jU h);have h2:=lz _ ((x.ai.flatMap (qS (cj ms))).map (·.1)) h1 (fun s hs=>by
   obtain ⟨t,ht,rfl⟩:=Wz.1 hs;obtain ⟨p,hp,e⟩:=C9 ht;exact Wz.2 ⟨p,hp,e⟩)
  rw [Wr,Wr] at h2;have h3:=oz (of:=cj ms) (B:=2^20) cg (fun s y hy=>by
   obtain ⟨e,he,rfl⟩:=hof s y hy;exact het e he) x.ai
  exact Xw h2 (Xw h3 (Xw (Xo _ hl) cg))
 ·rcases rz ht with ⟨p,hp,he,_⟩ | ⟨p,y,u,_,hy,hu,he⟩
  ·rw [<- he]; exact hs p hp
  ·obtain ⟨e,hm,rfl⟩:=hof _ _ hy;rw [<- he]; exact ok.ts e hm u hu
theorem UN {x:bZ} (g:Good x) (h:x.ai.length<=2^20):Dj x :=
 ⟨g.nf,g.num,h,fun t ht=>by
  have:=Gi (g.NK t ht)
  have hml:2000<=maxLen:=cg
  omega⟩
theorem Ho.Da {us:List bP} (s:Ho us) (r:Ew us) {u:bP} (hu:u∈us) {x:bZ} (hx:x∈cF u):Dj x :=
 UN (zH (r.right u hu) (s.num u hu) x hx) (s.len hu hx)
theorem Dy {us:List bP} (s:Ho us) (r:Ew us) {w:LW} (lb:N5 w) {u:bP} (hu:u∈us) {n:Nat} (hb:rb w n u=none) {l:List cz} (hl:l=u.text\/l=u.data) {ws:List (bY × cz)} (hw:ws.map (·.2)=l.map (w.fj n)):H6 ws/\ws.length<=2^20:=by
 have hb':=BQ hb;have h2:=(r.bf hu).2;refine ⟨fun y hy=>?_,?_⟩
 ·have h1:y.2∈l.map (w.fj n):=by rw [<- hw]; exact WL hy
  obtain ⟨x,hx,he⟩:=Wz.1 h1;have hbx:w.bad n x.e=none:=by
   rcases hl with rfl | rfl
   ·exact hb'.1 x hx
   ·exact hb'.2.1 x hx
  have hlx:x.e∈cF u:=by
   unfold cF;simp only [List.mem_append];rcases hl with rfl | rfl
   ·exact .inl (.inl (WL hx))
   ·exact .inl (.inr (WL hx))
  have g:=s.Da r hu hlx;have hy:y.2.e=w.lin n x.e:=by rw [<- he]; rfl
  rw [hy];exact ⟨Xw (yn hbx) g.len,lf g.num,KO lb hbx⟩
 ·have:=WJ List.length hw
  rw [Wr,Wr] at this;rcases hl with rfl | rfl <;> omega
theorem M4 {D:List (YA × bZ)} {es:List cD} (h:es.map fc=D) {i:Nat} (hi:i<es.length) (h1:jS (df es) es[i].name) (h2:∀ j,(hj:j<i)->¬ jS (df es) es[j].name):mE D=some i:=by
 classical
 have he:df (eN D)=df es:=zo (by rw [oG,h]);have hl:D.length=es.length:=by rw [<- h,Wr]
 have hn:∀ j,(hj:j<es.length)->(D[j]'ad).1=es[j].name:=by
  intro j hj;subst h;rw [Wy] <;> rfl
 unfold mE;rw [WR];refine ⟨ad,?_,fun j hj=>?_⟩
 ·refine WB ?_;rw [he,hn i hi];exact h1
 ·intro hd;have hd:=Ws hd;rw [he,hn j ad] at hd;exact h2 j hj hd
theorem NA {D:List (YA × bZ)} {es:List cD} (h:es.map fc=D) (h2:∀ v,¬ jS (df es) v):mE D=none:=by
 have he:df (eN D)=df es:=zo (by rw [oG,h]);unfold mE;rw [Xe];intro x hx;rw [decide_eq_false_iff_not,he];exact h2 _
theorem L8 {D:List (YA × bZ)} {es ms:List cD} (h:es.map fc=D) (hm:ms.map (fun m=>(m.name,m.x))=es.map (fun e=>(e.name,eM es e.name))):cj ms=cj (eN (lU D)):=by
 refine DD ?_;rw [oG];show ms.map (fun m=>(m.name,m.x))=_;rw [hm];unfold lU;have hs:eM (eN D)=eM es:=Hf (by rw [oG,h]);rw [hs,<- h,WT] <;> rfl
theorem Pf {J0 J1:List YB->Hp->Prop} {h0 h:Hp} {A B:Nat} {w:LW} {usl lb:bY} {S:Nat->kw} {us:List bP} {el kl:bY}
  (hA:h0.size<=A) (hAB:A<B) (e0:Ext h0 h) (ba:bC h A 37 [.int .i64 0,.int .i64 0,.string ⟨#[]⟩]) (s:oA h B w usl lb ((lL us:Nat):Int) us.length (2*us.length) S)
  (es0:A0 h (B+4) el kl (uS w us) ((dZ 0 us).map ju)) (r:Ew us) (sm:Ho us) (i0:WI w (bt 0 us) ((dZ 0 us).map ju)) (hb:fJ w 0 us=none)
  (hS:∀ n,(hn:n<us.length)->(S (2*n)).ws.map (·.2)=us[n].text.map (w.fj n)/\(S (2*n+1)).ws.map (·.2)=us[n].data.map (w.fj n))
  (hlp:kJ us=match mE (uS w us) with
    | some i=>.error ⟨24,((dZ 0 us).map fun q=>(q.1,q.2.1)).getD i (0,du) |>.1,((dZ 0 us).map fun q=>(q.1,q.2.1)).getD i (0,du) |>.2⟩
    | none=>.ok ⟨w,us,uS w us⟩) :
  S0 ⟨A,0,none⟩ ⟨B+3,0,none⟩ el.p el.l el.c kl.p kl.l kl.c [J0,J1] (K0 h0 us) h:=by
 unfold S0 aH bF aM;obtain ⟨⟨es,o,hes⟩,y⟩:=es0;have eo:=Sw r sm i0 hb hes;have hl:es.length=(dZ 0 us).length:=by
  have:=WJ List.length hes
  unfold uS at this;simpa using this
 have hl2:=r.eqs;refine aI (Fg (c:=el.c) (Ca o) eo (fun i hi=>(o.out.cd hi).2) ad) ?_;rintro _ h1 ⟨hq,e1⟩;rcases hq with ⟨i,hi,hon,hmin,rfl⟩ | ⟨hno,p',l',c',ms,rfl,oms,hms⟩
 ·refine ⟨((none,0,0),(i:Int),(24:Int),()),rfl,?_⟩;refine an ?_;refine bX rfl ?_;have y1:=y.ao e1 aj;have hkl:kl.l=(dZ 0 us).length:=by have:=y.1; rwa [Wr,Wr] at this
  have hik:i<(dZ 0 us).length:=ad
  obtain ⟨a,ha,hc⟩:=y1.cells (i:=i) (by rw [Wr,Wr]; exact hik);rw [Wy,Wy] at hc;generalize hq:(dZ 0 us)[i]=q at hc;have hc:aG h1 (a.add (i*2)) 0 [.int .i64 (q.1:Int),.string q.2.1]:=hc;refine ay ⟨ad,ad⟩ (av ha ?_);rw [show Int.toNat (i:Int)=i from ad];refine ax ((q.1:Int),()) (et 1 _ 0 hc) ?_;refine an ?_;refine ay ⟨ad,ad⟩ (av ha ?_);have hc1:aG h1 ((a.add (i*2)).add 1) 0 [.string q.2.1]:=hZ _ 1 0 (gd 1 _ 0 hc);refine ax (q.2.1,()) hc1 ?_;refine an ?_;refine ⟨⟨hc1,et 1 _ 0 hc,trivial⟩,?_⟩;refine aw (ba.ao e1 aj) rfl aj ?_;intro h2 b2 k2 z2;have b2:bC h2 A 37 [.int .i64 24,.int .i64 (q.1:Int),.string q.2.1]:=b2;refine af b2 ((24:Int),(q.1:Int),q.2.1,()) rfl ?_;refine ⟨Ch.trans (e0.trans e1) k2 (fun i hi hl=>by simp at hi; omega),?_⟩;rw [hlp,M4 hes hi hon hmin];have hg:((dZ 0 us).map fun q=>(q.1,q.2.1)).getD i (0,du)=(q.1,q.2.1):=by
   rw [XI,Xc,Wu hik,hq] <;> rfl
  simp only [hg] <;> rfl
 ·refine ⟨((p',l',c'),(0:Int),(0:Int),()),rfl,?_⟩;refine an ?_;refine bM rfl ?_;obtain ⟨k1,k2,k3,k4⟩:=I6 eo hno hms ad;have hmany:=r.many;have hput:∀ j,j<2*us.length->H6 (S j).ws/\(S j).ws.length<=2^20:=by
   intro j hj;have hn:j / 2<us.length:=ad
   have hbn:=kX us 0 hb (j / 2) hn;rw [Xa] at hbn;have hSn:=hS (j / 2) hn
   by_cases h2:j % 2=0
   ·have:j=2*(j / 2):=ad
    rw [this];exact Dy sm r (r.JE i0) (WA hn) hbn (.inl rfl) hSn.1
   ·have:j=2*(j / 2)+1:=ad
    rw [this];exact Dy sm r (r.JE i0) (WA hn) hbn (.inr rfl) hSn.2
  refine Qf hA hAB (e0.trans e1) (ba.ao e1 aj) (s.ext e1) ⟨oms,k1,k2,k3,k4⟩ ad hput ?_
  ·intro h' S' E' s' d;refine ⟨E',?_⟩;rw [hlp,NA hes hno];refine ⟨B,usl,lb,S',ad,rfl,s',fun n hn=>?_,fun k hk=>?_⟩
   rotate_left
   ·have hd:=(d k).2;rw [WC hk] at hd;obtain ⟨q1,q2⟩:=hput k hk;have hlen:(S' k).ws.length=(S k).ws.length:=by
     have:=WJ List.length hd
     rwa [Wr,Wr] at this
    have hmem:∀ u,u∈(S' k).ws->∃ v,v∈(S k).ws/\u.2=qE (cj ms) v.2:=by
     intro u hu;have h1:u.2∈(S k).ws.map (fun u=>qE (cj ms) u.2):=by rw [<- hd]; exact WL hu
     obtain ⟨v,hv,he⟩:=Wz.1 h1;exact ⟨v,hv,he.symm⟩
    refine ⟨ad,fun u hu=>?_,fun u hu=>?_⟩
    ·obtain ⟨v,hv,he⟩:=hmem u hu;rw [he];exact (Nq k1 k2 (q1 v hv).1 (q1 v hv).2.2).1
    ·obtain ⟨v,hv,he⟩:=hmem u hu;rw [he];exact (Nq k1 k2 (q1 v hv).1 (q1 v hv).2.2).2
   have hSn:=hS n hn;have hlo:=L8 hes hms;have hd:∀ (k:Nat) (l:List cz),k<2*us.length->(S k).ws.map (·.2)=l.map (w.fj n)->(S' k).ws.map (·.2)=l.map ((⟨w,us,uS w us⟩:LP).fj n):=by
    intro k l hk hl
    have:=(d k).2
    rw [WC hk] at this;rw [this,show (S k).ws.map (fun u=>qE (cj ms) u.2)=((S k).ws.map (·.2)).map (qE (cj ms)) by rw [WT]; rfl,hl,WT,hlo] <;> rfl
   exact ⟨hd _ _ ad hSn.1,hd _ _ ad hSn.2⟩
def UC (a1 a7:YC) (p2 pp00:Option YC) (ll00 cc00:Nat):T :=
   (T.loop [(false,[.pointer 0]),da,da,aM] [.pointer p2,bi,bi,.int .i64 (0:Int)] <| fun (p13:Option YC) (p14:Option YC) (l15:Nat) (l16:Nat) (p17:Option YC) (l18:Nat) (l19:Nat) (n20:Int) =>
   bm n20 ll00
   (T.need (((0:Int)<=n20)/\(n20<(ll00:Int))) <|
   T.bd pp00 <| fun (a21:YC) =>
   T.ah (a21.add (aH n20 4)) [.slice 64,.slice 64,.slice 88,.slice 9] <| fun (p22:Option YC) (l23:Nat) (l24:Nat) (p25:Option YC) (l26:Nat) (l27:Nat) (p28:Option YC) (l29:Nat) (l30:Nat) (p31:Option YC) (l32:Nat) (l33:Nat) =>
   Tj a1 a7 p13 p14 l15 l16 p17 l18 l19 n20 p22 l23 l24 p25 l26 l27 p28 l29 l30 p31 l32 l33)
   (S0 a1 a7 p14 l15 l16 p17 l18 l19))
theorem KS (w:LW) (us:List bP) (u:bP):uS w (us++[u])=uS w us++u.bf.map fun e=>(w.word (us.length,e.1),w.lin us.length e.2):=by
 unfold uS;rw [qV,WG,WT,Xa] <;> rfl
theorem JB (us:List bP) (u:bP):(dZ 0 (us++[u])).map ju=(dZ 0 us).map ju++u.bf.map fun e=>(us.length,e.1):=by
 rw [qV,WG,WT,Xa] <;> rfl
theorem GJ (us:List bP) (u:bP):lL (us++[u])=lL us+eu u.text:=by
 unfold lL
 simp
theorem Fh:∀ us:List bP,lL us<=um us
 | []=>by simp [lL,um]
 | u::us=>by
  have h1:=Fh us;have h2:=rc u.text;unfold lL um at *;simp only [List.map_cons,List.sum_cons];omega
theorem Gh (us:List bP) (n:Nat):lL (us.take n)<=lL us:=by
 have h:us=us.take n++us.drop n:=(W8 n us).symm
 conv=>rhs; rw [h]
 unfold lL;rw [WG,List.sum_append];omega
theorem Mq (us:List bP) (n:Nat):(dZ 0 (us.take n)).length<=(dZ 0 us).length:=by
 have e:∀ (a b:List bP) (k:Nat),dZ k (a++b)=dZ k a++dZ (k+a.length) b:=by
  intro a
  induction a with
  | nil=>intro b k; simp [dZ]
  | cons x a ih =>
   intro b k;rw [List.cons_append,dZ,dZ,ih,WU,Xi,show k+1+a.length=k+(a.length+1) from ad]
 have h:=e (us.take n) (us.drop n) 0;rw [W8] at h;rw [h,Wv];omega
theorem O0 {J0:List YB->Hp->Prop} {h0 h:Hp} {A B:Nat} {w:LW} {lb:bY} {us:List bP} {pp:Option YC} {ll cc:Nat}
  (pw:fY h0) (tb0:An h0) (hA:h0.size<=A) (hAB:A<B) (e0:Ext h0 h) (ba:bC h A 37 [.int .i64 0,.int .i64 0,.string ⟨#[]⟩]) (s:ED h B lW lb 0 w)
  (v:sT h0 pp ll us) (r:Ew us) (sm:Ho us) (i0:WI w (bt 0 us) ((dZ 0 us).map ju))
  (hlp:kJ us=match fJ w 0 us with
   | some q=>.error ⟨23,q.1,q.2⟩
   | none=>match mE (uS w us) with
    | some i=>.error ⟨24,((dZ 0 us).map fun q=>(q.1,q.2.1)).getD i (0,du) |>.1,((dZ 0 us).map fun q=>(q.1,q.2.1)).getD i (0,du) |>.2⟩
    | none=>.ok ⟨w,us,uS w us⟩) :
  UC ⟨A,0,none⟩ ⟨B+3,0,none⟩ none pp ll cc [J0] (K0 h0 us) h:=by
 unfold UC bm aH bi aM da;have hll:=v.len;have hmany:=r.many;have hlwb:=r.JE i0;have s0:oA h B w lW lb ((0:Nat):Int) 0 (2*0) (fun _=>TA):=⟨s.box,s.maps,s.mV,SL.nil _ _ _ _,kE.nil _ _ _⟩
 refine aR (cs:=ML) (fun y m' h'=>∃ (n:Nat) (usl el kl:bY) (S:Nat->kw),y.1=none/\y.2.1=(el.p,el.l,el.c)/\y.2.2.1=(kl.p,kl.l,kl.c)/\y.2.2.2.1=(n:Int)/\n<=us.length/\m'=us.length-n/\Ext h0 h'/\bC h' A 37 [.int .i64 0,.int .i64 0,.string ⟨#[]⟩]/\oA h' B w usl lb ((lL (us.take n):Nat):Int) n (2*n) S /\
   A0 h' (B+4) el kl (uS w (us.take n)) ((dZ 0 (us.take n)).map ju)/\fJ w 0 us=fJ w n (us.drop n)/\∀ j,(hj:j<n)->(hx:j<us.length)->(S (2*j)).ws.map (·.2)=us[j].text.map (w.fj j)/\(S (2*j+1)).ws.map (·.2)=us[j].data.map (w.fj j))
  (none,(none,0,0),(none,0,0),(0:Int),()) us.length rfl
  ⟨0,lW,lW,lW,fun _=>TA,rfl,rfl,rfl,rfl,ad,ad,e0,ba,by simpa [lL] using s0,⟨⟨[],⟨SL.nil _ _ _ _,aj,List.Pairwise.nil,aj⟩,rfl⟩,SL.nil _ _ _ _⟩,rfl,by intro j hj; omega⟩ ?_
 clear e0 ba s s0;rintro ⟨p13,⟨p14,l15,l16⟩,⟨p17,l18,l19⟩,n20,⟨⟩⟩ m' h1 ⟨n,usl,el,kl,S,hy1,hy2,hy3,hy4,hnl,rfl,e1,ba,s,es1,hM,hS⟩;simp only [Prod.mk.injEq] at hy1 hy2 hy3 hy4;obtain ⟨rfl,rfl,rfl⟩:=hy2;obtain ⟨rfl,rfl,rfl⟩:=hy3;subst hy1 hy4;refine an ?_;refine ak (fun q=>?_) (fun q=>?_)
 ·have q:=Ws q;have hlt:n<us.length:=ad
  obtain ⟨a,ta,tb,tc,td,ha,hc,hu⟩:=v.cells n hlt;have hmem:=WA hlt;have htk:us.take (n+1)=us.take n++[us[n]]:=Wx hlt;have htl:(us.take n).length=n:=by rw [WO]; omega
  rw [yU w us n hlt] at hM;have hre:=r.bf hmem;have hrr:=r.right _ hmem;have hgood:=fun x hx=>sm.Da r hmem (x:=x) hx
  have hsu:=Gh us n;have hsu2:=Fh us;have hit:=sm.items;have hek:=Mq us n;have hek2:=r.eqs;generalize hux:us[n]=u at hc hu htk hM hre hrr hgood;refine ay ⟨ad,ad⟩ (av ha ?_);rw [show Int.toNat (n:Int)=n from ad];refine ax ((ta.p,ta.l,ta.c),(tb.p,tb.l,tb.c),(tc.p,tc.l,tc.c),(td.p,td.l,td.c),()) (aQ e1 aj _ _ hc) ?_;refine an ?_;refine PL rfl rfl pw tb0 hA hAB e1 ba s hlwb es1 hu hgood hrr ad ad ad (by unfold uS; rw [Wr]; omega) (by rw [Wr]; omega) ad ad ?_ ?_
  ·intro h' q E hq;refine ⟨E,?_⟩;rw [hq] at hM;rw [hlp,hM]
  ·intro h' el' kl' usl' S' E ba' s' es' hb hold h1 h2;rw [hb] at hM;refine ⟨us.length-(n+1),ad,n+1,usl',el',kl',S',rfl,rfl,rfl,rfl,ad,rfl,E,ba',?_,?_,hM,fun j hj hx=>?_⟩
   ·rw [htk,GJ];exact s'
   ·rw [htk,KS,JB,htl];exact es'
   ·by_cases hjn:j=n
    ·subst hjn;rw [hux];exact ⟨h1,h2⟩
    ·rw [hold _ ad,hold _ ad];exact hS j ad hx
 ·have q:=Wt q;have hn:n=us.length:=ad
  subst hn;rw [Yd (WH _)] at hM;rw [W7 (WH _)] at s es1;have hM:fJ w 0 us=none:=hM;rw [hM] at hlp;exact Pf hA hAB e1 ba s es1 r sm i0 hM (fun n hn=>hS n hn hn) hlp
theorem PS {h:Hp} (pw:fY h) (tb0:An h) {p:Option YC} {l c:Nat} {us:List bP} (v:sT h p l us) (sm:Ho us):HC Tryz.prog 14 #[.slice p l c] h (K0 h us):=by
 refine aZ (args:=[.slice p l c]) mixed Tryz.func14 az (Ai p l c) ?_;unfold xE aX bh bm aH cn iA bF bk bK bj bi bU aM bT da;have hll:=v.len;have hmany:=v.many;refine bq ?_;intro h1 b1 e1 z1;refine ak (fun q=>?_) (fun q=>?_)
 ·have q:l=0:=by
   have:=Ws q
   omega
  refine aw b1 rfl aj ?_;intro h2 b2 k2 z2;have b2:bC h2 h.size 37 [.int .i64 25,.int .i64 0,.string ⟨#[]⟩]:=b2;refine af b2 ((25:Int),(0:Int),(⟨#[]⟩:YA),()) rfl ?_;refine ⟨Ch.trans e1 k2 (fun i hi hl=>by simp at hi; omega),?_⟩;unfold kJ;rw [WC ad] <;> rfl
 have hl0:¬ us.length=0:=by
  have:=Wt q
  omega
 refine ak (fun q=>?_) (fun q=>?_)
 ·have q:=Ws q;refine aw b1 rfl aj ?_;intro h2 b2 k2 z2;have b2:bC h2 h.size 37 [.int .i64 4,.int .i64 0,.string ⟨#[]⟩]:=b2;refine af b2 ((4:Int),(0:Int),(⟨#[]⟩:YA),()) rfl ?_;refine ⟨Ch.trans e1 k2 (fun i hi hl=>by simp at hi; omega),?_⟩;unfold kJ;rw [Ww hl0,WC ad] <;> rfl
 have hl64:¬ 64<us.length:=by
  have:=Wt q
  omega
 have hlp1:∀ n,us.findIdx? (fun u=>decide (eG u≠0))=some n->kJ us=.error ⟨31,n,du⟩:=by
  intro n hn;unfold kJ;rw [Ww hl0,Ww hl64,hn]
 refine aR (cs:=[(false,[.pointer 0]),(false,[.int .i64])]) (fun y m' h'=>∃ n:Nat,y.1=none/\y.2.1=(n:Int)/\n<=us.length/\m'=us.length-n/\Ext h h'/\bC h' h.size 37 [.int .i64 0,.int .i64 0,.string ⟨#[]⟩]/\∀ j,(hj:j<n)->(hx:j<us.length)->eG us[j]=0) (none,(0:Int),()) us.length rfl
  ⟨0,rfl,rfl,ad,ad,e1,b1,by intro j hj; omega⟩ ?_
 clear e1 b1;rintro ⟨p2,n3,⟨⟩⟩ m' h2 ⟨n,hy1,hy2,hnl,rfl,e2,b2,hok⟩;simp only at hy1 hy2;subst hy1 hy2;refine an ?_;refine ak (fun q=>?_) (fun q=>?_)
 ·have q:=Ws q;have hlt:n<us.length:=ad
  obtain ⟨a,ta,tb,tc,td,ha,hc,hu⟩:=v.cells n hlt;refine ay ⟨ad,ad⟩ (av ha ?_);rw [show Int.toNat (n:Int)=n from ad];refine ax ((ta.p,ta.l,ta.c),(tb.p,tb.l,tb.c),(tc.p,tc.l,tc.c),(td.p,td.l,td.c),()) (aQ e2 aj _ _ hc) ?_;refine an ?_;refine bq ?_;intro h3 b3' e3 z3;refine aw b3' rfl aj ?_;intro h4 b4 k4 z4;have b4:bC h4 h2.size 30 [ta.v,tb.v,tc.v,td.v]:=b4;have e24:Ext h2 h4:=Ch.trans e3 k4 (fun i hi hl=>by simp at hi; omega);have e04:=e2.trans e24;refine af b4 ((ta.p,ta.l,ta.c),(tb.p,tb.l,tb.c),(tc.p,tc.l,tc.c),(td.p,td.l,td.c),()) rfl ?_;refine an ?_;refine aI (ux (tb0.ao e04 aj) (hu.ao e04)) ?_;rintro _ h5 ⟨rfl,e5⟩;refine ⟨(((eG us[n]:Nat):Int),()),rfl,?_⟩;refine an ?_;have b5:=b2.ao (e24.trans e5) aj;have e05:=e04.trans e5;refine ak (fun q=>?_) (fun q=>?_)
  ·have hne:eG us[n]≠0:=by
    intro h0;rw [h0] at q;exact absurd q cg
   refine aw b5 rfl aj ?_;intro h6 b6 k6 z6;have b6:bC h6 h.size 37 [.int .i64 31,.int .i64 (n:Int),.string ⟨#[]⟩]:=b6;refine af b6 ((31:Int),(n:Int),(⟨#[]⟩:YA),()) rfl ?_;refine ⟨Ch.trans e05 k6 (fun i hi hl=>by simp at hi; omega),?_⟩;rw [hlp1 n (by
    rw [WR];exact ⟨hlt,WB hne,fun j hj=>by rw [hok j hj ad]; decide⟩)]
   rfl
  ·have hz:eG us[n]=0:=by
    have hb:(((eG us[n]:Nat):Int) != 0)=false:=q
    by_cases h0:eG us[n]=0
    ·exact h0
    ·have:(((eG us[n]:Nat):Int) != 0)=true:=by
      rw [bne_iff_ne];omega
     rw [this] at hb;cases hb
   have hw:IntKind.wrap .i64 ((n:Int)+1)=((n+1:Nat):Int):=by rw [wrap_i64 ad ad]; omega
   rw [hw];refine aF (cs:=[(false,[.pointer 0]),(false,[.int .i64])]) (none,((n+1:Nat):Int),()) (us.length-(n+1)) rfl ad rfl ⟨n+1,rfl,rfl,ad,rfl,e05,b5,fun j hj hx=>?_⟩
   by_cases hjn:j=n
   ·subst hjn; exact hz
   ·exact hok j ad hx
 ·have q:=Wt q;have hn:n=us.length:=ad
  subst hn;have r:Ew us:=⟨fun u hu=>by
   obtain ⟨j,hj,rfl⟩:=WS hu;exact hok j hj hj,ad⟩
  have hfi:us.findIdx? (fun u=>decide (eG u≠0))=none:=by
   rw [Xe];intro u hu;rw [r.right u hu];decide
  have q2:=b2.lt;refine NX (kv:=N8) (en:=eI) ?_;intro h3 m3 e3 z3;refine NX (kv:=N8) (en:=eI) ?_;intro h4 m4 e4 z4;refine xu (en:=eI) ?_;intro h5 m5 e5 z5;refine bq ?_;intro h6 b6 e6 z6;have e26:=((e3.trans e4).trans e5).trans e6;have z4':h4.size=h2.size+2:=ad
  have z5':h5.size=h2.size+3:=ad
  rw [z3] at m4;rw [z4'] at m5;rw [z5',z3,z4'] at b6;rw [z5'];have p6:ED h6 h2.size lW lW 0 Q4:=⟨b6,⟨((m3.ao e4 aj).ao e5 aj).ao e6 aj,(m4.ao e5 aj).ao e6 aj,m5.ao e6 aj⟩,SL.nil _ _ _ _⟩
  have v2:=v.ao e2;have hit:=sm.items;refine aI (Gk (c:=c) rfl e26 p6 v2 (by show 0+um us<=_; omega) ad rfl) ?_;rintro _ h7 ⟨rfl,lb7,p7,e7⟩;refine ⟨(),rfl,?_⟩;refine an ?_;refine aI (JZ (c:=c) rfl e7 p7 v2 ad) ?_;rintro _ h8 ⟨e8,hq⟩;have b28:=b2.ao e8 aj;have z8:=e8.size;have w0:=Qx r.right;cases hM:jZ 0 us (mw 0 us Q4) with
  | error q =>
   rw [hM] at hq;subst hq;refine ⟨((22:Int),(q.1:Int),q.2,true,()),rfl,?_⟩;refine an ?_;refine bq ?_;intro h9 b9' e9 z9;refine aw b9' rfl aj ?_;intro h10 b10 k10 z10;have b10:bC h10 h8.size 37 [.int .i64 22,.int .i64 (q.1:Int),.string q.2]:=b10;have e810:Ext h8 h10:=Ch.trans e9 k10 (fun i hi hl=>by simp at hi; omega);refine bX rfl ?_;refine af b10 ((22:Int),(q.1:Int),q.2,()) rfl ?_;refine ⟨⟨b10.cells _ rfl,trivial⟩,?_⟩;refine aw (b28.ao e810 aj) rfl aj ?_;intro h11 b11 k11 z11;have b11:bC h11 h.size 37 [.int .i64 22,.int .i64 (q.1:Int),.string q.2]:=b11;refine af b11 ((22:Int),(q.1:Int),q.2,()) rfl ?_;refine ⟨Ch.trans ((e2.trans e8).trans e810) k11 (fun i hi hl=>by simp at hi; omega),?_⟩;unfold kJ;rw [Ww hl0,Ww hl64,hfi];simp only [hM] <;> rfl
  | ok w =>
   rw [hM] at hq;obtain ⟨rfl,p8⟩:=hq;refine ⟨((0:Int),(0:Int),(⟨#[]⟩:YA),false,()),rfl,?_⟩;refine an ?_;refine bq ?_;intro h9 b9' e9 z9;refine aw b9' rfl aj ?_;intro h10 b10 k10 z10;have e810:Ext h8 h10:=Ch.trans e9 k10 (fun i hi hl=>by simp at hi; omega);refine bM rfl ?_;have e010:=(e2.trans e8).trans e810;refine O0 (cc:=c) pw tb0 (WH _) q2 e010 (b28.ao e810 aj) (p8.ao e810) v r sm (w0.meet hM) ?_;unfold kJ;rw [Ww hl0,Ww hl64,hfi];simp only [hM];cases fJ w 0 us with
   | some q=>rfl
   | none =>
    cases mE (uS w us) with
    | some i=>rfl
    | none=>rfl
structure EL (h:Hp) (b:Nat) (s:bY) (ws:List (bY × cz)):Prop where
 out:SL h b 64 10 s.p s.l s.c (ws.map sH)
 eY:∀ u,u∈ws->SL h b 66 2 u.1.p u.1.l u.1.c (u.2.e.ai.map cX)
theorem EL.vd {h:Hp} {b:Nat} {s:bY} {ws:List (bY × cz)} (o:EL h b s ws):RL h s.p s.l ws :=
 ⟨by have:=o.out.1; rwa [Wr] at this,fun i hi=>by
  obtain ⟨a,ha,hc⟩:=o.out.cells (i:=i) (by simpa using hi);rw [Wy] at hc;exact ⟨a,ha,hc⟩⟩
def Vz (p15:Option YC) (l16 l17:Nat):T :=
   T.loop [aM] [.int .i64 (0:Int)] <| fun (n18:Int) =>
   bm n18 l16
    (T.need (((0:Int)<=n18)/\(n18<(l16:Int))) <|
    T.bd p15 <| fun (a19:YC) =>
    T.ah ((a19.add (aH n18 10)).add 7) [.slice 66] <| fun (p20:Option YC) (l21:Nat) (l22:Nat) =>
    bF 54 [.slice p20 l21 l22] false [(false,[.slice 66])] <| fun (p23:Option YC) (l24:Nat) (l25:Nat) =>
    T.need (((0:Int)<=n18)/\(n18<(l16:Int))) <|
    T.bd p15 <| fun (a26:YC) =>
    T.aD ((a26.add (aH n18 10)).add 7) [.slice p23 l24 l25] <|
    T.again 0 [.int .i64 (bj (n18+(1:Int)))])
    (T.ret (.slice p15 l16 l17))
def wT (h:Hp) (us:List cz) (v:YB) (h':Hp):Prop:=Ext h h'/\∃ s ws,v=bY.v s/\EL h' h.size s ws/\ws.map (·.2)=us
theorem SQ {h0 h:Hp} {b0:Nat} {s:bY} {ws:List (bY × cz)} (e0:Ext h0 h) (o:SL h h0.size 64 10 s.p s.l s.c (ws.map sH)) (hin:∀ u,u∈ws->SL h0 b0 66 2 u.1.p u.1.l u.1.c (u.2.e.ai.map cX)) (hl:ws.length<=2^30) (ht:∀ u,u∈ws->u.2.e.ai.length<=2^40) :
  Vz s.p s.l s.c [] (wT h0 (ws.map (·.2))) h:=by
 unfold Vz bm aH bF bj aM;have hsl:s.l=ws.length:=by have:=o.1; rwa [Wr] at this
 have z0:=e0.size
 refine aR (cs:=[(false,[.int .i64])]) (fun y m' h'=>∃ (i:Nat) (vs:List (bY × cz)),y.1=(i:Int)/\i<=ws.length/\m'=ws.length-i/\Ext h0 h'/\SL h' h0.size 64 10 s.p s.l s.c (vs.map sH)/\vs.length=ws.length /\
   ∀ m,(hm:m<ws.length)->(hm':m<vs.length)->vs[m].2=ws[m].2/\if m<i then SL h' h0.size 66 2 vs[m].1.p vs[m].1.l vs[m].1.c (vs[m].2.e.ai.map cX) else vs[m]=ws[m]) ((0:Int),()) ws.length rfl
  ⟨0,ws,rfl,ad,ad,e0,o,rfl,fun m hm hm'=>⟨rfl,by rw [Ww ad]⟩⟩ ?_
 clear e0 o z0;rintro ⟨n18,⟨⟩⟩ m' h1 ⟨i,vs,hi,hil,rfl,e1,o,hvl,dU⟩;simp only at hi;subst hi;refine an ?_;have z1:=e1.size;refine ak (fun q=>?_) (fun q=>?_)
 ·have q:=Ws q;have hlt:i<ws.length:=ad
  have hlt':i<vs.length:=ad
  have hi:=(dU i hlt hlt').2;rw [Ww ad] at hi;obtain ⟨a,ha,hc⟩:=o.cells (i:=i) (by simpa using hlt');rw [Wy,hi] at hc;have hin:=hin ws[i] (WA hlt);have ht:=ht ws[i] (WA hlt);generalize hu:ws[i]=u at hin hc ht;refine ay ⟨ad,ad⟩ (av ha ?_);rw [show Int.toNat (i:Int)=i from ad];refine ax ((u.1.p,u.1.l,u.1.c),()) (et 1 [_,_,_] 0 (hZ _ 7 0 (gd 7 _ 0 hc))) ?_;refine an ?_;refine aI (Ex (c:=u.1.c) (wo (hin.ao e1 aj)) ht) ?_;rintro _ h2 ⟨⟨p',l',c',rfl,s2⟩,e2⟩;refine ⟨((p',l',c'),()),rfl,?_⟩;refine an ?_;refine ay ⟨ad,ad⟩ (av ha ?_);have o2:=o.ao e2 aj;refine SL.part (P:=Tryz.prog) o2 (i:=i) (by rw [Wr]; exact hlt') (o:=7) aj (by simp [cS]) ha ?_;intro h3 o3 k3 z3;have hnew:(vs.map sH).set i (lG ((vs.map sH)[i]'(by rw [Wr]; exact hlt')) 7 [.slice p' l' c'])=(vs.set i (⟨p',l',c'⟩,u.2)).map sH:=by
   rw [Yn,Wy,hi,hu] <;> rfl
  rw [hnew] at o3;have hw:IntKind.wrap .i64 ((i:Int)+1)=((i+1:Nat):Int):=by rw [wrap_i64 ad ad]; omega
  rw [hw];refine aF (cs:=[(false,[.int .i64])]) (((i+1:Nat):Int),()) (ws.length-(i+1)) rfl ad rfl ?_;refine ⟨i+1,_,rfl,ad,rfl,Ch.trans (e1.trans e2) k3 (fun j hj hl=>by have:=(o2.cd hj).1; omega),o3,by rw [XK]; exact hvl,fun m hm hm'=>?_⟩
  by_cases hmi:m=i
  ·subst hmi;rw [WC ad,List.getElem_set_self,hu];exact ⟨rfl,(s2.bG k3 (fun j hj hm=>uF o2 s2 cg j hm hj)).mono z1⟩
  ·have hm2:m<vs.length:=ad
   have:=dU m hm hm2
   rw [List.getElem_set_ne (Ne.symm hmi)];refine ⟨this.1,?_⟩;have this:=this.2
   by_cases hlt2:m<i
   ·rw [WC hlt2] at this;rw [WC ad]
    have:=this.ao e2 aj
    exact this.bG k3 (fun j hj hm=>uF o2 this cg j hm hj)
   ·rw [Ww hlt2] at this;rw [Ww ad];exact this
 ·have q:=Wt q;have hi:i=ws.length:=ad
  subst hi;refine ⟨e1,s,vs,rfl,⟨o,fun u hu=>?_⟩,?_⟩
  ·obtain ⟨m,hm,rfl⟩:=WS hu
   have:=(dU m ad hm).2
   rwa [WC ad] at this
  ·refine Yp (by rw [Wr,Wr]; exact hvl) fun m hm1 hm2=>?_
   rw [Wr] at hm1 hm2;rw [Wy,Wy];exact (dU m hm2 hm1).1
section
variable {h:Hp} {B N M:Nat} {w:LW} {usl lb:bY} {sp:Int} {S:Nat->kw}
theorem Mk (s:oA h B w usl lb sp N M S):vC Tryz.prog 22 [ptr (B+3)] h (.int .i64 (N:Int)):=by
 refine ee mixed Tryz.func22 az (my (some ⟨B+3,0,none⟩)) ?_;unfold iV;refine av rfl ?_;refine af s.box ((usl.p,usl.l,usl.c),()) rfl ?_;have hul:usl.l=N:=by have:=s.un.1; rwa [gI] at this
 exact ⟨by rw [<- hul],rfl⟩
theorem CU (s:oA h B w usl lb sp N M S):vC Tryz.prog 19 [ptr (B+3)] h (.int .i64 sp):=by
 refine ee mixed Tryz.func19 az (mI (some ⟨B+3,0,none⟩)) ?_;unfold iY;refine av rfl ?_;rw [aE];refine af s.box (sp,()) rfl ?_;exact ⟨rfl,rfl⟩
def sW (S:Nat->kw) (N:Nat) (n k:Int):List cz:=if 0<=n/\n<N/\(k=0\/k=1) then (S (2*n.toNat+k.toNat)).ws.map (·.2) else []
theorem pt (h:Hp):wT h [] (.slice none 0 0) h:=⟨Ch.refl _ _,lW,[],rfl,⟨SL.nil _ _ _ _,aj⟩,rfl⟩
theorem LN (s:oA h B w usl lb sp N M S) (hM:2*N<=M) (hN:N<=2^30) (hs:∀ k,k<2*N->(S k).ws.length<=2^30/\∀ u,u∈(S k).ws->u.2.e.ai.length<=2^40) (n k:Int) (hn:-9223372036854775808<=n/\n<=9223372036854775807) :
  HC Tryz.prog 17 #[ptr (B+3),.int .i64 n,.int .i64 k] h (wT h (sW S N n k)):=by
 refine aZ (args:=[ptr (B+3),.int .i64 n,.int .i64 k]) mixed Tryz.func17 az (mC (some ⟨B+3,0,none⟩) n k) ?_;unfold iZ aX bh bm aH bF bi aM;have hul:usl.l=N:=by have:=s.un.1; rwa [gI] at this
 have hno:¬ (0<=n/\n<N/\(k=0\/k=1))->sW S N n k=[]:=fun h=>by unfold sW; rw [Ww h]
 refine ak (fun q=>?_) (fun q=>?_)
 ·have q:=Ws q;rw [hno ad];exact pt h
 have q1:=Wt q;refine av rfl ?_;refine af s.box ((usl.p,usl.l,usl.c),()) rfl ?_;refine an ?_;refine ak (fun q=>?_) (fun q=>?_)
 ·have q:=Ws q;rw [hno ad];exact pt h
 have q2:=Wt q;refine ak (fun q=>?_) (fun q=>?_)
 ·have q:=Ws q;rw [hno ad];exact pt h
 have q3:=Wt q;refine ak (fun q=>?_) (fun q=>?_)
 ·have q:=Ws q;rw [hno ad];exact pt h
 have q4:=Wt q;have hlt:n.toNat<N:=ad
 obtain ⟨a,ha,hc⟩:=s.un.cells (i:=n.toNat) (by rw [gI]; exact hlt);rw [Bo] at hc;generalize hn':n.toNat=m at hc hlt;have hsec:∀ j,j<2->∃ ta:bY,ta=(S (2*m+j)).s/\RL h ta.p ta.l (S (2*m+j)).ws:=by
  intro j hj;have hs:=s.wP.sec (2*m+j) ad;exact ⟨_,rfl,EL.vd (b:=B+4) ⟨hs.out,hs.eY⟩⟩
 have hit:k=0\/k=1->sW S N n k=(S (2*m+k.toNat)).ws.map (·.2):=fun hk=>by
  unfold sW;rw [WC ⟨ad,ad,hk⟩,hn']
 refine av rfl ?_;refine af s.box ((usl.p,usl.l,usl.c),()) rfl ?_;refine an ?_;refine ay ⟨ad,ad⟩ (av ha ?_);obtain ⟨ta,hta,va⟩:=hsec 0 ad;obtain ⟨tb,htb,vb⟩:=hsec 1 ad;have hc:aG h (a.add (m*4)) 0 [ta.v,tb.v,lW.v,lW.v]:=by rw [hta,htb]; exact hc
 refine ax ((ta.p,ta.l,ta.c),()) (et 1 _ 0 hc) ?_;refine an ?_;have fin:∀ (j:Nat) (t:bY),j<2->t=(S (2*m+j)).s->RL h t.p t.l (S (2*m+j)).ws->(T.call Tryz.prog 53 [.slice t.p t.l t.c] false [(false,[.slice 64])] fun p l c=>Vz p l c) [] (wT h ((S (2*m+j)).ws.map (·.2))) h:=by
  intro j t hj ht vt;have hsz:=hs (2*m+j) ad;have se:=s.wP.sec (2*m+j) ad;refine aI (BA (c:=t.c) vt hsz.1) ?_;rintro _ h1 ⟨⟨p',c',rfl,s1⟩,e1⟩;refine ⟨((p',t.l,c'),()),rfl,?_⟩;refine an ?_;exact SQ (s:=⟨p',t.l,c'⟩) e1 s1 se.eY hsz.1 hsz.2
 refine ak (fun q=>?_) (fun q=>?_)
 ·have hk:k=1:=by simpa using q
  rw [hit (.inr hk),hk];refine av rfl ?_;refine af s.box ((usl.p,usl.l,usl.c),()) rfl ?_;refine an ?_;refine ay ⟨ad,ad⟩ (av ha ?_);refine ax ((tb.p,tb.l,tb.c),()) (et 1 [_,_,_] 0 (hZ _ 1 0 (gd 1 _ 0 hc))) ?_;refine an ?_;exact fin 1 tb ad htb vb
 ·have hk:k=0:=by
   have:¬ k=1:=by
    intro h;rw [h] at q;exact absurd q cg
   omega
  rw [hit (.inl hk),hk];exact fin 0 ta ad hta va
theorem SB {h:Hp} {b:Nat} {e:TypeId} {sz:Nat} {p:Option YC} {l c:Nat} {xs:List (List YB)} (s:SL h b e sz p l c xs):(p=none/\xs=[])\/∃ a,p=some a/\aG h a 0 xs.flatten:=by
 cases p with
 | none=>exact .inl ⟨rfl,s.2.2.2⟩
 | some a =>
  refine .inr ⟨a,rfl,?_⟩
  have:=fM (h:=h) (a:=a) (sz:=sz) xs 0 s.2.1 (fun i hi=>by
   obtain ⟨a',ha,hc⟩:=s.cells hi;cases ha;rw [Xa];exact hc)
  rwa [Nat.zero_mul] at this
theorem Gn (ls:List Lb):(ls.map wq).flatten.all cS=true:=by
 rw [W1];intro v hv;obtain ⟨x,hx,hv⟩:=List.mem_flatten.1 hv;obtain ⟨t,_,rfl⟩:=Wz.1 hx;simp only [wq,List.mem_cons,List.not_mem_nil,or_false] at hv;rcases hv with rfl | rfl | rfl | rfl <;> rfl
theorem IL (ls:List Lb):∀ y,y∈ls.map wq->y.length=4:=by
 intro y hy;obtain ⟨u,_,rfl⟩:=Wz.1 hy;rfl
theorem JR {h:Hp} {b:Nat} {p:Option YC} {l c:Nat} {ls:List Lb} (s:SL h b 76 4 p l c (ls.map wq)) (hl:ls.length<=2^30) :
  HC Tryz.prog 55 #[.slice p l c] h fun w h'=>(∃ p' c',w=.slice p' l c'/\SL h' h.size 76 4 p' l c' (ls.map wq))/\Ext h h':=by
 refine aZ (args:=[.slice p l c]) mixed Tryz.func55 az (eV p l c) ?_;unfold dm bk bi;have hll:l=ls.length:=by have:=s.1; rwa [Wr] at this
 cases p with
 | none =>
  refine bX rfl ?_;have h2:ls=[]:=by simpa using s.2.2.2
  subst h2;subst hll;exact ⟨⟨none,0,rfl,SL.nil _ _ _ _⟩,Ch.refl _ _⟩
 | some a =>
  refine bM rfl ?_;refine lr (e:=76) (z:=.agg #[.int .i64 0,.int .i64 0,.int .i64 0,.string ⟨#[]⟩]) (sz:=4) (by':=40) Rq T7 rfl (SB s) (by simpa using hll) (IL ls) (Gn ls) ad ad ?_;intro p' c' h' s' e';exact ⟨⟨p',c',rfl,s'⟩,e'⟩
theorem rO (s:oA h B w usl lb sp N M S) (hl:w.lb.length<=2^30):HC Tryz.prog 18 #[ptr (B+3)] h fun v h'=>Ext h h'/\∃ p l c,v=.slice p l c/\SL h' h.size 76 4 p l c (w.lb.map wq):=by
 refine aZ (args:=[ptr (B+3)]) mixed Tryz.func18 az (lR (some ⟨B+3,0,none⟩)) ?_;unfold iy bF;refine av rfl ?_;rw [aE];refine af s.box ((lb.p,lb.l,lb.c),()) rfl ?_;refine an ?_;refine aI (JR (c:=lb.c) s.mV hl) ?_;rintro _ h1 ⟨⟨p',c',rfl,s1⟩,e1⟩;exact ⟨((p',lb.l,c'),()),rfl,e1,p',lb.l,c',rfl,s1⟩
def xy (w:LW) (N:Nat) (u:Int) (s:YA):Option Nat:=if 0<=u/\u<N then (w.own u.toNat s).bind w.num else none
theorem O8 (s:oA h B w usl lb sp N M S) (hN:N<=2^30) (u:Int) (t:YA) (hu:-9223372036854775808<=u/\u<=9223372036854775807):HC Tryz.prog 30 #[ptr (B+3),.int .i64 u,.string t] h fun v h'=>Ext h h'/\v=.tuple #[.int .i64 (((xy w N u t).getD 0:Nat):Int),.bool (xy w N u t).isSome]:=by
 refine aZ (args:=[ptr (B+3),.int .i64 u,.string t]) mixed Tryz.func30 az (nt (some ⟨B+3,0,none⟩) u t) ?_;unfold jv bF bK bU aM bT;have hul:usl.l=N:=by have:=s.un.1; rwa [gI] at this
 have hno:¬ (0<=u/\u<N)->xy w N u t=none:=fun h=>by unfold xy; rw [Ww h]
 refine ak (fun q=>?_) (fun q=>?_)
 ·have q:=Ws q;rw [hno ad];exact ⟨Ch.refl _ _,rfl⟩
 have q1:=Wt q;refine av rfl ?_;refine af s.box ((usl.p,usl.l,usl.c),()) rfl ?_;refine an ?_;refine ak (fun q=>?_) (fun q=>?_)
 ·have q:=Ws q;rw [hno ad];exact ⟨Ch.refl _ _,rfl⟩
 have q2:=Wt q;have hf:xy w N u t=(w.own u.toNat t).bind w.num:=by unfold xy; rw [WC ⟨ad,ad⟩]
 rw [hf];obtain ⟨m,rfl⟩:∃ m:Nat,u=(m:Int):=⟨u.toNat,ad⟩
 rw [show ((m:Int)).toNat=m from ad];refine aI (Fu s.box s.maps m t) ?_;rintro _ h1 ⟨rfl,e1⟩;generalize hk:(w.own m t).getD (0,t)=k;refine ⟨((k.1:Int),k.2,(w.own m t).isSome,()),rfl,?_⟩;refine an ?_;refine bq ?_;intro h2 b2 e2 z2;refine aw b2 rfl aj ?_;intro h3 b3 k3 z3;have b3:bC h3 h1.size 110 [.int .i64 (k.1:Int),.string k.2]:=b3;have e13:Ext h1 h3:=Ch.trans e2 k3 (fun i hi hl=>by simp at hi; omega);have e03:=e1.trans e13;cases ho:w.own m t with
 | none =>
  exact ⟨e03,rfl⟩
 | some ky =>
  rw [ho] at hk;have hk:ky=k:=hk;subst hk;refine bM rfl ?_;refine av rfl ?_;rw [aE];refine af (s.box.ao e03 aj) (some B,()) rfl ?_;refine an ?_;refine af b3 ((ky.1:Int),ky.2,()) rfl ?_;refine an ?_;refine CM (s.maps.ao e03 aj aj aj).n ky.1 ky.2 ?_;exact ⟨e03,rfl⟩
end
def RU:YB:=.tuple #[.pointer none,.pointer none,.bool false,.bool true]
def H2 (us:List bP) (P:LP) (F:bP->List cz) (tw:List (bY × List (bY × cz))):Prop :=
 tw.length=us.length/\∀ n u x,us[n]?=some u->tw[n]?=some x->x.2.map (·.2)=(F u).map (P.fj n)
structure ni (h0 h':Hp) (us:List bP) (su:bY) (P:LP) (B:Nat) (usl lb:bY) (S:Nat->kw) (g b':Nat) (lb2 st sd:bY) (tw dw:List (bY × List (bY × cz))):Prop where
 le:h0.size<=B
 pg:oA h' B P.w usl lb ((lL us:Nat):Int) us.length (2*us.length) S
 TV:∀ n,(hn:n<us.length)->(S (2*n)).ws.map (·.2)=us[n].text.map (P.fj n)/\(S (2*n+1)).ws.map (·.2)=us[n].data.map (P.fj n)
 sz:∀ k,k<2*us.length->Rl (S k)
 pr:Bq h' g su lb2 st sd (bt 0 us)
 tx:tQ h' b' st tw
 dx:tQ h' b' sd dw
 ti:H2 us P (·.text) tw
 di:H2 us P (·.data) dw
def VT (h0:Hp) (us:List bP) (su:bY) (v:YB) (h':Hp):Prop:=Ext h0 h' /\
 if sY us=true then v=RU else match kJ us with
 | .error _=>v=RU
 | .ok P=>∃ B usl lb S g b' lb2 st sd tw dw,v=.tuple #[ptr (B+3),ptr g,.bool true,.bool true]/\ni h0 h' us su P B usl lb S g b' lb2 st sd tw dw
theorem M' {us:List bP} {P:LP} (a1:L9 us (.ok P)) (sm:Ho us) {ms:List cD} (hm:ms.map fc=(dR us (bt 0 us) us).map fun y=>(y.1,eM (eN (dR us (bt 0 us) us)) y.1)) {F:bP->List cz} (hF:∀ u x,x∈F u->x.e∈cF u)
  {tw:List (bY × List (bY × cz))} (t:yh us (bt 0 us) ms F us.length tw):H2 us P F tw:=by
 obtain ⟨z1,l1,u1,d1,A1,b1,c1,f1⟩:=a1;refine ⟨t.1,fun n u x hu hx=>?_⟩;rw [t.2 n u x hu hx];refine Xl fun y hy=>?_
 have hn:=(WM.1 hu).1;have hyl:=hF u y hy;have hbad:P.w.bad n y.e=none:=by
  have h1:=kX us 0 b1 n hn;rw [Xa,(WM.1 hu).2,vO,Xq] at h1;exact h1 _ hyl
 have e1:=A1.put b1 c1 hn hbad (sm.num u (Xh hu) _ hyl).1 hm;unfold LP.fj vM;rw [d1,e1]
theorem UI {h:Hp} (pw:fY h) (tb0:An h) {su:bY} {us:List bP} (v:sT h su.p su.l us) (sm:Ho us):HC Tryz.prog 20 #[.slice su.p su.l su.c] h (VT h us su):=by
 refine aZ (args:=[.slice su.p su.l su.c]) mixed Tryz.func20 az (qX su.p su.l su.c) ?_;unfold ma aU bF bU;refine aJ (Mr (c:=su.c) v) ?_;refine ak (fun q=>?_) (fun q=>?_)
 ·refine ⟨Ch.refl _ _,?_⟩;rw [WC q] <;> rfl
 ·have hq:∀ (w:YB) (h':Hp),(Ext h h'/\match kJ us with
    | .error _=>w=RU
    | .ok P=>∃ B usl lb S g b' lb2 st sd tw dw,w=.tuple #[ptr (B+3),ptr g,.bool true,.bool true]/\ni h h' us su P B usl lb S g b' lb2 st sd tw dw)->VT h us su w h':=by
   intro w h' hh;refine ⟨hh.1,?_⟩;rw [Ww (by rw [q]; simp)];exact hh.2
  have ag:=zO sm.num;refine aI (PS (c:=su.c) pw tb0 v sm) ?_;rintro _ h1 ⟨e1,hl⟩;have v1:=v.ao e1;cases hlp:kJ us with
  | error f =>
   rw [hlp] at hl ag hq;have hl:_=Hy f.pX f.unit f.name:=hl;subst hl;obtain ⟨hne,ha⟩:=ag;refine ⟨(none,(f.pX:Int),(f.unit:Int),f.name,()),rfl,?_⟩;refine an ?_;refine bq ?_;intro h2 b2 e2 z2;refine aw b2 rfl aj ?_;intro h3 b3 k3 z3;have b3:bC h3 h1.size 37 [.int .i64 (f.pX:Int),.int .i64 (f.unit:Int),.string f.name]:=b3;have e13:Ext h1 h3:=Ch.trans e2 k3 (fun i hi hx=>by simp at hi; omega);have hC:(fk us).pX=0->MC us (OZ us):=by
    intro hz;rcases ha with ha | ⟨_,⟨h64,w,A,hb⟩,_⟩
    ·rw [ha] at hz;exact absurd hz hne
    ·exact DY sm h64 A hb
   refine aI (Bb (v1.ao e13) hC) ?_;rintro w4 h4 ⟨e4,hr⟩;have hw:w4=Value.tuple #[.pointer none,N2 f]:=by
    unfold Bu at hr;rcases ha with ha | ⟨hz,_,i,x,hx,hi,rfl⟩
    ·rw [WC (by rw [ha]; exact hne),ha] at hr;exact hr
    ·rw [Ww ad] at hr;rcases hr with ⟨i',x',hx',hi',hw⟩ | ⟨_,_,_,_,_,_,_,_,hx',_⟩
     ·rw [hx] at hx';cases hx';rw [hi] at hi';cases hi';exact hw
     ·rw [hx] at hx';cases hx'
   subst hw;refine ⟨(none,(f.pX:Int),(f.unit:Int),f.name,()),rfl,?_⟩;refine an ?_;refine bq ?_;intro h5 b5 e5 z5;refine aw b5 rfl aj ?_;intro h6 b6 k6 z6;have b6:bC h6 h4.size 54 [.int .i64 (f.pX:Int),.int .i64 (f.unit:Int),.string f.name]:=b6;have e46:Ext h4 h6:=Ch.trans e5 k6 (fun i hi hx=>by simp at hi; omega);have b36:=b3.ao (e4.trans e46) aj;have e06:=((e1.trans e13).trans e4).trans e46;refine af b36 ((f.pX:Int),()) rfl ?_;refine an ?_;refine af b6 ((f.pX:Int),()) rfl ?_;refine an ?_;refine bX aj ?_;rw [aE,aE];refine af b36 ((f.unit:Int),()) rfl ?_;refine an ?_;refine af b6 ((f.unit:Int),()) rfl ?_;refine an ?_;refine bX aj ?_;rw [aE,aE];refine af b36 (f.name,()) rfl ?_;refine an ?_;refine af b6 (f.name,()) rfl ?_;refine an ?_;refine bX aj ?_;refine af b6 ((f.pX:Int),()) rfl ?_;refine an ?_;have hz:((f.pX:Int)==(0:Int))=false:=by
    have:¬ (f.pX:Int)=0:=ad
    simpa using this
   rw [hz];refine bX rfl ?_;exact hq _ _ ⟨e06,rfl⟩
  | ok P =>
   rw [hlp] at hl ag hq;obtain ⟨B,usl,lb,S,hB,hv,pg,TV,hz⟩:=hl;subst hv;have ag':=ag;obtain ⟨z1,h64,u1,d1,A1,b1,c1,f1⟩:=ag;refine ⟨(some ⟨B+3,0,none⟩,(0:Int),(0:Int),(⟨#[]⟩:YA),()),rfl,?_⟩;refine an ?_;refine bq ?_;intro h2 b2 e2 z2;refine aw b2 rfl aj ?_;intro h3 b3 k3 z3;have b3:bC h3 h1.size 37 [.int .i64 0,.int .i64 0,.string ⟨#[]⟩]:=b3;have e13:Ext h1 h3:=Ch.trans e2 k3 (fun i hi hx=>by simp at hi; omega);refine aI (Bb (v1.ao e13) (fun _=>DY sm h64 A1 b1)) ?_;rintro _ h4 ⟨e4,hr⟩;unfold Bu at hr;rw [Ww ad] at hr;rcases hr with ⟨i',x',hx',_⟩ | ⟨g,b',lb2,st,sd,tw,dw,ms,_,hw,hms,pr,tx,dx,ti,di⟩
   ·rw [f1] at hx';cases hx'
   subst hw;refine ⟨(some ⟨g,0,none⟩,(0:Int),(0:Int),(⟨#[]⟩:YA),()),rfl,?_⟩;refine an ?_;refine bq ?_;intro h5 b5 e5 z5;refine aw b5 rfl aj ?_;intro h6 b6 k6 z6;have b6:bC h6 h4.size 54 [.int .i64 0,.int .i64 0,.string ⟨#[]⟩]:=b6;have e46:Ext h4 h6:=Ch.trans e5 k6 (fun i hi hx=>by simp at hi; omega);have b36:=b3.ao (e4.trans e46) aj;have e16:=(e13.trans e4).trans e46;refine af b36 ((0:Int),()) rfl ?_;refine an ?_;refine af b6 ((0:Int),()) rfl ?_;refine an ?_;refine bX rfl ?_;rw [aE,aE];refine af b36 ((0:Int),()) rfl ?_;refine an ?_;refine af b6 ((0:Int),()) rfl ?_;refine an ?_;refine bX rfl ?_;rw [aE,aE];refine af b36 ((⟨#[]⟩:YA),()) rfl ?_;refine an ?_;refine af b6 ((⟨#[]⟩:YA),()) rfl ?_;refine an ?_;refine bX aj ?_;refine af b6 ((0:Int),()) rfl ?_;refine an ?_;refine bX rfl ?_;refine hq _ _ ⟨e1.trans e16,B,usl,lb,S,g,b',lb2,st,sd,tw,dw,rfl,hB,pg.ext e16,TV,hz,pr.ao e46,tx.ext e46,dx.ext e46,?_,?_⟩
   ·exact M' ag' sm hms (fun u x hx=>W3 _ (W3 _ (WL hx))) ti
   ·exact M' ag' sm hms (fun u x hx=>W3 _ (W5 _ (WL hx))) di
end Go.Sx.Lk
namespace Go.Sx.Ob
open Go.Proofs
def Mf (h:Hp) (p:Option YC) (xs:List (List YB)):Prop :=
 match p with
 | none=>xs=[]
 | some a1=>aG h a1 0 xs.flatten
theorem D8 {P:Program} {h:Hp} {K:YB->Hp->Prop} {t ty e:TypeId} {i:TypeInfo} {z:YB} (ht:P.underlying t=some (.slice e)) (hi:P.info? e=some i) (hz:i.zero=some z) (hzs:z.cells.size=i.size)
  {p:Option YC} {l:Nat} {xs ys:List (List YB)} (hxl:l=xs.length) (hxs:∀ x,x∈xs->x.length=i.size) (hx:Mf h p xs) {a:YC} {m cc:Nat} (hm:m=ys.length) (hm0:0<m) (hys:∀ y,y∈ys->y.length=i.size)
  (hc:aG h a 0 ys.flatten) (hby:(2*(l+m)+1024)*i.bytes<=2^48) (hl:l+m<=2^48)
  (hk:∀ c' h',SL h' h.size e i.size (some ⟨h.size,0,none⟩) (l+m) c' (xs++ys)->Ext h h'->K (.slice (some ⟨h.size,0,none⟩) (l+m) c') h') :
  aP P (Builtin.append_ #[t,t] ty #[.slice p l l,.slice (some a) m cc]) h K:=by
 have hyl:ys.flatten.length=m*i.size:=by rw [dB ys hys,hm]
 have hxll:xs.flatten.length=l*i.size:=by rw [dB xs hxs,hxl]
 have hall:∀ x,x∈xs++ys->x.length=i.size:=fun x hx=>(WV.1 hx).elim (hxs x) (hys x)
 have hlen:l+m=(xs++ys).length:=by rw [Wv,<- hxl,hm]
 have hz':(P.info? e).bind (·.zero)=some z:=by rw [hi]; exact hz
 have hroom:¬ l+m<=l:=ad
 have hcap:¬ 281474976710656<Builtin.nextslicecap (l+m) l*i.bytes:=by
  have h1:=tz (need:=l+m) (old:=l) ad;have h2:=Xo i.bytes h1;have h3:(2:Nat)^48=281474976710656:=rfl;omega
 have hbig:¬ (9223372036854775807<(l:Int)+(m:Int)/\i.bytes=0):=by
  have h3:(2:Nat)^48=281474976710656:=rfl;omega
 simp [Builtin.append_,ar,aC ht,bJ hi,cr hi,Builtin.lenOf,Builtin.firstCells,hroom,fq hi,cT hz',askRoom,hbig,hcap,show m≠0 from ad];intro tt;have hge:=CZ (l+m) l e tt;generalize (Question.appendCap (l+m) l e).cut tt=nc at hge;show aP P (if roomBytes<nc*i.bytes then mark Mark.noRoom else pure ()) h _;have hroomy:∀ K':Unit->Hp->Prop,K' () h->aP P (if roomBytes<nc*i.bytes then mark Mark.noRoom else pure ()) h K':=by
  intro K' hk';split
  ·exact hk'
  ·exact hk'
 refine hroomy _ ?_
 have hold:∀ K':Array YB->Hp->Prop,K' xs.flatten.toArray h->aP P (match Value.slice p l l with
   | Value.slice (some a) len cap=>loadCells a (l*i.size)
   | Value.slice none len cap=>pure #[]
   | Value.string s=>pure ((Array.map (fun b=>Value.int IntKind.u8 ↑b.toNat) s.data).extract 0 l)
   | x => stuck "slice or string expected") h K' := by
  intro K' hk';cases p with
  | none =>
   have:xs=[]:=hx
   subst this;exact hk'
  | some a1=>exact cU hxll hx _ hk'
 refine hold _ ?_;refine cU hyl hc _ ?_;rw [lE];refine hk nc _ ⟨hlen,hall,h.size,[],(Builtin.zeroCells z.cells (nc-(l+m))).toList,rfl,WH _,⟨hge.1,hge.2 ad⟩,?_,?_⟩ (Ext.push h _)
 ·have e1:xs.flatten.toArray++(ys.flatten.toArray++Builtin.zeroCells z.cells (nc-(l+m)))=((xs++ys).flatten++(Builtin.zeroCells z.cells (nc-(l+m))).toList).toArray:=by
   apply W6.1; simp
  rw [e1];exact bC.new h e _
 ·rw [Xs,kY,hzs]
end Go.Sx.Ob
namespace Go.Sx.Lk
open Go.Proofs Go.Sx.Ob
theorem Ej {P:Program} {h:Hp} {t e:TypeId} {i:TypeInfo} (ht:P.underlying t=some (.slice e)) (hi:P.info? e=some i) {p:Option YC} {l c:Nat} {k k':IntKind} (hl:l<=c) (K:YB->Hp->Prop) (hk:K (.slice p l l) h) :
  aP P (Instr.sliceAt t (.slice p l c) none (some (.int k (l:Int))) (some (.int k' (l:Int)))) h K:=by
 unfold Instr.sliceAt;rw [ar,aC ht];show aP P (Instr.slice t (.slice p l c) none (some (.int k (l:Int))) (some (.int k' (l:Int)))) h K;unfold Instr.slice;rw [ar,aC ht];show aP P (Instr.sliceBounds true l c none (some (.int k (l:Int))) (some (.int k' (l:Int))) >>= fun x=>(do let size <- sizeOf e; pure (.slice (if x.2.2=x.1 then p else p.map (·.add (x.1*size))) (x.2.1-x.1) (x.2.2-x.1)):Sem YB)) h K;have hb:∀ (m:Nat) (k:IntKind) (b:BoundsCode) (R:Nat->Hp->Prop),l<=m->aP P (Instr.sliceBound (.int k (l:Int)) m b) h R=R l h:=by
  intro m k b R hnm;rw [dA m b rfl ad ad];show R (l:Int).toNat h=_;rw [show (l:Int).toNat=l from ad]
 show aP P ((Instr.sliceBound (.int k' (l:Int)) c .slice3Acap >>= fun m=>Instr.sliceBound (.int k (l:Int)) m .slice3B >>= fun hh=>pure (0,hh,m)) >>= _) h K;rw [ar,ar,hb c k' _ _ hl,ar,hb l k _ _ (WH _)];show aP P (sizeOf e >>= fun size=>pure (.slice (if l=0 then p else p.map (·.add (0*size))) (l-0) (l-0))) h K;rw [ar,bJ hi];show K (.slice (if l=0 then p else p.map (·.add (0*P.cellsOf e))) (l-0) (l-0)) h;have e1:(if l=0 then p else p.map (·.add (0*P.cellsOf e)))=p:=by
  split
  ·rfl
  ·cases p with
   | none=>rfl
   | some a=>simp [Addr.add]
 rw [e1];exact hk
end Go.Sx.Lk
namespace Go.Sx.Ob
open Go.Proofs
structure VQ where
 kind:Nat
 items:List cz
 name:YA
 e:bZ
 sec:Nat
def VF (k:Nat):List UInt8:=(ug k).data.toList
structure V0 where
 text:List cz
 data:List cz
 bf:List qi
 names:List YA
 aS:List (YA × Nat)
 sec:Nat
def Ui (w:V0) (Hx:YA) (t:VQ):Prop:=(Hx≠du/\fC w.names Hx=true)\/(t.kind=3/\(fC w.names t.name=true\/t.name=Hx))
instance (w:V0) (Hx:YA) (t:VQ):Decidable (Ui w Hx t):=by unfold Ui; infer_instance
end Go.Sx.Ob
namespace Go.Sx.Lk
open Go.Proofs Go.Sx.Ob
theorem UG:Tryz.prog.underlying 76=some (.struct (Ar Tryz.prog 76)):=az
theorem UA (a b c:Int) (s:YA) (a' b' c':Int) (s':YA):(Ar Tryz.prog 76).all (FH #[.int .i64 a,.int .i64 b,.int .i64 c,.string s] #[.int .i64 a',.int .i64 b',.int .i64 c',.string s'])=(a==a' && (b==b' && (c==c' && (s==s' && true)))):=by
 rw [<- XL]
 kernel_rfl
theorem SH (u v:Operand) (x y:Lb) (h:Hp) (K:YB->Hp->Prop) (hk:K (.bool (decide (x≠y))) h) :
  aP Tryz.prog (Sx.iK (BinOp.neq) 76 u v (.agg #[.int .i64 (x.u:Int),.int .i64 (x.s:Int),.int .i64 (x.i:Int),.string x.n]) (.agg #[.int .i64 (y.u:Int),.int .i64 (y.s:Int),.int .i64 (y.i:Int),.string y.n])) h K:=by
 refine uu UG az az az K ?_;have e:(!((x.u:Int)==(y.u:Int) && ((x.s:Int)==(y.s:Int) && ((x.i:Int)==(y.i:Int) && (x.n==y.n && true)))))=decide (x≠y):=by
  obtain ⟨a,b,c,s⟩:=x;obtain ⟨a',b',c',s'⟩:=y;rw [Bool.eq_iff_iff];simp only [tJ,Bool.not_eq_true',Bool.and_true,decide_eq_true_eq,ne_eq,Lb.mk.injEq,Bool.and_eq_false_iff,beq_eq_false_iff_ne,decide_eq_false_iff_not,Int.natCast_inj]
  by_cases h1:a=a' <;> by_cases h2:b=b' <;> by_cases h3:c=c' <;> by_cases h4:s=s' <;> simp [h1,h2,h3,h4]
 rw [UA,e];exact hk
theorem EL.vw {h:Hp} {b:Nat} {s:bY} {ws:List (bY × cz)} (o:EL h b s ws) (hl:ws.length<=2^60) (hx:∀ x,x∈ws.map (·.2)->x.name.size<=maxLen/\Sm x.inst.op/\x.e.ai.length<=2^60/\∀ t,t∈x.e.ai->t.1.size<=maxLen):Am h s.p s.l (ws.map (·.2)) :=
 ⟨by have:=o.out.1; rw [Wr] at this ⊢; exact this,by rw [Wr]; exact hl,fun i hi=>by
  rw [Wr] at hi;obtain ⟨a,ha,hc⟩:=o.out.cells (i:=i) (by simpa using hi);rw [Wy] at hc;rw [Wy];have h1:=hx ws[i].2 (WL (WA hi));exact ⟨a,_,_,_,ha,hc,⟨wo (o.eY _ (WA hi)),h1.2.2.1,h1.2.2.2⟩,h1.1,h1.2.1⟩⟩
section
variable {L:Lp} {K:YB->Hp->Prop}
end
def iD (us:List bP):Nat:=(us.map fun u=>eu u.text).sum
theorem Jj (us:List bP) (h:∀ u,u∈us->u.text.length<=2^20):iD us<=us.length*2^20:=by
 induction us with
 | nil=>simp [iD]
 | cons u us ih =>
  have h1:=h u aj;have h2:=ih fun v hv=>h v (WN _ hv)
  have h3:=rc u.text;unfold iD at h2 ⊢;rw [Xf,XM,Xi,Nat.succ_mul];omega
theorem xH (us:List bP) (u:bP):iD (us++[u])=iD us+eu u.text:=by unfold iD; simp
theorem GL {h:Hp} {g:Nat} {su lb st sd:bY} {L:List Lb} (s:Bq h g su lb st sd L) {us:List bP} (v:sT h su.p su.l us) (sz:Dd us) :
  HC Tryz.prog 32 #[.pointer (some ⟨g,0,none⟩)] h fun w h'=>w=.int .i64 ((iD us:Nat):Int)/\Ext h h':=by
 refine aZ (args:=[.pointer (some ⟨g,0,none⟩)]) mixed Tryz.func32 az (gZ (some ⟨g,0,none⟩)) ?_;unfold eH aX bh bm aH cn bj aM;have hmany:=sz.many;have hul:=v.len;refine aR (cs:=[(false,[.int .i64]),(false,[.int .i64])]) (fun y k h'=>∃ i:Nat,y.1=((iD (us.take i):Nat):Int)/\y.2.1=(i:Int)/\k=us.length-i/\i<=us.length/\Ext h h') ((0:Int),(0:Int),()) us.length rfl
  ⟨0,rfl,rfl,rfl,ad,Ch.refl _ _⟩ ?_
 rintro ⟨n1,n2,⟨⟩⟩ k h1 ⟨i,hs,hi,rfl,hle,e1⟩;simp only at hs hi;subst hs hi;refine an ?_;have s1:=s.ao e1;refine av rfl ?_;refine af s1.box ((su.p,su.l,su.c),()) rfl ?_;refine an ?_;refine ak (fun q=>?_) (fun q=>?_)
 ·have q:=Ws q;have hil:i<us.length:=ad
  have htk:us.take (i+1)=us.take i++[us[i]]:=Wx hil;have hb:=Jj (us.take (i+1)) fun u hu=>sz.text u (Xx hu)
  rw [htk,xH,Wv,WO] at hb;have hbb:iD (us.take i)+eu us[i].text<=2^20*2^20:=Xw hb (Xo _ (by simp; omega));obtain ⟨au,sa,sb,sc,sd',hau,hcu,va⟩:=(v.ao e1).cells i hil;refine av rfl ?_;refine af s1.box ((su.p,su.l,su.c),()) rfl ?_;refine an ?_;refine ay ⟨ad,ad⟩ (av hau ?_);rw [show Int.toNat (i:Int)=i from ad];refine ax ((sa.p,sa.l,sa.c),(sb.p,sb.l,sb.c),(sc.p,sc.l,sc.c),(sd'.p,sd'.l,sd'.c),()) hcu ?_;refine an ?_;refine aI (FR va) ?_;rintro _ h2 ⟨rfl,e2⟩;refine ⟨(((eu us[i].text:Nat):Int),()),rfl,?_⟩;refine an ?_;have hw1:IntKind.wrap .i64 (((iD (us.take i):Nat):Int)+((eu us[i].text:Nat):Int))=((iD (us.take (i+1)):Nat):Int):=by
   rw [htk,xH,wrap_i64 ad ad];omega
  have hw2:IntKind.wrap .i64 ((i:Int)+1)=((i+1:Nat):Int):=by rw [wrap_i64 ad ad]; omega
  exact aF (cs:=[(false,[.int .i64]),(false,[.int .i64])]) (((iD (us.take (i+1)):Nat):Int),((i+1:Nat):Int),()) (us.length-(i+1)) rfl ad (by rw [hw1,hw2]; rfl) ⟨i+1,rfl,rfl,rfl,ad,e1.trans e2⟩
 ·have q:=Wt q
  have:i=us.length:=ad
  subst this;rw [Xd];exact ⟨rfl,e1⟩
section
variable {h0 h h':Hp} {us:List bP} {su:bY} {P:LP} {B:Nat} {usl lb:bY} {S:Nat->kw} {g b':Nat} {lb2 st sd:bY} {tw dw:List (bY × List (bY × cz))}
theorem ni.ext (b:ni h0 h us su P B usl lb S g b' lb2 st sd tw dw) (e:Ext h h'):ni h0 h' us su P B usl lb S g b' lb2 st sd tw dw :=
 ⟨b.le,b.pg.ext e,b.TV,b.sz,b.pr.ao e,b.tx.ext e,b.dx.ext e,b.ti,b.di⟩
def xL (u:bP) (j:Nat):List cz:=if j=0 then u.text else u.data
theorem ni.sec (b:ni h0 h us su P B usl lb S g b' lb2 st sd tw dw) {n j:Nat} (hn:n<us.length) (hj:j<2):(S (2*n+j)).ws.map (·.2)=(xL us[n] j).map (P.fj n):=by
 unfold xL
 by_cases h:j=0
 ·rw [WC h,h]; exact (b.TV n hn).1
 ·rw [Ww h,show j=1 from ad]; exact (b.TV n hn).2
theorem ni.item (b:ni h0 h us su P B usl lb S g b' lb2 st sd tw dw) {n j:Nat} (hn:n<us.length) (hj:j<2):sW S us.length (n:Int) (j:Int)=(xL us[n] j).map (P.fj n):=by
 unfold sW;rw [WC ⟨ad,ad,ad⟩];rw [show ((n:Int)).toNat=n from ad,show ((j:Int)).toNat=j from ad];exact b.sec hn hj
theorem ni.ok (b:ni h0 h us su P B usl lb S g b' lb2 st sd tw dw) {hv:Hp} {p:Option YC} {l:Nat} (v:sT hv p l us) {n j:Nat} (hn:n<us.length) (hj:j<2):∀ x,x∈(xL us[n] j).map (P.fj n)->x.name.size<=maxLen/\Sm x.inst.op/\x.e.ai.length<=2^60/\∀ t,t∈x.e.ai->t.1.size<=maxLen:=by
 intro x hx;obtain ⟨y,hy,rfl⟩:=Wz.1 hx;have hz:=b.sz (2*n+j) ad;rw [<- b.sec hn hj] at hx;obtain ⟨w,hw,he⟩:=Wz.1 hx;have h1:=hz.U0 w hw;have h2:=hz.sz w hw;rw [he] at h1 h2;obtain ⟨a,sa,sb,sc,sd',ha,hc,va⟩:=v.cells n hn;have hi:lA hv none 0 y\/(y.name.size<=maxLen/\Sm y.inst.op):=by
  right
  have key:∀ {q:Option YC} {m:Nat} {xs:List cz},Am hv q m xs->y∈xs->y.name.size<=maxLen/\Sm y.inst.op:=by
   intro q m xs vx hm;obtain ⟨i,hi,rfl⟩:=WS hm;obtain ⟨_,_,_,_,_,_,it⟩:=vx.cells i hi;exact ⟨it.name,it.op⟩
  unfold xL at hy
  by_cases h:j=0
  ·rw [WC h] at hy; exact key va.text hy
  ·rw [Ww h] at hy; exact key va.data hy
 have hi:y.name.size<=maxLen/\Sm y.inst.op:=hi.elim (fun it=>⟨it.name,it.op⟩) id;exact ⟨hi.1,hi.2,ad,h2⟩
theorem ni.many (b:ni h0 h us su P B usl lb S g b' lb2 st sd tw dw) {n j:Nat} (hn:n<us.length) (hj:j<2):(xL us[n] j).length<=2^30:=by
 have h1:=(b.sz (2*n+j) ad).len;have h2:=WJ List.length (b.sec hn hj);rw [Wr,Wr] at h2;omega
theorem ni.VK (b:ni h0 h us su P B usl lb S g b' lb2 st sd tw dw) {hv:Hp} {p:Option YC} {l:Nat} (v:sT hv p l us) {n j:Nat} (hn:n<us.length) (hj:j<2) :
  ∃ (a:YC) (t:bY),(if j=0 then st else sd).p=some a/\(if j=0 then st else sd).l=us.length/\aG h (a.add (n*1)) 0 [t.v]/\Am h t.p t.l ((xL us[n] j).map (P.fj n)):=by
 have key:∀ {s:bY} {w:List (bY × List (bY × cz))} {F:bP->List cz},tQ h b' s w->H2 us P F w->F us[n]=xL us[n] j->∃ (a:YC) (t:bY),s.p=some a/\s.l=us.length/\aG h (a.add (n*1)) 0 [t.v]/\Am h t.p t.l ((xL us[n] j).map (P.fj n)):=by
  intro s w F tr d hF;have hw:n<w.length:=by rw [d.1]; exact hn
  obtain ⟨a,ha,hc⟩:=SL.cells tr.sl (i:=n) (by rw [Wr]; exact hw);rw [Wy] at hc;have hl:s.l=w.length:=by have:=tr.sl.1; rwa [Wr] at this
  have hin:=tr.eY _ (WA hw);have hd:=d.2 n us[n] w[n] (Wu hn) (Wu hw);rw [hF] at hd;refine ⟨a,w[n].1,ha,by rw [hl,d.1],hc,?_⟩;have o:EL h b' w[n].1 w[n].2:=⟨hin.sl,hin.own⟩
  have hm:=b.many hn hj;have hlen:w[n].2.length<=2^60:=by
   have:=WJ List.length hd
   rw [Wr,Wr] at this;omega
  have:=o.vw hlen (by rw [hd]; exact b.ok v hn hj)
  rwa [hd] at this
 by_cases h:j=0
 ·subst h;exact key b.tx b.ti rfl
 ·have:j=1:=ad
  subst this;exact key b.dx b.di rfl
theorem ni.out (b:ni h0 h us su P B usl lb S g b' lb2 st sd tw dw) (h64:us.length<=2^20) {hv:Hp} {p:Option YC} {l:Nat} (v:sT hv p l us) {n j:Nat} (hn:n<us.length) (hj:j<2) :
  HC Tryz.prog 17 #[ptr (B+3),.int .i64 (n:Int),.int .i64 (j:Int)] h fun w h'=>Ext h h'/\∃ t ws,w=bY.v t/\EL h' h.size t ws/\ws.map (·.2)=(xL us[n] j).map (P.fj n)/\Am h' t.p t.l ((xL us[n] j).map (P.fj n)):=by
 have hit:=LN b.pg (WH _) ad (fun k hk=>⟨(b.sz k hk).len,(b.sz k hk).U0⟩) n j ad;rw [b.item hn hj] at hit;refine HC.mono hit fun w h' hr=>?_
 obtain ⟨e,t,ws,hw,o,hm⟩:=hr;refine ⟨e,t,ws,hw,o,hm,?_⟩;have hmn:=b.many hn hj;have hlen:ws.length<=2^60:=by
  have:=WJ List.length hm
  rw [Wr,Wr] at this;omega
 have:=o.vw hlen (by rw [hm]; exact b.ok v hn hj)
 rwa [hm] at this
end
def Vb (p2 p3 p16 : Option YC) (l17 : Nat) (n22 : Int) (b21 : Bool) : T :=
        (T.loop [(false, [.bool]), (false, [.int .i64])] [.bool b21, .int .i64 (0 : Int)] <| fun (b47 : Bool) (n48 : Int) =>
        cond (decide (n48 < (l17 : Int)))
          (cond (decide (n48 < (40 : Int)))
           (T.need (((0 : Int) <= n48) /\ (n48 < (l17 : Int))) <|
           T.bd p16 <| fun (a49 : YC) =>
           T.ah (a49.add ((Int.toNat n48) * 1)) [.string] <| fun (s50 : YA) =>
           bF 30 [.pointer p2, .int .i64 n22, .string s50] true [(false, [.int .i64]), (false, [.bool])] <| fun (n51 : Int) (b52 : Bool) =>
           T.need (((0 : Int) <= n48) /\ (n48 < (l17 : Int))) <|
           T.bd p16 <| fun (a53 : YC) =>
           T.ah (a53.add ((Int.toNat n48) * 1)) [.string] <| fun (s54 : YA) =>
           bF 33 [.pointer p3, .int .i64 n22, .string s54] false [(false, [.int .i64])] <| fun (n55 : Int) =>
           cond (!(b52 == (decide (n55 >= (0 : Int)))))
            bo
            (cond b52
             (cond (n51 != n55)
              bo
              (cond (!b52)
               (cond (n51 != (0 : Int))
                bo
                (T.again 2 [.bool b47, .int .i64 (bj (n48 + (1 : Int)))]))
               (T.again 2 [.bool b47, .int .i64 (bj (n48 + (1 : Int)))])))
             (cond (!b52)
              (cond (n51 != (0 : Int))
               bo
               (T.again 2 [.bool b47, .int .i64 (bj (n48 + (1 : Int)))]))
              (T.again 2 [.bool b47, .int .i64 (bj (n48 + (1 : Int)))]))))
           (T.again 1 [.bool b47, .int .i64 (bj (n22 + (1 : Int)))]))
          (T.again 1 [.bool b47, .int .i64 (bj (n22 + (1 : Int)))]))
theorem Sj {J0 J1:List YB->Hp->Prop} {K:YB->Hp->Prop} {h0 h:Hp} {us:List bP} {su:bY} {P:LP} {B:Nat} {usl lb:bY} {S:Nat->kw} {g b':Nat} {lb2 st sd:bY} {tw dw:List (bY × List (bY × cz))}
  (b:ni h0 h us su P B usl lb S g b' lb2 st sd tw dw) (A:mU us P.w) (h64:us.length<=64) (v:sT h su.p su.l us) (sz:Dd us) (hL:(bt 0 us).length<=2^40) {p16:Option YC} {l17:Nat} {xs:List YA} (vx:FI h p16 l17 xs) {n:Nat} (hn:n<us.length) (b21:Bool)
  (hk:∀ h' b',Ext h h'->T.again 1 [.bool b',.int .i64 (IntKind.wrap .i64 ((n:Int)+1))] [J0,J1] K h'):Vb (some ⟨B+3,0,none⟩) (some ⟨g,0,none⟩) p16 l17 (n:Int) b21 [J0,J1] K h:=by
 unfold Vb bF bj bo;have hxl:=vx.len;have hxm:=vx.many;refine aR (cs:=[(false,[.bool]),(false,[.int .i64])]) (fun y k h'=>∃ i:Nat,y.2.1=(i:Int)/\k=xs.length-i/\i<=xs.length/\Ext h h') (b21,(0:Int),()) xs.length rfl
  ⟨0,rfl,rfl,ad,Ch.refl _ _⟩ ?_
 rintro ⟨b47,n48,⟨⟩⟩ k h1 ⟨i,hi,rfl,hle,e1⟩;simp only at hi;subst hi;refine an ?_;have hw:IntKind.wrap .i64 ((i:Int)+1)=((i+1:Nat):Int):=by rw [wrap_i64 ad ad]; omega
 have hout:∀ h' b',Ext h h'->T.again 1 [.bool b',.int .i64 (IntKind.wrap .i64 ((n:Int)+1))] ([J0,J1]++[Jl (cs:=[(false,[.bool]),(false,[.int .i64])]) (fun y k h'=>∃ i:Nat,y.2.1=(i:Int)/\k=xs.length-i/\i<=xs.length/\Ext h h') (xs.length-i)]) K h':=fun h' b' e=>hk h' b' e
 refine ak (fun q=>?_) (fun q=>?_)
 ·have q:=Ws q;have hil:i<xs.length:=ad
  refine ak (fun r=>?_) (fun r=>?_)
  ·obtain ⟨a,rfl,hc,hs⟩:=vx.cells i hil;have hcx:∀ {h':Hp},Ext h h'->aG h' (a.add (i*1)) 0 [.string xs[i]]:=fun e=>aQ e aj _ _ hc
   refine ay ⟨ad,ad⟩ (av rfl ?_);rw [show Int.toNat (i:Int)=i from ad];refine ax (xs[i],()) (hcx e1) ?_;refine an ?_;have b1:=b.ext e1;refine aI (O8 b1.pg ad (n:Int) xs[i] ad) ?_;rintro _ h2 ⟨e2,rfl⟩;have hf:xy P.w us.length (n:Int) xs[i]=zI us (bt 0 us) n xs[i]:=by
    unfold xy;rw [WC ⟨ad,ad⟩,show ((n:Int)).toNat=n from ad];exact A.find hn _
   rw [hf];generalize hr:zI us (bt 0 us) n xs[i]=r;refine ⟨((((r.getD 0:Nat)):Int),r.isSome,()),rfl,?_⟩;refine an ?_;refine ay ⟨ad,ad⟩ (av rfl ?_);refine ax (xs[i],()) (hcx (e1.trans e2)) ?_;refine an ?_;have e02:=e1.trans e2;refine aI (Jo (b.ext e02).pr (v.ao e02) sz hn hL xs[i]) ?_;rintro _ h3 ⟨rfl,e3⟩;rw [hr];refine ⟨(Ha r,()),rfl,?_⟩;refine an ?_;have hback:∀ b',T.again 2 [.bool b',.int .i64 (IntKind.wrap .i64 ((i:Int)+1))] ([J0,J1]++[Jl (cs:=[(false,[.bool]),(false,[.int .i64])]) (fun y k h'=>∃ i:Nat,y.2.1=(i:Int)/\k=xs.length-i/\i<=xs.length/\Ext h h') (xs.length-i)]) K h3:=fun b' =>
    aF (cs:=[(false,[.bool]),(false,[.int .i64])]) (b',((i+1:Nat):Int),()) (xs.length-(i+1)) rfl ad (WJ (fun z=>[Value.bool b',Value.int .i64 z]) hw) ⟨i+1,rfl,rfl,ad,e02.trans e3⟩
   cases r with
   | none =>
    refine bM rfl ?_;refine bM rfl ?_;refine bX rfl ?_;refine bM rfl ?_;exact hback b47
   | some m =>
    have hge:decide (Ha (some m)>=0)=true:=WB (by show (m:Int)>=0; omega);refine bM (by rw [hge]; rfl) ?_;refine bX rfl ?_;refine bM (by show ((m:Int) != (m:Int))=false; simp) ?_;refine bM rfl ?_;exact hback b47
  ·exact hout _ _ e1
 ·exact hout _ _ e1
end Go.Sx.Lk
namespace Go.Sx.Cr
open Go.Proofs Go.MapKept Go.WideAt Go.WideMaps Go.Maps Go.RowKit Go.WideElems Go.Sort Go.Shelf
theorem GQ {h:Hp} {q b:Nat} {D:List (YA × YB)} {cs:Array YB} {e:TypeId} {f:Nat × Nat} (hq:h[q]?=some (.cells cs e f)) (hc:cs[0]?=some (.map (some b))) (m:eA h b D) (hl:D.length<=1024) :
  HC Tryz.prog 108 #[.func (.func 124) #[] #[.pointer (some ⟨q,0,none⟩)]] h fun v h'=>∃ ss:List (List UInt8),ss.Perm (D.map fun p=>p.1.data.toList)/\(v=.slice none 0 0↔ss=[])/\Ext h h' /\
   ss.length=((ss.mergeSort fun x y=>decide (x<=y)).map encStr).length /\
   ((v=.slice none 0 0/\ss.length=0)\/∃ g cap jh,v=.slice (some ⟨g,0,none⟩) ss.length cap/\h.size<=g/\h'[g]?=some (.cells jh 9 (0,0))/\ss.length<=cap/\cap<=maxLen/\jh.size=cap*1/\jh.toList.take (ss.length*1)=(ss.mergeSort fun x y=>decide (x<=y)).map encStr):=by
 intro W hW;subst hW;obtain ⟨D0,hown,hperm,hsize⟩:=eA.owns m (by unfold maxLen; omega);have ij:W.cell? ⟨q,0,none⟩=some (.map (some b)):=by
  unfold World.cell?;rw [hq];exact hc
 have hseq:SeqGives Fence.wide 2 Tryz.prog 124 #[.pointer (some ⟨q,0,none⟩)] encStr (fun ss=>ss.Perm (strKeys D0)) (Maps.size D0) W :=
  AnyZ.keys_gives (ρ:=Tryz.qA) { Tryz.BZ with } Fence.wide _ trivial rfl ad q b D.length D0 _ (eP hq) ij hown
 have hmax:Maps.size D0<=maxLen:=by rw [hsize]; unfold maxLen; omega
 have hbytes:Maps.size D0*16<=140737488355328:=by rw [hsize]; omega
 have:=AnyZ.sorted_in Tryz.Bf Fence.wide 5 trivial trivial trivial trivial rfl ad (Tryz.Di _) (enters_of Tryz.func123 az rfl) 124 #[.pointer (some ⟨q,0,none⟩)] trivial (enters_of Tryz.func124 az rfl) _ _ hmax hbytes _ hseq
 refine (callsIn_wide.1 this).mono fun e w' hr=>?_
 obtain ⟨v,ss,he,hp,hrow,hnil,hb⟩:=hr;obtain ⟨h1,h2⟩:=hrow;exact ⟨v,he,⟨hb.os,hb.tape,hb.output⟩,ss,hp.trans hperm,hnil,⟨hb.size,fun i hi _=>hb.block i hi⟩,by rw [h1]; simp,h2⟩
theorem wQ (x:YA):∀ l,(Cc x l).Perm (x::l)
 | []=>List.Perm.refl _
 | y::l=>by
  unfold Cc;split
  ·exact List.Perm.refl _
  ·exact ((wQ x l).cons y).trans (List.Perm.swap x y l)
theorem Ag:∀ l,(qL l).Perm l
 | []=>List.Perm.refl _
 | x::l=>(wQ x (qL l)).trans ((Ag l).cons x)
theorem xg (x:YA):∀ l:List YA,(l.Pairwise fun a b=>a.data.toList<=b.data.toList)->((Cc x l).Pairwise fun a b=>a.data.toList<=b.data.toList)
 | [],_=>by simp [Cc]
 | y::l,h=>by
  rw [XJ] at h;unfold Cc;rw [Proofs.bytesLess_eq]
  by_cases hlt:x.data.toList<y.data.toList
  ·rw [WB hlt];have hxy:x.data.toList<=y.data.toList:=List.le_of_lt hlt;refine XJ.2 ⟨fun b hb=>?_,XJ.2 h⟩;rcases WY.1 hb with rfl | hb
   ·exact hxy
   ·exact List.le_trans hxy (h.1 b hb)
  ·rw [WE hlt];refine XJ.2 ⟨fun b hb=>?_,xg x l h.2⟩;rcases WY.1 ((wQ x l).mem_iff.1 hb) with rfl | hb
   ·exact List.not_lt.1 hlt
   ·exact h.1 b hb
theorem uB:∀ l,(qL l).Pairwise fun a b=>a.data.toList<=b.data.toList
 | []=>List.Pairwise.nil
 | x::l=>xg x _ (uB l)
theorem Ga {ss:List (List UInt8)} {ks:List YA} (hp:ss.Perm (ks.map fun k=>k.data.toList)):(ss.mergeSort fun x y=>decide (x<=y)).map encStr=(qL ks).map Value.string:=by
 have h1:ss.mergeSort (fun x y=>decide (x<=y))=(qL ks).map fun k=>k.data.toList:=by
  have tr:∀ a b c:List UInt8,decide (a<=b)=true->decide (b<=c)=true->decide (a<=c)=true:=fun a b c h1 h2=>by simp only [decide_eq_true_eq] at *; exact List.le_trans h1 h2
  have to:∀ a b:List UInt8,(decide (a<=b) || decide (b<=a))=true:=fun a b=>by simp only [Bool.or_eq_true,decide_eq_true_eq]; exact List.le_total a b
  refine List.Perm.eq_of_pairwise (le:=fun a b=>decide (a<=b)=true) (fun a b _ _ h1 h2=>?_) (List.pairwise_mergeSort tr to ss) ?_ ((List.mergeSort_perm ss _).trans (hp.trans ((Ag ks).map _).symm))
  ·simp only [decide_eq_true_eq] at h1 h2;exact List.le_antisymm h1 h2
  ·rw [Xp];exact (uB ks).imp fun h=>by simpa using h
 rw [h1,WT];refine Xl fun k _=>?_
 show encStr k.data.toList=.string k;unfold encStr
 congr 1
noncomputable def Vx (tab:List YB):Cx:=⟨Tryz.prog,110,110,0,108,124,144,3,fun | 0=>some tab | _=>none⟩
theorem SO:Tryz.prog.cellsOf 9=1:=az
theorem S4 (tab:List YB):Ok (Vx tab) where
 kt k hk:=by
  have hk:(Nat.beq k 110 || Nat.beq k 110)=true:=hk;rw [Bool.or_eq_true] at hk;have e:k=110:=hk.elim WD WD;subst e;exact Ob.UZ
 ki k hk:=by cases (show false=true from hk)
 idx x n h K hk:=by
  show aP Tryz.prog (FO 144 #[.string x,.int .u8 n]) h K;refine D7 (e:=Extern.BytealgIndexByte.indexByte) Tryz.func144 QD QK Q0 Qz ?_;rw [qv];exact hk
 Ra h q b D cs e f hq hc m hl:=by
  show HC Tryz.prog 108 #[.func (.func 124) #[] #[.pointer (some ⟨q,0,none⟩)]] h _;refine HC.mono (GQ hq hc m hl) fun v h' hr=>?_
  obtain ⟨ss,hp,hnil,hext,hlen,hrow⟩:=hr;refine ⟨hext,?_⟩;have hsl:ss.length=D.length:=by rw [hp.length_eq]; simp
  cases D with
  | nil =>
   have:ss=[]:=Xr (by rw [hsl]; rfl)
   exact hnil.2 this
  | cons p D =>
   rcases hrow with ⟨_,h0⟩ | ⟨g,cap,jh,hv,hg,hcur,hle,hcap,hsz,htk⟩
   ·rw [hsl] at h0; simp at h0
   ·have hk:=Ga (ss:=ss) (ks:=(p::D).map (·.1)) (by rw [WT]; exact hp);rw [hk] at htk;refine ⟨g,jh.toList.drop ss.length,cap,hg,by rw [<- hsl]; exact hv,by unfold maxLen at hcap; omega,?_,by rw [<- hsl]; exact hle,?_⟩
    ·have h9:jh.toList.length=cap*1:=by rw [Xs]; exact hsz
     rw [show (Vx tab).P.cellsOf 9=1 from SO,Xu,h9,<- hsl]; omega
    ·unfold bC;rw [hcur,<- htk,Nat.mul_one,W8]
open Go.Proofs
def opsV:List YB:=Ob.kQ Ob.ug Ob.ub
noncomputable def cx:Cx:=Vx opsV
theorem Q9:Ok cx:=S4 opsV
theorem II:opsV.all (fo 9)=true:=az
theorem TY {h:Hp} (ht:∃ e f,h[0]?=some (.cells opsV.toArray e f)):∀ b c,cx.ro b=some c->b<cx.ng/\∃ cs e f,h[b]?=some (.cells cs e f)/\∀ (i:Nat) (v:YB),c[i]?=some v->cs[i]?=some v/\fo 9 v=true:=by
 obtain ⟨e,f,ht⟩:=ht;intro b c hb;cases b with
 | succ b=>cases (show none=some c from hb)
 | zero =>
  cases (show some opsV=some c from hb);refine ⟨show 0<3 from ad,opsV.toArray,e,f,ht,fun i v hv=>⟨by rw [X8]; exact hv,?_⟩⟩;exact W1.1 II v (Xh hv)
noncomputable def Qw:Code:=Tryz.f9.body.getD .skip
noncomputable def Wl:CS:=⟨qO cx.ng .nil,cx.ng⟩
theorem Kd:Tryz.f9.body=some Qw:=az
theorem Of:M3 cx (RH cx 60) Tryz.f9 (.bool true) Qw .nil Wl=true:=az
theorem E2 {h:Hp} (ht:∃ e f,h[0]?=some (.cells opsV.toArray e f)):HC Tryz.prog 9 #[] h fun v h'=>v=.bool true/\Ext h h' :=
 KR (C:=cx) Tryz.func9 Kd fun e' a er g=>PF Q9 mixed (PG Q9 mixed 60) rfl Of _ e' a h (J4 (TY ht)) er g
end Go.Sx.Cr
namespace Go.Sx.Lk
open Go.Proofs Go.Sx.Ob
def VU (ll00:Nat) (p2 p3 p16:Option YC) (l17:Nat) (b19:Bool):T :=
   (T.loop [bT,aM] [.bool b19,.int .i64 (0:Int)] <| fun (b21:Bool) (n22:Int) =>
   bm n22 ll00
    (T.bd p3 <| fun (a23:YC) =>
    T.ah (a23.add 2) [.slice 26] <| fun (p24:Option YC) (l25:Nat) (l26:Nat) =>
    T.need (((0:Int)<=n22)/\(n22<(l25:Int))) <|
    T.bd p24 <| fun (a27:YC) =>
    T.ah (a27.add (aH n22 1)) [.slice 64] <| fun (p28:Option YC) (l29:Nat) (l30:Nat) =>
    bF 17 [.pointer p2,.int .i64 n22,.int .i64 (0:Int)] false [(false,[.slice 64])] <| fun (p31:Option YC) (l32:Nat) (l33:Nat) =>
    T.aY [((a27.add (aH n22 1)),[.slice p28 l29 l30]),((a23.add 2),[.slice p24 l25 l26])] <|
    bF 15 [.slice p31 l32 l33,.slice p28 l29 l30] false [bT] <| fun (b34:Bool) =>
    T.aY [((a23.add 2),[.slice p24 l25 l26])] <|
    cond (!b34)
    bo
    (T.bd p3 <| fun (a35:YC) =>
    T.ah (a35.add 3) [.slice 26] <| fun (p36:Option YC) (l37:Nat) (l38:Nat) =>
    T.need (((0:Int)<=n22)/\(n22<(l37:Int))) <|
    T.bd p36 <| fun (a39:YC) =>
    T.ah (a39.add (aH n22 1)) [.slice 64] <| fun (p40:Option YC) (l41:Nat) (l42:Nat) =>
    bF 17 [.pointer p2,.int .i64 n22,.int .i64 (1:Int)] false [(false,[.slice 64])] <| fun (p43:Option YC) (l44:Nat) (l45:Nat) =>
    T.aY [((a39.add (aH n22 1)),[.slice p40 l41 l42]),((a35.add 3),[.slice p36 l37 l38]),((a27.add (aH n22 1)),[.slice p28 l29 l30]),((a23.add 2),[.slice p24 l25 l26])] <|
    bF 15 [.slice p43 l44 l45,.slice p40 l41 l42] false [bT] <| fun (b46:Bool) =>
    T.aY [((a35.add 3),[.slice p36 l37 l38]),((a27.add (aH n22 1)),[.slice p28 l29 l30]),((a23.add 2),[.slice p24 l25 l26])] <|
    cond (!b46)
     bo
     (Vb p2 p3 p16 l17 n22 b21)))
    (bF 9 [] false [bT] <| fun (b23:Bool) =>
    T.ret (.bool b23)))
section
variable {h0 h h':Hp} {us:List bP} {su:bY} {P:LP} {B:Nat} {usl lb:bY} {S:Nat->kw} {g b':Nat} {lb2 st sd:bY} {tw dw:List (bY × List (bY × cz))}
theorem Fe {L:Lp} {K:YB->Hp->Prop} (b:ni h0 h us su P B usl lb S g b' lb2 st sd tw dw) (h64:us.length<=64) (v:sT h su.p su.l us) {n j:Nat} (hn:n<us.length) (hj:j<2) {t:bY} (vt:Am h t.p t.l ((xL us[n] j).map (P.fj n)))
  {l1 l2:List (YC × List YB)} (st1:∀ h',Ext h h'->T.Al h' l1) (st2:∀ h',Ext h h'->T.Al h' l2) {k:Bool->T} (hk:∀ h',Ext h h'->k true L K h') :
  T.call Tryz.prog 17 [.pointer (some ⟨B+3,0,none⟩),.int .i64 (n:Int),.int .i64 (j:Int)] false [(false,[.slice 64])] (fun (p31:Option YC) (l32:Nat) (l33:Nat) =>
    T.aY l1 <|
    T.call Tryz.prog 15 [.slice p31 l32 l33,.slice t.p t.l t.c] false [(false,[.bool])] <| fun (b34:Bool) =>
    T.aY l2 <| k b34) L K h:=by
 refine aI (b.out ad v hn hj) ?_;rintro _ h1 ⟨e1,t1,ws,rfl,o,hm,v1⟩;refine ⟨((t1.p,t1.l,t1.c),()),rfl,?_⟩;refine an ?_;refine ⟨st1 h1 e1,?_⟩;refine aI (Cm (c:=t1.c) (d:=t.c) v1 (vt.ao e1)) ?_;rintro _ h2 ⟨q,rfl,hq,e2⟩;refine ⟨(q,()),rfl,?_⟩;refine an ?_;obtain rfl:q=true:=hq.2 rfl;exact ⟨st2 h2 (e1.trans e2),hk h2 (e1.trans e2)⟩
end
theorem SS {J0:List YB->Hp->Prop} {h0 h:Hp} {us:List bP} {su:bY} {P:LP} {B:Nat} {usl lb:bY} {S:Nat->kw} {g b':Nat} {lb2 st sd:bY} {tw dw:List (bY × List (bY × cz))}
  (tab:∃ e f,h0[0]?=some (.cells Cr.opsV.toArray e f)) (e0:Ext h0 h) (b:ni h0 h us su P B usl lb S g b' lb2 st sd tw dw) (A:mU us P.w) (h64:us.length<=64) (v:sT h su.p su.l us) (sz:Dd us) (hL:(bt 0 us).length<=2^40) {p16:Option YC} {l17:Nat} {xs:List YA} (vx:FI h p16 l17 xs) (b19:Bool) :
  VU us.length (some ⟨B+3,0,none⟩) (some ⟨g,0,none⟩) p16 l17 b19 [J0] (fun w h'=>w=.bool true/\Ext h0 h') h:=by
 unfold VU bm aH bF bo aM bT;refine aR (cs:=[(false,[.bool]),(false,[.int .i64])]) (fun y k h'=>∃ n:Nat,y.2.1=(n:Int)/\k=us.length-n/\n<=us.length/\Ext h h') (b19,(0:Int),()) us.length rfl
  ⟨0,rfl,rfl,ad,Ch.refl _ _⟩ ?_
 rintro ⟨b21,n22,⟨⟩⟩ k h1 ⟨n,hi,rfl,hle,e1⟩;simp only at hi;subst hi;refine an ?_;have hw:IntKind.wrap .i64 ((n:Int)+1)=((n+1:Nat):Int):=by rw [wrap_i64 ad ad]; omega
 refine ak (fun q=>?_) (fun q=>?_)
 ·have q:=Ws q;have hn:n<us.length:=ad
  have b1:=b.ext e1;have v1:=v.ao e1;obtain ⟨a,t,ha,hl,hc,vt⟩:=b1.VK v1 hn (j:=0) ad;obtain ⟨a2,t2,ha2,hl2,hc2,vt2⟩:=b1.VK v1 hn (j:=1) ad;simp only [if_true] at ha hl;simp only [show ¬ (1=0) from cg,if_false] at ha2 hl2;have c1:∀ {h':Hp},Ext h1 h'->aG h' (a.add (n*1)) 0 [t.v]:=fun e=>aQ e aj _ _ hc
  have c2:∀ {h':Hp},Ext h1 h'->aG h' (a2.add (n*1)) 0 [t2.v]:=fun e=>aQ e aj _ _ hc2
  have g2:∀ {h':Hp},Ext h1 h'->aG h' ⟨g,0+2,none⟩ 0 [st.v]:=fun e=>(b1.ext e).pr.box.cells _ rfl
  have g3:∀ {h':Hp},Ext h1 h'->aG h' ⟨g,0+3,none⟩ 0 [sd.v]:=fun e=>(b1.ext e).pr.box.cells _ rfl
  refine av rfl ?_;rw [aE];refine ax ((st.p,st.l,st.c),()) (g2 (Ch.refl _ _)) ?_;refine an ?_;refine ay ⟨ad,ad⟩ (av ha ?_);rw [show Int.toNat (n:Int)=n from ad];refine ax ((t.p,t.l,t.c),()) (c1 (Ch.refl _ _)) ?_;refine an ?_;refine Fe b1 h64 v1 hn (j:=0) ad vt ?_ ?_ ?_
  ·intro h' e; exact ⟨c1 e,g2 e,trivial⟩
  ·intro h' e; exact ⟨g2 e,trivial⟩
  intro h2 e2;refine bM rfl ?_;refine av rfl ?_;rw [aE];refine ax ((sd.p,sd.l,sd.c),()) (g3 e2) ?_;refine an ?_;refine ay ⟨ad,ad⟩ (av ha2 ?_);refine ax ((t2.p,t2.l,t2.c),()) (c2 e2) ?_;refine an ?_;refine Fe (b1.ext e2) h64 (v1.ao e2) hn (j:=1) ad (vt2.ao e2) ?_ ?_ ?_
  ·intro h' e; exact ⟨c2 (e2.trans e),g3 (e2.trans e),c1 (e2.trans e),g2 (e2.trans e),trivial⟩
  ·intro h' e; exact ⟨g3 (e2.trans e),c1 (e2.trans e),g2 (e2.trans e),trivial⟩
  intro h3 e3;refine bM rfl ?_;have e13:=e2.trans e3;have e03:=e1.trans e13;refine Sj (b1.ext e13) A h64 (v1.ao e13) sz hL (vx.ao e03) hn b21 ?_;intro h4 b'' e4;exact aF (cs:=[(false,[.bool]),(false,[.int .i64])]) (b'',((n+1:Nat):Int),()) (us.length-(n+1)) rfl ad (WJ (fun z=>[Value.bool b'',Value.int .i64 z]) hw) ⟨n+1,rfl,rfl,ad,e03.trans e4⟩
 ·have e01:=e0.trans e1;refine aI (Cr.E2 ?_) ?_
  ·obtain ⟨e,f,ht⟩:=tab;exact ⟨e,f,e01.get ht aj⟩
  ·rintro _ h2 ⟨rfl,e2⟩;exact ⟨(true,()),rfl,rfl,e01.trans e2⟩
end Go.Sx.Lk
