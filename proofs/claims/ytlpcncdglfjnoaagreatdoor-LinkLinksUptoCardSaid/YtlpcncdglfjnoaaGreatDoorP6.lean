/- Contracts over heaps, and plain laws, for the functions that the laws of chapter 9 call, part 6: LinkLinks over heaps. What is handed in, opened: structs, lists; over any progra Condition: as each statement says. -/
import Derived.Test.YtlpcncdglfjnoaaGreatDoorP5
import Derived.Test.YtlpcncdglfjnoaaGreatDoorRows
import Derived.ProofKit
import Derived.LaidMore
import Derived.LaidLaws
import Derived.OpenShut
import Derived.ChangeSame
import Derived.ChangeStays
import Derived.ChangeOld
import Derived.ChangeSlices
import Derived.ChangeMaps5
import Derived.JoinedCond
import Derived.Lib.LaidTab
import Derived.Stop.Joined
import Derived.Test.YtlpcncdglfjnoaaGreatDoorTie
import Derived.Test.YtlpcncdglfjnoaaGreatDoorCards
import Derived.SevenTiedAt
set_option linter.all false
set_option maxRecDepth 100000
set_option maxHeartbeats 4000000
namespace Go.Sx.Lk
open Go.Proofs Go.Sx.Ob
def I9 (xs:List YA):List (List YB):=xs.map fun s=>[Value.string s]
theorem M7 {h:Hp} {p:Option YC} {l:Nat} {xs:List YA} (v:FI h p l xs):Mf h p (I9 xs):=by
 cases p with
 | none =>
  cases xs with
  | nil=>rfl
  | cons x xs =>
   obtain ⟨a,ha,_⟩:=v.cells 0 aj;cases ha
 | some a =>
  have:=fM (h:=h) (a:=a) (sz:=1) (I9 xs) 0 (fun x hx=>by
   obtain ⟨s,_,rfl⟩:=Wz.1 hx;rfl) (fun i hi=>by
   unfold I9 at hi ⊢;rw [Wr] at hi;obtain ⟨a',ha,hc,_⟩:=v.cells i hi;cases ha;rw [Wy,Xa];exact hc)
  exact this
theorem PA (xs:List YA):∀ y,y∈I9 xs->y.length=1:=by
 intro y hy;obtain ⟨s,_,rfl⟩:=Wz.1 hy;rfl
theorem Th {h:Hp} {b:Nat} {e:TypeId} {p:Option YC} {l c:Nat} {xs:List YA} (s:SL h b e 1 p l c (I9 xs)) (hm:xs.length<=2^60) (hs:∀ x,x∈xs->x.size<=maxLen):FI h p l xs :=
 ⟨by have:=s.1; unfold I9 at this; rwa [Wr] at this,hm,fun i hi=>by
  obtain ⟨a,ha,hc⟩:=SL.cells s (i:=i) (by unfold I9; rw [Wr]; exact hi);unfold I9 at hc;rw [Wy] at hc;exact ⟨a,ha,hc,hs _ (WA hi)⟩⟩
theorem HM (s:YA):Instr.fill (fun j=>some (j*1,1)) ((Array.range (1*1)).map ((Value.string ⟨#[]⟩).cells[· % (Value.string ⟨#[]⟩).cells.size]!)) [(0,.string s)]=some ([.string s]:List YB).toArray:=az
theorem Dk:(Tryz.prog.info? 9).map (fun i=>(i.zero,i.size,i.bytes))=some (some (.string ⟨#[]⟩),1,16):=az
theorem Ae:Tryz.prog.underlying 28=some (.slice 9):=az
theorem Un {h:Hp} {L:Lp} {K:YB->Hp->Prop} {p:Option YC} {l d:Nat} {xs:List YA} (v:FI h p l xs) (hl:l<=2^30) {s:YA} (hs:s.size<=maxLen) {b:YC} (hc:aG h b 0 [.string s]) {k:Option YC->Nat->Nat->T}
  (hk:∀ p' c' h',FI h' p' (l+1) (xs++[s])->l+1<=c'->Ext h h'->k p' (l+1) c' L K h') :
  T.dW Tryz.prog (Builtin.append_ #[28,28] 28 #[.slice p l l,.slice (some b) 1 d]) false [(false,[.slice 0])] k L K h:=by
 obtain ⟨i,hi,hz,hsz,hby⟩:=kH Dk;refine cR ?_;have hlen:=v.len;refine D8 (xs:=I9 xs) (ys:=[[.string s]]) Ae hi hz (by rw [hsz]; rfl) (by unfold I9; rw [Wr]; exact hlen) (by rw [hsz]; exact PA xs) (M7 v) rfl ad (by rw [hsz]; intro y hy; rw [W4.1 hy]; rfl) (by simpa using hc) (by rw [hby]; omega) ad ?_;intro c' h' s' e';rw [hsz] at s';have hch:I9 xs++[[Value.string s]]=I9 (xs++[s]):=by unfold I9; rw [WG]; rfl
 rw [hch] at s';refine ⟨_,_,_,rfl,hk _ c' h' (Th s' (by rw [Wv,List.length_singleton]; omega) (fun x hx=>?_)) (SL.Cp s') e'⟩;rcases WV.1 hx with hx | hx
 ·obtain ⟨i,hi,rfl⟩:=WS hx;obtain ⟨_,_,_,hh⟩:=v.cells i hi;exact hh
 ·rw [W4.1 hx]; exact hs
theorem yO {n sec:Nat} {y:Lb}:∀ {l:List cz} {i:Nat},y∈lP n sec i l->∃ x,x∈l/\x.name=y.n
 | [],i,h=>by simp [lP] at h
 | x::l,i,h=>by
  rw [lP,WV] at h;rcases h with h | h
  ·split at h
   ·rw [W4.1 h];exact ⟨x,aj,rfl⟩
   ·simp at h
  ·obtain ⟨z,hz,e⟩:=yO h;exact ⟨z,WN _ hz,e⟩
theorem R4 {h:Hp} {p:Option YC} {l:Nat} {us:List bP} (v:sT h p l us):∀ x,x∈bt 0 us->x.n.size<=maxLen:=by
 have key:∀ (vs:List bP) (n:Nat),(∀ u,u∈vs->u∈us)->∀ x,x∈bt n vs->x.n.size<=maxLen:=by
  intro vs
  induction vs with
  | nil=>intro n _ x hx; simp [bt] at hx
  | cons u vs ih =>
   intro n hv x hx;rw [bt,WV] at hx;rcases hx with hx | hx
   ·obtain ⟨i,hi,rfl⟩:=WS (hv u aj);obtain ⟨a,sa,sb,sc,sd,ha,hc,va⟩:=v.cells i hi;have k1:∀ {q:Option YC} {m:Nat} {xs:List cz},Am h q m xs->∀ y,y∈xs->y.name.size<=maxLen:=by
     intro q m xs vx y hm;obtain ⟨i,hi,rfl⟩:=WS hm;obtain ⟨_,_,_,_,_,_,it⟩:=vx.cells i hi;exact it.name
    unfold Ce at hx;rw [WV] at hx;rcases hx with hx | hx
    ·obtain ⟨y,hy,e⟩:=yO hx;rw [<- e]; exact k1 va.text y hy
    ·obtain ⟨y,hy,e⟩:=yO hx;rw [<- e]; exact k1 va.data y hy
   ·exact ih (n+1) (fun w hw=>hv w (WN _ hw)) x hx
 exact key us 0 fun u hu=>hu
theorem Pa {h0 h:Hp} (tab:∃ e f,h0[0]?=some (.cells Cr.opsV.toArray e f)) (e0:Ext h0 h):HC Tryz.prog 9 #[] h fun v h'=>v=.bool true/\Ext h0 h':=by
 refine HC.mono (Cr.E2 ?_) fun v h' hr=>⟨hr.1,e0.trans hr.2⟩
 obtain ⟨e,f,ht⟩:=tab;exact ⟨e,f,e0.get ht aj⟩
theorem Kb {h:Hp} (pw:fY h) (tb0:An h) (tab:∃ e f,h[0]?=some (.cells Cr.opsV.toArray e f)) {su sn:bY} {us:List bP} {ns:List YA} (v:sT h su.p su.l us) (sm:Ho us) (vn:FI h sn.p sn.l ns) (hcn:sn.l<=sn.c) (hnl:ns.length<=2^20) :
  HC Tryz.prog 7 #[.slice su.p su.l su.c,.slice sn.p sn.l sn.c] h fun w h'=>w=.bool true/\Ext h h':=by
 refine aZ (args:=[.slice su.p su.l su.c,.slice sn.p sn.l sn.c]) mixed Tryz.func7 az (jW su.p su.l su.c sn.p sn.l sn.c) ?_;unfold fU aX bh bm aH aU cn bF dT bk bo aM bT da;refine aI (UI (su:=su) pw tb0 v sm) ?_;rintro w1 h1 ⟨e1,hq⟩;have fin0:∀ {L:Lp},(T.call Tryz.prog 9 [] false [(false,[.bool])] fun (b6:Bool)=>T.ret (.bool b6)) L (fun w h'=>w=.bool true/\Ext h h') h1:=by
  intro L;refine aI (Pa tab e1) ?_;rintro _ h2 ⟨rfl,e2⟩;exact ⟨(true,()),rfl,rfl,e2⟩
 by_cases hlg:sY us=true
 ·rw [WC hlg] at hq;refine ⟨(none,none,false,true,()),hq,?_⟩;refine an ?_;exact bX rfl (bX rfl fin0)
 rw [Ww hlg] at hq;have ag:=zO (us:=us) sm.num;cases hlp:kJ us with
 | error f =>
  rw [hlp] at hq;refine ⟨(none,none,false,true,()),hq,?_⟩;refine an ?_;exact bX rfl (bX rfl fin0)
 | ok P =>
 rw [hlp] at hq ag;obtain ⟨_,h64,_,_,A,_,_,_⟩:=ag;obtain ⟨B,usl,lb,S,g,b',lb2,st,sd,tw,dw,rfl,b⟩:=hq;have r:Ew us:=⟨A.right,h64⟩
 have sz:=Dd.of h64 A.right;have hLl:=r.dY;refine ⟨(some ⟨B+3,0,none⟩,some ⟨g,0,none⟩,true,true,()),rfl,?_⟩;refine an ?_;refine bM rfl ?_;have hlbw:P.w.lb=bt 0 us:=A.wi.lb;refine aI (rO b.pg (by rw [hlbw]; omega)) ?_;rintro _ h2 ⟨e2,p6,l7,c8,rfl,s2⟩;rw [hlbw] at s2;refine ⟨((p6,l7,c8),()),rfl,?_⟩;refine an ?_;have b2:=b.ext e2;have hul:=v.len;refine ic (Mk b2.pg) ?_;refine bM (by rw [hul]; simp) ?_;refine ic (CU b2.pg) ?_;have v2:=v.ao (e1.trans e2);refine aI (GL b2.pr v2 sz) ?_;rintro _ h3 ⟨rfl,e3⟩;refine ⟨(((iD us:Nat):Int),()),rfl,?_⟩;refine an ?_;refine bM (by rw [show lL us=iD us from rfl]; simp) ?_;have b3:=b2.ext e3;have s3:=s2.bG e3 aj;have e03:=(e1.trans e2).trans e3;have hl7:l7=(bt 0 us).length:=by have:=s2.1; rwa [Wr] at this
 have hl2:lb2.l=(bt 0 us).length:=by have:=b.pr.mV.1; rwa [Wr] at this
 have gc:∀ {h':Hp},Ext h3 h'->aG h' ⟨g,0+1,none⟩ 0 [lb2.v]:=fun e=>(b3.ext e).pr.box.cells _ rfl
 refine av rfl ?_;rw [aE];refine ax ((lb2.p,lb2.l,lb2.c),()) (gc (Ch.refl _ _)) ?_;refine an ?_;refine bM (by rw [hl7,hl2]; simp) ?_;refine aR (cs:=[(false,[.slice 0]),(false,[.bool]),(false,[.int .i64])]) (fun y k h'=>∃ i:Nat,y.2.2.1=(i:Int)/\k=(bt 0 us).length-i/\i<=(bt 0 us).length/\Ext h3 h'/\FI h' y.1.1 y.1.2.1 (ns++((bt 0 us).take i).map (·.n))/\y.1.2.1<=y.1.2.2) ((sn.p,sn.l,sn.c),false,(0:Int),()) (bt 0 us).length rfl
  ⟨0,rfl,rfl,ad,Ch.refl _ _,by simpa using vn.ao e03,hcn⟩ ?_
 rintro ⟨⟨p16,l17,c18⟩,b19,n20,⟨⟩⟩ k h4 ⟨i,hi,rfl,hle,e4,vx,hcx⟩;simp only at hi vx hcx;subst hi;refine an ?_;have hw:IntKind.wrap .i64 ((i:Int)+1)=((i+1:Nat):Int):=by rw [wrap_i64 ad ad]; omega
 refine ak (fun q=>?_) (fun q=>?_)
 ·have q:=Ws q;have hil:i<(bt 0 us).length:=ad
  obtain ⟨a1,ha1,hc1⟩:=SL.cells s3 (i:=i) (by rw [Wr]; exact hil);obtain ⟨a2,ha2,hc2⟩:=SL.cells b3.pr.mV (i:=i) (by rw [Wr]; exact hil);rw [Wy] at hc1 hc2;have hsz:=R4 v (bt 0 us)[i] (WA hil);have htk:(bt 0 us).take (i+1)=(bt 0 us).take i++[(bt 0 us)[i]]:=Wx hil;generalize (bt 0 us)[i]=x at hc1 hc2 hsz htk;have d1:∀ {h':Hp},Ext h3 h'->aG h' (a1.add (i*4)) 0 (wq x):=fun e=>aQ e aj _ _ hc1
  have d2:∀ {h':Hp},Ext h3 h'->aG h' (a2.add (i*4)) 0 (wq x):=fun e=>aQ e aj _ _ hc2
  have d13:∀ {h':Hp},Ext h3 h'->aG h' ((a1.add (i*4)).add 3) 0 [.string x.n]:=fun e=>⟨by rw [add_add]; exact (d1 e).2.2.2.1,trivial⟩
  have d20:∀ {h':Hp},Ext h3 h'->aG h' (a2.add (i*4)) 0 [.int .i64 (x.u:Int)]:=fun e=>⟨(d2 e).1,trivial⟩
  have d21:∀ {h':Hp},Ext h3 h'->aG h' ((a2.add (i*4)).add 1) 0 [.int .i64 (x.s:Int)]:=fun e=>⟨by rw [add_add]; exact (d2 e).2.1,trivial⟩
  have d22:∀ {h':Hp},Ext h3 h'->aG h' ((a2.add (i*4)).add 2) 0 [.int .i64 (x.i:Int)]:=fun e=>⟨by rw [add_add]; exact (d2 e).2.2.1,trivial⟩
  have d23:∀ {h':Hp},Ext h3 h'->aG h' ((a2.add (i*4)).add 3) 0 [.string x.n]:=fun e=>⟨by rw [add_add]; exact (d2 e).2.2.2.1,trivial⟩
  refine ay ⟨ad,ad⟩ (av ha1 ?_);rw [show Int.toNat (i:Int)=i from ad];refine ax ((x.u:Int),(x.s:Int),(x.i:Int),x.n,()) (d1 e4) ?_;refine an ?_;refine av rfl ?_;rw [aE];refine ax ((lb2.p,lb2.l,lb2.c),()) (gc e4) ?_;refine an ?_;refine ay ⟨ad,ad⟩ (av ha2 ?_);refine ax ((x.u:Int),()) (d20 e4) ?_;refine an ?_;refine av rfl ?_;rw [aE];refine ax ((lb2.p,lb2.l,lb2.c),()) (gc e4) ?_;refine an ?_;refine ay ⟨ad,ad⟩ (av ha2 ?_);refine ax ((x.s:Int),()) (d21 e4) ?_;refine an ?_;refine av rfl ?_;rw [aE];refine ax ((lb2.p,lb2.l,lb2.c),()) (gc e4) ?_;refine an ?_;refine ay ⟨ad,ad⟩ (av ha2 ?_);refine ax ((x.i:Int),()) (d22 e4) ?_;refine an ?_;refine av rfl ?_;rw [aE];refine ax ((lb2.p,lb2.l,lb2.c),()) (gc e4) ?_;refine an ?_;refine ay ⟨ad,ad⟩ (av ha2 ?_);refine ax (x.n,()) (d23 e4) ?_;refine an ?_;refine nW (fun K' hK=>SH _ _ x x _ _ hK) ?_;refine ⟨⟨d23 e4,gc e4,d22 e4,gc e4,d21 e4,gc e4,d20 e4,gc e4,trivial⟩,?_⟩;refine bM aj ?_;refine ay ⟨ad,ad⟩ (av ha1 ?_);refine ax (x.n,()) (d13 e4) ?_;refine an ?_;have hxl:=vx.len;rw [Wv,Wr,WO] at hxl
  have hnext:∀ (p':Option YC) (c':Nat) (h':Hp),FI h' p' (l17+1) (ns++((bt 0 us).take i).map (·.n)++[x.n])->l17+1<=c'->Ext h3 h' ->
    T.again 0 [.slice p' (l17+1) c',.bool b19,.int .i64 (IntKind.wrap .i64 ((i:Int)+1))] [Jl (cs:=[(false,[.slice 0]),(false,[.bool]),(false,[.int .i64])]) (fun y k h'=>∃ i:Nat,y.2.2.1=(i:Int)/\k=(bt 0 us).length-i/\i<=(bt 0 us).length/\Ext h3 h'/\FI h' y.1.1 y.1.2.1 (ns++((bt 0 us).take i).map (·.n))/\y.1.2.1<=y.1.2.2) ((bt 0 us).length-i)] (fun w h'=>w=.bool true/\Ext h h') h':=by
   intro p' c' h' vx' hc' e';refine aF (cs:=[(false,[.slice 0]),(false,[.bool]),(false,[.int .i64])]) ((p',l17+1,c'),b19,((i+1:Nat):Int),()) ((bt 0 us).length-(i+1)) rfl ad (WJ (fun z=>[Value.slice p' (l17+1) c',Value.bool b19,Value.int .i64 z]) hw) ⟨i+1,rfl,rfl,ad,e',?_,hc'⟩;rw [htk,WG,<- WU];exact vx'
  obtain ⟨ti,hti,_,_,_⟩:=kH Dk;refine ⟨?_,?_,trivial⟩
  ·refine cR (Ej Ae hti hcx _ ⟨p16,l17,l17,rfl,?_⟩);refine ⟨⟨d13 e4,trivial⟩,?_⟩;refine jX Ae Dk ad ad (HM x.n) ?_;intro h5 b5 e5 z5;refine Un (d:=1) (vx.ao e5) ad hsz (b5.cells _ rfl) ?_;intro p' c' h6 vx' hc' e6;exact ⟨⟨d13 ((e4.trans e5).trans e6),trivial⟩,hnext p' c' h6 vx' hc' ((e4.trans e5).trans e6)⟩
  ·refine jX Ae Dk ad ad (HM x.n) ?_;intro h5 b5 e5 z5;refine cR (Ej Ae hti hcx _ ⟨p16,l17,l17,rfl,?_⟩);refine ⟨⟨d13 (e4.trans e5),trivial⟩,?_⟩;refine Un (d:=1) (vx.ao e5) ad hsz (b5.cells _ rfl) ?_;intro p' c' h6 vx' hc' e6;exact ⟨⟨d13 ((e4.trans e5).trans e6),trivial⟩,hnext p' c' h6 vx' hc' ((e4.trans e5).trans e6)⟩
 ·rw [hul];exact SS tab (e03.trans e4) (b3.ext e4) A h64 (v2.ao (e3.trans e4)) sz ad vx b19
end Go.Sx.Lk
namespace Go.Sx.Ob
open Go.Proofs Go.Proofs.YtlpcncdglfjnoaaGreatDoor
open Go.ChangeShapes Go.WideShapes Go.ChangeAt Go.WideMaps Go.WideElems Go.RowKit
def tY (P:Program) (t:TypeId):Option (List (TypeId × Nat)):=(P.underlying t).bind fun d=>match d with | .struct fs=>some (fs.toList.map fun f=>(f.type,f.offset)) | _=>none
section
variable {H:Type} {enc:TypeId × YB->H} {P:Program} {W:World} {base fuel:Nat} {sp:Nat->Bool} {held:Bool} {t:TypeId} {cs:List YB} {y:DataW H × List MemPlace}
theorem fN {l:List (TypeId × Nat)} (hu:tY P t=some l) (h:DataW.trod enc P W base sp held fuel t cs=some y) :
  ∃ (xs:List (DataW H × List MemPlace)) (n:Nat),y.1=.agg (xs.map (·.1))/\cs.length=P.cellsOf t/\xs.length=l.length/\∀ (i:Nat) (p:TypeId × Nat),l[i]?=some p->∃ x,xs[i]?=some x/\DataW.trod enc P W base sp held n p.1 ((cs.drop p.2).take (P.cellsOf p.1))=some x:=by
 unfold tY at hu;cases hd:P.underlying t with
 | none=>rw [hd] at hu; cases hu
 | some d =>
  rw [hd] at hu;simp only [Option.bind_some] at hu;split at hu
  ·rename_i fs;simp only [Option.some.injEq] at hu;obtain ⟨xs,n,_,hy,hl,hlen,hf⟩:=DataW.trod_struct hd h;refine ⟨xs,n,by rw [hy],hl,by rw [<- hu,Wr,hlen,Xs],fun i p hp=>?_⟩;rw [<- hu,Xc,Yf] at hp;obtain ⟨f,hf1,rfl⟩:=hp;rw [XF] at hf1;have h1:=hf i f hf1;cases hx:xs[i]? with
   | none =>
    rw [List.getElem?_eq_none_iff] at hx
    have:i<fs.size:=by
     by_cases g:i<fs.size
     ·exact g
     ·rw [Xm ad] at hf1;cases hf1
    omega
   | some x=>rw [hx] at h1; exact ⟨x,rfl,h1⟩
  ·cases hu
theorem jj {h:Hp} {a:YC}:∀ (vs:List YB) (i:Nat),(∀ j,(hj:j<vs.length)->ij h (a.add (i+j))=some vs[j])->aG h a i vs
 | [],_,_=>trivial
 | v::vs,i,hh=>⟨by have:=hh 0 aj; rw [Yt] at this; exact this,jj vs (i+1) fun j hj=>by
  have:=hh (j+1) (by simpa using hj)
  rw [show i+1+j=i+(j+1) from ad];simpa using this⟩
theorem SI {a:YC} {n:Nat} (h:W.cells? base a n=some cs):cs.length=n/\aG W.heap a 0 cs:=by
 unfold World.cells? at h;split at h
 ·have hl:cs.length=n:=by simpa using Lib.mapM_length h
  refine ⟨hl,jj cs 0 fun j hj=>?_⟩;obtain ⟨b,hb,hf⟩:=Lib.mapM_at h j j (XE ad);rw [Wu hj] at hb;cases hb;rw [Xa,<- JM];exact hf
 ·cases h
theorem wY {α:Type} (Q:Nat->α->Prop):∀ n,(∀ i,i<n->∃ x,Q i x)->∃ l:List α,l.length=n/\∀ i (hi:i<l.length),Q i l[i]
 | 0,_=>⟨[],rfl,fun i hi=>by simp at hi⟩
 | n+1,h=>by
  obtain ⟨l,hl,hp⟩:=wY Q n (fun i hi=>h i ad);obtain ⟨x,hx⟩:=h n ad;refine ⟨l++[x],by simp [hl],fun i hi=>?_⟩
  by_cases hin:i<l.length
  ·rw [XN hin];exact hp i hin
  ·have hi':i=n:=by simp at hi; omega
   subst hi';rw [List.getElem_append_right ad];simpa using hx
theorem Kg {ds:List (DataW H)} {ks:List Nat} (hl:ds.length=ks.length) (h:∀ i,(hi:i<ks.length)->(hj:i<ds.length)->ks[i]=Rows.uptoBulk ds[i]):Rows.uptoBulkAll ds=ks.sum:=by
 induction ds generalizing ks with
 | nil =>
  cases ks with
  | nil=>rfl
  | cons k ks=>simp at hl
 | cons d ds ih =>
  cases ks with
  | nil=>simp at hl
  | cons k ks =>
   have h0:=h 0 aj aj;simp only [List.getElem_cons_zero] at h0
   have:=ih (ks:=ks) (by simpa using hl) (fun i hi hj=>h (i+1) (by simpa using hi) (by simpa using hj))
   unfold Rows.uptoBulkAll;rw [this,XM,h0]
structure C4 {α:Type} (Q:α->List YB->Nat->Prop) (h:Hp) (sz:Nat) (p:Option YC) (l c:Nat) (us:List α) (ks:List Nat):Prop where
 len:l=us.length
 Av:ks.length=us.length
 cells:∀ i,(hi:i<us.length)->(hk:i<ks.length)->∃ a cs,p=some a/\aG h (a.add (i*sz)) 0 cs/\Q us[i] cs ks[i]
 cap:l<=c
 O6:c<=maxLen
 nil:p=none->c=0
theorem open_slice {α:Type} {e:TypeId} {sz:Nat} (hu:P.underlying t=some (.slice e)) (hc:P.cellsOf e=sz) (Q:α->List YB->Nat->Prop)
  (hel:∀ (cs:List YB) (y:DataW H × List MemPlace) (n:Nat),DataW.trod enc P W base sp held n e cs=some y->∃ x:α,Q x cs (Rows.uptoBulk y.1))
  (h:DataW.trod enc P W base sp held fuel t cs=some y) :
  ∃ (p:Option YC) (l c:Nat) (us:List α) (ks:List Nat),cs=[.slice p l c]/\C4 Q W.heap sz p l c us ks/\ks.sum+1<=Rows.uptoBulk y.1:=by
 rcases DataW.trod_slice hu h with ⟨e0,hy0⟩ | ⟨a,len,cap,elems,rest,n,_,e0,hy0,hbase,hlc,hcm,hlen,hev,_,_⟩
 ·refine ⟨none,0,0,[],[],e0,⟨rfl,rfl,fun i hi=>by simp at hi,WH _,Yl _,fun _=>rfl⟩,?_⟩;rw [hy0];simp only [Rows.uptoBulk];decide
 ·have each:∀ i,i<len->∃ x:α × Nat,∃ cs',aG W.heap (a.add (i*sz)) 0 cs'/\Q x.1 cs' x.2/\∃ y,elems[i]?=some y/\x.2=Rows.uptoBulk y.1:=by
   intro i hi;have he:=hev i hi;cases hy:elems[i]? with
   | none=>rw [List.getElem?_eq_none_iff] at hy; omega
   | some y =>
    rw [hy,hc] at he;simp only [Option.bind_eq_some_iff] at he;obtain ⟨cs',hcs,htr⟩:=he;obtain ⟨hl,ij⟩:=SI hcs;obtain ⟨x,hx⟩:=hel _ _ _ htr;exact ⟨(x,Rows.uptoBulk y.1),cs',ij,hx,y,rfl,rfl⟩
  obtain ⟨xs,hxl,hxs⟩:=wY _ len each;refine ⟨some a,len,cap,xs.map (·.1),xs.map (·.2),e0,⟨by rw [Wr,hxl],by rw [Wr,Wr],fun i hi hk=>?_,hlc,hcm,fun h=>by cases h⟩,?_⟩
  ·rw [Wr] at hi;obtain ⟨cs',h1,h2,_⟩:=hxs i hi;rw [Wy,Wy];exact ⟨a,cs',rfl,h1,h2⟩
  ·have:=Kg (ds:=elems.map (·.1)) (ks:=xs.map (·.2)) (by rw [Wr,Wr,hlen,hxl]) (fun i hi hj=>by
    rw [Wr] at hi hj;obtain ⟨cs',_,_,y,hy,hk⟩:=hxs i hi;rw [Wu hj] at hy;rw [Wy,Wy,hk,WQ hy])
   rw [hy0];simp only [Rows.uptoBulk];rw [this];omega
end
theorem NT {P:Program} {f:FuncId} {args:Array YB} {W:World} {R:YB->Hp->Prop} (h:HC P f args W.heap R) (he:∀ v h',R v h'->Ext W.heap h'):Calls P f args W fun e w'=>∃ v,e=.returned v/\Below W.heap.size W w'/\R v w'.heap:=by
 refine (h W rfl).mono fun e w' ⟨v,hv,hs,hr⟩=>⟨v,hv,⟨hs.os,hs.tape,hs.output,(he v _ hr).size,fun k hk=>(he v _ hr).same k hk aj⟩,hr⟩
theorem Gw {W W':World} (hB:Below W.heap.size W W') {p:MemPlace} (hp:p.block<W.heap.size):W.sameAt W' p:=by
 cases p with
 | cell b off =>
  show W'.cell? _=W.cell? _;unfold World.cell?;rw [hB.block b hp]
 | map b=>exact hB.block b hp
theorem Vk:ownKnob Tryz.prog.godebug=none:=az
theorem u9:Tryz.prog.underlying 9=some .string:=az
theorem u4:Tryz.prog.underlying 4=some .bool:=az
theorem u3:Tryz.prog.underlying 3=some (.int .i64):=az
theorem u5:Tryz.prog.underlying 5=some (.int .u8):=az
theorem Vl:Tryz.prog.underlying 193=some (.array 43 165):=az
theorem Tv:Tryz.prog.cellsOf 165=3:=az
theorem Vp:Tryz.prog.cellsOf 193=129:=az
theorem c9:Tryz.prog.cellsOf 9=1:=az
theorem c5:Tryz.prog.cellsOf 5=1:=az
theorem c3:Tryz.prog.cellsOf 3=1:=az
theorem U':tY Tryz.prog 165=some [(9,0),(5,1),(3,2)]:=az
def Cu:List (DataW Unit):=match (Rows.laid_spandrel_isa_table:DataW Unit) with | .agg l=>l | _=>[]
def LL:DataW Unit->Int
 | .agg [_,_,.lit (.int _ n)]=>n
 | _=>0
theorem PY:(Rows.laid_spandrel_isa_table:DataW Unit)=.agg Cu:=az
theorem K1:Cu.map LL=(List.range 43).map fun k=>((nN.getD k 0:Nat):Int):=az
theorem EN {α β:Type} (f:α->List β) (m:Nat) (hf:∀ x,(f x).length=m):∀ l:List α,(l.flatMap f).length=l.length*m
 | []=>aj
 | x::l=>by rw [Xj,Wv,hf,EN f m hf l,Xi,Nat.succ_mul,Nat.add_comm]
theorem Cb (nm:Nat->YA) (by_:Nat->Int):(kQ nm by_).length=129:=by
 unfold kQ;rw [EN _ 3 (fun x=>rfl),XQ]
def RX:DataW Unit->List UInt8
 | .agg [.lit (.string s),_,_]=>s
 | _=>[]
def SM:DataW Unit->Int
 | .agg [_,.lit (.int _ n),_]=>n
 | _=>0
theorem OX:Cu.map RX=(List.range 43).map fun k=>VF k:=az
theorem PQ:Cu.map SM=(List.range 43).map fun k=>ub k:=az
theorem AW {enc:TypeId × YB->Unit} {W:World} {base fuel:Nat} {sp:Nat->Bool} {held:Bool} {cs:List YB} {p:List MemPlace}
  (h:DataW.trod enc Tryz.prog W base sp held fuel 193 cs=some (Rows.laid_spandrel_isa_table,p)):cs=kQ ug ub:=by
 obtain ⟨xs,m,_,hx,hl,hlen,hf⟩:=DataW.trod_array Vl h;rw [Vp] at hl;have hxs:xs.map (·.1)=Cu:=by
  have:=WJ Prod.fst hx
  rw [show (Rows.laid_spandrel_isa_table,p).1=DataW.agg Cu from PY] at this;simpa using this.symm
 have each:∀ i,i<43->(cs.drop (i*3)).take 3=[.string (ug i),.int .u8 (ub i),.int .i64 ((nN.getD i 0:Nat):Int)]:=by
  intro i hi;have h1:=hf i hi;rw [Tv] at h1;rw [Wu ad] at h1;obtain ⟨ys,n,hy,hyl,hyn,hys⟩:=fN U' h1;obtain ⟨y0,g0,t0⟩:=hys 0 _ rfl;obtain ⟨y1,g1,t1⟩:=hys 1 _ rfl;obtain ⟨y2,g2,t2⟩:=hys 2 _ rfl;rw [Tv] at hyl;generalize hc:(cs.drop (i*3)).take 3=c at *
  match c,hyl with
  | [v0,v1,v2],_ =>
   rw [show Tryz.prog.cellsOf (9,0).1=1 from c9] at t0;rw [show Tryz.prog.cellsOf (5,1).1=1 from c5] at t1;rw [show Tryz.prog.cellsOf (3,2).1=1 from c3] at t2;obtain ⟨s,e0,r0,_⟩:=DataW.trod_string u9 t0;obtain ⟨b,e1,r1,_⟩:=DataW.trod_int u5 t1;obtain ⟨k,e2,r2,_⟩:=DataW.trod_int u3 t2;cases e0; cases e1; cases e2;have hys3:ys=[y0,y1,y2]:=by
    apply XH;intro j
    match j with
    | 0=>exact g0
    | 1=>exact g1
    | 2=>exact g2
    | j+3=>rw [W2 (by rw [hyn]; simp),W2 aj]
   have h2:(xs.map (·.1))[i]?=some (xs[i]'ad).1:=by rw [Xc,Wu ad]; rfl
   rw [hxs] at h2;have hk:k=((nN.getD i 0:Nat):Int):=by
    have h3:(Cu.map LL)[i]?=some (LL (xs[i]'ad).1):=by rw [Xc,h2]; rfl
    rw [K1,Xc,XE hi] at h3;rw [hy,hys3,r0,r1,r2] at h3;exact (WQ h3).symm
   have hb:b=ub i:=by
    have h3:(Cu.map SM)[i]?=some (SM (xs[i]'ad).1):=by rw [Xc,h2]; rfl
    rw [PQ,Xc,XE hi] at h3;rw [hy,hys3,r0,r1,r2] at h3;exact (WQ h3).symm
   have hs:s=ug i:=by
    have h3:(Cu.map RX)[i]?=some (RX (xs[i]'ad).1):=by rw [Xc,h2]; rfl
    rw [OX,Xc,XE hi] at h3;rw [hy,hys3,r0,r1,r2] at h3;exact CF (WQ h3).symm
   rw [hk,hb,hs]
 apply XH;intro j
 by_cases hj:j<129
 ·obtain ⟨a,b,hab,hb⟩:∃ a b,j=a*3+b/\b<3:=⟨j / 3,j % 3,ad,ad⟩
  subst hab;unfold kQ;rw [vv (fun k=>[Value.string (ug k),.int .u8 (ub k),.int .i64 (nN.getD k 0:Nat)]) 3 (fun x=>rfl) _ a b hb,XE ad];show cs[a*3+b]?=[Value.string (ug a),.int .u8 (ub a),.int .i64 ((nN.getD a 0:Nat):Int)][b]?
  have:=each a ad
  rw [<- this,X7,WC hb,XV]
 ·have hr:(kQ ug ub).length=129:=Cb _ _;rw [W2 ad,W2 ad]
theorem CW {P:Program} {W:World} {name:String} {g:Nat} {cs:Array YB} (hg:P.globalNamed name=some g) (hv:W.var? P name=some cs):∃ e f,W.heap[g]?=some (.cells cs e f):=by
 unfold World.var? at hv;rw [hg] at hv;have hv:(match (W.heap[g]?:Option Obj) with | some (.cells cs _ _)=>some cs | _=>none)=some cs:=hv;split at hv
 ·rename_i cs' e f hh;cases hv;exact ⟨e,f,hh⟩
 ·cases hv
theorem Hk {W:World} (h:laidMetH Tryz.prog Rows.linkNumbersRow.laid W):An W.heap/\Go.Sx.fY W.heap:=by
 rw [MakeChecks.laidMetH_plain _ _ _ az] at h;obtain ⟨ps,⟨g0,t0,cs0,f0,p0,q0,hg0,ht0,hv0,hd0,⟨g1,t1,cs1,f1,p1,q1,hg1,ht1,hv1,hd1,⟨g2,t2,cs2,f2,p2,q2,hg2,ht2,hv2,hd2,⟨g3,t3,cs3,f3,p3,q3,hg3,ht3,hv3,hd3,_,_⟩,_⟩,_⟩,_⟩,_,_⟩:=h;obtain rfl:=WQ ((show Tryz.prog.globalNamed _=some 1 from az).symm.trans hg2);obtain rfl:=WQ ((show Tryz.prog.globalNamed _=some 0 from az).symm.trans hg3);have h2:(Tryz.prog.globals[1]?).map (·.type)=some 228:=az
 obtain rfl:=WQ (h2.symm.trans ht2);have h3:(Tryz.prog.globals[0]?).map (·.type)=some 193:=az
 obtain rfl:=WQ (h3.symm.trans ht3);have hc:=Lib.cells_of_tab (n:=20) (e:=207) (k:=.u64) (zs:=Lib.pow10Tab) az az az az hd2;have hr:=AW hd3;obtain ⟨e2,ff2,ho2⟩:=CW hg2 hv2;obtain ⟨e3,ff3,ho3⟩:=CW hg3 hv3;refine ⟨⟨ug,ub,e3,ff3,?_⟩,⟨e2,ff2,?_⟩⟩
 ·rw [ho3,<- hr]
 ·rw [ho2,<- hc]
theorem MO (os:Os) (args:Array YB):laidMetH Tryz.prog Rows.linkNumbersRow.laid ((World.doorLaid Tryz.prog 400 os).forCall (fun _ _=>0) ⟨#[],args,[]⟩).memory :=
 laidMetH_of_parts3 (fuel:=8) (laidMet_of_run' 8 az az) az az
theorem Ud:Kids Tryz.prog (·<Tryz.prog.types.size):=kids_rows az az
theorem sliceB:((List.range Tryz.prog.types.size).all fun t=>match Tryz.prog.underlying t with | some (.slice e)=>decide (0<Tryz.prog.cellsOf e) | _=>true)=true:=az
theorem Sk {t e:TypeId} (ht:t<Tryz.prog.types.size) (hu:Tryz.prog.underlying t=some (.slice e)):0<Tryz.prog.cellsOf e:=by
 have:=W1.1 sliceB t (X6.2 ht)
 rw [hu] at this;exact Ws this
theorem sr {H:Type} {enc:TypeId × YB->H} {W W':World} {sp:Nat->Bool} (hB:Below W.heap.size W W'):∀ {ts:List TypeId} {vs:List YB} {ds:List (DataW H)} {ps:List MemPlace},(∀ t∈ts,t<Tryz.prog.types.size) ->
  DataW.TrodAll enc Tryz.prog W 0 (fun _=>true) true ts vs ds ps->(∀ p∈ps,p.block<W.heap.size)->(∀ p∈ps,sp p.block=true)->DataW.TrodAll enc Tryz.prog W' 0 sp true ts vs ds ps
 | [],_,_,_,_,h,_,_=>by
  obtain ⟨rfl,rfl,rfl⟩:=trodAll_nil h;exact trodAll_mk0
 | t::ts,_,_,_,ht,h,hl,hs=>by
  obtain ⟨v,vs1,d,ds1,a,b,rfl,rfl,rfl,⟨n,h1⟩,h2⟩:=trodAll_cons h;exact ⟨a,b,⟨n,DataW.trod_stays Ud (fun h hu=>Sk h hu) (fun h=>by cases h) (ht t (XW ..)) h1 (fun p hp=>Gw hB (hl p (W3 _ hp))) (fun p hp=>hs p (W3 _ hp))⟩,
   sr hB (fun t h=>ht t (WN _ h)) h2 (fun p hp=>hl p (W5 _ hp)) (fun p hp=>hs p (W5 _ hp)),rfl⟩
theorem MA {H:Type} {enc:TypeId × YB->H} {f:Func} {s:ChangeSpec} {apart fresh handsOn:Bool} {W W':World} {args:Array YB} {v:YB} {ds gs:List (DataW H)} {before:List MemPlace} (hv0:s.vars=[])
  (hW:DataW.Whole enc Tryz.prog f.params.toList s.vars apart W args.toList ds gs before)
  (hres:∀ (b:Nat) (sp:Nat->Bool) (hd:Bool),DataW.TrodAll enc Tryz.prog W' b sp hd f.resultTypes.toList (v.resultList f.resultTypes.size) (s.fn H (ds++gs)).results [])
  (hargs:(s.fn H (ds++gs)).args=ds) (dU:(s.fn H (ds++gs)).vars=[]) (hts:∀ t∈f.params.toList,t<Tryz.prog.types.size) (hB:Below W.heap.size W W') :
  s.post enc Tryz.prog f apart fresh handsOn false W args v W':=by
 have hlt:=hW.lt;have hW':=hW;obtain ⟨p,q,hA,hV,rfl,hz,hn⟩:=hW;rw [hv0] at hV;obtain ⟨rfl,rfl⟩:=trodVars_none hV;rw [Xy] at hlt hW';refine ⟨ds,[],p,[],p,[],hW',hres _ _ _,?_,?_,hB.frame _,fun h=>by cases h⟩
 ·rw [hargs];exact sr hB hts hA hlt (fun p hp=>WB (hlt p hp))
 ·rw [dU,hv0] <;> rfl
theorem NC {H:Type} {enc:TypeId × YB->H} {a:Assume} {C:Checked} {os:Os} {f:FuncId} {fn:Func} {s:OpenSpec} {k:(H:Type)->List (DataW H)->Bool} (hk:s.cond=some k) {F:Stop.Interp} {conds:List PathCond} {apart fresh handsOn again:Bool} {X:World->Array YB->Prop}
  (hX:∀ (w w':World) (args:Array YB),w.heap=w'.heap->X w args->X w' args)
  (own:ownKnob C.prog.godebug=none) (started:os.Started) (noInit:C.prog.inits.idxOf? f=none) (hfn:C.prog.funcs[f]?=some fn)
  (witness:∃ (w:World) (tape:Tape) (i:Input),w.os=os/\(w.forCall tape i).Shaped C.prog/\i.vars=[]/\Input.okWide C.prog (w.forCall tape i) .any w.heap.size f i /\
   ((s.pre enc C.prog fn conds apart (w.forCall tape i).memory i.args/\X (w.forCall tape i).memory i.args)/\sizedMet enc C.prog fn s apart (w.forCall tape i).memory i.args)/\a.holds C.prog (lone (Frame.enter C.prog f i.args .normal) [] (w.forCall tape i)))
  (contract:∀ (W:World) (base:Nat) (args:Array YB) (ds gs:List (DataW H)) (before:List MemPlace),
   (∀ (j:Nat) t v,fn.params[j]?=some t->args[j]?=some v->Value.okWide C.prog W .any base t v) ->
   DataW.Whole enc C.prog fn.params.toList s.vars apart W args.toList ds gs before->k H (ds++gs)=true->X W args ->
   Calls C.prog f args W fun e W'=>∃ v,e=.returned v/\(s.at F).post enc C.prog fn apart fresh handsOn again W args v W') :
  ReturnsInHanded a C os f .any (fun w args=>(s.pre enc C.prog fn conds apart w args/\X w args)/\sizedMet enc C.prog fn s apart w args) ((s.at F).post enc C.prog fn apart fresh handsOn again):=by
 refine returnsInHanded_of_calls own started noInit witness ?_;intro w tape i _ _ _ hok hpre hholds;obtain ⟨_,_,_,fn',hfn',_,_,_,_,hval⟩:=hok;have e:fn'=fn:=WQ (hfn'.symm.trans hfn);subst e;obtain ⟨⟨hp,hx⟩,hz⟩:=hpre;obtain ⟨ds,gs,before,hw,hc,hkk⟩:=(OpenSpec.pre_some hk conds apart _ _).1 hp;have hw':=DataW.Whole.of_heap (w':=w.forCall tape i) (by rfl) hw;refine (contract (w.forCall tape i) w.heap.size i.args ds gs before hval hw' hkk (hX _ _ _ (by rfl) hx)).mono fun e W' ⟨v,he,hp⟩=>?_
 subst he;exact ChangeSpec.post_blind hp
theorem GI {H:Type} {enc:TypeId × YB->H} {C:Checked} {os:Os} {f:FuncId} {fn:Func} {s:OpenSpec} {k:(H:Type)->List (DataW H)->Bool} (hk:s.cond=some k) {apart:Bool} {X:World->Array YB->Prop} (w0:World) (args:Array YB) (fuel:Nat) (hos:w0.os=os)
  (hsh:(w0.forCall (fun _ _=>0) ⟨#[],args,[]⟩).Shaped C.prog)
  (hok:Input.okWideB C.prog (w0.forCall (fun _ _=>0) ⟨#[],args,[]⟩) f ⟨#[],args,[]⟩=true)
  {x:List (DataW H) × List (DataW H) × List MemPlace} (hx:DataW.whole enc C.prog (w0.forCall (fun _ _=>0) ⟨#[],args,[]⟩).memory fn.params.toList s.vars apart args.toList fuel=some x) (hkk:k H (x.1++x.2.1)=true)
  (hsz:s.bare.sizedB enc C.prog fn apart (w0.forCall (fun _ _=>0) ⟨#[],args,[]⟩).memory args fuel=true)
  (hX:X (w0.forCall (fun _ _=>0) ⟨#[],args,[]⟩).memory args) :
  ∃ (w:World) (tape:Tape) (i:Input),w.os=os/\(w.forCall tape i).Shaped C.prog/\i.vars=[]/\Input.okWide C.prog (w.forCall tape i) .any w.heap.size f i /\
   ((s.pre enc C.prog fn [] apart (w.forCall tape i).memory i.args/\X (w.forCall tape i).memory i.args)/\sizedMet enc C.prog fn s apart (w.forCall tape i).memory i.args)/\({}:Assume).holds C.prog (lone (Frame.enter C.prog f i.args .normal) [] (w.forCall tape i)) :=
 ⟨w0,fun _ _=>0,⟨#[],args,[]⟩,hos,hsh,(Input.okWide_of_okWideB (base:=0) hok).1,(Input.okWide_of_okWideB hok).2,
  ⟨⟨(OpenSpec.pre_some hk [] apart _ _).2 ⟨x.1,x.2.1,x.2.2,DataW.Whole_of_whole hx,rfl,hkk⟩,hX⟩,sizedMet_of_sizedB hsz⟩,by
  simp only [Assume.holds];exact ⟨aj,aj,aj,aj,aj⟩⟩
structure wu (x:bZ):Prop where
 Dq:∀ t,t∈x.ai->t.2<4294967296
 num:x.num<4294967296
structure Tc (u:bP):Prop where
 text:∀ x,x∈u.text->wu x.e
 data:∀ x,x∈u.data->wu x.e
 bf:∀ x,x∈u.bf->wu x.2
theorem VX:Tryz.prog.underlying 58=some (.int .u32):=az
theorem V8:Tryz.prog.underlying 21=some (.int .i32):=az
theorem Wm:Tryz.prog.underlying 57=some (.slice 66):=az
theorem V2:Tryz.prog.cellsOf 66=2:=az
theorem Vn:Tryz.prog.cellsOf 60=2:=az
theorem Wj:Tryz.prog.cellsOf 57=1:=az
theorem VM:Tryz.prog.cellsOf 58=1:=az
theorem Wb:Tryz.prog.cellsOf 21=1:=az
theorem V4:Tryz.prog.cellsOf 62=5:=az
theorem Vv:Tryz.prog.cellsOf 64=10:=az
theorem V5:Tryz.prog.cellsOf 88=3:=az
theorem VN:Tryz.prog.cellsOf 26=1:=az
theorem V6:Tryz.prog.cellsOf 27=1:=az
theorem Wc:Tryz.prog.cellsOf 28=1:=az
theorem VY:Tryz.prog.cellsOf 30=4:=az
theorem Vc:tY Tryz.prog 66=some [(9,0),(58,1)]:=az
theorem Wd:tY Tryz.prog 60=some [(57,0),(58,1)]:=az
theorem Wh:tY Tryz.prog 62=some [(3,0),(3,1),(3,2),(21,3),(3,4)]:=az
theorem VG:tY Tryz.prog 64=some [(3,0),(9,1),(62,2),(60,7),(3,9)]:=az
theorem T0:tY Tryz.prog 88=some [(9,0),(60,1)]:=az
theorem U4:tY Tryz.prog 30=some [(26,0),(26,1),(27,2),(28,3)]:=az
section
variable {H:Type} {enc:TypeId × YB->H} {W:World} {base n:Nat} {sp:Nat->Bool} {held:Bool} {cs:List YB} {y:DataW H × List MemPlace}
theorem NH {α:Type} {ys:List α} {a b:α} (hl:ys.length=2) (h0:ys[0]?=some a) (h1:ys[1]?=some b):ys=[a,b]:=by
 match ys,hl with
 | [x,y],_ =>
  simp only [List.getElem?_cons_zero,List.getElem?_cons_succ,Option.some.injEq] at h0 h1;subst h0 h1;rfl
def QT (t:YA × Nat) (cs:List YB) (k:Nat):Prop:=cs=cX t/\t.1.size<=maxLen/\t.2<4294967296/\k=t.1.size+3
theorem Jy (h:DataW.trod enc Tryz.prog W base sp held n 66 cs=some y):∃ t,QT t cs (Rows.uptoBulk y.1):=by
 obtain ⟨ys,m,hy,hl,hyn,hys⟩:=fN Vc h;obtain ⟨y0,g0,t0⟩:=hys 0 _ rfl;obtain ⟨y1,g1,t1⟩:=hys 1 _ rfl;have hys2:=NH hyn g0 g1;rw [V2] at hl
 match cs,hl with
 | [v,u],_ =>
  rw [show Tryz.prog.cellsOf (9,0).1=1 from c9] at t0;rw [show Tryz.prog.cellsOf (58,1).1=1 from VM] at t1;obtain ⟨s,e0,r0,hs⟩:=DataW.trod_string u9 t0;obtain ⟨k,e1,r1,hk⟩:=DataW.trod_int VX t1;have hb:=bounds_u32 hk;cases e0; cases e1;refine ⟨(s,k.toNat),?_,hs,by show k.toNat<_; omega,?_⟩
  ·unfold cX;simp only [List.cons.injEq,Value.int.injEq,true_and,and_true];omega
  ·rw [hy,hys2,r0,r1];simp only [List.map_cons,List.map_nil,Rows.uptoBulk,Rows.uptoBulkAll];rw [Xs];show s.data.size+1+(1+0)+1=s.data.size+3;omega
structure MT (h:Hp) (p:Option YC) (l c:Nat) (x:bZ) (k:Nat):Prop where
 vw:gp h p l x.ai
 names:∀ t,t∈x.ai->t.1.size<=maxLen
 num:wu x
 many:3*x.ai.length<=k
 size:(lO x).length<=2*k
 cap:l<=c
theorem yA:∀ (ts:cZ) (ks:List Nat),ks.length=ts.length->(∀ i,(hi:i<ts.length)->(hk:i<ks.length)->ks[i]=ts[i].1.size+3)->(ts.flatMap Ff).length=2*ks.sum-(ts.map (·.1.size)).sum/\(ts.map (·.1.size)).sum+3*ts.length=ks.sum
 | [],ks,hl,_=>by
  have:ks=[]:=X0.1 hl
  subst this
  simp
 | t::ts,[],hl,_=>by simp at hl
 | t::ts,k::ks,hl,h=>by
  have h0:=h 0 aj aj;simp only [List.getElem_cons_zero] at h0;obtain ⟨i1,i2⟩:=yA ts ks (by simpa using hl) (fun i hi hk=>h (i+1) (by simpa using hi) (by simpa using hk));have hw:(Ff t).length=t.1.size+6:=by
   unfold Ff iP;simp only [List.length_append,dk]
   have:t.1.data.toList.length=t.1.size:=aj
   omega
  rw [Xj,Wv,XM,Xf,XM,Xi,hw,i1];omega
theorem EH (h:DataW.trod enc Tryz.prog W base sp held n 60 cs=some y) :
  ∃ p l c x,cs=[.slice p l c,.int .u32 ((x:bZ).num:Int)]/\MT W.heap p l c x (Rows.uptoBulk y.1):=by
 obtain ⟨ys,m,hy,hl,hyn,hys⟩:=fN Wd h;obtain ⟨y0,g0,t0⟩:=hys 0 _ rfl;obtain ⟨y1,g1,t1⟩:=hys 1 _ rfl;have hys2:=NH hyn g0 g1;rw [Vn] at hl
 match cs,hl with
 | [v,u],_ =>
  rw [show Tryz.prog.cellsOf (57,0).1=1 from Wj] at t0;rw [show Tryz.prog.cellsOf (58,1).1=1 from VM] at t1;obtain ⟨p,l,c,us,ks,e0,ls,hsum⟩:=open_slice Wm V2 QT (fun cs y n h=>Jy h) t0;obtain ⟨k,e1,r1,hk⟩:=DataW.trod_int VX t1;have hb:=bounds_u32 hk;cases e0; cases e1;have hkk:((k.toNat:Nat):Int)=k:=ad
  have hbulk:Rows.uptoBulk y.1=Rows.uptoBulk y0.1+2:=by
   rw [hy,hys2,r1];simp only [List.map_cons,List.map_nil,Rows.uptoBulk,Rows.uptoBulkAll]
  have hq:∀ i,(hi:i<us.length)->(hk:i<ks.length)->us[i].1.size<=maxLen/\us[i].2<4294967296/\ks[i]=us[i].1.size+3:=by
   intro i hi hk;obtain ⟨a,cs,_,_,_,q2,q3,q4⟩:=ls.cells i hi hk;exact ⟨q2,q3,q4⟩
  have hkl:=ls.Av;obtain ⟨w1,w2⟩:=yA us ks hkl (fun i hi hk=>(hq i hi hk).2.2);refine ⟨p,l,c,⟨us,k.toNat⟩,by rw [show ((⟨us,k.toNat⟩:bZ).num:Int)=k from hkk],⟨ls.len,fun i hi=>?_⟩,?_,⟨?_,by show k.toNat<_; omega⟩,?_,?_,ls.cap⟩
  ·have hi:i<us.length:=hi;obtain ⟨a,cs,ha,hc,q1,_⟩:=ls.cells i hi ad;rw [q1] at hc;exact ⟨a,ha,hc⟩
  ·intro t (ht:t∈us);obtain ⟨i,hi,rfl⟩:=WS ht;exact (hq i hi ad).1
  ·intro t (ht:t∈us);obtain ⟨i,hi,rfl⟩:=WS ht;exact (hq i hi ad).2.1
  ·show 3*us.length<=_;omega
  ·show (tn us.length 2++(us.flatMap Ff++tn k.toNat 4)).length<=_;rw [Wv,Wv,dk,dk,w1];omega
theorem QF {α:Type} {ys:List α} {a b c d e:α} (hl:ys.length=5) (h0:ys[0]?=some a) (h1:ys[1]?=some b) (h2:ys[2]?=some c) (h3:ys[3]?=some d) (h4:ys[4]?=some e):ys=[a,b,c,d,e]:=by
 match ys,hl with
 | [x0,x1,x2,x3,x4],_ =>
  simp only [List.getElem?_cons_zero,List.getElem?_cons_succ,Option.some.injEq] at h0 h1 h2 h3 h4;subst h0 h1 h2 h3 h4;rfl
theorem Tx {α:Type} {ys:List α} {a b c d:α} (hl:ys.length=4) (h0:ys[0]?=some a) (h1:ys[1]?=some b) (h2:ys[2]?=some c) (h3:ys[3]?=some d):ys=[a,b,c,d]:=by
 match ys,hl with
 | [x0,x1,x2,x3],_ =>
  simp only [List.getElem?_cons_zero,List.getElem?_cons_succ,Option.some.injEq] at h0 h1 h2 h3;subst h0 h1 h2 h3;rfl
theorem Mb (h:DataW.trod enc Tryz.prog W base sp held n 62 cs=some y):∃ i:Ins,cs=nB i/\Sm i.op/\Rows.uptoBulk y.1=6:=by
 obtain ⟨ys,m,hy,hl,hyn,hys⟩:=fN Wh h;obtain ⟨y0,g0,t0⟩:=hys 0 _ rfl;obtain ⟨y1,g1,t1⟩:=hys 1 _ rfl;obtain ⟨y2,g2,t2⟩:=hys 2 _ rfl;obtain ⟨y3,g3,t3⟩:=hys 3 _ rfl;obtain ⟨y4,g4,t4⟩:=hys 4 _ rfl;have hys5:=QF hyn g0 g1 g2 g3 g4;rw [V4] at hl
 match cs,hl with
 | [v0,v1,v2,v3,v4],_ =>
  rw [show Tryz.prog.cellsOf (3,0).1=1 from c3] at t0;rw [show Tryz.prog.cellsOf (3,1).1=1 from c3] at t1;rw [show Tryz.prog.cellsOf (3,2).1=1 from c3] at t2;rw [show Tryz.prog.cellsOf (21,3).1=1 from Wb] at t3;rw [show Tryz.prog.cellsOf (3,4).1=1 from c3] at t4;obtain ⟨k0,e0,r0,w0⟩:=DataW.trod_int u3 t0;obtain ⟨k1,e1,r1,w1⟩:=DataW.trod_int u3 t1;obtain ⟨k2,e2,r2,w2⟩:=DataW.trod_int u3 t2;obtain ⟨k3,e3,r3,w3⟩:=DataW.trod_int V8 t3;obtain ⟨k4,e4,r4,w4⟩:=DataW.trod_int u3 t4;cases e0; cases e1; cases e2; cases e3; cases e4;refine ⟨⟨k0,k1,k2,k3,k4⟩,rfl,bounds_i64 w0,?_⟩;rw [hy,hys5,r0,r1,r2,r3,r4];simp only [List.map_cons,List.map_nil,Rows.uptoBulk,Rows.uptoBulkAll]
def QI (h:Hp) (x:cz) (cs:List YB) (k:Nat):Prop:=∃ p l c b,cs=encI p l c x/\MT h p l c x.e b/\x.name.size<=maxLen/\Sm x.inst.op/\k=x.name.size+b+10
theorem BO (h:DataW.trod enc Tryz.prog W base sp held n 64 cs=some y):∃ x,QI W.heap x cs (Rows.uptoBulk y.1):=by
 obtain ⟨ys,m,hy,hl,hyn,hys⟩:=fN VG h;obtain ⟨y0,g0,t0⟩:=hys 0 _ rfl;obtain ⟨y1,g1,t1⟩:=hys 1 _ rfl;obtain ⟨y2,g2,t2⟩:=hys 2 _ rfl;obtain ⟨y3,g3,t3⟩:=hys 3 _ rfl;obtain ⟨y4,g4,t4⟩:=hys 4 _ rfl;have hys5:=QF hyn g0 g1 g2 g3 g4;rw [Vv] at hl
 match cs,hl with
 | [v0,v1,v2,v3,v4,v5,v6,v7,v8,v9],_ =>
  rw [show Tryz.prog.cellsOf (3,0).1=1 from c3] at t0;rw [show Tryz.prog.cellsOf (9,1).1=1 from c9] at t1;rw [show Tryz.prog.cellsOf (62,2).1=5 from V4] at t2;rw [show Tryz.prog.cellsOf (60,7).1=2 from Vn] at t3;rw [show Tryz.prog.cellsOf (3,9).1=1 from c3] at t4;obtain ⟨k0,e0,r0,w0⟩:=DataW.trod_int u3 t0;obtain ⟨s,e1,r1,w1⟩:=DataW.trod_string u9 t1;obtain ⟨i,e2,w2,r2⟩:=Mb t2;obtain ⟨p,l,c,x,e3,lk⟩:=EH t3;obtain ⟨k4,e4,r4,w4⟩:=DataW.trod_int u3 t4;cases e0; cases e1; cases e2; cases e3; cases e4;refine ⟨⟨k0,s,i,x,k4⟩,p,l,c,_,rfl,lk,w1,w2,?_⟩;rw [hy,hys5,r0,r1,r4];simp only [List.map_cons,List.map_nil,Rows.uptoBulk,Rows.uptoBulkAll,r2];rw [Xs];show 1+(s.data.size+1+(6+(Rows.uptoBulk y3.1+(1+0))))+1=s.data.size+Rows.uptoBulk y3.1+10;omega
def QE (h:Hp) (x:qi) (cs:List YB) (k:Nat):Prop:=∃ p l c b,cs=RO p l c x/\MT h p l c x.2 b/\x.1.size<=maxLen/\k=x.1.size+b+2
theorem Mj (h:DataW.trod enc Tryz.prog W base sp held n 88 cs=some y):∃ x,QE W.heap x cs (Rows.uptoBulk y.1):=by
 obtain ⟨ys,m,hy,hl,hyn,hys⟩:=fN T0 h;obtain ⟨y0,g0,t0⟩:=hys 0 _ rfl;obtain ⟨y1,g1,t1⟩:=hys 1 _ rfl;have hys2:=NH hyn g0 g1;rw [V5] at hl
 match cs,hl with
 | [v0,v1,v2],_ =>
  rw [show Tryz.prog.cellsOf (9,0).1=1 from c9] at t0;rw [show Tryz.prog.cellsOf (60,1).1=2 from Vn] at t1;obtain ⟨s,e1,r1,w1⟩:=DataW.trod_string u9 t0;obtain ⟨p,l,c,x,e3,lk⟩:=EH t1;cases e1; cases e3;refine ⟨(s,x),p,l,c,_,rfl,lk,w1,?_⟩;rw [hy,hys2,r1];simp only [List.map_cons,List.map_nil,Rows.uptoBulk,Rows.uptoBulkAll];rw [Xs];show (s.data.size+1+(Rows.uptoBulk y1.1+0))+1=s.data.size+Rows.uptoBulk y1.1+2;omega
def QS (x:YA) (cs:List YB) (k:Nat):Prop:=cs=[.string x]/\x.size<=maxLen/\k=x.size+1
theorem EB (h:DataW.trod enc Tryz.prog W base sp held n 9 cs=some y):∃ x,QS x cs (Rows.uptoBulk y.1):=by
 obtain ⟨s,e1,r1,w1⟩:=DataW.trod_string u9 h;refine ⟨s,e1,w1,?_⟩;rw [r1];simp only [Rows.uptoBulk];rw [Xs] <;> rfl
theorem gC {α:Type} (f:α->Nat) (m:Nat):∀ (us:List α) (ks:List Nat),ks.length=us.length->(∀ i,(hi:i<us.length)->(hk:i<ks.length)->f us[i]<=m*ks[i])->(us.map f).sum<=m*ks.sum
 | [],ks,hl,_=>aj
 | u::us,[],hl,_=>by simp at hl
 | u::us,k::ks,hl,h=>by
  have h0:=h 0 aj aj;simp only [List.getElem_cons_zero] at h0;have ih:=gC f m us ks (by simpa using hl) (fun i hi hk=>h (i+1) (by simpa using hi) (by simpa using hk));rw [Xf,XM,XM,Nat.mul_add];omega
theorem Lr {h:Hp} {x:cz} {cs:List YB} {k:Nat} (q:QI h x cs k):(F2 x).length<=2*k:=by
 obtain ⟨p,l,c,b,_,lk,_,_,rfl⟩:=q;have h1:=lk.size;have ht:(iP x.name).length=x.name.size+2:=by
  unfold iP;rw [Wv,dk]
  have:x.name.data.toList.length=x.name.size:=aj
  omega
 have hi:∀ (n:Int) (w:Nat),(C6 n w).length=w:=fun n w=>by unfold C6; rw [dk]
 unfold F2;rw [Wv,hi];split
 ·omega
 ·split
  ·rw [Wv,Wv,Wv,Wv,hi,hi,hi,hi];split
   ·omega
   ·simp
    omega
  ·split
   ·rw [hi]; omega
   ·split
    ·omega
    ·split
     ·rw [hi]; omega
     ·simp
      omega
theorem M6 {h:Hp} {x:qi} {cs:List YB} {k:Nat} (q:QE h x cs k):(Mx x).length<=2*k:=by
 obtain ⟨p,l,c,b,_,lk,_,rfl⟩:=q;have h1:=lk.size;unfold Mx iP;rw [Wv,Wv,dk]
 have:x.1.data.toList.length=x.1.size:=aj
 omega
theorem JG {x:YA} {cs:List YB} {k:Nat} (q:QS x cs k):(iP x).length<=2*k:=by
 obtain ⟨_,_,rfl⟩:=q;unfold iP;rw [Wv,dk]
 have:x.data.toList.length=x.size:=aj
 omega
theorem GZ {α:Type} (f:α->Bt) (us:List α):(us.flatMap f).length=(us.map fun u=>(f u).length).sum:=by rw [X9]
end
theorem rF:∀ (ks:List Nat) (i:Nat) (h:i<ks.length),ks[i]<=ks.sum
 | k::ks,0,_=>aj
 | k::ks,i+1,h=>by
  have:=rF ks i (by simpa using h)
  simp only [List.getElem_cons_succ,List.sum_cons];omega
theorem jx {α:Type}:∀ us:List α,(us.map fun _=>1).sum=us.length
 | []=>rfl
 | u::us=>by rw [Xf,XM,jx us,Xi,Nat.add_comm]
theorem tS {α:Type} {P:α->Prop} {us:List α} (h:∀ i,(hi:i<us.length)->P us[i]):∀ x,x∈us->P x:=fun x hx=>by
 obtain ⟨i,hi,rfl⟩:=WS hx;exact h i hi
theorem MT.at {h:Hp} {p:Option YC} {l c:Nat} {x:bZ} {k:Nat} (q:MT h p l c x k) (hk:k<=2^60):oc h p l x:=⟨q.vw,by have:=q.many; omega,q.names⟩
theorem Ip {h:Hp} {p:Option YC} {l c:Nat} {us:List cz} {ks:List Nat} (s:C4 (QI h) h 10 p l c us ks) (hs:ks.sum<=2^58):Am h p l us/\(∀ x,x∈us->wu x.e)/\(us.flatMap F2).length<=2*ks.sum:=by
 have hl:=s.Av;have q:∀ i,(hi:i<us.length)->∃ a cs,p=some a/\aG h (a.add (i*10)) 0 cs/\QI h us[i] cs ks[i]:=fun i hi=>s.cells i hi ad
 have one:∀ i,(hi:i<us.length)->1<=1*ks[i]:=fun i hi=>by
  obtain ⟨_,_,_,_,_,_,_,_,_,_,_,_,hk⟩:=q i hi;omega
 have hm:us.length<=ks.sum:=by
  have:=gC (fun _=>1) 1 us ks hl (fun i hi hk=>one i hi)
  rw [jx] at this;omega
 refine ⟨⟨s.len,ad,fun i hi=>?_⟩,tS fun i hi=>?_,?_⟩
 ·obtain ⟨a,cs,ha,hc,p',l',c',b,rfl,lk,hn,ho,hk⟩:=q i hi
  have:=rF ks i ad
  exact ⟨a,p',l',c',ha,hc,lk.at ad,hn,ho⟩
 ·obtain ⟨a,cs,ha,hc,p',l',c',b,rfl,lk,hn,ho,hk⟩:=q i hi;exact lk.num
 ·rw [GZ];refine gC _ 2 us ks hl (fun i hi hk=>?_);obtain ⟨a,cs,ha,hc,hq⟩:=q i hi;exact Lr hq
theorem P2 {h:Hp} {p:Option YC} {l c:Nat} {us:List qi} {ks:List Nat} (s:C4 (QE h) h 3 p l c us ks) (hs:ks.sum<=2^58):tu h p l us/\(∀ x,x∈us->wu x.2)/\(us.flatMap Mx).length<=2*ks.sum:=by
 have hl:=s.Av;have q:∀ i,(hi:i<us.length)->∃ a cs,p=some a/\aG h (a.add (i*3)) 0 cs/\QE h us[i] cs ks[i]:=fun i hi=>s.cells i hi ad
 have one:∀ i,(hi:i<us.length)->1<=1*ks[i]:=fun i hi=>by
  obtain ⟨_,_,_,_,_,_,_,_,_,_,_,hk⟩:=q i hi;omega
 have hm:us.length<=ks.sum:=by
  have:=gC (fun _=>1) 1 us ks hl (fun i hi hk=>one i hi)
  rw [jx] at this;omega
 refine ⟨⟨s.len,ad,fun i hi=>?_⟩,tS fun i hi=>?_,?_⟩
 ·obtain ⟨a,cs,ha,hc,p',l',c',b,rfl,lk,hn,hk⟩:=q i hi
  have:=rF ks i ad
  exact ⟨a,p',l',c',ha,hc,lk.at ad,hn⟩
 ·obtain ⟨a,cs,ha,hc,p',l',c',b,rfl,lk,hn,hk⟩:=q i hi;exact lk.num
 ·rw [GZ];refine gC _ 2 us ks hl (fun i hi hk=>?_);obtain ⟨a,cs,ha,hc,hq⟩:=q i hi;exact M6 hq
theorem Ig {h:Hp} {p:Option YC} {l c:Nat} {us:List YA} {ks:List Nat} (s:C4 QS h 1 p l c us ks) (hs:ks.sum<=2^58):FI h p l us/\(us.flatMap iP).length<=2*ks.sum:=by
 have hl:=s.Av;have q:∀ i,(hi:i<us.length)->∃ a cs,p=some a/\aG h (a.add (i*1)) 0 cs/\QS us[i] cs ks[i]:=fun i hi=>s.cells i hi ad
 have one:∀ i,(hi:i<us.length)->1<=1*ks[i]:=fun i hi=>by
  obtain ⟨_,_,_,_,_,_,hk⟩:=q i hi;omega
 have hm:us.length<=ks.sum:=by
  have:=gC (fun _=>1) 1 us ks hl (fun i hi hk=>one i hi)
  rw [jx] at this;omega
 refine ⟨⟨s.len,ad,fun i hi=>?_⟩,?_⟩
 ·obtain ⟨a,cs,ha,hc,rfl,hn,hk⟩:=q i hi;exact ⟨a,ha,hc,hn⟩
 ·rw [GZ];refine gC _ 2 us ks hl (fun i hi hk=>?_);obtain ⟨a,cs,ha,hc,hq⟩:=q i hi;exact JG hq
theorem wG {h:Hp} {p:Option YC} {l c:Nat} {us:List cz} {ks:List Nat} (s:C4 (QI h) h 10 p l c us ks):(∀ x,x∈us->x.e.ai.length<=ks.sum)/\us.length<=ks.sum:=by
 have hl:=s.Av;have q:∀ i,(hi:i<us.length)->∃ a cs,p=some a/\aG h (a.add (i*10)) 0 cs/\QI h us[i] cs ks[i]:=fun i hi=>s.cells i hi ad
 refine ⟨tS fun i hi=>?_,?_⟩
 ·obtain ⟨a,cs,ha,hc,p',l',c',b,rfl,lk,hn,ho,hk⟩:=q i hi
  have:=rF ks i ad
  have:=lk.many
  omega
 ·have:=gC (fun _=>1) 1 us ks hl (fun i hi hk=>by
   obtain ⟨_,_,_,_,_,_,_,_,_,_,_,_,hk⟩:=q i hi;omega)
  rw [jx] at this;omega
theorem Kz {h:Hp} {p:Option YC} {l c:Nat} {us:List cz} {ks:List Nat} (s:C4 (QI h) h 10 p l c us ks):(us.map fun x=>x.e.ai.length).sum<=ks.sum:=by
 have:=gC (fun x:cz=>x.e.ai.length) 1 us ks s.Av (fun i hi hk=>by
  obtain ⟨a,cs,ha,hc,p',l',c',b,_,lk,hn,ho,hk⟩:=s.cells i hi hk
  have:=lk.many
  omega)
 omega
theorem SA {h:Hp} {p:Option YC} {l c:Nat} {us:List qi} {ks:List Nat} (s:C4 (QE h) h 3 p l c us ks):(us.map fun x=>x.2.ai.length).sum<=ks.sum:=by
 have:=gC (fun x:qi=>x.2.ai.length) 1 us ks s.Av (fun i hi hk=>by
  obtain ⟨a,cs,ha,hc,p',l',c',b,_,lk,hn,hk⟩:=s.cells i hi hk
  have:=lk.many
  omega)
 omega
theorem GY {h:Hp} {p:Option YC} {l c:Nat} {us:List qi} {ks:List Nat} (s:C4 (QE h) h 3 p l c us ks):(∀ x,x∈us->x.2.ai.length<=ks.sum)/\us.length<=ks.sum:=by
 have hl:=s.Av;have q:∀ i,(hi:i<us.length)->∃ a cs,p=some a/\aG h (a.add (i*3)) 0 cs/\QE h us[i] cs ks[i]:=fun i hi=>s.cells i hi ad
 refine ⟨tS fun i hi=>?_,?_⟩
 ·obtain ⟨a,cs,ha,hc,p',l',c',b,rfl,lk,hn,hk⟩:=q i hi
  have:=rF ks i ad
  have:=lk.many
  omega
 ·have:=gC (fun _=>1) 1 us ks hl (fun i hi hk=>by
   obtain ⟨_,_,_,_,_,_,_,_,_,_,_,hk⟩:=q i hi;omega)
  rw [jx] at this;omega
theorem F9 {h:Hp} {p:Option YC} {l c:Nat} {us:List YA} {ks:List Nat} (s:C4 QS h 1 p l c us ks):us.length<=ks.sum:=by
 have hl:=s.Av;have q:∀ i,(hi:i<us.length)->∃ a cs,p=some a/\aG h (a.add (i*1)) 0 cs/\QS us[i] cs ks[i]:=fun i hi=>s.cells i hi ad
 have:=gC (fun _=>1) 1 us ks hl (fun i hi hk=>by
  obtain ⟨_,_,_,_,_,_,hk⟩:=q i hi;omega)
 rw [jx] at this;omega
structure Hi (h:Hp) (a b c d:bY) (u:bP) (N:Nat):Prop where
 at_:rm h a b c d u
 num:Tc u
 size:(Vd u).length<=2*N+13
 small:(∀ x,x∈u.text->x.e.ai.length<=N)/\(∀ x,x∈u.data->x.e.ai.length<=N)/\(∀ x,x∈u.bf->x.2.ai.length<=N)/\u.aS.length<=N/\u.text.length<=N/\u.data.length<=N/\u.bf.length<=N
 cap:a.l<=a.c
 U0:((Lk.cF u).flatMap (·.ai)).length<=N
 jl:u.text.length+u.data.length+u.bf.length+u.aS.length<=N
 pos:1<=N
theorem R6 {h:Hp} {a b c d:bY} {u:bP} {N:Nat} (s:Hi h a b c d u N):1<=N:=s.pos
section
variable {H:Type} {enc:TypeId × YB->H} {W:World} {base n:Nat} {sp:Nat->Bool} {held:Bool} {cs:List YB} {y:DataW H × List MemPlace}
theorem xU (h:DataW.trod enc Tryz.prog W base sp held n 30 cs=some y) (hN:Rows.uptoBulk y.1<=2^50):∃ a b c d u,cs=[bY.v a,bY.v b,bY.v c,bY.v d]/\Hi W.heap a b c d u (Rows.uptoBulk y.1):=by
 obtain ⟨ys,m,hy,hl,hyn,hys⟩:=fN U4 h;obtain ⟨y0,g0,t0⟩:=hys 0 _ rfl;obtain ⟨y1,g1,t1⟩:=hys 1 _ rfl;obtain ⟨y2,g2,t2⟩:=hys 2 _ rfl;obtain ⟨y3,g3,t3⟩:=hys 3 _ rfl;have hys4:=Tx hyn g0 g1 g2 g3;rw [VY] at hl
 match cs,hl with
 | [v0,v1,v2,v3],_ =>
  rw [show Tryz.prog.cellsOf (26,0).1=1 from VN] at t0;rw [show Tryz.prog.cellsOf (26,1).1=1 from VN] at t1;rw [show Tryz.prog.cellsOf (27,2).1=1 from V6] at t2;rw [show Tryz.prog.cellsOf (28,3).1=1 from Wc] at t3;obtain ⟨p0,l0,k0,u0,b0,e0,s0,m0⟩:=open_slice QM Vv (QI W.heap) (fun cs y n h=>BO h) t0;obtain ⟨p1,l1,k1,u1,b1,e1,s1,m1⟩:=open_slice QM Vv (QI W.heap) (fun cs y n h=>BO h) t1;obtain ⟨p2,l2,k2,u2,b2,e2,s2,m2⟩:=open_slice Ux V5 (QE W.heap) (fun cs y n h=>Mj h) t2;obtain ⟨p3,l3,k3,u3,b3,e3,s3,m3⟩:=open_slice AL c9 QS (fun cs y n h=>EB h) t3;cases e0; cases e1; cases e2; cases e3;have hb:Rows.uptoBulk y.1=Rows.uptoBulk y0.1+Rows.uptoBulk y1.1+Rows.uptoBulk y2.1+Rows.uptoBulk y3.1+1:=by
   rw [hy,hys4];simp only [List.map_cons,List.map_nil,Rows.uptoBulk,Rows.uptoBulkAll];omega
  obtain ⟨x0,n0,w0⟩:=Ip s0 ad;obtain ⟨x1,n1,w1⟩:=Ip s1 ad;obtain ⟨x2,n2,w2⟩:=P2 s2 ad;obtain ⟨x3,w3⟩:=Ig s3 ad;refine ⟨⟨p0,l0,k0⟩,⟨p1,l1,k1⟩,⟨p2,l2,k2⟩,⟨p3,l3,k3⟩,⟨u0,u1,u2,u3⟩,rfl,⟨x0,x1,x2,x3⟩,⟨n0,n1,n2⟩,?_,⟨fun x hx=>by have:=(wG s0).1 x hx; omega,fun x hx=>by have:=(wG s1).1 x hx; omega,fun x hx=>by have:=(GY s2).1 x hx; omega,by have:=F9 s3; show u3.length<=_; omega,by have:=(wG s0).2; show u0.length<=_; omega,by have:=(wG s1).2; show u1.length<=_; omega,by have:=(GY s2).2; show u2.length<=_; omega⟩,s0.cap,?_,?_,ad⟩
  ·show (K8++(CX F2 u0++(CX F2 u1++(CX Mx u2++CX iP u3)))).length<=_;unfold CX;simp only [List.length_append,dk];rw [show K8.length=5 from rfl];omega
  ·show ((Lk.cF ⟨u0,u1,u2,u3⟩).flatMap (·.ai)).length<=_;have i0:=Kz s0;have i1:=Kz s1;have i2:=SA s2;unfold Lk.cF;rw [X3,X3,Wv,Wv,List.flatMap_map,List.flatMap_map,List.flatMap_map,X9,X9,X9];show (u0.map fun x=>x.e.ai.length).sum+(u1.map fun x=>x.e.ai.length).sum+(u2.map fun x=>x.2.ai.length).sum<=_;omega
  ·have i0:=(wG s0).2;have i1:=(wG s1).2;have i2:=(GY s2).2;have i3:=F9 s3;show u0.length+u1.length+u2.length+u3.length<=_;omega
theorem KL:Tryz.prog.underlying 22=some (.slice 30):=az
def QU (h:Hp) (u:bP) (cs:List YB) (k:Nat):Prop:=k<=2^50->∃ a b c d,cs=[bY.v a,bY.v b,bY.v c,bY.v d]/\Hi h a b c d u k
theorem Ng (h:DataW.trod enc Tryz.prog W base sp held n 30 cs=some y):∃ u,QU W.heap u cs (Rows.uptoBulk y.1):=by
 by_cases hk:Rows.uptoBulk y.1<=2^50
 ·obtain ⟨a,b,c,d,u,h1,h2⟩:=xU h hk;exact ⟨u,fun _=>⟨a,b,c,d,h1,h2⟩⟩
 ·exact ⟨⟨[],[],[],[]⟩,fun h=>absurd h hk⟩
structure TP (h:Hp) (p:Option YC) (l c:Nat) (us:List bP) (N:Nat):Prop where
 vw:sT h p l us
 sm:N<=2^20->Lk.Ho us
 cap:l<=c
 O6:c<=maxLen
 nil:p=none->c=0
theorem G4 {b0:Nat} {v:YB} {d:DataW H} {ps:List MemPlace} (hval:Value.okWide Tryz.prog W .any b0 22 v) (h:DataW.Trod enc Tryz.prog W base sp held 22 v d ps) (hN:Rows.uptoBulk d<=2^50) :
  ∃ p l c us,v=.slice p l c/\TP W.heap p l c us (Rows.uptoBulk d):=by
 obtain ⟨p,l,c,rfl⟩:=okWide_slice KL hval;obtain ⟨fuel,h⟩:=h;have hlist:(Value.slice p l c).cells.toList=[.slice p l c]:=rfl;rw [hlist] at h;obtain ⟨p',l',c',us,ks,e0,s,hs⟩:=open_slice KL VY (QU W.heap) (fun cs y n h=>Ng h) h;cases e0;have hl:=s.Av;have hs:ks.sum+1<=Rows.uptoBulk d:=hs;have q:∀ i,(hi:i<us.length)->∃ a sa sb sc sd,p=some a/\aG W.heap (a.add (i*4)) 0 [bY.v sa,bY.v sb,bY.v sc,bY.v sd]/\Hi W.heap sa sb sc sd us[i] (ks[i]'ad):=by
  intro i hi;obtain ⟨a,cs,ha,hc,hq⟩:=s.cells i hi ad
  have:=rF ks i ad
  obtain ⟨sa,sb,sc,sd,rfl,hu⟩:=hq ad;exact ⟨a,sa,sb,sc,sd,ha,hc,hu⟩
 have pos:∀ i,(hi:i<us.length)->1<=ks[i]'ad:=by
  intro i hi;obtain ⟨a,sa,sb,sc,sd,ha,hc,hu⟩:=q i hi;exact R6 hu
 have hm:us.length<=ks.sum:=by
  have:=gC (fun _=>1) 1 us ks hl (fun i hi hk=>by have:=pos i hi; omega)
  rw [jx] at this;omega
 refine ⟨p,l,c,us,rfl,⟨⟨s.len,ad,fun i hi=>?_⟩,fun hN2=>⟨ad,?_,?_,?_⟩,s.cap,s.O6,s.nil⟩⟩
 ·obtain ⟨a,sa,sb,sc,sd,ha,hc,hu⟩:=q i hi;exact ⟨a,sa,sb,sc,sd,ha,hc,hu.at_⟩
 ·have:=gC (fun u:bP=>u.text.length+u.data.length+u.bf.length+u.aS.length) 1 us ks hl (fun i hi hk=>by
   obtain ⟨a,sa,sb,sc,sd,ha,hc,hu⟩:=q i hi
   have:=hu.jl
   omega)
  unfold Lk.um;omega
 ·refine tS fun i hi=>?_
  obtain ⟨a,sa,sb,sc,sd,ha,hc,hu⟩:=q i hi;intro x hx;unfold Lk.cF at hx;simp only [List.mem_append,List.mem_map] at hx;rcases hx with (⟨y,hy,rfl⟩ | ⟨y,hy,rfl⟩) | ⟨y,hy,rfl⟩
  ·exact ⟨(hu.num.text y hy).num,(hu.num.text y hy).Dq⟩
  ·exact ⟨(hu.num.data y hy).num,(hu.num.data y hy).Dq⟩
  ·exact ⟨(hu.num.bf y hy).num,(hu.num.bf y hy).Dq⟩
 ·have:=gC (fun u:bP=>((Lk.cF u).flatMap (·.ai)).length) 1 us ks hl (fun i hi hk=>by
   obtain ⟨a,sa,sb,sc,sd,ha,hc,hu⟩:=q i hi
   have:=hu.U0
   omega)
  rw [List.flatMap_assoc,X9];omega
structure TR (h:Hp) (p:Option YC) (l c:Nat) (xs:List YA) (N:Nat):Prop where
 vw:FI h p l xs
 cap:l<=c
 O6:c<=maxLen
 nil:p=none->c=0
 many:xs.length<=N
theorem JY {b0:Nat} {v:YB} {d:DataW H} {ps:List MemPlace} (hval:Value.okWide Tryz.prog W .any b0 28 v) (h:DataW.Trod enc Tryz.prog W base sp held 28 v d ps) (hN:Rows.uptoBulk d<=2^50) :
  ∃ p l c xs,v=.slice p l c/\TR W.heap p l c xs (Rows.uptoBulk d):=by
 obtain ⟨p,l,c,rfl⟩:=okWide_slice AL hval;obtain ⟨fuel,h⟩:=h;have hlist:(Value.slice p l c).cells.toList=[.slice p l c]:=rfl;rw [hlist] at h;obtain ⟨p',l',c',us,ks,e0,s,hs⟩:=open_slice AL c9 QS (fun cs y n h=>EB h) h;cases e0;have hs:ks.sum+1<=Rows.uptoBulk d:=hs;obtain ⟨h1,_⟩:=Ig s ad;have h2:=F9 s;exact ⟨p,l,c,us,rfl,h1,s.cap,s.O6,s.nil,ad⟩
end
theorem Mw {W:World} (h:laidMetH Tryz.prog Rows.linkNumbersRow.laid W):∃ e f,W.heap[0]?=some (.cells Cr.opsV.toArray e f):=by
 rw [MakeChecks.laidMetH_plain _ _ _ az] at h;obtain ⟨ps,⟨g0,t0,cs0,f0,p0,q0,hg0,ht0,hv0,hd0,⟨g1,t1,cs1,f1,p1,q1,hg1,ht1,hv1,hd1,⟨g2,t2,cs2,f2,p2,q2,hg2,ht2,hv2,hd2,⟨g3,t3,cs3,f3,p3,q3,hg3,ht3,hv3,hd3,_,_⟩,_⟩,_⟩,_⟩,_,_⟩:=h;obtain rfl:=WQ ((show Tryz.prog.globalNamed _=some 0 from az).symm.trans hg3);have h3:(Tryz.prog.globals[0]?).map (·.type)=some 193:=az
 obtain rfl:=WQ (h3.symm.trans ht3);have hr:=AW hd3;obtain ⟨e3,ff3,ho3⟩:=CW hg3 hv3;exact ⟨e3,ff3,by rw [ho3,show Cr.opsV=kQ ug ub from rfl,<- hr]⟩
open Go.ChangeMaps
theorem yd:(Tryz.f7.params.toList.all fun t=>decide (t<Tryz.prog.types.size))=true:=az
theorem yg:Tryz.prog.inPlace 7=Rows.linkLinksUptoRow.inPlace:=az
theorem xM:Tryz.prog.unfollowed 7=Rows.linkLinksUptoRow.unfollowed:=az
theorem yc:Tryz.prog.recurses 7=Rows.linkLinksUptoRow.recurses:=az
theorem xS:Tryz.prog.varsNamed 7=Rows.linkLinksUptoRow.named:=az
theorem x7:joinedFacts Tryz.prog 7 Tryz.f7 (Rows.OpenSpec.upto Rows.linkLinksSpec).bare Rows.linkLinksUptoRow=true:=by
 unfold joinedFacts;rw [yg,xM,yc,xS]
 kernel_rfl
theorem vJ (os:Os) (started:os.Started) (H:Type) (enc:TypeId × YB->H) (F:Stop.Interp) :
  ReturnsInHanded {} Tryz.checked os 7 .any (fun w args=>((Rows.OpenSpec.upto Rows.linkLinksSpec).pre enc Tryz.prog Tryz.f7 [] false w args/\laidMetH Tryz.prog Rows.linkLinksUptoRow.laid w)/\sizedMet enc Tryz.prog Tryz.f7 (Rows.OpenSpec.upto Rows.linkLinksSpec) false w args)
   (((Rows.OpenSpec.upto Rows.linkLinksSpec).at F).post enc Tryz.prog Tryz.f7 false true false false):=by
 refine NC (k:=Rows.uptoSmall) rfl (C:=Tryz.checked) (X:=fun w _=>laidMetH Tryz.prog Rows.linkLinksUptoRow.laid w) (fun _ _ _ hh h=>h.of_heap hh) Vk started az Tryz.func7
  (GI (k:=Rows.uptoSmall) rfl (C:=Tryz.checked) (os:=os) (X:=fun w _=>laidMetH Tryz.prog Rows.linkLinksUptoRow.laid w) (World.doorLaid Tryz.prog 400 os) #[.slice none 0 0,.slice none 0 0] 8 rfl (World.shaped_of_RefB az az) az (x:=([.nil,.nil],[],[])) az rfl az (MO os _)) ?_
 intro W base args ds gs before hval0 hW hk hL;have hval:∀ (j:Nat) t v,Tryz.f7.params[j]?=some t->args[j]?=some v->Value.okWide Tryz.prog W .any base t v:=hval0
 have hW':=hW;obtain ⟨p,q,hA0,hV,rfl,hfz,hnd⟩:=hW;have hA:DataW.TrodAll enc Tryz.prog W 0 (fun _=>true) true Tryz.f7.params.toList args.toList ds p:=hA0;have hpf:Tryz.f7.params=#[22,28]:=az
 rw [hpf] at hA hval;clear hA0 hval0;obtain ⟨v0,vs0,d0,ds0,p0,q0,hv0,rfl,rfl,t0,hA1⟩:=trodAll_cons hA;obtain ⟨v1,vs1,d1,ds1,p1,q1,hv1,rfl,rfl,t1,hA2⟩:=trodAll_cons hA1;subst hv1;obtain ⟨rfl,rfl,rfl⟩:=trodAll_nil hA2;obtain ⟨args⟩:=args;simp only at hv0;subst hv0;have hk:=Ws hk;have hkb:=hk;simp only [List.append_nil,nA,cA] at hkb;obtain ⟨rfl,rfl⟩:=trodVars_none hV;obtain ⟨a0,l0,c0,x0,rfl,h0⟩:=G4 (hval 0 22 v0 rfl rfl) t0 (by simp only [Rows.uptoBulkAll] at hkb; omega);obtain ⟨a1,l1,c1,x1,rfl,h1⟩:=JY (hval 1 28 v1 rfl rfl) t1 (by simp only [Rows.uptoBulkAll] at hkb; omega);simp only [List.append_nil] at hW';simp only [List.append_nil,List.nil_append,List.cons_append,Rows.uptoBulkAll] at hk;refine (NT (Lk.Kb (Hk hL).2 (Hk hL).1 (Mw hL) (su:=⟨a0,l0,c0⟩) (sn:=⟨a1,l1,c1⟩) h0.vw (h0.sm ad) h1.vw h1.cap (by have:=h1.many; omega)) (fun _ _ h=>h.2)).mono fun e W' ⟨v,he,hB,hv,_⟩=>?_
 subst he hv;exact ⟨_,rfl,MA rfl hW' (fun _ _ _=>trodAll_mk1 (shut_bool u4 _)) rfl rfl (fun t ht=>Ws (W1.1 yd t ht)) hB⟩
theorem ya:Rows.LinkLinksUptoSaid :=
 OpenClaim.holds_of_cond 7 Tryz.f7 rfl rfl rfl rfl rfl rfl rfl ⟨rfl,rfl,rfl,rfl,rfl⟩ rfl rfl rfl rfl rfl az Tryz.func7 x7
  (Ws az) (by unfold Func.isWrapper; first | (rw [WC (by decide +kernel)]; kernel_rfl) | (rw [Ww (by decide +kernel)]; exact ⟨rfl,rfl⟩))
  (fun os started H enc _ F=>vJ os started H enc F)
end Go.Sx.Ob
