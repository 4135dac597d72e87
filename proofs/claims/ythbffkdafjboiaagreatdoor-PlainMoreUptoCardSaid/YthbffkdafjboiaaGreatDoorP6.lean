/- Contracts over heaps, part 6. Condition: as each statement says. -/
import Derived.Test.YthbffkdafjboiaaGreatDoorP5
import Derived.Test.YthbffkdafjboiaaGreatDoorRows
import Derived.ProofKit
import Derived.LaidMore
import Derived.LaidLaws
import Derived.OpenShut
import Derived.ChangeSame
import Derived.ChangeStays
import Derived.ChangeOld
import Derived.ChangeSlices
import Derived.ChangeMaps5
import Derived.JoinedCond
import Derived.Lib.LaidTab
import Derived.Stop.Joined
import Derived.Test.YthbffkdafjboiaaGreatDoorTie
import Derived.Test.YthbffkdafjboiaaGreatDoorCards
import Derived.SevenTiedAt
set_option linter.all false
set_option maxRecDepth 100000
set_option maxHeartbeats 4000000
namespace Go.Sx.Pn
open Go.Proofs Go.Sx.Ob Go.Sx.Lk
def Fw {L:Lp} {K:Xab->Hp->Prop} {h:Hp} {e:TypeId} {a b c d:Int} {k:Xax->T} (hk:∀ h',bF h' h.size e [.int .i64 a,.int .i64 b,.int .i64 c,.int .i64 d]->Ext h h'->k ⟨h.size,0,none⟩ L K h') :
  T.new [.int .i64 (0:Int),.int .i64 (0:Int),.int .i64 (0:Int),.int .i64 (0:Int)] e (fun x=>T.aC x [.int .i64 a,.int .i64 b,.int .i64 c,.int .i64 d] (k x)) L K h:=by
 refine bm ?_;intro h3 j u z3;refine ar j rfl aj ?_;intro h4 G J z4;exact hk h4 G (bR u J)
def Uv {h0 h:Hp} (U:M7 h0) (e0:Ext h0 h) {B B' g N:Nat} {C:List Wh} (Z:bF h g 54 [.int .i64 0,.int .i64 0,.string ⟨#[]⟩])
  (c1:∀ h',Ext h h'->HC Tryz.prog 8 #[ptr (B+3)] h' fun v h''=>Ext h' h''/\v=B7 (C.find? (DV [1,2,3]))) (J:∀ h',Ext h h'->HC Tryz.prog 8 #[ptr (B'+3)] h' fun v h''=>Ext h' h''/\v=B7 ((C++[(⟨N,0,0,1⟩:Wh)]).find? (DV [1,2,3]))) :
  Xi (some ⟨B+3,0,none⟩) N (some ⟨B'+3,0,none⟩) ⟨g,0,none⟩ [] (fun w h'=>w=.bool true/\Ext h0 h') h:=by
 unfold Xi aY bK dN bI bY cn;refine bP rfl ?_;refine af Z ((0:Int),(0:Int),⟨#[]⟩,()) rfl (an ?_);refine nX (fun K' j=>VC _ _ _ _ _ _ _ _ _ _ j) ?_;refine bP ax ?_;refine aJ (c1 h (Ch.refl _ _)) ?_;rintro _ h1 ⟨e1,rfl⟩;rw [KY] at J;generalize C.find? (DV [1,2,3])=o at J ⊢;refine ⟨(f1 o,f2 o,f3 o,f4 o,!o.isSome,()),rfl,an ?_⟩;refine Fw ?_;intro h2 b2 e2;refine aJ (J h2 (e1.trans e2)) ?_;rintro _ h3 ⟨V,rfl⟩;generalize ho:o.or (some ⟨N,0,0,1⟩)=u;refine ⟨(f1 u,f2 u,f3 u,f4 u,!u.isSome,()),rfl,an ?_⟩;refine Fw ?_;intro h4 X Y;have G:=e0.trans ((e1.trans e2).trans (V.trans Y));have O:=(b2.ak V aj).ak Y aj;subst ho;cases o with
 | none =>
  refine bC rfl (bC rfl ?_);refine af X ((N:Int),(0:Int),(0:Int),(1:Int),()) rfl (an ?_);refine nX (fun K' j=>Sn _ _ _ _ _ _ _ _ _ _ _ _ j) ?_;exact bC aj (An U G)
 | some q =>
  refine bP rfl (bC rfl ?_);refine af O (f1 (some q),f2 (some q),f3 (some q),f4 (some q),()) rfl (an ?_);refine af X (f1 (some q),f2 (some q),f3 (some q),f4 (some q),()) rfl (an ?_);refine nX (fun K' j=>Sn _ _ _ _ _ _ _ _ _ _ _ _ j) ?_;exact bC aj (An U G)
open Cr in
def TN (n:Nat):uf n uJ=[]:=by
 show nl n 0 0 [xJ]++nl n 1 0 []=[];rfl
open Cr in
def MB {h:Hp} (pw:fU h) (tn:zZ kT h) (O7:∃ e f,h[0]?=some (.cells opsV.toArray e f)) (kn:M7 h) {su:cz} {us:List bX} (v:uH h su.p su.l us) (sm:Gj us) (ht:3*((us.flatMap cv).flatMap (·.ai)).length<=2^20) :
  HC Tryz.prog 6 #[.slice su.p su.l su.c] h fun w h'=>w=.bool true/\Ext h h':=by
 refine bd (args:=[.slice su.p su.l su.c]) mixed Tryz.func6 ax (kp su.p su.l su.c) ?_;unfold gj aY bK bI bj cn;refine aJ (Vf (su:=su) pw tn.O7 v sm) ?_;rintro w1 h1 ⟨e1,X⟩
 by_cases hlg:mS us=true
 ·rw [Y8 hlg] at X;refine ⟨(none,none,false,true,()),X,an ?_⟩;exact bC rfl (bP rfl (bC rfl (An kn e1)))
 rw [Y2 hlg] at X;have ag:=py (us:=us) sm.num;cases hlp:jo us with
 | error f =>
  rw [hlp] at X;refine ⟨(none,none,false,true,()),X,an ?_⟩;exact bC rfl (bP rfl (bC rfl (An kn e1)))
 | ok P =>
 rw [hlp] at X ag;obtain ⟨_,h64,_,_,A,_,_,_⟩:=ag;obtain ⟨B,usl,lb,S,g,b',lb2,st,sd,tw,dw,rfl,bo⟩:=X;have r:FW us:=⟨A.right,h64⟩
 have hLl:=r.dX;have hlbw:P.w.lb=bQ 0 us:=A.wi.lb;have b:One h h1 us P B usl lb S:=⟨bo.le,bo.pg,bo.QO,bo.sz⟩
 have hul:=v.len;refine ⟨(some ⟨B+3,0,none⟩,some ⟨g,0,none⟩,true,true,()),rfl,an ?_⟩;refine bP rfl ?_;refine av (fun q=>?_) (fun q=>?_)
 ·exact bC rfl (An kn e1)
 have q:=Zc q;have h63:us.length<64:=ad
 refine aJ (NM (h:=h1) ?_) ?_
 ·obtain ⟨e,f,ht⟩:=O7;exact ⟨e,f,e1.get ht aj⟩
 rintro _ h2 ⟨e2,a,V,c,d,rfl,hM⟩;refine ⟨((a.p,a.l,a.c),(V.p,V.l,V.c),(c.p,c.l,c.c),(d.p,d.l,d.c),(0:Int),(0:Int),()),rfl,an ?_⟩;have hM2:oB h2 a V c d uJ:=hM h2 fun i _ _=>rfl
 refine bm ?_;intro h3 b3 e3 z3;refine bm ?_;intro h4 b4 e4 z4;refine ar (b3.ak e4 aj) rfl aj ?_;intro h5 b5 k5 z5;have b5:bF h5 h2.size 47 [a.v,V.v,c.v,d.v]:=b5;refine ar (b4.ak k5 (by simp; omega)) rfl aj ?_;intro h6 b6 k6 z6;have b56:=b5.ak k6 (by simp; omega);have e25:Ext h2 h5:=bR (e3.trans e4) k5;have e26:Ext h2 h6:=bR e25 k6;refine af b56 ((a.p,a.l,a.c),(V.p,V.l,V.c),(c.p,c.l,c.c),(d.p,d.l,d.c),()) rfl (an ?_);have e16:=e2.trans e26;have e06:=e1.trans e16;obtain ⟨xs,x1,x2,x3,x4⟩:=OF (v.ak e06);have hM6:=hM2.ak e26;have sm':=Pm sm ht r.right h63 (by simpa using hlg);obtain ⟨P',hP',hit,Y⟩:=KN hlp sm'.num h63 OQ rfl rfl TU;rw [TN,ZQ] at Y;have u:(us++[uJ]).length=us.length+1:=aj
 let Q:Nat->Hp->Prop:=fun B' h'=>(∃ G O S' hl,One hl h' (us++[uJ]) P' B' G O S')/\∃ hv p l,uH hv p l (us++[uJ])
 have ask:Ask h6 xs [a.v,V.v,c.v,d.v] su Q:=by
  refine ⟨x3,ad,x2,Ho x1 x4,rfl,rfl,ad,fun hh p cc e s=>?_,fun B' hh h' e X=>?_⟩
  ·have x5:∀ i,(hi:i<(us++[uJ]).length)->(hxi:i<(xs++[[a.v,V.v,c.v,d.v]]).length)->KT hh (us++[uJ])[i] (xs++[[a.v,V.v,c.v,d.v]])[i]:=by
    intro i hi hxi
    by_cases hlt:i<us.length
    ·rw [Z1 hlt,Z1 ad];exact (x4 i hlt ad).ak e
    ·rw [Y4,List.length_singleton] at hi;have hieq:i=us.length:=ad
     subst hieq;rw [aj9 ad,aj9 ad];simp only [x1,Nat.sub_self,List.getElem_cons_zero];exact ⟨a,V,c,d,rfl,hM6.ak e⟩
   have v5:uH hh p (su.l+1) (us++[uJ]):=UT s (by simp [x1]) (by rw [u]; omega) x5;have e0:=e06.trans e;refine HC.mono (IH (c:=cc) (pw.ak e0 aj) (tn.O7.ak e0 aj) v5 sm') fun w h' hr=>?_
   obtain ⟨e7,hl⟩:=hr;rw [hP'] at hl;obtain ⟨B',G,O,S',hle',rfl,pg',its',sz'⟩:=hl;exact ⟨e7,B',rfl,⟨G,O,S',hh,hle',pg',its',sz'⟩,hh,p,su.l+1,v5⟩
  ·obtain ⟨⟨G,O,S',hl,o⟩,w⟩:=X;exact ⟨⟨G,O,S',hl,o.ext e⟩,w⟩
 refine XM (Q:=Q) ⟨rfl,b56⟩ (fun B' g' h' e bg X=>?_) ⟨ask,Ch.refl _ _,trivial,fun _ _ _ hh=>(by cases hh),fun _ hh=>(by cases hh)⟩;obtain ⟨⟨G,O,S',hl,o⟩,hv,pv,lv,v5⟩:=X;have Z:=e06.trans e;have any1:=fun (hz:Hp) (U:Ext h' hz) (p:Xac) (l c:Nat) (rs:List Int) (vr:O9 hz p l rs)=>Of (c:=c) (tn.ak (Z.trans U) aj) (pw.ak (Z.trans U) aj) (b.ext ((e16.trans e).trans U)).pg (by rw [hlbw]; omega) ad (M5 (b.ext ((e16.trans e).trans U)) ad v) vr
 have any2:=fun (hz:Hp) (U:Ext h' hz) (p:Xac) (l c:Nat) (rs:List Int) (vr:O9 hz p l rs)=>Of (c:=c) (tn.ak (Z.trans U) aj) (pw.ak (Z.trans U) aj) (o.ext U).pg (by rw [Y,hlbw]; omega) (by rw [u]; omega) (M5 (o.ext U) (by rw [u]; omega) v5) vr
 have hcd:=Oy (D:=Ko P.w.lb 0 []) (I:=fun n j=>if hn:n<us.length then (wc us[n] j).map (P.eS n) else []) (J:=fun n j=>if hn:n<(us++[uJ]).length then (wc (us++[uJ])[n] j).map (P'.eS n) else []) (N:=us.length) (x:=P'.eS us.length xJ) u ?_ ?_ ?_ rfl rfl
 ·simp only [W1] at any1 any2;rw [Y,hcd] at any2;have c1:=fun (hz:Hp) (U:Ext h' hz)=>qZ (A:=fun rs=>(U7 kT (Ko P.w.lb 0 []) (fun n j=>if hn:n<us.length then (wc us[n] j).map (P.eS n) else []) us.length).find? (DV rs)) fun hy ey=>any1 hy (U.trans ey)
  have c2:=fun (hz:Hp) (U:Ext h' hz)=>qZ (A:=fun rs=>(U7 kT (Ko P.w.lb 0 []) (fun n j=>if hn:n<us.length then (wc us[n] j).map (P.eS n) else []) us.length++[(⟨us.length,0,0,1⟩:Wh)]).find? (DV rs)) fun hy ey=>any2 hy (U.trans ey)
  rw [hul];exact Uv kn Z bg c1 c2
 ·intro n hn j hj;rw [dif_pos (by rw [u]; omega),dif_pos hn];have hgu:(us++[uJ])[n]'(by rw [u]; omega)=us[n]:=Z1 hn;rw [hgu];refine ZM fun x hx=>hit n us[n] (Y1 hn) x ?_
  unfold wc at hx;split at hx
  ·exact .inl hx
  ·exact .inr hx
 ·rw [dif_pos (by rw [u]; omega)];have hgu:(us++[uJ])[us.length]'(by rw [u]; omega)=uJ:=by
   rw [aj9 (Zh _)];simp only [Nat.sub_self,List.getElem_cons_zero]
  rw [hgu] <;> rfl
 ·rw [dif_pos (by rw [u]; omega)];have hgu:(us++[uJ])[us.length]'(by rw [u]; omega)=uJ:=by
   rw [aj9 (Zh _)];simp only [Nat.sub_self,List.getElem_cons_zero]
  rw [hgu] <;> rfl
end Go.Sx.Pn
namespace Go.Sx.Ob
open Go.Proofs Go.Proofs.YthbffkdafjboiaaGreatDoor
open Go.ChangeShapes Go.WideShapes Go.ChangeAt Go.WideMaps Go.WideElems Go.RowKit
def vC (P:Program) (t:TypeId):Option (List (TypeId × Nat)):=(P.underlying t).bind fun d=>match d with | .struct fs=>some (fs.toList.map fun f=>(f.type,f.offset)) | _=>none
section
variable {H:Type} {enc:TypeId × Xab->H} {P:Program} {W:World} {base fuel:Nat} {sp:Nat->Bool} {held:Bool} {t:TypeId} {cs:List Xab} {y:DataW H × List MemPlace}
def gb {l:List (TypeId × Nat)} (hu:vC P t=some l) (h:DataW.trod enc P W base sp held fuel t cs=some y) :
  ∃ (xs:List (DataW H × List MemPlace)) (n:Nat),y.1=.agg (xs.map (·.1))/\cs.length=P.cellsOf t/\xs.length=l.length/\∀ (i:Nat) (p:TypeId × Nat),l[i]?=some p->∃ x,xs[i]?=some x/\DataW.trod enc P W base sp held n p.1 ((cs.drop p.2).take (P.cellsOf p.1))=some x:=by
 unfold vC at hu;cases G:P.underlying t with
 | none=>rw [G] at hu; cases hu
 | some d =>
  rw [G] at hu;simp only [Option.bind_some] at hu;split at hu
  ·rename_i fs;simp only [Option.some.injEq] at hu;obtain ⟨xs,n,_,hy,hl,u,O⟩:=DataW.trod_struct G h;refine ⟨xs,n,by rw [hy],hl,by rw [<- hu,Y0,u,aa9],fun i p J=>?_⟩;rw [<- hu,ZO,bk9] at J;obtain ⟨f,j,rfl⟩:=J;rw [an9] at j;have h1:=O i f j;cases hx:xs[i]? with
   | none =>
    rw [List.getElem?_eq_none_iff] at hx
    have:i<fs.size:=by
     by_cases g:i<fs.size
     ·exact g
     ·rw [ZT ad] at j;cases j
    omega
   | some x=>rw [hx] at h1; exact ⟨x,rfl,h1⟩
  ·cases hu
theorem jx {h:Hp} {a:Xax}:∀ (vs:List Xab) (i:Nat),(∀ j,(u:j<vs.length)->ij h (a.add (i+j))=some vs[j])->aI h a i vs
 | [],_,_=>trivial
 | v::vs,i,G=>⟨by have:=G 0 aj; rw [cv9] at this; exact this,jx vs (i+1) fun j u=>by
  have:=G (j+1) (by simpa using u)
  rw [show i+1+j=i+(j+1) from ad];simpa using this⟩
def Uw {a:Xax} {n:Nat} (h:W.cells? base a n=some cs):cs.length=n/\aI W.heap a 0 cs:=by
 unfold World.cells? at h;split at h
 ·have hl:cs.length=n:=by simpa using Lib.mapM_length h
  refine ⟨hl,jx cs 0 fun j u=>?_⟩;obtain ⟨b,hb,G⟩:=Lib.mapM_at h j j (am9 ad);rw [Y1 u] at hb;cases hb;rw [ZJ,<- Kq];exact G
 ·cases h
theorem xU {α:Type} (Q:Nat->α->Prop):∀ n,(∀ i,i<n->∃ x,Q i x)->∃ l:List α,l.length=n/\∀ i (hi:i<l.length),Q i l[i]
 | 0,_=>⟨[],rfl,fun i hi=>by simp at hi⟩
 | n+1,h=>by
  obtain ⟨l,hl,G⟩:=xU Q n (fun i hi=>h i ad);obtain ⟨x,hx⟩:=h n ad;refine ⟨l++[x],by simp [hl],fun i hi=>?_⟩
  by_cases j:i<l.length
  ·rw [Z1 j];exact G i j
  ·have u:i=n:=by simp at hi; omega
   subst u;rw [aj9 ad];simpa using hx
def OE {ds:List (DataW H)} {ks:List Nat} (hl:ds.length=ks.length) (h:∀ i,(hi:i<ks.length)->(j:i<ds.length)->ks[i]=Rows.uptoBulk ds[i]):Rows.uptoBulkAll ds=ks.sum:=by
 induction ds generalizing ks with
 | nil =>
  cases ks with
  | nil=>rfl
  | cons k ks=>simp at hl
 | cons d ds u =>
  cases ks with
  | nil=>simp at hl
  | cons k ks =>
   have h0:=h 0 aj aj;simp only [List.getElem_cons_zero] at h0
   have:=u (ks:=ks) (by simpa using hl) (fun i hi j=>h (i+1) (by simpa using hi) (by simpa using j))
   unfold Rows.uptoBulkAll;rw [this,ZU,h0]
structure DC {α:Type} (Q:α->List Xab->Nat->Prop) (h:Hp) (sz:Nat) (p:Xac) (l c:Nat) (us:List α) (ks:List Nat):Prop where
 len:l=us.length
 AX:ks.length=us.length
 cells:∀ i,(hi:i<us.length)->(hk:i<ks.length)->∃ a cs,p=some a/\aI h (a.add (i*sz)) 0 cs/\Q us[i] cs ks[i]
 cap:l<=c
 Vd:c<=maxLen
 nil:p=none->c=0
def open_slice {α:Type} {e:TypeId} {sz:Nat} (hu:P.underlying t=some (.slice e)) (hc:P.cellsOf e=sz) (Q:α->List Xab->Nat->Prop)
  (X:∀ (cs:List Xab) (y:DataW H × List MemPlace) (n:Nat),DataW.trod enc P W base sp held n e cs=some y->∃ x:α,Q x cs (Rows.uptoBulk y.1))
  (h:DataW.trod enc P W base sp held fuel t cs=some y) :
  ∃ (p:Xac) (l c:Nat) (us:List α) (ks:List Nat),cs=[.slice p l c]/\DC Q W.heap sz p l c us ks/\ks.sum+1<=Rows.uptoBulk y.1:=by
 rcases DataW.trod_slice hu h with ⟨e0,G⟩ | ⟨a,len,cap,j,rest,n,_,e0,G,Y,Z,hcm,J,hev,_,_⟩
 ·refine ⟨none,0,0,[],[],e0,⟨rfl,rfl,fun i hi=>by simp at hi,Zh _,cg9 _,fun _=>rfl⟩,?_⟩;rw [G];simp only [Rows.uptoBulk];decide
 ·have O:∀ i,i<len->∃ x:α × Nat,∃ u,aI W.heap (a.add (i*sz)) 0 u/\Q x.1 u x.2/\∃ y,j[i]?=some y/\x.2=Rows.uptoBulk y.1:=by
   intro i hi;have he:=hev i hi;cases hy:j[i]? with
   | none=>rw [List.getElem?_eq_none_iff] at hy; omega
   | some y =>
    rw [hy,hc] at he;simp only [Option.bind_eq_some_iff] at he;obtain ⟨u,hcs,htr⟩:=he;obtain ⟨hl,ij⟩:=Uw hcs;obtain ⟨x,hx⟩:=X _ _ _ htr;exact ⟨(x,Rows.uptoBulk y.1),u,ij,hx,y,rfl,rfl⟩
  obtain ⟨xs,U,V⟩:=xU _ len O;refine ⟨some a,len,cap,xs.map (·.1),xs.map (·.2),e0,⟨by rw [Y0,U],by rw [Y0,Y0],fun i hi hk=>?_,Z,hcm,fun h=>by cases h⟩,?_⟩
  ·rw [Y0] at hi;obtain ⟨u,h1,h2,_⟩:=V i hi;rw [Zb,Zb];exact ⟨a,u,rfl,h1,h2⟩
  ·have:=OE (ds:=j.map (·.1)) (ks:=xs.map (·.2)) (by rw [Y0,Y0,J,U]) (fun i hi hj=>by
    rw [Y0] at hi hj;obtain ⟨u,_,_,y,hy,hk⟩:=V i hi;rw [Y1 hj] at hy;rw [Zb,Zb,hk,Zn hy])
   rw [G];simp only [Rows.uptoBulk];rw [this];omega
end
def Od {P:Program} {f:FuncId} {args:Array Xab} {W:World} {R:Xab->Hp->Prop} (h:HC P f args W.heap R) (u:∀ v h',R v h'->Ext W.heap h'):Calls P f args W fun e w'=>∃ v,e=.returned v/\Below W.heap.size W w'/\R v w'.heap:=by
 refine (h W rfl).mono fun e w' ⟨v,hv,hs,j⟩=>⟨v,hv,⟨hs.os,hs.tape,hs.output,(u v _ j).size,fun k hk=>(u v _ j).same k hk aj⟩,j⟩
def G3 {W W':World} (j:Below W.heap.size W W') {p:MemPlace} (u:p.block<W.heap.size):W.sameAt W' p:=by
 cases p with
 | cell b off =>
  show W'.cell? _=W.cell? _;unfold World.cell?;rw [j.block b u]
 | map b=>exact j.block b u
def XR:ownKnob Tryz.prog.godebug=none:=ax
def u9:Tryz.prog.underlying 9=some .string:=ax
def u4:Tryz.prog.underlying 4=some .bool:=ax
def u3:Tryz.prog.underlying 3=some (.int .i64):=ax
def u5:Tryz.prog.underlying 5=some (.int .u8):=ax
def XF:Tryz.prog.underlying 155=some (.array 43 120):=ax
def Ws:Tryz.prog.cellsOf 120=3:=ax
def X1:Tryz.prog.cellsOf 155=129:=ax
def c9:Tryz.prog.cellsOf 9=1:=ax
def c5:Tryz.prog.cellsOf 5=1:=ax
def c3:Tryz.prog.cellsOf 3=1:=ax
def Yc:vC Tryz.prog 120=some [(9,0),(5,1),(3,2)]:=ax
def DQ:List (DataW Unit):=match (Rows.laid_spandrel_isa_table:DataW Unit) with | .agg l=>l | _=>[]
def My:DataW Unit->Int
 | .agg [_,_,.lit (.int _ n)]=>n
 | _=>0
def Qg:(Rows.laid_spandrel_isa_table:DataW Unit)=.agg DQ:=ax
def Na:DQ.map My=(List.range 43).map fun k=>((jS.getD k 0:Nat):Int):=ax
theorem Ei {α β:Type} (f:α->List β) (m:Nat) (j:∀ x,(f x).length=m):∀ l:List α,(l.flatMap f).length=l.length*m
 | []=>aj
 | x::l=>by rw [ZG,Y4,j,Ei f m j l,ZP,Nat.succ_mul,Nat.add_comm]
def C1 (nm:Nat->Xaa) (by_:Nat->Int):(jc nm by_).length=129:=by
 unfold jc;rw [Ei _ 3 (fun x=>rfl),ay9]
def Ur:DataW Unit->List UInt8
 | .agg [.lit (.string s),_,_]=>s
 | _=>[]
def Ut:DataW Unit->Int
 | .agg [_,.lit (.int _ n),_]=>n
 | _=>0
def Xu (k:Nat):List UInt8:=(kT k).data.toList
def Pw:DQ.map Ur=(List.range 43).map fun k=>Xu k:=ax
def Qx:DQ.map Ut=(List.range 43).map fun k=>uh k:=ax
def B8 {enc:TypeId × Xab->Unit} {W:World} {base fuel:Nat} {sp:Nat->Bool} {held:Bool} {cs:List Xab} {p:List MemPlace}
  (h:DataW.trod enc Tryz.prog W base sp held fuel 155 cs=some (Rows.laid_spandrel_isa_table,p)):cs=jc kT uh:=by
 obtain ⟨xs,m,_,hx,hl,hlen,hf⟩:=DataW.trod_array XF h;rw [X1] at hl;have U:xs.map (·.1)=DQ:=by
  have:=Zl Prod.fst hx
  rw [show (Rows.laid_spandrel_isa_table,p).1=DataW.agg DQ from Qg] at this;simpa using this.symm
 have J:∀ i,i<43->(cs.drop (i*3)).take 3=[.string (kT i),.int .u8 (uh i),.int .i64 ((jS.getD i 0:Nat):Int)]:=by
  intro i hi;have h1:=hf i hi;rw [Ws] at h1;rw [Y1 ad] at h1;obtain ⟨ys,n,hy,O,V,G⟩:=gb Yc h1;obtain ⟨y0,g0,t0⟩:=G 0 _ rfl;obtain ⟨y1,g1,t1⟩:=G 1 _ rfl;obtain ⟨y2,g2,t2⟩:=G 2 _ rfl;rw [Ws] at O;generalize hc:(cs.drop (i*3)).take 3=c at *
  match c,O with
  | [v0,v1,v2],_ =>
   rw [show Tryz.prog.cellsOf (9,0).1=1 from c9] at t0;rw [show Tryz.prog.cellsOf (5,1).1=1 from c5] at t1;rw [show Tryz.prog.cellsOf (3,2).1=1 from c3] at t2;obtain ⟨s,e0,X,_⟩:=DataW.trod_string u9 t0;obtain ⟨b,e1,Y,_⟩:=DataW.trod_int u5 t1;obtain ⟨k,e2,Z,_⟩:=DataW.trod_int u3 t2;cases e0; cases e1; cases e2;have u:ys=[y0,y1,y2]:=by
    apply ae9;intro j
    match j with
    | 0=>exact g0
    | 1=>exact g1
    | 2=>exact g2
    | j+3=>rw [ZI (by rw [V]; simp),ZI aj]
   have h2:(xs.map (·.1))[i]?=some (xs[i]'ad).1:=by rw [ZO,Y1 ad]; rfl
   rw [U] at h2;have hk:k=((jS.getD i 0:Nat):Int):=by
    have h3:(DQ.map My)[i]?=some (My (xs[i]'ad).1):=by rw [ZO,h2]; rfl
    rw [Na,ZO,am9 hi] at h3;rw [hy,u,X,Y,Z] at h3;exact (Zn h3).symm
   have hb:b=uh i:=by
    have h3:(DQ.map Ut)[i]?=some (Ut (xs[i]'ad).1):=by rw [ZO,h2]; rfl
    rw [Qx,ZO,am9 hi] at h3;rw [hy,u,X,Y,Z] at h3;exact (Zn h3).symm
   have hs:s=kT i:=by
    have h3:(DQ.map Ur)[i]?=some (Ur (xs[i]'ad).1):=by rw [ZO,h2]; rfl
    rw [Pw,ZO,am9 hi] at h3;rw [hy,u,X,Y,Z] at h3;exact CH (Zn h3).symm
   rw [hk,hb,hs]
 apply ae9;intro j
 by_cases hj:j<129
 ·obtain ⟨a,b,hab,hb⟩:∃ a b,j=a*3+b/\b<3:=⟨j / 3,j % 3,ad,ad⟩
  subst hab;unfold jc;rw [rz (fun k=>[Value.string (kT k),.int .u8 (uh k),.int .i64 (jS.getD k 0:Nat)]) 3 (fun x=>rfl) _ a b hb,am9 ad];show cs[a*3+b]?=[Value.string (kT a),.int .u8 (uh a),.int .i64 ((jS.getD a 0:Nat):Int)][b]?
  have:=J a ad
  rw [<- this,bp9,Y8 hb,bc9]
 ·have hr:(jc kT uh).length=129:=C1 _ _;rw [ZI ad,ZI ad]
def CW {P:Program} {W:World} {name:String} {g:Nat} {cs:Array Xab} (j:P.globalNamed name=some g) (hv:W.var? P name=some cs):∃ e f,W.heap[g]?=some (.cells cs e f):=by
 unfold World.var? at hv;rw [j] at hv;have hv:(match (W.heap[g]?:Option Obj) with | some (.cells cs _ _)=>some cs | _=>none)=some cs:=hv;split at hv
 ·rename_i u e f G;cases hv;exact ⟨e,f,G⟩
 ·cases hv
def Px {W:World} (h:laidMetH Tryz.prog Rows.plainNumbersRow.laid W):AW W.heap/\fU W.heap:=by
 rw [MakeChecks.laidMetH_plain _ _ _ ax] at h;obtain ⟨ps,⟨g0,t0,cs0,f0,p0,q0,hg0,ht0,hv0,hd0,⟨g1,t1,cs1,f1,p1,q1,hg1,ht1,hv1,hd1,⟨g2,t2,cs2,f2,p2,q2,j,G,J,O,⟨g3,t3,cs3,f3,p3,q3,u,U,V,X,_,_⟩,_⟩,_⟩,_⟩,_,_⟩:=h;obtain rfl:=Zn ((show Tryz.prog.globalNamed _=some 1 from ax).symm.trans j);obtain rfl:=Zn ((show Tryz.prog.globalNamed _=some 0 from ax).symm.trans u);have h2:(Tryz.prog.globals[1]?).map (·.type)=some 239:=ax
 obtain rfl:=Zn (h2.symm.trans G);have h3:(Tryz.prog.globals[0]?).map (·.type)=some 155:=ax
 obtain rfl:=Zn (h3.symm.trans U);have hc:=Lib.cells_of_tab (n:=20) (e:=215) (k:=.u64) (zs:=Lib.pow10Tab) ax ax ax ax O;have hr:=B8 X;obtain ⟨e2,Y,Z⟩:=CW j J;obtain ⟨e3,ff3,ho3⟩:=CW u V;refine ⟨⟨kT,uh,e3,ff3,?_⟩,⟨e2,Y,?_⟩⟩
 ·rw [ho3,<- hr]
 ·rw [Z,<- hc]
def Ou (os:Os) (args:Array Xab):laidMetH Tryz.prog Rows.plainNumbersRow.laid ((World.doorLaid Tryz.prog 400 os).forCall (fun _ _=>0) ⟨#[],args,[]⟩).memory :=
 laidMetH_of_parts3 (fuel:=8) (laidMet_of_run' 8 ax ax) ax ax
def V5:Kids Tryz.prog (·<Tryz.prog.types.size):=kids_rows ax ax
def sliceB:((List.range Tryz.prog.types.size).all fun t=>match Tryz.prog.underlying t with | some (.slice e)=>decide (0<Tryz.prog.cellsOf e) | _=>true)=true:=ax
def TH {t e:TypeId} (j:t<Tryz.prog.types.size) (hu:Tryz.prog.underlying t=some (.slice e)):0<Tryz.prog.cellsOf e:=by
 have:=Zx.1 sliceB t (aw9.2 j)
 rw [hu] at this;exact Y5 this
theorem tu {H:Type} {enc:TypeId × Xab->H} {W W':World} {sp:Nat->Bool} (u:Below W.heap.size W W'):∀ {ts:List TypeId} {vs:List Xab} {ds:List (DataW H)} {ps:List MemPlace},(∀ t∈ts,t<Tryz.prog.types.size) ->
  DataW.TrodAll enc Tryz.prog W 0 (fun _=>true) true ts vs ds ps->(∀ p∈ps,p.block<W.heap.size)->(∀ p∈ps,sp p.block=true)->DataW.TrodAll enc Tryz.prog W' 0 sp true ts vs ds ps
 | [],_,_,_,_,h,_,_=>by
  obtain ⟨rfl,rfl,rfl⟩:=trodAll_nil h;exact trodAll_mk0
 | t::ts,_,_,_,G,h,hl,hs=>by
  obtain ⟨v,J,d,O,a,b,rfl,rfl,rfl,⟨n,h1⟩,h2⟩:=trodAll_cons h;exact ⟨a,b,⟨n,DataW.trod_stays V5 (fun h hu=>TH h hu) (fun h=>by cases h) (G t (bd9 ..)) h1 (fun p j=>G3 u (hl p (Zq _ j))) (fun p j=>hs p (Zq _ j))⟩,
   tu u (fun t h=>G t (Zd _ h)) h2 (fun p j=>hl p (ZE _ j)) (fun p j=>hs p (ZE _ j)),rfl⟩
def MM {H:Type} {enc:TypeId × Xab->H} {f:Func} {s:ChangeSpec} {apart fresh handsOn:Bool} {W W':World} {args:Array Xab} {v:Xab} {ds U:List (DataW H)} {before:List MemPlace} (G:s.vars=[])
  (V:DataW.Whole enc Tryz.prog f.params.toList s.vars apart W args.toList ds U before)
  (J:∀ (b:Nat) (sp:Nat->Bool) (hd:Bool),DataW.TrodAll enc Tryz.prog W' b sp hd f.resultTypes.toList (v.resultList f.resultTypes.size) (s.fn H (ds++U)).results [])
  (j:(s.fn H (ds++U)).args=ds) (ef:(s.fn H (ds++U)).vars=[]) (X:∀ t∈f.params.toList,t<Tryz.prog.types.size) (Y:Below W.heap.size W W') :
  s.post enc Tryz.prog f apart fresh handsOn false W args v W':=by
 have u:=V.lt;have O:=V;obtain ⟨p,q,hA,Z,rfl,hz,hn⟩:=V;rw [G] at Z;obtain ⟨rfl,rfl⟩:=trodVars_none Z;rw [ZQ] at u O;refine ⟨ds,[],p,[],p,[],O,J _ _ _,?_,?_,Y.frame _,fun h=>by cases h⟩
 ·rw [j];exact tu Y X hA u (fun p hp=>Y6 (u p hp))
 ·rw [ef,G] <;> rfl
def Ma {H:Type} {enc:TypeId × Xab->H} {a:Assume} {C:Checked} {os:Os} {f:FuncId} {fn:Func} {s:OpenSpec} {k:(H:Type)->List (DataW H)->Bool} (hk:s.cond=some k) {F:Stop.Interp} {conds:List PathCond} {apart fresh handsOn again:Bool} {X:World->Array Xab->Prop}
  (hX:∀ (w w':World) (args:Array Xab),w.heap=w'.heap->X w args->X w' args)
  (own:ownKnob C.prog.godebug=none) (started:os.Started) (G:C.prog.inits.idxOf? f=none) (Z:C.prog.funcs[f]?=some fn)
  (witness:∃ (w:World) (tape:Tape) (i:Input),w.os=os/\(w.forCall tape i).Shaped C.prog/\i.vars=[]/\Input.okWide C.prog (w.forCall tape i) .any w.heap.size f i /\
   ((s.pre enc C.prog fn conds apart (w.forCall tape i).memory i.args/\X (w.forCall tape i).memory i.args)/\sizedMet enc C.prog fn s apart (w.forCall tape i).memory i.args)/\a.holds C.prog (lone (Frame.enter C.prog f i.args .normal) [] (w.forCall tape i)))
  (u:∀ (W:World) (base:Nat) (args:Array Xab) (ds V:List (DataW H)) (before:List MemPlace),
   (∀ (j:Nat) t v,fn.params[j]?=some t->args[j]?=some v->Value.okWide C.prog W .any base t v) ->
   DataW.Whole enc C.prog fn.params.toList s.vars apart W args.toList ds V before->k H (ds++V)=true->X W args ->
   Calls C.prog f args W fun e W'=>∃ v,e=.returned v/\(s.at F).post enc C.prog fn apart fresh handsOn again W args v W') :
  ReturnsInHanded a C os f .any (fun w args=>(s.pre enc C.prog fn conds apart w args/\X w args)/\sizedMet enc C.prog fn s apart w args) ((s.at F).post enc C.prog fn apart fresh handsOn again):=by
 refine returnsInHanded_of_calls own started G witness ?_;intro w tape i _ _ _ hok J Y;obtain ⟨_,_,_,fn',O,_,_,_,_,U⟩:=hok;have e:fn'=fn:=Zn (O.symm.trans Z);subst e;obtain ⟨⟨hp,hx⟩,hz⟩:=J;obtain ⟨ds,V,before,hw,hc,hkk⟩:=(OpenSpec.pre_some hk conds apart _ _).1 hp;have hw':=DataW.Whole.of_heap (w':=w.forCall tape i) (by rfl) hw;refine (u (w.forCall tape i) w.heap.size i.args ds V before U hw' hkk (hX _ _ _ (by rfl) hx)).mono fun e W' ⟨v,he,hp⟩=>?_
 subst he;exact ChangeSpec.post_blind hp
def Gv {H:Type} {enc:TypeId × Xab->H} {C:Checked} {os:Os} {f:FuncId} {fn:Func} {s:OpenSpec} {k:(H:Type)->List (DataW H)->Bool} (hk:s.cond=some k) {apart:Bool} {X:World->Array Xab->Prop} (j:World) (args:Array Xab) (fuel:Nat) (G:j.os=os)
  (J:(j.forCall (fun _ _=>0) ⟨#[],args,[]⟩).Shaped C.prog)
  (u:Input.okWideB C.prog (j.forCall (fun _ _=>0) ⟨#[],args,[]⟩) f ⟨#[],args,[]⟩=true)
  {x:List (DataW H) × List (DataW H) × List MemPlace} (hx:DataW.whole enc C.prog (j.forCall (fun _ _=>0) ⟨#[],args,[]⟩).memory fn.params.toList s.vars apart args.toList fuel=some x) (O:k H (x.1++x.2.1)=true)
  (U:s.bare.sizedB enc C.prog fn apart (j.forCall (fun _ _=>0) ⟨#[],args,[]⟩).memory args fuel=true)
  (V:X (j.forCall (fun _ _=>0) ⟨#[],args,[]⟩).memory args) :
  ∃ (w:World) (tape:Tape) (i:Input),w.os=os/\(w.forCall tape i).Shaped C.prog/\i.vars=[]/\Input.okWide C.prog (w.forCall tape i) .any w.heap.size f i /\
   ((s.pre enc C.prog fn [] apart (w.forCall tape i).memory i.args/\X (w.forCall tape i).memory i.args)/\sizedMet enc C.prog fn s apart (w.forCall tape i).memory i.args)/\({}:Assume).holds C.prog (lone (Frame.enter C.prog f i.args .normal) [] (w.forCall tape i)) :=
 ⟨j,fun _ _=>0,⟨#[],args,[]⟩,G,J,(Input.okWide_of_okWideB (base:=0) u).1,(Input.okWide_of_okWideB u).2,
  ⟨⟨(OpenSpec.pre_some hk [] apart _ _).2 ⟨x.1,x.2.1,x.2.2,DataW.Whole_of_whole hx,rfl,O⟩,V⟩,sizedMet_of_sizedB U⟩,by
  simp only [Assume.holds];exact ⟨aj,aj,aj,aj,aj⟩⟩
structure wO (x:ct):Prop where
 Fs:∀ t,t∈x.ai->t.2<4294967296
 num:x.num<4294967296
structure Ug (u:bX):Prop where
 text:∀ x,x∈u.text->wO x.e
 data:∀ x,x∈u.data->wO x.e
 bh:∀ x,x∈u.bh->wO x.2
def Yu:Tryz.prog.underlying 67=some (.int .u32):=ax
def YC:Tryz.prog.underlying 21=some (.int .i32):=ax
def YD:Tryz.prog.underlying 66=some (.slice 117):=ax
def Yx:Tryz.prog.cellsOf 117=2:=ax
def Xs:Tryz.prog.cellsOf 69=2:=ax
def YW:Tryz.prog.cellsOf 66=1:=ax
def Yl:Tryz.prog.cellsOf 67=1:=ax
def YG:Tryz.prog.cellsOf 21=1:=ax
def Yv:Tryz.prog.cellsOf 65=5:=ax
def X0:Tryz.prog.cellsOf 71=10:=ax
def Yw:Tryz.prog.cellsOf 100=3:=ax
def Yf:Tryz.prog.cellsOf 43=1:=ax
def Yz:Tryz.prog.cellsOf 44=1:=ax
def YM:Tryz.prog.cellsOf 45=1:=ax
def Yq:Tryz.prog.cellsOf 47=4:=ax
def Xt:vC Tryz.prog 117=some [(9,0),(67,1)]:=ax
def YR:vC Tryz.prog 69=some [(66,0),(67,1)]:=ax
def YJ:vC Tryz.prog 65=some [(3,0),(3,1),(3,2),(21,3),(3,4)]:=ax
def XK:vC Tryz.prog 71=some [(3,0),(9,1),(65,2),(69,7),(3,9)]:=ax
def Vc:vC Tryz.prog 100=some [(9,0),(69,1)]:=ax
def Xg:vC Tryz.prog 47=some [(43,0),(43,1),(44,2),(45,3)]:=ax
section
variable {H:Type} {enc:TypeId × Xab->H} {W:World} {base n:Nat} {sp:Nat->Bool} {held:Bool} {cs:List Xab} {y:DataW H × List MemPlace}
def Lv {α:Type} {ys:List α} {a b:α} (hl:ys.length=2) (h0:ys[0]?=some a) (h1:ys[1]?=some b):ys=[a,b]:=by
 match ys,hl with
 | [x,y],_ =>
  simp only [List.getElem?_cons_zero,List.getElem?_cons_succ,Option.some.injEq] at h0 h1;subst h0 h1;rfl
def QT (t:Xaa × Nat) (cs:List Xab) (k:Nat):Prop:=cs=df t/\t.1.size<=maxLen/\t.2<4294967296/\k=t.1.size+3
def KS (h:DataW.trod enc Tryz.prog W base sp held n 117 cs=some y):∃ t,QT t cs (Rows.uptoBulk y.1):=by
 obtain ⟨ys,m,hy,hl,J,j⟩:=gb Xt h;obtain ⟨X,O,t0⟩:=j 0 _ rfl;obtain ⟨Y,g1,t1⟩:=j 1 _ rfl;have G:=Lv J O g1;rw [Yx] at hl
 match cs,hl with
 | [v,u],_ =>
  rw [show Tryz.prog.cellsOf (9,0).1=1 from c9] at t0;rw [show Tryz.prog.cellsOf (67,1).1=1 from Yl] at t1;obtain ⟨s,e0,U,hs⟩:=DataW.trod_string u9 t0;obtain ⟨k,e1,V,hk⟩:=DataW.trod_int Yu t1;have hb:=bounds_u32 hk;cases e0; cases e1;refine ⟨(s,k.toNat),?_,hs,by show k.toNat<_; omega,?_⟩
  ·unfold df;simp only [List.cons.injEq,Value.int.injEq,true_and,and_true];omega
  ·rw [hy,G,U,V];simp only [List.map_cons,List.map_nil,Rows.uptoBulk,Rows.uptoBulkAll];rw [aa9];show s.data.size+1+(1+0)+1=s.data.size+3;omega
structure Lt (h:Hp) (p:Xac) (l c:Nat) (x:ct) (k:Nat):Prop where
 vw:gW h p l x.ai
 names:∀ t,t∈x.ai->t.1.size<=maxLen
 num:wO x
 many:3*x.ai.length<=k
 size:(lE x).length<=2*k
 cap:l<=c
theorem Ay:∀ (ts:dc) (ks:List Nat),ks.length=ts.length->(∀ i,(hi:i<ts.length)->(hk:i<ks.length)->ks[i]=ts[i].1.size+3)->(ts.flatMap FA).length=2*ks.sum-(ts.map (·.1.size)).sum/\(ts.map (·.1.size)).sum+3*ts.length=ks.sum
 | [],ks,hl,_=>by
  have:ks=[]:=bi9.1 hl
  subst this
  simp
 | t::ts,[],hl,_=>by simp at hl
 | t::ts,k::ks,hl,h=>by
  have h0:=h 0 aj aj;simp only [List.getElem_cons_zero] at h0;obtain ⟨j,i2⟩:=Ay ts ks (by simpa using hl) (fun i hi hk=>h (i+1) (by simpa using hi) (by simpa using hk));have hw:(FA t).length=t.1.size+6:=by
   unfold FA jh;simp only [List.length_append,dy]
   have:t.1.data.toList.length=t.1.size:=aj
   omega
  rw [ZG,Y4,ZU,ZF,ZU,ZP,hw,j];omega
def F7 (h:DataW.trod enc Tryz.prog W base sp held n 69 cs=some y) :
  ∃ p l c x,cs=[.slice p l c,.int .u32 ((x:ct).num:Int)]/\Lt W.heap p l c x (Rows.uptoBulk y.1):=by
 obtain ⟨ys,m,hy,hl,O,j⟩:=gb YR h;obtain ⟨y0,g0,t0⟩:=j 0 _ rfl;obtain ⟨y1,g1,t1⟩:=j 1 _ rfl;have G:=Lv O g0 g1;rw [Xs] at hl
 match cs,hl with
 | [v,u],_ =>
  rw [show Tryz.prog.cellsOf (66,0).1=1 from YW] at t0;rw [show Tryz.prog.cellsOf (67,1).1=1 from Yl] at t1;obtain ⟨p,l,c,us,ks,e0,J,hsum⟩:=open_slice YD Yx QT (fun cs y n h=>KS h) t0;obtain ⟨k,e1,r1,hk⟩:=DataW.trod_int Yu t1;have hb:=bounds_u32 hk;cases e0; cases e1;have U:((k.toNat:Nat):Int)=k:=ad
  have V:Rows.uptoBulk y.1=Rows.uptoBulk y0.1+2:=by
   rw [hy,G,r1];simp only [List.map_cons,List.map_nil,Rows.uptoBulk,Rows.uptoBulkAll]
  have X:∀ i,(hi:i<us.length)->(hk:i<ks.length)->us[i].1.size<=maxLen/\us[i].2<4294967296/\ks[i]=us[i].1.size+3:=by
   intro i hi hk;obtain ⟨a,cs,_,_,_,q2,q3,q4⟩:=J.cells i hi hk;exact ⟨q2,q3,q4⟩
  have Y:=J.AX;obtain ⟨w1,w2⟩:=Ay us ks Y (fun i hi hk=>(X i hi hk).2.2);refine ⟨p,l,c,⟨us,k.toNat⟩,by rw [show ((⟨us,k.toNat⟩:ct).num:Int)=k from U],⟨J.len,fun i hi=>?_⟩,?_,⟨?_,by show k.toNat<_; omega⟩,?_,?_,J.cap⟩
  ·have hi:i<us.length:=hi;obtain ⟨a,cs,ha,hc,q1,_⟩:=J.cells i hi ad;rw [q1] at hc;exact ⟨a,ha,hc⟩
  ·intro t (Z:t∈us);obtain ⟨i,hi,rfl⟩:=Zu Z;exact (X i hi ad).1
  ·intro t (Z:t∈us);obtain ⟨i,hi,rfl⟩:=Zu Z;exact (X i hi ad).2.1
  ·show 3*us.length<=_;omega
  ·show (ua us.length 2++(us.flatMap FA++ua k.toNat 4)).length<=_;rw [Y4,Y4,dy,dy,w1];omega
def SI {α:Type} {ys:List α} {a b c d e:α} (hl:ys.length=5) (h0:ys[0]?=some a) (h1:ys[1]?=some b) (h2:ys[2]?=some c) (h3:ys[3]?=some d) (h4:ys[4]?=some e):ys=[a,b,c,d,e]:=by
 match ys,hl with
 | [j,u,G,J,O],_ =>
  simp only [List.getElem?_cons_zero,List.getElem?_cons_succ,Option.some.injEq] at h0 h1 h2 h3 h4;subst h0 h1 h2 h3 h4;rfl
def VU {α:Type} {ys:List α} {a b c d:α} (hl:ys.length=4) (h0:ys[0]?=some a) (h1:ys[1]?=some b) (h2:ys[2]?=some c) (h3:ys[3]?=some d):ys=[a,b,c,d]:=by
 match ys,hl with
 | [j,u,G,J],_ =>
  simp only [List.getElem?_cons_zero,List.getElem?_cons_succ,Option.some.injEq] at h0 h1 h2 h3;subst h0 h1 h2 h3;rfl
def L4 (h:DataW.trod enc Tryz.prog W base sp held n 65 cs=some y):∃ i:Ins,cs=ot i/\Sm i.op/\Rows.uptoBulk y.1=6:=by
 obtain ⟨ys,m,hy,hl,G,j⟩:=gb YJ h;obtain ⟨y0,J,t0⟩:=j 0 _ rfl;obtain ⟨y1,g1,t1⟩:=j 1 _ rfl;obtain ⟨y2,g2,t2⟩:=j 2 _ rfl;obtain ⟨y3,O,t3⟩:=j 3 _ rfl;obtain ⟨y4,U,t4⟩:=j 4 _ rfl;have u:=SI G J g1 g2 O U;rw [Yv] at hl
 match cs,hl with
 | [v0,v1,v2,v3,v4],_ =>
  rw [show Tryz.prog.cellsOf (3,0).1=1 from c3] at t0;rw [show Tryz.prog.cellsOf (3,1).1=1 from c3] at t1;rw [show Tryz.prog.cellsOf (3,2).1=1 from c3] at t2;rw [show Tryz.prog.cellsOf (21,3).1=1 from YG] at t3;rw [show Tryz.prog.cellsOf (3,4).1=1 from c3] at t4;obtain ⟨V,e0,X,Y⟩:=DataW.trod_int u3 t0;obtain ⟨Z,e1,r1,w1⟩:=DataW.trod_int u3 t1;obtain ⟨k2,e2,r2,w2⟩:=DataW.trod_int u3 t2;obtain ⟨k3,e3,r3,w3⟩:=DataW.trod_int YC t3;obtain ⟨k4,e4,r4,w4⟩:=DataW.trod_int u3 t4;cases e0; cases e1; cases e2; cases e3; cases e4;refine ⟨⟨V,Z,k2,k3,k4⟩,rfl,bounds_i64 Y,?_⟩;rw [hy,u,X,r1,r2,r3,r4];simp only [List.map_cons,List.map_nil,Rows.uptoBulk,Rows.uptoBulkAll]
def QI (h:Hp) (x:cE) (cs:List Xab) (k:Nat):Prop:=∃ p l c b,cs=encI p l c x/\Lt h p l c x.e b/\x.name.size<=maxLen/\Sm x.inst.op/\k=x.name.size+b+10
def Bs (h:DataW.trod enc Tryz.prog W base sp held n 71 cs=some y):∃ x,QI W.heap x cs (Rows.uptoBulk y.1):=by
 obtain ⟨ys,m,hy,hl,G,j⟩:=gb XK h;obtain ⟨y0,O,t0⟩:=j 0 _ rfl;obtain ⟨y1,g1,t1⟩:=j 1 _ rfl;obtain ⟨y2,g2,t2⟩:=j 2 _ rfl;obtain ⟨J,U,t3⟩:=j 3 _ rfl;obtain ⟨y4,V,t4⟩:=j 4 _ rfl;have u:=SI G O g1 g2 U V;rw [X0] at hl
 match cs,hl with
 | [v0,v1,v2,v3,v4,v5,v6,v7,v8,v9],_ =>
  rw [show Tryz.prog.cellsOf (3,0).1=1 from c3] at t0;rw [show Tryz.prog.cellsOf (9,1).1=1 from c9] at t1;rw [show Tryz.prog.cellsOf (65,2).1=5 from Yv] at t2;rw [show Tryz.prog.cellsOf (69,7).1=2 from Xs] at t3;rw [show Tryz.prog.cellsOf (3,9).1=1 from c3] at t4;obtain ⟨X,e0,Y,w0⟩:=DataW.trod_int u3 t0;obtain ⟨s,e1,Z,w1⟩:=DataW.trod_string u9 t1;obtain ⟨i,e2,w2,r2⟩:=L4 t2;obtain ⟨p,l,c,x,e3,lk⟩:=F7 t3;obtain ⟨k4,e4,r4,w4⟩:=DataW.trod_int u3 t4;cases e0; cases e1; cases e2; cases e3; cases e4;refine ⟨⟨X,s,i,x,k4⟩,p,l,c,_,rfl,lk,w1,w2,?_⟩;rw [hy,u,Y,Z,r4];simp only [List.map_cons,List.map_nil,Rows.uptoBulk,Rows.uptoBulkAll,r2];rw [aa9];show 1+(s.data.size+1+(6+(Rows.uptoBulk J.1+(1+0))))+1=s.data.size+Rows.uptoBulk J.1+10;omega
def QE (h:Hp) (x:ry) (cs:List Xab) (k:Nat):Prop:=∃ p l c b,cs=Uy p l c x/\Lt h p l c x.2 b/\x.1.size<=maxLen/\k=x.1.size+b+2
def N5 (h:DataW.trod enc Tryz.prog W base sp held n 100 cs=some y):∃ x,QE W.heap x cs (Rows.uptoBulk y.1):=by
 obtain ⟨ys,m,hy,hl,G,j⟩:=gb Vc h;obtain ⟨Z,O,t0⟩:=j 0 _ rfl;obtain ⟨J,g1,t1⟩:=j 1 _ rfl;have u:=Lv G O g1;rw [Yw] at hl
 match cs,hl with
 | [v0,v1,v2],_ =>
  rw [show Tryz.prog.cellsOf (9,0).1=1 from c9] at t0;rw [show Tryz.prog.cellsOf (69,1).1=2 from Xs] at t1;obtain ⟨s,e1,U,V⟩:=DataW.trod_string u9 t0;obtain ⟨p,l,c,x,X,Y⟩:=F7 t1;cases e1; cases X;refine ⟨(s,x),p,l,c,_,rfl,Y,V,?_⟩;rw [hy,u,U];simp only [List.map_cons,List.map_nil,Rows.uptoBulk,Rows.uptoBulkAll];rw [aa9];show (s.data.size+1+(Rows.uptoBulk J.1+0))+1=s.data.size+Rows.uptoBulk J.1+2;omega
def QS (x:Xaa) (cs:List Xab) (k:Nat):Prop:=cs=[.string x]/\x.size<=maxLen/\k=x.size+1
def Mf (h:DataW.trod enc Tryz.prog W base sp held n 9 cs=some y):∃ x,QS x cs (Rows.uptoBulk y.1):=by
 obtain ⟨s,e1,j,u⟩:=DataW.trod_string u9 h;refine ⟨s,e1,u,?_⟩;rw [j];simp only [Rows.uptoBulk];rw [aa9] <;> rfl
theorem hQ {α:Type} (f:α->Nat) (m:Nat):∀ (us:List α) (ks:List Nat),ks.length=us.length->(∀ i,(hi:i<us.length)->(hk:i<ks.length)->f us[i]<=m*ks[i])->(us.map f).sum<=m*ks.sum
 | [],ks,hl,_=>aj
 | u::us,[],hl,_=>by simp at hl
 | u::us,k::ks,hl,h=>by
  have h0:=h 0 aj aj;simp only [List.getElem_cons_zero] at h0;have j:=hQ f m us ks (by simpa using hl) (fun i hi hk=>h (i+1) (by simpa using hi) (by simpa using hk));rw [ZF,ZU,ZU,Nat.mul_add];omega
def Nn {h:Hp} {x:cE} {cs:List Xab} {k:Nat} (q:QI h x cs k):(HN x).length<=2*k:=by
 obtain ⟨p,l,c,b,_,j,_,_,rfl⟩:=q;have h1:=j.size;have u:(jh x.name).length=x.name.size+2:=by
  unfold jh;rw [Y4,dy]
  have:x.name.data.toList.length=x.name.size:=aj
  omega
 have hi:∀ (n:Int) (w:Nat),(CL n w).length=w:=fun n w=>by unfold CL; rw [dy]
 unfold HN;rw [Y4,hi];split
 ·omega
 ·split
  ·rw [Y4,Y4,Y4,Y4,hi,hi,hi,hi];split
   ·omega
   ·simp
    omega
  ·split
   ·rw [hi]; omega
   ·split
    ·omega
    ·split
     ·rw [hi]; omega
     ·simp
      omega
def Mb {h:Hp} {x:ry} {cs:List Xab} {k:Nat} (q:QE h x cs k):(LJ x).length<=2*k:=by
 obtain ⟨p,l,c,b,_,j,_,rfl⟩:=q;have h1:=j.size;unfold LJ jh;rw [Y4,Y4,dy]
 have:x.1.data.toList.length=x.1.size:=aj
 omega
def Jo {x:Xaa} {cs:List Xab} {k:Nat} (q:QS x cs k):(jh x).length<=2*k:=by
 obtain ⟨_,_,rfl⟩:=q;unfold jh;rw [Y4,dy]
 have:x.data.toList.length=x.size:=aj
 omega
def Hq {α:Type} (f:α->Bt) (us:List α):(us.flatMap f).length=(us.map fun u=>(f u).length).sum:=by rw [bu9]
end
theorem rQ:∀ (ks:List Nat) (i:Nat) (h:i<ks.length),ks[i]<=ks.sum
 | k::ks,0,_=>aj
 | k::ks,i+1,h=>by
  have:=rQ ks i (by simpa using h)
  simp only [List.getElem_cons_succ,List.sum_cons];omega
theorem j7 {α:Type}:∀ us:List α,(us.map fun _=>1).sum=us.length
 | []=>rfl
 | u::us=>by rw [ZF,ZU,j7 us,ZP,Nat.add_comm]
def uX {α:Type} {P:α->Prop} {us:List α} (h:∀ i,(hi:i<us.length)->P us[i]):∀ x,x∈us->P x:=fun x hx=>by
 obtain ⟨i,hi,rfl⟩:=Zu hx;exact h i hi
def Lt.at {h:Hp} {p:Xac} {l c:Nat} {x:ct} {k:Nat} (q:Lt h p l c x k) (hk:k<=2^60):ru h p l x:=⟨q.vw,by have:=q.many; omega,q.names⟩
def HW {h:Hp} {p:Xac} {l c:Nat} {us:List cE} {ks:List Nat} (s:DC (QI h) h 10 p l c us ks) (hs:ks.sum<=2^58):Dr h p l us/\(∀ x,x∈us->wO x.e)/\(us.flatMap HN).length<=2*ks.sum:=by
 have hl:=s.AX;have q:∀ i,(hi:i<us.length)->∃ a cs,p=some a/\aI h (a.add (i*10)) 0 cs/\QI h us[i] cs ks[i]:=fun i hi=>s.cells i hi ad
 have one:∀ i,(hi:i<us.length)->1<=1*ks[i]:=fun i hi=>by
  obtain ⟨_,_,_,_,_,_,_,_,_,_,_,_,hk⟩:=q i hi;omega
 have hm:us.length<=ks.sum:=by
  have:=hQ (fun _=>1) 1 us ks hl (fun i hi hk=>one i hi)
  rw [j7] at this;omega
 refine ⟨⟨s.len,ad,fun i hi=>?_⟩,uX fun i hi=>?_,?_⟩
 ·obtain ⟨a,cs,j,hc,p',l',c',b,rfl,u,hn,G,hk⟩:=q i hi
  have:=rQ ks i ad
  exact ⟨a,p',l',c',j,hc,u.at ad,hn,G⟩
 ·obtain ⟨a,cs,j,hc,p',l',c',b,rfl,u,hn,G,hk⟩:=q i hi;exact u.num
 ·rw [Hq];refine hQ _ 2 us ks hl (fun i hi hk=>?_);obtain ⟨a,cs,j,hc,J⟩:=q i hi;exact Nn J
def RB {h:Hp} {p:Xac} {l c:Nat} {us:List ry} {ks:List Nat} (s:DC (QE h) h 3 p l c us ks) (hs:ks.sum<=2^58):tQ h p l us/\(∀ x,x∈us->wO x.2)/\(us.flatMap LJ).length<=2*ks.sum:=by
 have hl:=s.AX;have q:∀ i,(hi:i<us.length)->∃ a cs,p=some a/\aI h (a.add (i*3)) 0 cs/\QE h us[i] cs ks[i]:=fun i hi=>s.cells i hi ad
 have one:∀ i,(hi:i<us.length)->1<=1*ks[i]:=fun i hi=>by
  obtain ⟨_,_,_,_,_,_,_,_,_,_,_,hk⟩:=q i hi;omega
 have hm:us.length<=ks.sum:=by
  have:=hQ (fun _=>1) 1 us ks hl (fun i hi hk=>one i hi)
  rw [j7] at this;omega
 refine ⟨⟨s.len,ad,fun i hi=>?_⟩,uX fun i hi=>?_,?_⟩
 ·obtain ⟨a,cs,j,hc,p',l',c',b,rfl,u,hn,hk⟩:=q i hi
  have:=rQ ks i ad
  exact ⟨a,p',l',c',j,hc,u.at ad,hn⟩
 ·obtain ⟨a,cs,j,hc,p',l',c',b,rfl,u,hn,hk⟩:=q i hi;exact u.num
 ·rw [Hq];refine hQ _ 2 us ks hl (fun i hi hk=>?_);obtain ⟨a,cs,j,hc,G⟩:=q i hi;exact Mb G
def RE {h:Hp} {p:Xac} {l c:Nat} {us:List Xaa} {ks:List Nat} (s:DC QS h 1 p l c us ks) (hs:ks.sum<=2^58):W3 h p l us/\(us.flatMap jh).length<=2*ks.sum:=by
 have hl:=s.AX;have q:∀ i,(hi:i<us.length)->∃ a cs,p=some a/\aI h (a.add (i*1)) 0 cs/\QS us[i] cs ks[i]:=fun i hi=>s.cells i hi ad
 have one:∀ i,(hi:i<us.length)->1<=1*ks[i]:=fun i hi=>by
  obtain ⟨_,_,_,_,_,_,hk⟩:=q i hi;omega
 have hm:us.length<=ks.sum:=by
  have:=hQ (fun _=>1) 1 us ks hl (fun i hi hk=>one i hi)
  rw [j7] at this;omega
 refine ⟨⟨s.len,ad,fun i hi=>?_⟩,?_⟩
 ·obtain ⟨a,cs,j,hc,rfl,hn,hk⟩:=q i hi;exact ⟨a,j,hc,hn⟩
 ·rw [Hq];refine hQ _ 2 us ks hl (fun i hi hk=>?_);obtain ⟨a,cs,j,hc,u⟩:=q i hi;exact Jo u
def wN {h:Hp} {p:Xac} {l c:Nat} {us:List cE} {ks:List Nat} (s:DC (QI h) h 10 p l c us ks):(∀ x,x∈us->x.e.ai.length<=ks.sum)/\us.length<=ks.sum:=by
 have hl:=s.AX;have q:∀ i,(hi:i<us.length)->∃ a cs,p=some a/\aI h (a.add (i*10)) 0 cs/\QI h us[i] cs ks[i]:=fun i hi=>s.cells i hi ad
 refine ⟨uX fun i hi=>?_,?_⟩
 ·obtain ⟨a,cs,u,hc,p',l',c',b,rfl,j,hn,G,hk⟩:=q i hi
  have:=rQ ks i ad
  have:=j.many
  omega
 ·have:=hQ (fun _=>1) 1 us ks hl (fun i hi hk=>by
   obtain ⟨_,_,_,_,_,_,_,_,_,_,_,_,hk⟩:=q i hi;omega)
  rw [j7] at this;omega
theorem Um {α:Type} (g:α->Nat):∀ us:List α,(us.map fun x=>3*g x).sum=3*(us.map g).sum
 | []=>rfl
 | u::us=>by rw [ZF,ZU,ZF,ZU,Um g us,Nat.mul_add]
def Mx {h:Hp} {p:Xac} {l c:Nat} {us:List cE} {ks:List Nat} (s:DC (QI h) h 10 p l c us ks):(us.map fun x=>3*x.e.ai.length).sum<=ks.sum:=by
 have:=hQ (fun x:cE=>3*x.e.ai.length) 1 us ks s.AX (fun i hi hk=>by
  obtain ⟨a,cs,u,hc,p',l',c',b,_,j,hn,G,hk⟩:=s.cells i hi hk
  have:=j.many
  omega)
 omega
def Tj {h:Hp} {p:Xac} {l c:Nat} {us:List ry} {ks:List Nat} (s:DC (QE h) h 3 p l c us ks):(us.map fun x=>3*x.2.ai.length).sum<=ks.sum:=by
 have:=hQ (fun x:ry=>3*x.2.ai.length) 1 us ks s.AX (fun i hi hk=>by
  obtain ⟨a,cs,u,hc,p',l',c',b,_,j,hn,hk⟩:=s.cells i hi hk
  have:=j.many
  omega)
 omega
def GR {h:Hp} {p:Xac} {l c:Nat} {us:List ry} {ks:List Nat} (s:DC (QE h) h 3 p l c us ks):(∀ x,x∈us->x.2.ai.length<=ks.sum)/\us.length<=ks.sum:=by
 have hl:=s.AX;have q:∀ i,(hi:i<us.length)->∃ a cs,p=some a/\aI h (a.add (i*3)) 0 cs/\QE h us[i] cs ks[i]:=fun i hi=>s.cells i hi ad
 refine ⟨uX fun i hi=>?_,?_⟩
 ·obtain ⟨a,cs,u,hc,p',l',c',b,rfl,j,hn,hk⟩:=q i hi
  have:=rQ ks i ad
  have:=j.many
  omega
 ·have:=hQ (fun _=>1) 1 us ks hl (fun i hi hk=>by
   obtain ⟨_,_,_,_,_,_,_,_,_,_,_,hk⟩:=q i hi;omega)
  rw [j7] at this;omega
def Ov {h:Hp} {p:Xac} {l c:Nat} {us:List Xaa} {ks:List Nat} (s:DC QS h 1 p l c us ks):us.length<=ks.sum:=by
 have hl:=s.AX;have q:∀ i,(hi:i<us.length)->∃ a cs,p=some a/\aI h (a.add (i*1)) 0 cs/\QS us[i] cs ks[i]:=fun i hi=>s.cells i hi ad
 have:=hQ (fun _=>1) 1 us ks hl (fun i hi hk=>by
  obtain ⟨_,_,_,_,_,_,hk⟩:=q i hi;omega)
 rw [j7] at this;omega
structure IZ (h:Hp) (a b c d:cz) (u:bX) (N:Nat):Prop where
 at_:oB h a b c d u
 num:Ug u
 size:(Xz u).length<=2*N+13
 small:(∀ x,x∈u.text->x.e.ai.length<=N)/\(∀ x,x∈u.data->x.e.ai.length<=N)/\(∀ x,x∈u.bh->x.2.ai.length<=N)/\u.aU.length<=N/\u.text.length<=N/\u.data.length<=N/\u.bh.length<=N
 cap:a.l<=a.c
 U1:3*((Lk.cv u).flatMap (·.ai)).length<=N
 jE:u.text.length+u.data.length+u.bh.length+u.aU.length<=N
 pos:1<=N
def S9 {h:Hp} {a b c d:cz} {u:bX} {N:Nat} (s:IZ h a b c d u N):1<=N:=s.pos
section
variable {H:Type} {enc:TypeId × Xab->H} {W:World} {base n:Nat} {sp:Nat->Bool} {held:Bool} {cs:List Xab} {y:DataW H × List MemPlace}
def yr (h:DataW.trod enc Tryz.prog W base sp held n 47 cs=some y) (hN:Rows.uptoBulk y.1<=2^50):∃ a b c d u,cs=[cz.v a,cz.v b,cz.v c,cz.v d]/\IZ W.heap a b c d u (Rows.uptoBulk y.1):=by
 obtain ⟨ys,m,hy,hl,X,j⟩:=gb Xg h;obtain ⟨y0,g0,t0⟩:=j 0 _ rfl;obtain ⟨y1,g1,t1⟩:=j 1 _ rfl;obtain ⟨y2,g2,t2⟩:=j 2 _ rfl;obtain ⟨y3,g3,t3⟩:=j 3 _ rfl;have U:=VU X g0 g1 g2 g3;rw [Yq] at hl
 match cs,hl with
 | [v0,v1,v2,v3],_ =>
  rw [show Tryz.prog.cellsOf (43,0).1=1 from Yf] at t0;rw [show Tryz.prog.cellsOf (43,1).1=1 from Yf] at t1;rw [show Tryz.prog.cellsOf (44,2).1=1 from Yz] at t2;rw [show Tryz.prog.cellsOf (45,3).1=1 from YM] at t3;obtain ⟨p0,l0,k0,G,b0,e0,s0,m0⟩:=open_slice SY X0 (QI W.heap) (fun cs y n h=>Bs h) t0;obtain ⟨p1,l1,k1,J,b1,e1,s1,m1⟩:=open_slice SY X0 (QI W.heap) (fun cs y n h=>Bs h) t1;obtain ⟨p2,l2,k2,O,b2,e2,V,m2⟩:=open_slice WA Yw (QE W.heap) (fun cs y n h=>N5 h) t2;obtain ⟨p3,l3,k3,u3,b3,e3,Y,m3⟩:=open_slice H5 c9 QS (fun cs y n h=>Mf h) t3;cases e0; cases e1; cases e2; cases e3;have hb:Rows.uptoBulk y.1=Rows.uptoBulk y0.1+Rows.uptoBulk y1.1+Rows.uptoBulk y2.1+Rows.uptoBulk y3.1+1:=by
   rw [hy,U];simp only [List.map_cons,List.map_nil,Rows.uptoBulk,Rows.uptoBulkAll];omega
  obtain ⟨x0,n0,w0⟩:=HW s0 ad;obtain ⟨x1,n1,w1⟩:=HW s1 ad;obtain ⟨x2,n2,w2⟩:=RB V ad;obtain ⟨x3,w3⟩:=RE Y ad;refine ⟨⟨p0,l0,k0⟩,⟨p1,l1,k1⟩,⟨p2,l2,k2⟩,⟨p3,l3,k3⟩,⟨G,J,O,u3⟩,rfl,⟨x0,x1,x2,x3⟩,⟨n0,n1,n2⟩,?_,⟨fun x hx=>by have:=(wN s0).1 x hx; omega,fun x hx=>by have:=(wN s1).1 x hx; omega,fun x hx=>by have:=(GR V).1 x hx; omega,by have:=Ov Y; show u3.length<=_; omega,by have:=(wN s0).2; show G.length<=_; omega,by have:=(wN s1).2; show J.length<=_; omega,by have:=(GR V).2; show O.length<=_; omega⟩,s0.cap,?_,?_,ad⟩
  ·show (NI++(Cz HN G++(Cz HN J++(Cz LJ O++Cz jh u3)))).length<=_;unfold Cz;simp only [List.length_append,dy];rw [show NI.length=5 from rfl];omega
  ·show 3*((Lk.cv ⟨G,J,O,u3⟩).flatMap (·.ai)).length<=_;have i0:=Mx s0;have Z:=Mx s1;have i2:=Tj V;rw [Um] at i0 Z i2;unfold Lk.cv;rw [ab9,ab9,Y4,Y4,List.flatMap_map,List.flatMap_map,List.flatMap_map,bu9,bu9,bu9];show 3*((G.map fun x=>x.e.ai.length).sum+(J.map fun x=>x.e.ai.length).sum+(O.map fun x=>x.2.ai.length).sum)<=_;omega
  ·have i0:=(wN s0).2;have Z:=(wN s1).2;have i2:=(GR V).2;have i3:=Ov Y;show G.length+J.length+O.length+u3.length<=_;omega
def MC:Tryz.prog.underlying 30=some (.slice 47):=ax
def QU (h:Hp) (u:bX) (cs:List Xab) (k:Nat):Prop:=k<=2^50->∃ a b c d,cs=[cz.v a,cz.v b,cz.v c,cz.v d]/\IZ h a b c d u k
def NN (h:DataW.trod enc Tryz.prog W base sp held n 47 cs=some y):∃ u,QU W.heap u cs (Rows.uptoBulk y.1):=by
 by_cases hk:Rows.uptoBulk y.1<=2^50
 ·obtain ⟨a,b,c,d,u,h1,h2⟩:=yr h hk;exact ⟨u,fun _=>⟨a,b,c,d,h1,h2⟩⟩
 ·exact ⟨⟨[],[],[],[]⟩,fun h=>absurd h hk⟩
structure Vo (h:Hp) (p:Xac) (l c:Nat) (us:List bX) (N:Nat):Prop where
 vw:uH h p l us
 sm:N<=2^20->Lk.Gj us
 U1:3*((us.flatMap Lk.cv).flatMap (·.ai)).length<=N
 cap:l<=c
 Vd:c<=maxLen
 nil:p=none->c=0
def Hr {b0:Nat} {v:Xab} {d:DataW H} {ps:List MemPlace} (J:Value.okWide Tryz.prog W .any b0 30 v) (h:DataW.Trod enc Tryz.prog W base sp held 30 v d ps) (X:Rows.uptoBulk d<=2^50) :
  ∃ p l c us,v=.slice p l c/\Vo W.heap p l c us (Rows.uptoBulk d):=by
 obtain ⟨p,l,c,rfl⟩:=okWide_slice MC J;obtain ⟨fuel,h⟩:=h;have j:(Value.slice p l c).cells.toList=[.slice p l c]:=rfl;rw [j] at h;obtain ⟨p',l',c',us,ks,e0,s,hs⟩:=open_slice MC Yq (QU W.heap) (fun cs y n h=>NN h) h;cases e0;have hl:=s.AX;have hs:ks.sum+1<=Rows.uptoBulk d:=hs;have q:∀ i,(hi:i<us.length)->∃ a sa sb sc sd,p=some a/\aI W.heap (a.add (i*4)) 0 [cz.v sa,cz.v sb,cz.v sc,cz.v sd]/\IZ W.heap sa sb sc sd us[i] (ks[i]'ad):=by
  intro i hi;obtain ⟨a,cs,G,hc,O⟩:=s.cells i hi ad
  have:=rQ ks i ad
  obtain ⟨sa,sb,sc,sd,rfl,hu⟩:=O ad;exact ⟨a,sa,sb,sc,sd,G,hc,hu⟩
 have pos:∀ i,(hi:i<us.length)->1<=ks[i]'ad:=by
  intro i hi;obtain ⟨a,sa,sb,sc,sd,G,hc,hu⟩:=q i hi;exact S9 hu
 have hm:us.length<=ks.sum:=by
  have:=hQ (fun _=>1) 1 us ks hl (fun i hi hk=>by have:=pos i hi; omega)
  rw [j7] at this;omega
 have U:3*((us.flatMap Lk.cv).flatMap (·.ai)).length<=ks.sum:=by
  have:=hQ (fun u:bX=>3*((Lk.cv u).flatMap (·.ai)).length) 1 us ks hl (fun i hi hk=>by
   obtain ⟨a,sa,sb,sc,sd,G,hc,hu⟩:=q i hi
   have:=hu.U1
   omega)
  rw [Um] at this;rw [List.flatMap_assoc,bu9];omega
 refine ⟨p,l,c,us,rfl,⟨⟨s.len,ad,fun i hi=>?_⟩,fun V=>⟨ad,?_,?_,ad⟩,ad,s.cap,s.Vd,s.nil⟩⟩
 ·obtain ⟨a,sa,sb,sc,sd,G,hc,hu⟩:=q i hi;exact ⟨a,sa,sb,sc,sd,G,hc,hu.at_⟩
 ·have:=hQ (fun u:bX=>u.text.length+u.data.length+u.bh.length+u.aU.length) 1 us ks hl (fun i hi hk=>by
   obtain ⟨a,sa,sb,sc,sd,G,hc,hu⟩:=q i hi
   have:=hu.jE
   omega)
  unfold Lk.oM;omega
 ·refine uX fun i hi=>?_
  obtain ⟨a,sa,sb,sc,sd,G,hc,hu⟩:=q i hi;intro x hx;unfold Lk.cv at hx;simp only [List.mem_append,List.mem_map] at hx;rcases hx with (⟨y,hy,rfl⟩ | ⟨y,hy,rfl⟩) | ⟨y,hy,rfl⟩
  ·exact ⟨(hu.num.text y hy).num,(hu.num.text y hy).Fs⟩
  ·exact ⟨(hu.num.data y hy).num,(hu.num.data y hy).Fs⟩
  ·exact ⟨(hu.num.bh y hy).num,(hu.num.bh y hy).Fs⟩
end
def zh {W:World} (h:laidMetH Tryz.prog Rows.plainNumbersRow.laid W):∃ e f,W.heap[0]?=some (.cells Cr.opsV.toArray e f):=by
 rw [MakeChecks.laidMetH_plain _ _ _ ax] at h;obtain ⟨ps,⟨g0,t0,V,f0,p0,q0,X,Y,Z,hd0,⟨g1,t1,cs1,f1,p1,q1,hg1,ht1,hv1,hd1,⟨g2,t2,cs2,f2,p2,q2,hg2,ht2,hv2,hd2,⟨g3,t3,cs3,f3,p3,q3,j,u,G,J,_,_⟩,_⟩,_⟩,_⟩,_,_⟩:=h;obtain rfl:=Zn ((show Tryz.prog.globalNamed _=some 0 from ax).symm.trans j);have h3:(Tryz.prog.globals[0]?).map (·.type)=some 155:=ax
 obtain rfl:=Zn (h3.symm.trans u);have hr:=B8 J;obtain ⟨e3,O,U⟩:=CW j G;exact ⟨e3,O,by rw [U,show Cr.opsV=jc kT uh from rfl,<- hr]⟩
open Go.ChangeMaps
def yn:(Tryz.f6.params.toList.all fun t=>decide (t<Tryz.prog.types.size))=true:=ax
def yv:Tryz.prog.inPlace 6=Rows.plainMoreUptoRow.inPlace:=ax
def yD:Tryz.prog.unfollowed 6=Rows.plainMoreUptoRow.unfollowed:=ax
def yy:Tryz.prog.recurses 6=Rows.plainMoreUptoRow.recurses:=ax
def yO:Tryz.prog.varsNamed 6=Rows.plainMoreUptoRow.named:=ax
def yh:joinedFacts Tryz.prog 6 Tryz.f6 (Rows.OpenSpec.upto Rows.plainMoreSpec).bare Rows.plainMoreUptoRow=true:=by
 unfold joinedFacts;rw [yv,yD,yy,yO]
 kernel_rfl
def xi (os:Os) (started:os.Started) (H:Type) (enc:TypeId × Xab->H) (F:Stop.Interp) :
  ReturnsInHanded {} Tryz.checked os 6 .any (fun w args=>((Rows.OpenSpec.upto Rows.plainMoreSpec).pre enc Tryz.prog Tryz.f6 [] false w args/\laidMetH Tryz.prog Rows.plainMoreUptoRow.laid w)/\sizedMet enc Tryz.prog Tryz.f6 (Rows.OpenSpec.upto Rows.plainMoreSpec) false w args)
   (((Rows.OpenSpec.upto Rows.plainMoreSpec).at F).post enc Tryz.prog Tryz.f6 false true false false):=by
 refine Ma (k:=Rows.uptoSmall) rfl (C:=Tryz.checked) (X:=fun w _=>laidMetH Tryz.prog Rows.plainMoreUptoRow.laid w) (fun _ _ _ hh h=>h.of_heap hh) XR started ax Tryz.func6
  (Gv (k:=Rows.uptoSmall) rfl (C:=Tryz.checked) (os:=os) (X:=fun w _=>laidMetH Tryz.prog Rows.plainMoreUptoRow.laid w) (World.doorLaid Tryz.prog 400 os) #[.slice none 0 0] 8 rfl (World.shaped_of_RefB ax ax) ax (x:=([.nil],[],[])) ax rfl ax (Ou os _)) ?_
 intro W base args ds gs before u hW hk Z;have G:∀ (j:Nat) t v,Tryz.f6.params[j]?=some t->args[j]?=some v->Value.okWide Tryz.prog W .any base t v:=u
 have J:=hW;obtain ⟨p,q,O,hV,rfl,hfz,hnd⟩:=hW;have hA:DataW.TrodAll enc Tryz.prog W 0 (fun _=>true) true Tryz.f6.params.toList args.toList ds p:=O;have hpf:Tryz.f6.params=#[30]:=ax
 rw [hpf] at hA G;clear O u;obtain ⟨v0,vs0,d0,ds0,p0,q0,U,rfl,rfl,t0,hA1⟩:=trodAll_cons hA;obtain ⟨rfl,rfl,rfl⟩:=trodAll_nil hA1;obtain ⟨args⟩:=args;simp only at U;subst U;have hk:=Y5 hk;have V:=hk;simp only [List.append_nil,nA,cA] at V;obtain ⟨rfl,rfl⟩:=trodVars_none hV;obtain ⟨a0,l0,c0,x0,rfl,h0⟩:=Hr (G 0 30 v0 rfl rfl) t0 (by simp only [Rows.uptoBulkAll] at V; omega);simp only [List.append_nil] at J;simp only [List.append_nil,List.nil_append,List.cons_append,Rows.uptoBulkAll] at hk;refine (Od (Pn.MB (Px Z).2 (by obtain ⟨e,f,Y⟩:=zh Z; exact ⟨uh,e,f,Y⟩) (zh Z) (fun h2 e2=>Cr.LN (by obtain ⟨e,f,Y⟩:=zh Z; exact ⟨e,f,e2.get Y aj⟩)) (su:=⟨a0,l0,c0⟩) h0.vw (h0.sm ad) (by have:=h0.U1; omega)) (fun _ _ h=>h.2)).mono fun e W' ⟨v,he,hB,hv,_⟩=>?_
 subst he hv;exact ⟨_,rfl,MM rfl J (fun _ _ _=>trodAll_mk1 (shut_bool u4 _)) rfl rfl (fun t Y=>Y5 (Zx.1 yn t Y)) hB⟩
def yB:Rows.PlainMoreUptoSaid :=
 OpenClaim.holds_of_cond 6 Tryz.f6 rfl rfl rfl rfl rfl rfl rfl ⟨rfl,rfl,rfl,rfl,rfl⟩ rfl rfl rfl rfl rfl ax Tryz.func6 yh
  (Y5 ax) (by unfold Func.isWrapper; first | (rw [Y8 (by decide +kernel)]; kernel_rfl) | (rw [Y2 (by decide +kernel)]; exact ⟨rfl,rfl⟩))
  (fun os started H enc _ F=>xi os started H enc F)
end Go.Sx.Ob
