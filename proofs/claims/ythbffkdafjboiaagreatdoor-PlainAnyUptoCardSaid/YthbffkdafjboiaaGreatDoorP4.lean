/- Contracts over heaps, part 4. Condition: as each statement says. -/
import Derived.Test.YthbffkdafjboiaaGreatDoorP3
import Derived.Test.YthbffkdafjboiaaGreatDoorBtG
set_option linter.all false
set_option maxRecDepth 100000
set_option maxHeartbeats 4000000
namespace Go.Sx.Lk
open Go.Proofs Go.Sx.Ob
def uN {es:List cL} {s:Xaa} {j:Nat} (h:kE es s=some j):∃ e,es[j]?=some e/\e.name=s:=by
 unfold kE at h;rw [YX] at h;obtain ⟨d,h1,_⟩:=h;exact ⟨es[j],Yv d,by simpa using h1⟩
def RO {es:List cL} (hn:(bd es).Nodup) {i j:Nat} {d e:cL} (hi:es[i]?=some d) (u:es[j]?=some e) (h:d.name=e.name):i=j:=by
 obtain ⟨h1,rfl⟩:=YO.1 hi;obtain ⟨h2,rfl⟩:=YO.1 u;refine (List.getElem_inj (h₀:=by unfold bd; rw [Yu]; exact h1) (h₁:=by unfold bd; rw [Yu]; exact h2) hn).1 ?_;unfold bd;rw [YE,YE];exact h
def Jp {es:List cL} (hn:(bd es).Nodup) {k j:Nat} {e:cL} (G:es[k]?=some e) {t:Xaa × Nat} (J:t∈e.x.ai) (F:kE es t.1=some j):∃ d,es[j]?=some d/\dp es e.name d.name:=by
 obtain ⟨d,O,u⟩:=uN F;refine ⟨d,O,?_,?_⟩
 ·rw [lz,qe hn (Zp G)];exact ⟨t,J,u.symm⟩
 ·unfold cz;rw [u,F] <;> rfl
def Re {es:List cL} (hn:(bd es).Nodup) {k:Nat} {e:cL} (G:es[k]?=some e) {z:Xaa} (h:dp es e.name z):∃ t,t∈e.x.ai/\∃ j d,kE es t.1=some j/\es[j]?=some d/\d.name=z:=by
 obtain ⟨h1,h2⟩:=h;rw [lz,qe hn (Zp G)] at h1;obtain ⟨t,J,rfl⟩:=h1;unfold cz at h2;obtain ⟨j,F⟩:=Zu.1 h2;obtain ⟨d,O,u⟩:=uN F;exact ⟨t,J,j,d,F,O,u⟩
structure pK (es:List cL) (i0:Nat) (a:Xaa) (kc i:Nat) (W:List Nat) (sn:List Bool):Prop where
 len:sn.length=es.length
 S6:∀ w,w∈W->∃ e,es[w]?=some e/\pU (dp es) a e.name
 src:sn[i0]?≠some true
 cl:∀ k e,es[k]?=some e->(k=i0\/sn[k]?=some true)->k∉W->∀ m t,e.x.ai[m]?=some t->(k=kc->m<i)->∀ j,kE es t.1=some j->j≠i0/\sn[j]?=some true
variable {es:List cL} {i0 kc i:Nat} {a:Xaa} {W:List Nat} {sn:List Bool}
def pK.start {e:cL} (d:es[i0]?=some e) (u:e.name=a):pK es i0 a es.length 0 [i0] (List.replicate es.length false):=by
 have j:∀ k:Nat,(List.replicate es.length false)[k]?≠some true:=by
  intro k h
  have:=Zp h
  rw [List.mem_replicate] at this;cases this.2
 refine ⟨aj,fun w hw=>?_,j i0,fun k e d h hk=>?_⟩
 ·rw [YP] at hw;subst hw;exact ⟨e,d,by rw [u]; exact .refl _⟩
 ·rcases h with h | h
  ·subst h; simp at hk
  ·exact absurd h (j k)
def pK.pop (s:pK es i0 a es.length 0 (W++[kc]) sn):pK es i0 a kc 0 W sn/\∃ e,es[kc]?=some e/\pU (dp es) a e.name:=by
 refine ⟨⟨s.len,fun w hw=>s.S6 w (by simp [hw]),s.src,fun k e u h hk m t F hm j G=>?_⟩,s.S6 kc aj⟩
 by_cases d:k=kc
 ·exact absurd (hm d) ad
 ·refine s.cl k e u h (by simp [hk,d]) m t F (fun J=>?_) j G;obtain ⟨hl,_⟩:=YO.1 u;omega
def pK.skip (s:pK es i0 a kc i W sn) {e:cL} (U:es[kc]?=some e) {t:Xaa × Nat} (V:e.x.ai[i]?=some t) (h:∀ j,kE es t.1=some j->j≠i0/\sn[j]?=some true):pK es i0 a kc (i+1) W sn:=by
 refine ⟨s.len,s.S6,s.src,fun k d G X hk m u hu hm j O=>?_⟩
 by_cases hc:k=kc/\m=i
 ·obtain ⟨rfl,rfl⟩:=hc;rw [U] at G;cases G;rw [V] at hu;cases hu;exact h j O
 ·refine s.cl k d G X hk m u hu (fun F=>?_) j O
  have:=hm F
  have:m≠i:=fun J=>hc ⟨F,J⟩
  omega
def pK.push (s:pK es i0 a kc i W sn) (hn:(bd es).Nodup) {e:cL} (he:es[kc]?=some e) (hr:pU (dp es) a e.name) {t:Xaa × Nat} (ht:e.x.ai[i]?=some t) {j:Nat} (hj:kE es t.1=some j) (h0:j≠i0) :
  pK es i0 a kc (i+1) (W++[j]) (sn.set j true):=by
 obtain ⟨d,hd,U⟩:=Jp hn he (Zp ht) hj;obtain ⟨V,_⟩:=YO.1 hd;have G:(sn.set j true)[j]?=some true:=by rw [aa9 (by rw [s.len]; exact V)]
 have X:∀ x:Nat,sn[x]?=some true->(sn.set j true)[x]?=some true:=by
  intro x hx
  by_cases J:j=x
  ·subst J; exact G
  ·rw [ZS J]; exact hx
 refine ⟨by rw [Zy]; exact s.len,fun w hw=>?_,by rw [ZS h0]; exact s.src,fun k f Y hh hk m u hu hm j' F=>?_⟩
 ·rw [YN,YP] at hw;rcases hw with hw | rfl
  ·exact s.S6 w hw
  ·exact ⟨d,hd,hr.trans (.one U)⟩
 ·rw [YN,YP] at hk;have Z:j≠k:=fun e=>hk (Or.inr e.symm)
  rw [ZS Z] at hh
  by_cases hc:k=kc/\m=i
  ·obtain ⟨rfl,rfl⟩:=hc;rw [he] at Y;cases Y;rw [ht] at hu;cases hu;rw [hj] at F;cases F;exact ⟨h0,G⟩
  ·obtain ⟨h1,h2⟩:=s.cl k f Y hh (fun hx=>hk (Or.inl hx)) m u hu (fun O=>by
    have:=hm O
    have:m≠i:=fun hmi=>hc ⟨O,hmi⟩
    omega) j' F
   exact ⟨h1,X _ h2⟩
def pK.done (s:pK es i0 a kc i W sn) {e:cL} (J:es[kc]?=some e) (hi:e.x.ai.length<=i):pK es i0 a es.length 0 W sn:=by
 refine ⟨s.len,s.S6,s.src,fun k d F O hk m u hu hm j U=>s.cl k d F O hk m u hu (fun G=>?_) j U⟩;subst G;rw [J] at F;cases F;obtain ⟨hl,_⟩:=YO.1 hu;omega
def pK.no (s:pK es i0 a es.length 0 [] sn) (hn:(bd es).Nodup) {e:cL} (u:es[i0]?=some e) (U:e.name=a):¬ kB (dp es) a:=by
 have F:∀ k e,es[k]?=some e->(k=i0\/sn[k]?=some true)->∀ z,dp es e.name z->∃ j d,es[j]?=some d/\d.name=z/\j≠i0/\sn[j]?=some true:=by
  intro k e u h z X;obtain ⟨t,Y,j,d,Z,G,J⟩:=Re hn u X;obtain ⟨m,hm⟩:=List.getElem?_of_mem Y;obtain ⟨hkl,_⟩:=YO.1 u;obtain ⟨h1,h2⟩:=s.cl k e u h aj m t hm (fun hh=>ad) j Z;exact ⟨j,d,G,J,h1,h2⟩
 have key:∀ y z,pU (dp es) y z->z=a->(∃ j d,es[j]?=some d/\d.name=y/\j≠i0/\sn[j]?=some true)->False:=by
  intro y z r
  induction r with
  | refl y =>
   rintro rfl ⟨j,d,G,O,h1,_⟩;exact h1 (RO hn G u (O.trans U.symm))
  | head hE r ih =>
   rintro rfl ⟨j,d,G,rfl,h1,h2⟩;exact ih rfl (F j d G (Or.inr h2) _ hE)
 rintro ⟨y,V,r⟩;rw [<- U] at V;exact key y a r rfl (F i0 e u (Or.inl rfl) y V)
def Rh (hn:(bd es).Nodup) {e:cL} (F:es[kc]?=some e) (G:pU (dp es) a e.name) {t:Xaa × Nat} (J:t∈e.x.ai) {d:cL} (O:es[i0]?=some d) (U:d.name=a) (V:kE es t.1=some i0):kB (dp es) a:=by
 obtain ⟨d',u,j⟩:=Jp hn F J V;rw [O] at u;cases u;rw [U] at j;cases G with
 | refl _=>exact ⟨_,j,.refl _⟩
 | head h1 h2=>exact ⟨_,h1,h2.trans (.one j)⟩
def T6:Tryz.prog.underlying 223=some (.slice 4):=az
def WD:(Tryz.prog.info? 4).map (fun i=>(i.zero,i.size,i.bytes))=some (some (.bool false),1,1):=az
def Dq:Tryz.prog.underlying 31=some (.slice 3):=az
def RI:(Tryz.prog.info? 3).map (fun i=>(i.zero,i.size,i.bytes))=some (some (.int .i64 0),1,8):=az
def Sw (b:Bool):List Xab:=[.bool b]
def Ll (n:Nat):List Xab:=[.int .i64 (n:Int)]
def NJ {α:Type} (f:α->Xab) (l:List α):(l.map fun x=>[f x]).flatten=l.map f:=by
 induction l with
 | nil=>rfl
 | cons a l d=>rw [Zb,Z0,d]; rfl
def WA {h:Hp} {g:Nat} {e:TypeId} {sz:Nat} {cells:List Xab} (xs:List (List Xab)) (b:bI h g e cells) (hc:cells=xs.flatten) (hl:∀ x,x∈xs->x.length=sz) (hn:xs.length<9223372036854775808):SL h g e sz (some ⟨g,0,none⟩) xs.length xs.length xs:=by
 subst hc;exact ⟨rfl,hl,g,[],[],rfl,YI _,⟨YI _,hn⟩,by simpa using b,aj⟩
def D4 (n:Int):Instr.fill (fun j=>some (j*1,1)) ((Array.range (1*1)).map ((Value.int .i64 0).cells[· % (Value.int .i64 0).cells.size]!)) [(0,.int .i64 n)]=some ([.int .i64 n]:List Xab).toArray:=az
def M6 {L:Lp} {K:Xab->Hp->Prop} {h:Hp} {n:Nat} (hn:n<=2^40) {k:Xac->Nat->Nat->T} (hk:∀ h',SL h' h.size 4 1 (some ⟨h.size,0,none⟩) n n ((List.replicate n false).map Sw)->Ext h h'->h'.size=h.size+1->k (some ⟨h.size,0,none⟩) n n L K h') :
  T.ek Tryz.prog (Instr.makeSlice 223 (.int .i64 (n:Int)) (.int .i64 (n:Int))) false [(false,[.slice 0])] k L K h:=by
 obtain ⟨i5,d,j,u,F⟩:=nu WD;refine du (lu (l:=n) (c:=n) T6 d j (YI _) (by rw [F]; omega) ad ?_);intro h14 G J O;refine ⟨_,_,_,rfl,hk h14 ?_ J O⟩;have hc:(List.range (n*i5.size)).map ((Value.bool false).cells[· % (Value.bool false).cells.size]!)=((List.replicate n false).map Sw).flatten:=by
  rw [u,Nat.mul_one];show _=((List.replicate n false).map fun b=>[Value.bool b]).flatten;rw [NJ];apply bq9
  ·simp
  ·intro i h1 h2;rw [YE,YE,List.getElem_replicate];show (#[Value.bool false]:Array Xab)[((List.range n)[i]'(by simpa using h1)) % 1]! = _;rw [Nat.mod_one] <;> rfl
 have:=WA ((List.replicate n false).map Sw) G hc (fun x hx=>by obtain ⟨b,_,rfl⟩:=YF.1 hx; rfl) (by simp; omega)
 rw [Yu,bf9] at this;exact this
def nF (sn:List Bool):Nat:=sn.count false
theorem Nu:∀ (sn:List Bool) (j:Nat),sn[j]?=some false->nF (sn.set j true)+1=nF sn
 | [],j,h=>by simp at h
 | b::l,0,h=>by
  simp at h;subst h;simp [nF]
 | b::l,j+1,h=>by
  have d:=Nu l j (by simpa using h);unfold nF at d ⊢;rw [List.set_cons_succ,List.count_cons,List.count_cons];omega
def PX (sn:List Bool) (j:Nat):(sn.map Sw).set j [.bool true]=(sn.set j true).map Sw:=by rw [ax9]; rfl
def LV (p:Xac) (c:Nat):(if c=0 then p else Option.map (fun a=>Addr.add a 0) p)=p:=by
 split
 ·rfl
 ·cases p with
  | none=>rfl
  | some a=>show some (a.add 0)=some a; rw [add_zero']
open Classical in
def Qn {h:Hp} {p:Xac} {l c:Nat} {es:List cL} (v:uf h p l es) (hn:(bd es).Nodup) (hl:es.length<=2^40) (ht:∀ e,e∈es->e.x.ai.length<=2^40) {i0:Nat} {e0:cL} (he0:es[i0]?=some e0) :
  HC Tryz.prog 100 #[.slice p l c,.int .i64 (i0:Int),.int .i64 (i0:Int)] h fun w h'=>Ext h h'/\w=.bool (decide (kB (dp es) e0.name)):=by
 refine aY (args:=[.slice p l c,.int .i64 (i0:Int),.int .i64 (i0:Int)]) mixed Tryz.func100 az (pP p l c i0 i0) ?_;unfold kW bf bg bz aK ct bt bm bC dy aP bR dl;obtain rfl:=v.len;obtain ⟨hi0,_⟩:=YO.1 he0;refine M6 hl ?_;intro h1 sB1 e1 z1;refine jC Dq RI ad ad (D4 _) ?_;intro h2 b2 e2 z2;have sW2:SL h2 h1.size 3 1 (some ⟨h1.size,0,none⟩) 1 1 ([i0].map Ll):=WA [[.int .i64 (i0:Int)]] b2 rfl aj aj;have sB2:=sB1.bP e2 aj;have e02:=e1.trans e2;refine aS (cs:=[(false,[.bool]),(false,[.slice 0])]) (fun y m h'=>∃ (W:List Nat) (sn:List Bool),m=nF sn+W.length/\m<=es.length+1/\Ext h h'/\h1.size<=h'.size/\SL h' h.size 4 1 (some ⟨h.size,0,none⟩) es.length es.length (sn.map Sw)/\SL h' h1.size 3 1 y.2.1.1 y.2.1.2.1 y.2.1.2.2 (W.map Ll)/\pK es i0 e0.name es.length 0 W sn)
  (false,(some ⟨h1.size,0,none⟩,1,1),()) _ rfl ⟨[i0],List.replicate es.length false,rfl,by simp [nF],e02,ad,sB2,sW2,pK.start he0 rfl⟩ ?_
 rintro ⟨b9,⟨p10,l11,l12⟩,⟨⟩⟩ m h3 ⟨W,sn,rfl,hM,e3,z3,sB3,U,I3⟩;simp only at U;refine ak ?_;have V:l11=W.length:=by have:=U.1; rwa [Yu] at this
 have hWn:∀ w,w∈W->w<es.length:=fun w hw=>by
  obtain ⟨e,he,_⟩:=I3.S6 w hw;exact (YO.1 he).1
 refine aM (fun g1=>?_) (fun g1=>?_)
 ·rcases List.eq_nil_or_concat W with rfl | ⟨O,kc,rfl⟩
  ·simp at V; omega
  ·rw [List.concat_eq_append] at V U I3 hWn hM;have hM':nF sn+(O.length+1)<=es.length+1:=by simpa using hM
   have V:l11=O.length+1:=by simpa using V
   subst V;obtain ⟨I4,e,he,hr⟩:=I3.pop;have hkc:=(YO.1 he).1;have hem:=Zp he;have hw1:IntKind.wrap .i64 (((O.length+1:Nat):Int)-1)=(O.length:Int):=by rw [wrap_i64 ad ad]; omega
   obtain ⟨a,rfl,hc⟩:=SL.cells U (i:=O.length) aj;have hc:aJ h3 (a.add (O.length*1)) 0 [.int .i64 (kc:Int)]:=by simpa [Ll] using hc
   rw [hw1,show Int.toNat (O.length:Int)=O.length from ad];refine ax ⟨ad,ad⟩ (av rfl ?_);refine ay ((kc:Int),()) hc (ak ?_);have hcap:O.length+1<=l12:=by
    obtain ⟨g,pre,rest,_,_,hlc,_⟩:=U.2.2;exact hlc.1
   refine ax ⟨ad,ad,ad⟩ ?_;rw [LV,ay9,ay9];have sW4:=SL.take U (k:=O.length) ad;rw [<- List.map_take,au9] at sW4;have hte:=ht e hem;refine aS (cs:=[(false,[.bool]),(false,[.slice 0]),(false,[.int .i64])]) (fun y m h'=>∃ (W:List Nat) (u:List Bool) (i:Nat),y.2.2.1=(i:Int)/\i<=e.x.ai.length/\m=e.x.ai.length-i/\nF u+W.length+1=nF sn+(O.length+1)/\Ext h h'/\h1.size<=h'.size /\
    SL h' h.size 4 1 (some ⟨h.size,0,none⟩) es.length es.length (u.map Sw)/\SL h' h1.size 3 1 y.2.1.1 y.2.1.2.1 y.2.1.2.2 (W.map Ll)/\pK es i0 e0.name kc i W u)
    (b9,(some a,O.length,l12),(0:Int),()) _ rfl ⟨O,sn,0,rfl,ad,rfl,ad,e3,z3,sB3,sW4,I4⟩ ?_
   rintro ⟨G,⟨p16,l17,X⟩,n19,⟨⟩⟩ m5 h5 ⟨W,u,i,hi,hile,rfl,hMM,e5,z5,Y,J,I5⟩;simp only at hi J;subst hi;refine ak ?_;have hl17:l17=W.length:=by have:=J.1; rwa [Yu] at this
   subst hl17;have v5:=v.an e5;obtain ⟨ae,rfl,hce⟩:=v5.cells kc hkc;have hek:es[kc]=e:=(YO.1 he).2;rw [hek] at hce;have vt:=v5.fq e hem;have hll:=vt.len;have hw:=gu i;have hsl:aJ h5 ((ae.add (kc*3)).add 1) 0 [.slice e.p e.l e.c]:=⟨by rw [add_add]; exact hce.2.1,trivial⟩
   refine ax ⟨ad,ad⟩ (av rfl ?_);rw [show Int.toNat (kc:Int)=kc from ad];refine ay ((e.p,e.l,e.c),()) hsl (ak ?_);refine aM (fun g2=>?_) (fun g2=>?_)
   ·have hil:i<e.x.ai.length:=ad
    refine ax ⟨ad,ad⟩ (av rfl ?_);refine ay ((e.p,e.l,e.c),()) hsl (ak ?_);obtain ⟨at',hp',hct⟩:=vt.cells i hil;have hti:e.x.ai[i]?=some e.x.ai[i]:=Yv hil;have htm:=YD hil;generalize e.x.ai[i]=t at hct hti htm;refine ax ⟨ad,ad⟩ (av hp' ?_);rw [show Int.toNat (i:Int)=i from ad];refine ay (t.1,()) ⟨hct.1,trivial⟩ (ak ?_);refine kj (Fs v5 ad t.1) ?_;refine ar (fun Z=>?_) (fun Z=>?_)
    ·have Z:Rm (kE es t.1)=(i0:Int):=by simpa using Z
     have hj:kE es t.1=some i0:=by
      cases F:kE es t.1 with
      | none=>rw [F] at Z; exact absurd Z (by show ¬ ((-1:Int)=_); omega)
      | some j =>
       rw [F] at Z
       have:(j:Int)=i0:=Z
       rw [show j=i0 from ad]
     refine ⟨e5,?_⟩;rw [YA (Rh hn he hr htm he0 rfl hj)]
    ·have Z:¬ Rm (kE es t.1)=(i0:Int):=by simpa using Z
     cases F:kE es t.1 with
     | none =>
      refine bG (by show decide ((-1:Int)>=0)=false; decide) ?_;refine aG (cs:=[(false,[.bool]),(false,[.slice 0]),(false,[.int .i64])]) (G,(p16,W.length,X),((i+1:Nat):Int),()) (e.x.ai.length-(i+1)) rfl ad (YJ (fun z=>[Value.bool G,.slice p16 W.length X,Value.int .i64 z]) hw)
       ⟨W,u,i+1,rfl,ad,rfl,hMM,e5,z5,Y,J,I5.skip he hti (fun j hj=>by rw [F] at hj; cases hj)⟩
     | some j =>
      rw [F] at Z;have hj0:j≠i0:=fun hh=>Z (by rw [hh]; rfl)
      obtain ⟨d,hd,_⟩:=uN F;have hjl:=(YO.1 hd).1;refine bk (YA (show (0:Int)<=((j:Nat):Int) from ad)) ?_;have hjs:j<u.length:=by rw [I5.len]; exact hjl
      obtain ⟨ab,hab,hcb⟩:=SL.cells Y (i:=j) (by rw [Yu]; exact hjs);rw [YE] at hcb;refine ax ⟨by show (0:Int)<=(j:Int); omega,by show (j:Int)<_; omega⟩ (av hab ?_);rw [show Int.toNat (Rm (some j))=j from Int.toNat_natCast j];refine ay (u[j],()) hcb (ak ?_);have hjg:u[j]?=some u[j]:=Yv hjs;cases hb:u[j] with
      | true =>
       rw [hb] at hjg;refine bG rfl ?_;refine aG (cs:=[(false,[.bool]),(false,[.slice 0]),(false,[.int .i64])]) (G,(p16,W.length,X),((i+1:Nat):Int),()) (e.x.ai.length-(i+1)) rfl ad (YJ (fun z=>[Value.bool G,.slice p16 W.length X,Value.int .i64 z]) hw)
        ⟨W,u,i+1,rfl,ad,rfl,hMM,e5,z5,Y,J,I5.skip he hti (fun j' hj=>by rw [F] at hj; cases hj; exact ⟨hj0,hjg⟩)⟩
      | false =>
       rw [hb] at hjg;refine bk rfl ?_;refine ax ⟨by show (0:Int)<=(j:Int); omega,by show (j:Int)<_; omega⟩ (av hab ?_);refine SL.store (P:=Tryz.prog) Y (i:=j) (by rw [Yu]; exact hjs) (vs:=[.bool true]) rfl rfl hab ?_;intro h6 sB6 k6 z6;rw [PX] at sB6;have hbb:∀ q,q∈aR (some (⟨h.size,0,none⟩:Xax))->q=h.size:=fun q F=>by simpa [aR] using F
       have sW6:=J.bP k6 (fun q F hm=>by have:=(J.cv F).1; have:=hbb q hm; omega);have e6:Ext h h6:=Ch.trans e5 k6 (fun q F hl=>by have:=hbb q F; omega);refine mV (vs:=Ll j) Dq RI rfl ad ad (D4 _) rfl rfl sW6 ad ad ad ?_;intro p' c' h7 sW7 k7 hp7;have e7:Ext h h7:=Ch.trans e6 k7 (fun q F hl=>by have:=(sW6.cv F).1; omega);have sB7:=sB6.bP k7 (fun q F hm=>by have:=hbb q F; have:=(sW6.cv hm).1; omega);have hnf:=Nu u j hjg;refine aG (cs:=[(false,[.bool]),(false,[.slice 0]),(false,[.int .i64])]) (G,(p',W.length+1,c'),((i+1:Nat):Int),()) (e.x.ai.length-(i+1)) rfl ad (YJ (fun z=>[Value.bool G,.slice p' (W.length+1) c',Value.int .i64 z]) hw)
        ⟨W++[j],u.set j true,i+1,rfl,ad,rfl,by rw [Yy]; show nF (u.set j true)+(W.length+1)+1=_; omega,e7,by have:=k7.size; omega,sB7,by rw [YH]; exact sW7,I5.push hn he hr hti F hj0⟩
   ·refine aG (cs:=[(false,[.bool]),(false,[.slice 0])]) (G,(p16,W.length,X),()) (nF u+W.length) rfl (by rw [List.concat_eq_append,Yy]; show nF u+W.length<nF sn+(O.length+1); omega) rfl ⟨W,u,rfl,ad,e5,z5,Y,J,I5.done he ad⟩
 ·have hW:W=[]:=ZZ.1 ad;subst hW;refine ⟨e3,?_⟩;rw [YB (I3.no hn he0 rfl)]
noncomputable def Ur (es:List cL) (i:Nat):Bool:=by
 classical
 exact decide (∃ e,es[i]?=some e/\kB (dp es) e.name)
def CV {es:List cL} {i:Nat} {e:cL} (u:es[i]?=some e) {d:Decidable (kB (dp es) e.name)}:decide (kB (dp es) e.name)=Ur es i:=by
 unfold Ur;refine bn9.2 ⟨fun h=>⟨e,u,h⟩,?_⟩;rintro ⟨e',j,h⟩;rw [u] at j;cases j;exact h
noncomputable def lT (es:List cL) (n:Nat):List Nat:=(List.range n).filter (Ur es)
def GV (es:List cL) (i:Nat):lT es (i+1)=lT es i++if Ur es i=true then [i] else []:=by
 unfold lT;rw [List.range_succ,List.filter_append]
 congr 1
 by_cases h:Ur es i=true <;> simp [h]
def JW (es:List cL) (i:Nat):(lT es i).length<=i:=by
 unfold lT
 have:=ZP (Ur es) (List.range i)
 simpa using this
def Om {h:Hp} {p:Xac} {l c:Nat} {es:List cL} (v:uf h p l es) (hn:(bd es).Nodup) (hl:es.length<=2^40) (U:∀ e,e∈es->e.x.ai.length<=2^40) :
  HC Tryz.prog 76 #[.slice p l c] h fun w h'=>Ext h h'/\∃ p' l' c',w=.slice p' l' c'/\SL h' h.size 3 1 p' l' c' ((lT es es.length).map Ll):=by
 refine aY (args:=[.slice p l c]) mixed Tryz.func76 az (o7 p l c) ?_;unfold kb bg bz aX bt bq aP dl;have V:=v.len;refine aS (cs:=[(false,[.slice 0]),(false,[.int .i64])]) (fun y m h'=>∃ i:Nat,y.2.1=(i:Int)/\m=es.length-i/\i<=es.length/\Ext h h'/\SL h' h.size 3 1 y.1.1 y.1.2.1 y.1.2.2 ((lT es i).map Ll)) ((none,0,0),(0:Int),()) es.length rfl
  ⟨0,rfl,rfl,ad,Ch.refl _ _,SL.nil _ _ _ _⟩ ?_
 rintro ⟨⟨p1,u,F⟩,n4,⟨⟩⟩ m h1 ⟨i,hi,rfl,X,e1,s1⟩;simp only at hi s1;subst hi;refine ak ?_;have Y:u=(lT es i).length:=by have:=s1.1; rwa [Yu] at this
 have Z:=JW es i;refine aM (fun q=>?_) (fun q=>?_)
 ·have G:i<es.length:=ad
  have hw:=gu i;have O:=Yv G;have d:=GV es i;refine aI (Qn (c:=c) (v.an e1) hn hl U O) ?_;rintro _ h2 ⟨e2,rfl⟩;rw [CV O];refine ⟨(Ur es i,()),rfl,ak ?_⟩;have J:=s1.bP e2 aj;refine ar (fun r=>?_) (fun r=>?_)
  ·rw [YC r] at d
   have:=(e1.trans e2).size
   refine mV (vs:=Ll i) Dq RI rfl ad ad (D4 _) rfl rfl J ad ad ad ?_;intro p' c' h3 s3 k3 hp3;refine aG (cs:=[(false,[.slice 0]),(false,[.int .i64])]) ((p',u+1,c'),((i+1:Nat):Int),()) (es.length-(i+1)) rfl ad (YJ (fun z=>[Value.slice p' (u+1) c',Value.int .i64 z]) hw) ?_;exact ⟨i+1,rfl,rfl,ad,Ch.trans (e1.trans e2) k3 (fun j hj hl=>by have:=(J.cv hj).1; omega),by rw [d,YH]; exact s3⟩
  ·rw [Yx (by rw [r]; simp),Zs] at d;refine aG (cs:=[(false,[.slice 0]),(false,[.int .i64])]) ((p1,u,F),((i+1:Nat):Int),()) (es.length-(i+1)) rfl ad (YJ (fun z=>[Value.slice p1 u F,Value.int .i64 z]) hw) ?_;exact ⟨i+1,rfl,rfl,ad,e1.trans e2,by rw [d]; exact J⟩
 ·have:i=es.length:=ad
  subst this;exact ⟨e1,p1,u,F,rfl,s1⟩
noncomputable def dG (es:List cL):Option Nat:=by
 classical
 exact es.findIdx? fun e=>decide (kB (dp es) e.name)
def HL {es:List cL} {i:Nat} {r:List Nat} (h:lT es es.length=i::r):i<es.length/\dG es=some i:=by
 unfold lT at h;obtain ⟨d,J,h1,h2,h3,_⟩:=List.filter_eq_cons_iff.1 h;have G:es.length=d.length+(J.length+1):=by
  have:=YJ List.length h1
  simpa using this
 have u:d.length=i:=by
  have:=YJ (fun l:List Nat=>l[d.length]?) h1
  simp only [List.getElem?_append_right (Nat.le_refl _),Nat.sub_self,List.getElem?_cons_zero] at this;rw [ZN ad] at this;exact YR this
 subst u;have F:d.length<es.length:=ad
 refine ⟨F,?_⟩;unfold dG;rw [YX];refine ⟨F,?_,fun j O=>?_⟩
 ·rw [CV (Yv F)];exact h3
 ·rw [CV (Yv ad)];refine h2 j ?_
  have:=YJ (fun l:List Nat=>l[j]?) h1
  simp only [List.getElem?_append_left O] at this;rw [ZN ad] at this;exact Zp this.symm
def Kd {es:List cL} (h:lT es es.length=[]):dG es=none:=by
 unfold lT at h;unfold dG;rw [Ze];intro e d;obtain ⟨i,hi⟩:=List.getElem?_of_mem d;rw [CV hi]
 have:=List.filter_eq_nil_iff.1 h i (ag9.2 (YO.1 hi).1)
 simpa using this
def SM (of:Xaa->Option cn):Nat->cn->cn
 | 0,x=>x
 | t+1,x=>de of (SM of t x)
theorem sQ (of:Xaa->Option cn):∀ (l:dc) (n:Nat),n<4294967296->l.foldl (gg of) n<4294967296
 | [],n,h=>h
 | t::l,n,h=>by
  rw [Y6];refine sQ of l _ ?_;unfold gg;split
  ·exact h
  ·exact bs9 _ cm
structure tg (S:List Xaa) (x:cn):Prop where
 nf:Nf x.ai
 num:x.num<4294967296
 fq:∀ t,t∈x.ai->t.1∈S
def tg.put {S:List Xaa} {es:List cL} (d:∀ e,e∈es->tg S e.x) {x:cn} (h:tg S x):tg S (de (cy es) x) :=
 ⟨eR _ _,sQ _ _ _ h.num,IK h.fq fun e j=>(d e j).fq⟩
theorem tg.it {S:List Xaa} {es:List cL} (d:∀ e,e∈es->tg S e.x) {x:cn} (h:tg S x):∀ t,tg S (SM (cy es) t x)
 | 0=>h
 | t+1=>(tg.it d h t).put d
structure QH (B:Nat) (h0 h':Hp) (p:Xac) (l c:Nat) (es ms:List cL) (f:Nat->Nat):Prop where
 out:SL h' h0.size 100 3 p l c (ms.map zH)
 len:ms.length=es.length
 eq:∀ j e m,es[j]?=some e->ms[j]?=some m->m.name=e.name/\m.x=SM (cy es) (f j) e.x
 fq:∀ m,m∈ms->gW h' m.p m.l m.x.ai
 low:∀ m,m∈ms->∀ i,i∈aR m.p->(B<=i/\i<h'.size)/\i∉aR p
def P7 (ms:List cL) (i:Nat) (m:cL):(ms.map zH).set i (zH m)=(ms.set i m).map zH:=by rw [ax9]
def Qx {h:Hp} {p:Xac} {l:Nat} {es:List cL} (v:uf h p l es):(p=none/\es.map zH=[])\/∃ a,p=some a/\aJ h a 0 (es.map zH).flatten:=by
 cases p with
 | none =>
  refine .inl ⟨rfl,?_⟩;cases es with
  | nil=>rfl
  | cons e es =>
   obtain ⟨a,d,_⟩:=v.cells 0 aj;cases d
 | some a =>
  refine .inr ⟨a,rfl,?_⟩
  have:=fP (h:=h) (a:=a) (sz:=3) (es.map zH) 0 (fun x hx=>by obtain ⟨e,_,rfl⟩:=YF.1 hx; rfl) (fun i hi=>by
   obtain ⟨a',d,hc⟩:=v.cells i (by simpa using hi);cases d;rw [YE,Y7];exact hc)
  rwa [ab9] at this
def Kt (e:cL):(zH e).all cU=true:=by unfold zH; simp [cU]
def G' (es:List cL):(es.map zH).flatten.all cU=true:=by
 rw [Y1];intro x hx;obtain ⟨l,hl,d⟩:=av9.1 hx;obtain ⟨e,_,rfl⟩:=YF.1 hl;exact Y1.1 (Kt e) x d
def Kv {h:Hp} {p:Xac} {l c:Nat} {es:List cL} {B:Nat} (hB:B<=h.size) (v:uf h p l es) (hb:∀ e,e∈es->∀ i,i∈aR e.p->B<=i/\i<h.size) (hn:(bd es).Nodup) (hl:es.length<=2^30) {S:List Xaa} (hS:S.length<=2^30) (U:∀ e,e∈es->tg S e.x) :
  HC Tryz.prog 52 #[.slice p l c] h fun w h'=>Ext h h'/\match dG es with
   | some i=>w=.tuple #[.slice none 0 0,.int .i64 (i:Int),.int .i64 24]
   | none=>∃ p' l' c' ms,w=.tuple #[.slice p' l' c',.int .i64 0,.int .i64 0]/\QH B h h' p' l' c' es ms (fun _=>es.length):=by
 refine aY (args:=[.slice p l c]) mixed Tryz.func52 az (nP p l c) ?_;unfold je bf bg bz aK bJ bt fA aH bn bq aP;have hll:=v.len;have hlt:∀ e,e∈es->e.x.ai.length<=2^40:=fun e V=>by have:=zN (U e V).nf (U e V).fq; omega
 refine aI (Om (c:=c) v hn ad hlt) ?_;rintro _ h1 ⟨e1,p1,l1,c1,rfl,s1⟩;refine ⟨((p1,l1,c1),()),rfl,ak ?_⟩;have hl1:l1=(lT es es.length).length:=by have:=s1.1; rwa [Yu] at this
 refine aM (fun g=>?_) (fun g=>?_)
 ·cases X:lT es es.length with
  | nil=>rw [X] at hl1; simp at hl1; omega
  | cons i r =>
   obtain ⟨hi,hf⟩:=HL X;obtain ⟨a,rfl,hc⟩:=SL.cells s1 (i:=0) (by rw [Yu,X]; simp);have hc:aJ h1 a 0 [.int .i64 (i:Int)]:=by
    rw [YE,ab9,add_zero'] at hc;simp only [X,List.getElem_cons_zero] at hc;exact hc
   refine ax ⟨ad,ad⟩ (av rfl ?_);refine ay ((i:Int),()) hc (ak ?_);refine ⟨⟨hc,trivial⟩,e1,?_⟩;rw [hf]
 ·have hbn:lT es es.length=[]:=ZZ.1 ad;rw [Kd hbn];refine mv (ys:=es.map zH) Cg KO rfl (Qx (v.an e1)) (by rw [Yu]; exact hll) (fun y hy=>by obtain ⟨e,_,rfl⟩:=YF.1 hy; rfl) (G' es) ad ad ?_;intro p2 c2 h2 s2 e2;have z1:=e1.size;have e02:=e1.trans e2;have o0:QH B h h2 p2 l c2 es es fun _=>0:=⟨s2.mono z1,rfl,fun j e m V hm=>by rw [V] at hm; cases hm; exact ⟨rfl,rfl⟩,fun m hm=>(v.fq m hm).an e02 aj,fun m hm i hi=>by
   have h1:=hb m hm i hi
   have:=e02.size
   exact ⟨⟨h1.1,ad⟩,fun hh=>by have:=(s2.cv hh).1; omega⟩⟩
  refine aS (cs:=[(false,[.int .i64])]) (fun y m h'=>∃ (t:Nat) (ms:List cL),y.1=(t:Int)/\m=es.length-t/\t<=es.length/\Ext h h'/\QH B h h' p2 l c2 es ms fun _=>t) ((0:Int),()) es.length rfl ⟨0,es,rfl,rfl,ad,e02,o0⟩ ?_;rintro ⟨n10,⟨⟩⟩ m3 h3 ⟨t,ms,hi,rfl,hle,e3,o3⟩;simp only at hi;subst hi;refine ak ?_;refine aM (fun q=>?_) (fun q=>?_)
  ·have hwt:=gu t;refine aS (cs:=[(false,[.int .i64])]) (fun y m h'=>∃ (i:Nat) (ms:List cL),y.1=(i:Int)/\m=es.length-i/\i<=es.length/\Ext h h'/\QH B h h' p2 l c2 es ms fun j=>if j<i then t+1 else t) ((0:Int),()) es.length rfl ⟨0,ms,rfl,rfl,ad,e3,by simpa using o3⟩ ?_;rintro ⟨n11,⟨⟩⟩ m4 h4 ⟨i,F,hi,rfl,hle4,e4,G⟩;simp only at hi;subst hi;refine ak ?_;refine aM (fun r=>?_) (fun r=>?_)
   ·have Y:i<es.length:=ad
    have J:i<F.length:=by rw [G.len]; exact Y
    have hwi:=gu i;obtain ⟨a,rfl,hc⟩:=SL.cells G.out (i:=i) (by rw [Yu]; exact J);rw [YE] at hc;obtain ⟨hnm,hx⟩:=G.eq i es[i] F[i] (Yv Y) (Yv J);have hmm:=YD J;have Z:=YD Y;have vm:=G.fq _ hmm;have lm:=G.low _ hmm;rw [Yx ad] at hx;have hmi:F[i]?=some F[i]:=Yv J;have hei:es[i]?=some es[i]:=Yv Y;generalize F[i]=m at hc hnm hx hmm vm lm hmi;generalize es[i]=e at hnm hx Z hei;have hsx:tg S m.x:=by rw [hx]; exact tg.it U (U e Z) t
    refine ax ⟨ad,ad⟩ (av rfl ?_);rw [show Int.toNat (i:Int)=i from ad];refine ay ((m.p,m.l,m.c),(m.x.num:Int),()) ⟨by rw [add_add]; exact hc.2.1,by rw [add_add]; exact hc.2.2.1,trivial⟩ ?_;refine ak ?_;have z4:=e4.size;refine aI (I1 (c:=m.c) (d:=c) vm (v.an e4) (fun j O=>(lm j O).1.2) (fun e V j O=>by have:=hb e V j O; omega) ad hsx.nf hsx.num (fun e V=>(U e V).nf) hS hsx.fq fun e V=>(U e V).fq) ?_;rintro _ h5 ⟨e5,p5,l5,c5,rfl,s5⟩;refine ⟨((p5,l5,c5),((de (cy es) m.x).num:Int),()),rfl,ak ?_⟩;have z5:=e5.size;refine ax ⟨ad,ad⟩ (av rfl ?_);have so:=G.out.bP e5 aj;refine SL.part (P:=Tryz.prog) so (i:=i) (by rw [Yu]; exact J) (vs:=[.slice p5 l5 c5,.int .u32 ((de (cy es) m.x).num:Int)]) (o:=1) aj (by simp [cU]) rfl ?_;intro h6 s6 k6 z6;have hse:(F.map zH).set i (lh ((F.map zH)[i]'(by rw [Yu]; exact J)) 1 [.slice p5 l5 c5,.int .u32 ((de (cy es) m.x).num:Int)])=(F.set i ⟨m.name,p5,l5,c5,de (cy es) m.x⟩).map zH:=by
     rw [<- P7]
     congr 1
     rw [YE]
     have:F[i]=m:=(YO.1 hmi).2
     rw [this] <;> rfl
    rw [hse] at s6;have hgb:∀ j,j∈aR (some a)->h.size<=j/\j<h4.size:=fun j O=>G.out.cv O
    have e6:Ext h h6:=Ch.trans (e4.trans e5) k6 (fun j O hl=>by have:=hgb j O; omega);refine aG (cs:=[(false,[.int .i64])]) (((i+1:Nat):Int),()) (es.length-(i+1)) rfl ad (YJ (fun z=>[Value.int .i64 z]) hwi) ⟨i+1,_,rfl,rfl,ad,e6,⟨s6,by rw [Zy]; exact G.len,fun j e' m' he' u=>?_,fun m' u=>?_,fun m' u j O=>?_⟩⟩
    ·by_cases hji:i=j
     ·subst hji;rw [aa9 J] at u;cases u;rw [hei] at he';cases he';refine ⟨hnm,?_⟩;rw [YC ad];show de (cy es) m.x=de (cy es) (SM (cy es) t e.x);rw [hx]
     ·rw [ZS hji] at u;obtain ⟨h1,h2⟩:=G.eq j e' m' he' u;refine ⟨h1,h2.trans ?_⟩
      by_cases hj2:j<i
      ·rw [YC hj2,YC ad]
      ·rw [Yx hj2,Yx ad]
    ·rcases ZH u with u | rfl
     ·exact ((G.fq m' u).an e5 aj).an k6 (fun j O=>(G.low m' u j O).2)
     ·exact (s5.bP k6 (fun j O hh=>by have:=(s5.cv O).1; have:=hgb j hh; omega)).Sg
    ·rcases ZH u with u | rfl
     ·obtain ⟨h1,h2⟩:=G.low m' u j O;exact ⟨⟨h1.1,ad⟩,h2⟩
     ·obtain ⟨h1,h2⟩:=s5.cv O;exact ⟨⟨ad,ad⟩,fun hh=>by have:=hgb j hh; omega⟩
   ·have:i=es.length:=ad
    subst this;refine aG (cs:=[(false,[.int .i64])]) (((t+1:Nat):Int),()) (es.length-(t+1)) rfl ad (YJ (fun z=>[Value.int .i64 z]) hwt) ⟨t+1,F,rfl,rfl,ad,e4,⟨G.out,G.len,fun j e m V hm=>?_,G.fq,G.low⟩⟩;obtain ⟨h1,h2⟩:=G.eq j e m V hm;rw [YC (YO.1 V).1] at h2;exact ⟨h1,h2⟩
  ·have:t=es.length:=ad
   subst this;exact ⟨e3,p2,l,c2,ms,rfl,o3⟩
theorem re (s:Xaa):∀ l:dc,gh (fun r=>if r=s then 1 else 0) l=cf l s
 | []=>rfl
 | p::l=>by
  rw [eV,eP,re s l]
  congr 1
  split <;> simp
theorem oJ:∀ l:dc,gh (fun _=>0) l=0
 | []=>rfl
 | p::l=>by rw [eV,oJ l]; simp
def IF {x y:cn} (hx:Nf x.ai) (u:Nf y.ai) (nx:x.num<4294967296) (F:y.num<4294967296) (h:∀ f,jD f x=jD f y):x=y:=by
 have h0:=h fun _=>0
 unfold jD at h0;rw [oJ,oJ] at h0;have hn:x.num=y.num:=ad
 have j:x.ai=y.ai:=hx.Rl u fun s=>by
  have h1:=h fun r=>if r=s then 1 else 0
  unfold jD at h1;rw [re,re] at h1;omega
 obtain ⟨a,b⟩:=x;obtain ⟨c,d⟩:=y;simp only at hn j;rw [hn,j]
def HO (of:Xaa->Option cn) (f:Xaa->Nat) (s:Xaa):Nat:=match of s with
 | none=>f s
 | some y=>jD f y
def fH (of:Xaa->Option cn) (f:Xaa->Nat) (x:cn):jD f (de of x)=jD (HO of f) x:=Mg (fun s=>by unfold HO; rfl) x
theorem Ak {f g:Xaa->Nat}:∀ {l:dc},(∀ t,t∈l->f t.1=g t.1)->gh f l=gh g l
 | [],_=>rfl
 | p::l,h=>by rw [eV,eV,h p aj,Ak fun t d=>h t (YM _ d)]
def pe {f g:Xaa->Nat} {x:cn} (h:∀ t,t∈x.ai->f t.1=g t.1):jD f x=jD g x:=by
 unfold jD;rw [Ak h]
section
variable {own:Xaa->Bool} {lin:Xaa->cn}
def Uz (own:Xaa->Bool) (lin:Xaa->cn) (t:Nat) (s:Xaa):Option cn:=if own s=true then some (qP own lin t s) else none
def yx (own:Xaa->Bool) (lin:Xaa->cn) (s:Xaa):Option cn:=if own s=true then some (lin s) else none
def sg (t:Nat) (v:Xaa):qP own lin (t+1) v=de (Uz own lin t) (lin v):=rfl
theorem Cd (d:∀ v,own v=true->(lin v).num<4294967296):∀ (t:Nat) (v:Xaa),own v=true->de (yx own lin) (qP own lin t v)=qP own lin (t+1) v
 | 0,v,hv=>rfl
 | t+1,v,hv=>by
  rw [sg (t+1) v,sg t v];refine IF (eR _ _) (eR _ _) (sQ _ _ _ (sQ _ _ _ (d v hv))) (sQ _ _ _ (d v hv)) fun f=>?_
  rw [fH,fH,fH];refine pe fun u _=>?_
  generalize u.1=s;unfold HO Uz
  by_cases j:own s=true
  ·rw [YC j,YC j];show jD (HO (yx own lin) f) (qP own lin t s)=jD f (qP own lin (t+1) s);rw [<- Cd d t s j,fH]
  ·rw [Yx j,Yx j];show (match yx own lin s with | none=>f s | some y=>jD f y)=f s;unfold yx;rw [Yx j]
theorem En (d:∀ v,own v=true->(lin v).num<4294967296):∀ (t:Nat) (v:Xaa),own v=true->SM (yx own lin) t (lin v)=qP own lin t v
 | 0,v,hv=>rfl
 | t+1,v,hv=>by
  show de (yx own lin) (SM (yx own lin) t (lin v))=_;rw [En d t v hv,Cd d t v hv]
end
def Q4 {es:List cL} (hn:(bd es).Nodup) (u:∀ e,e∈es->e.x.num<4294967296) {e:cL} (J:e∈es):SM (cy es) es.length e.x=eU es e.name:=by
 have hown:cz es e.name=true:=by
  unfold cz;cases F:kE es e.name with
  | some k=>rfl
  | none =>
   unfold kE at F;rw [Ze] at F
   have:=F e J
   simp at this
 have j:∀ v,cz es v=true->(dh es v).num<4294967296:=by
  intro v hv;unfold cz at hv;obtain ⟨k,hk⟩:=Zu.1 hv;obtain ⟨d,O,G⟩:=uN hk;rw [<- G,qe hn (Zp O)];exact u d (Zp O)
 have h1:=En j es.length e.name hown;rw [qe hn J] at h1;have h2:yx (cz es) (dh es)=cy es:=rfl;rw [h2] at h1;rw [h1];unfold eU Iz bd;rw [Yu]
def yS (K:Ky->Prop) (a b:Ky->Xaa) (x y:cn):Prop:=∀ f g:Xaa->Nat,(∀ k,K k->f (a k)=g (b k))->jD f x=jD g y
def yS.symm {K:Ky->Prop} {a b:Ky->Xaa} {x y:cn} (h:yS K a b x y):yS K b a y x:=fun f g d=>(h g f fun k hk=>(d k hk).symm).symm
structure vz {δ:Type} (Q:List δ) (ky:δ->Ky) (K:Ky->Prop) (a b:Ky->Xaa) (xa xb:δ->cn):Prop where
 nd:(Q.map ky).Nodup
 PF:∀ q,q∈Q->K (ky q)
 ia:∀ k k',K k->K k'->a k=a k'->k=k'
 ib:∀ k k',K k->K k'->b k=b k'->k=k'
 Sk:∀ k,K k->k∉Q.map ky->a k=b k
 rel:∀ q,q∈Q->yS K a b (xa q) (xb q)
 fa:∀ q,q∈Q->Nf (xa q).ai
 fb:∀ q,q∈Q->Nf (xb q).ai
def vz.symm {δ:Type} {Q:List δ} {ky:δ->Ky} {K:Ky->Prop} {a b:Ky->Xaa} {xa xb:δ->cn} (t:vz Q ky K a b xa xb):vz Q ky K b a xb xa :=
 ⟨t.nd,t.PF,t.ib,t.ia,fun k hk hn=>(t.Sk k hk hn).symm,fun q d=>(t.rel q d).symm,t.fb,t.fa⟩
def wD {δ:Type} (Q:List δ) (ky:δ->Ky) (a:Ky->Xaa) (xa:δ->cn):List (Xaa × cn):=Q.map fun q=>(a (ky q),xa q)
def wa (D:List (Xaa × cn)):Sx.bd (fe D)=D.map (·.1):=by
 have:=YJ (List.map (·.1)) (pO D)
 rw [YY] at this;exact this
def sL {D:List (Xaa × cn)} {s:Xaa}:cz (fe D) s=true↔s∈D.map (·.1):=by rw [eh,wa]
theorem S5:∀ {l:dc} {t:Xaa × Nat},Nf l->t∈l->cf l t.1=t.2
 | [],t,_,h=>by simp at h
 | p::l,t,n,h=>by
  rcases YS.1 h with h | h
  ·subst h;exact n.nl
  ·rw [eP,Yx (kD (n.head t h)),Y7];exact S5 n.tail h
def Ns {l:dc} (n:Nf l) {s:Xaa}:s∈l.map (·.1)↔cf l s % 4294967296≠0:=by
 constructor
 ·intro h;obtain ⟨t,d,rfl⟩:=YF.1 h;rw [S5 n d]
  have:=n.2 t d
  omega
 ·intro h;apply an9;intro k;exact h (by rw [y6 fun p j e=>k (YF.2 ⟨p,j,e⟩)])
section
variable {δ:Type} {Q:List δ} {ky:δ->Ky} {K:Ky->Prop} {a b:Ky->Xaa} {xa xb:δ->cn}
def Aa:(wD Q ky a xa).map (·.1)=(Q.map ky).map a:=by
 unfold wD;rw [YY,YY] <;> rfl
def vz.Vh (t:vz Q ky K a b xa xb):((wD Q ky a xa).map (·.1)).Nodup:=by
 rw [Aa];have h:=t.nd;rw [Z1] at h ⊢;rw [Zw];refine List.Pairwise.imp_of_mem ?_ h;intro k k' hk d j e;obtain ⟨q,u,rfl⟩:=YF.1 hk;obtain ⟨r,F,rfl⟩:=YF.1 d;exact j (t.ia _ _ (t.PF q u) (t.PF r F) e)
def vz.own (t:vz Q ky K a b xa xb) {k:Ky} (hk:K k):cz (fe (wD Q ky a xa)) (a k)=true↔k∈Q.map ky:=by
 rw [sL,Aa,YF];constructor
 ·rintro ⟨k',d,e⟩;obtain ⟨q,j,rfl⟩:=YF.1 d;rw [<- t.ia _ _ (t.PF q j) hk e];exact d
 ·intro h;exact ⟨k,h,rfl⟩
def vz.lin (t:vz Q ky K a b xa xb) {q:δ} (d:q∈Q):dh (fe (wD Q ky a xa)) (a (ky q))=xa q:=by
 have h2:(⟨a (ky q),none,0,0,xa q⟩:cL)∈fe (wD Q ky a xa):=YF.2 ⟨(a (ky q),xa q),YF.2 ⟨q,d,rfl⟩,rfl⟩;exact qe (by rw [wa]; exact t.Vh) h2
def yS.cf {x y:cn} (h:yS K a b x y) {k:Ky} (j:∀ k',K k'->a k'=a k->k'=k) (u:∀ k',K k'->b k'=b k->k'=k):cf x.ai (a k) % 4294967296=cf y.ai (b k) % 4294967296:=by
 have h0:=h (fun _=>0) (fun _=>0) fun _ _=>rfl
 have h1:=h (fun r=>if r=a k then 1 else 0) (fun r=>if r=b k then 1 else 0) fun k' d=>by
  by_cases e:k'=k
  ·subst e
   simp
  ·rw [Yx fun x=>e (j k' d x),Yx fun x=>e (u k' d x)]
 unfold jD at h0 h1;rw [oJ,oJ] at h0;rw [re,re] at h1;omega
def vz.VT (t:vz Q ky K a b xa xb) {q r:δ} (j:q∈Q) (u:r∈Q) (h:dp (fe (wD Q ky a xa)) (a (ky q)) (a (ky r))):dp (fe (wD Q ky b xb)) (b (ky q)) (b (ky r)):=by
 obtain ⟨h1,h2⟩:=h;refine ⟨?_,(t.symm.own (t.PF r u)).2 (YT u)⟩;unfold cM at h1 ⊢;rw [t.lin j,Ns (t.fa q j)] at h1;rw [t.symm.lin j,Ns (t.fb q j)];rw [(t.rel q j).cf (fun k' d e=>t.ia _ _ d (t.PF r u) e) (fun k' d e=>t.ib _ _ d (t.PF r u) e)] at h1;exact h1
def vz.XR (t:vz Q ky K a b xa xb) {s u:Xaa} (h:dp (fe (wD Q ky a xa)) s u):∃ r,r∈Q/\u=a (ky r):=by
 have h2:=h.2;rw [sL,Aa] at h2;obtain ⟨k,hk,rfl⟩:=YF.1 h2;obtain ⟨r,d,rfl⟩:=YF.1 hk;exact ⟨r,d,rfl⟩
def vz.S6 (t:vz Q ky K a b xa xb) {u v:Xaa} (h:pU (dp (fe (wD Q ky a xa))) u v):∀ q r,q∈Q->r∈Q->u=a (ky q)->v=a (ky r)->pU (dp (fe (wD Q ky b xb))) (b (ky q)) (b (ky r)):=by
 induction h with
 | refl u =>
  intro q r d j e1 e2;rw [t.ia _ _ (t.PF q d) (t.PF r j) (e1.symm.trans e2)];exact .refl _
 | head e _ F =>
  intro q r d j e1 e2;subst e1;obtain ⟨m,hm,rfl⟩:=t.XR e;exact .head (t.VT d hm e) (F m r hm j rfl e2)
def vz.Wb (t:vz Q ky K a b xa xb) {q:δ} (d:q∈Q) (h:kB (dp (fe (wD Q ky a xa))) (a (ky q))):kB (dp (fe (wD Q ky b xb))) (b (ky q)):=by
 obtain ⟨y,h1,h2⟩:=h;obtain ⟨m,hm,rfl⟩:=t.XR h1;exact ⟨_,t.VT d hm h1,t.S6 h2 m q hm d rfl rfl⟩
def vz.X6 (t:vz Q ky K a b xa xb) {q:δ} (d:q∈Q):kB (dp (fe (wD Q ky a xa))) (a (ky q))↔kB (dp (fe (wD Q ky b xb))) (b (ky q)):=⟨t.Wb d,t.symm.Wb d⟩
def vz.VD (t:vz Q ky K a b xa xb):nv (wD Q ky a xa)=dG (fe (wD Q ky b xb)):=by
 classical
 unfold nv dG;have h2:∀ D:List (Xaa × cn),∀ P:Xaa->Bool,(fe D).findIdx? (fun e=>P e.name)=D.findIdx? fun y=>P y.1:=by
  intro D P;unfold fe;rw [bi9] <;> rfl
 have h3:=h2 (wD Q ky b xb) (fun s=>decide (kB (dp (fe (wD Q ky b xb))) s));rw [h3];have key:∀ l:List δ,(∀ q,q∈l->q∈Q)->(l.map fun q=>(a (ky q),xa q)).findIdx? (fun y=>decide (kB (dp (fe (wD Q ky a xa))) y.1))=(l.map fun q=>(b (ky q),xb q)).findIdx? (fun y=>decide (kB (dp (fe (wD Q ky b xb))) y.1)):=by
  intro l
  induction l with
  | nil=>intro _; rfl
  | cons q l d =>
   intro hl;rw [Zb,Zb,List.findIdx?_cons,List.findIdx?_cons,d fun r j=>hl r (YM _ j)];have h4:decide (kB (dp (fe (wD Q ky a xa))) (a (ky q)))=decide (kB (dp (fe (wD Q ky b xb))) (b (ky q))):=bn9.2 (t.X6 (hl q (Z7 ..)));simp only [h4]
 exact key Q fun q u=>u
theorem vz.Iz (t:vz Q ky K a b xa xb):∀ (n:Nat) (q:δ),q∈Q->yS K a b (qP (cz (fe (wD Q ky a xa))) (dh (fe (wD Q ky a xa))) n (a (ky q))) (qP (cz (fe (wD Q ky b xb))) (dh (fe (wD Q ky b xb))) n (b (ky q)))
 | 0,q,d=>by
  show yS K a b (dh (fe (wD Q ky a xa)) (a (ky q))) (dh (fe (wD Q ky b xb)) (b (ky q)));rw [t.lin d,t.symm.lin d];exact t.rel q d
 | n+1,q,d=>by
  intro f g j;rw [sg,sg,fH,fH,t.lin d,t.symm.lin d];refine t.rel q d _ _ fun k hk=>?_
  unfold HO Uz
  by_cases u:k∈Q.map ky
  ·rw [YC ((t.own hk).2 u),YC ((t.symm.own hk).2 u)];obtain ⟨r,F,rfl⟩:=YF.1 u;exact vz.Iz t n r F f g j
  ·rw [Yx fun h=>u ((t.own hk).1 h),Yx fun h=>u ((t.symm.own hk).1 h)];exact j k hk
def RW {D:List (Xaa × cn)} (s:Xaa):eU (fe D) s=qP (cz (fe D)) (dh (fe D)) D.length s:=by
 unfold eU Iz;rw [wa,Yu]
def M5 {D:List (Xaa × cn)} (s:Xaa):cz (fe (mR D)) s=cz (fe D) s:=by
 have h:(mR D).map (·.1)=D.map (·.1):=by
  unfold mR;rw [YY] <;> rfl
 rw [Z3,sL,sL,h]
def vC {D:List (Xaa × cn)} (hn:(D.map (·.1)).Nodup) (s:Xaa):cy (fe (mR D)) s=if cz (fe D) s=true then some (eU (fe D) s) else none:=by
 unfold cy;rw [M5]
 by_cases h:cz (fe D) s=true
 ·rw [YC h,YC h];rw [sL] at h;obtain ⟨y,d,rfl⟩:=YF.1 h;have h0:(mR D).map (·.1)=D.map (·.1):=by
   unfold mR;rw [YY] <;> rfl
  have h2:(⟨y.1,none,0,0,eU (fe D) y.1⟩:cL)∈fe (mR D):=YF.2 ⟨(y.1,eU (fe D) y.1),YF.2 ⟨y,d,rfl⟩,rfl⟩;exact YJ some (qe (by rw [wa,h0]; exact hn) h2)
 ·rw [Yx h,Yx h]
def vz.put (t:vz Q ky K a b xa xb) {x y:cn} (h:yS K a b x y):yS K a b (vX (mR (wD Q ky a xa)) x) (vX (mR (wD Q ky b xb)) y):=by
 intro f g d;unfold vX;rw [fH,fH];refine h _ _ fun k hk=>?_
 unfold HO;rw [vC t.Vh,vC t.symm.Vh]
 by_cases j:k∈Q.map ky
 ·rw [YC ((t.own hk).2 j),YC ((t.symm.own hk).2 j)];obtain ⟨r,u,rfl⟩:=YF.1 j;have e1:(wD Q ky a xa).length=Q.length:=by unfold wD; rw [Yu]
  have e2:(wD Q ky b xb).length=Q.length:=by unfold wD; rw [Yu]
  simp only [RW,e1,e2];exact t.Iz Q.length r u f g d
 ·rw [Yx fun h=>j ((t.own hk).1 h),Yx fun h=>j ((t.symm.own hk).1 h)];exact d k hk
def Iw {D:List (Xaa × cn)} (hn:(D.map (·.1)).Nodup) (hc:∀ v,¬ kB (dp (fe D)) v) {x:cn}:∀ u,u∈(vX (mR D) x).ai->cz (fe D) u.1=false:=by
 intro u hu;unfold vX at hu;rcases sB hu with ⟨p,F,e,d⟩ | ⟨p,y,v,F,d,hv,e⟩
 ·rw [vC hn] at d;cases j:cz (fe D) u.1 with
  | false=>rfl
  | true=>rw [YC j] at d; cases d
 ·rw [vC hn] at d
  by_cases j:cz (fe D) p.1=true
  ·rw [YC j] at d;have d:=YR d;subst d
   have:=(xf (own:=cz (fe D)) (lin:=dh (fe D)) (names:=Sx.bd (fe D)) (fun s=>eh _ s) hc ((eh _ _).1 j) v hv).1
   rw [<- e];exact this
  ·rw [Yx j] at d; cases d
def OH {D:List (Xaa × cn)} (h:nv D=none):∀ v,¬ kB (dp (fe D)) v:=by
 classical
 intro v hv;unfold nv at h;rw [Ze] at h;have key:∃ u,cz (fe D) u=true/\kB (dp (fe D)) u:=by
  obtain ⟨y,h1,h2⟩:=hv;refine ⟨y,h1.2,?_⟩;have h3:pU (dp (fe D)) v y:=.one h1;cases h2 with
  | refl=>exact ⟨_,h1,.refl _⟩
  | head e r=>exact ⟨_,e,r.trans h3⟩
 obtain ⟨u,h1,h2⟩:=key;rw [sL] at h1;obtain ⟨q,d,rfl⟩:=YF.1 h1
 have:=h q d
 exact absurd h2 (YG this)
def vz.same (t:vz Q ky K a b xa xb) (hc:nv (wD Q ky a xa)=none) {x y:cn} (h:yS K a b x y) (hx:x.num<4294967296) (j:y.num<4294967296):vX (mR (wD Q ky a xa)) x=vX (mR (wD Q ky b xb)) y:=by
 classical
 have ca:=OH hc;have F:∀ v,¬ kB (dp (fe (wD Q ky b xb))) v:=OH (by
  have h1:=t.VD;have h2:=t.symm.VD;rw [hc] at h1
  have:nv (wD Q ky b xb)=dG (fe (wD Q ky b xb)):=by
   unfold nv dG fe;rw [bi9] <;> rfl
  rw [this,<- h1])
 refine IF (eR _ _) (eR _ _) (lZ hx) (lZ j) fun f=>?_
 have e1:jD f (vX (mR (wD Q ky a xa)) x)=jD (fun s=>if cz (fe (wD Q ky a xa)) s=true then 0 else f s) (vX (mR (wD Q ky a xa)) x):=pe fun u hu=>by
  rw [Iw t.Vh ca u hu] <;> rfl
 have e2:jD f (vX (mR (wD Q ky b xb)) y)=jD (fun s=>if cz (fe (wD Q ky b xb)) s=true then 0 else f s) (vX (mR (wD Q ky b xb)) y):=pe fun u hu=>by
  rw [Iw t.symm.Vh F u hu] <;> rfl
 rw [e1,e2];refine t.put h _ _ fun k hk=>?_
 by_cases d:k∈Q.map ky
 ·rw [YC ((t.own hk).2 d),YC ((t.symm.own hk).2 d)]
 ·rw [Yx fun h=>d ((t.own hk).1 h),Yx fun h=>d ((t.symm.own hk).1 h),t.Sk k hk d]
end
def Jq {h:Hp} {p:Xac} {l c:Nat} {xs:List Xaa} (n:l=xs.length) (hc:∀ i,(hi:i<xs.length)->∃ a,p=some a/\aJ h (a.add (i*1)) 0 [.string xs[i]]) (hl:xs.length<=2^61) (s:Xaa):wz Tryz.prog 57 [.slice p l c,.string s] h (.bool (gd xs s)):=by
 refine ei mixed Tryz.func57 az (jm p l c s) ?_;unfold gZ bf bg bz aK bC dy aP bR;refine aS (cs:=[(false,[.bool]),(false,[.int .i64])]) (fun y m h'=>∃ i:Nat,y.2.1=(i:Int)/\m=xs.length-i/\i<=xs.length/\h'=h/\gd (xs.take i) s=false) (false,(0:Int),()) xs.length rfl
  ⟨0,rfl,rfl,ad,rfl,rfl⟩ ?_
 rintro ⟨u,J,⟨⟩⟩ m h' ⟨i,hi,rfl,F,rfl,hn⟩;simp only at hi;subst hi;refine ak ?_;refine aM (fun q=>?_) (fun q=>?_)
 ·have d:i<xs.length:=ad
  obtain ⟨a,G,j⟩:=hc i d;refine ax ⟨ad,ad⟩ (av G ?_);rw [show Int.toNat (i:Int)=i from ad];refine ay (xs[i],()) j (ak ?_);have hs:=WE xs s i d;rw [qM];refine ar (fun r=>?_) (fun r=>?_)
  ·have r:=Yz r;refine ⟨YJ Value.bool ?_,rfl⟩;unfold gd;exact (ZL.2 ⟨_,YD d,YA r⟩).symm
  ·rw [hn,r] at hs;refine aG (cs:=[(false,[.bool]),(false,[.int .i64])]) (u,((i+1:Nat):Int),()) (xs.length-(i+1)) rfl ad (by rw [wrap_i64 ad ad]; rfl) ?_;exact ⟨i+1,rfl,rfl,ad,rfl,hs⟩
 ·have:i=xs.length:=ad
  subst this;rw [Y4] at hn;exact ⟨by rw [hn],rfl⟩
def jx (us:List cd) (n:Nat) (s:Xaa):Option Nat :=
 if (us[n]?.map fun u=>gd (fy u) s)=some true then some n else us.findIdx? fun u=>gd u.aZ s
structure K9 (us:List cd):Prop where
 many:us.length<=2^20
 text:∀ u,u∈us->u.text.length<=2^20
 data:∀ u,u∈us->u.data.length<=2^20
 bh:∀ u,u∈us->u.bh.length<=2^20
def Fj {h:Hp} {p:Xac} {l c:Nat} {us:List cd} (v:xS h p l us) (sz:K9 us) {n:Nat} (hn:n<us.length) (s:Xaa) :
  HC Tryz.prog 73 #[.slice p l c,.int .i64 (n:Int),.string s] h fun w h'=>w=.int .i64 (Rm (jx us n s))/\Ext h h':=by
 refine aY (args:=[.slice p l c,.int .i64 (n:Int),.string s]) mixed Tryz.func73 az (nE p l c n s) ?_;unfold jo bf bg bz aK aX bJ aP;have hll:=v.len;have U:=sz.many;have F:us[n]?=some us[n]:=Yv hn;obtain ⟨a,sa,sb,sc,sd,rfl,hc,va⟩:=v.cells n hn;have hm:=YD hn;generalize us[n]=u at F hc va hm;refine ax ⟨ad,ad⟩ (av rfl ?_);rw [show Int.toNat (n:Int)=n from ad];refine ay ((sa.p,sa.l,sa.c),(sb.p,sb.l,sb.c),(sc.p,sc.l,sc.c),(sd.p,sd.l,sd.c),()) hc (ak ?_);refine aI (Nz va (sz.text u hm) (sz.data u hm) (sz.bh u hm)) ?_;rintro _ h1 ⟨p1,l1,c1,rfl,s1,e1⟩;refine ⟨((p1,l1,c1),()),rfl,ak ?_⟩;have V:(fy u).length<=2^61:=by
  have h1:=sz.text u hm;have h2:=sz.data u hm;have h3:=sz.bh u hm;unfold fy ef;rw [Yy,Yy,Yu,Yu,Yu];have h4:=ZP (fun x:cB=>decide (x.kind=1)) u.text;have h5:=ZP (fun x:cB=>decide (x.kind=1)) u.data;omega
 refine aQ (Df s1 V s) ?_;refine ar (fun q=>?_) (fun q=>?_)
 ·refine ⟨?_,e1⟩;unfold jx;rw [F,br9,q,YC rfl] <;> rfl
 ·have ho:jx us n s=us.findIdx? fun u=>gd u.aZ s:=by
   unfold jx;rw [F,br9,q,Yx aj]
  rw [ho];refine aS (cs:=[(false,[.int .i64]),(false,[.int .i64])]) (fun y m h'=>∃ i:Nat,y.2.1=(i:Int)/\m=us.length-i/\i<=us.length/\h'=h1/\∀ j,j<i->(d:j<us.length)->gd us[j].aZ s=false) ((0:Int),(0:Int),()) us.length rfl
   ⟨0,rfl,rfl,ad,rfl,fun j d=>absurd d ad⟩ ?_
  rintro ⟨n2,n3,⟨⟩⟩ m h' ⟨i,hi,rfl,hle,rfl,G⟩;simp only at hi;subst hi;refine ak ?_;refine aM (fun q=>?_) (fun q=>?_)
  ·have O:i<us.length:=ad
   obtain ⟨a',ta,tb,tc,X,Y,Z,J⟩:=(v.an e1).cells i O;refine ax ⟨ad,ad⟩ (av Y ?_);rw [show Int.toNat (i:Int)=i from ad];refine ay ((X.p,X.l,X.c),()) ⟨by rw [add_add]; exact Z.2.2.2.1,trivial⟩ ?_;refine ak ?_;refine aQ (Jq J.aZ.len (fun j d=>by
    obtain ⟨a,ha,hc,_⟩:=J.aZ.cells j d;exact ⟨a,ha,hc⟩) (by have:=J.aZ.many; omega) s) ?_
   refine ar (fun r=>?_) (fun r=>?_)
   ·refine ⟨?_,e1⟩;rw [show us.findIdx? (fun u=>gd u.aZ s)=some i from by
     rw [YX];exact ⟨O,r,fun j d=>by rw [G j d ad]; simp⟩]
    rfl
   ·refine aG (cs:=[(false,[.int .i64]),(false,[.int .i64])]) (n2,((i+1:Nat):Int),()) (us.length-(i+1)) rfl ad (by rw [wrap_i64 ad ad]; rfl) ?_;exact ⟨i+1,rfl,rfl,ad,rfl,fun j d hx=>by
     by_cases e:j=i
     ·subst e; exact r
     ·exact G j ad hx⟩
  ·have:i=us.length:=ad
   subst this;refine ⟨?_,e1⟩;rw [show us.findIdx? (fun u=>gd u.aZ s)=none from by
    rw [Ze];intro u hu;obtain ⟨j,d,rfl⟩:=Y0 hu;exact G j d d]
   rfl
def pV (n sec:Nat):Nat->List cB->List Lb
 | _,[]=>[]
 | i,x::l=>(if x.kind=1 then [⟨n,sec,i,x.name⟩] else [])++pV n sec (i+1) l
def F4 (n:Nat) (u:cd):List Lb:=pV n 0 0 u.text++pV n 1 0 u.data
def bZ:Nat->List cd->List Lb
 | _,[]=>[]
 | n,u::us=>F4 n u++bZ (n+1) us
def AF (x:Lb):Ky:=(x.u,x.n)
def jS (q:Nat × rO):Ky:=(q.1,q.2.1)
def nG (l:List Ky) (k:Ky):Option Nat:=l.findIdx? fun x=>decide (x=k)
def oD {l:List Ky} {k:Ky}:nG l k=none↔k∉l:=by
 unfold nG;rw [Ze];constructor
 ·intro h hk
  have:=h k hk
  simp at this
 ·intro h x hx;exact YB fun e=>h (e▸hx)
def jA {l:List Ky} {k:Ky} {i:Nat} (h:nG l k=some i):∃ hi:i<l.length,l[i]=k:=by
 unfold nG at h;rw [YX] at h;obtain ⟨h1,h2,_⟩:=h;exact ⟨h1,Yz h2⟩
def Be {l:List Ky} {k:Ky} (h:k∈l):∃ i,nG l k=some i:=by
 cases hk:nG l k with
 | some i=>exact ⟨i,rfl⟩
 | none=>exact absurd h (oD.1 hk)
def Cw {l:List Ky} {y:Ky} (hn:y∉l):nG (l++[y])=yD (nG l) y l.length:=by
 funext k
 unfold yD
 by_cases hk:k=y
 ·subst hk;rw [YC rfl];have h0:=oD.2 hn;unfold nG at h0 ⊢;rw [bl9,h0]
  simp
 ·rw [Yx hk];unfold nG;rw [bl9]
  have:decide (y=k)=false:=YB fun e=>hk e.symm
  simp [List.findIdx?_cons,this]
structure WI (w:LW) (L:List Lb) (E:List Ky):Prop where
 lb:w.lb=L
 num:w.num=nG (L.map AF)
 tK:w.tK=nG E
 ne:w.ne=E.length
theorem WI.Sk {w:LW} {L:List Lb} {E:List Ky} (i0:WI w L E) {n sec:Nat}:∀ (l:List cB) (i:Nat) {w:LW} {L:List Lb} (i0:WI w L E) (hn:(ef l).Nodup) (d:∀ s,s∈ef l->(n,s)∉L.map AF),WI (iJ n sec i l w) (L++pV n sec i l) E
 | [],i,w,L,i0,hn,d=>by simpa [iJ,pV] using i0
 | x::l,i,w,L,i0,hn,d=>by
  rw [sU] at hn d;rw [iJ,pV,<- YV]
  by_cases hk:x.kind=1
  ·simp only [hk,if_true,List.singleton_append,List.nodup_cons,List.mem_cons] at hn d;have hx:=d x.name (.inl rfl);refine WI.Sk i0 l (i+1) ?_ hn.2 (fun s hs=>?_)
   ·unfold jB;rw [YC hk,YC hk];refine ⟨by show w.lb++_=_; rw [i0.lb],?_,i0.tK,i0.ne⟩;show yD w.num (n,x.name) w.lb.length=_;rw [YH,List.map_singleton];show _=nG (L.map AF++[(n,x.name)]);rw [Cw hx,i0.num,i0.lb,Yu]
   ·rw [YC hk,YH,YN];rintro (h | h)
    ·exact d s (.inr hs) h
    ·have:(n,s)=(n,x.name):=by simpa [AF] using h
     have:s=x.name:=(aw9 this).2
     exact hn.1 (this▸hs)
  ·simp only [hk,if_false,List.nil_append] at hn d;rw [Yx hk,Zs];refine WI.Sk i0 l (i+1) ?_ hn d;unfold jB;rw [Yx hk];exact i0
theorem WI.eqs {L:List Lb} {n:Nat}:∀ (l:List rO) {w:LW} {E:List Ky} (i0:WI w L E) (hn:(l.map (·.1)).Nodup) (d:∀ s,s∈l.map (·.1)->(n,s)∉E),WI (l.foldl (uO n) w) L (E++l.map fun e=>(n,e.1))
 | [],w,E,i0,hn,d=>by simpa using i0
 | x::l,w,E,i0,hn,d=>by
  simp only [List.map_cons,List.nodup_cons,List.mem_cons] at hn d;have hx:=d x.1 (.inl rfl);rw [Y6,Zb,show E++(n,x.1)::l.map (fun e=>(n,e.1))=(E++[(n,x.1)])++l.map fun e=>(n,e.1) from aj];refine WI.eqs l ?_ hn.2 (fun s hs=>?_)
  ·refine ⟨i0.lb,i0.num,?_,?_⟩
   ·show yD w.tK (n,x.1) w.ne=_;rw [Cw hx,i0.tK,i0.ne]
   ·show (if (w.tK (n,x.1)).isSome then w.ne else w.ne+1)=_;rw [i0.tK,oD.2 hx,Yy,i0.ne] <;> rfl
  ·rw [YN];rintro (h | h)
   ·exact d s (.inr hs) h
   ·have:(n,s)=(n,x.1):=by simpa using h
    have:s=x.1:=(aw9 this).2
    exact hn.1 (this▸hs)
theorem wF (n sec:Nat):∀ (l:List cB) (i:Nat),(pV n sec i l).map AF=(ef l).map fun s=>(n,s)
 | [],i=>rfl
 | x::l,i=>by
  rw [pV,sU,YH,YH,wF n sec l (i+1)]
  by_cases hk:x.kind=1 <;> simp [hk,AF]
def WI.X' {w:LW} {L:List Lb} {E:List Ky} {n:Nat} (i0:WI w L E) {u:cd} (hn:(fy u).Nodup) (h1:∀ k,k∈L.map AF->k.1<n) (h2:∀ k,k∈E->k.1<n):WI (FO n u w) (L++F4 n u) (E++u.bh.map fun e=>(n,e.1)):=by
 unfold fy at hn;rw [Zr,Zr] at hn;obtain ⟨⟨d,j,F⟩,G,U⟩:=hn;unfold FO F4;rw [<- YV];refine WI.eqs _ (WI.Sk i0 _ _ (WI.Sk i0 _ _ i0 d (fun s hs h=>by have:=h1 _ h; simp at this)) j (fun s hs h=>?_)) G (fun s hs h=>by have:=h2 _ h; simp at this);rw [YH,YN] at h;rcases h with h | h
 ·have:=h1 _ h; simp at this
 ·rw [wF] at h;obtain ⟨t,J,O⟩:=YF.1 h
  have:t=s:=(aw9 O).2
  exact F t J s hs this
theorem WI.xu:∀ (us:List cd) (n:Nat) {w:LW} {L:List Lb} {E:List Ky} (i0:WI w L E) (hn:∀ u,u∈us->(fy u).Nodup) (h1:∀ k,k∈L.map AF->k.1<n) (h2:∀ k,k∈E->k.1<n),WI (nC n us w) (L++bZ n us) (E++(et n us).map jS)
 | [],n,w,L,E,i0,hn,h1,h2=>by simpa [nC,bZ,et] using i0
 | u::us,n,w,L,E,i0,hn,h1,h2=>by
  rw [nC,bZ,et,YH,<- YV,<- YV];have d:(u.bh.map fun e=>(n,e)).map jS=u.bh.map fun e=>(n,e.1):=by rw [YY]; rfl
  rw [d];refine WI.xu us (n+1) (WI.X' i0 (hn u aj) h1 h2) (fun v hv=>hn v (by simp [hv])) (fun k hk=>?_) (fun k hk=>?_)
  ·rw [YH,YN] at hk;rcases hk with hk | hk
   ·have:=h1 _ hk; omega
   ·unfold F4 at hk;rw [YH,wF,wF,<- YH] at hk;obtain ⟨s,_,rfl⟩:=YF.1 hk;show n<n+1;omega
  ·rcases YN.1 hk with hk | hk
   ·have:=h2 _ hk; omega
   ·obtain ⟨s,_,rfl⟩:=YF.1 hk;show n<n+1;omega
def wU {u:cd} (h:eO u=0):(fy u).Nodup:=by
 have h1:=(wZ h).2;rw [xz] at h1;unfold xx at h1;simp only [Bool.and_eq_true,decide_eq_true_eq] at h1;exact h1.2.2.2.1
def SE {us:List cd} (d:∀ u,u∈us->eO u=0):WI (nC 0 us Sz) (bZ 0 us) ((et 0 us).map jS):=by
 have:=WI.xu us 0 (w:=Sz) (L:=[]) (E:=[]) ⟨rfl,rfl,rfl,rfl⟩ (fun u hu=>wU (d u hu)) aj aj
 simpa using this
def MN {n:Nat} {u:cd} {w:LW}:(FK n u w).lb=w.lb/\(FK n u w).num=w.num/\(FK n u w).tK=w.tK/\(FK n u w).ne=w.ne:=by
 have h:=OD n u.aZ w;exact ⟨h.1,h.2.1,h.2.2.2.1,h.2.2.2.2⟩
theorem BQ:∀ (us:List cd) (n:Nat) (w w':LW),kQ n us w=.ok w'->w'.lb=w.lb/\w'.num=w.num/\w'.tK=w.tK/\w'.ne=w.ne
 | [],n,w,w',h=>by
  unfold kQ at h;cases h;exact ⟨rfl,rfl,rfl,rfl⟩
 | u::us,n,w,w',h=>by
  rw [kQ] at h;split at h
  ·cases h
  ·have h1:=BQ us (n+1) _ w' h;have h2:=MN (n:=n) (u:=u) (w:=w);exact ⟨h1.1.trans h2.1,h1.2.1.trans h2.2.1,h1.2.2.1.trans h2.2.2.1,h1.2.2.2.trans h2.2.2.2⟩
def WI.meet {us:List cd} {n:Nat} {w w':LW} {L:List Lb} {E:List Ky} (i0:WI w L E) (h:kQ n us w=.ok w'):WI w' L E:=by
 have:=BQ us n w w' h
 exact ⟨this.1.trans i0.lb,this.2.1.trans i0.num,this.2.2.1.trans i0.tK,this.2.2.2.trans i0.ne⟩
def WI.Kl {w:LW} {L:List Lb} {E:List Ky} (i0:WI w L E) (h1:L.length<=2^50) (h2:E.length<=2^50):PH w:=by
 refine ⟨fun k i h=>?_,fun k i h=>?_⟩
 ·rw [i0.num] at h;obtain ⟨hi,_⟩:=jA h;rw [Yu] at hi;omega
 ·rw [i0.tK] at h;obtain ⟨hi,_⟩:=jA h;omega
def DF (u:Nat):(Lib.decDigits u).foldl (fun a b=>a*10+(b.toNat-48)) 0=u:=by
 induction u using Nat.strongRecOn with
 | ind u d =>
  rw [Lib.decDigits];split
  ·next h =>
   have h1:(UInt8.ofNat (48+u)).toNat=48+u:=by rw [ak9]; omega
   simp only [List.foldl_cons,List.foldl_nil,h1];omega
  ·next h =>
   have h1:(UInt8.ofNat (48+u % 10)).toNat=48+u % 10:=by rw [ak9]; omega
   rw [Zk,d (u / 10) ad];simp only [List.foldl_cons,List.foldl_nil,h1];omega
def r9 (n:Nat):kZ n=⟨(Lib.decDigits n).toArray⟩:=by
 unfold kZ;rw [Lib.itoa_nonneg]
def lB {m n:Nat} (h:kZ m=kZ n):m=n:=by
 rw [r9,r9] at h;have h1:Lib.decDigits m=Lib.decDigits n:=by
  have:=YJ (fun b:Xaa=>b.data.toList) h
  simpa using this
 rw [<- DF m,h1,DF]
def ee (a b:Xaa):(a++b).data.toList=a.data.toList++b.data.toList:=by
 rw [ByteArray.data_append,Array.toList_append]
def oS {a b c:Xaa} (h:a++b=a++c):b=c:=by
 have h1:=YJ (fun b:Xaa=>b.data.toList) h;simp only [ee] at h1;have h2:=List.append_cancel_left h1;cases b; cases c;simp only at h2
 congr 1
 exact Array.ext' h2
def word_inj {w:LW} {L:List Lb} {E:List Ky} (i0:WI w L E) {k k':Ky} (hk:k∈L.map AF\/k∈E) (u:k'∈L.map AF\/k'∈E) (h:w.word k=w.word k'):k=k':=by
 have d:∀ a b:Xaa,(⟨#[76]⟩:Xaa)++a≠(⟨#[69]⟩:Xaa)++b:=by
  intro a b e;have h1:=YJ (fun b:Xaa=>b.data.toList) e;simp only [ee] at h1;simp at h1
 have J:∀ {k:Ky},k∈L.map AF\/k∈E->w.num k=none->∃ i,w.tK k=some i/\∃ hi:i<E.length,E[i]=k:=by
  intro k hk hn;rw [i0.num] at hn
  have:=oD.1 hn
  have hk:k∈E:=hk.elim (fun h=>absurd h this) id;obtain ⟨i,hi⟩:=Be hk;exact ⟨i,by rw [i0.tK]; exact hi,jA hi⟩
 unfold LW.word at h;cases h1:w.num k with
 | some i =>
  cases h2:w.num k' with
  | some j =>
   rw [h1,h2] at h
   have:=lB (oS h)
   subst this;rw [i0.num] at h1 h2;obtain ⟨a,O⟩:=jA h1;obtain ⟨b,U⟩:=jA h2;rw [<- O,<- U]
  | none =>
   rw [h1,h2] at h;exact absurd h (d _ _)
 | none =>
  obtain ⟨i,h3,hi,F⟩:=J hk h1;cases h2:w.num k' with
  | some j =>
   rw [h1,h2] at h;exact absurd h.symm (d _ _)
  | none =>
   obtain ⟨j,h4,V,G⟩:=J u h2;rw [h1,h2] at h;simp only [h3,h4,Option.getD_some] at h
   have:=lB (oS h)
   subst this;rw [<- F,<- G]
def Cm {w:LW} (b:PH w) (k:Ky):(w.word k).size<=maxLen:=by
 have d:2000<=maxLen:=cm
 unfold LW.word;cases h:w.num k with
 | some n =>
  have:=jw (n:=n) (by have:=b.n _ _ h; omega)
  show (_++_:Xaa).size<=_;rw [ZY]
  have:(⟨#[76]⟩:Xaa).size=1:=rfl
  omega
 | none =>
  have h1:(w.tK k).getD 0<=2^60:=by
   cases h2:w.tK k with
   | none=>simp
   | some i=>have:=b.e _ _ h2; simp; omega
  have:=jw h1
  show (_++_:Xaa).size<=_;rw [ZY]
  have:(⟨#[69]⟩:Xaa).size=1:=rfl
  omega
def An {w:LW} {u:Nat} {x:cn} (h:w.bad u x=none):∀ t,t∈x.ai->∃ k,w.own u t.1=some k:=by
 unfold LW.bad at h;rw [Option.map_eq_none_iff,List.find?_eq_none] at h;intro t d
 have:=h t d
 cases j:w.own u t.1 with
 | none=>rw [j] at this; simp at this
 | some k=>exact ⟨k,rfl⟩
def Iq {w:LW} {u:Nat} {x:cn} (h:w.bad u x=none):∀ t,t∈(w.lin u x).ai->∃ p k,p∈x.ai/\w.own u p.1=some k/\t.1=w.word k:=by
 intro t J;have G:=An h;rcases sB J with ⟨p,j,F,d⟩ | ⟨p,y,v,j,d,hv,F⟩
 ·obtain ⟨k,hk⟩:=G p j;rw [F] at hk;rw [hk] at d;cases d
 ·obtain ⟨k,hk⟩:=G p j;rw [hk] at d;simp only [Option.map_some,Option.some.injEq] at d;subst d;refine ⟨p,k,j,hk,?_⟩;rw [<- F]
  have:v=(w.word k,1):=by simpa [lR] using hv
  rw [this]
def zd {w:LW} {u:Nat} {x:cn} (h:w.bad u x=none):(w.lin u x).ai.length<=x.ai.length:=by
 have d:Nf (w.lin u x).ai:=eR _ _;have h1:((w.lin u x).ai.map (·.1)).Nodup:=Zw.2 (d.1.imp fun h=>kD h);have h2:=lG ((w.lin u x).ai.map (·.1)) (x.ai.map fun t=>w.word ((w.own u t.1).getD (0,dJ))) h1 (fun s hs=>by
  obtain ⟨t,j,rfl⟩:=YF.1 hs;obtain ⟨p,k,F,hk,G⟩:=Iq h t j;rw [G];refine YF.2 ⟨p,F,?_⟩;rw [hk];rfl)
 rwa [Yu,Yu] at h2
def N5 {w:LW} (b:PH w) {u:Nat} {x:cn} (h:w.bad u x=none):∀ t,t∈(w.lin u x).ai->t.1.size<=maxLen:=by
 intro t d;obtain ⟨p,k,_,_,j⟩:=Iq h t d;rw [j];exact Cm b k
def B0 {w:LW} {n:Nat} {u:cd} (h:ry w n u=none):(∀ x,x∈u.text->w.bad n x.e=none)/\(∀ x,x∈u.data->w.bad n x.e=none)/\∀ e,e∈u.bh->w.bad n e.2=none:=by
 unfold ry at h;rw [Option.or_eq_none_iff,Option.or_eq_none_iff] at h;obtain ⟨h1,h2,h3⟩:=h;unfold LW.yP at h1 h2;rw [Zx] at h1 h2 h3;exact ⟨h1,h2,h3⟩
theorem mD {w:LW}:∀ (us:List cd) (n:Nat),fN w n us=none->∀ i,(hi:i<us.length)->ry w (n+i) us[i]=none
 | [],n,h,i,hi=>absurd hi aj
 | u::us,n,h,i,hi=>by
  rw [fN] at h;cases d:ry w n u with
  | some s=>rw [d] at h; cases h
  | none =>
   rw [d] at h
   match i with
   | 0=>simpa using d
   | i+1 =>
    have:=mD us (n+1) h i (by simpa using hi)
    rw [show n+1+i=n+(i+1) from ad] at this;simpa using this
theorem vM:∀ (us:List cd) (n:Nat) (q:Nat × rO),q∈et n us->∃ i,∃ hi:i<us.length,q.1=n+i/\q.2∈us[i].bh
 | [],n,q,h=>by simp [et] at h
 | u::us,n,q,h=>by
  rw [et,YN] at h;rcases h with h | h
  ·obtain ⟨e,d,rfl⟩:=YF.1 h;exact ⟨0,aj,rfl,d⟩
  ·obtain ⟨i,hi,h1,h2⟩:=vM us (n+1) q h;exact ⟨i+1,by simpa using hi,ad,by simpa using h2⟩
def DX {w:LW} {us:List cd} (h:fN w 0 us=none) {q:Nat × rO} (d:q∈et 0 us):w.bad q.1 q.2.2=none:=by
 obtain ⟨i,hi,h1,h2⟩:=vM us 0 q d
 have:=(B0 (mD us 0 h i hi)).2.2 _ h2
 rw [h1];exact this
theorem IH:∀ (us:List cd) (n:Nat),(∀ u,u∈us->u.bh.length<=8192)->(et n us).length<=us.length*8192
 | [],n,h=>by simp [et]
 | u::us,n,h=>by
  rw [et,Yy,Yu,Zi];have h1:=IH us (n+1) (fun v hv=>h v (by simp [hv]));have h2:=h u aj;omega
theorem wV:∀ (us:List cd) (n:Nat),(∀ u,u∈us->(u.bh.map (·.1)).Nodup)->((et n us).map jS).Nodup
 | [],n,h=>by simp [et]
 | u::us,n,h=>by
  rw [et,YH,Zr];refine ⟨?_,wV us (n+1) (fun v hv=>h v (by simp [hv])),?_⟩
  ·have:(u.bh.map fun e=>(n,e)).map jS=(u.bh.map (·.1)).map fun s=>(n,s):=by rw [YY,YY]; rfl
   rw [this,Z1,Zw];exact (Z1.1 (h u aj)).imp fun h e=>h (aw9 e).2
  ·intro a d b j e;obtain ⟨q,F,rfl⟩:=YF.1 d;obtain ⟨r,G,rfl⟩:=YF.1 j;obtain ⟨x,_,rfl⟩:=YF.1 F;obtain ⟨i,_,h1,_⟩:=vM us (n+1) r G
   have:n=r.1:=(aw9 e).1
   omega
theorem BI:∀ (us:List cd) (n:Nat),((et n us).map fun q=>q.2.2.ai.length).sum<=((us.flatMap cK).flatMap (·.ai)).length
 | [],n=>by simp [et]
 | u::us,n=>by
  rw [et,YH,List.sum_append,Zd,Z2,Yy];have h1:=BI us (n+1);have h2:((u.bh.map fun e=>(n,e)).map fun q=>q.2.2.ai.length).sum<=((cK u).flatMap (·.ai)).length:=by
   unfold cK;rw [Z2,Yy,YY]
   have:∀ l:List rO,(l.map ((fun q:Nat × rO=>q.2.2.ai.length) ∘ fun e=>(n,e))).sum=((l.map (·.2)).flatMap (·.ai)).length:=by
    intro l
    induction l with
    | nil=>rfl
    | cons e l d=>rw [Zb,Zv,Zb,Zd,Yy,d]; rfl
   rw [this];omega
  omega
structure Gb (us:List cd):Prop where
 right:∀ u,u∈us->eO u=0
 many:us.length<=64
def Gb.bh {us:List cd} (r:Gb us) {u:cd} (hu:u∈us):u.bh.length<=8192/\u.text.length+u.data.length<=8192:=by
 have h:=(wZ (r.right u hu)).1;unfold vH at h;rw [Bool.or_eq_false_iff] at h;have h1:=YG h.1;have h2:=YG h.2;omega
def Gb.eqs {us:List cd} (r:Gb us):(et 0 us).length<=2^19:=by
 have h1:=IH us 0 (fun u hu=>(r.bh hu).1);have h2:=r.many;omega
theorem rq (n sec:Nat):∀ (l:List cB) (i:Nat),(pV n sec i l).length<=l.length
 | [],i=>by simp [pV]
 | x::l,i=>by
  have:=rq n sec l (i+1)
  rw [pV,Yy,Zi];split <;> simp <;> omega
theorem BV:∀ (us:List cd) (n:Nat),(∀ u,u∈us->u.text.length+u.data.length<=8192)->(bZ n us).length<=us.length*8192
 | [],n,h=>by simp [bZ]
 | u::us,n,h=>by
  rw [bZ,Yy,Zi];have h1:=BV us (n+1) (fun v hv=>h v (by simp [hv]));have h2:=h u aj;have h3:=rq n 0 u.text 0;have h4:=rq n 1 u.data 0;unfold F4;rw [Yy];omega
def Gb.ef {us:List cd} (r:Gb us):(bZ 0 us).length<=2^19:=by
 have h1:=BV us 0 (fun u hu=>(r.bh hu).2);have h2:=r.many;omega
def Gb.Kl {us:List cd} (r:Gb us) {w:LW} (i0:WI w (bZ 0 us) ((et 0 us).map jS)):PH w :=
 i0.Kl (by have:=r.ef; omega) (by rw [Yu]; have:=r.eqs; omega)
def TU {us:List cd} (r:Gb us) (sm:Jk us) {w:LW} (i0:WI w (bZ 0 us) ((et 0 us).map jS)) (V:fN w 0 us=none) {es:List cL} (h:es.map fk=vY w us):tM es:=by
 have lb:=r.Kl i0;have hn:Sx.bd es=(et 0 us).map fun q=>w.word (jS q):=by
  have:=YJ (List.map (·.1)) h
  unfold vY at this;rw [YY,YY] at this;exact this
 have hl:es.length=(et 0 us).length:=by
  have:=YJ List.length h
  unfold vY at this;simpa using this
 have d:∀ e,e∈es->∃ q,q∈et 0 us/\e.name=w.word (jS q)/\e.x=w.lin q.1 q.2.2:=by
  intro e j;have h1:fk e∈vY w us:=by rw [<- h]; exact YT j
  unfold vY at h1;obtain ⟨q,F,h2⟩:=YF.1 h1;exact ⟨q,F,(aw9 h2).1.symm,(aw9 h2).2.symm⟩
 have G:(es.flatMap (·.x.ai)).length<=2^20:=by
  have e1:∀ l:List cL,(l.flatMap (·.x.ai)).length=((l.map fk).map (·.2.ai.length)).sum:=by
   intro l
   induction l with
   | nil=>rfl
   | cons e l J=>rw [Zd,Yy,Zb,Zb,Zv,J]; rfl
  rw [e1,h];unfold vY;rw [YY];have e2:∀ l:List (Nat × rO),(∀ q,q∈l->w.bad q.1 q.2.2=none)->(l.map ((fun p:Xaa × cn=>p.2.ai.length) ∘ fun q=>(w.word (q.1,q.2.1),w.lin q.1 q.2.2))).sum<=(l.map fun q=>q.2.2.ai.length).sum:=by
   intro l hl
   induction l with
   | nil=>simp
   | cons q l J =>
    rw [Zb,Zb,Zv,Zv];have h1:=J (fun p Y=>hl p (by simp [Y]));have h2:=zd (hl q aj);have h3:((fun p:Xaa × cn=>p.2.ai.length) ∘ fun q:Nat × rO=>(w.word (q.1,q.2.1),w.lin q.1 q.2.2)) q=(w.lin q.1 q.2.2).ai.length:=rfl;omega
  have h1:=e2 (et 0 us) (fun q F=>DX V F);have h2:=BI us 0;have h3:=sm.ai;omega
 refine ⟨⟨?_,?_,?_,?_,?_⟩,G⟩
 ·rw [hn];have h1:=wV us 0 (fun u hu=>by
   have:=wU (r.right u hu)
   unfold fy at this;rw [Zr] at this;exact this.2.1)
  rw [Z1,Zw] at h1 ⊢;refine List.Pairwise.imp_of_mem ?_ h1;intro a b Z O U e;exact U (word_inj i0 (.inr (YT Z)) (.inr (YT O)) e)
 ·have:=r.eqs; omega
 ·intro e j;obtain ⟨q,_,h1,_⟩:=d e j;rw [h1];exact Cm lb _
 ·intro e j
  have:=gX (fun e:cL=>e.x.ai) j
  omega
 ·intro e j t X;obtain ⟨q,F,_,h2⟩:=d e j;rw [h2] at X;exact N5 lb (DX V F) t X
def K1 {es ms:List cL} (o:tM es) (hc:∀ v,¬ kB (dp es) v) (hm:ms.map (fun m=>(m.name,m.x))=es.map (fun e=>(e.name,eU es e.name))) (hl:es.length<=2^19) :
  EqsOk ms/\(∀ e,e∈ms->e.x.ai.length<=2^20)/\(ms.flatMap (·.x.ai)).length<=2^39/\ms.length<=2^20:=by
 have hn:Sx.bd ms=Sx.bd es:=by
  have:=YJ (List.map (·.1)) hm
  rw [YY,YY] at this;exact this
 have J:ms.length=es.length:=by
  have:=YJ List.length hm
  simpa using this
 have j:∀ e,e∈ms->e.name∈Sx.bd es/\e.x=eU es e.name:=by
  intro e u;have h1:(e.name,e.x)∈es.map (fun e=>(e.name,eU es e.name)):=by rw [<- hm]; exact YT (f:=fun m:cL=>(m.name,m.x)) u
  obtain ⟨q,O,h2⟩:=YF.1 h1;have h3:=(aw9 h2).1;exact ⟨by rw [<- h3]; exact YT O,by rw [<- (aw9 h2).2,h3]⟩
 have F:∀ e,e∈ms->e.x.ai.length<=2^20:=fun e u=>by rw [(j e u).2]; exact o.D1 hc (j e u).1
 refine ⟨⟨by rw [hn]; exact o.nodup,ad,fun e u=>?_,fun e u=>by have:=F e u; omega,fun e u t G=>?_⟩,F,?_,ad⟩
 ·exact o.names _ (j e u).1
 ·rw [(j e u).2] at G;exact o.LJ hc (j e u).1 t G
 ·have e1:∀ l:List cL,(∀ e,e∈l->e.x.ai.length<=2^20)->(l.flatMap (·.x.ai)).length<=l.length*2^20:=by
   intro l h
   induction l with
   | nil=>simp
   | cons e l U =>
    rw [Zd,Yy,Zi];have h1:=U (fun d V=>h d (by simp [V]));have h2:=h e aj;omega
  have:=e1 ms F
  omega
def Ux (n:Int):Instr.fill (fun j=>some (j*1,1)) ((Array.range (1*1)).map ((Value.int .u8 0).cells[· % (Value.int .u8 0).cells.size]!)) [(0,.int .u8 n)]=some ([.int .u8 n]:List Xab).toArray:=az
def uk (n:Nat):Xaa:=⟨[UInt8.ofNat (48+n % 10)].toArray⟩
def fV (n:Nat):Xaa:=⟨(Lib.decDigits n).toArray⟩
def zX {n:Nat} (h:n<10):fV n=uk n:=by
 unfold fV uk;rw [Lib.decDigits_one h,af9 h]
def Kr {n:Nat} (h:¬ n<10) (s:Xaa):fV n++s=fV (n / 10)++(uk n++s):=by
 unfold fV uk
 conv=>lhs; rw [Lib.decDigits,dif_neg h]
 apply vB;rw [ee,ee,ee];simp [List.append_assoc]
def xR {L:Lp} {K:Xab->Hp->Prop} {h:Hp} {n:Nat} (hn:n<=2^60) {k:Xaa->T} (hk:∀ h',Ext h h'->k (uk n) L K h') :
  T.ek Tryz.prog (Instr.buildSlice 194 1 #[(0,.int .u8 (IntKind.wrap .u8 (IntKind.wrap .i64 ((48:Int)+(Int.tmod (n:Int) (10:Int))))))]) false [(false,[.slice 0])] (fun p3 d j =>
   T.ek Tryz.prog (convert 194 9 (.slice p3 d j)) false [(false,[.string])] k) L K h:=by
 have hw:=UI n;rw [hw];refine jC Pp Yl ad ad (Ux _) ?_;intro h1 b1 e1 z1;have s1:SL h1 h.size 5 1 (some ⟨h.size,0,none⟩) 1 1 (Oj [UInt8.ofNat (48+n % 10)]):=⟨rfl,by simp [Oj],h.size,[],[],rfl,YI _,ad,by simpa [Oj] using b1,aj⟩
 exact Nw s1 aj (hk h1 e1)
def yY (s:Xaa):((ByteArray.toList s)==([]:List UInt8))=decide (s.data.toList=[]):=by
 rw [ByteArray.toList_eq];cases h:s.data.toList <;> simp
def xr {h:Hp} {n:Nat} (hn:n<=2^60):HC Tryz.prog 74 #[.int .i64 (n:Int)] h fun w h'=>w=.string (fV n)/\Ext h h':=by
 refine aY (args:=[.int .i64 (n:Int)]) mixed Tryz.func74 az (mJ n) ?_;unfold iK bt bU bm bX aP;have j:∀ m,(uk m).size=1:=fun m=>rfl
 have d:∀ m s,¬ (uk m++s).data.toList=[]:=fun m s G=>by rw [ee] at G; simp [uk] at G
 refine aS (cs:=[(false,[.int .i64]),(false,[.string])]) (fun y k h'=>∃ (m:Nat) (s:Xaa),y.1=(m:Int)/\y.2.1=s/\k=2*m+(if s.data.toList=[] then 1 else 0)/\m<=n/\s.size+m<=n+1/\Ext h h'/\((s=⟨#[]⟩/\m=n)\/(¬ s.data.toList=[]/\fV n=(if m=0 then ⟨#[]⟩ else fV m)++s))) ((n:Int),(⟨#[]⟩:Xaa),()) _ rfl
  ⟨n,⟨#[]⟩,rfl,rfl,rfl,YI _,by show 0+n<=n+1; omega,Ch.refl _ _,.inl ⟨rfl,rfl⟩⟩ ?_
 rintro ⟨X,(s:Xaa),⟨⟩⟩ k h1 ⟨m,s',hi,u,rfl,O,U,e1,hs⟩;simp only at hi u;subst hi u;refine ak ?_;have F:IntKind.wrap .i64 (Int.tdiv (m:Int) 10)=((m / 10:Nat):Int):=by
  have:Int.tdiv (m:Int) 10=((m / 10:Nat):Int):=by rw [Int.tdiv_eq_ediv_of_nonneg ad]; omega
  rw [this,wrap_i64 ad ad]
 have J:∀ s:Xaa,(uk m++s).size=1+s.size:=fun s=>by rw [ZY,j]
 refine aM (fun q=>?_) (fun q=>?_)
 ·have hm:¬ m=0:=ad
  refine ax cm ?_;refine xR ad ?_;intro h2 e2;refine ax (by show ((((uk m).size+s.size:Nat)):Int)<=_; rw [j]; omega) (ax cm ?_);have V:fV n=fV m++s:=by
   rcases hs with ⟨rfl,rfl⟩ | ⟨_,hs⟩
   ·apply vB;rw [ee]
    simp
   ·rw [hs,Yx hm]
  refine aG (cs:=[(false,[.int .i64]),(false,[.string])]) (((m / 10:Nat):Int),uk m++s,()) (2*(m / 10)+0) rfl ad (YJ (fun z=>[Value.int .i64 z,.string (uk m++s)]) F) ⟨m / 10,uk m++s,rfl,rfl,by rw [Yx (d m s)],ad,by rw [J]; omega,e1.trans e2,.inr ⟨d m s,?_⟩⟩;rw [V]
  by_cases h10:m<10
  ·rw [zX h10,YC ad];apply vB;rw [ee,ee,ee]
   simp
  ·rw [Kr h10,Yx ad]
 ·have hm:m=0:=ad
  subst hm;rw [yY];refine aM (fun r=>?_) (fun r=>?_)
  ·rcases hs with ⟨rfl,h0⟩ | ⟨G,_⟩
   ·subst h0;refine ax cm ?_;refine xR ad ?_;intro h2 e2;refine ax cm (ax cm ?_);refine aG (cs:=[(false,[.int .i64]),(false,[.string])]) (((0:Nat):Int),uk 0++⟨#[]⟩,()) 0 rfl aj rfl ⟨0,uk 0++⟨#[]⟩,rfl,rfl,by rw [Yx (d 0 _)],ad,cm,e1.trans e2,.inr ⟨d 0 _,?_⟩⟩;rw [zX ad,YC rfl];apply vB;rw [ee,ee]
    simp
   ·exact absurd r G
  ·rcases hs with ⟨rfl,_⟩ | ⟨_,hs⟩
   ·exact absurd rfl r
   ·refine ⟨?_,e1⟩;rw [hs,YC rfl]
    congr 1
def mh (us:List cd) (n:Nat) (x:cn):Option Xaa:=(x.ai.find? fun t=>(jx us n t.1).isNone).map (·.1)
def dO (us:List cd) (n:Nat) (x:cn):Xaa:=(mh us n x).getD ⟨#[]⟩
def PS (o:Option Nat):decide (Rm o<0)=o.isNone:=by
 cases o with
 | none=>rfl
 | some k=>exact YB (by show ¬ ((k:Int)<0); omega)
def FU {h:Hp} {p:Xac} {l c:Nat} {us:List cd} (v:xS h p l us) (sz:K9 us) {n:Nat} (hn:n<us.length) {q:Xac} {m d:Nat} {x:cn} (u:gW h q m x.ai) (hx:x.ai.length<=2^60) :
  HC Tryz.prog 99 #[.slice p l c,.int .i64 (n:Int),iI q m d x] h fun w h'=>w=.string (dO us n x)/\Ext h h':=by
 refine aY (args:=[.slice p l c,.int .i64 (n:Int),.agg #[.slice q m d,.int .u32 x.num]]) mixed Tryz.func99 az (nH p l c n q m d x.num) ?_;unfold jj bf bg bz aK ct aH bX aP;have Y:=u.len;refine br ?_;intro h1 b1 e1 z1;refine aS (cs:=[(false,[.string]),(false,[.int .i64])]) (fun y k h'=>∃ i:Nat,y.2.1=(i:Int)/\k=x.ai.length-i/\i<=x.ai.length/\Ext h h'/\Ext h1 h'/\∀ j,j<i->(G:j<x.ai.length)->(jx us n x.ai[j].1).isNone=false) ((⟨#[]⟩:Xaa),(0:Int),()) x.ai.length rfl
  ⟨0,rfl,rfl,ad,e1,Ch.refl _ _,fun j G=>absurd G ad⟩ ?_
 rintro ⟨Z,n5,⟨⟩⟩ k h2 ⟨i,hi,rfl,hle,F,O,J⟩;simp only at hi;subst hi;refine ak ?_;have X:=b1.an O aj;refine af X ((q,m,d),()) rfl (ak ?_);refine aM (fun g=>?_) (fun g=>?_)
 ·have U:i<x.ai.length:=ad
  refine af X ((q,m,d),()) rfl (ak ?_);obtain ⟨a,rfl,hc⟩:=(u.an F aj).cells i U;refine ax ⟨ad,ad⟩ (av rfl ?_);rw [show Int.toNat (i:Int)=i from ad];refine ay (x.ai[i].1,()) ⟨hc.1,trivial⟩ (ak ?_);refine aI (Fj (c:=c) (v.an F) sz hn x.ai[i].1) ?_;rintro _ h3 ⟨rfl,V⟩;refine ⟨(Rm (jx us n x.ai[i].1),()),rfl,ak ?_⟩;rw [PS];refine ar (fun r=>?_) (fun r=>?_)
  ·refine af (X.an V aj) ((some a,m,d),()) rfl (ak ?_);refine ax ⟨ad,ad⟩ (av rfl ?_);refine ay (x.ai[i].1,()) ⟨(aT V aj _ _ hc).1,trivial⟩ ?_;refine ⟨?_,F.trans V⟩;unfold dO mh;rw [lA (fun t:Xaa × Nat=>(jx us n t.1).isNone) x.ai i U (fun j G=>J j G ad) r] <;> rfl
  ·refine aG (cs:=[(false,[.string]),(false,[.int .i64])]) (Z,((i+1:Nat):Int),()) (x.ai.length-(i+1)) rfl ad (by rw [wrap_i64 ad ad]; rfl) ?_;exact ⟨i+1,rfl,rfl,ad,F.trans V,O.trans V,fun j G hx=>by
    by_cases e:j=i
    ·subst e; exact r
    ·exact J j ad hx⟩
 ·have:i=x.ai.length:=ad
  subst this;refine ⟨?_,F⟩;unfold dO mh;rw [oq (fun t:Xaa × Nat=>(jx us n t.1).isNone) x.ai fun j G=>J j G G] <;> rfl
def Cq {P:Program} {h:Hp} {L:Lp} {K:Xab->Hp->Prop} {k:Xac->Nat->Nat->T} {t ty e:TypeId} {z:Xab} {sz by':Nat} (Y:P.underlying t=some (.slice e)) (u:(P.info? e).map (fun i=>(i.zero,i.size,i.bytes))=some (some z,sz,by'))
  (G:z.cells.size=sz) {b:Nat} {p:Xac} {l c:Nat} {xs:List (List Xab)} (s:SL h b e sz p l c xs) {q:Xac} {m d:Nat} {ys:List (List Xab)} (F:(q=none/\ys=[])\/∃ a,q=some a/\aJ h a 0 ys.flatten) (hm:m=ys.length) (J:∀ y,y∈ys->y.length=sz) (O:ys.flatten.all cU=true)
  (U:(2*(l+m)+1024)*by'<=2^48) (V:l+m<=2^48) (Z:b<=h.size)
  (hk:∀ p' c' h',SL h' b e sz p' (l+m) c' (xs++ys)->Ch (aR p) h h'->k p' (l+m) c' L K h') :
  T.ek P (Builtin.append_ #[t,t] ty #[.slice p l c,.slice q m d]) false [(false,[.slice 0])] k L K h:=by
 obtain ⟨i,hi,hz,rfl,rfl⟩:=nu u;refine du ?_;rcases F with ⟨rfl,rfl⟩ | ⟨a,rfl,hc⟩
 ·have h0:m=0:=hm;subst h0;have X:l<=c:=SL.GS s;simp [Builtin.append_,ao,aF Y,bT hi,cE hi,Builtin.lenOf,Builtin.firstCells,X];have j:∃ p' l' c',Value.slice p l c=.slice p' l' c'/\k p' l' c' L K h:=⟨p,l,c,rfl,by simpa using hk p c h (by simpa using s) (Ch.refl _ _)⟩
  cases p with
  | none=>exact j
  | some a=>exact j
 ·exact oR (P:=P) (K:=fun v h'=>∃ p l c,v=.slice p l c/\k p l c L K h') (ty:=ty) (ys:=ys) Y hi hz G s hm J hc O U V Z fun p' c' h' s' k' _=>⟨p',_,c',rfl,hk p' c' h' s' k'⟩
def qG (us:List cd) (n:Nat) (l:List cn):Xaa:=((l.map (dO us n)).find? fun s=>!decide (s.data.toList=[])).getD ⟨#[]⟩
def Ic {us:List cd} {n:Nat} {l:List cn} {i:Nat} (hi:i<l.length) (h:∀ j,(d:j<i)->(dO us n (l[j]'ad)).data.toList=[]) (hs:¬ (dO us n l[i]).data.toList=[]):qG us n l=dO us n l[i]:=by
 unfold qG;rw [lA (fun s:Xaa=>!decide (s.data.toList=[])) (l.map (dO us n)) i (by rw [Yu]; exact hi) (fun j d=>by rw [YE]; simp [h j d]) (by rw [YE]; simpa using hs)];rw [YE] <;> rfl
def JI {us:List cd} {n:Nat} {l:List cn} (h:∀ j,(d:j<l.length)->(dO us n l[j]).data.toList=[]):qG us n l=⟨#[]⟩:=by
 unfold qG;rw [oq (fun s:Xaa=>!decide (s.data.toList=[])) (l.map (dO us n)) fun j d=>by
  rw [Yu] at d;rw [YE];simp [h j d]]
 rfl
def Dr {h:Hp} {p:Xac} {l c:Nat} {us:List cd} (v:xS h p l us) (sz:K9 us) {n:Nat} (hn:n<us.length) :
  HC Tryz.prog 72 #[.slice p l c,.int .i64 (n:Int)] h fun w h'=>w=.string (qG us n (cK us[n]))/\Ext h h':=by
 refine aY (args:=[.slice p l c,.int .i64 (n:Int)]) mixed Tryz.func72 az (kr p l c n) ?_;unfold gj bf bg bz aK gS bt aH bq bX aP;have hll:=v.len;have hmany:=sz.many;obtain ⟨a,sa,sb,sc,sd,rfl,hc,va⟩:=v.cells n hn;have hm:=YD hn;generalize us[n]=u at hc va hm;refine ax ⟨ad,ad⟩ (av rfl ?_);rw [show Int.toNat (n:Int)=n from ad];refine ay ((sa.p,sa.l,sa.c),(sb.p,sb.l,sb.c),(sc.p,sc.l,sc.c),(sd.p,sd.l,sd.c),()) hc (ak ?_);refine br ?_;intro h1 b1 e1 z1;refine aw b1 rfl aj ?_;intro h2 b2 k2 z2;have b2:bI h2 h.size 47 [sa.v,sb.v,sc.v,sd.v]:=b2;have e2:Ext h h2:=bQ e1 k2;refine af b2 ((sa.p,sa.l,sa.c),()) rfl (ak ?_);rw [aE];refine af b2 ((sb.p,sb.l,sb.c),()) rfl (ak ?_);have va2:=va.an e2;obtain ⟨wt,hwt,vwt,iwt⟩:=Dk va2.text;obtain ⟨wd,hwd,vwd,iwd⟩:=Dk va2.data;have hlt:wt.length=u.text.length:=by rw [<- hwt,Yu]
 have hld:wd.length=u.data.length:=by rw [<- hwd,Yu]
 have h1t:=sz.text u hm;have h1d:=sz.data u hm;have h1e:=sz.bh u hm;have hlvt:=vwt.len;have hlvd:=vwd.len;refine Qq (z:=.agg iz.toArray) (sz:=10) (by':=104) Bc EI ?_;intro h3 s3 e3;have z3:=e3.size;have z2':=e2.size;have b3:=b2.an e3 aj;refine ⟨⟨b3.cells _ rfl,b3.cells _ rfl,trivial⟩,?_⟩;have esrc:∀ {h h':Hp} {q:Xac} {us:List (cr × cB)},Ext h h'->((q=none/\us.map tJ=[])\/∃ a,q=some a/\aJ h a 0 (us.map tJ).flatten)->((q=none/\us.map tJ=[])\/∃ a,q=some a/\aJ h' a 0 (us.map tJ).flatten):=by
  rintro h h' q us e (x | ⟨a,ha,hc⟩)
  ·exact .inl x
  ·exact .inr ⟨a,ha,aT e aj _ _ hc⟩
 refine Cq (z:=.agg iz.toArray) (sz:=10) (by':=104) Bc EI rfl s3 (esrc e3 vwt.src) (by simpa using hlvt) (oC wt) (pn wt) ad ad ad ?_;intro p4 c4 h4 s4 k4;have e4:Ext h2 h4:=Ch.trans e3 k4 (fun j F hl=>by simp [aR] at F; omega);have b4:=b2.an e4 aj;have z4:=e4.size;rw [ZT] at s4;refine ⟨⟨b4.cells _ rfl,trivial⟩,?_⟩;refine Cq (z:=.agg iz.toArray) (sz:=10) (by':=104) Bc EI rfl s4 (esrc e4 vwd.src) (by simpa using hlvd) (oC wd) (pn wd) ad ad ad ?_;intro p5 c5 h5 s5 k5;have e5:Ext h2 h5:=Ch.trans e4 k5 (fun j F hl=>by have:=(s4.cv F).1; omega);have b5:=b2.an e5 aj;rw [<- YH] at s5;refine ⟨⟨b5.cells _ rfl,trivial⟩,?_⟩;have e05:=e2.trans e5;have hI:∀ w,w∈wt++wd->js h5 w.1.p w.1.l w.2:=fun w hw=>by
  rcases YN.1 hw with hw | hw
  ·exact (iwt w hw).an e5
  ·exact (iwd w hw).an e5
 have hE:(wt++wd).map (fun w=>w.2.e)=u.text.map (·.e)++u.data.map (·.e):=by
  rw [YH,<- hwt,<- hwd,YY,YY] <;> rfl
 have G:cK u=(wt++wd).map (fun w=>w.2.e)++u.bh.map (·.2):=by rw [hE]; rfl
 have hwl:(wt++wd).length=sa.l+sb.l:=by rw [Yy]; omega
 generalize wt++wd=W at s5 hI G hwl;clear hE;refine aS (cs:=[(false,[.string]),(false,[.int .i64])]) (fun y k h'=>∃ i:Nat,y.2.1=(i:Int)/\k=W.length-i/\i<=W.length/\Ext h5 h'/\∀ j,j<i->(F:j<W.length)->(dO us n W[j].2.e).data.toList=[]) ((⟨#[]⟩:Xaa),(0:Int),()) W.length rfl
  ⟨0,rfl,rfl,ad,Ch.refl _ _,fun j F=>absurd F ad⟩ ?_
 rintro ⟨s31,n32,⟨⟩⟩ k h6 ⟨i,hi,rfl,hle,e6,X⟩;simp only at hi;subst hi;refine ak ?_;have s6:=s5.bP e6 aj;have e06:=e05.trans e6;have b6:=b5.an e6 aj;refine aM (fun g=>?_) (fun g=>?_)
 ·have J:i<W.length:=ad
  obtain ⟨a6,rfl,hc6⟩:=SL.cells s6 (i:=i) (by rw [Yu]; exact J);rw [YE] at hc6;have hiw:=(hI _ (YD J)).an e6;refine ax ⟨ad,ad⟩ (av rfl ?_);rw [show Int.toNat (i:Int)=i from ad];refine ay ((W[i].1.p,W[i].1.l,W[i].1.c),(W[i].2.e.num:Int),()) ⟨by rw [add_add]; exact hc6.2.2.2.2.2.2.2.1,by rw [add_add]; exact hc6.2.2.2.2.2.2.2.2.1,trivial⟩ ?_;refine ak ?_;refine aI (FU (c:=c) (d:=W[i].1.c) (v.an e06) sz hn hiw.lin.vw hiw.lin.many) ?_;rintro _ h7 ⟨rfl,e7⟩;refine ⟨(dO us n W[i].2.e,()),rfl,ak ?_⟩;rw [yY];refine ar (fun r=>?_) (fun r=>?_)
  ·have r:¬ (dO us n W[i].2.e).data.toList=[]:=by simpa using r
   refine ⟨?_,e06.trans e7⟩;rw [G,Ic (i:=i) (by rw [Yy,Yu]; omega) (fun j F=>by
    rw [ZD (by rw [Yu]; omega),YE];exact X j F ad) (by
    rw [ZD (by rw [Yu]; omega),YE];exact r)]
   rw [ZD (by rw [Yu]; omega),YE]
  ·have r:(dO us n W[i].2.e).data.toList=[]:=by simpa using r
   refine aG (cs:=[(false,[.string]),(false,[.int .i64])]) (s31,((i+1:Nat):Int),()) (W.length-(i+1)) rfl ad (by rw [wrap_i64 ad ad]; rfl) ?_;exact ⟨i+1,rfl,rfl,ad,e6.trans e7,fun j F hx=>by
    by_cases e:j=i
    ·subst e; exact r
    ·exact X j ad hx⟩
 ·have hiW:i=W.length:=ad
  subst hiW;have veq:=va.bh;have hlq:=veq.len;refine aS (cs:=[(false,[.string]),(false,[.int .i64])]) (fun y k h'=>∃ i:Nat,y.2.1=(i:Int)/\k=u.bh.length-i/\i<=u.bh.length/\Ext h5 h'/\∀ j,j<i->(F:j<u.bh.length)->(dO us n u.bh[j].2).data.toList=[]) (s31,(0:Int),()) u.bh.length rfl
   ⟨0,rfl,rfl,ad,e6,fun j F=>absurd F ad⟩ ?_
  rintro ⟨s33,n34,⟨⟩⟩ k h7 ⟨i,hi,rfl,hle,e7,O⟩;simp only at hi;subst hi;refine ak ?_;have b7:=b5.an e7 aj;have Y:=e05.trans e7;rw [aE];refine af b7 ((sc.p,sc.l,sc.c),()) rfl (ak ?_);refine aM (fun g=>?_) (fun g=>?_)
  ·have J:i<u.bh.length:=ad
   refine af b7 ((sc.p,sc.l,sc.c),()) rfl (ak ?_);obtain ⟨aq,q,m,d,haq,hcq,hvq,_⟩:=(veq.an Y).cells i J;refine ax ⟨ad,ad⟩ (av haq ?_);rw [show Int.toNat (i:Int)=i from ad];refine ay ((q,m,d),(u.bh[i].2.num:Int),()) ⟨by rw [add_add]; exact hcq.2.1,by rw [add_add]; exact hcq.2.2.1,trivial⟩ ?_;refine ak ?_;refine aI (FU (c:=c) (d:=d) (v.an Y) sz hn hvq.vw hvq.many) ?_;rintro _ h8 ⟨rfl,e8⟩;refine ⟨(dO us n u.bh[i].2,()),rfl,ak ?_⟩;rw [yY];have U:(W.map fun w=>w.2.e).length=W.length:=Yu _;refine ar (fun r=>?_) (fun r=>?_)
   ·have r:¬ (dO us n u.bh[i].2).data.toList=[]:=by simpa using r
    refine ⟨?_,Y.trans e8⟩;have V:∀ j (F:j<u.bh.length),((W.map fun w=>w.2.e)++u.bh.map (·.2))[W.length+j]'(by rw [Yy,Yu,Yu]; omega)=u.bh[j].2:=fun j F=>by
     rw [ZW (by rw [U]; omega)];simp [U]
    rw [G,Ic (i:=W.length+i) (by rw [Yy,Yu,Yu]; omega) (fun j F=>by
     by_cases Z:j<W.length
     ·rw [ZD (by rw [U]; omega),YE];exact X j ad Z
     ·have:=V (j-W.length) ad
      simp only [show W.length+(j-W.length)=j from ad] at this;rw [this];exact O _ ad _) (by rw [V i J]; exact r),V i J]
   ·have r:(dO us n u.bh[i].2).data.toList=[]:=by simpa using r
    refine aG (cs:=[(false,[.string]),(false,[.int .i64])]) (s33,((i+1:Nat):Int),()) (u.bh.length-(i+1)) rfl ad (by rw [wrap_i64 ad ad]; rfl) ?_;exact ⟨i+1,rfl,rfl,ad,e7.trans e8,fun j F hx=>by
     by_cases e:j=i
     ·subst e; exact r
     ·exact O j ad hx⟩
  ·have hie:i=u.bh.length:=ad
   subst hie;refine ⟨?_,Y⟩;rw [G,JI fun j F=>by
    rw [Yy,Yu,Yu] at F
    by_cases Z:j<W.length
    ·rw [ZD (by rw [Yu]; omega),YE];exact X j Z Z
    ·rw [ZW (by rw [Yu]; omega),YE];exact O _ (by simp; omega) _]
theorem jZ {α:Type} (f:Nat->Option α) (x:α):∀ (n i:Nat),i<n->(∀ j,j<i->f j=none)->f i=some x->(List.range n).findSome? f=some x
 | 0,i,hi,_,_=>absurd hi ad
 | n+1,i,hi,h0,hx=>by
  rw [List.range_succ,bg9]
  by_cases h:i<n
  ·rw [jZ f x n i h h0 hx] <;> rfl
  ·have:i=n:=ad
   subst this;have hn:(List.range i).findSome? f=none:=by
    rw [Zx];intro j d;exact h0 j (ag9.1 d)
   rw [hn];simp [hx]
def jR {α:Type} (f:Nat->Option α) (n:Nat) (h:∀ j,j<n->f j=none):(List.range n).findSome? f=none:=by
 rw [Zx];intro j d;exact h j (ag9.1 d)
def yv (us:List cd) (i:Nat):Option (Nat × Xaa):=us[i]?.bind fun u=>(u.aZ.find? fun s=>(us.take i).any fun v=>gd v.aZ s).map fun s=>(i,s)
def Ea (us:List cd):Option (Nat × Xaa):=(List.range us.length).findSome? (yv us)
def A8 (us:List cd) (i:Nat):Option (Nat × Xaa):=us[i]?.bind fun u=>if (qG us i (cK u)).data.toList=[] then none else some (i,qG us i (cK u))
def NC (us:List cd):Option (Nat × Xaa):=(List.range us.length).findSome? (A8 us)
def fz (us:List cd):Fl :=
 if us.length=0 then ⟨25,0,dJ⟩
 else if 64<us.length then ⟨4,0,dJ⟩
 else match us.findIdx? fun u=>decide (eO u≠0) with
 | some n=>⟨31,n,dJ⟩
 | none=>match Ea us with
  | some q=>⟨22,q.1,q.2⟩
  | none=>match NC us with
   | some q=>⟨23,q.1,q.2⟩
   | none=>⟨0,0,dJ⟩
def PC (f:Fl):Xab:=.agg #[.int .i64 (f.qF:Int),.int .i64 (f.unit:Int),.string f.name]
def sE {L:Lp} {K:Xab->Hp->Prop} {h0 h:Hp} {g:Nat} {a b:Int} {s:Xaa} (bx:bI h g 75 [.int .i64 a,.int .i64 b,.string s]) (e0:Ext h0 h) (J:h0.size<=g) (f:Fl) (hk:∀ h',Ext h0 h'->K (PC f) h') :
  T.aC ⟨g,0,none⟩ [.int .i64 (f.qF:Int),.int .i64 (f.unit:Int),.string f.name] (T.ah ⟨g,0,none⟩ [.int .i64,.int .i64,.string] fun (j:Int) (u:Int) (F:Xaa)=>T.ret (.agg #[.int .i64 j,.int .i64 u,.string F])) L K h:=by
 refine aw bx rfl aj ?_;intro h2 d G z2;have d:bI h2 g 75 [.int .i64 (f.qF:Int),.int .i64 (f.unit:Int),.string f.name]:=d;refine af d ((f.qF:Int),(f.unit:Int),f.name,()) rfl ?_;exact hk h2 (bQ e0 G)
def K9.of {us:List cd} (d:us.length<=64) (j:∀ u,u∈us->eO u=0):K9 us:=by
 have r:Gb us:=⟨j,d⟩
 refine ⟨ad,fun u hu=>?_,fun u hu=>?_,fun u hu=>?_⟩ <;> have:=r.bh hu <;> omega
def HT {h : Hp} {p : Xac} {l c : Nat} {us : List cd} (v : xS h p l us) : HC Tryz.prog 48 #[.slice p l c] h fun w h' => w = PC (fz us) /\ Ext h h' := by
  refine aY (args := [.slice p l c]) mixed Tryz.func48 az (lU p l c) ?_;unfold ir bf bg bz aK aX ct gS bX aP;have hll := v.len;refine br ?_;intro h1 b1 e1 z1;refine ar (fun g => ?_) (fun g => ?_)
  · have g : l = 0 := by have : (l : Int) = 0 := by simpa using g
                         omega
    refine sE b1 e1 (YI _) ⟨25, 0, dJ⟩ fun h' e' => ⟨?_, e'⟩
    unfold fz;rw [YC ad]
  have J : ¬ us.length = 0 := by
    intro hh;have : l = 0 :=ad
    subst this;cases g
  refine ar (fun O => ?_) (fun O => ?_)
  · have O := Yz O
    refine sE b1 e1 (YI _) ⟨4, 0, dJ⟩ fun h' e' => ⟨?_, e'⟩
    unfold fz;rw [Yx J, YC ad]
  have O := YG O;have Y : ¬ 64 < us.length :=ad
  refine aS (cs := [(false, [.int .i64])]) (fun y k h' => ∃ i : Nat, y.1 = (i : Int) /\ k = us.length - i /\ i <= us.length /\ Ext h1 h' /\ ∀ j, j < i -> (d : j < us.length) -> eO us[j] = 0) ((0 : Int), ()) us.length rfl
    ⟨0, rfl, rfl, ad, Ch.refl _ _, fun j d => absurd d ad⟩ ?_
  rintro ⟨n2, ⟨⟩⟩ k h2 ⟨i, hi, rfl, hle, e2, hr⟩;simp only at hi;subst hi;refine ak ?_;have b2 := b1.an e2 aj;have e02 := e1.trans e2;refine ar (fun q => ?_) (fun q => ?_)
  · have q := Yz q
    have hil : i < us.length :=ad
    obtain ⟨a, sa, sb, sc, sd, rfl, hc, va⟩ := (v.an e02).cells i hil;refine ax ⟨ad, ad⟩ (av rfl ?_);rw [show Int.toNat (i : Int) = i from ad];refine ay ((sa.p, sa.l, sa.c), (sb.p, sb.l, sb.c), (sc.p, sc.l, sc.c), (sd.p, sd.l, sd.c), ()) hc (ak ?_);refine aI (Ki va) ?_;rintro _ h3 ⟨rfl, e3⟩;refine ⟨(((eO us[i] : Nat) : Int), ()), rfl, ak ?_⟩;refine ar (fun r => ?_) (fun r => ?_)
    · have r : ¬ eO us[i] = 0 := by
        intro hh;rw [hh] at r;cases r
      refine sE (b2.an e3 aj) (e02.trans e3) (YI _) ⟨31, i, dJ⟩ fun h' e' => ⟨?_, e'⟩
      unfold fz
      rw [Yx J, Yx Y, show us.findIdx? (fun u => decide (eO u ≠ 0)) = some i from by
        rw [YX];exact ⟨hil, YA r, fun j d => by simp [hr j d ad]⟩]
    · have r : eO us[i] = 0 := by
        have : ((eO us[i] : Nat) : Int) = 0 := by simpa using r
        omega
      refine aG (cs := [(false, [.int .i64])]) (((i + 1 : Nat) : Int), ()) (us.length - (i + 1)) rfl ad (by rw [wrap_i64 ad ad]; rfl) ?_
      exact ⟨i + 1, rfl, rfl, ad, e2.trans e3, fun j d hx => by
        by_cases e : j = i
        · subst e; exact r
        · exact hr j ad hx⟩
  have q := YG q
  have hR : ∀ u, u ∈ us -> eO u = 0 := fun u hu => by
    obtain ⟨j, d, rfl⟩ := Y0 hu;exact hr j ad d
  have sz := K9.of ad hR
  have hfi : us.findIdx? (fun u => decide (eO u ≠ 0)) = none := by
    rw [Ze];intro u hu;rw [hR u hu];decide
  clear hr
  refine aS (cs := [(false, [.int .i64])]) (fun y k h' => ∃ i : Nat, y.1 = (i : Int) /\ k = us.length - i /\ i <= us.length /\ Ext h1 h' /\ ∀ j, j < i -> yv us j = none) ((0 : Int), ()) us.length rfl
    ⟨0, rfl, rfl, ad, e2, fun j d => absurd d ad⟩ ?_
  rintro ⟨n3, ⟨⟩⟩ k h3 ⟨i3, hi, rfl, hle3, e3, hd3⟩;simp only at hi;subst hi;refine ak ?_;have hw3 := gu i3;refine ar (fun q3 => ?_) (fun q3 => ?_)
  · have q3 := Yz q3
    have U : i3 < us.length :=ad
    have V : us[i3]? = some us[i3] := Yv U;obtain ⟨a3, sa, sb, sc, sd, rfl, hc3, Z⟩ := v.cells i3 U;generalize us[i3] = u at V hc3 Z;have hgm := Z.aZ.many;have hgl := Z.aZ.len
    refine aS (cs := [(false, [.int .i64])]) (fun y k h' => ∃ i : Nat, y.1 = (i : Int) /\ k = u.aZ.length - i /\ i <= u.aZ.length /\ Ext h1 h' /\ ∀ j, j < i -> (d : j < u.aZ.length) -> ((us.take i3).any fun v => gd v.aZ u.aZ[j]) = false) ((0 : Int), ()) u.aZ.length rfl
      ⟨0, rfl, rfl, ad, e3, fun j d => absurd d ad⟩ ?_
    rintro ⟨n4, ⟨⟩⟩ k h4 ⟨i4, hi, rfl, hle4, e4, hd4⟩;simp only at hi;subst hi;refine ak ?_;have hw4 := gu i4;have X := e1.trans e4;have hcg : ∀ {h' : Hp}, Ext h h' -> aJ h' ((a3.add (i3 * 4)).add 3) 0 [.slice sd.p sd.l sd.c] := fun e => ⟨by rw [add_add]; exact (aT e aj _ _ hc3).2.2.2.1, trivial⟩
    refine ax ⟨ad, ad⟩ (av rfl ?_);rw [show Int.toNat (i3 : Int) = i3 from ad];refine ay ((sd.p, sd.l, sd.c), ()) (hcg X) (ak ?_);refine aM (fun q4 => ?_) (fun q4 => ?_)
    · have F : i4 < u.aZ.length :=ad
      have hsg : u.aZ[i4]? = some u.aZ[i4] := Yv F;obtain ⟨ag, hag, hcs, _⟩ := Z.aZ.cells i4 F
      refine aS (cs := [(false, [.int .i64])]) (fun y k h' => ∃ i : Nat, y.1 = (i : Int) /\ k = i3 - i /\ i <= i3 /\ Ext h1 h' /\ ∀ j, j < i -> (d : j < us.length) -> gd us[j].aZ u.aZ[i4] = false) ((0 : Int), ()) i3 rfl
        ⟨0, rfl, rfl, ad, e4, fun j d => absurd d ad⟩ ?_
      rintro ⟨n9, ⟨⟩⟩ k h5 ⟨i5, hi, rfl, hle5, e5, hd5⟩;simp only at hi;subst hi;refine ak ?_;have hw5 := gu i5;have G := e1.trans e5;have b5 := b1.an e5 aj;refine aM (fun q5 => ?_) (fun q5 => ?_)
      · have hil5 : i5 < us.length :=ad
        obtain ⟨a5, ta, tb, tc, td, ha5, hc5, va5⟩ := (v.an G).cells i5 hil5;refine ax ⟨ad, ad⟩ (av ha5 ?_);rw [show Int.toNat (i5 : Int) = i5 from ad];refine ay ((td.p, td.l, td.c), ()) ⟨by rw [add_add]; exact hc5.2.2.2.1, trivial⟩ ?_;refine ak ?_;refine ax ⟨ad, ad⟩ (av rfl ?_);refine ay ((sd.p, sd.l, sd.c), ()) (hcg G) (ak ?_);refine ax ⟨ad, ad⟩ (av hag ?_);rw [show Int.toNat (i4 : Int) = i4 from ad];refine ay (u.aZ[i4], ()) (aT G aj _ _ hcs) (ak ?_)
        refine aQ (Jq va5.aZ.len (fun j d => by
          obtain ⟨a, ha, hc, _⟩ := va5.aZ.cells j d;exact ⟨a, ha, hc⟩) (by have := va5.aZ.many; omega) u.aZ[i4]) ?_
        refine ⟨⟨hcg G, trivial⟩, ?_⟩;refine ar (fun r => ?_) (fun r => ?_)
        · refine ax ⟨ad, ad⟩ (av rfl ?_)
          refine ay ((sd.p, sd.l, sd.c), ()) (hcg G) (ak ?_);refine ax ⟨ad, ad⟩ (av hag ?_);refine ay (u.aZ[i4], ()) (aT G aj _ _ hcs) (ak ?_);refine sE b5 G (YI _) ⟨22, i3, u.aZ[i4]⟩ fun h' e' => ⟨?_, e'⟩
          have hda : yv us i3 = some (i3, u.aZ[i4]) := by
            unfold yv
            rw [V, ZM, lA (fun s => (us.take i3).any fun v => gd v.aZ s) u.aZ i4 F (fun j d => hd4 j d ad) (by
              rw [ZL];exact ⟨us[i5], List.mem_take_iff_getElem.2 ⟨i5, ad, rfl⟩, r⟩)]
            rfl
          unfold fz Ea;rw [Yx J, Yx Y, hfi, jZ _ _ _ i3 U hd3 hda]
        · refine aG (cs := [(false, [.int .i64])]) (((i5 + 1 : Nat) : Int), ()) (i3 - (i5 + 1)) rfl ad (YJ (fun z => [Value.int .i64 z]) hw5) ⟨i5 + 1, rfl, rfl, ad, e5, fun j d hx => ?_⟩
          by_cases e : j = i5
          · subst e; exact r
          · exact hd5 j ad hx
      · have : i5 = i3 :=ad
        subst this;refine aG (cs := [(false, [.int .i64])]) (((i4 + 1 : Nat) : Int), ()) (u.aZ.length - (i4 + 1)) rfl ad (YJ (fun z => [Value.int .i64 z]) hw4) ⟨i4 + 1, rfl, rfl, ad, e5, fun j d hx => ?_⟩
        by_cases e : j = i4
        · subst e
          rw [List.any_eq_false];intro w hw;obtain ⟨j5, hj5, rfl⟩ := List.mem_take_iff_getElem.1 hw;rw [hd5 j5 ad ad]
          simp
        · exact hd4 j ad hx
    · have : i4 = u.aZ.length :=ad
      subst this;refine aG (cs := [(false, [.int .i64])]) (((i3 + 1 : Nat) : Int), ()) (us.length - (i3 + 1)) rfl ad (YJ (fun z => [Value.int .i64 z]) hw3) ⟨i3 + 1, rfl, rfl, ad, e4, fun j d => ?_⟩
      by_cases e : j = i3
      · subst e
        unfold yv;rw [V, ZM, oq _ u.aZ fun j d => hd4 j d d] <;> rfl
      · exact hd3 j ad
  have q3 := YG q3;have hdn : Ea us = none := jR _ _ fun j d => hd3 j ad
  refine aS (cs := [(false, [.int .i64])]) (fun y k h' => ∃ i : Nat, y.1 = (i : Int) /\ k = us.length - i /\ i <= us.length /\ Ext h1 h' /\ ∀ j, j < i -> A8 us j = none) ((0 : Int), ()) us.length rfl
    ⟨0, rfl, rfl, ad, e3, fun j d => absurd d ad⟩ ?_
  rintro ⟨n4, ⟨⟩⟩ k h4 ⟨i4, hi, rfl, hle4, e4, hu4⟩;simp only at hi;subst hi;refine ak ?_;have hw4 := gu i4;have X := e1.trans e4;have b4 := b1.an e4 aj;refine aM (fun q4 => ?_) (fun q4 => ?_)
  · have F : i4 < us.length :=ad
    have V : us[i4]? = some us[i4] := Yv F;refine aI (Dr (c := c) (v.an X) sz F) ?_;rintro _ h5 ⟨rfl, e5⟩;refine ⟨(qG us i4 (cK us[i4]), ()), rfl, ak ?_⟩;rw [yY]
    have hun : A8 us i4 = if (qG us i4 (cK us[i4])).data.toList = [] then none else some (i4, qG us i4 (cK us[i4])) := by
      unfold A8;rw [V, ZM]
    refine ar (fun r => ?_) (fun r => ?_)
    · have r : ¬ (qG us i4 (cK us[i4])).data.toList = [] := by simpa using r
      rw [Yx r] at hun;refine sE (b4.an e5 aj) (X.trans e5) (YI _) ⟨23, i4, qG us i4 (cK us[i4])⟩ fun h' e' => ⟨?_, e'⟩
      unfold fz NC;rw [Yx J, Yx Y, hfi, hdn, jZ _ _ _ i4 F hu4 hun]
    · have r : (qG us i4 (cK us[i4])).data.toList = [] := by simpa using r
      rw [YC r] at hun;refine aG (cs := [(false, [.int .i64])]) (((i4 + 1 : Nat) : Int), ()) (us.length - (i4 + 1)) rfl ad (YJ (fun z => [Value.int .i64 z]) hw4) ⟨i4 + 1, rfl, rfl, ad, e4.trans e5, fun j d => ?_⟩
      by_cases e : j = i4
      · subst e; exact hun
      · exact hu4 j ad
  · refine sE b4 X (YI _) ⟨0, 0, dJ⟩ fun h' e' => ⟨?_, e'⟩
    unfold fz NC;rw [Yx J, Yx Y, hfi, hdn, jR _ _ fun j d => hu4 j ad]
theorem OO (n:Nat):∀ (l:List Xaa) (w:LW) (s:Xaa),(l.foldl (vc n) w).gl s=if gd l s=true then some n else w.gl s
 | [],w,s=>by simp [gd]
 | a::l,w,s=>by
  rw [Y6,OO n l (vc n w a) s];have h1:gd (a::l) s=(decide (a=s) || gd l s):=by unfold gd; rw [List.any_cons]
  have h2:(vc n w a).gl s=if a=s then some n else w.gl s:=by
   show dH w.gl a n s=_;unfold dH
   by_cases h:s=a
   ·rw [YC h,YC h.symm]
   ·rw [Yx h,Yx fun e=>h e.symm]
  rw [h1,h2]
  by_cases d:a=s <;> by_cases hl:gd l s=true <;> simp [d,hl]
def P5 (us:List cd) (s:Xaa):Option Nat:=us.findIdx? fun u=>gd u.aZ s
def OC (us:List cd) (s:Xaa):(P5 us s).isSome=us.any fun u=>gd u.aZ s:=by
 unfold P5;rw [List.findIdx?_isSome]
theorem EG (us:List cd):∀ (k n:Nat) (w:LW),us.length-n=k->n<=us.length->(∀ s,w.gl s=P5 (us.take n) s)->(∀ j,j<n->yv us j=none) ->
  match kQ n (us.drop n) w with
  | .error q=>Ea us=some q
  | .ok w'=>Ea us=none/\∀ s,w'.gl s=P5 us s
 | 0,n,w,hk,hn,F,G=>by
  have:n=us.length:=ad
  subst this;rw [ZJ];rw [Y4] at F;exact ⟨jR _ _ G,F⟩
 | k+1,n,w,hk,hn,F,G=>by
  have d:n<us.length:=ad
  rw [YK d];unfold kQ;have J:us[n]?=some us[n]:=Yv d;have X:(fun g=>(w.gl g).isSome)=fun g=>(us.take n).any fun v=>gd v.aZ g:=by
   funext g
   rw [F,OC]
  have u:yv us n=(us[n].aZ.find? fun g=>(w.gl g).isSome).map fun s=>(n,s):=by
   unfold yv;rw [J,ZM,X]
  cases hx:us[n].aZ.find? fun g=>(w.gl g).isSome with
  | some g =>
   rw [hx] at u;exact jZ _ _ _ n d G u
  | none =>
   rw [hx] at u;refine EG us k (n+1) (FK n us[n] w) ad d (fun s=>?_) (fun j Z=>?_)
   ·unfold FK;rw [OO,Yw d];unfold P5;rw [bl9];have h0:=F s;unfold P5 at h0;rw [<- h0]
    by_cases hi:gd us[n].aZ s=true
    ·rw [YC hi];have hm:s∈us[n].aZ:=by
      unfold gd at hi;obtain ⟨x,O,U⟩:=ZL.1 hi;rw [<- Yz U]; exact O
     have:=List.find?_eq_none.1 hx s hm
     have V:w.gl s=none:=by
      cases Y:w.gl s with
      | none=>rfl
      | some q=>rw [Y] at this; exact absurd rfl this
     rw [V];simp [List.findIdx?_cons,hi,List.length_take];omega
    ·rw [Yx hi];cases w.gl s <;> simp [List.findIdx?_cons,hi]
   ·by_cases e:j=n
    ·subst e; exact u
    ·exact G j ad
theorem xC (s:Xaa) (n:Nat):∀ (us:List cd) (m:Nat),(n,s)∈(bZ m us).map AF↔∃ u,m<=n/\us[n-m]?=some u/\(s∈ef u.text\/s∈ef u.data)
 | [],m=>by simp [bZ]
 | u::us,m=>by
  rw [bZ,YH,YN,xC s n us (m+1)];unfold F4;rw [YH,wF,wF,YN,YF,YF];constructor
  ·rintro ((⟨x,hx,d⟩ | ⟨x,hx,d⟩) | ⟨v,h1,h2,h3⟩)
   ·cases d;exact ⟨u,YI _,aj,.inl hx⟩
   ·cases d;exact ⟨u,YI _,aj,.inr hx⟩
   ·refine ⟨v,ad,?_,h3⟩;rw [show n-m=(n-(m+1))+1 from ad];exact h2
  ·rintro ⟨v,h1,h2,h3⟩
   by_cases e:n=m
   ·subst e;rw [ao9] at h2;cases h2;rcases h3 with h3 | h3
    ·exact .inl (.inl ⟨s,h3,rfl⟩)
    ·exact .inl (.inr ⟨s,h3,rfl⟩)
   ·refine .inr ⟨v,ad,?_,h3⟩;rw [show n-m=(n-(m+1))+1 from ad] at h2;exact h2
theorem zL (s:Xaa) (n:Nat):∀ (us:List cd) (m:Nat),(n,s)∈(et m us).map jS↔∃ u,m<=n/\us[n-m]?=some u/\s∈u.bh.map (·.1)
 | [],m=>by simp [et]
 | u::us,m=>by
  rw [et,YH,YN,zL s n us (m+1),YY];constructor
  ·rintro (h | ⟨v,h1,h2,h3⟩)
   ·obtain ⟨e,j,d⟩:=YF.1 h;cases d;exact ⟨u,YI _,aj,YF.2 ⟨e,j,rfl⟩⟩
   ·refine ⟨v,ad,?_,h3⟩;rw [show n-m=(n-(m+1))+1 from ad];exact h2
  ·rintro ⟨v,h1,h2,h3⟩
   by_cases e:n=m
   ·subst e;rw [ao9] at h2;cases h2;obtain ⟨x,hx,rfl⟩:=YF.1 h3;exact .inl (YF.2 ⟨x,hx,rfl⟩)
   ·refine .inr ⟨v,ad,?_,h3⟩;rw [show n-m=(n-(m+1))+1 from ad] at h2;exact h2
def yi (l:List Ky) (k:Ky):(nG l k).isSome=true↔k∈l:=by
 constructor
 ·intro h;apply an9;intro hk;rw [oD.2 hk] at h;cases h
 ·intro h;obtain ⟨i,hi⟩:=Be h;rw [hi] <;> rfl
def QC {us:List cd} {w:LW} (i0:WI w (bZ 0 us) ((et 0 us).map jS)) {n:Nat} {u:cd} (hu:us[n]?=some u) (s:Xaa):w.has (n,s)=true↔s∈fy u:=by
 unfold LW.has;rw [i0.num,i0.tK,Bool.or_eq_true,yi,yi,xC,zL];unfold fy;rw [YN,YN];simp only [Nat.sub_zero,Nat.zero_le,true_and];constructor
 ·rintro (⟨v,hv,h⟩ | ⟨v,hv,h⟩)
  ·rw [hu] at hv; cases hv; exact .inl h
  ·rw [hu] at hv; cases hv; exact .inr h
 ·rintro (h | h)
  ·exact .inl ⟨u,hu,h⟩
  ·exact .inr ⟨u,hu,h⟩
def Mn {us:List cd} {w:LW} (i0:WI w (bZ 0 us) ((et 0 us).map jS)) (d:∀ s,w.gl s=P5 us s) {n:Nat} (hn:n<us.length) (s:Xaa):w.own n s=(jx us n s).map fun o=>(o,s):=by
 have hu:=Yv hn;have h1:=QC i0 hu s;have h2:gd (fy us[n]) s=true↔s∈fy us[n]:=by
  unfold gd;rw [ZL];constructor
  ·rintro ⟨x,hx,j⟩;rw [<- Yz j]; exact hx
  ·intro h;exact ⟨s,h,YA rfl⟩
 unfold LW.own jx;rw [hu,br9,d s]
 by_cases h:s∈fy us[n]
 ·rw [YC (h1.2 h),YC (by rw [h2.2 h])] <;> rfl
 ·rw [Yx fun x=>h (h1.1 x),Yx fun x=>h (h2.1 (YR x))] <;> rfl
theorem CA (n sec:Nat) (x:cB):∀ (l:List cB) (i:Nat),pV n sec i (l++[x])=pV n sec i l++if x.kind=1 then [⟨n,sec,i+l.length,x.name⟩] else []
 | [],i=>by simp [pV]
 | y::l,i=>by
  simp only [List.cons_append,pV,List.length_cons];rw [CA n sec x l (i+1),show i+1+l.length=i+(l.length+1) from ad,YV]
structure Bf (h:Hp) (g:Nat) (su lb st sd:cr) (L:List Lb):Prop where
 box:bI h g 81 [su.v,lb.v,st.v,sd.v]
 oc:SL h (g+1) 158 4 lb.p lb.l lb.c (L.map AT)
def Bf.an {h h':Hp} {g:Nat} {su lb st sd:cr} {L:List Lb} (s:Bf h g su lb st sd L) (e:Ext h h'):Bf h' g su lb st sd L:=⟨s.box.an e aj,s.oc.bP e aj⟩
def Uh:Tryz.prog.underlying 78=some (.slice 158):=az
def Wc:(Tryz.prog.info? 158).map (fun i=>(i.zero,i.size,i.bytes))=some (some (.agg #[.int .i64 0,.int .i64 0,.int .i64 0,.string ⟨#[]⟩]),4,40):=az
def uM {h0 h:Hp} {g:Nat} {su lb st sd:cr} {L:List Lb} (hg:h0.size<=g) (e0:Ext h0 h) (s:Bf h g su lb st sd L) {p:Xac} {l c:Nat} {xs:List cB} (v:Bx h0 p l xs) (hL:L.length+xs.length<=2^40) (n sec:Nat) :
  HC Tryz.prog 49 #[.pointer (some ⟨g,0,none⟩),.int .i64 (n:Int),.int .i64 (sec:Int),.slice p l c] h fun w h'=>w=.tuple #[]/\Ext h0 h'/\h.size<=h'.size/\∃ F,Bf h' g su F st sd (L++pV n sec 0 xs):=by
 refine aY (args:=[.pointer (some ⟨g,0,none⟩),.int .i64 (n:Int),.int .i64 (sec:Int),.slice p l c]) mixed Tryz.func49 az (iB (some ⟨g,0,none⟩) n sec p l c) ?_;unfold eY bf bg bz aK bt bn aP;have hll:=v.len;refine aS (cs:=[(false,[.int .i64])]) (fun y k h'=>∃ (i:Nat) (F:cr),y.1=(i:Int)/\k=xs.length-i/\i<=xs.length/\Ext h0 h'/\h.size<=h'.size/\Bf h' g su F st sd (L++pV n sec 0 (xs.take i))) ((0:Int),()) xs.length rfl
  ⟨0,lb,rfl,rfl,ad,e0,YI _,by simpa [pV] using s⟩ ?_
 rintro ⟨n4,⟨⟩⟩ k h1 ⟨i,d,hi,rfl,hle,e1,z1,s1⟩;simp only at hi;subst hi;refine ak ?_;have hw:=gu i;refine aM (fun q=>?_) (fun q=>?_)
 ·have O:i<xs.length:=ad
  have V:xs.take (i+1)=xs.take i++[xs[i]]:=Yw O;have u:=CA n sec xs[i] (xs.take i) 0;rw [<- V,YQ,Zz ad,Y7] at u;obtain ⟨a,pp,ll,cc,rfl,hc,_⟩:=v.cells i O;generalize xs[i]=x at hc u;refine ax ⟨ad,ad⟩ (av rfl ?_);rw [show Int.toNat (i:Int)=i from ad];refine ay (x.kind,()) ⟨(aT e1 aj _ _ hc).1,trivial⟩ (ak ?_);refine ar (fun r=>?_) (fun r=>?_)
  ·have r:x.kind=1:=by simpa using r
   rw [YC r] at u;refine av rfl ?_;rw [aE];refine af s1.box ((d.p,d.l,d.c),()) rfl (ak ?_);have G:∀ {h':Hp},Ext h0 h'->aJ h' ((a.add (i*10)).add 1) 0 [.string x.name]:=fun e=>⟨by rw [add_add]; exact (aT e aj _ _ hc).2.1,trivial⟩
   refine ax ⟨ad,ad⟩ (av rfl ?_);refine ay (x.name,()) (G e1) (ak ?_);have X:d.l=(L++pV n sec 0 (xs.take i)).length:=by have:=s1.oc.1; rwa [Yu] at this
   have Y:=rq n sec (xs.take i) 0;rw [Yy] at X;rw [YQ] at Y;have hgs:=s1.box.lt;refine gU (vs:=AT ⟨n,sec,i,x.name⟩) Uh Wc rfl ad ad (MI _ _ _ _) rfl rfl s1.oc ad ad ad (fun h' e=>⟨G (e1.trans e),(s1.box.an e aj).cells _ rfl,trivial⟩) ?_;intro p' c' h2 s2 Z hp2;have U:∀ j,j∈aR d.p->h0.size<=j/\g<j:=fun j J=>by have:=(s1.oc.cv J).1; omega
   have e2:Ext h0 h2:=Ch.trans e1 Z (fun j J hl=>by have:=U j J; omega);have b2:=s1.box.an Z (fun J=>by have:=U _ J; omega);have z2:=Z.size;refine ⟨⟨G e2,trivial⟩,av rfl ?_⟩;rw [aE];refine aw b2 rfl aj ?_;intro h3 b3 k3 z3;have b3:bI h3 g 81 [su.v,(⟨p',d.l+1,c'⟩:cr).v,st.v,sd.v]:=b3;have e3:Ext h0 h3:=bQ e2 k3;refine aG (cs:=[(false,[.int .i64])]) (((i+1:Nat):Int),()) (xs.length-(i+1)) rfl ad (YJ (fun z=>[Value.int .i64 z]) hw) ⟨i+1,⟨p',d.l+1,c'⟩,rfl,rfl,ad,e3,ad,b3,?_⟩;rw [u,<- YV,YH];exact s2.bP k3 (fun j J hh=>by have:=(s2.cv J).1; simp at hh; omega)
  ·have r:¬ x.kind=1:=by simpa using r
   rw [Yx r,Zs] at u;refine aG (cs:=[(false,[.int .i64])]) (((i+1:Nat):Int),()) (xs.length-(i+1)) rfl ad (YJ (fun z=>[Value.int .i64 z]) hw) ⟨i+1,d,rfl,rfl,ad,e1,z1,by rw [u]; exact s1⟩
 ·have:i=xs.length:=ad
  subst this;rw [Y4] at s1;exact ⟨rfl,e1,z1,d,s1⟩
def GJ (u:Nat):Lib.nDigits u<=u+1:=by
 induction u using Nat.strongRecOn with
 | _ u d =>
  rw [Lib.nDigits];split
  ·omega
  ·have:=d (u / 10) ad
   omega
def Ci (n:Nat):(fV n).size<=n+1:=by
 have:(fV n).size=(Lib.decDigits n).length:=rfl
 rw [this,Lib.decDigits_length];exact GJ n
def UG (L:List Lb) (o:Nat) (s:Xaa):Option Nat:=L.findIdx? fun x=>decide (x.u=o) && decide (x.n=s)
def xU (L:List Lb) (o:Nat) (s:Xaa):Xaa:=match UG L o s with
 | some i=>⟨#[76]⟩++fV i
 | none=>((⟨#[69]⟩++fV o)++⟨#[95]⟩)++s
def dC (us:List cd) (L:List Lb) (n:Nat) (s:Xaa):Xaa:=xU L ((jx us n s).getD 0) s
def R7 {us:List cd} {n o:Nat} {s:Xaa} (h:jx us n s=some o):o<us.length:=by
 unfold jx at h;split at h
 ·rename_i d;cases h;cases hu:us[n]? with
  | none=>rw [hu] at d; cases d
  | some u=>exact (YO.1 hu).1
 ·rw [YX] at h;exact h.1
def TJ {L:List Lb} {o:Nat} {s:Xaa} {i:Nat} (hi:i<L.length) (h:∀ j,(d:j<i)->¬ ((L[j]'ad).u=o/\(L[j]'ad).n=s)) (h1:L[i].u=o) (h2:L[i].n=s):UG L o s=some i:=by
 unfold UG;rw [YX];refine ⟨hi,by simp [h1,h2],fun j d=>?_⟩
 have:=h j d
 simpa using this
def Lv {L:List Lb} {o:Nat} {s:Xaa} (h:∀ j,(d:j<L.length)->¬ (L[j].u=o/\L[j].n=s)):UG L o s=none:=by
 unfold UG;rw [Ze];intro x hx;obtain ⟨j,d,rfl⟩:=Y0 hx
 have:=h j d
 simpa using this
def IJ {h:Hp} {g:Nat} {su lb st sd:cr} {L:List Lb} (s:Bf h g su lb st sd L) {us:List cd} (v:xS h su.p su.l us) (sz:K9 us) {n:Nat} (hn:n<us.length) (hL:L.length<=2^40) {a:Xaa} {o:Nat} (U:jx us n a=some o) (ha:a.size<=2^60) :
  HC Tryz.prog 50 #[.pointer (some ⟨g,0,none⟩),.int .i64 (n:Int),.string a] h fun w h'=>w=.string (dC us L n a)/\Ext h h':=by
 refine aY (args:=[.pointer (some ⟨g,0,none⟩),.int .i64 (n:Int),.string a]) mixed Tryz.func50 az (iU (some ⟨g,0,none⟩) n a) ?_;unfold fg bf bg bz aK ct gS bX aP;have hol:=R7 U;have V:=sz.many;refine av rfl ?_;refine af s.box ((su.p,su.l,su.c),()) rfl (ak ?_);refine aI (Fj (c:=su.c) v sz hn a) ?_;rintro _ h1 ⟨rfl,e1⟩;rw [U];refine ⟨((o:Int),()),rfl,ak ?_⟩;have s1:=s.an e1;have X:dC us L n a=xU L o a:=by unfold dC; rw [U]; rfl
 rw [X];have hll:lb.l=L.length:=by have:=s.oc.1; rwa [Yu] at this
 refine aS (cs:=[(false,[.string]),(false,[.int .i64])]) (fun y k h'=>∃ i:Nat,y.2.1=(i:Int)/\k=L.length-i/\i<=L.length/\h'=h1/\∀ j,j<i->(F:j<L.length)->¬ (L[j].u=o/\L[j].n=a)) ((⟨#[]⟩:Xaa),(0:Int),()) L.length rfl
  ⟨0,rfl,rfl,ad,rfl,fun j F=>absurd F ad⟩ ?_
 rintro ⟨Y,n9,⟨⟩⟩ k h2 ⟨i,hi,rfl,hle,rfl,G⟩;simp only at hi;subst hi;refine ak ?_;have hw:=gu i;refine av rfl ?_;rw [aE];refine af s1.box ((lb.p,lb.l,lb.c),()) rfl (ak ?_);refine aM (fun q=>?_) (fun q=>?_)
 ·have J:i<L.length:=ad
  refine av rfl ?_;rw [aE];refine af s1.box ((lb.p,lb.l,lb.c),()) rfl (ak ?_);obtain ⟨al,O,hc⟩:=SL.cells s1.oc (i:=i) (by rw [Yu]; exact J);rw [YE] at hc;refine ax ⟨ad,ad⟩ (av O ?_);rw [show Int.toNat (i:Int)=i from ad];refine ay ((L[i].u:Int),()) ⟨hc.1,trivial⟩ (ak ?_);have d:¬ (L[i].u=o/\L[i].n=a)->T.again 0 [.string Y,.int .i64 (IntKind.wrap .i64 ((i:Int)+1))] [Jl (fun (y:qK (flat [(false,[TypeDesc.string]),(false,[TypeDesc.int .i64])])) k h'=>∃ i:Nat,y.2.1=(i:Int)/\k=L.length-i/\i<=L.length/\h'=h2/\∀ j,j<i->(F:j<L.length)->¬ (L[j].u=o/\L[j].n=a)) (L.length-i)] (fun w h'=>w=.string (xU L o a)/\Ext h h') h2:=by
   intro Z;refine aG (cs:=[(false,[.string]),(false,[.int .i64])]) (Y,((i+1:Nat):Int),()) (L.length-(i+1)) rfl ad (YJ (fun z=>[Value.string Y,Value.int .i64 z]) hw) ⟨i+1,rfl,rfl,ad,rfl,fun j F hx=>?_⟩
   by_cases e:j=i
   ·subst e; exact Z
   ·exact G j ad hx
  refine ar (fun r=>?_) (fun r=>?_)
  ·have r:L[i].u=o:=by
    have:((L[i].u:Nat):Int)=(o:Int):=by simpa using r
    omega
   refine av rfl ?_;rw [aE];refine af s1.box ((lb.p,lb.l,lb.c),()) rfl (ak ?_);refine ax ⟨ad,ad⟩ (av O ?_);refine ay (L[i].n,()) ⟨by rw [add_add]; exact hc.2.2.2.1,trivial⟩ ?_;refine ak ?_;rw [qM];refine aM (fun t=>?_) (fun t=>?_)
   ·refine aI (xr (n:=i) ad) ?_;rintro _ h3 ⟨rfl,e3⟩;refine ⟨(fV i,()),rfl,ak ?_⟩
    have:=Ci i
    refine ax ad ?_;refine ⟨?_,e1.trans e3⟩;unfold xU;rw [TJ J (fun j F=>G j F ad) r t]
   ·exact d fun hh=>t hh.2
  ·refine d fun hh=>?_
   rw [hh.1] at r;simp at r
 ·have:i=L.length:=ad
  subst this;refine aI (xr (n:=o) ad) ?_;rintro _ h3 ⟨rfl,e3⟩;refine ⟨(fV o,()),rfl,ak ?_⟩;have hd:=Ci o;have h1:(⟨#[69]⟩++fV o:Xaa).size=1+(fV o).size:=ZY ..;have h2:((⟨#[69]⟩++fV o)++⟨#[95]⟩:Xaa).size=(⟨#[69]⟩++fV o:Xaa).size+1:=ZY ..;refine ax ad (ax (by rw [h1]; omega) (ax (by rw [h2,h1]; omega) ?_));refine ⟨?_,e1.trans e3⟩;unfold xU;rw [Lv fun j F=>G j F F]
def ux (f:Xaa->Xaa) (s:Xaa):Option cn:=some (lR (f s))
def iC (us:List cd) (L:List Lb) (n:Nat) (x:cn):cn:=de (ux (dC us L n)) x
def RS (s:Xaa):Nf (lR s).ai:=⟨by simp [lR],by simp [lR]⟩
def Jf {f:Xaa->Xaa}:∀ s y,ux f s=some y->Nf y.ai:=by
 intro s y d;cases d;exact RS _
def Ue (f:Xaa->Xaa) {t:Xaa × Nat} (h:t.2≠0/\t.2<4294967296):H5 (ux f) t=⟨[(f t.1,t.2)],0⟩:=by
 unfold H5 ux CW lR fl;simp only [List.filterMap_cons,List.filterMap_nil,Nat.one_mul,Nat.zero_mul,Nat.zero_mod];rw [af9 h.2,Yx h.1]
def EP {h:Hp} {g:Nat} {su lb st sd:cr} {L:List Lb} (s:Bf h g su lb st sd L) {us:List cd} (v:xS h su.p su.l us) (sz:K9 us) {n:Nat} (hn:n<us.length) (hL:L.length<=2^40) {q:Xac} {m d:Nat} {x:cn} (u:gW h q m x.ai)
  (hx:Nf x.ai) (hxn:x.num<4294967296) (hlx:x.ai.length<=2^30) (ho:∀ t,t∈x.ai->∃ o,jx us n t.1=some o) (hs:∀ t,t∈x.ai->t.1.size<=2^60) :
  HC Tryz.prog 51 #[.pointer (some ⟨g,0,none⟩),.int .i64 (n:Int),iI q m d x] h fun w h'=>Ext h h'/\∃ p' l' c',w=iI p' l' c' (iC us L n x)/\SL h' h.size 117 2 p' l' c' ((iC us L n x).ai.map df):=by
 refine aY (args:=[.pointer (some ⟨g,0,none⟩),.int .i64 (n:Int),.agg #[.slice q m d,.int .u32 x.num]]) mixed Tryz.func51 az (iA (some ⟨g,0,none⟩) n q m d x.num) ?_;unfold eW bf bg bz aK gS bJ bt aH bq aP;have hmm:=u.len;refine br ?_;intro h1 b1 e1 z1;refine br ?_;intro h2 b2 e2 z2;have b1:=b1.an e2 aj;rw [aE];refine af b1 ((x.num:Int),()) rfl (ak ?_);refine br ?_;intro h3 b3 e3 z3;refine aw b3 rfl aj ?_;intro h4 b4 k4 z4;have b4:bI h4 h2.size 69 [.slice none 0 0,.int .u32 (x.num:Int)]:=b4;have Z:Ext h2 h4:=bQ e3 k4;have b1:=b1.an Z aj;have b2:=b2.an Z aj;have e04:=(e1.trans e2).trans Z;have hb4:=b4.lt;have hz04:=e04.size;refine aS (cs:=[(false,[.int .i64])]) (fun y w h'=>∃ (i:Nat) (q:Xac) (m d:Nat),y.1=(i:Int)/\i<=x.ai.length/\w=x.ai.length-i/\Ch [h2.size] h4 h'/\bI h' h2.size 69 [.slice q m d,.int .u32 (((x.ai.take i).foldl (fM (ux (dC us L n))) ⟨[],x.num⟩).num:Int)] /\
  SL h' h4.size 117 2 q m d (((x.ai.take i).foldl (fM (ux (dC us L n))) ⟨[],x.num⟩).ai.map df)) ((0:Int),()) x.ai.length rfl ⟨0,none,0,0,rfl,ad,ad,Ch.refl _ _,b4,SL.nil _ _ _ _⟩ ?_
 rintro ⟨n8,⟨⟩⟩ w h5 ⟨i,q5,m5,d5,hi,hile,rfl,k5,b5,s5⟩;simp only at hi;subst hi;refine ak ?_;have J:=b1.an k5 (by simp; omega);have hz5:=k5.size;have O:Ext h h5:=bQ e04 k5;have u5:=u.an O aj;refine af J ((q,m,d),()) rfl (ak ?_);have hw:=gu i;have X:=BH (of:=ux (dC us L n)) Jf hx hxn i;have hal:((x.ai.take i).foldl (fM (ux (dC us L n))) ⟨[],x.num⟩).ai.length<=x.ai.length:=by
  rw [X]
  have:=zN (eR (ux (dC us L n)) ⟨x.ai.take i,x.num⟩) (S:=x.ai.map fun t=>dC us L n t.1) (fun t ht=>by
   obtain ⟨u',hu',h | ⟨y,w,hy,hw,he⟩⟩:=zM ht
   ·cases h.1
   ·cases hy;simp [lR] at hw;subst hw;rw [<- he];exact YF.2 ⟨u',ZB hu',rfl⟩)
  rwa [Yu] at this
 refine aM (fun g1=>?_) (fun g1=>?_)
 ·have F:i<x.ai.length:=ad
  have G:(x.ai.take (i+1)).foldl (fM (ux (dC us L n))) ⟨[],x.num⟩=fM (ux (dC us L n)) ((x.ai.take i).foldl (fM (ux (dC us L n))) ⟨[],x.num⟩) x.ai[i]:=by
   rw [Yw F,Zk] <;> rfl
  obtain ⟨a,rfl,hc⟩:=u5.cells i F;have U:=YD F;generalize x.ai[i]=t at hc G U;generalize hA:(x.ai.take i).foldl (fM (ux (dC us L n))) ⟨[],x.num⟩=A at b5 s5 hal G X;obtain ⟨c1,c2⟩:=cS hc;obtain ⟨o,hoo⟩:=ho t U;refine af b5 ((q5,m5,d5),(A.num:Int),()) rfl (ak ?_);refine af J ((some a,m,d),()) rfl (ak ?_);refine ax ⟨ad,ad⟩ (av rfl ?_);rw [show Int.toNat (i:Int)=i from ad];refine ay (t.1,()) c1 (ak ?_);refine af J ((some a,m,d),()) rfl (ak ?_);refine ax ⟨ad,ad⟩ (av rfl ?_);refine ay ((t.2:Int),()) c2 (ak ?_);refine aI (IJ (s.an O) (v.an O) sz hn hL hoo (hs t U)) ?_;rintro _ h6 ⟨rfl,e6⟩;refine ⟨(dC us L n t.1,()),rfl,ak ?_⟩;have hst:∀ {h':Hp},Ext h5 h'->aJ h' (a.add (i*2)) 0 [.string t.1]/\aJ h' ((a.add (i*2)).add 1) 0 [.int .u32 (t.2:Int)]/\aJ h' ⟨h.size,0,none⟩ 0 [.slice (some a) m d]/\aJ h' ⟨h2.size,0,none⟩ 0 [.slice q5 m5 d5,.int .u32 (A.num:Int)]:=fun e =>
   ⟨aT e aj _ _ c1,aT e aj _ _ c2,(J.an e aj).cells _ rfl,(b5.an e aj).cells _ rfl⟩
  obtain ⟨q1,q2,Y,q4⟩:=hst e6;refine ⟨⟨q2,Y,Y,q4,trivial⟩,?_⟩;refine jC Ho rl ad ad (Hd _ _) ?_;intro h7 b7 e7 z7;obtain ⟨q1,q2,Y,q4⟩:=hst (e6.trans e7);refine ⟨⟨q2,Y,q1,Y,q4,trivial⟩,?_⟩;have e57:=e6.trans e7;have z57:=e57.size;refine aI (E6 (x:=A) (y:=⟨[(dC us L n t.1,t.2)],0⟩) (d:=1) (s5.bP e57 aj).Sg (VP b7) (fun j V=>by have:=(s5.cv V).2; omega) (fun j V=>by simp [aR] at V; have:=b7.lt; omega) (by show A.ai.length+1<=_; omega)) ?_;rintro _ h8 ⟨e8,p',l',c',rfl,s8⟩;refine ⟨((p',l',c'),((xI A ⟨[(dC us L n t.1,t.2)],0⟩).num:Int),()),rfl,ak ?_⟩;have e58:=e57.trans e8;obtain ⟨q1,q2,Y,q4⟩:=hst e58;refine ⟨⟨q2,Y,q1,Y,trivial⟩,?_⟩;refine aw (b5.an e58 aj) rfl aj ?_;intro h9 b9 k9 z9;have b9:bI h9 h2.size 69 [.slice p' l' c',.int .u32 ((xI A ⟨[(dC us L n t.1,t.2)],0⟩).num:Int)]:=b9;have hput:fM (ux (dC us L n)) A t=xI A ⟨[(dC us L n t.1,t.2)],0⟩:=by
   unfold fM;rw [Ue _ (hx.2 t U)]
  rw [hput] at G;refine aG (cs:=[(false,[.int .i64])]) (((i+1:Nat):Int),()) (x.ai.length-(i+1)) rfl ad (YJ (fun z=>[Value.int .i64 z]) hw) ⟨i+1,p',l',c',rfl,ad,rfl,Ch.trans (Ch.trans k5 e58 aj) k9 (fun j V _=>V),by rw [G]; exact b9,?_⟩;rw [G];exact (s8.bP k9 (fun j V=>by have:=(s8.cv V).1; simp; omega)).mono ad
 ·have hi:i=x.ai.length:=ad
  subst hi;rw [Y4,DY Jf hx hxn] at b5 s5;refine af b5 ((q5,m5,d5),((iC us L n x).num:Int),()) rfl (ak ?_);refine aw (b2.an k5 (by simp; omega)) rfl aj ?_;intro h7 b7 k7 z7;have b7:bI h7 h1.size 69 [.slice q5 m5 d5,.int .u32 ((iC us L n x).num:Int)]:=b7;refine af b7 ((q5,m5,d5),((iC us L n x).num:Int),()) rfl ?_;exact ⟨bQ O k7,q5,m5,d5,rfl,(s5.bP k7 (fun j V=>by have:=(s5.cv V).1; simp; omega)).mono ad⟩
structure OU (us:List cd) (n:Nat) (x:cn):Prop where
 nf:Nf x.ai
 num:x.num<4294967296
 len:x.ai.length<=2^30
 own:∀ t,t∈x.ai->∃ o,jx us n t.1=some o
 sz:∀ t,t∈x.ai->t.1.size<=2^60
def JB (us:List cd) (L:List Lb) (n:Nat) (x:cn):Nf (iC us L n x).ai:=eR _ _
def EJ {us:List cd} {L:List Lb} {n:Nat} {x:cn} (h:x.num<4294967296):(iC us L n x).num<4294967296:=sQ _ _ _ h
def Fw {us:List cd} {L:List Lb} {n:Nat} {x:cn} {t:Xaa × Nat} (j:t∈(iC us L n x).ai):∃ u,u∈x.ai/\t.1=dC us L n u.1:=by
 obtain ⟨F,d,h | ⟨y,w,G,hw,J⟩⟩:=zM j
 ·cases h.1
 ·cases G;simp [lR] at hw;subst hw;exact ⟨F,d,J.symm⟩
def wR (us:List cd) (L:List Lb) (es:List cL) (n:Nat) (x:cB):cB:={ x with e:=de (cy es) (iC us L n x.e) }
structure Xi (h0 h':Hp) (p:Xac) (l c:Nat) (ws:List (cr × cB)):Prop where
 out:SL h' h0.size 71 10 p l c (ws.map tJ)
 fq:∀ w,w∈ws->gW h' w.1.p w.1.l w.2.e.ai
 low:∀ w,w∈ws->w.2.e.ai≠[]->∀ i,i∈aR w.1.p->i<h'.size/\i∉aR p
def JR {h:Hp} {a:Xax} {v:Xab} (hc:iD h a=some v):a.block<h.size:=by
 unfold iD at hc;cases d:h[a.block]? with
 | none=>simp [d] at hc
 | some o=>exact fc d
def P4 {h:Hp} {p:Xac} {l:Nat} {us:dc} (v:gW h p l us) (h0:us≠[]):∀ i,i∈aR p->i<h.size:=by
 intro i hi;cases us with
 | nil=>exact absurd rfl h0
 | cons u us =>
  obtain ⟨a,rfl,hc⟩:=v.cells 0 aj
  have:i=a.block:=by simpa [aR] using hi
  subst this
  have:=JR hc.1
  rwa [ic,ic] at this
def J7 {ws:List Nat} {h h':Hp} {p:Xac} {l:Nat} {us:dc} (v:gW h p l us) (k:Ch ws h h') (hw:us≠[]->∀ i,i∈aR p->i∉ws):gW h' p l us:=by
 by_cases h0:us=[]
 ·subst h0;exact ⟨v.len,fun i hi=>absurd hi aj⟩
 ·exact v.an k (hw h0)
def CD {h:Hp} {g:Nat} {su lb st sd:cr} {L:List Lb} (s:Bf h g su lb st sd L) {us:List cd} (v:xS h su.p su.l us) (sz:K9 us) {n:Nat} (hn:n<us.length) (hL:L.length<=2^40) {p:Xac} {l c:Nat} {xs:List cB} (vi:Bx h p l xs)
  (hxl:xs.length<=2^20) (hxs:∀ x,x∈xs->OU us n x.e)
  {q:Xac} {m d:Nat} {es:List cL} (ve:uf h q m es) (hb:∀ e,e∈es->∀ i,i∈aR e.p->i<h.size) (hm:es.length<=2^40) {S:List Xaa} (hS:S.length<=2^30) (hes:∀ e,e∈es->tg S e.x) (hSw:∀ x,x∈xs->∀ t,t∈x.e.ai->dC us L n t.1∈S) :
  HC Tryz.prog 53 #[.pointer (some ⟨g,0,none⟩),.int .i64 (n:Int),.slice p l c,.slice q m d] h fun w h'=>Ext h h'/\∃ p' l' c' ws,w=.slice p' l' c'/\Un h' h.size p' l' c' ws/\ws.map (·.2)=xs.map (wR us L es n):=by
 refine aY (args:=[.pointer (some ⟨g,0,none⟩),.int .i64 (n:Int),.slice p l c,.slice q m d]) mixed Tryz.func53 az (hQ (some ⟨g,0,none⟩) n p l c q m d) ?_;unfold eN bf bg bz aK bJ bt aH aP;obtain ⟨w0,hw0,vd,hit⟩:=Dk vi;have hl0:w0.length=xs.length:=by rw [<- hw0,Yu]
 have hll:=vd.len;refine mv (e:=71) (z:=.agg iz.toArray) (sz:=10) (by':=104) Bc EI rfl vd.src (by simpa using hll) (oC w0) (pn w0) ad ad ?_;intro p1 c1 h1 s1 e1;have O:∀ w,w∈w0->w.2.e.ai≠[]->∀ i,i∈aR w.1.p->i<h.size:=fun w hw h0=>P4 (hit w hw).lin.vw h0
 refine aS (cs:=[(false,[.int .i64])]) (fun y k h'=>∃ (i:Nat) (ws:List (cr × cB)),y.1=(i:Int)/\k=xs.length-i/\i<=xs.length/\Ext h h'/\Xi h h' p1 l c1 ws/\ws.length=xs.length/\(∀ j w,j<i->ws[j]?=some w->SL h' h.size 117 2 w.1.p w.1.l w.1.c (w.2.e.ai.map df))/\∀ j x w,xs[j]?=some x->ws[j]?=some w->w.2=if j<i then wR us L es n x else x) ((0:Int),()) xs.length rfl
  ⟨0,w0,rfl,rfl,ad,e1,⟨s1,fun w hw=>(hit w hw).lin.vw.an e1 aj,fun w hw h0 i hi=>⟨by have:=O w hw h0 i hi; have:=e1.size; omega,fun hh=>by have:=(s1.cv hh).1; have:=O w hw h0 i hi; omega⟩⟩,hl0,fun j w F=>absurd F ad,fun j x w hx hw=>by
   rw [Yx ad]
   have:(w0.map (·.2))[j]?=some w.2:=by rw [Zj,hw]; rfl
   rw [hw0,hx] at this;exact (YR this).symm⟩ ?_
 rintro ⟨n10,⟨⟩⟩ k h2 ⟨i,ws,hi,rfl,hle,e2,X,hwl,hown,F⟩;simp only at hi;subst hi;refine ak ?_;have hwi:=gu i;refine aM (fun r=>?_) (fun r=>?_)
 ·have hil:i<xs.length:=ad
  have G:i<ws.length:=ad
  obtain ⟨a,rfl,hc⟩:=SL.cells X.out (i:=i) (by rw [Yu]; exact G);rw [YE] at hc;have hxi:xs[i]?=some xs[i]:=Yv hil;have U:ws[i]?=some ws[i]:=Yv G;have Y:=F i _ _ hxi U;rw [Yx ad] at Y;have hxm:=YD hil;have hwm:=YD G;have vw:=X.fq _ hwm;have lw:=X.low _ hwm;generalize ws[i]=w at hc U Y hwm vw lw;generalize xs[i]=x at hxi Y hxm;subst Y;have J:=hxs w.2 hxm;refine ax ⟨ad,ad⟩ (av rfl ?_);rw [show Int.toNat (i:Int)=i from ad];refine ay ((w.1.p,w.1.l,w.1.c),(w.2.e.num:Int),()) ⟨by rw [add_add]; exact hc.2.2.2.2.2.2.2.1,by rw [add_add]; exact hc.2.2.2.2.2.2.2.2.1,trivial⟩ ?_;refine ak ?_;have z2:=e2.size;refine aI (EP (d:=w.1.c) (s.an e2) (v.an e2) sz hn hL vw J.nf J.num J.len J.own J.sz) ?_;rintro _ h3 ⟨e3,p3,l3,c3,rfl,s3⟩;refine ⟨((p3,l3,c3),((iC us L n w.2.e).num:Int),()),rfl,ak ?_⟩;have z3:=e3.size;refine aI (I1 (c:=c3) (d:=d) s3.Sg (ve.an (e2.trans e3)) (fun j F=>(s3.cv F).2) (fun e he j F=>by have:=hb e he j F; omega) hm (JB _ _ _ _) (EJ J.num) (fun e he=>(hes e he).nf) hS (fun t ht=>by
   obtain ⟨u',hu',he'⟩:=Fw ht;rw [he'];exact hSw w.2 hxm u' hu') fun e he=>(hes e he).fq) ?_
  rintro _ h4 ⟨e4,p4,l4,c4,rfl,s4⟩;refine ⟨((p4,l4,c4),((de (cy es) (iC us L n w.2.e)).num:Int),()),rfl,ak ?_⟩;have z4:=e4.size;have Z:=e3.trans e4;refine ax ⟨ad,ad⟩ (av rfl ?_);have so:=X.out.bP Z aj;refine SL.part (P:=Tryz.prog) so (i:=i) (by rw [Yu]; exact G) (vs:=[.slice p4 l4 c4,.int .u32 ((de (cy es) (iC us L n w.2.e)).num:Int)]) (o:=7) aj (by simp [cU]) rfl ?_;intro h6 s6 k6 z6;have hse:(ws.map tJ).set i (lh ((ws.map tJ)[i]'(by rw [Yu]; exact G)) 7 [.slice p4 l4 c4,.int .u32 ((de (cy es) (iC us L n w.2.e)).num:Int)])=(ws.set i (⟨p4,l4,c4⟩,wR us L es n w.2)).map tJ:=by
   rw [ax9]
   congr 1
   rw [YE]
   have:ws[i]=w:=(YO.1 U).2
   rw [this] <;> rfl
  rw [hse] at s6;have hgb:∀ j,j∈aR (some a)->h.size<=j/\j<h2.size:=fun j F=>X.out.cv F
  have e6:Ext h h6:=Ch.trans (e2.trans Z) k6 (fun j F hl=>by have:=hgb j F; omega);refine aG (cs:=[(false,[.int .i64])]) (((i+1:Nat):Int),()) (xs.length-(i+1)) rfl ad (YJ (fun z=>[Value.int .i64 z]) hwi) ⟨i+1,_,rfl,rfl,ad,e6,⟨s6,fun w' u=>?_,fun w' u h0' j hj'=>?_⟩,by rw [Zy]; exact hwl,fun j w' hj' u=>?_,fun j x' w' hx' u=>?_⟩
  ·rcases ZH u with u | rfl
   ·exact J7 ((X.fq w' u).an Z aj) k6 (fun h0 j F=>(X.low w' u h0 j F).2)
   ·exact (s4.bP k6 (fun j F hh=>by have:=(s4.cv F).1; have:=hgb j hh; omega)).Sg
  ·rcases ZH u with u | rfl
   ·obtain ⟨h1,h2⟩:=X.low w' u h0' j hj';exact ⟨ad,h2⟩
   ·obtain ⟨h1,h2⟩:=s4.cv hj';exact ⟨ad,fun hh=>by have:=hgb j hh; omega⟩
  ·have hbx:∀ q,q∈aR (some a)->∃ ys,bI h4 q 71 ys:=SL.Bk so
   by_cases V:i=j
   ·subst V;rw [aa9 G] at u;cases u;exact (SL.rY s4 k6 hbx cm).mono ad
   ·rw [ZS V] at u;exact SL.rY ((hown j w' ad u).bP Z aj) k6 hbx cm
  ·by_cases V:i=j
   ·subst V;rw [aa9 G] at u;cases u;rw [hxi] at hx';cases hx';rw [YC ad]
   ·rw [ZS V] at u;have h2:=F j x' w' hx' u;rw [h2]
    by_cases hj2:j<i
    ·rw [YC hj2,YC ad]
    ·rw [Yx hj2,Yx ad]
 ·have:i=xs.length:=ad
  subst this;refine ⟨e2,p1,l,c1,ws,rfl,⟨X.out,fun w hw=>?_,fun _ _=>trivial⟩,?_⟩
  ·obtain ⟨j,hj1,rfl⟩:=Y0 hw;exact hown j _ ad (Yv hj1)
  apply bq9
  ·rw [Yu,Yu,hwl]
  ·intro j h1' h2';rw [YE,YE];rw [Yu] at h1' h2'
   have:=F j _ _ (Yv h2') (Yv h1')
   rw [this,YC h2']
def Ww:Tryz.prog.underlying 79=some (.slice 43):=az
def Xx:(Tryz.prog.info? 43).map (fun i=>(i.zero,i.size,i.bytes))=some (some (.slice none 0 0),1,24):=az
def RZ (p:Xac) (l c:Nat):Instr.fill (fun j=>some (j*1,1)) ((Array.range (1*1)).map ((Value.slice none 0 0).cells[· % (Value.slice none 0 0).cells.size]!)) [(0,.slice p l c)]=some ([.slice p l c]:List Xab).toArray:=az
structure uI (h:Hp) (b:Nat) (st:cr) (tw:List (cr × List (cr × cB))):Prop where
 sl:SL h b 43 1 st.p st.l st.c (tw.map fun x=>[x.1.v])
 fq:∀ x,x∈tw->Un h b x.1.p x.1.l x.1.c x.2
def Na {W:List Nat} {h h':Hp} {b:Nat} {p:Xac} {l c:Nat} {ws:List (cr × cB)} (s:Un h b p l c ws) (k:Ch W h h') {e':TypeId} (hw:∀ i,i∈W->∃ ys,bI h i e' ys) (h1:71≠e') (h2:117≠e'):Un h' b p l c ws :=
 ⟨SL.rY s.sl k hw h1,fun u hu=>SL.rY (s.own u hu) k hw h2,s.ok⟩
def Ed {h:Hp} {b b':Nat} {p:Xac} {l c:Nat} {ws:List (cr × cB)} (s:Un h b p l c ws) (d:b'<=b):Un h b' p l c ws:=⟨s.sl.mono d,fun u hu=>(s.own u hu).mono d,s.ok⟩
def uI.an {W:List Nat} {h h':Hp} {b:Nat} {st:cr} {tw:List (cr × List (cr × cB))} (s:uI h b st tw) (k:Ch W h h') {e':TypeId} (hw:∀ i,i∈W->∃ ys,bI h i e' ys) (d:∀ i,i∈aR st.p->i∉W) (h1:71≠e') (h2:117≠e'):uI h' b st tw :=
 ⟨s.sl.bP k d,fun x hx=>Na (s.fq x hx) k hw h1 h2⟩
def uI.ext {h h':Hp} {b:Nat} {st:cr} {tw:List (cr × List (cr × cB))} (s:uI h b st tw) (k:Ext h h'):uI h' b st tw:=s.an (e':=0) k aj aj cm cm
def uI.nil (h:Hp) (b:Nat):uI h b mM []:=⟨SL.nil _ _ _ _,aj⟩
def uI.push {L:Lp} {K:Xab->Hp->Prop} {h:Hp} {b:Nat} {st:cr} {tw:List (cr × List (cr × cB))} (s:uI h b st tw) {x:cr × List (cr × cB)} (hx:Un h b x.1.p x.1.l x.1.c x.2) (G:b<=h.size) (hl:tw.length<=2^20) {l:List (Xax × List Xab)} (u:∀ h',Ext h h'->T.BC h' l) {k:Xac->Nat->Nat->T}
  (hk:∀ p' c' h',uI h' b ⟨p',st.l+1,c'⟩ (tw++[x])->Ch (aR st.p) h h'->(p'=st.p\/∃ a,p'=some a/\h.size<=a.block)->k p' (st.l+1) c' L K h') :
  T.ek Tryz.prog (Instr.buildSlice 79 1 #[(0,.slice x.1.p x.1.l x.1.c)]) false [(false,[.slice 0])] (fun q m cc=>T.bj l (T.ek Tryz.prog (Builtin.append_ #[79,79] 79 #[.slice st.p st.l st.c,.slice q m cc]) false [(false,[.slice 0])] k)) L K h:=by
 have J:st.l=tw.length:=by have:=s.sl.1; rwa [Yu] at this
 refine gU (vs:=[x.1.v]) Ww Xx rfl ad ad (RZ _ _ _) rfl rfl s.sl G ad ad u ?_;intro p' c' h' s' k' F;refine hk p' c' h' ⟨by rw [YH]; exact s',fun y d=>?_⟩ k' F;have j:=SL.Bk s.sl;rcases YN.1 d with d | d
 ·exact Na (s.fq y d) k' j cm cm
 ·rw [YP.1 d];exact Na hx k' j cm cm
def O' (lv:Nat) (F:Xac) (j:Nat) (a1 u:Xax) (p16:Xac) (l17 l18:Nat):T :=
   T.loop [aP] [.int .i64 (0:Int)] <| fun (d:Int) =>
   bz d j
   (T.ah (u.add 2) [.slice 43] <| fun (G:Xac) (J:Nat) (O:Nat) =>
   T.need (dU d j) <|
   T.bi F <| fun (U:Xax) =>
   T.ah (U.add (aK d 4)) [.slice 71] <| fun (V:Xac) (X:Nat) (Y:Nat) =>
   bJ 53 [.pointer (some u),.int .i64 d,.slice V X Y,.slice p16 l17 l18] false [(false,[.slice 71])] <| fun (p29:Xac) (l30:Nat) (l31:Nat) =>
   T.bj [((u.add 2),[.slice G J O])] <|
   bU (Instr.buildSlice 79 1 #[(0,.slice p29 l30 l31)]) false [dl] <| fun (p32:Xac) (l33:Nat) (l34:Nat) =>
   T.bj [((U.add (aK d 4)),[.slice V X Y]),((u.add 2),[.slice G J O])] <|
   bU (Builtin.append_ #[79,79] 79 #[.slice G J O,.slice p32 l33 l34]) false [dl] <| fun (p35:Xac) (l36:Nat) (l37:Nat) =>
   T.bj [((U.add (aK d 4)),[.slice V X Y])] <|
   T.aC (u.add 2) [.slice p35 l36 l37] <|
   T.ah (u.add 3) [.slice 43] <| fun (Z:Xac) (l39:Nat) (l40:Nat) =>
   T.need (dU d j) <|
   T.bi F <| fun (a41:Xax) =>
   T.ah ((a41.add (aK d 4)).add 1) [.slice 71] <| fun (p42:Xac) (l43:Nat) (l44:Nat) =>
   bJ 53 [.pointer (some u),.int .i64 d,.slice p42 l43 l44,.slice p16 l17 l18] false [(false,[.slice 71])] <| fun (p45:Xac) (l46:Nat) (l47:Nat) =>
   T.bj [((u.add 3),[.slice Z l39 l40])] <|
   bU (Instr.buildSlice 79 1 #[(0,.slice p45 l46 l47)]) false [dl] <| fun (p48:Xac) (l49:Nat) (l50:Nat) =>
   T.bj [(((a41.add (aK d 4)).add 1),[.slice p42 l43 l44]),((u.add 3),[.slice Z l39 l40])] <|
   bU (Builtin.append_ #[79,79] 79 #[.slice Z l39 l40,.slice p48 l49 l50]) false [dl] <| fun (p51:Xac) (l52:Nat) (l53:Nat) =>
   T.bj [(((a41.add (aK d 4)).add 1),[.slice p42 l43 l44])] <|
   T.aC (u.add 3) [.slice p51 l52 l53] <|
   T.again lv [.int .i64 (bm (d+(1:Int)))])
   (T.aC a1 [.int .i64 (0:Int),.int .i64 (0:Int),bX] <|
   T.ah a1 [.int .i64,.int .i64,.string] <| fun (n22:Int) (n23:Int) (s24:Xaa) =>
   bn #[.pointer (some u),.agg #[.int .i64 n22,.int .i64 n23,.string s24]])
def yA (us:List cd) (L:List Lb) (es:List cL) (F:cd->List cB) (i:Nat) (tw:List (cr × List (cr × cB))):Prop :=
 tw.length=i/\∀ n u x,us[n]?=some u->tw[n]?=some x->x.2.map (·.2)=(F u).map (wR us L es n)
def yA.push {us:List cd} {L:List Lb} {es:List cL} {F:cd->List cB} {i:Nat} {tw:List (cr × List (cr × cB))} (t:yA us L es F i tw) {u:cd} (hu:us[i]?=some u) {x:cr × List (cr × cB)} (hx:x.2.map (·.2)=(F u).map (wR us L es i)):yA us L es F (i+1) (tw++[x]):=by
 obtain ⟨h1,h2⟩:=t;refine ⟨by rw [Yy,h1]; rfl,fun n v y hv d=>?_⟩
 by_cases hn:n<tw.length
 ·rw [Za hn] at d;exact h2 n v y hv d
 ·rw [Y5 ad] at d;have j:n=tw.length:=by
   have:=(YO.1 d).1
   simp at this;omega
  subst j;rw [ao9] at d;cases d;rw [h1] at hv ⊢;rw [hu] at hv;cases hv;exact hx
structure U2 (us:List cd) (L:List Lb) (S:List Xaa) (n:Nat) (u:cd):Prop where
 text:∀ x,x∈u.text->OU us n x.e/\∀ t,t∈x.e.ai->dC us L n t.1∈S
 data:∀ x,x∈u.data->OU us n x.e/\∀ t,t∈x.e.ai->dC us L n t.1∈S
def B8 {L:Lp} {K:Xab->Hp->Prop} {h:Hp} {vs:List Xab} {cs:List fI} {I:qK (flat cs)->Nat->Hp->Prop} {n:Nat} (y:qK (flat cs)) (m:Nat) (hm:m<n) (d:vs=parts cs (ec _ y)) (j:I y m h):T.again L.length vs (L++[Jl I n]) K h :=
 aG y m (by rw [Y5 (YI _),ao9]; rfl) hm d j
def Rx {L:Lp} {K:Xab->Hp->Prop} {h0 h:Hp} {ga g lv:Nat} {su lb:cr} {LB:List Lb} {us:List cd} {a b:Int} {z:Xaa} {p16:Xac} {l17 l18:Nat} {es:List cL} {S:List Xaa} (hlv:lv=L.length) (hga:ga<g) (h0g:h0.size<=ga) (e0:Ext h0 h) (b1:bI h ga 75 [.int .i64 a,.int .i64 b,.string z])
  (pr:Bf h g su lb mM mM LB) (v:xS h0 su.p su.l us) (sz:K9 us) (hL:LB.length<=2^40) (ve:uf h p16 l17 es) (hq:∀ i,i∈aR p16->g<i) (hb:∀ e,e∈es->∀ i,i∈aR e.p->g<i/\i<h.size) (hm:es.length<=2^40) (hS:S.length<=2^30) (hes:∀ e,e∈es->tg S e.x)
  (hW:∀ n u,us[n]?=some u->U2 us LB S n u)
  (hk:∀ h' st sd tw dw,Ext h0 h'->Bf h' g su lb st sd LB->uI h' h.size st tw->uI h' h.size sd dw->yA us LB es (·.text) us.length tw->yA us LB es (·.data) us.length dw->K (.tuple #[.pointer (some ⟨g,0,none⟩),PC ⟨0,0,dJ⟩]) h') :
  O' lv su.p su.l ⟨ga,0,none⟩ ⟨g,0,none⟩ p16 l17 l18 L K h:=by
 subst hlv;unfold O' bz aK bJ bU bm dU bn bX aP dl;have hll:=v.len;have hmany:=sz.many;have hgs:=pr.box.lt;refine aS (cs:=[(false,[.int .i64])]) (fun y k h'=>∃ (i:Nat) (st sd:cr) (tw dw:List (cr × List (cr × cB))),y.1=(i:Int)/\k=us.length-i/\i<=us.length/\Ext h0 h'/\Ch [g] h h'/\bI h' g 81 [su.v,lb.v,st.v,sd.v]/\uI h' h.size st tw/\uI h' h.size sd dw/\(∀ j,j∈aR st.p->j∉aR sd.p) /\
  yA us LB es (·.text) i tw/\yA us LB es (·.data) i dw) ((0:Int),()) us.length rfl
  ⟨0,mM,mM,[],[],rfl,rfl,ad,e0,Ch.refl _ _,pr.box,uI.nil _ _,uI.nil _ _,by simp [mM,aR],⟨rfl,fun n u x _ hx=>by simp at hx⟩,⟨rfl,fun n u x _ hx=>by simp at hx⟩⟩ ?_
 rintro ⟨n21,⟨⟩⟩ k h1 ⟨i,st,sd,tw,dw,hi,rfl,hle,e1,k1,b7,t1,d1,hdj,it,id⟩;simp only at hi;subst hi;refine ak ?_;have hw:=gu i;have z1:=k1.size;refine aM (fun q=>?_) (fun q=>?_)
 ·have J:i<us.length:=ad
  have X:us[i]?=some us[i]:=Yv J;obtain ⟨au,sa,sb,sc,sd',hau,hcu,va⟩:=v.cells i J;have hum:=YD J;generalize us[i]=u at X hcu va hum;have uw:=hW i u X;have prk:∀ {h':Hp} {st' sd2:cr},Ch [g] h h'->bI h' g 81 [su.v,lb.v,st'.v,sd2.v]->Bf h' g su lb st' sd2 LB:=fun k bx=>⟨bx,pr.oc.bP k (fun j F G=>by have:=(pr.oc.cv F).1; simp at G; omega)⟩
  have vek:∀ {h':Hp},Ch [g] h h'->uf h' p16 l17 es:=fun k=>ve.nh k (fun j F G=>by have:=hq j F; simp at G; omega) (fun e he _ j F G=>by have:=(hb e he j F).1; simp at G; omega)
  have cu0:∀ {h':Hp},Ext h0 h'->aJ h' (au.add (i*4)) 0 [.slice sa.p sa.l sa.c]:=fun e=>⟨(aT e aj _ _ hcu).1,trivial⟩
  have cu1:∀ {h':Hp},Ext h0 h'->aJ h' ((au.add (i*4)).add 1) 0 [.slice sb.p sb.l sb.c]:=fun e=>⟨by rw [add_add]; exact (aT e aj _ _ hcu).2.1,trivial⟩
  rw [aE];refine af b7 ((st.p,st.l,st.c),()) rfl (ak ?_);refine ax ⟨ad,ad⟩ (av hau ?_);rw [show Int.toNat (i:Int)=i from ad];refine ay ((sa.p,sa.l,sa.c),()) (cu0 e1) (ak ?_);refine aI (CD (c:=sa.c) (d:=l18) (prk k1 b7) (v.an e1) sz J hL (va.an e1).text (sz.text u hum) (fun x hx=>(uw.text x hx).1) (vek k1) (fun e he j F=>by have:=(hb e he j F).2; omega) hm hS hes (fun x hx=>(uw.text x hx).2)) ?_;rintro _ h2 ⟨e2,p2,l2,c2,w2,rfl,o2,hm2⟩;refine ⟨((p2,l2,c2),()),rfl,ak ?_⟩;have z2:=e2.size;have e02:=e1.trans e2;have b72:=b7.an e2 aj;refine ⟨⟨b72.cells _ rfl,trivial⟩,?_⟩;refine uI.push (x:=(⟨p2,l2,c2⟩,w2)) (t1.ext e2) (Ed o2 z1) ad (by rw [it.1]; omega) (by exact fun h' e=>⟨cu0 (e02.trans e),(b72.an e aj).cells _ rfl,trivial⟩) ?_;intro p3 c3 h3 t3 k3 hp3;have O:∀ j,j∈aR st.p->h.size<=j/\j<h1.size:=fun j F=>t1.sl.cv F
  have e03:Ext h0 h3:=Ch.trans e02 k3 (fun j F hl=>by have:=O j F; have:=e0.size; omega);have kg3:Ch [g] h h3:=Ch.trans (Ch.trans k1 e2 aj) k3 (fun j F hl=>by have:=O j F; omega);have b73:=b72.an k3 (fun F=>by have:=O _ F; omega);have d3:uI h3 h.size sd dw:=(d1.ext e2).an (e':=43) k3 (SL.Bk (t1.ext e2).sl) (fun j F G=>hdj j G F) cm cm;have z3:=k3.size;refine ⟨⟨cu0 e03,trivial⟩,?_⟩;rw [aE];refine aw b73 rfl aj ?_;intro h4 U k4 z4;have U:bI h4 g 81 [su.v,lb.v,(⟨p3,st.l+1,c3⟩:cr).v,sd.v]:=U;have hg0:∀ j,j∈[g]->h0.size<=j:=fun j F=>by simp at F; omega
  have Y:Ext h0 h4:=Ch.trans e03 k4 (fun j F hl=>by have:=hg0 j F; omega);have kg4:Ch [g] h h4:=Ch.trans kg3 k4 (fun j F _=>F);have Z:∀ {G:Hp} {xs:List Xab},bI G g 81 xs->∀ j,j∈[g]->∃ ys,bI G j 81 ys:=fun bx j F=>by
   rw [YP] at F;subst F;exact ⟨_,bx⟩
  have hng:∀ {G:Hp} {s:cr} {t:List (cr × List (cr × cB))},uI G h.size s t->∀ j,j∈aR s.p->j∉[g]:=fun t j F G=>by have:=(t.sl.cv F).1; simp at G; omega
  have t4:=t3.an (e':=81) k4 (Z b73) (hng t3) cm cm;have d4:=d3.an (e':=81) k4 (Z b73) (hng d3) cm cm;have hdj4:∀ j,j∈aR p3->j∉aR sd.p:=fun j F G=>by
   rcases hp3 with h | ⟨a',h,h'⟩
   ·rw [h] at F; exact hdj j F G
   ·rw [h] at F;simp [aR] at F
    have:=(d1.sl.cv G).2
    omega
  refine af U ((sd.p,sd.l,sd.c),()) rfl (ak ?_);refine ax ⟨ad,ad⟩ (av hau ?_);refine ay ((sb.p,sb.l,sb.c),()) (cu1 Y) (ak ?_);refine aI (CD (c:=sb.c) (d:=l18) (prk kg4 U) (v.an Y) sz J hL (va.an Y).data (sz.data u hum) (fun x hx=>(uw.data x hx).1) (vek kg4) (fun e he j F=>by have:=(hb e he j F).2; omega) hm hS hes (fun x hx=>(uw.data x hx).2)) ?_;rintro _ h5 ⟨e5,p5,l5,c5,w5,rfl,o5,hm5⟩;refine ⟨((p5,l5,c5),()),rfl,ak ?_⟩;have z5:=e5.size;have e05:=Y.trans e5;have b75:=U.an e5 aj;refine ⟨⟨b75.cells _ rfl,trivial⟩,?_⟩;refine uI.push (x:=(⟨p5,l5,c5⟩,w5)) (d4.ext e5) (Ed o5 ad) ad (by rw [id.1]; omega) (by exact fun h' e=>⟨cu1 (e05.trans e),(b75.an e aj).cells _ rfl,trivial⟩) ?_;intro p6 c6 h6 d6 k6 hp6;have V:∀ j,j∈aR sd.p->h.size<=j/\j<h1.size:=fun j F=>d1.sl.cv F
  have e06:Ext h0 h6:=Ch.trans e05 k6 (fun j F hl=>by have:=V j F; have:=e0.size; omega);have kg6:Ch [g] h h6:=Ch.trans (Ch.trans kg4 e5 aj) k6 (fun j F hl=>by have:=V j F; omega);have b76:=b75.an k6 (fun F=>by have:=V _ F; omega);have t6:uI h6 h.size ⟨p3,st.l+1,c3⟩ (tw++[(⟨p2,l2,c2⟩,w2)]):=(t4.ext e5).an (e':=43) k6 (SL.Bk (d4.ext e5).sl) hdj4 cm cm;refine ⟨⟨cu1 e06,trivial⟩,?_⟩;refine aw b76 rfl aj ?_;intro h7 b77 k7 z7;have b77:bI h7 g 81 [su.v,lb.v,(⟨p3,st.l+1,c3⟩:cr).v,(⟨p6,sd.l+1,c6⟩:cr).v]:=b77;have e07:Ext h0 h7:=Ch.trans e06 k7 (fun j F hl=>by have:=hg0 j F; omega);refine B8 (cs:=[(false,[.int .i64])]) (((i+1:Nat):Int),()) (us.length-(i+1)) ad (YJ (fun z=>[Value.int .i64 z]) hw) ⟨i+1,⟨p3,st.l+1,c3⟩,⟨p6,sd.l+1,c6⟩,_,_,rfl,rfl,ad,e07,Ch.trans kg6 k7 (fun j F _=>F),b77,
   t6.an (e':=81) k7 (Z b76) (hng t6) cm cm,d6.an (e':=81) k7 (Z b76) (hng d6) cm cm,fun j F G=>?_,it.push X hm2,id.push X hm5⟩
  rcases hp6 with h | ⟨a',h,h'⟩
  ·rw [h] at G; exact hdj4 j F G
  ·rw [h] at G;simp [aR] at G
   have:=(t4.sl.cv F).2
   omega
 ·have:i=us.length:=ad
  subst this;have b1':=b1.an k1 (by simp; omega);refine aw b1' rfl aj ?_;intro h2 b2 k2 z2;have b2:bI h2 ga 75 [.int .i64 0,.int .i64 0,.string dJ]:=b2;refine af b2 ((0:Int),(0:Int),dJ,()) rfl ?_;have hba:∀ j,j∈[ga]->∃ ys,bI h1 j 75 ys:=fun j F=>by
   rw [YP] at F;subst F;exact ⟨_,b1'⟩
  have hna:∀ {s:cr} {t:List (cr × List (cr × cB))},uI h1 h.size s t->∀ j,j∈aR s.p->j∉[ga]:=fun t j F G=>by have:=(t.sl.cv F).1; simp at G; omega
  refine hk h2 st sd tw dw (bQ e1 k2) ⟨b7.an k2 (by simp; omega),?_⟩ (t1.an (e':=75) k2 hba (hna t1) cm cm) (d1.an (e':=75) k2 hba (hna d1) cm cm) it id;refine pr.oc.bP (Ch.trans (ws:=[g,ga]) (Ch.mono k1 aj) k2 aj) (fun j F G=>by have:=(pr.oc.cv F).1; simp at G; omega)
def qy (us:List cd):List Nat:=us.flatMap fun u=>List.range u.bh.length
theorem rX:∀ (us:List cd) (n:Nat),(et n us).length=(qy us).length
 | [],n=>rfl
 | u::us,n=>by
  unfold qy;rw [et,Zd,Yy,Yy,Yu,ZX,rX us (n+1)] <;> rfl
def NZ (lv:Nat) (j:Xac) (u:Nat) (a1:Xax) (Z:Xac) (l13:Nat) (F:Int):T :=
   T.loop [aP,aP] [.int .i64 (0:Int),.int .i64 F] <| fun (d:Int) (U:Int) =>
   T.need (dU d u) <|
   T.bi j <| fun (a23:Xax) =>
   T.ah ((a23.add (aK d 4)).add 2) [.slice 100] <| fun (p24:Xac) (l25:Nat) (l26:Nat) =>
   cond (decide (U>=(l25:Int)))
   (T.need (dU d u) <|
   T.bi j <| fun (a27:Xax) =>
   T.ah ((a27.add (aK d 4)).add 2) [.slice 100] <| fun (O:Xac) (G:Nat) (V:Nat) =>
   T.again lv [.int .i64 (bm (d+(1:Int))),.int .i64 (bm (U-(G:Int)))])
   (T.need (dU d u) <|
   T.bi j <| fun (a27:Xax) =>
   T.ah ((a27.add (aK d 4)).add 2) [.slice 100] <| fun (O:Xac) (G:Nat) (V:Nat) =>
   T.need (dU F l13) <|
   T.bi Z <| fun (X:Xax) =>
   T.ah (X.add (aK F 1)) [.int .i64] <| fun (J:Int) =>
   T.need (dU J G) <|
   T.bi O <| fun (a33:Xax) =>
   T.ah (a33.add (aK J 3)) [.string] <| fun (Y:Xaa) =>
   T.bj [((a33.add (aK J 3)),[.string Y]),((X.add (aK F 1)),[.int .i64 J]),(((a27.add (aK d 4)).add 2),[.slice O G V])] <|
   T.aC a1 [.int .i64 (24:Int),.int .i64 d,.string Y] <|
   T.ah a1 [.int .i64,.int .i64,.string] <| fun (n35:Int) (n36:Int) (s37:Xaa) =>
   bn #[.pointer none,.agg #[.int .i64 n35,.int .i64 n36,.string s37]])
def Qi {L:Lp} {K:Xab->Hp->Prop} {h0 h:Hp} {ga lv b:Nat} {p:Xac} {l:Nat} {us:List cd} {x y:Int} {z:Xaa} {Y:Xac} {X c13:Nat} {i0:Nat} {q:Nat × rO} (hlv:lv=L.length) (h0g:h0.size<=ga) (e0:Ext h0 h) (b1:bI h ga 75 [.int .i64 x,.int .i64 y,.string z]) (v:xS h p l us) (hmany:us.length<=2^20)
  (Z:SL h b 3 1 Y X c13 ((qy us).map Ll)) (hle:(et 0 us).length<=2^40) (hq:(et 0 us)[i0]?=some q) (hk:∀ h',Ext h0 h'->K (.tuple #[.pointer none,PC ⟨24,q.1,q.2.1⟩]) h'):NZ lv p l ⟨ga,0,none⟩ Y X i0 L K h:=by
 subst hlv;unfold NZ aK bm dU bn aP;have hll:=v.len;have hi0:i0<(et 0 us).length:=(YO.1 hq).1;have hkl:=rX us 0;refine aS (cs:=[(false,[.int .i64]),(false,[.int .i64])]) (fun y k h'=>∃ (u r:Nat),y.1=(u:Int)/\y.2.1=(r:Int)/\k=us.length-u/\h'=h/\u<=us.length/\(et u (us.drop u))[r]?=some q/\(qy (us.drop u))[r]?=(qy us)[i0]?/\r<=i0) ((0:Int),(i0:Int),()) us.length rfl
  ⟨0,i0,rfl,rfl,rfl,rfl,ad,hq,rfl,YI _⟩ ?_
 rintro ⟨n21,n22,⟨⟩⟩ k h' ⟨u,r,hu,hr,rfl,rfl,hul,d,j,hri⟩;simp only at hu hr;subst hu hr;refine ak ?_;have O:u<us.length:=by
  by_cases h:u<us.length
  ·exact h
  ·rw [Zo ad] at d;simp [et] at d
 rw [YK O] at d j;have j:(List.range us[u].bh.length++qy (us.drop (u+1)))[r]?=(qy us)[i0]?:=j;have d:(us[u].bh.map (fun e=>(u,e))++et (u+1) (us.drop (u+1)))[r]?=some q:=d;obtain ⟨au,sa,sb,sc,sd,rfl,hcu,va⟩:=v.cells u O;generalize us[u]=w at j d hcu va;have hlq:=va.bh.len;have J:aJ h' ((au.add (u*4)).add 2) 0 [.slice sc.p sc.l sc.c]:=⟨by rw [add_add]; exact hcu.2.2.1,trivial⟩
 refine ax ⟨ad,ad⟩ (av rfl ?_);rw [show Int.toNat (u:Int)=u from ad];refine ay ((sc.p,sc.l,sc.c),()) J (ak ?_);refine aM (fun g=>?_) (fun g=>?_)
 ·have hge:w.bh.length<=r:=ad
  refine ax ⟨ad,ad⟩ (av rfl ?_);refine ay ((sc.p,sc.l,sc.c),()) J (ak ?_);have hw1:=gu u;have hw2:IntKind.wrap .i64 ((r:Int)-(sc.l:Int))=((r-w.bh.length:Nat):Int):=by rw [wrap_i64 ad ad]; omega
  rw [Y5 (by rw [Yu]; exact hge),Yu] at d;rw [Y5 (by rw [ZX]; exact hge),ZX] at j;exact B8 (cs:=[(false,[.int .i64]),(false,[.int .i64])]) (((u+1:Nat):Int),((r-w.bh.length:Nat):Int),()) (us.length-(u+1)) ad (by rw [hw1,hw2]; rfl) ⟨u+1,r-w.bh.length,rfl,rfl,rfl,rfl,ad,d,j,ad⟩
 ·have G:r<w.bh.length:=ad
  rw [Za (by rw [Yu]; exact G),Zj,Yv G] at d;rw [Za (by rw [ZX]; exact G),ZN G] at j;have hq':(u,w.bh[r])=q:=YR d;subst hq';refine ax ⟨ad,ad⟩ (av rfl ?_);refine ay ((sc.p,sc.l,sc.c),()) J (ak ?_);have U:i0<(qy us).length:=ad
  obtain ⟨a12,ha12,F⟩:=SL.cells Z (i:=i0) (by rw [Yu]; exact U);rw [YE] at F;have hgr:(qy us)[i0]=r:=by
   rw [Yv U] at j;exact (YR j).symm
  rw [hgr] at F;have hl13:X=(qy us).length:=by have:=Z.1; rwa [Yu] at this
  refine ax ⟨ad,ad⟩ (av ha12 ?_);rw [show Int.toNat (i0:Int)=i0 from ad];refine ay ((r:Int),()) F (ak ?_);obtain ⟨aq,pq,mq,cq,haq,V,_,_⟩:=va.bh.cells r G;refine ax ⟨ad,ad⟩ (av haq ?_);rw [show Int.toNat (r:Int)=r from ad];refine ay (w.bh[r].1,()) ⟨V.1,trivial⟩ (ak ?_);refine ⟨⟨⟨V.1,trivial⟩,F,J,trivial⟩,?_⟩;refine aw b1 rfl aj ?_;intro h2 b2 k2 z2;have b2:bI h2 ga 75 [.int .i64 24,.int .i64 (u:Int),.string w.bh[r].1]:=b2;refine af b2 ((24:Int),(u:Int),w.bh[r].1,()) rfl ?_;exact hk h2 (bQ e0 k2)
def SC (u:Xac) (d:Nat) (a1 a7:Xax):T :=
  T.loop [dl,dl,aP] [bq,bq,.int .i64 (0:Int)] <| fun (p9:Xac) (l10:Nat) (Y:Nat) (Z:Xac) (l13:Nat) (l14:Nat) (j:Int) =>
  bz j d
  (T.loop [dl,dl,aP] [.slice p9 l10 Y,.slice Z l13 l14,.int .i64 (0:Int)] <| fun (p16:Xac) (l17:Nat) (G:Nat) (p19:Xac) (l20:Nat) (l21:Nat) (F:Int) =>
  T.need (dU j d) <|
  T.bi u <| fun (a23:Xax) =>
  T.ah ((a23.add (aK j 4)).add 2) [.slice 100] <| fun (p24:Xac) (l25:Nat) (l26:Nat) =>
  bz F l25
   (T.need (dU j d) <|
   T.bi u <| fun (a27:Xax) =>
   T.ah ((a27.add (aK j 4)).add 2) [.slice 100] <| fun (p28:Xac) (l29:Nat) (l30:Nat) =>
   T.need (dU F l29) <|
   T.bi p28 <| fun (a31:Xax) =>
   T.ah (a31.add (aK F 3)) [.string,.slice 117,.int .u32] <| fun (Ti:Xaa) (p33:Xac) (l34:Nat) (l35:Nat) (n36:Int) =>
   T.new [bX,bq,aH (0:Int)] 100 <| fun (a37:Xax) =>
   T.aC a37 [.string Ti,.slice p33 l34 l35,aH n36] <|
   T.ah a37 [.string] <| fun (J:Xaa) =>
   T.ah (a37.add 1) [.slice 117,.int .u32] <| fun (O:Xac) (U:Nat) (V:Nat) (X:Int) =>
   bJ 50 [.pointer (some a7),.int .i64 j,.string J] false [(false,[.string])] <| fun (s43:Xaa) =>
   T.bj [((a37.add 1),[.slice O U V,aH X])] <|
   bJ 51 [.pointer (some a7),.int .i64 j,.agg #[.slice O U V,aH X]] false [(true,[.slice 117,.int .u32])] <| fun (p44:Xac) (l45:Nat) (l46:Nat) (n47:Int) =>
   T.bj [(a37,[.string J])] <|
   bU (Instr.buildSlice 44 1 #[(0,.agg #[.string s43,.slice p44 l45 l46,aH n47])]) false [dl] <| fun (p48:Xac) (l49:Nat) (l50:Nat) =>
   T.bj [((a37.add 1),[.slice O U V,aH X]),(a37,[.string J])] <|
   bU (Builtin.append_ #[44,44] 44 #[.slice p16 l17 G,.slice p48 l49 l50]) false [dl] <| fun (p51:Xac) (l52:Nat) (l53:Nat) =>
   T.bj [((a37.add 1),[.slice O U V,aH X]),(a37,[.string J])] <|
   bU (Instr.buildSlice 31 1 #[(0,.int .i64 F)]) false [dl] <| fun (p54:Xac) (l55:Nat) (l56:Nat) =>
   bU (Builtin.append_ #[31,31] 31 #[.slice p19 l20 l21,.slice p54 l55 l56]) false [dl] <| fun (p57:Xac) (l58:Nat) (l59:Nat) =>
   T.again 2 [.slice p51 l52 l53,.slice p57 l58 l59,.int .i64 (bm (F+(1:Int)))])
   (T.again 1 [.slice p16 l17 G,.slice p19 l20 l21,.int .i64 (bm (j+(1:Int)))]))
  (bJ 52 [.slice p9 l10 Y] true [(false,[.slice 100]),aP,aP] <| fun (p16:Xac) (l17:Nat) (G:Nat) (n19:Int) (n20:Int) =>
  cond (n20 != (0:Int)) (NZ 2 u d a1 Z l13 n19) (O' 2 u d a1 a7 p16 l17 G))
structure VX (h:Hp) (b:Nat) (p:Xac) (l c:Nat) (q:Xac) (m d:Nat) (ms:List cL) (ks:List Nat):Prop where
 out:SL h b 100 3 p l c (ms.map zH)
 num:SL h b 3 1 q m d (ks.map Ll)
 fq:∀ e,e∈ms->SL h b 117 2 e.p e.l e.c (e.x.ai.map df)
def VX.ext {h h':Hp} {b:Nat} {p:Xac} {l c:Nat} {q:Xac} {m d:Nat} {ms:List cL} {ks:List Nat} (s:VX h b p l c q m d ms ks) (e:Ext h h'):VX h' b p l c q m d ms ks :=
 ⟨s.out.bP e aj,s.num.bP e aj,fun x hx=>(s.fq x hx).bP e aj⟩
def dR (us:List cd) (L:List Lb) (l:List cd):List (Xaa × cn):=(et 0 l).map fun q=>(dC us L q.1 q.2.1,iC us L q.1 q.2.2)
def JP (l:List cd) (u:cd):qy (l++[u])=qy l++List.range u.bh.length:=by
 unfold qy;rw [Z2]
 simp
def QB (us:List cd) (L:List Lb) (l:List cd) (u:cd):dR us L (l++[u])=dR us L l++u.bh.map fun e=>(dC us L l.length e.1,iC us L l.length e.2):=by
 unfold dR;rw [ru,YH,YY];simp only [Nat.zero_add] <;> rfl
def XW (us:List cd) (n:Nat) (u:cd):Prop:=∀ e,e∈u.bh->OU us n e.2/\(∃ o,jx us n e.1=some o)/\e.1.size<=2^60
def ov (n:Nat):kZ n=fV n:=r9 n
def FC (n:Nat):∀ c,c∈Lib.decDigits n->c≠95:=by
 intro c hc e;rw [Lib.decDigits_eq] at hc;obtain ⟨t,_,rfl⟩:=YF.1 hc;unfold Lib.dg at e;have h1:=YJ UInt8.toNat e;have h2:(UInt8.ofNat (48+n / 10^(Lib.nDigits n-1-t) % 10)).toNat=48+n / 10^(Lib.nDigits n-1-t) % 10:=by
  rw [ak9];omega
 rw [h2] at h1;have h3:(95:UInt8).toNat=95:=rfl;omega
theorem Sy:∀ {a b:List UInt8} {s t:List UInt8},(∀ c,c∈a->c≠95)->(∀ c,c∈b->c≠95)->a++95::s=b++95::t->a=b/\s=t
 | [],[],s,t,_,_,h=>by simpa using h
 | [],c::b,s,t,_,j,h=>by
  simp only [List.nil_append,List.cons_append,List.cons.injEq] at h;exact absurd h.1.symm (j c aj)
 | c::a,[],s,t,u,_,h=>by
  simp only [List.nil_append,List.cons_append,List.cons.injEq] at h;exact absurd h.1 (u c aj)
 | c::a,d::b,s,t,u,j,h=>by
  simp only [List.cons_append,List.cons.injEq] at h;obtain ⟨h1,h2⟩:=Sy (fun x hx=>u x (YM _ hx)) (fun x hx=>j x (YM _ hx)) h.2;exact ⟨by rw [h.1,h1],h2⟩
def DC (L:List Lb) (o:Nat) (s:Xaa):UG L o s=nG (L.map AF) (o,s):=by
 unfold UG nG;rw [bi9]
 congr 1
 funext x
 show _=decide (AF x=(o,s));unfold AF;rw [Z3]
 simp
def PJ (L:List Lb) (k:Ky):Xaa:=xU L k.1 k.2
def QZ {L:List Lb} {k k':Ky} (h:PJ L k=PJ L k'):k=k':=by
 have d:∀ a b:Xaa,(⟨#[76]⟩:Xaa)++a≠(⟨#[69]⟩:Xaa)++b:=by
  intro a b e;have h1:=YJ (fun b:Xaa=>b.data.toList) e;simp only [ee] at h1;simp at h1
 have has:∀ a b c:Xaa,((⟨#[69]⟩++a)++⟨#[95]⟩)++b=(⟨#[69]⟩:Xaa)++(a++(⟨#[95]⟩++b)):=by
  intro a b c;simp only [ByteArray.append_assoc]
 obtain ⟨o,s⟩:=k;obtain ⟨o',s'⟩:=k';unfold PJ xU at h;rw [DC,DC] at h;cases h1:nG (L.map AF) (o,s) with
 | some i =>
  cases h2:nG (L.map AF) (o',s') with
  | some j =>
   rw [h1,h2] at h;have h:(⟨#[76]⟩:Xaa)++fV i=⟨#[76]⟩++fV j:=h;rw [<- ov,<- ov] at h
   have:=lB (oS h)
   subst this;obtain ⟨a,u⟩:=jA h1;obtain ⟨b,F⟩:=jA h2;rw [<- u,<- F]
  | none =>
   rw [h1,h2] at h;have h:(⟨#[76]⟩:Xaa)++fV i=((⟨#[69]⟩++fV o')++⟨#[95]⟩)++s':=h;rw [has _ _ ⟨#[]⟩] at h;exact absurd h (d _ _)
 | none =>
  cases h2:nG (L.map AF) (o',s') with
  | some j =>
   rw [h1,h2] at h;have h:((⟨#[69]⟩++fV o)++⟨#[95]⟩)++s=(⟨#[76]⟩:Xaa)++fV j:=h;rw [has _ _ ⟨#[]⟩] at h;exact absurd h.symm (d _ _)
  | none =>
   rw [h1,h2] at h;have h:((⟨#[69]⟩++fV o)++⟨#[95]⟩)++s=((⟨#[69]⟩++fV o')++⟨#[95]⟩)++s':=h;rw [has _ _ ⟨#[]⟩,has _ _ ⟨#[]⟩] at h;have h:=oS h;have h3:=YJ (fun b:Xaa=>b.data.toList) h;simp only [ee] at h3;have h4:Lib.decDigits o++95::s.data.toList=Lib.decDigits o'++95::s'.data.toList:=by
    have e:∀ n:Nat,(fV n).data.toList=Lib.decDigits n:=fun n=>by unfold fV; simp
    rw [e,e] at h3;simpa using h3
   obtain ⟨h5,h6⟩:=Sy (FC o) (FC o') h4;have h7:o=o':=by
    apply lB;rw [ov,ov];unfold fV;rw [h5]
   subst h7
   congr 1
   cases s; cases s';simp only at h6
   congr 1
   exact Array.ext' h6
structure rp (us:List cd) (w:LW):Prop where
 right:∀ u,u∈us->eO u=0
 wi:WI w (bZ 0 us) ((et 0 us).map jS)
 gl:∀ s,w.gl s=P5 us s
def Vs (us:List cd) (k:Ky):Prop:=k∈(bZ 0 us).map AF\/k∈(et 0 us).map jS
def M4 {us:List cd} {n:Nat} {u:cd} (hu:us[n]?=some u) {s:Xaa} (hs:s∈fy u):Vs us (n,s):=by
 unfold fy at hs;rw [YN,YN] at hs;rcases hs with hs | hs
 ·exact .inl ((xC s n us 0).2 ⟨u,bj9 _,by rw [ay9]; exact hu,hs⟩)
 ·exact .inr ((zL s n us 0).2 ⟨u,bj9 _,by rw [ay9]; exact hu,hs⟩)
def LI {u:cd} (h:eO u=0):∀ x,x∈u.aZ->x∈fy u:=by
 have h1:=(wZ h).2;rw [xz] at h1;unfold xx at h1;simp only [Bool.and_eq_true,decide_eq_true_eq] at h1;exact fun x hx=>((xX _ _ _ h1.2.2.2.2).1 x hx).1
def vL {l:List Xaa} {s:Xaa}:gd l s=true↔s∈l:=by
 unfold gd;rw [ZL];constructor
 ·rintro ⟨x,hx,d⟩;rw [<- Yz d]; exact hx
 ·intro h;exact ⟨s,h,YA rfl⟩
def Jr {us:List cd} (F:∀ u,u∈us->eO u=0) {n o:Nat} {s:Xaa} (h:jx us n s=some o):Vs us (o,s):=by
 unfold jx at h;split at h
 ·rename_i d;cases h;cases hu:us[n]? with
  | none=>rw [hu] at d; cases d
  | some u =>
   rw [hu] at d;exact M4 hu (vL.1 (YR d))
 ·rw [YX] at h;obtain ⟨j,h1,_⟩:=h;exact M4 (Yv j) (LI (F _ (YD j)) s (vL.1 h1))
def CR {us:List cd} {n:Nat} {u:cd} (hu:us[n]?=some u) {s:Xaa} (hs:s∈fy u):jx us n s=some n:=by
 unfold jx;rw [hu,br9,YC (by rw [vL.2 hs])]
def M0 {us:List cd} {w:LW} (i0:WI w (bZ 0 us) ((et 0 us).map jS)) {k:Ky} (hk:Vs us k) (hn:k∉(et 0 us).map jS):w.word k=PJ (bZ 0 us) k:=by
 have hk:k∈(bZ 0 us).map AF:=hk.elim id fun h=>absurd h hn
 obtain ⟨i,hi⟩:=Be hk;unfold LW.word PJ xU;rw [DC,i0.num];show (match nG ((bZ 0 us).map AF) k with | some n=>(⟨#[76]⟩:Xaa)++kZ n | none=>_)=match nG ((bZ 0 us).map AF) (k.1,k.2) with | some i=>(⟨#[76]⟩:Xaa)++fV i | none=>_
 rw [hi];show (⟨#[76]⟩:Xaa)++kZ i=⟨#[76]⟩++fV i;rw [ov]
def Wt (f:Xaa->Nat) (s:Xaa):jD f (lR s)=f s % 4294967296:=by
 unfold jD lR;show (0+(1*f s+0)) % 4294967296=_
 congr 1
 omega
def rp.own {us:List cd} {w:LW} (A:rp us w) {n:Nat} (hn:n<us.length) (s:Xaa):w.own n s=(jx us n s).map fun o=>(o,s):=Mn A.wi A.gl hn s
def rp.rel {us:List cd} {w:LW} (A:rp us w) {n:Nat} (hn:n<us.length) {x:cn} (F:w.bad n x=none):yS (Vs us) w.word (PJ (bZ 0 us)) (w.lin n x) (iC us (bZ 0 us) n x):=by
 intro f g d;unfold LW.lin iC;rw [fH,fH];refine pe fun t G=>?_
 obtain ⟨k,hk⟩:=An F t G;rw [A.own hn] at hk;obtain ⟨o,u,rfl⟩:=ac9.1 hk;have j:=Jr A.right u;unfold HO ux dC;simp only [A.own hn,u,Option.map_some,Option.getD_some];rw [Wt,Wt,d _ j] <;> rfl
def Dz {us:List cd} {q:Nat × rO} (d:q∈et 0 us):∃ u,us[q.1]?=some u/\q.2∈u.bh:=by
 obtain ⟨i,hi,h1,h2⟩:=vM us 0 q d;rw [Y7] at h1;exact ⟨us[i],by rw [h1]; exact Yv hi,h2⟩
def rp.two {us:List cd} {w:LW} (A:rp us w) (F:fN w 0 us=none):vz (et 0 us) jS (Vs us) w.word (PJ (bZ 0 us)) (fun q=>w.lin q.1 q.2.2) fun q=>iC us (bZ 0 us) q.1 q.2.2 where
 nd:=wV us 0 fun u hu=>by
  have:=wU (A.right u hu)
  unfold fy at this;rw [Zr] at this;exact this.2.1
 PF:=fun q d=>.inr (YT d)
 ia:=fun k k' hk j h=>word_inj A.wi hk j h
 ib:=fun k k' _ _ h=>QZ h
 Sk:=fun k hk hn=>M0 A.wi hk hn
 rel:=fun q d=>by
  obtain ⟨u,hu,_⟩:=Dz d;exact A.rel (YO.1 hu).1 (DX F d)
 fa:=fun q _=>eR _ _
 fb:=fun q _=>eR _ _
def Mr (w:LW) (us:List cd):vY w us=wD (et 0 us) jS w.word fun q=>w.lin q.1 q.2.2:=rfl
def Lx (us:List cd):dR us (bZ 0 us) us=wD (et 0 us) jS (PJ (bZ 0 us)) fun q=>iC us (bZ 0 us) q.1 q.2.2:=by
 unfold dR wD;refine Zm fun q d=>?_
 obtain ⟨u,hu,j⟩:=Dz d
 have:jx us q.1 q.2.1=some q.1:=CR hu (by
  unfold fy;exact Y8 _ (YT j))
 unfold dC;rw [this] <;> rfl
def rp.VD {us:List cd} {w:LW} (A:rp us w) (d:fN w 0 us=none):nv (vY w us)=dG (fe (dR us (bZ 0 us) us)):=by
 rw [Mr,Lx];exact (A.two d).VD
def rp.put {us:List cd} {w:LW} (A:rp us w) (j:fN w 0 us=none) (hc:nv (vY w us)=none) {n:Nat} (hn:n<us.length) {x:cn} (d:w.bad n x=none) (hx:x.num<4294967296) {ms:List cL} (hm:ms.map fk=(dR us (bZ 0 us) us).map fun y=>(y.1,eU (fe (dR us (bZ 0 us) us)) y.1)) :
  vX (mR (vY w us)) (w.lin n x)=de (cy ms) (iC us (bZ 0 us) n x):=by
 have h1:cy ms=cy (fe (mR (dR us (bZ 0 us) us))):=FT (by rw [pO,hm]; rfl);rw [h1];show _=vX (mR (dR us (bZ 0 us) us)) _;rw [Lx];rw [Mr] at hc ⊢;exact (A.two j).same hc (A.rel hn d) (lZ hx) (lZ hx)
def EV {es fs:List cL} (h:es.map fk=fs.map fk):dG es=dG fs:=by
 unfold dG;have j:∀ (d:List cL),(d.findIdx? fun e=>@decide (kB (dp d) e.name) (Classical.propDecidable _))=(d.map fk).findIdx? fun q=>@decide (kB (dp d) q.1) (Classical.propDecidable _):=by
  intro d;rw [bi9] <;> rfl
 rw [j,j,h,Bb h]
def Rj {J0:List Xab->Hp->Prop} {K:Xab->Hp->Prop} {h0 h:Hp} {ga g:Nat} {su lb:cr} {LB:List Lb} {us:List cd} {a b:Int} {z:Xaa} {S:List Xaa} (hga:ga<g) (h0g:h0.size<=ga) (e0:Ext h0 h) (b1:bI h ga 75 [.int .i64 a,.int .i64 b,.string z])
  (pr:Bf h g su lb mM mM LB) (v:xS h0 su.p su.l us) (sz:K9 us) (hL:LB.length<=2^40) (hE:∀ n u,us[n]?=some u->XW us n u) (hW:∀ n u,us[n]?=some u->U2 us LB S n u) (hnd:((dR us LB us).map (·.1)).Nodup) (hlen:(et 0 us).length<=2^20) (hS:S.length<=2^30)
  (hSd:∀ y,y∈dR us LB us->∀ t,t∈y.2.ai->t.1∈S)
  (hk1:∀ h' i q,dG (fe (dR us LB us))=some i->(et 0 us)[i]?=some q->Ext h0 h'->K (.tuple #[.pointer none,PC ⟨24,q.1,q.2.1⟩]) h')
  (hk0:∀ h' b' st sd tw dw ms,dG (fe (dR us LB us))=none->ms.map fk=(dR us LB us).map (fun y=>(y.1,eU (fe (dR us LB us)) y.1))->Ext h0 h'->Bf h' g su lb st sd LB->uI h' b' st tw->uI h' b' sd dw->yA us LB ms (·.text) us.length tw->yA us LB ms (·.data) us.length dw->K (.tuple #[.pointer (some ⟨g,0,none⟩),PC ⟨0,0,dJ⟩]) h') :
  SC su.p su.l ⟨ga,0,none⟩ ⟨g,0,none⟩ [J0] K h:=by
 unfold SC bz aK bJ bU bm dU aH bq bX aP dl;have hll:=v.len;have hmany:=sz.many;have hgs:=pr.box.lt;have hz0:=e0.size;refine aS (cs:=[(false,[.slice 0]),(false,[.slice 0]),(false,[.int .i64])]) (fun y k h'=>∃ (i:Nat) (ms:List cL) (ks:List Nat),y.2.2.1=(i:Int)/\k=us.length-i/\i<=us.length/\Ext h h'/\VX h' h.size y.1.1 y.1.2.1 y.1.2.2 y.2.1.1 y.2.1.2.1 y.2.1.2.2 ms ks/\ms.map fk=dR us LB (us.take i)/\ks=qy (us.take i))
  ((none,0,0),(none,0,0),(0:Int),()) us.length rfl ⟨0,[],[],rfl,rfl,ad,Ch.refl _ _,⟨SL.nil _ _ _ _,SL.nil _ _ _ _,aj⟩,rfl,rfl⟩ ?_
 rintro ⟨⟨p9,l10,l11⟩,⟨p12,l13,l14⟩,n15,⟨⟩⟩ k h1 ⟨i,ms,ks,hi,rfl,hle,e1,o1,F,rfl⟩;simp only at hi o1;subst hi;refine ak ?_;refine aM (fun q=>?_) (fun q=>?_)
 ·have O:i<us.length:=ad
  have hug:us[i]?=some us[i]:=Yv O;have htk:us.take (i+1)=us.take i++[us[i]]:=Yw O;have hti:(us.take i).length=i:=by rw [YQ]; omega
  have hwt:=gu i;obtain ⟨au,sa,sb,sc,sd,hau,hcu,va⟩:=v.cells i O;have hum:=YD O;generalize us[i]=u at hug htk hcu va hum;have ew:=hE i u hug;have hlq:=va.bh.len;have hue:=sz.bh u hum;refine aS (cs:=[(false,[.slice 0]),(false,[.slice 0]),(false,[.int .i64])]) (fun y k h'=>∃ (j:Nat) (ms:List cL) (ks:List Nat),y.2.2.1=(j:Int)/\k=u.bh.length-j/\j<=u.bh.length/\Ext h h'/\VX h' h.size y.1.1 y.1.2.1 y.1.2.2 y.2.1.1 y.2.1.2.1 y.2.1.2.2 ms ks /\
   ms.map fk=dR us LB (us.take i)++(u.bh.take j).map (fun e=>(dC us LB i e.1,iC us LB i e.2))/\ks=qy (us.take i)++List.range j) ((p9,l10,l11),(p12,l13,l14),(0:Int),()) u.bh.length rfl ⟨0,ms,_,rfl,rfl,ad,e1,o1,by simpa using F,aj⟩ ?_
  rintro ⟨⟨p16,l17,l18⟩,⟨p19,U,l21⟩,n22,⟨⟩⟩ k h2 ⟨j,V,ks2,hj,rfl,hlj,e2,o2,G,rfl⟩;simp only at hj o2;subst hj;refine ak ?_;have e02:=e0.trans e2;have z2:=e2.size;have hwj:=gu j;have hcq:aJ h2 ((au.add (i*4)).add 2) 0 [.slice sc.p sc.l sc.c]:=⟨by rw [add_add]; exact (aT e02 aj _ _ hcu).2.2.1,trivial⟩
  have hkl:=rX (us.take i) 0;have hsum1:(et 0 (us.take i)).length<=(et 0 us).length:=by
   have:=ru
   rw [rX,rX];unfold qy
   conv=>rhs; rw [<- Zc i us]
   rw [Z2,Yy];omega
  refine ax ⟨ad,ad⟩ (av hau ?_);rw [show Int.toNat (i:Int)=i from ad];refine ay ((sc.p,sc.l,sc.c),()) hcq (ak ?_);refine aM (fun r=>?_) (fun r=>?_)
  ·have hjl:j<u.bh.length:=ad
   have htj:u.bh.take (j+1)=u.bh.take j++[u.bh[j]]:=Yw hjl;refine ax ⟨ad,ad⟩ (av hau ?_);refine ay ((sc.p,sc.l,sc.c),()) hcq (ak ?_);obtain ⟨aq,pq,mq,cq,haq,hce,hlin,_⟩:=(va.bh.an e02).cells j hjl;have hem:=YD hjl;generalize u.bh[j]=e at htj hce hlin hem;obtain ⟨Y,⟨o,hoo⟩,hsn⟩:=ew e hem;refine ax ⟨ad,ad⟩ (av haq ?_);rw [show Int.toNat (j:Int)=j from ad];refine ay (e.1,(pq,mq,cq),(e.2.num:Int),()) hce (ak ?_);refine br ?_;intro h3 b3 e3 z3;refine aw b3 rfl aj ?_;intro h4 b4 k4 z4;have b4:bI h4 h2.size 100 [.string e.1,.slice pq mq cq,.int .u32 (e.2.num:Int)]:=b4;have e24:Ext h2 h4:=bQ e3 k4;refine af b4 (e.1,()) rfl (ak ?_);rw [aE];refine af b4 ((pq,mq,cq),(e.2.num:Int),()) rfl (ak ?_);have e04:=e02.trans e24;have prk:∀ {h':Hp},Ext h h'->Bf h' g su lb mM mM LB:=fun e=>pr.an e
   refine aI (IJ (prk (e2.trans e24)) (v.an e04) sz O hL hoo hsn) ?_;rintro _ h5 ⟨rfl,e5⟩;refine ⟨(dC us LB i e.1,()),rfl,ak ?_⟩;have b45:=b4.an e5 aj;refine ⟨⟨b45.cells _ rfl,trivial⟩,?_⟩;have Z:=e24.trans e5;refine aI (EP (d:=cq) (prk (e2.trans Z)) (v.an (e02.trans Z)) sz O hL (hlin.vw.an Z aj) Y.nf Y.num Y.len Y.own Y.sz) ?_;rintro _ h6 ⟨e6,p6,l6,c6,rfl,s6⟩;refine ⟨((p6,l6,c6),((iC us LB i e.2).num:Int),()),rfl,ak ?_⟩;have b46:=b45.an e6 aj;refine ⟨⟨b46.cells _ rfl,trivial⟩,?_⟩;have e26:=Z.trans e6;have o6:=o2.ext e26;have z26:=e26.size;have z25:=Z.size;have hl17:l17=V.length:=by have:=o2.out.1; rwa [Yu] at this
   have hl20:U=(qy (us.take i)++List.range j).length:=by have:=o2.num.1; rwa [Yu] at this
   rw [Yy,ZX] at hl20;have hm2:V.length=(et 0 (us.take i)).length+j:=by
    have:=YJ List.length G
    rw [Yu,Yy,Yu,YQ,Zz hlj] at this;unfold dR at this
    rwa [Yu] at this
   refine gU (vs:=zH ⟨dC us LB i e.1,p6,l6,c6,iC us LB i e.2⟩) Cg KO rfl ad ad (Ha _ _ _ _ _) rfl rfl o6.out ad ad ad (fun h' x=>⟨(b46.an x aj).cells _ rfl,(b46.an x aj).cells _ rfl,trivial⟩) ?_;intro p7 c7 h7 s7 k7 hp7;have hbx7:=SL.Bk o6.out;have hnb:h2.size∉aR p16:=fun hh=>by have:=(o2.out.cv hh).2; omega
   have b47:=b46.an k7 hnb;refine ⟨⟨b47.cells _ rfl,b47.cells _ rfl,trivial⟩,?_⟩;have n7:SL h7 h.size 3 1 p19 U l21 ((qy (us.take i)++List.range j).map Ll):=SL.rY o6.num k7 hbx7 cm;have i7:∀ x,x∈V++[⟨dC us LB i e.1,p6,l6,c6,iC us LB i e.2⟩]->SL h7 h.size 117 2 x.p x.l x.c (x.x.ai.map df):=fun x hx=>by
    rcases YN.1 hx with hx | hx
    ·exact SL.rY (o6.fq x hx) k7 hbx7 cm
    ·rw [YP.1 hx];exact SL.rY (s6.mono ad) k7 hbx7 cm
   have z7:=k7.size;refine mV (vs:=Ll j) Dq RI rfl ad ad (D4 _) rfl rfl n7 ad ad ad ?_;intro p8 c8 h8 s8 k8 hp8;have hbx8:=SL.Bk n7;have e7:Ext h h7:=Ch.trans (e2.trans e26) k7 (fun q hq hl=>by have:=(o2.out.cv hq).1; omega);have e8:Ext h h8:=Ch.trans e7 k8 (fun q hq hl=>by have:=(n7.cv hq).1; omega);refine aG (cs:=[(false,[.slice 0]),(false,[.slice 0]),(false,[.int .i64])]) ((p7,l17+1,c7),(p8,U+1,c8),((j+1:Nat):Int),()) (u.bh.length-(j+1)) rfl ad (YJ (fun z=>[Value.slice p7 (l17+1) c7,.slice p8 (U+1) c8,Value.int .i64 z]) hwj)
    ⟨j+1,V++[⟨dC us LB i e.1,p6,l6,c6,iC us LB i e.2⟩],_,rfl,rfl,ad,e8,⟨?_,?_,fun x hx=>SL.rY (i7 x hx) k8 hbx8 cm⟩,?_,rfl⟩
   ·have:SL h7 h.size 100 3 p7 (l17+1) c7 ((V++[(⟨dC us LB i e.1,p6,l6,c6,iC us LB i e.2⟩:cL)]).map zH):=by rw [YH]; exact s7
    exact SL.rY this k8 hbx8 cm
   ·rw [List.range_succ,<- YV,YH];exact s8
   ·rw [htj,YH,YH,G,YV] <;> rfl
  ·have:j=u.bh.length:=ad
   subst this;rw [Y4] at G;refine aG (cs:=[(false,[.slice 0]),(false,[.slice 0]),(false,[.int .i64])]) ((p16,l17,l18),(p19,U,l21),((i+1:Nat):Int),()) (us.length-(i+1)) rfl ad (YJ (fun z=>[Value.slice p16 l17 l18,.slice p19 U l21,Value.int .i64 z]) hwt)
    ⟨i+1,V,_,rfl,rfl,ad,e2,o2,?_,?_⟩
   ·rw [G,htk,QB,hti]
   ·rw [htk,JP]
 ·have:i=us.length:=ad
  subst this;rw [Y4] at F o1;have z1:=e1.size;have e01:=e0.trans e1;have pr1:=pr.an e1;have b11:=b1.an e1 aj;have hkm:ms.map fk=(fe (dR us LB us)).map fk:=by rw [F,pO]
  have hml:ms.length=(et 0 us).length:=by
   have:=YJ List.length F
   rw [Yu] at this;rw [this];unfold dR;rw [Yu]
  have hnm:(bd ms).Nodup:=by
   have:bd ms=(dR us LB us).map (·.1):=by
    rw [<- F,YY] <;> rfl
   rw [this];exact hnd
  have hmem:∀ e,e∈ms->fk e∈dR us LB us:=fun e X=>by
   rw [<- F];exact YF.2 ⟨e,X,rfl⟩
  have J:∀ e,e∈ms->tg S e.x:=fun e X=>by
   have h1:=hmem e X;have h2:=hSd _ h1;unfold dR at h1;obtain ⟨q,hq,hqe⟩:=YF.1 h1;have hx:e.x=iC us LB q.1 q.2.2:=(YJ (·.2) hqe).symm;obtain ⟨n,hn,hn1,hn2⟩:=vM us 0 q hq;have hqn:q.1=n:=ad
   have hew:=hE n us[n] (Yv hn) q.2 hn2;exact ⟨by rw [hx]; exact JB _ _ _ _,by rw [hx]; exact EJ hew.1.num,h2⟩
  have ve:uf h1 p9 l10 ms:=⟨by have:=o1.out.1; rwa [Yu] at this,fun i hi=>by
   obtain ⟨a,ha,hc⟩:=SL.cells o1.out (i:=i) (by rw [Yu]; exact hi);rw [YE] at hc;exact ⟨a,ha,hc⟩,fun e X=>(o1.fq e X).Sg⟩
  refine aI (Kv (c:=l11) (B:=h.size) z1 ve (fun e X i hi=>(o1.fq e X).cv hi) hnm ad hS J) ?_;rintro w h2 ⟨e2,hw⟩;rw [EV hkm] at hw;cases hf:dG (fe (dR us LB us)) with
  | some i0 =>
   rw [hf] at hw;subst hw;refine ⟨((none,0,0),(i0:Int),(24:Int),()),rfl,ak ?_⟩;refine bk rfl ?_;have hi0:i0<(et 0 us).length:=by
    have h1:=hf;unfold dG at h1;rw [YX] at h1;obtain ⟨h2,_⟩:=h1
    have:(fe (dR us LB us)).length=(et 0 us).length:=by unfold fe dR; rw [Yu,Yu]
    omega
   exact Qi (lv:=2) (i0:=i0) rfl h0g (e01.trans e2) (b11.an e2 aj) (v.an (e01.trans e2)) hmany (o1.num.bP e2 aj) ad (Yv hi0) fun h' e'=>hk1 h' i0 _ hf (Yv hi0) e'
  | none =>
   rw [hf] at hw;obtain ⟨p',l',c',ns,rfl,on⟩:=hw;refine ⟨((p',l',c'),(0:Int),(0:Int),()),rfl,ak ?_⟩;refine bG rfl ?_;have hin:∀ m,m∈ns->∃ e,e∈ms/\m.name=e.name/\m.x=SM (cy ms) ms.length e.x:=fun m hm=>by
    obtain ⟨j,hj,rfl⟩:=Y0 hm;have hj':j<ms.length:=by rw [<- on.len]; exact hj
    obtain ⟨h1,h2⟩:=on.eq j ms[j] ns[j] (Yv hj') (Yv hj);exact ⟨ms[j],YD hj',h1,h2⟩
   have vn:uf h2 p' l' ns:=⟨by have:=on.out.1; rwa [Yu] at this,fun i hi=>by
    obtain ⟨a,ha,hc⟩:=SL.cells on.out (i:=i) (by rw [Yu]; exact hi);rw [YE] at hc;exact ⟨a,ha,hc⟩,on.fq⟩
   have hkn:ns.map fk=(dR us LB us).map (fun y=>(y.1,eU (fe (dR us LB us)) y.1)):=by
    rw [<- F,YY,F];apply bq9
    ·rw [Yu,Yu,on.len]
    ·intro j h1' h2';rw [Yu] at h1' h2';rw [YE,YE];obtain ⟨h1,h2⟩:=on.eq j ms[j] ns[j] (Yv h2') (Yv h1');have h3:=Q4 hnm (fun e X=>(J e X).num) (YD h2');unfold fk;rw [h1,h2,h3];show _=(ms[j].name,eU (fe (dR us LB us)) ms[j].name);rw [I6 hkm]
   have z2:=e2.size;refine Rx (lv:=2) (S:=S) rfl hga h0g (e01.trans e2) (b11.an e2 aj) (pr1.an e2) (v.an (Ch.refl _ _)) sz hL vn (fun i hi=>by have:=(on.out.cv hi).1; omega) (fun e X i hi=>by have:=(on.low e X i hi).1; omega) (by rw [on.len]; omega) hS (fun e X=>by
    obtain ⟨d,hd,_,hx⟩:=hin e X;rw [hx];exact tg.it J (J d hd) _) hW ?_
   intro h' st sd tw dw e' pr' t' d' i1 i2;exact hk0 h' _ st sd tw dw ns hf hkn e' pr' t' d' i1 i2
theorem zU (u:cd):∀ (l:List cd) (n:Nat),bZ n (l++[u])=bZ n l++F4 (n+l.length) u
 | [],n=>by simp [bZ]
 | y::l,n=>by
  simp only [List.cons_append,bZ,List.length_cons];rw [zU u l (n+1),show n+1+l.length=n+(l.length+1) from ad,YV]
def AL (us:List cd) (i:Nat):(bZ 0 (us.take i)).length<=(bZ 0 us).length:=by
 have key:∀ (a b:List cd) (n:Nat),(bZ n a).length<=(bZ n (a++b)).length:=by
  intro a
  induction a with
  | nil=>intro b n; simp [bZ]
  | cons u a d =>
   intro b n;simp only [List.cons_append,bZ,List.length_append]
   have:=d b (n+1)
   omega
 have:=key (us.take i) (us.drop i) 0
 rwa [Zc] at this
structure No (us:List cd) (S:List Xaa):Prop where
 sz:K9 us
 ef:(bZ 0 us).length<=2^39
 bh:∀ n u,us[n]?=some u->XW us n u
 items:∀ n u,us[n]?=some u->U2 us (bZ 0 us) S n u
 nd:((dR us (bZ 0 us) us).map (·.1)).Nodup
 len:(et 0 us).length<=2^20
 names:S.length<=2^30
 fq:∀ y,y∈dR us (bZ 0 us) us->∀ t,t∈y.2.ai->t.1∈S
def CJ (us:List cd) (su:cr) (w:Xab) (h':Hp):Prop :=
 if (fz us).qF≠0 then w=.tuple #[.pointer none,PC (fz us)]
 else (∃ i q,dG (fe (dR us (bZ 0 us) us))=some i/\(et 0 us)[i]?=some q/\w=.tuple #[.pointer none,PC ⟨24,q.1,q.2.1⟩]) \/
  ∃ g b' lb st sd tw dw ms,dG (fe (dR us (bZ 0 us) us))=none/\w=.tuple #[.pointer (some ⟨g,0,none⟩),PC ⟨0,0,dJ⟩]/\ms.map fk=(dR us (bZ 0 us) us).map (fun y=>(y.1,eU (fe (dR us (bZ 0 us) us)) y.1)) /\
   Bf h' g su lb st sd (bZ 0 us)/\uI h' b' st tw/\uI h' b' sd dw/\yA us (bZ 0 us) ms (·.text) us.length tw/\yA us (bZ 0 us) ms (·.data) us.length dw
def BM {h:Hp} {su:cr} {us:List cd} {S:List Xaa} (v:xS h su.p su.l us) (hC:(fz us).qF=0->No us S):HC Tryz.prog 26 #[.slice su.p su.l su.c] h fun w h'=>Ext h h'/\CJ us su w h':=by
 refine aY (args:=[.slice su.p su.l su.c]) mixed Tryz.func26 az (nX su.p su.l su.c) ?_;unfold ka bf bg bz aK gS bJ bt bm aH bn bq bX aP dl;have hll:=v.len;refine br ?_;intro h1 b1 e1 z1;refine aI (HT (c:=su.c) (v.an e1)) ?_;rintro _ h2 ⟨rfl,e2⟩;refine ⟨(((fz us).qF:Int),((fz us).unit:Int),(fz us).name,()),rfl,ak ?_⟩;have b12:=b1.an e2 aj;have e02:=e1.trans e2;refine br ?_;intro h3 b3 e3 z3;refine aw b3 rfl aj ?_;intro h4 O k4 z4;have O:bI h4 h2.size 75 [.int .i64 ((fz us).qF:Int),.int .i64 ((fz us).unit:Int),.string (fz us).name]:=O;have U:Ext h2 h4:=bQ e3 k4;have d:=e02.trans U;have V:=b12.an U aj;have z2:=e2.size;refine af O (((fz us).qF:Int),()) rfl (ak ?_);refine ar (fun g=>?_) (fun g=>?_)
 ·have g:(fz us).qF≠0:=by
   intro hh;rw [hh] at g;cases g
  refine af O (((fz us).qF:Int),((fz us).unit:Int),(fz us).name,()) rfl (ak ?_);refine ⟨⟨O.cells _ rfl,trivial⟩,?_⟩;refine aw V rfl aj ?_;intro h5 j k5 z5;have j:bI h5 h.size 75 [.int .i64 ((fz us).qF:Int),.int .i64 ((fz us).unit:Int),.string (fz us).name]:=j;refine af j (((fz us).qF:Int),((fz us).unit:Int),(fz us).name,()) rfl ?_;refine ⟨bQ d k5,?_⟩;unfold CJ;rw [YC g] <;> rfl
 ·have g:(fz us).qF=0:=by
   have:(((fz us).qF:Nat):Int)=0:=by simpa using g
   omega
  have C:=hC g;refine br ?_;intro h5 j e5 z5;have j:bI h5 h4.size 81 [su.v,mM.v,mM.v,mM.v]:=j;have v4:=v.an d;have hmany:=C.sz.many;refine aS (cs:=[(false,[.int .i64])]) (fun y k h'=>∃ (i:Nat) (lb:cr),y.1=(i:Int)/\k=us.length-i/\i<=us.length/\Ext h4 h'/\Bf h' h4.size su lb mM mM (bZ 0 (us.take i))) ((0:Int),()) us.length rfl
   ⟨0,mM,rfl,rfl,ad,e5,⟨j,SL.nil _ _ _ _⟩⟩ ?_
  rintro ⟨n8,⟨⟩⟩ k h6 ⟨i,lb,hi,rfl,hle,Z,pr⟩;simp only at hi;subst hi;refine ak ?_;have hw:=gu i;refine aM (fun q=>?_) (fun q=>?_)
  ·have F:i<us.length:=ad
   have X:us.take (i+1)=us.take i++[us[i]]:=Yw F;have hti:(us.take i).length=i:=by rw [YQ]; omega
   obtain ⟨au,sa,sb,sc,sd,Y,G,va⟩:=v4.cells i F;have J:=YD F;generalize us[i]=u at X G va J;have h1t:=C.sz.text u J;have h1d:=C.sz.data u J;have hlt:=AL us i;have hlb:=C.ef;have hl1:=rq i 0 u.text 0;have cu:∀ {h':Hp},Ext h4 h'->aJ h' (au.add (i*4)) 0 [.slice sa.p sa.l sa.c]/\aJ h' ((au.add (i*4)).add 1) 0 [.slice sb.p sb.l sb.c]:=fun e=>⟨⟨(aT e aj _ _ G).1,trivial⟩,⟨by rw [add_add]; exact (aT e aj _ _ G).2.1,trivial⟩⟩
   refine ax ⟨ad,ad⟩ (av Y ?_);rw [show Int.toNat (i:Int)=i from ad];refine ay ((sa.p,sa.l,sa.c),()) (cu Z).1 (ak ?_);refine aI (uM (c:=sa.c) (YI _) Z pr va.text ad i 0) ?_;rintro _ h7 ⟨rfl,e7,z7,lb7,pr7⟩;refine ⟨(),rfl,ak ?_⟩;refine ax ⟨ad,ad⟩ (av Y ?_);refine ay ((sb.p,sb.l,sb.c),()) (cu e7).2 (ak ?_);refine aI (uM (c:=sb.c) (YI _) e7 pr7 va.data (by rw [Yy]; omega) i 1) ?_;rintro _ h8 ⟨rfl,e8,z8,lb8,pr8⟩;refine ⟨(),rfl,ak ?_⟩;refine aG (cs:=[(false,[.int .i64])]) (((i+1:Nat):Int),()) (us.length-(i+1)) rfl ad (YJ (fun z=>[Value.int .i64 z]) hw) ⟨i+1,lb8,rfl,rfl,ad,e8,?_⟩;rw [X,zU,hti,Y7];unfold F4;rw [<- YV];exact pr8
  ·have:i=us.length:=ad
   subst this;rw [Y4] at pr;have e06:=d.trans Z;refine Rj (h0:=h) (S:=S) (by have:=d.size; omega) (YI _) e06 (V.an Z aj) pr v C.sz (by have:=C.ef; omega) C.bh C.items C.nd C.len C.names C.fq (fun h' i q hf hq e'=>⟨e',?_⟩) (fun h' b' st sd tw dw ms hf hms e' pr' t' d' i1 i2=>⟨e',?_⟩)
   ·unfold CJ;rw [Yx ad];exact .inl ⟨i,q,hf,hq,rfl⟩
   ·unfold CJ;rw [Yx ad];exact .inr ⟨_,b',lb,st,sd,tw,dw,ms,hf,rfl,hms,pr',t',d',i1,i2⟩
end Go.Sx.Lk
