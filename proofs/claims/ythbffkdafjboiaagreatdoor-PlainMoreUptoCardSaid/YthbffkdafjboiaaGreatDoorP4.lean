/- Contracts over heaps, part 4. Condition: as each statement says. -/
import Derived.Test.YthbffkdafjboiaaGreatDoorP3
import Derived.Test.YthbffkdafjboiaaGreatDoorBtG
set_option linter.all false
set_option maxRecDepth 100000
set_option maxHeartbeats 4000000
namespace Go.Sx.Lk
open Go.Proofs Go.Sx.Ob
def ux {es:List cK} {s:Xaa} {j:Nat} (h:kr es s=some j):∃ e,es[j]?=some e/\e.name=s:=by
 unfold kr at h;rw [Zs] at h;obtain ⟨u,h1,_⟩:=h;exact ⟨es[j],Y1 u,by simpa using h1⟩
def Rj {es:List cK} (hn:(aZ es).Nodup) {i j:Nat} {d e:cK} (hi:es[i]?=some d) (u:es[j]?=some e) (h:d.name=e.name):i=j:=by
 obtain ⟨h1,rfl⟩:=Zj.1 hi;obtain ⟨h2,rfl⟩:=Zj.1 u;refine (List.getElem_inj (h₀:=by unfold aZ; rw [Y0]; exact h1) (h₁:=by unfold aZ; rw [Y0]; exact h2) hn).1 ?_;unfold aZ;rw [Zb,Zb];exact h
def I1 {es:List cK} (hn:(aZ es).Nodup) {k j:Nat} {e:cK} (J:es[k]?=some e) {t:Xaa × Nat} (O:t∈e.x.ai) (G:kr es t.1=some j):∃ d,es[j]?=some d/\dp es e.name d.name:=by
 obtain ⟨d,U,u⟩:=ux G;refine ⟨d,U,?_,?_⟩
 ·rw [kZ,pQ hn (ZR J)];exact ⟨t,O,u.symm⟩
 ·unfold cy;rw [u,G] <;> rfl
def QB {es:List cK} (hn:(aZ es).Nodup) {k:Nat} {e:cK} (J:es[k]?=some e) {z:Xaa} (h:dp es e.name z):∃ t,t∈e.x.ai/\∃ j d,kr es t.1=some j/\es[j]?=some d/\d.name=z:=by
 obtain ⟨h1,h2⟩:=h;rw [kZ,pQ hn (ZR J)] at h1;obtain ⟨t,O,rfl⟩:=h1;unfold cy at h2;obtain ⟨j,G⟩:=Z0.1 h2;obtain ⟨d,U,u⟩:=ux G;exact ⟨t,O,j,d,G,U,u⟩
structure pn (es:List cK) (i0:Nat) (a:Xaa) (kc i:Nat) (W:List Nat) (sn:List Bool):Prop where
 len:sn.length=es.length
 SB:∀ w,w∈W->∃ e,es[w]?=some e/\pF (dp es) a e.name
 src:sn[i0]?≠some true
 cl:∀ k e,es[k]?=some e->(k=i0\/sn[k]?=some true)->k∉W->∀ m t,e.x.ai[m]?=some t->(k=kc->m<i)->∀ j,kr es t.1=some j->j≠i0/\sn[j]?=some true
variable {es:List cK} {i0 kc i:Nat} {a:Xaa} {W:List Nat} {sn:List Bool}
def pn.start {e:cK} (j:es[i0]?=some e) (G:e.name=a):pn es i0 a es.length 0 [i0] (List.replicate es.length false):=by
 have u:∀ k:Nat,(List.replicate es.length false)[k]?≠some true:=by
  intro k h
  have:=ZR h
  rw [List.mem_replicate] at this;cases this.2
 refine ⟨aj,fun w hw=>?_,u i0,fun k e j h hk=>?_⟩
 ·rw [Zi] at hw;subst hw;exact ⟨e,j,by rw [G]; exact .refl _⟩
 ·rcases h with h | h
  ·subst h; simp at hk
  ·exact absurd h (u k)
def pn.pop (s:pn es i0 a es.length 0 (W++[kc]) sn):pn es i0 a kc 0 W sn/\∃ e,es[kc]?=some e/\pF (dp es) a e.name:=by
 refine ⟨⟨s.len,fun w hw=>s.SB w (by simp [hw]),s.src,fun k e G h hk m t J hm j O=>?_⟩,s.SB kc aj⟩
 by_cases u:k=kc
 ·exact absurd (hm u) ad
 ·refine s.cl k e G h (by simp [hk,u]) m t J (fun U=>?_) j O;obtain ⟨hl,_⟩:=Zj.1 G;omega
def pn.skip (s:pn es i0 a kc i W sn) {e:cK} (V:es[kc]?=some e) {t:Xaa × Nat} (X:e.x.ai[i]?=some t) (h:∀ j,kr es t.1=some j->j≠i0/\sn[j]?=some true):pn es i0 a kc (i+1) W sn:=by
 refine ⟨s.len,s.SB,s.src,fun k d J Y hk m u hu hm j U=>?_⟩
 by_cases hc:k=kc/\m=i
 ·obtain ⟨rfl,rfl⟩:=hc;rw [V] at J;cases J;rw [X] at hu;cases hu;exact h j U
 ·refine s.cl k d J Y hk m u hu (fun G=>?_) j U
  have:=hm G
  have:m≠i:=fun O=>hc ⟨G,O⟩
  omega
def pn.push (s:pn es i0 a kc i W sn) (hn:(aZ es).Nodup) {e:cK} (he:es[kc]?=some e) (hr:pF (dp es) a e.name) {t:Xaa × Nat} (ht:e.x.ai[i]?=some t) {j:Nat} (hj:kr es t.1=some j) (h0:j≠i0) :
  pn es i0 a kc (i+1) (W++[j]) (sn.set j true):=by
 obtain ⟨d,hd,V⟩:=I1 hn he (ZR ht) hj;obtain ⟨X,_⟩:=Zj.1 hd;have J:(sn.set j true)[j]?=some true:=by rw [bj9 (by rw [s.len]; exact X)]
 have Y:∀ x:Nat,sn[x]?=some true->(sn.set j true)[x]?=some true:=by
  intro x hx
  by_cases O:j=x
  ·subst O; exact J
  ·rw [ap9 O]; exact hx
 refine ⟨by rw [Z5]; exact s.len,fun w hw=>?_,by rw [ap9 h0]; exact s.src,fun k f Z hh hk m u hu hm j' G=>?_⟩
 ·rw [Zk,Zi] at hw;rcases hw with hw | rfl
  ·exact s.SB w hw
  ·exact ⟨d,hd,hr.trans (.one V)⟩
 ·rw [Zk,Zi] at hk;have hkj:j≠k:=fun e=>hk (Or.inr e.symm)
  rw [ap9 hkj] at hh
  by_cases hc:k=kc/\m=i
  ·obtain ⟨rfl,rfl⟩:=hc;rw [he] at Z;cases Z;rw [ht] at hu;cases hu;rw [hj] at G;cases G;exact ⟨h0,J⟩
  ·obtain ⟨h1,h2⟩:=s.cl k f Z hh (fun hx=>hk (Or.inl hx)) m u hu (fun U=>by
    have:=hm U
    have:m≠i:=fun hmi=>hc ⟨U,hmi⟩
    omega) j' G
   exact ⟨h1,Y _ h2⟩
def pn.done (s:pn es i0 a kc i W sn) {e:cK} (O:es[kc]?=some e) (hi:e.x.ai.length<=i):pn es i0 a es.length 0 W sn:=by
 refine ⟨s.len,s.SB,s.src,fun k d G U hk m u hu hm j V=>s.cl k d G U hk m u hu (fun J=>?_) j V⟩;subst J;rw [O] at G;cases G;obtain ⟨hl,_⟩:=Zj.1 hu;omega
def pn.no (s:pn es i0 a es.length 0 [] sn) (hn:(aZ es).Nodup) {e:cK} (u:es[i0]?=some e) (V:e.name=a):¬ kq (dp es) a:=by
 have G:∀ k e,es[k]?=some e->(k=i0\/sn[k]?=some true)->∀ z,dp es e.name z->∃ j d,es[j]?=some d/\d.name=z/\j≠i0/\sn[j]?=some true:=by
  intro k e u h z X;obtain ⟨t,Y,j,d,Z,J,O⟩:=QB hn u X;obtain ⟨m,hm⟩:=List.getElem?_of_mem Y;obtain ⟨hkl,_⟩:=Zj.1 u;obtain ⟨h1,h2⟩:=s.cl k e u h aj m t hm (fun hh=>ad) j Z;exact ⟨j,d,J,O,h1,h2⟩
 have key:∀ y z,pF (dp es) y z->z=a->(∃ j d,es[j]?=some d/\d.name=y/\j≠i0/\sn[j]?=some true)->False:=by
  intro y z r
  induction r with
  | refl y =>
   rintro rfl ⟨j,d,J,U,h1,_⟩;exact h1 (Rj hn J u (U.trans V.symm))
  | head hE r ih =>
   rintro rfl ⟨j,d,J,rfl,h1,h2⟩;exact ih rfl (G j d J (Or.inr h2) _ hE)
 rintro ⟨y,hy,r⟩;rw [<- V] at hy;exact key y a r rfl (G i0 e u (Or.inl rfl) y hy)
def QF (hn:(aZ es).Nodup) {e:cK} (G:es[kc]?=some e) (J:pF (dp es) a e.name) {t:Xaa × Nat} (O:t∈e.x.ai) {d:cK} (U:es[i0]?=some d) (V:d.name=a) (X:kr es t.1=some i0):kq (dp es) a:=by
 obtain ⟨d',u,j⟩:=I1 hn G O X;rw [U] at u;cases u;rw [V] at j;cases J with
 | refl _=>exact ⟨_,j,.refl _⟩
 | head h1 h2=>exact ⟨_,h1,h2.trans (.one j)⟩
def TD:Tryz.prog.underlying 223=some (.slice 4):=ax
def WK:(Tryz.prog.info? 4).map (fun i=>(i.zero,i.size,i.bytes))=some (some (.bool false),1,1):=ax
def C9:Tryz.prog.underlying 31=some (.slice 3):=ax
def Rc:(Tryz.prog.info? 3).map (fun i=>(i.zero,i.size,i.bytes))=some (some (.int .i64 0),1,8):=ax
def R3 (b:Bool):List Xab:=[.bool b]
def KV (n:Nat):List Xab:=[.int .i64 (n:Int)]
def Ni {α:Type} (f:α->Xab) (l:List α):(l.map fun x=>[f x]).flatten=l.map f:=by
 induction l with
 | nil=>rfl
 | cons a l j=>rw [ZF,bg9,j]; rfl
def WE {h:Hp} {g:Nat} {e:TypeId} {sz:Nat} {cells:List Xab} (xs:List (List Xab)) (b:bF h g e cells) (hc:cells=xs.flatten) (hl:∀ x,x∈xs->x.length=sz) (hn:xs.length<9223372036854775808):SL h g e sz (some ⟨g,0,none⟩) xs.length xs.length xs:=by
 subst hc;exact ⟨rfl,hl,g,[],[],rfl,Zh _,⟨Zh _,hn⟩,by simpa using b,aj⟩
def DN (n:Int):Instr.fill (fun j=>some (j*1,1)) ((Array.range (1*1)).map ((Value.int .i64 0).cells[· % (Value.int .i64 0).cells.size]!)) [(0,.int .i64 n)]=some ([.int .i64 n]:List Xab).toArray:=ax
def MG {L:Lp} {K:Xab->Hp->Prop} {h:Hp} {n:Nat} (hn:n<=2^40) {k:Xac->Nat->Nat->T} (hk:∀ h',SL h' h.size 4 1 (some ⟨h.size,0,none⟩) n n ((List.replicate n false).map R3)->Ext h h'->h'.size=h.size+1->k (some ⟨h.size,0,none⟩) n n L K h') :
  T.eh Tryz.prog (Instr.makeSlice 223 (.int .i64 (n:Int)) (.int .i64 (n:Int))) false [(false,[.slice 0])] k L K h:=by
 obtain ⟨i5,j,u,G,J⟩:=oK WK;refine dz (pJ (l:=n) (c:=n) TD j u (Zh _) (by rw [J]; omega) ad ?_);intro h14 O U V;refine ⟨_,_,_,rfl,hk h14 ?_ U V⟩;have hc:(List.range (n*i5.size)).map ((Value.bool false).cells[· % (Value.bool false).cells.size]!)=((List.replicate n false).map R3).flatten:=by
  rw [G,Nat.mul_one];show _=((List.replicate n false).map fun b=>[Value.bool b]).flatten;rw [Ni];apply cm9
  ·simp
  ·intro i h1 h2;rw [Zb,Zb,List.getElem_replicate];show (#[Value.bool false]:Array Xab)[((List.range n)[i]'(by simpa using h1)) % 1]! = _;rw [Nat.mod_one] <;> rfl
 have:=WE ((List.replicate n false).map R3) O hc (fun x hx=>by obtain ⟨b,_,rfl⟩:=Za.1 hx; rfl) (by simp; omega)
 rw [Y0,List.length_replicate] at this;exact this
def nF (sn:List Bool):Nat:=sn.count false
theorem M1:∀ (sn:List Bool) (j:Nat),sn[j]?=some false->nF (sn.set j true)+1=nF sn
 | [],j,h=>by simp at h
 | b::l,0,h=>by
  simp at h;subst h;simp [nF]
 | b::l,j+1,h=>by
  have u:=M1 l j (by simpa using h);unfold nF at u ⊢;rw [List.set_cons_succ,List.count_cons,List.count_cons];omega
def Pu (sn:List Bool) (j:Nat):(sn.map R3).set j [.bool true]=(sn.set j true).map R3:=by rw [ca9]; rfl
def Lu (p:Xac) (c:Nat):(if c=0 then p else Option.map (fun a=>Addr.add a 0) p)=p:=by
 split
 ·rfl
 ·cases p with
  | none=>rfl
  | some a=>show some (a.add 0)=some a; rw [add_zero']
open Classical in
def PW {h:Hp} {p:Xac} {l c:Nat} {es:List cK} (v:tQ h p l es) (hn:(aZ es).Nodup) (hl:es.length<=2^40) (ht:∀ e,e∈es->e.x.ai.length<=2^40) {i0:Nat} {e0:cK} (he0:es[i0]?=some e0) :
  HC Tryz.prog 100 #[.slice p l c,.int .i64 (i0:Int),.int .i64 (i0:Int)] h fun w h'=>Ext h h'/\w=.bool (decide (kq (dp es) e0.name)):=by
 refine bd (args:=[.slice p l c,.int .i64 (i0:Int),.int .i64 (i0:Int)]) mixed Tryz.func100 ax (pz p l c i0 i0) ?_;unfold kN bf bk bH aP cH br bt bI dP aR cn dh;obtain rfl:=v.len;obtain ⟨hi0,_⟩:=Zj.1 he0;refine MG hl ?_;intro h1 sB1 e1 z1;refine km C9 Rc ad ad (DN _) ?_;intro h2 b2 e2 z2;have sW2:SL h2 h1.size 3 1 (some ⟨h1.size,0,none⟩) 1 1 ([i0].map KV):=WE [[.int .i64 (i0:Int)]] b2 rfl aj aj;have sB2:=sB1.bM e2 aj;have e02:=e1.trans e2;refine aX (cs:=[(false,[.bool]),(false,[.slice 0])]) (fun y m h'=>∃ (W:List Nat) (sn:List Bool),m=nF sn+W.length/\m<=es.length+1/\Ext h h'/\h1.size<=h'.size/\SL h' h.size 4 1 (some ⟨h.size,0,none⟩) es.length es.length (sn.map R3)/\SL h' h1.size 3 1 y.2.1.1 y.2.1.2.1 y.2.1.2.2 (W.map KV)/\pn es i0 e0.name es.length 0 W sn)
  (false,(some ⟨h1.size,0,none⟩,1,1),()) _ rfl ⟨[i0],List.replicate es.length false,rfl,by simp [nF],e02,ad,sB2,sW2,pn.start he0 rfl⟩ ?_
 rintro ⟨b9,⟨p10,l11,l12⟩,⟨⟩⟩ m h3 ⟨W,sn,rfl,hM,e3,z3,sB3,V,I3⟩;simp only at V;refine an ?_;have X:l11=W.length:=by have:=V.1; rwa [Y0] at this
 have hWn:∀ w,w∈W->w<es.length:=fun w hw=>by
  obtain ⟨e,he,_⟩:=I3.SB w hw;exact (Zj.1 he).1
 refine aQ (fun g1=>?_) (fun g1=>?_)
 ·rcases List.eq_nil_or_concat W with rfl | ⟨U,kc,rfl⟩
  ·simp at X; omega
  ·rw [List.concat_eq_append] at X V I3 hWn hM;have hM':nF sn+(U.length+1)<=es.length+1:=by simpa using hM
   have X:l11=U.length+1:=by simpa using X
   subst X;obtain ⟨I4,e,he,hr⟩:=I3.pop;have hkc:=(Zj.1 he).1;have hem:=ZR he;have hw1:IntKind.wrap .i64 (((U.length+1:Nat):Int)-1)=(U.length:Int):=by rw [wrap_i64 ad ad]; omega
   obtain ⟨a,rfl,hc⟩:=SL.cells V (i:=U.length) aj;have hc:aI h3 (a.add (U.length*1)) 0 [.int .i64 (kc:Int)]:=by simpa [KV] using hc
   rw [hw1,show Int.toNat (U.length:Int)=U.length from ad];refine ay ⟨ad,ad⟩ (aw rfl ?_);refine az ((kc:Int),()) hc (an ?_);have hcap:U.length+1<=l12:=by
    obtain ⟨g,pre,rest,_,_,hlc,_⟩:=V.2.2;exact hlc.1
   refine ay ⟨ad,ad,ad⟩ ?_;rw [Lu,cx9,cx9];have sW4:=SL.take V (k:=U.length) ad;rw [<- List.map_take,bw9] at sW4;have hte:=ht e hem;refine aX (cs:=[(false,[.bool]),(false,[.slice 0]),(false,[.int .i64])]) (fun y m h'=>∃ (W:List Nat) (u:List Bool) (i:Nat),y.2.2.1=(i:Int)/\i<=e.x.ai.length/\m=e.x.ai.length-i/\nF u+W.length+1=nF sn+(U.length+1)/\Ext h h'/\h1.size<=h'.size /\
    SL h' h.size 4 1 (some ⟨h.size,0,none⟩) es.length es.length (u.map R3)/\SL h' h1.size 3 1 y.2.1.1 y.2.1.2.1 y.2.1.2.2 (W.map KV)/\pn es i0 e0.name kc i W u)
    (b9,(some a,U.length,l12),(0:Int),()) _ rfl ⟨U,sn,0,rfl,ad,rfl,ad,e3,z3,sB3,sW4,I4⟩ ?_
   rintro ⟨J,⟨p16,l17,Y⟩,n19,⟨⟩⟩ m5 h5 ⟨W,u,i,hi,hile,rfl,hMM,e5,z5,Z,O,I5⟩;simp only at hi O;subst hi;refine an ?_;have hl17:l17=W.length:=by have:=O.1; rwa [Y0] at this
   subst hl17;have v5:=v.ak e5;obtain ⟨ae,rfl,hce⟩:=v5.cells kc hkc;have hek:es[kc]=e:=(Zj.1 he).2;rw [hek] at hce;have vt:=v5.fw e hem;have hll:=vt.len;have hw:=iA i;have hsl:aI h5 ((ae.add (kc*3)).add 1) 0 [.slice e.p e.l e.c]:=⟨by rw [add_add]; exact hce.2.1,trivial⟩
   refine ay ⟨ad,ad⟩ (aw rfl ?_);rw [show Int.toNat (kc:Int)=kc from ad];refine az ((e.p,e.l,e.c),()) hsl (an ?_);refine aQ (fun g2=>?_) (fun g2=>?_)
   ·have hil:i<e.x.ai.length:=ad
    refine ay ⟨ad,ad⟩ (aw rfl ?_);refine az ((e.p,e.l,e.c),()) hsl (an ?_);obtain ⟨at',hp',hct⟩:=vt.cells i hil;have hti:e.x.ai[i]?=some e.x.ai[i]:=Y1 hil;have htm:=Y9 hil;generalize e.x.ai[i]=t at hct hti htm;refine ay ⟨ad,ad⟩ (aw hp' ?_);rw [show Int.toNat (i:Int)=i from ad];refine az (t.1,()) ⟨hct.1,trivial⟩ (an ?_);refine ka (E0 v5 ad t.1) ?_;refine av (fun g3=>?_) (fun g3=>?_)
    ·have g3:QL (kr es t.1)=(i0:Int):=by simpa using g3
     have hj:kr es t.1=some i0:=by
      cases G:kr es t.1 with
      | none=>rw [G] at g3; exact absurd g3 (by show ¬ ((-1:Int)=_); omega)
      | some j =>
       rw [G] at g3
       have:(j:Int)=i0:=g3
       rw [show j=i0 from ad]
     refine ⟨e5,?_⟩;rw [Y6 (QF hn he hr htm he0 rfl hj)]
    ·have g3:¬ QL (kr es t.1)=(i0:Int):=by simpa using g3
     cases G:kr es t.1 with
     | none =>
      refine bP (by show decide ((-1:Int)>=0)=false; decide) ?_;refine aH (cs:=[(false,[.bool]),(false,[.slice 0]),(false,[.int .i64])]) (J,(p16,W.length,Y),((i+1:Nat):Int),()) (e.x.ai.length-(i+1)) rfl ad (Zl (fun z=>[Value.bool J,.slice p16 W.length Y,Value.int .i64 z]) hw)
       ⟨W,u,i+1,rfl,ad,rfl,hMM,e5,z5,Z,O,I5.skip he hti (fun j hj=>by rw [G] at hj; cases hj)⟩
     | some j =>
      rw [G] at g3;have hj0:j≠i0:=fun hh=>g3 (by rw [hh]; rfl)
      obtain ⟨d,hd,_⟩:=ux G;have hjl:=(Zj.1 hd).1;refine bC (Y6 (show (0:Int)<=((j:Nat):Int) from ad)) ?_;have hjs:j<u.length:=by rw [I5.len]; exact hjl
      obtain ⟨ab,hab,hcb⟩:=SL.cells Z (i:=j) (by rw [Y0]; exact hjs);rw [Zb] at hcb;refine ay ⟨by show (0:Int)<=(j:Int); omega,by show (j:Int)<_; omega⟩ (aw hab ?_);rw [show Int.toNat (QL (some j))=j from Int.toNat_natCast j];refine az (u[j],()) hcb (an ?_);have hjg:u[j]?=some u[j]:=Y1 hjs;cases hb:u[j] with
      | true =>
       rw [hb] at hjg;refine bP rfl ?_;refine aH (cs:=[(false,[.bool]),(false,[.slice 0]),(false,[.int .i64])]) (J,(p16,W.length,Y),((i+1:Nat):Int),()) (e.x.ai.length-(i+1)) rfl ad (Zl (fun z=>[Value.bool J,.slice p16 W.length Y,Value.int .i64 z]) hw)
        ⟨W,u,i+1,rfl,ad,rfl,hMM,e5,z5,Z,O,I5.skip he hti (fun j' hj=>by rw [G] at hj; cases hj; exact ⟨hj0,hjg⟩)⟩
      | false =>
       rw [hb] at hjg;refine bC rfl ?_;refine ay ⟨by show (0:Int)<=(j:Int); omega,by show (j:Int)<_; omega⟩ (aw hab ?_);refine SL.store (P:=Tryz.prog) Z (i:=j) (by rw [Y0]; exact hjs) (vs:=[.bool true]) rfl rfl hab ?_;intro h6 sB6 k6 z6;rw [Pu] at sB6;have hbb:∀ q,q∈aM (some (⟨h.size,0,none⟩:Xax))->q=h.size:=fun q G=>by simpa [aM] using G
       have sW6:=O.bM k6 (fun q G hm=>by have:=(O.cr G).1; have:=hbb q hm; omega);have e6:Ext h h6:=Ch.trans e5 k6 (fun q G hl=>by have:=hbb q G; omega);refine mz (vs:=KV j) C9 Rc rfl ad ad (DN _) rfl rfl sW6 ad ad ad ?_;intro p' c' h7 sW7 k7 hp7;have e7:Ext h h7:=Ch.trans e6 k7 (fun q G hl=>by have:=(sW6.cr G).1; omega);have sB7:=sB6.bM k7 (fun q G hm=>by have:=hbb q G; have:=(sW6.cr hm).1; omega);have hnf:=M1 u j hjg;refine aH (cs:=[(false,[.bool]),(false,[.slice 0]),(false,[.int .i64])]) (J,(p',W.length+1,c'),((i+1:Nat):Int),()) (e.x.ai.length-(i+1)) rfl ad (Zl (fun z=>[Value.bool J,.slice p' (W.length+1) c',Value.int .i64 z]) hw)
        ⟨W++[j],u.set j true,i+1,rfl,ad,rfl,by rw [Y4]; show nF (u.set j true)+(W.length+1)+1=_; omega,e7,by have:=k7.size; omega,sB7,by rw [Ze]; exact sW7,I5.push hn he hr hti G hj0⟩
   ·refine aH (cs:=[(false,[.bool]),(false,[.slice 0])]) (J,(p16,W.length,Y),()) (nF u+W.length) rfl (by rw [List.concat_eq_append,Y4]; show nF u+W.length<nF sn+(U.length+1); omega) rfl ⟨W,u,rfl,ad,e5,z5,Z,O,I5.done he ad⟩
 ·have hW:W=[]:=bi9.1 ad;subst hW;refine ⟨e3,?_⟩;rw [Y7 (I3.no hn he0 rfl)]
noncomputable def T3 (es:List cK) (i:Nat):Bool:=by
 classical
 exact decide (∃ e,es[i]?=some e/\kq (dp es) e.name)
def CA {es:List cK} {i:Nat} {e:cK} (u:es[i]?=some e) {d:Decidable (kq (dp es) e.name)}:decide (kq (dp es) e.name)=T3 es i:=by
 unfold T3;refine ci9.2 ⟨fun h=>⟨e,u,h⟩,?_⟩;rintro ⟨e',j,h⟩;rw [u] at j;cases j;exact h
noncomputable def lG (es:List cK) (n:Nat):List Nat:=(List.range n).filter (T3 es)
def GD (es:List cK) (i:Nat):lG es (i+1)=lG es i++if T3 es i=true then [i] else []:=by
 unfold lG;rw [cs9,List.filter_append]
 congr 1
 by_cases h:T3 es i=true <;> simp [h]
def JC (es:List cK) (i:Nat):(lG es i).length<=i:=by
 unfold lG
 have:=Z8 (T3 es) (List.range i)
 simpa using this
def NV {h:Hp} {p:Xac} {l c:Nat} {es:List cK} (v:tQ h p l es) (hn:(aZ es).Nodup) (hl:es.length<=2^40) (X:∀ e,e∈es->e.x.ai.length<=2^40) :
  HC Tryz.prog 76 #[.slice p l c] h fun w h'=>Ext h h'/\∃ p' l' c',w=.slice p' l' c'/\SL h' h.size 3 1 p' l' c' ((lG es es.length).map KV):=by
 refine bd (args:=[.slice p l c]) mixed Tryz.func76 ax (oG p l c) ?_;unfold j6 bk bH aY br bj aR dh;have Y:=v.len;refine aX (cs:=[(false,[.slice 0]),(false,[.int .i64])]) (fun y m h'=>∃ i:Nat,y.2.1=(i:Int)/\m=es.length-i/\i<=es.length/\Ext h h'/\SL h' h.size 3 1 y.1.1 y.1.2.1 y.1.2.2 ((lG es i).map KV)) ((none,0,0),(0:Int),()) es.length rfl
  ⟨0,rfl,rfl,ad,Ch.refl _ _,SL.nil _ _ _ _⟩ ?_
 rintro ⟨⟨p1,G,J⟩,n4,⟨⟩⟩ m h1 ⟨i,hi,rfl,Z,e1,s1⟩;simp only at hi s1;subst hi;refine an ?_;have hl1:G=(lG es i).length:=by have:=s1.1; rwa [Y0] at this
 have hbl:=JC es i;refine aQ (fun q=>?_) (fun q=>?_)
 ·have O:i<es.length:=ad
  have hw:=iA i;have V:=Y1 O;have u:=GD es i;refine aJ (PW (c:=c) (v.ak e1) hn hl X V) ?_;rintro _ h2 ⟨e2,rfl⟩;rw [CA V];refine ⟨(T3 es i,()),rfl,an ?_⟩;have U:=s1.bM e2 aj;refine av (fun r=>?_) (fun r=>?_)
  ·rw [Y8 r] at u
   have:=(e1.trans e2).size
   refine mz (vs:=KV i) C9 Rc rfl ad ad (DN _) rfl rfl U ad ad ad ?_;intro p' c' h3 s3 k3 hp3;refine aH (cs:=[(false,[.slice 0]),(false,[.int .i64])]) ((p',G+1,c'),((i+1:Nat):Int),()) (es.length-(i+1)) rfl ad (Zl (fun z=>[Value.slice p' (G+1) c',Value.int .i64 z]) hw) ?_;exact ⟨i+1,rfl,rfl,ad,Ch.trans (e1.trans e2) k3 (fun j hj hl=>by have:=(U.cr hj).1; omega),by rw [u,Ze]; exact s3⟩
  ·rw [Y2 (by rw [r]; simp),ZQ] at u;refine aH (cs:=[(false,[.slice 0]),(false,[.int .i64])]) ((p1,G,J),((i+1:Nat):Int),()) (es.length-(i+1)) rfl ad (Zl (fun z=>[Value.slice p1 G J,Value.int .i64 z]) hw) ?_;exact ⟨i+1,rfl,rfl,ad,e1.trans e2,by rw [u]; exact U⟩
 ·have:i=es.length:=ad
  subst this;exact ⟨e1,p1,G,J,rfl,s1⟩
noncomputable def dE (es:List cK):Option Nat:=by
 classical
 exact es.findIdx? fun e=>decide (kq (dp es) e.name)
def Hv {es:List cK} {i:Nat} {r:List Nat} (h:lG es es.length=i::r):i<es.length/\dE es=some i:=by
 unfold lG at h;obtain ⟨u,O,h1,h2,h3,_⟩:=List.filter_eq_cons_iff.1 h;have J:es.length=u.length+(O.length+1):=by
  have:=Zl List.length h1
  simpa using this
 have G:u.length=i:=by
  have:=Zl (fun l:List Nat=>l[u.length]?) h1
  simp only [List.getElem?_append_right (Nat.le_refl _),Nat.sub_self,List.getElem?_cons_zero] at this;rw [am9 ad] at this;exact Zn this
 subst G;have hb:u.length<es.length:=ad
 refine ⟨hb,?_⟩;unfold dE;rw [Zs];refine ⟨hb,?_,fun j U=>?_⟩
 ·rw [CA (Y1 hb)];exact h3
 ·rw [CA (Y1 ad)];refine h2 j ?_
  have:=Zl (fun l:List Nat=>l[j]?) h1
  simp only [List.getElem?_append_left U] at this;rw [am9 ad] at this;exact ZR this.symm
def JQ {es:List cK} (h:lG es es.length=[]):dE es=none:=by
 unfold lG at h;unfold dE;rw [ZB];intro e j;obtain ⟨i,hi⟩:=List.getElem?_of_mem j;rw [CA hi]
 have:=List.filter_eq_nil_iff.1 h i (aw9.2 (Zj.1 hi).1)
 simpa using this
def Sf (of:Xaa->Option ct):Nat->ct->ct
 | 0,x=>x
 | t+1,x=>de of (Sf of t x)
theorem sC (of:Xaa->Option ct):∀ (l:dc) (n:Nat),n<4294967296->l.foldl (gh of) n<4294967296
 | [],n,h=>h
 | t::l,n,h=>by
  rw [ZH];refine sC of l _ ?_;unfold gh;split
  ·exact h
  ·exact ct9 _ bZ
structure sP (S:List Xaa) (x:ct):Prop where
 nf:Nf x.ai
 num:x.num<4294967296
 fw:∀ t,t∈x.ai->t.1∈S
def sP.put {S:List Xaa} {es:List cK} (j:∀ e,e∈es->sP S e.x) {x:ct} (h:sP S x):sP S (de (cw es) x) :=
 ⟨eX _ _,sC _ _ _ h.num,Iv h.fw fun e u=>(j e u).fw⟩
theorem sP.it {S:List Xaa} {es:List cK} (j:∀ e,e∈es->sP S e.x) {x:ct} (h:sP S x):∀ t,sP S (Sf (cw es) t x)
 | 0=>h
 | t+1=>(sP.it j h t).put j
structure Qc (B:Nat) (h0 h':Hp) (p:Xac) (l c:Nat) (es ms:List cK) (f:Nat->Nat):Prop where
 out:SL h' h0.size 100 3 p l c (ms.map zD)
 len:ms.length=es.length
 eq:∀ j e m,es[j]?=some e->ms[j]?=some m->m.name=e.name/\m.x=Sf (cw es) (f j) e.x
 fw:∀ m,m∈ms->gW h' m.p m.l m.x.ai
 low:∀ m,m∈ms->∀ i,i∈aM m.p->(B<=i/\i<h'.size)/\i∉aM p
def PE (ms:List cK) (i:Nat) (m:cK):(ms.map zD).set i (zD m)=(ms.set i m).map zD:=by rw [ca9]
def P4 {h:Hp} {p:Xac} {l:Nat} {es:List cK} (v:tQ h p l es):(p=none/\es.map zD=[])\/∃ a,p=some a/\aI h a 0 (es.map zD).flatten:=by
 cases p with
 | none =>
  refine .inl ⟨rfl,?_⟩;cases es with
  | nil=>rfl
  | cons e es =>
   obtain ⟨a,j,_⟩:=v.cells 0 aj;cases j
 | some a =>
  refine .inr ⟨a,rfl,?_⟩
  have:=fR (h:=h) (a:=a) (sz:=3) (es.map zD) 0 (fun x hx=>by obtain ⟨e,_,rfl⟩:=Za.1 hx; rfl) (fun i hi=>by
   obtain ⟨a',j,hc⟩:=v.cells i (by simpa using hi);cases j;rw [Zb,ZJ];exact hc)
  rwa [ck9] at this
def J9 (e:cK):(zD e).all cO=true:=by unfold zD; simp [cO]
def GU (es:List cK):(es.map zD).flatten.all cO=true:=by
 rw [Zx];intro x hx;obtain ⟨l,hl,j⟩:=by9.1 hx;obtain ⟨e,_,rfl⟩:=Za.1 hl;exact Zx.1 (J9 e) x j
def Kb {h:Hp} {p:Xac} {l c:Nat} {es:List cK} {B:Nat} (hB:B<=h.size) (v:tQ h p l es) (hb:∀ e,e∈es->∀ i,i∈aM e.p->B<=i/\i<h.size) (hn:(aZ es).Nodup) (hl:es.length<=2^30) {S:List Xaa} (hS:S.length<=2^30) (V:∀ e,e∈es->sP S e.x) :
  HC Tryz.prog 52 #[.slice p l c] h fun w h'=>Ext h h'/\match dE es with
   | some i=>w=.tuple #[.slice none 0 0,.int .i64 (i:Int),.int .i64 24]
   | none=>∃ p' l' c' ms,w=.tuple #[.slice p' l' c',.int .i64 0,.int .i64 0]/\Qc B h h' p' l' c' es ms (fun _=>es.length):=by
 refine bd (args:=[.slice p l c]) mixed Tryz.func52 ax (nt p l c) ?_;unfold jf bf bk bH aP bK br iP aG bn bj aR;have hll:=v.len;have hlt:∀ e,e∈es->e.x.ai.length<=2^40:=fun e X=>by have:=zI (V e X).nf (V e X).fw; omega
 refine aJ (NV (c:=c) v hn ad hlt) ?_;rintro _ h1 ⟨e1,p1,l1,c1,rfl,s1⟩;refine ⟨((p1,l1,c1),()),rfl,an ?_⟩;have hl1:l1=(lG es es.length).length:=by have:=s1.1; rwa [Y0] at this
 refine aQ (fun g=>?_) (fun g=>?_)
 ·cases Y:lG es es.length with
  | nil=>rw [Y] at hl1; simp at hl1; omega
  | cons i r =>
   obtain ⟨hi,hf⟩:=Hv Y;obtain ⟨a,rfl,hc⟩:=SL.cells s1 (i:=0) (by rw [Y0,Y]; simp);have hc:aI h1 a 0 [.int .i64 (i:Int)]:=by
    rw [Zb,ck9,add_zero'] at hc;simp only [Y,List.getElem_cons_zero] at hc;exact hc
   refine ay ⟨ad,ad⟩ (aw rfl ?_);refine az ((i:Int),()) hc (an ?_);refine ⟨⟨hc,trivial⟩,e1,?_⟩;rw [hf]
 ·have hbn:lG es es.length=[]:=bi9.1 ad;rw [JQ hbn];refine lU (ys:=es.map zD) BU Kw rfl (P4 (v.ak e1)) (by rw [Y0]; exact hll) (fun y hy=>by obtain ⟨e,_,rfl⟩:=Za.1 hy; rfl) (GU es) ad ad ?_;intro p2 c2 h2 s2 e2;have z1:=e1.size;have e02:=e1.trans e2;have o0:Qc B h h2 p2 l c2 es es fun _=>0:=⟨s2.mono z1,rfl,fun j e m X hm=>by rw [X] at hm; cases hm; exact ⟨rfl,rfl⟩,fun m hm=>(v.fw m hm).ak e02 aj,fun m hm i hi=>by
   have h1:=hb m hm i hi
   have:=e02.size
   exact ⟨⟨h1.1,ad⟩,fun hh=>by have:=(s2.cr hh).1; omega⟩⟩
  refine aX (cs:=[(false,[.int .i64])]) (fun y m h'=>∃ (t:Nat) (ms:List cK),y.1=(t:Int)/\m=es.length-t/\t<=es.length/\Ext h h'/\Qc B h h' p2 l c2 es ms fun _=>t) ((0:Int),()) es.length rfl ⟨0,es,rfl,rfl,ad,e02,o0⟩ ?_;rintro ⟨n10,⟨⟩⟩ m3 h3 ⟨t,ms,hi,rfl,hle,e3,o3⟩;simp only at hi;subst hi;refine an ?_;refine aQ (fun q=>?_) (fun q=>?_)
  ·have hwt:=iA t;refine aX (cs:=[(false,[.int .i64])]) (fun y m h'=>∃ (i:Nat) (ms:List cK),y.1=(i:Int)/\m=es.length-i/\i<=es.length/\Ext h h'/\Qc B h h' p2 l c2 es ms fun j=>if j<i then t+1 else t) ((0:Int),()) es.length rfl ⟨0,ms,rfl,rfl,ad,e3,by simpa using o3⟩ ?_;rintro ⟨n11,⟨⟩⟩ m4 h4 ⟨i,G,hi,rfl,hle4,e4,J⟩;simp only at hi;subst hi;refine an ?_;refine aQ (fun r=>?_) (fun r=>?_)
   ·have Z:i<es.length:=ad
    have O:i<G.length:=by rw [J.len]; exact Z
    have hwi:=iA i;obtain ⟨a,rfl,hc⟩:=SL.cells J.out (i:=i) (by rw [Y0]; exact O);rw [Zb] at hc;obtain ⟨hnm,hx⟩:=J.eq i es[i] G[i] (Y1 Z) (Y1 O);have hmm:=Y9 O;have hemm:=Y9 Z;have vm:=J.fw _ hmm;have lm:=J.low _ hmm;rw [Y2 ad] at hx;have hmi:G[i]?=some G[i]:=Y1 O;have hei:es[i]?=some es[i]:=Y1 Z;generalize G[i]=m at hc hnm hx hmm vm lm hmi;generalize es[i]=e at hnm hx hemm hei;have hsx:sP S m.x:=by rw [hx]; exact sP.it V (V e hemm) t
    refine ay ⟨ad,ad⟩ (aw rfl ?_);rw [show Int.toNat (i:Int)=i from ad];refine az ((m.p,m.l,m.c),(m.x.num:Int),()) ⟨by rw [add_add]; exact hc.2.1,by rw [add_add]; exact hc.2.2.1,trivial⟩ ?_;refine an ?_;have z4:=e4.size;refine aJ (IL (c:=m.c) (d:=c) vm (v.ak e4) (fun j U=>(lm j U).1.2) (fun e X j U=>by have:=hb e X j U; omega) ad hsx.nf hsx.num (fun e X=>(V e X).nf) hS hsx.fw fun e X=>(V e X).fw) ?_;rintro _ h5 ⟨e5,p5,l5,c5,rfl,s5⟩;refine ⟨((p5,l5,c5),((de (cw es) m.x).num:Int),()),rfl,an ?_⟩;have z5:=e5.size;refine ay ⟨ad,ad⟩ (aw rfl ?_);have so:=J.out.bM e5 aj;refine SL.part (P:=Tryz.prog) so (i:=i) (by rw [Y0]; exact O) (vs:=[.slice p5 l5 c5,.int .u32 ((de (cw es) m.x).num:Int)]) (o:=1) aj (by simp [cO]) rfl ?_;intro h6 s6 k6 z6;have hse:(G.map zD).set i (lz ((G.map zD)[i]'(by rw [Y0]; exact O)) 1 [.slice p5 l5 c5,.int .u32 ((de (cw es) m.x).num:Int)])=(G.set i ⟨m.name,p5,l5,c5,de (cw es) m.x⟩).map zD:=by
     rw [<- PE]
     congr 1
     rw [Zb]
     have:G[i]=m:=(Zj.1 hmi).2
     rw [this] <;> rfl
    rw [hse] at s6;have hgb:∀ j,j∈aM (some a)->h.size<=j/\j<h4.size:=fun j U=>J.out.cr U
    have e6:Ext h h6:=Ch.trans (e4.trans e5) k6 (fun j U hl=>by have:=hgb j U; omega);refine aH (cs:=[(false,[.int .i64])]) (((i+1:Nat):Int),()) (es.length-(i+1)) rfl ad (Zl (fun z=>[Value.int .i64 z]) hwi) ⟨i+1,_,rfl,rfl,ad,e6,⟨s6,by rw [Z5]; exact J.len,fun j e' m' he' u=>?_,fun m' u=>?_,fun m' u j U=>?_⟩⟩
    ·by_cases hji:i=j
     ·subst hji;rw [bj9 O] at u;cases u;rw [hei] at he';cases he';refine ⟨hnm,?_⟩;rw [Y8 ad];show de (cw es) m.x=de (cw es) (Sf (cw es) t e.x);rw [hx]
     ·rw [ap9 hji] at u;obtain ⟨h1,h2⟩:=J.eq j e' m' he' u;refine ⟨h1,h2.trans ?_⟩
      by_cases hj2:j<i
      ·rw [Y8 hj2,Y8 ad]
      ·rw [Y2 hj2,Y2 ad]
    ·rcases ai9 u with u | rfl
     ·exact ((J.fw m' u).ak e5 aj).ak k6 (fun j U=>(J.low m' u j U).2)
     ·exact (s5.bM k6 (fun j U hh=>by have:=(s5.cr U).1; have:=hgb j hh; omega)).RP
    ·rcases ai9 u with u | rfl
     ·obtain ⟨h1,h2⟩:=J.low m' u j U;exact ⟨⟨h1.1,ad⟩,h2⟩
     ·obtain ⟨h1,h2⟩:=s5.cr U;exact ⟨⟨ad,ad⟩,fun hh=>by have:=hgb j hh; omega⟩
   ·have:i=es.length:=ad
    subst this;refine aH (cs:=[(false,[.int .i64])]) (((t+1:Nat):Int),()) (es.length-(t+1)) rfl ad (Zl (fun z=>[Value.int .i64 z]) hwt) ⟨t+1,G,rfl,rfl,ad,e4,⟨J.out,J.len,fun j e m X hm=>?_,J.fw,J.low⟩⟩;obtain ⟨h1,h2⟩:=J.eq j e m X hm;rw [Y8 (Zj.1 X).1] at h2;exact ⟨h1,h2⟩
  ·have:t=es.length:=ad
   subst this;exact ⟨e3,p2,l,c2,ms,rfl,o3⟩
theorem qM (s:Xaa):∀ l:dc,gi (fun r=>if r=s then 1 else 0) l=cf l s
 | []=>rfl
 | p::l=>by
  rw [eZ,eV,qM s l]
  congr 1
  split <;> simp
theorem oo:∀ l:dc,gi (fun _=>0) l=0
 | []=>rfl
 | p::l=>by rw [eZ,oo l]; simp
def Iq {x y:ct} (hx:Nf x.ai) (hy:Nf y.ai) (nx:x.num<4294967296) (u:y.num<4294967296) (h:∀ f,jA f x=jA f y):x=y:=by
 have h0:=h fun _=>0
 unfold jA at h0;rw [oo,oo] at h0;have hn:x.num=y.num:=ad
 have j:x.ai=y.ai:=hx.QK hy fun s=>by
  have h1:=h fun r=>if r=s then 1 else 0
  unfold jA at h1;rw [qM,qM] at h1;omega
 obtain ⟨a,b⟩:=x;obtain ⟨c,d⟩:=y;simp only at hn j;rw [hn,j]
def Hy (of:Xaa->Option ct) (f:Xaa->Nat) (s:Xaa):Nat:=match of s with
 | none=>f s
 | some y=>jA f y
def fH (of:Xaa->Option ct) (f:Xaa->Nat) (x:ct):jA f (de of x)=jA (Hy of f) x:=LL (fun s=>by unfold Hy; rfl) x
theorem Aa {f g:Xaa->Nat}:∀ {l:dc},(∀ t,t∈l->f t.1=g t.1)->gi f l=gi g l
 | [],_=>rfl
 | p::l,h=>by rw [eZ,eZ,h p aj,Aa fun t j=>h t (Zd _ j)]
def oL {f g:Xaa->Nat} {x:ct} (h:∀ t,t∈x.ai->f t.1=g t.1):jA f x=jA g x:=by
 unfold jA;rw [Aa h]
section
variable {own:Xaa->Bool} {lin:Xaa->ct}
def Ub (own:Xaa->Bool) (lin:Xaa->ct) (t:Nat) (s:Xaa):Option ct:=if own s=true then some (qy own lin t s) else none
def yf (own:Xaa->Bool) (lin:Xaa->ct) (s:Xaa):Option ct:=if own s=true then some (lin s) else none
def rS (t:Nat) (v:Xaa):qy own lin (t+1) v=de (Ub own lin t) (lin v):=rfl
theorem BQ (j:∀ v,own v=true->(lin v).num<4294967296):∀ (t:Nat) (v:Xaa),own v=true->de (yf own lin) (qy own lin t v)=qy own lin (t+1) v
 | 0,v,hv=>rfl
 | t+1,v,hv=>by
  rw [rS (t+1) v,rS t v];refine Iq (eX _ _) (eX _ _) (sC _ _ _ (sC _ _ _ (j v hv))) (sC _ _ _ (j v hv)) fun f=>?_
  rw [fH,fH,fH];refine oL fun u _=>?_
  generalize u.1=s;unfold Hy Ub
  by_cases G:own s=true
  ·rw [Y8 G,Y8 G];show jA (Hy (yf own lin) f) (qy own lin t s)=jA f (qy own lin (t+1) s);rw [<- BQ j t s G,fH]
  ·rw [Y2 G,Y2 G];show (match yf own lin s with | none=>f s | some y=>jA f y)=f s;unfold yf;rw [Y2 G]
theorem D9 (j:∀ v,own v=true->(lin v).num<4294967296):∀ (t:Nat) (v:Xaa),own v=true->Sf (yf own lin) t (lin v)=qy own lin t v
 | 0,v,hv=>rfl
 | t+1,v,hv=>by
  show de (yf own lin) (Sf (yf own lin) t (lin v))=_;rw [D9 j t v hv,BQ j t v hv]
end
def Qu {es:List cK} (hn:(aZ es).Nodup) (u:∀ e,e∈es->e.x.num<4294967296) {e:cK} (O:e∈es):Sf (cw es) es.length e.x=eR es e.name:=by
 have hown:cy es e.name=true:=by
  unfold cy;cases G:kr es e.name with
  | some k=>rfl
  | none =>
   unfold kr at G;rw [ZB] at G
   have:=G e O
   simp at this
 have j:∀ v,cy es v=true->(dk es v).num<4294967296:=by
  intro v hv;unfold cy at hv;obtain ⟨k,hk⟩:=Z0.1 hv;obtain ⟨d,U,J⟩:=ux hk;rw [<- J,pQ hn (ZR U)];exact u d (ZR U)
 have h1:=D9 j es.length e.name hown;rw [pQ hn O] at h1;have h2:yf (cy es) (dk es)=cw es:=rfl;rw [h2] at h1;rw [h1];unfold eR Ii aZ;rw [Y0]
def yF (K:Ky->Prop) (a b:Ky->Xaa) (x y:ct):Prop:=∀ f g:Xaa->Nat,(∀ k,K k->f (a k)=g (b k))->jA f x=jA g y
def yF.symm {K:Ky->Prop} {a b:Ky->Xaa} {x y:ct} (h:yF K a b x y):yF K b a y x:=fun f g j=>(h g f fun k hk=>(j k hk).symm).symm
structure uY {δ:Type} (Q:List δ) (ky:δ->Ky) (K:Ky->Prop) (a b:Ky->Xaa) (xa xb:δ->ct):Prop where
 nd:(Q.map ky).Nodup
 O':∀ q,q∈Q->K (ky q)
 ia:∀ k k',K k->K k'->a k=a k'->k=k'
 ib:∀ k k',K k->K k'->b k=b k'->k=k'
 RU:∀ k,K k->k∉Q.map ky->a k=b k
 rel:∀ q,q∈Q->yF K a b (xa q) (xb q)
 fa:∀ q,q∈Q->Nf (xa q).ai
 fb:∀ q,q∈Q->Nf (xb q).ai
def uY.symm {δ:Type} {Q:List δ} {ky:δ->Ky} {K:Ky->Prop} {a b:Ky->Xaa} {xa xb:δ->ct} (t:uY Q ky K a b xa xb):uY Q ky K b a xb xa :=
 ⟨t.nd,t.O',t.ib,t.ia,fun k hk hn=>(t.RU k hk hn).symm,fun q j=>(t.rel q j).symm,t.fb,t.fa⟩
def wD {δ:Type} (Q:List δ) (ky:δ->Ky) (a:Ky->Xaa) (xa:δ->ct):List (Xaa × ct):=Q.map fun q=>(a (ky q),xa q)
def vJ (D:List (Xaa × ct)):Sx.aZ (eU D)=D.map (·.1):=by
 have:=Zl (List.map (·.1)) (mI D)
 rw [Zv] at this;exact this
def sr {D:List (Xaa × ct)} {s:Xaa}:cy (eU D) s=true↔s∈D.map (·.1):=by rw [ei,vJ]
theorem SA:∀ {l:dc} {t:Xaa × Nat},Nf l->t∈l->cf l t.1=t.2
 | [],t,_,h=>by simp at h
 | p::l,t,n,h=>by
  rcases Zo.1 h with h | h
  ·subst h;exact n.mM
  ·rw [eV,Y2 (jD (n.head t h)),ZJ];exact SA n.tail h
def MZ {l:dc} (n:Nf l) {s:Xaa}:s∈l.map (·.1)↔cf l s % 4294967296≠0:=by
 constructor
 ·intro h;obtain ⟨t,j,rfl⟩:=Za.1 h;rw [SA n j]
  have:=n.2 t j
  omega
 ·intro h;apply bt9;intro k;exact h (by rw [yS fun p u e=>k (Za.2 ⟨p,u,e⟩)])
section
variable {δ:Type} {Q:List δ} {ky:δ->Ky} {K:Ky->Prop} {a b:Ky->Xaa} {xa xb:δ->ct}
def zR:(wD Q ky a xa).map (·.1)=(Q.map ky).map a:=by
 unfold wD;rw [Zv,Zv] <;> rfl
def uY.U3 (t:uY Q ky K a b xa xb):((wD Q ky a xa).map (·.1)).Nodup:=by
 rw [zR];have h:=t.nd;rw [ax9] at h ⊢;rw [Z3];refine List.Pairwise.imp_of_mem ?_ h;intro k k' hk j u e;obtain ⟨q,G,rfl⟩:=Za.1 hk;obtain ⟨r,J,rfl⟩:=Za.1 j;exact u (t.ia _ _ (t.O' q G) (t.O' r J) e)
def uY.own (t:uY Q ky K a b xa xb) {k:Ky} (hk:K k):cy (eU (wD Q ky a xa)) (a k)=true↔k∈Q.map ky:=by
 rw [sr,zR,Za];constructor
 ·rintro ⟨k',j,e⟩;obtain ⟨q,u,rfl⟩:=Za.1 j;rw [<- t.ia _ _ (t.O' q u) hk e];exact j
 ·intro h;exact ⟨k,h,rfl⟩
def uY.lin (t:uY Q ky K a b xa xb) {q:δ} (j:q∈Q):dk (eU (wD Q ky a xa)) (a (ky q))=xa q:=by
 have h2:(⟨a (ky q),none,0,0,xa q⟩:cK)∈eU (wD Q ky a xa):=Za.2 ⟨(a (ky q),xa q),Za.2 ⟨q,j,rfl⟩,rfl⟩;exact pQ (by rw [vJ]; exact t.U3) h2
def yF.cf {x y:ct} (h:yF K a b x y) {k:Ky} (u:∀ k',K k'->a k'=a k->k'=k) (hb:∀ k',K k'->b k'=b k->k'=k):cf x.ai (a k) % 4294967296=cf y.ai (b k) % 4294967296:=by
 have h0:=h (fun _=>0) (fun _=>0) fun _ _=>rfl
 have h1:=h (fun r=>if r=a k then 1 else 0) (fun r=>if r=b k then 1 else 0) fun k' j=>by
  by_cases e:k'=k
  ·subst e
   simp
  ·rw [Y2 fun x=>e (u k' j x),Y2 fun x=>e (hb k' j x)]
 unfold jA at h0 h1;rw [oo,oo] at h0;rw [qM,qM] at h1;omega
def uY.VK (t:uY Q ky K a b xa xb) {q r:δ} (u:q∈Q) (G:r∈Q) (h:dp (eU (wD Q ky a xa)) (a (ky q)) (a (ky r))):dp (eU (wD Q ky b xb)) (b (ky q)) (b (ky r)):=by
 obtain ⟨h1,h2⟩:=h;refine ⟨?_,(t.symm.own (t.O' r G)).2 (Zm G)⟩;unfold cL at h1 ⊢;rw [t.lin u,MZ (t.fa q u)] at h1;rw [t.symm.lin u,MZ (t.fb q u)];rw [(t.rel q u).cf (fun k' j e=>t.ia _ _ j (t.O' r G) e) (fun k' j e=>t.ib _ _ j (t.O' r G) e)] at h1;exact h1
def uY.Yj (t:uY Q ky K a b xa xb) {s u:Xaa} (h:dp (eU (wD Q ky a xa)) s u):∃ r,r∈Q/\u=a (ky r):=by
 have h2:=h.2;rw [sr,zR] at h2;obtain ⟨k,hk,rfl⟩:=Za.1 h2;obtain ⟨r,j,rfl⟩:=Za.1 hk;exact ⟨r,j,rfl⟩
def uY.SB (t:uY Q ky K a b xa xb) {u v:Xaa} (h:pF (dp (eU (wD Q ky a xa))) u v):∀ q r,q∈Q->r∈Q->u=a (ky q)->v=a (ky r)->pF (dp (eU (wD Q ky b xb))) (b (ky q)) (b (ky r)):=by
 induction h with
 | refl u =>
  intro q r j G e1 e2;rw [t.ia _ _ (t.O' q j) (t.O' r G) (e1.symm.trans e2)];exact .refl _
 | head e _ J =>
  intro q r j G e1 e2;subst e1;obtain ⟨m,hm,rfl⟩:=t.Yj e;exact .head (t.VK j hm e) (J m r hm G rfl e2)
def uY.Wb (t:uY Q ky K a b xa xb) {q:δ} (j:q∈Q) (h:kq (dp (eU (wD Q ky a xa))) (a (ky q))):kq (dp (eU (wD Q ky b xb))) (b (ky q)):=by
 obtain ⟨y,h1,h2⟩:=h;obtain ⟨m,hm,rfl⟩:=t.Yj h1;exact ⟨_,t.VK j hm h1,t.SB h2 m q hm j rfl rfl⟩
def uY.Yy (t:uY Q ky K a b xa xb) {q:δ} (j:q∈Q):kq (dp (eU (wD Q ky a xa))) (a (ky q))↔kq (dp (eU (wD Q ky b xb))) (b (ky q)):=⟨t.Wb j,t.symm.Wb j⟩
def uY.Vu (t:uY Q ky K a b xa xb):mT (wD Q ky a xa)=dE (eU (wD Q ky b xb)):=by
 classical
 unfold mT dE;have h2:∀ D:List (Xaa × ct),∀ P:Xaa->Bool,(eU D).findIdx? (fun e=>P e.name)=D.findIdx? fun y=>P y.1:=by
  intro D P;unfold eU;rw [cf9] <;> rfl
 have h3:=h2 (wD Q ky b xb) (fun s=>decide (kq (dp (eU (wD Q ky b xb))) s));rw [h3];have key:∀ l:List δ,(∀ q,q∈l->q∈Q)->(l.map fun q=>(a (ky q),xa q)).findIdx? (fun y=>decide (kq (dp (eU (wD Q ky a xa))) y.1))=(l.map fun q=>(b (ky q),xb q)).findIdx? (fun y=>decide (kq (dp (eU (wD Q ky b xb))) y.1)):=by
  intro l
  induction l with
  | nil=>intro _; rfl
  | cons q l j =>
   intro hl;rw [ZF,ZF,List.findIdx?_cons,List.findIdx?_cons,j fun r u=>hl r (Zd _ u)];have h4:decide (kq (dp (eU (wD Q ky a xa))) (a (ky q)))=decide (kq (dp (eU (wD Q ky b xb))) (b (ky q))):=ci9.2 (t.Yy (hl q (bd9 ..)));simp only [h4]
 exact key Q fun q G=>G
theorem uY.Ii (t:uY Q ky K a b xa xb):∀ (n:Nat) (q:δ),q∈Q->yF K a b (qy (cy (eU (wD Q ky a xa))) (dk (eU (wD Q ky a xa))) n (a (ky q))) (qy (cy (eU (wD Q ky b xb))) (dk (eU (wD Q ky b xb))) n (b (ky q)))
 | 0,q,j=>by
  show yF K a b (dk (eU (wD Q ky a xa)) (a (ky q))) (dk (eU (wD Q ky b xb)) (b (ky q)));rw [t.lin j,t.symm.lin j];exact t.rel q j
 | n+1,q,j=>by
  intro f g u;rw [rS,rS,fH,fH,t.lin j,t.symm.lin j];refine t.rel q j _ _ fun k hk=>?_
  unfold Hy Ub
  by_cases G:k∈Q.map ky
  ·rw [Y8 ((t.own hk).2 G),Y8 ((t.symm.own hk).2 G)];obtain ⟨r,J,rfl⟩:=Za.1 G;exact uY.Ii t n r J f g u
  ·rw [Y2 fun h=>G ((t.own hk).1 h),Y2 fun h=>G ((t.symm.own hk).1 h)];exact u k hk
def Ru {D:List (Xaa × ct)} (s:Xaa):eR (eU D) s=qy (cy (eU D)) (dk (eU D)) D.length s:=by
 unfold eR Ii;rw [vJ,Y0]
def MF {D:List (Xaa × ct)} (s:Xaa):cy (eU (mu D)) s=cy (eU D) s:=by
 have h:(mu D).map (·.1)=D.map (·.1):=by
  unfold mu;rw [Zv] <;> rfl
 rw [cb9,sr,sr,h]
def u7 {D:List (Xaa × ct)} (hn:(D.map (·.1)).Nodup) (s:Xaa):cw (eU (mu D)) s=if cy (eU D) s=true then some (eR (eU D) s) else none:=by
 unfold cw;rw [MF]
 by_cases h:cy (eU D) s=true
 ·rw [Y8 h,Y8 h];rw [sr] at h;obtain ⟨y,hy,rfl⟩:=Za.1 h;have h0:(mu D).map (·.1)=D.map (·.1):=by
   unfold mu;rw [Zv] <;> rfl
  have h2:(⟨y.1,none,0,0,eR (eU D) y.1⟩:cK)∈eU (mu D):=Za.2 ⟨(y.1,eR (eU D) y.1),Za.2 ⟨y,hy,rfl⟩,rfl⟩;exact Zl some (pQ (by rw [vJ,h0]; exact hn) h2)
 ·rw [Y2 h,Y2 h]
def uY.put (t:uY Q ky K a b xa xb) {x y:ct} (h:yF K a b x y):yF K a b (vF (mu (wD Q ky a xa)) x) (vF (mu (wD Q ky b xb)) y):=by
 intro f g j;unfold vF;rw [fH,fH];refine h _ _ fun k hk=>?_
 unfold Hy;rw [u7 t.U3,u7 t.symm.U3]
 by_cases u:k∈Q.map ky
 ·rw [Y8 ((t.own hk).2 u),Y8 ((t.symm.own hk).2 u)];obtain ⟨r,G,rfl⟩:=Za.1 u;have e1:(wD Q ky a xa).length=Q.length:=by unfold wD; rw [Y0]
  have e2:(wD Q ky b xb).length=Q.length:=by unfold wD; rw [Y0]
  simp only [Ru,e1,e2];exact t.Ii Q.length r G f g j
 ·rw [Y2 fun h=>u ((t.own hk).1 h),Y2 fun h=>u ((t.symm.own hk).1 h)];exact j k hk
def Ie {D:List (Xaa × ct)} (hn:(D.map (·.1)).Nodup) (hc:∀ v,¬ kq (dp (eU D)) v) {x:ct}:∀ u,u∈(vF (mu D) x).ai->cy (eU D) u.1=false:=by
 intro u hu;unfold vF at hu;rcases rW hu with ⟨p,G,e,j⟩ | ⟨p,y,v,G,j,hv,e⟩
 ·rw [u7 hn] at j;cases hb:cy (eU D) u.1 with
  | false=>rfl
  | true=>rw [Y8 hb] at j; cases j
 ·rw [u7 hn] at j
  by_cases hb:cy (eU D) p.1=true
  ·rw [Y8 hb] at j;have j:=Zn j;subst j
   have:=(wU (own:=cy (eU D)) (lin:=dk (eU D)) (names:=Sx.aZ (eU D)) (fun s=>ei _ s) hc ((ei _ _).1 hb) v hv).1
   rw [<- e];exact this
  ·rw [Y2 hb] at j; cases j
def Oc {D:List (Xaa × ct)} (h:mT D=none):∀ v,¬ kq (dp (eU D)) v:=by
 classical
 intro v hv;unfold mT at h;rw [ZB] at h;have key:∃ u,cy (eU D) u=true/\kq (dp (eU D)) u:=by
  obtain ⟨y,h1,h2⟩:=hv;refine ⟨y,h1.2,?_⟩;have h3:pF (dp (eU D)) v y:=.one h1;cases h2 with
  | refl=>exact ⟨_,h1,.refl _⟩
  | head e r=>exact ⟨_,e,r.trans h3⟩
 obtain ⟨u,h1,h2⟩:=key;rw [sr] at h1;obtain ⟨q,j,rfl⟩:=Za.1 h1
 have:=h q j
 exact absurd h2 (Zc this)
def uY.same (t:uY Q ky K a b xa xb) (hc:mT (wD Q ky a xa)=none) {x y:ct} (h:yF K a b x y) (hx:x.num<4294967296) (hy:y.num<4294967296):vF (mu (wD Q ky a xa)) x=vF (mu (wD Q ky b xb)) y:=by
 classical
 have ca:=Oc hc;have G:∀ v,¬ kq (dp (eU (wD Q ky b xb))) v:=Oc (by
  have h1:=t.Vu;have h2:=t.symm.Vu;rw [hc] at h1
  have:mT (wD Q ky b xb)=dE (eU (wD Q ky b xb)):=by
   unfold mT dE eU;rw [cf9] <;> rfl
  rw [this,<- h1])
 refine Iq (eX _ _) (eX _ _) (lM hx) (lM hy) fun f=>?_
 have e1:jA f (vF (mu (wD Q ky a xa)) x)=jA (fun s=>if cy (eU (wD Q ky a xa)) s=true then 0 else f s) (vF (mu (wD Q ky a xa)) x):=oL fun u hu=>by
  rw [Ie t.U3 ca u hu] <;> rfl
 have e2:jA f (vF (mu (wD Q ky b xb)) y)=jA (fun s=>if cy (eU (wD Q ky b xb)) s=true then 0 else f s) (vF (mu (wD Q ky b xb)) y):=oL fun u hu=>by
  rw [Ie t.symm.U3 G u hu] <;> rfl
 rw [e1,e2];refine t.put h _ _ fun k hk=>?_
 by_cases j:k∈Q.map ky
 ·rw [Y8 ((t.own hk).2 j),Y8 ((t.symm.own hk).2 j)]
 ·rw [Y2 fun h=>j ((t.own hk).1 h),Y2 fun h=>j ((t.symm.own hk).1 h),t.RU k hk j]
end
def I2 {h:Hp} {p:Xac} {l c:Nat} {xs:List Xaa} (n:l=xs.length) (hc:∀ i,(hi:i<xs.length)->∃ a,p=some a/\aI h (a.add (i*1)) 0 [.string xs[i]]) (hl:xs.length<=2^61) (s:Xaa):we Tryz.prog 57 [.slice p l c,.string s] h (.bool (fZ xs s)):=by
 refine eC mixed Tryz.func57 ax (jl p l c s) ?_;unfold gZ bf bk bH aP bI dP aR cn;refine aX (cs:=[(false,[.bool]),(false,[.int .i64])]) (fun y m h'=>∃ i:Nat,y.2.1=(i:Int)/\m=xs.length-i/\i<=xs.length/\h'=h/\fZ (xs.take i) s=false) (false,(0:Int),()) xs.length rfl
  ⟨0,rfl,rfl,ad,rfl,rfl⟩ ?_
 rintro ⟨G,U,⟨⟩⟩ m h' ⟨i,hi,rfl,J,rfl,hn⟩;simp only at hi;subst hi;refine an ?_;refine aQ (fun q=>?_) (fun q=>?_)
 ·have j:i<xs.length:=ad
  obtain ⟨a,O,u⟩:=hc i j;refine ay ⟨ad,ad⟩ (aw O ?_);rw [show Int.toNat (i:Int)=i from ad];refine az (xs[i],()) u (an ?_);have hs:=WL xs s i j;rw [qv];refine av (fun r=>?_) (fun r=>?_)
  ·have r:=Y5 r;refine ⟨Zl Value.bool ?_,rfl⟩;unfold fZ;exact (as9.2 ⟨_,Y9 j,Y6 r⟩).symm
  ·rw [hn,r] at hs;refine aH (cs:=[(false,[.bool]),(false,[.int .i64])]) (G,((i+1:Nat):Int),()) (xs.length-(i+1)) rfl ad (by rw [wrap_i64 ad ad]; rfl) ?_;exact ⟨i+1,rfl,rfl,ad,rfl,hs⟩
 ·have:i=xs.length:=ad
  subst this;rw [ZA] at hn;exact ⟨by rw [hn],rfl⟩
def gw (us:List bX) (n:Nat) (s:Xaa):Option Nat :=
 if (us[n]?.map fun u=>fZ (eN u) s)=some true then some n else us.findIdx? fun u=>fZ u.aU s
structure KO (us:List bX):Prop where
 many:us.length<=2^20
 text:∀ u,u∈us->u.text.length<=2^20
 data:∀ u,u∈us->u.data.length<=2^20
 bh:∀ u,u∈us->u.bh.length<=2^20
def EV {h:Hp} {p:Xac} {l c:Nat} {us:List bX} (v:uH h p l us) (sz:KO us) {n:Nat} (hn:n<us.length) (s:Xaa) :
  HC Tryz.prog 73 #[.slice p l c,.int .i64 (n:Int),.string s] h fun w h'=>w=.int .i64 (QL (gw us n s))/\Ext h h':=by
 refine bd (args:=[.slice p l c,.int .i64 (n:Int),.string s]) mixed Tryz.func73 ax (mY p l c n s) ?_;unfold jq bf bk bH aP aY bK aR;have hll:=v.len;have X:=sz.many;have J:us[n]?=some us[n]:=Y1 hn;obtain ⟨a,sa,sb,sc,sd,rfl,hc,va⟩:=v.cells n hn;have hm:=Y9 hn;generalize us[n]=u at J hc va hm;refine ay ⟨ad,ad⟩ (aw rfl ?_);rw [show Int.toNat (n:Int)=n from ad];refine az ((sa.p,sa.l,sa.c),(sb.p,sb.l,sb.c),(sc.p,sc.l,sc.c),(sd.p,sd.l,sd.c),()) hc (an ?_);refine aJ (M4 va (sz.text u hm) (sz.data u hm) (sz.bh u hm)) ?_;rintro _ h1 ⟨p1,l1,c1,rfl,s1,e1⟩;refine ⟨((p1,l1,c1),()),rfl,an ?_⟩;have Y:(eN u).length<=2^61:=by
  have h1:=sz.text u hm;have h2:=sz.data u hm;have h3:=sz.bh u hm;unfold eN dX;rw [Y4,Y4,Y0,Y0,Y0];have h4:=Z8 (fun x:cE=>decide (x.kind=1)) u.text;have h5:=Z8 (fun x:cE=>decide (x.kind=1)) u.data;omega
 refine aK (CY s1 Y s) ?_;refine av (fun q=>?_) (fun q=>?_)
 ·refine ⟨?_,e1⟩;unfold gw;rw [J,cr9,q,Y8 rfl] <;> rfl
 ·have ho:gw us n s=us.findIdx? fun u=>fZ u.aU s:=by
   unfold gw;rw [J,cr9,q,Y2 aj]
  rw [ho];refine aX (cs:=[(false,[.int .i64]),(false,[.int .i64])]) (fun y m h'=>∃ i:Nat,y.2.1=(i:Int)/\m=us.length-i/\i<=us.length/\h'=h1/\∀ j,j<i->(G:j<us.length)->fZ us[j].aU s=false) ((0:Int),(0:Int),()) us.length rfl
   ⟨0,rfl,rfl,ad,rfl,fun j G=>absurd G ad⟩ ?_
  rintro ⟨n2,n3,⟨⟩⟩ m h' ⟨i,hi,rfl,hle,rfl,O⟩;simp only at hi;subst hi;refine an ?_;refine aQ (fun q=>?_) (fun q=>?_)
  ·have V:i<us.length:=ad
   obtain ⟨a',ta,tb,tc,Z,ha',hc',U⟩:=(v.ak e1).cells i V;refine ay ⟨ad,ad⟩ (aw ha' ?_);rw [show Int.toNat (i:Int)=i from ad];refine az ((Z.p,Z.l,Z.c),()) ⟨by rw [add_add]; exact hc'.2.2.2.1,trivial⟩ ?_;refine an ?_;refine aK (I2 U.aU.len (fun j G=>by
    obtain ⟨a,ha,hc,_⟩:=U.aU.cells j G;exact ⟨a,ha,hc⟩) (by have:=U.aU.many; omega) s) ?_
   refine av (fun r=>?_) (fun r=>?_)
   ·refine ⟨?_,e1⟩;rw [show us.findIdx? (fun u=>fZ u.aU s)=some i from by
     rw [Zs];exact ⟨V,r,fun j G=>by rw [O j G ad]; simp⟩]
    rfl
   ·refine aH (cs:=[(false,[.int .i64]),(false,[.int .i64])]) (n2,((i+1:Nat):Int),()) (us.length-(i+1)) rfl ad (by rw [wrap_i64 ad ad]; rfl) ?_;exact ⟨i+1,rfl,rfl,ad,rfl,fun j G hx=>by
     by_cases e:j=i
     ·subst e; exact r
     ·exact O j ad hx⟩
  ·have:i=us.length:=ad
   subst this;refine ⟨?_,e1⟩;rw [show us.findIdx? (fun u=>fZ u.aU s)=none from by
    rw [ZB];intro u hu;obtain ⟨j,G,rfl⟩:=Zu hu;exact O j G G]
   rfl
def nl (n sec:Nat):Nat->List cE->List Lb
 | _,[]=>[]
 | i,x::l=>(if x.kind=1 then [⟨n,sec,i,x.name⟩] else [])++nl n sec (i+1) l
def uf (n:Nat) (u:bX):List Lb:=nl n 0 0 u.text++nl n 1 0 u.data
def bQ:Nat->List bX->List Lb
 | _,[]=>[]
 | n,u::us=>uf n u++bQ (n+1) us
def yG (x:Lb):Ky:=(x.u,x.n)
def jP (q:Nat × ry):Ky:=(q.1,q.2.1)
def mZ (l:List Ky) (k:Ky):Option Nat:=l.findIdx? fun x=>decide (x=k)
def oa {l:List Ky} {k:Ky}:mZ l k=none↔k∉l:=by
 unfold mZ;rw [ZB];constructor
 ·intro h hk
  have:=h k hk
  simp at this
 ·intro h x hx;exact Y7 fun e=>h (e▸hx)
def jy {l:List Ky} {k:Ky} {i:Nat} (h:mZ l k=some i):∃ hi:i<l.length,l[i]=k:=by
 unfold mZ at h;rw [Zs] at h;obtain ⟨h1,h2,_⟩:=h;exact ⟨h1,Y5 h2⟩
def AV {l:List Ky} {k:Ky} (h:k∈l):∃ i,mZ l k=some i:=by
 cases hk:mZ l k with
 | some i=>exact ⟨i,rfl⟩
 | none=>exact absurd h (oa.1 hk)
def Cb {l:List Ky} {y:Ky} (hn:y∉l):mZ (l++[y])=yj (mZ l) y l.length:=by
 funext k
 unfold yj
 by_cases hk:k=y
 ·subst hk;rw [Y8 rfl];have h0:=oa.2 hn;unfold mZ at h0 ⊢;rw [bf9,h0]
  simp
 ·rw [Y2 hk];unfold mZ;rw [bf9]
  have:decide (y=k)=false:=Y7 fun e=>hk e.symm
  simp [List.findIdx?_cons,this]
structure WI (w:LW) (L:List Lb) (E:List Ky):Prop where
 lb:w.lb=L
 num:w.num=mZ (L.map yG)
 tq:w.tq=mZ E
 ne:w.ne=E.length
theorem WI.RU {w:LW} {L:List Lb} {E:List Ky} (i0:WI w L E) {n sec:Nat}:∀ (l:List cE) (i:Nat) {w:LW} {L:List Lb} (i0:WI w L E) (hn:(dX l).Nodup) (j:∀ s,s∈dX l->(n,s)∉L.map yG),WI (iJ n sec i l w) (L++nl n sec i l) E
 | [],i,w,L,i0,hn,j=>by simpa [iJ,nl] using i0
 | x::l,i,w,L,i0,hn,j=>by
  rw [sF] at hn j;rw [iJ,nl,<- Zr]
  by_cases hk:x.kind=1
  ·simp only [hk,if_true,List.singleton_append,List.nodup_cons,List.mem_cons] at hn j;have hx:=j x.name (.inl rfl);refine WI.RU i0 l (i+1) ?_ hn.2 (fun s hs=>?_)
   ·unfold jz;rw [Y8 hk,Y8 hk];refine ⟨by show w.lb++_=_; rw [i0.lb],?_,i0.tq,i0.ne⟩;show yj w.num (n,x.name) w.lb.length=_;rw [Ze,List.map_singleton];show _=mZ (L.map yG++[(n,x.name)]);rw [Cb hx,i0.num,i0.lb,Y0]
   ·rw [Y8 hk,Ze,Zk];rintro (h | h)
    ·exact j s (.inr hs) h
    ·have:(n,s)=(n,x.name):=by simpa [yG] using h
     have:s=x.name:=(bm9 this).2
     exact hn.1 (this▸hs)
  ·simp only [hk,if_false,List.nil_append] at hn j;rw [Y2 hk,ZQ];refine WI.RU i0 l (i+1) ?_ hn j;unfold jz;rw [Y2 hk];exact i0
theorem WI.eqs {L:List Lb} {n:Nat}:∀ (l:List ry) {w:LW} {E:List Ky} (i0:WI w L E) (hn:(l.map (·.1)).Nodup) (j:∀ s,s∈l.map (·.1)->(n,s)∉E),WI (l.foldl (uz n) w) L (E++l.map fun e=>(n,e.1))
 | [],w,E,i0,hn,j=>by simpa using i0
 | x::l,w,E,i0,hn,j=>by
  simp only [List.map_cons,List.nodup_cons,List.mem_cons] at hn j;have hx:=j x.1 (.inl rfl);rw [ZH,ZF,show E++(n,x.1)::l.map (fun e=>(n,e.1))=(E++[(n,x.1)])++l.map fun e=>(n,e.1) from aj];refine WI.eqs l ?_ hn.2 (fun s hs=>?_)
  ·refine ⟨i0.lb,i0.num,?_,?_⟩
   ·show yj w.tq (n,x.1) w.ne=_;rw [Cb hx,i0.tq,i0.ne]
   ·show (if (w.tq (n,x.1)).isSome then w.ne else w.ne+1)=_;rw [i0.tq,oa.2 hx,Y4,i0.ne] <;> rfl
  ·rw [Zk];rintro (h | h)
   ·exact j s (.inr hs) h
   ·have:(n,s)=(n,x.1):=by simpa using h
    have:s=x.1:=(bm9 this).2
    exact hn.1 (this▸hs)
theorem qA (n sec:Nat):∀ (l:List cE) (i:Nat),(nl n sec i l).map yG=(dX l).map fun s=>(n,s)
 | [],i=>rfl
 | x::l,i=>by
  rw [nl,sF,Ze,Ze,qA n sec l (i+1)]
  by_cases hk:x.kind=1 <;> simp [hk,yG]
def WI.YE {w:LW} {L:List Lb} {E:List Ky} {n:Nat} (i0:WI w L E) {u:bX} (hn:(eN u).Nodup) (h1:∀ k,k∈L.map yG->k.1<n) (h2:∀ k,k∈E->k.1<n):WI (Fy n u w) (L++uf n u) (E++u.bh.map fun e=>(n,e.1)):=by
 unfold eN at hn;rw [ZX,ZX] at hn;obtain ⟨⟨j,G,J⟩,O,X⟩:=hn;unfold Fy uf;rw [<- Zr];refine WI.eqs _ (WI.RU i0 _ _ (WI.RU i0 _ _ i0 j (fun s hs h=>by have:=h1 _ h; simp at this)) G (fun s hs h=>?_)) O (fun s hs h=>by have:=h2 _ h; simp at this);rw [Ze,Zk] at h;rcases h with h | h
 ·have:=h1 _ h; simp at this
 ·rw [qA] at h;obtain ⟨t,U,V⟩:=Za.1 h
  have:t=s:=(bm9 V).2
  exact J t U s hs this
theorem WI.xe:∀ (us:List bX) (n:Nat) {w:LW} {L:List Lb} {E:List Ky} (i0:WI w L E) (hn:∀ u,u∈us->(eN u).Nodup) (h1:∀ k,k∈L.map yG->k.1<n) (h2:∀ k,k∈E->k.1<n),WI (mW n us w) (L++bQ n us) (E++(ek n us).map jP)
 | [],n,w,L,E,i0,hn,h1,h2=>by simpa [mW,bQ,ek] using i0
 | u::us,n,w,L,E,i0,hn,h1,h2=>by
  rw [mW,bQ,ek,Ze,<- Zr,<- Zr];have j:(u.bh.map fun e=>(n,e)).map jP=u.bh.map fun e=>(n,e.1):=by rw [Zv]; rfl
  rw [j];refine WI.xe us (n+1) (WI.YE i0 (hn u aj) h1 h2) (fun v hv=>hn v (by simp [hv])) (fun k hk=>?_) (fun k hk=>?_)
  ·rw [Ze,Zk] at hk;rcases hk with hk | hk
   ·have:=h1 _ hk; omega
   ·unfold uf at hk;rw [Ze,qA,qA,<- Ze] at hk;obtain ⟨s,_,rfl⟩:=Za.1 hk;show n<n+1;omega
  ·rcases Zk.1 hk with hk | hk
   ·have:=h2 _ hk; omega
   ·obtain ⟨s,_,rfl⟩:=Za.1 hk;show n<n+1;omega
def wG {u:bX} (h:dL u=0):(eN u).Nodup:=by
 have h1:=(wM h).2;rw [xk] at h1;unfold xh at h1;simp only [Bool.and_eq_true,decide_eq_true_eq] at h1;exact h1.2.2.2.1
def Sa {us:List bX} (j:∀ u,u∈us->dL u=0):WI (mW 0 us R5) (bQ 0 us) ((ek 0 us).map jP):=by
 have:=WI.xe us 0 (w:=R5) (L:=[]) (E:=[]) ⟨rfl,rfl,rfl,rfl⟩ (fun u hu=>wG (j u hu)) aj aj
 simpa using this
def Mo {n:Nat} {u:bX} {w:LW}:(Fu n u w).lb=w.lb/\(Fu n u w).num=w.num/\(Fu n u w).tq=w.tq/\(Fu n u w).ne=w.ne:=by
 have h:=N8 n u.aU w;exact ⟨h.1,h.2.1,h.2.2.2.1,h.2.2.2.2⟩
theorem Br:∀ (us:List bX) (n:Nat) (w w':LW),kH n us w=.ok w'->w'.lb=w.lb/\w'.num=w.num/\w'.tq=w.tq/\w'.ne=w.ne
 | [],n,w,w',h=>by
  unfold kH at h;cases h;exact ⟨rfl,rfl,rfl,rfl⟩
 | u::us,n,w,w',h=>by
  rw [kH] at h;split at h
  ·cases h
  ·have h1:=Br us (n+1) _ w' h;have h2:=Mo (n:=n) (u:=u) (w:=w);exact ⟨h1.1.trans h2.1,h1.2.1.trans h2.2.1,h1.2.2.1.trans h2.2.2.1,h1.2.2.2.trans h2.2.2.2⟩
def WI.meet {us:List bX} {n:Nat} {w w':LW} {L:List Lb} {E:List Ky} (i0:WI w L E) (h:kH n us w=.ok w'):WI w' L E:=by
 have:=Br us n w w' h
 exact ⟨this.1.trans i0.lb,this.2.1.trans i0.num,this.2.2.1.trans i0.tq,this.2.2.2.trans i0.ne⟩
def WI.JZ {w:LW} {L:List Lb} {E:List Ky} (i0:WI w L E) (h1:L.length<=2^50) (h2:E.length<=2^50):Pc w:=by
 refine ⟨fun k i h=>?_,fun k i h=>?_⟩
 ·rw [i0.num] at h;obtain ⟨hi,_⟩:=jy h;rw [Y0] at hi;omega
 ·rw [i0.tq] at h;obtain ⟨hi,_⟩:=jy h;omega
def II (u:Nat):(Lib.decDigits u).foldl (fun a b=>a*10+(b.toNat-48)) 0=u:=by
 induction u using Nat.strongRecOn with
 | ind u j =>
  rw [Lib.decDigits];split
  ·next h =>
   have h1:(UInt8.ofNat (48+u)).toNat=48+u:=by rw [UInt8.toNat_ofNat']; omega
   simp only [List.foldl_cons,List.foldl_nil,h1];omega
  ·next h =>
   have h1:(UInt8.ofNat (48+u % 10)).toNat=48+u % 10:=by rw [UInt8.toNat_ofNat']; omega
   rw [ZY,j (u / 10) ad];simp only [List.foldl_cons,List.foldl_nil,h1];omega
def wo (n:Nat):kQ n=⟨(Lib.decDigits n).toArray⟩:=by
 unfold kQ;rw [Lib.itoa_nonneg]
def sx {m n:Nat} (h:kQ m=kQ n):m=n:=by
 rw [wo,wo] at h;have h1:Lib.decDigits m=Lib.decDigits n:=by
  have:=Zl (fun b:Xaa=>b.data.toList) h
  simpa using this
 rw [<- II m,h1,II]
def eD (a b:Xaa):(a++b).data.toList=a.data.toList++b.data.toList:=by
 rw [ByteArray.data_append,Array.toList_append]
def vT {a b c:Xaa} (h:a++b=a++c):b=c:=by
 have h1:=Zl (fun b:Xaa=>b.data.toList) h;simp only [eD] at h1;have h2:=List.append_cancel_left h1;cases b; cases c;simp only at h2
 congr 1
 exact Array.ext' h2
def word_inj {w:LW} {L:List Lb} {E:List Ky} (i0:WI w L E) {k k':Ky} (hk:k∈L.map yG\/k∈E) (G:k'∈L.map yG\/k'∈E) (h:w.word k=w.word k'):k=k':=by
 have u:∀ a b:Xaa,(⟨#[76]⟩:Xaa)++a≠(⟨#[69]⟩:Xaa)++b:=by
  intro a b e;have h1:=Zl (fun b:Xaa=>b.data.toList) e;simp only [eD] at h1;simp at h1
 have U:∀ {k:Ky},k∈L.map yG\/k∈E->w.num k=none->∃ i,w.tq k=some i/\∃ hi:i<E.length,E[i]=k:=by
  intro k hk hn;rw [i0.num] at hn
  have:=oa.1 hn
  have hk:k∈E:=hk.elim (fun h=>absurd h this) id;obtain ⟨i,hi⟩:=AV hk;exact ⟨i,by rw [i0.tq]; exact hi,jy hi⟩
 unfold LW.word at h;cases h1:w.num k with
 | some i =>
  cases h2:w.num k' with
  | some j =>
   rw [h1,h2] at h
   have:=sx (vT h)
   subst this;rw [i0.num] at h1 h2;obtain ⟨a,V⟩:=jy h1;obtain ⟨b,hb⟩:=jy h2;rw [<- V,<- hb]
  | none =>
   rw [h1,h2] at h;exact absurd h (u _ _)
 | none =>
  obtain ⟨i,h3,hi,J⟩:=U hk h1;cases h2:w.num k' with
  | some j =>
   rw [h1,h2] at h;exact absurd h.symm (u _ _)
  | none =>
   obtain ⟨j,h4,X,O⟩:=U G h2;rw [h1,h2] at h;simp only [h3,h4,Option.getD_some] at h
   have:=sx (vT h)
   subst this;rw [<- J,<- O]
def B0 {w:LW} (b:Pc w) (k:Ky):(w.word k).size<=maxLen:=by
 have j:2000<=maxLen:=bZ
 unfold LW.word;cases h:w.num k with
 | some n =>
  have:=jw (n:=n) (by have:=b.n _ _ h; omega)
  show (_++_:Xaa).size<=_;rw [au9]
  have:(⟨#[76]⟩:Xaa).size=1:=rfl
  omega
 | none =>
  have h1:(w.tq k).getD 0<=2^60:=by
   cases h2:w.tq k with
   | none=>simp
   | some i=>have:=b.e _ _ h2; simp; omega
  have:=jw h1
  show (_++_:Xaa).size<=_;rw [au9]
  have:(⟨#[69]⟩:Xaa).size=1:=rfl
  omega
def Ac {w:LW} {u:Nat} {x:ct} (h:w.bad u x=none):∀ t,t∈x.ai->∃ k,w.own u t.1=some k:=by
 unfold LW.bad at h;rw [Option.map_eq_none_iff,List.find?_eq_none] at h;intro t j
 have:=h t j
 cases G:w.own u t.1 with
 | none=>rw [G] at this; simp at this
 | some k=>exact ⟨k,rfl⟩
def H8 {w:LW} {u:Nat} {x:ct} (h:w.bad u x=none):∀ t,t∈(w.lin u x).ai->∃ p k,p∈x.ai/\w.own u p.1=some k/\t.1=w.word k:=by
 intro t O;have hb:=Ac h;rcases rW O with ⟨p,G,J,j⟩ | ⟨p,y,v,G,j,hv,J⟩
 ·obtain ⟨k,hk⟩:=hb p G;rw [J] at hk;rw [hk] at j;cases j
 ·obtain ⟨k,hk⟩:=hb p G;rw [hk] at j;simp only [Option.map_some,Option.some.injEq] at j;subst j;refine ⟨p,k,G,hk,?_⟩;rw [<- J]
  have:v=(w.word k,1):=by simpa [lE] using hv
  rw [this]
def y5 {w:LW} {u:Nat} {x:ct} (h:w.bad u x=none):(w.lin u x).ai.length<=x.ai.length:=by
 have j:Nf (w.lin u x).ai:=eX _ _;have h1:((w.lin u x).ai.map (·.1)).Nodup:=Z3.2 (j.1.imp fun h=>jD h);have h2:=jO ((w.lin u x).ai.map (·.1)) (x.ai.map fun t=>w.word ((w.own u t.1).getD (0,dH))) h1 (fun s hs=>by
  obtain ⟨t,G,rfl⟩:=Za.1 hs;obtain ⟨p,k,J,hk,O⟩:=H8 h t G;rw [O];refine Za.2 ⟨p,J,?_⟩;rw [hk];rfl)
 rwa [Y0,Y0] at h2
def NE {w:LW} (b:Pc w) {u:Nat} {x:ct} (h:w.bad u x=none):∀ t,t∈(w.lin u x).ai->t.1.size<=maxLen:=by
 intro t j;obtain ⟨p,k,_,_,G⟩:=H8 h t j;rw [G];exact B0 b k
def BE {w:LW} {n:Nat} {u:bX} (h:qW w n u=none):(∀ x,x∈u.text->w.bad n x.e=none)/\(∀ x,x∈u.data->w.bad n x.e=none)/\∀ e,e∈u.bh->w.bad n e.2=none:=by
 unfold qW at h;rw [Option.or_eq_none_iff,Option.or_eq_none_iff] at h;obtain ⟨h1,h2,h3⟩:=h;unfold LW.yA at h1 h2;rw [ZN] at h1 h2 h3;exact ⟨h1,h2,h3⟩
theorem jI {w:LW}:∀ (us:List bX) (n:Nat),fK w n us=none->∀ i,(hi:i<us.length)->qW w (n+i) us[i]=none
 | [],n,h,i,hi=>absurd hi aj
 | u::us,n,h,i,hi=>by
  rw [fK] at h;cases hb:qW w n u with
  | some s=>rw [hb] at h; cases h
  | none =>
   rw [hb] at h
   match i with
   | 0=>simpa using hb
   | i+1 =>
    have:=jI us (n+1) h i (by simpa using hi)
    rw [show n+1+i=n+(i+1) from ad] at this;simpa using this
theorem vq:∀ (us:List bX) (n:Nat) (q:Nat × ry),q∈ek n us->∃ i,∃ hi:i<us.length,q.1=n+i/\q.2∈us[i].bh
 | [],n,q,h=>by simp [ek] at h
 | u::us,n,q,h=>by
  rw [ek,Zk] at h;rcases h with h | h
  ·obtain ⟨e,j,rfl⟩:=Za.1 h;exact ⟨0,aj,rfl,j⟩
  ·obtain ⟨i,hi,h1,h2⟩:=vq us (n+1) q h;exact ⟨i+1,by simpa using hi,ad,by simpa using h2⟩
def DH {w:LW} {us:List bX} (h:fK w 0 us=none) {q:Nat × ry} (j:q∈ek 0 us):w.bad q.1 q.2.2=none:=by
 obtain ⟨i,hi,h1,h2⟩:=vq us 0 q j
 have:=(BE (jI us 0 h i hi)).2.2 _ h2
 rw [h1];exact this
theorem Is:∀ (us:List bX) (n:Nat),(∀ u,u∈us->u.bh.length<=8192)->(ek n us).length<=us.length*8192
 | [],n,h=>by simp [ek]
 | u::us,n,h=>by
  rw [ek,Y4,Y0,ZP];have h1:=Is us (n+1) (fun v hv=>h v (by simp [hv]));have h2:=h u aj;omega
theorem wH:∀ (us:List bX) (n:Nat),(∀ u,u∈us->(u.bh.map (·.1)).Nodup)->((ek n us).map jP).Nodup
 | [],n,h=>by simp [ek]
 | u::us,n,h=>by
  rw [ek,Ze,ZX];refine ⟨?_,wH us (n+1) (fun v hv=>h v (by simp [hv])),?_⟩
  ·have:(u.bh.map fun e=>(n,e)).map jP=(u.bh.map (·.1)).map fun s=>(n,s):=by rw [Zv,Zv]; rfl
   rw [this,ax9,Z3];exact (ax9.1 (h u aj)).imp fun h e=>h (bm9 e).2
  ·intro a j b hb e;obtain ⟨q,G,rfl⟩:=Za.1 j;obtain ⟨r,J,rfl⟩:=Za.1 hb;obtain ⟨x,_,rfl⟩:=Za.1 G;obtain ⟨i,_,h1,_⟩:=vq us (n+1) r J
   have:n=r.1:=(bm9 e).1
   omega
theorem Bi:∀ (us:List bX) (n:Nat),((ek n us).map fun q=>q.2.2.ai.length).sum<=((us.flatMap cv).flatMap (·.ai)).length
 | [],n=>by simp [ek]
 | u::us,n=>by
  rw [ek,Ze,cp9,ZG,ab9,Y4];have h1:=Bi us (n+1);have h2:((u.bh.map fun e=>(n,e)).map fun q=>q.2.2.ai.length).sum<=((cv u).flatMap (·.ai)).length:=by
   unfold cv;rw [ab9,Y4,Zv]
   have:∀ l:List ry,(l.map ((fun q:Nat × ry=>q.2.2.ai.length) ∘ fun e=>(n,e))).sum=((l.map (·.2)).flatMap (·.ai)).length:=by
    intro l
    induction l with
    | nil=>rfl
    | cons e l j=>rw [ZF,ZU,ZF,ZG,Y4,j]; rfl
   rw [this];omega
  omega
structure FW (us:List bX):Prop where
 right:∀ u,u∈us->dL u=0
 many:us.length<=64
def FW.bh {us:List bX} (r:FW us) {u:bX} (hu:u∈us):u.bh.length<=8192/\u.text.length+u.data.length<=8192:=by
 have h:=(wM (r.right u hu)).1;unfold vj at h;rw [Bool.or_eq_false_iff] at h;have h1:=Zc h.1;have h2:=Zc h.2;omega
def FW.eqs {us:List bX} (r:FW us):(ek 0 us).length<=2^19:=by
 have h1:=Is us 0 (fun u hu=>(r.bh hu).1);have h2:=r.many;omega
theorem qV (n sec:Nat):∀ (l:List cE) (i:Nat),(nl n sec i l).length<=l.length
 | [],i=>by simp [nl]
 | x::l,i=>by
  have:=qV n sec l (i+1)
  rw [nl,Y4,ZP];split <;> simp <;> omega
theorem Bz:∀ (us:List bX) (n:Nat),(∀ u,u∈us->u.text.length+u.data.length<=8192)->(bQ n us).length<=us.length*8192
 | [],n,h=>by simp [bQ]
 | u::us,n,h=>by
  rw [bQ,Y4,ZP];have h1:=Bz us (n+1) (fun v hv=>h v (by simp [hv]));have h2:=h u aj;have h3:=qV n 0 u.text 0;have h4:=qV n 1 u.data 0;unfold uf;rw [Y4];omega
def FW.dX {us:List bX} (r:FW us):(bQ 0 us).length<=2^19:=by
 have h1:=Bz us 0 (fun u hu=>(r.bh hu).2);have h2:=r.many;omega
def FW.JZ {us:List bX} (r:FW us) {w:LW} (i0:WI w (bQ 0 us) ((ek 0 us).map jP)):Pc w :=
 i0.JZ (by have:=r.dX; omega) (by rw [Y0]; have:=r.eqs; omega)
def Tu {us:List bX} (r:FW us) (sm:Gj us) {w:LW} (i0:WI w (bQ 0 us) ((ek 0 us).map jP)) (hb:fK w 0 us=none) {es:List cK} (h:es.map fk=vG w us):tv es:=by
 have lb:=r.JZ i0;have hn:Sx.aZ es=(ek 0 us).map fun q=>w.word (jP q):=by
  have:=Zl (List.map (·.1)) h
  unfold vG at this;rw [Zv,Zv] at this;exact this
 have hl:es.length=(ek 0 us).length:=by
  have:=Zl List.length h
  unfold vG at this;simpa using this
 have j:∀ e,e∈es->∃ q,q∈ek 0 us/\e.name=w.word (jP q)/\e.x=w.lin q.1 q.2.2:=by
  intro e G;have h1:fk e∈vG w us:=by rw [<- h]; exact Zm G
  unfold vG at h1;obtain ⟨q,J,h2⟩:=Za.1 h1;exact ⟨q,J,(bm9 h2).1.symm,(bm9 h2).2.symm⟩
 have O:(es.flatMap (·.x.ai)).length<=2^20:=by
  have e1:∀ l:List cK,(l.flatMap (·.x.ai)).length=((l.map fk).map (·.2.ai.length)).sum:=by
   intro l
   induction l with
   | nil=>rfl
   | cons e l U=>rw [ZG,Y4,ZF,ZF,ZU,U]; rfl
  rw [e1,h];unfold vG;rw [Zv];have e2:∀ l:List (Nat × ry),(∀ q,q∈l->w.bad q.1 q.2.2=none)->(l.map ((fun p:Xaa × ct=>p.2.ai.length) ∘ fun q=>(w.word (q.1,q.2.1),w.lin q.1 q.2.2))).sum<=(l.map fun q=>q.2.2.ai.length).sum:=by
   intro l hl
   induction l with
   | nil=>simp
   | cons q l U =>
    rw [ZF,ZF,ZU,ZU];have h1:=U (fun p Z=>hl p (by simp [Z]));have h2:=y5 (hl q aj);have h3:((fun p:Xaa × ct=>p.2.ai.length) ∘ fun q:Nat × ry=>(w.word (q.1,q.2.1),w.lin q.1 q.2.2)) q=(w.lin q.1 q.2.2).ai.length:=rfl;omega
  have h1:=e2 (ek 0 us) (fun q J=>DH hb J);have h2:=Bi us 0;have h3:=sm.ai;omega
 refine ⟨⟨?_,?_,?_,?_,?_⟩,O⟩
 ·rw [hn];have h1:=wH us 0 (fun u hu=>by
   have:=wG (r.right u hu)
   unfold eN at this;rw [ZX] at this;exact this.2.1)
  rw [ax9,Z3] at h1 ⊢;refine List.Pairwise.imp_of_mem ?_ h1;intro a b ha V X e;exact X (word_inj i0 (.inr (Zm ha)) (.inr (Zm V)) e)
 ·have:=r.eqs; omega
 ·intro e G;obtain ⟨q,_,h1,_⟩:=j e G;rw [h1];exact B0 lb _
 ·intro e G
  have:=gX (fun e:cK=>e.x.ai) G
  omega
 ·intro e G t Y;obtain ⟨q,J,_,h2⟩:=j e G;rw [h2] at Y;exact NE lb (DH hb J) t Y
def KH {es ms:List cK} (o:tv es) (hc:∀ v,¬ kq (dp es) v) (hm:ms.map (fun m=>(m.name,m.x))=es.map (fun e=>(e.name,eR es e.name))) (hl:es.length<=2^19) :
  EqsOk ms/\(∀ e,e∈ms->e.x.ai.length<=2^20)/\(ms.flatMap (·.x.ai)).length<=2^39/\ms.length<=2^20:=by
 have hn:Sx.aZ ms=Sx.aZ es:=by
  have:=Zl (List.map (·.1)) hm
  rw [Zv,Zv] at this;exact this
 have O:ms.length=es.length:=by
  have:=Zl List.length hm
  simpa using this
 have j:∀ e,e∈ms->e.name∈Sx.aZ es/\e.x=eR es e.name:=by
  intro e u;have h1:(e.name,e.x)∈es.map (fun e=>(e.name,eR es e.name)):=by rw [<- hm]; exact Zm (f:=fun m:cK=>(m.name,m.x)) u
  obtain ⟨q,U,h2⟩:=Za.1 h1;have h3:=(bm9 h2).1;exact ⟨by rw [<- h3]; exact Zm U,by rw [<- (bm9 h2).2,h3]⟩
 have G:∀ e,e∈ms->e.x.ai.length<=2^20:=fun e u=>by rw [(j e u).2]; exact o.DK hc (j e u).1
 refine ⟨⟨by rw [hn]; exact o.nodup,ad,fun e u=>?_,fun e u=>by have:=G e u; omega,fun e u t J=>?_⟩,G,?_,ad⟩
 ·exact o.names _ (j e u).1
 ·rw [(j e u).2] at J;exact o.Li hc (j e u).1 t J
 ·have e1:∀ l:List cK,(∀ e,e∈l->e.x.ai.length<=2^20)->(l.flatMap (·.x.ai)).length<=l.length*2^20:=by
   intro l h
   induction l with
   | nil=>simp
   | cons e l V =>
    rw [ZG,Y4,ZP];have h1:=V (fun d X=>h d (by simp [X]));have h2:=h e aj;omega
  have:=e1 ms G
  omega
def T' (n:Int):Instr.fill (fun j=>some (j*1,1)) ((Array.range (1*1)).map ((Value.int .u8 0).cells[· % (Value.int .u8 0).cells.size]!)) [(0,.int .u8 n)]=some ([.int .u8 n]:List Xab).toArray:=ax
def tV (n:Nat):Xaa:=⟨[UInt8.ofNat (48+n % 10)].toArray⟩
def fX (n:Nat):Xaa:=⟨(Lib.decDigits n).toArray⟩
def zP {n:Nat} (h:n<10):fX n=tV n:=by
 unfold fX tV;rw [Lib.decDigits_one h,bo9 h]
def J7 {n:Nat} (h:¬ n<10) (s:Xaa):fX n++s=fX (n / 10)++(tV n++s):=by
 unfold fX tV
 conv=>lhs; rw [Lib.decDigits,dif_neg h]
 apply xQ;rw [eD,eD,eD];simp [List.append_assoc]
def xF {L:Lp} {K:Xab->Hp->Prop} {h:Hp} {n:Nat} (hn:n<=2^60) {k:Xaa->T} (hk:∀ h',Ext h h'->k (tV n) L K h') :
  T.eh Tryz.prog (Instr.buildSlice 194 1 #[(0,.int .u8 (IntKind.wrap .u8 (IntKind.wrap .i64 ((48:Int)+(Int.tmod (n:Int) (10:Int))))))]) false [(false,[.slice 0])] (fun p3 j u =>
   T.eh Tryz.prog (convert 194 9 (.slice p3 j u)) false [(false,[.string])] k) L K h:=by
 have hw:=Uj n;rw [hw];refine km OW YP ad ad (T' _) ?_;intro h1 b1 e1 z1;have s1:SL h1 h.size 5 1 (some ⟨h.size,0,none⟩) 1 1 (NT [UInt8.ofNat (48+n % 10)]):=⟨rfl,by simp [NT],h.size,[],[],rfl,Zh _,ad,by simpa [NT] using b1,aj⟩
 exact M2 s1 aj (hk h1 e1)
def yP (s:Xaa):((ByteArray.toList s)==([]:List UInt8))=decide (s.data.toList=[]):=by
 rw [ByteArray.toList_eq];cases h:s.data.toList <;> simp
def xc {h:Hp} {n:Nat} (hn:n<=2^60):HC Tryz.prog 74 #[.int .i64 (n:Int)] h fun w h'=>w=.string (fX n)/\Ext h h':=by
 refine bd (args:=[.int .i64 (n:Int)]) mixed Tryz.func74 ax (mf n) ?_;unfold iK br bU bt bY aR;have u:∀ m,(tV m).size=1:=fun m=>rfl
 have j:∀ m s,¬ (tV m++s).data.toList=[]:=fun m s O=>by rw [eD] at O; simp [tV] at O
 refine aX (cs:=[(false,[.int .i64]),(false,[.string])]) (fun y k h'=>∃ (m:Nat) (s:Xaa),y.1=(m:Int)/\y.2.1=s/\k=2*m+(if s.data.toList=[] then 1 else 0)/\m<=n/\s.size+m<=n+1/\Ext h h'/\((s=⟨#[]⟩/\m=n)\/(¬ s.data.toList=[]/\fX n=(if m=0 then ⟨#[]⟩ else fX m)++s))) ((n:Int),(⟨#[]⟩:Xaa),()) _ rfl
  ⟨n,⟨#[]⟩,rfl,rfl,rfl,Zh _,by show 0+n<=n+1; omega,Ch.refl _ _,.inl ⟨rfl,rfl⟩⟩ ?_
 rintro ⟨Y,(s:Xaa),⟨⟩⟩ k h1 ⟨m,s',hi,G,rfl,V,X,e1,hs⟩;simp only at hi G;subst hi G;refine an ?_;have J:IntKind.wrap .i64 (Int.tdiv (m:Int) 10)=((m / 10:Nat):Int):=by
  have:Int.tdiv (m:Int) 10=((m / 10:Nat):Int):=by rw [Int.tdiv_eq_ediv_of_nonneg ad]; omega
  rw [this,wrap_i64 ad ad]
 have U:∀ s:Xaa,(tV m++s).size=1+s.size:=fun s=>by rw [au9,u]
 refine aQ (fun q=>?_) (fun q=>?_)
 ·have hm:¬ m=0:=ad
  refine ay bZ ?_;refine xF ad ?_;intro h2 e2;refine ay (by show ((((tV m).size+s.size:Nat)):Int)<=_; rw [u]; omega) (ay bZ ?_);have hb:fX n=fX m++s:=by
   rcases hs with ⟨rfl,rfl⟩ | ⟨_,hs⟩
   ·apply xQ;rw [eD]
    simp
   ·rw [hs,Y2 hm]
  refine aH (cs:=[(false,[.int .i64]),(false,[.string])]) (((m / 10:Nat):Int),tV m++s,()) (2*(m / 10)+0) rfl ad (Zl (fun z=>[Value.int .i64 z,.string (tV m++s)]) J) ⟨m / 10,tV m++s,rfl,rfl,by rw [Y2 (j m s)],ad,by rw [U]; omega,e1.trans e2,.inr ⟨j m s,?_⟩⟩;rw [hb]
  by_cases h10:m<10
  ·rw [zP h10,Y8 ad];apply xQ;rw [eD,eD,eD]
   simp
  ·rw [J7 h10,Y2 ad]
 ·have hm:m=0:=ad
  subst hm;rw [yP];refine aQ (fun r=>?_) (fun r=>?_)
  ·rcases hs with ⟨rfl,h0⟩ | ⟨O,_⟩
   ·subst h0;refine ay bZ ?_;refine xF ad ?_;intro h2 e2;refine ay bZ (ay bZ ?_);refine aH (cs:=[(false,[.int .i64]),(false,[.string])]) (((0:Nat):Int),tV 0++⟨#[]⟩,()) 0 rfl aj rfl ⟨0,tV 0++⟨#[]⟩,rfl,rfl,by rw [Y2 (j 0 _)],ad,bZ,e1.trans e2,.inr ⟨j 0 _,?_⟩⟩;rw [zP ad,Y8 rfl];apply xQ;rw [eD,eD]
    simp
   ·exact absurd r O
  ·rcases hs with ⟨rfl,_⟩ | ⟨_,hs⟩
   ·exact absurd rfl r
   ·refine ⟨?_,e1⟩;rw [hs,Y8 rfl]
    congr 1
def gz (us:List bX) (n:Nat) (x:ct):Option Xaa:=(x.ai.find? fun t=>(gw us n t.1).isNone).map (·.1)
def du (us:List bX) (n:Nat) (x:ct):Xaa:=(gz us n x).getD ⟨#[]⟩
def Ps (o:Option Nat):decide (QL o<0)=o.isNone:=by
 cases o with
 | none=>rfl
 | some k=>exact Y7 (by show ¬ ((k:Int)<0); omega)
def FD {h:Hp} {p:Xac} {l c:Nat} {us:List bX} (v:uH h p l us) (sz:KO us) {n:Nat} (hn:n<us.length) {q:Xac} {m d:Nat} {x:ct} (u:gW h q m x.ai) (hx:x.ai.length<=2^60) :
  HC Tryz.prog 99 #[.slice p l c,.int .i64 (n:Int),iI q m d x] h fun w h'=>w=.string (du us n x)/\Ext h h':=by
 refine bd (args:=[.slice p l c,.int .i64 (n:Int),.agg #[.slice q m d,.int .u32 x.num]]) mixed Tryz.func99 ax (nh p l c n q m d x.num) ?_;unfold jj bf bk bH aP cH aG bY aR;have Z:=u.len;refine bm ?_;intro h1 b1 e1 z1;refine aX (cs:=[(false,[.string]),(false,[.int .i64])]) (fun y k h'=>∃ i:Nat,y.2.1=(i:Int)/\k=x.ai.length-i/\i<=x.ai.length/\Ext h h'/\Ext h1 h'/\∀ j,j<i->(J:j<x.ai.length)->(gw us n x.ai[j].1).isNone=false) ((⟨#[]⟩:Xaa),(0:Int),()) x.ai.length rfl
  ⟨0,rfl,rfl,ad,e1,Ch.refl _ _,fun j J=>absurd J ad⟩ ?_
 rintro ⟨s4,n5,⟨⟩⟩ k h2 ⟨i,hi,rfl,hle,G,U,O⟩;simp only at hi;subst hi;refine an ?_;have Y:=b1.ak U aj;refine af Y ((q,m,d),()) rfl (an ?_);refine aQ (fun g=>?_) (fun g=>?_)
 ·have V:i<x.ai.length:=ad
  refine af Y ((q,m,d),()) rfl (an ?_);obtain ⟨a,rfl,hc⟩:=(u.ak G aj).cells i V;refine ay ⟨ad,ad⟩ (aw rfl ?_);rw [show Int.toNat (i:Int)=i from ad];refine az (x.ai[i].1,()) ⟨hc.1,trivial⟩ (an ?_);refine aJ (EV (c:=c) (v.ak G) sz hn x.ai[i].1) ?_;rintro _ h3 ⟨rfl,X⟩;refine ⟨(QL (gw us n x.ai[i].1),()),rfl,an ?_⟩;rw [Ps];refine av (fun r=>?_) (fun r=>?_)
  ·refine af (Y.ak X aj) ((some a,m,d),()) rfl (an ?_);refine ay ⟨ad,ad⟩ (aw rfl ?_);refine az (x.ai[i].1,()) ⟨(aT X aj _ _ hc).1,trivial⟩ ?_;refine ⟨?_,G.trans X⟩;unfold du gz;rw [la (fun t:Xaa × Nat=>(gw us n t.1).isNone) x.ai i V (fun j J=>O j J ad) r] <;> rfl
  ·refine aH (cs:=[(false,[.string]),(false,[.int .i64])]) (s4,((i+1:Nat):Int),()) (x.ai.length-(i+1)) rfl ad (by rw [wrap_i64 ad ad]; rfl) ?_;exact ⟨i+1,rfl,rfl,ad,G.trans X,U.trans X,fun j J hx=>by
    by_cases e:j=i
    ·subst e; exact r
    ·exact O j ad hx⟩
 ·have:i=x.ai.length:=ad
  subst this;refine ⟨?_,G⟩;unfold du gz;rw [nM (fun t:Xaa × Nat=>(gw us n t.1).isNone) x.ai fun j J=>O j J J] <;> rfl
def r9 {P:Program} {h:Hp} {L:Lp} {K:Xab->Hp->Prop} {k:Xac->Nat->Nat->T} {t ty e:TypeId} {z:Xab} {sz by':Nat} (Z:P.underlying t=some (.slice e)) (u:(P.info? e).map (fun i=>(i.zero,i.size,i.bytes))=some (some z,sz,by'))
  (J:z.cells.size=sz) {b:Nat} {p:Xac} {l c:Nat} {xs:List (List Xab)} (s:SL h b e sz p l c xs) {q:Xac} {m d:Nat} {ys:List (List Xab)} (G:(q=none/\ys=[])\/∃ a,q=some a/\aI h a 0 ys.flatten) (hm:m=ys.length) (O:∀ y,y∈ys->y.length=sz) (U:ys.flatten.all cO=true)
  (V:(2*(l+m)+1024)*by'<=2^48) (X:l+m<=2^48) (hb:b<=h.size)
  (hk:∀ p' c' h',SL h' b e sz p' (l+m) c' (xs++ys)->Ch (aM p) h h'->k p' (l+m) c' L K h') :
  T.eh P (Builtin.append_ #[t,t] ty #[.slice p l c,.slice q m d]) false [(false,[.slice 0])] k L K h:=by
 obtain ⟨i,hi,hz,rfl,rfl⟩:=oK u;refine dz ?_;rcases G with ⟨rfl,rfl⟩ | ⟨a,rfl,hc⟩
 ·have h0:m=0:=hm;subst h0;have Y:l<=c:=SL.GB s;simp [Builtin.append_,ao,aF Z,cd hi,cI hi,Builtin.lenOf,Builtin.firstCells,Y];have j:∃ p' l' c',Value.slice p l c=.slice p' l' c'/\k p' l' c' L K h:=⟨p,l,c,rfl,by simpa using hk p c h (by simpa using s) (Ch.refl _ _)⟩
  cases p with
  | none=>exact j
  | some a=>exact j
 ·exact ox (P:=P) (K:=fun v h'=>∃ p l c,v=.slice p l c/\k p l c L K h') (ty:=ty) (ys:=ys) Z hi hz J s hm O hc U V X hb fun p' c' h' s' k' _=>⟨p',_,c',rfl,hk p' c' h' s' k'⟩
def mh (us:List bX) (n:Nat) (l:List ct):Xaa:=((l.map (du us n)).find? fun s=>!decide (s.data.toList=[])).getD ⟨#[]⟩
def HY {us:List bX} {n:Nat} {l:List ct} {i:Nat} (hi:i<l.length) (h:∀ j,(u:j<i)->(du us n (l[j]'ad)).data.toList=[]) (hs:¬ (du us n l[i]).data.toList=[]):mh us n l=du us n l[i]:=by
 unfold mh;rw [la (fun s:Xaa=>!decide (s.data.toList=[])) (l.map (du us n)) i (by rw [Y0]; exact hi) (fun j u=>by rw [Zb]; simp [h j u]) (by rw [Zb]; simpa using hs)];rw [Zb] <;> rfl
def Bj {us:List bX} {n:Nat} {l:List ct} (h:∀ j,(u:j<l.length)->(du us n l[j]).data.toList=[]):mh us n l=⟨#[]⟩:=by
 unfold mh;rw [nM (fun s:Xaa=>!decide (s.data.toList=[])) (l.map (du us n)) fun j u=>by
  rw [Y0] at u;rw [Zb];simp [h j u]]
 rfl
def C' {h:Hp} {p:Xac} {l c:Nat} {us:List bX} (v:uH h p l us) (sz:KO us) {n:Nat} (hn:n<us.length) :
  HC Tryz.prog 72 #[.slice p l c,.int .i64 (n:Int)] h fun w h'=>w=.string (mh us n (cv us[n]))/\Ext h h':=by
 refine bd (args:=[.slice p l c,.int .i64 (n:Int)]) mixed Tryz.func72 ax (kh p l c n) ?_;unfold gk bf bk bH aP gS br aG bj bY aR;have hll:=v.len;have hmany:=sz.many;obtain ⟨a,sa,sb,sc,sd,rfl,hc,va⟩:=v.cells n hn;have hm:=Y9 hn;generalize us[n]=u at hc va hm;refine ay ⟨ad,ad⟩ (aw rfl ?_);rw [show Int.toNat (n:Int)=n from ad];refine az ((sa.p,sa.l,sa.c),(sb.p,sb.l,sb.c),(sc.p,sc.l,sc.c),(sd.p,sd.l,sd.c),()) hc (an ?_);refine bm ?_;intro h1 b1 e1 z1;refine ar b1 rfl aj ?_;intro h2 b2 k2 z2;have b2:bF h2 h.size 47 [sa.v,sb.v,sc.v,sd.v]:=b2;have e2:Ext h h2:=bR e1 k2;refine af b2 ((sa.p,sa.l,sa.c),()) rfl (an ?_);rw [aE];refine af b2 ((sb.p,sb.l,sb.c),()) rfl (an ?_);have va2:=va.ak e2;obtain ⟨wt,hwt,vwt,iwt⟩:=C3 va2.text;obtain ⟨wd,hwd,vwd,iwd⟩:=C3 va2.data;have hlt:wt.length=u.text.length:=by rw [<- hwt,Y0]
 have hld:wd.length=u.data.length:=by rw [<- hwd,Y0]
 have h1t:=sz.text u hm;have h1d:=sz.data u hm;have h1e:=sz.bh u hm;have hlvt:=vwt.len;have hlvd:=vwd.len;refine Il (z:=.agg iz.toArray) (sz:=10) (by':=104) AU Er ?_;intro h3 s3 e3;have z3:=e3.size;have z2':=e2.size;have b3:=b2.ak e3 aj;refine ⟨⟨b3.cells _ rfl,b3.cells _ rfl,trivial⟩,?_⟩;have esrc:∀ {h h':Hp} {q:Xac} {us:List (cz × cE)},Ext h h'->((q=none/\us.map tp=[])\/∃ a,q=some a/\aI h a 0 (us.map tp).flatten)->((q=none/\us.map tp=[])\/∃ a,q=some a/\aI h' a 0 (us.map tp).flatten):=by
  rintro h h' q us e (x | ⟨a,ha,hc⟩)
  ·exact .inl x
  ·exact .inr ⟨a,ha,aT e aj _ _ hc⟩
 refine r9 (z:=.agg iz.toArray) (sz:=10) (by':=104) AU Er rfl s3 (esrc e3 vwt.src) (by simpa using hlvt) (n' wt) (oQ wt) ad ad ad ?_;intro p4 c4 h4 s4 k4;have e4:Ext h2 h4:=Ch.trans e3 k4 (fun j G hl=>by simp [aM] at G; omega);have b4:=b2.ak e4 aj;have z4:=e4.size;rw [aq9] at s4;refine ⟨⟨b4.cells _ rfl,trivial⟩,?_⟩;refine r9 (z:=.agg iz.toArray) (sz:=10) (by':=104) AU Er rfl s4 (esrc e4 vwd.src) (by simpa using hlvd) (n' wd) (oQ wd) ad ad ad ?_;intro p5 c5 h5 s5 k5;have e5:Ext h2 h5:=Ch.trans e4 k5 (fun j G hl=>by have:=(s4.cr G).1; omega);have b5:=b2.ak e5 aj;rw [<- Ze] at s5;refine ⟨⟨b5.cells _ rfl,trivial⟩,?_⟩;have e05:=e2.trans e5;have hI:∀ w,w∈wt++wd->iT h5 w.1.p w.1.l w.2:=fun w hw=>by
  rcases Zk.1 hw with hw | hw
  ·exact (iwt w hw).ak e5
  ·exact (iwd w hw).ak e5
 have hE:(wt++wd).map (fun w=>w.2.e)=u.text.map (·.e)++u.data.map (·.e):=by
  rw [Ze,<- hwt,<- hwd,Zv,Zv] <;> rfl
 have J:cv u=(wt++wd).map (fun w=>w.2.e)++u.bh.map (·.2):=by rw [hE]; rfl
 have hwl:(wt++wd).length=sa.l+sb.l:=by rw [Y4]; omega
 generalize wt++wd=W at s5 hI J hwl;clear hE;refine aX (cs:=[(false,[.string]),(false,[.int .i64])]) (fun y k h'=>∃ i:Nat,y.2.1=(i:Int)/\k=W.length-i/\i<=W.length/\Ext h5 h'/\∀ j,j<i->(G:j<W.length)->(du us n W[j].2.e).data.toList=[]) ((⟨#[]⟩:Xaa),(0:Int),()) W.length rfl
  ⟨0,rfl,rfl,ad,Ch.refl _ _,fun j G=>absurd G ad⟩ ?_
 rintro ⟨s31,n32,⟨⟩⟩ k h6 ⟨i,hi,rfl,hle,e6,Y⟩;simp only at hi;subst hi;refine an ?_;have s6:=s5.bM e6 aj;have e06:=e05.trans e6;have b6:=b5.ak e6 aj;refine aQ (fun g=>?_) (fun g=>?_)
 ·have O:i<W.length:=ad
  obtain ⟨a6,rfl,hc6⟩:=SL.cells s6 (i:=i) (by rw [Y0]; exact O);rw [Zb] at hc6;have hiw:=(hI _ (Y9 O)).ak e6;refine ay ⟨ad,ad⟩ (aw rfl ?_);rw [show Int.toNat (i:Int)=i from ad];refine az ((W[i].1.p,W[i].1.l,W[i].1.c),(W[i].2.e.num:Int),()) ⟨by rw [add_add]; exact hc6.2.2.2.2.2.2.2.1,by rw [add_add]; exact hc6.2.2.2.2.2.2.2.2.1,trivial⟩ ?_;refine an ?_;refine aJ (FD (c:=c) (d:=W[i].1.c) (v.ak e06) sz hn hiw.lin.vw hiw.lin.many) ?_;rintro _ h7 ⟨rfl,e7⟩;refine ⟨(du us n W[i].2.e,()),rfl,an ?_⟩;rw [yP];refine av (fun r=>?_) (fun r=>?_)
  ·have r:¬ (du us n W[i].2.e).data.toList=[]:=by simpa using r
   refine ⟨?_,e06.trans e7⟩;rw [J,HY (i:=i) (by rw [Y4,Y0]; omega) (fun j G=>by
    rw [Z1 (by rw [Y0]; omega),Zb];exact Y j G ad) (by
    rw [Z1 (by rw [Y0]; omega),Zb];exact r)]
   rw [Z1 (by rw [Y0]; omega),Zb]
  ·have r:(du us n W[i].2.e).data.toList=[]:=by simpa using r
   refine aH (cs:=[(false,[.string]),(false,[.int .i64])]) (s31,((i+1:Nat):Int),()) (W.length-(i+1)) rfl ad (by rw [wrap_i64 ad ad]; rfl) ?_;exact ⟨i+1,rfl,rfl,ad,e6.trans e7,fun j G hx=>by
    by_cases e:j=i
    ·subst e; exact r
    ·exact Y j ad hx⟩
 ·have hiW:i=W.length:=ad
  subst hiW;have veq:=va.bh;have hlq:=veq.len;refine aX (cs:=[(false,[.string]),(false,[.int .i64])]) (fun y k h'=>∃ i:Nat,y.2.1=(i:Int)/\k=u.bh.length-i/\i<=u.bh.length/\Ext h5 h'/\∀ j,j<i->(G:j<u.bh.length)->(du us n u.bh[j].2).data.toList=[]) (s31,(0:Int),()) u.bh.length rfl
   ⟨0,rfl,rfl,ad,e6,fun j G=>absurd G ad⟩ ?_
  rintro ⟨s33,n34,⟨⟩⟩ k h7 ⟨i,hi,rfl,hle,e7,U⟩;simp only at hi;subst hi;refine an ?_;have b7:=b5.ak e7 aj;have Z:=e05.trans e7;rw [aE];refine af b7 ((sc.p,sc.l,sc.c),()) rfl (an ?_);refine aQ (fun g=>?_) (fun g=>?_)
  ·have O:i<u.bh.length:=ad
   refine af b7 ((sc.p,sc.l,sc.c),()) rfl (an ?_);obtain ⟨aq,q,m,d,haq,hcq,hvq,_⟩:=(veq.ak Z).cells i O;refine ay ⟨ad,ad⟩ (aw haq ?_);rw [show Int.toNat (i:Int)=i from ad];refine az ((q,m,d),(u.bh[i].2.num:Int),()) ⟨by rw [add_add]; exact hcq.2.1,by rw [add_add]; exact hcq.2.2.1,trivial⟩ ?_;refine an ?_;refine aJ (FD (c:=c) (d:=d) (v.ak Z) sz hn hvq.vw hvq.many) ?_;rintro _ h8 ⟨rfl,e8⟩;refine ⟨(du us n u.bh[i].2,()),rfl,an ?_⟩;rw [yP];have V:(W.map fun w=>w.2.e).length=W.length:=Y0 _;refine av (fun r=>?_) (fun r=>?_)
   ·have r:¬ (du us n u.bh[i].2).data.toList=[]:=by simpa using r
    refine ⟨?_,Z.trans e8⟩;have X:∀ j (G:j<u.bh.length),((W.map fun w=>w.2.e)++u.bh.map (·.2))[W.length+j]'(by rw [Y4,Y0,Y0]; omega)=u.bh[j].2:=fun j G=>by
     rw [aj9 (by rw [V]; omega)];simp [V]
    rw [J,HY (i:=W.length+i) (by rw [Y4,Y0,Y0]; omega) (fun j G=>by
     by_cases hjW:j<W.length
     ·rw [Z1 (by rw [V]; omega),Zb];exact Y j ad hjW
     ·have:=X (j-W.length) ad
      simp only [show W.length+(j-W.length)=j from ad] at this;rw [this];exact U _ ad _) (by rw [X i O]; exact r),X i O]
   ·have r:(du us n u.bh[i].2).data.toList=[]:=by simpa using r
    refine aH (cs:=[(false,[.string]),(false,[.int .i64])]) (s33,((i+1:Nat):Int),()) (u.bh.length-(i+1)) rfl ad (by rw [wrap_i64 ad ad]; rfl) ?_;exact ⟨i+1,rfl,rfl,ad,e7.trans e8,fun j G hx=>by
     by_cases e:j=i
     ·subst e; exact r
     ·exact U j ad hx⟩
  ·have hie:i=u.bh.length:=ad
   subst hie;refine ⟨?_,Z⟩;rw [J,Bj fun j G=>by
    rw [Y4,Y0,Y0] at G
    by_cases hjW:j<W.length
    ·rw [Z1 (by rw [Y0]; omega),Zb];exact Y j hjW hjW
    ·rw [aj9 (by rw [Y0]; omega),Zb];exact U _ (by simp; omega) _]
theorem jW {α:Type} (f:Nat->Option α) (x:α):∀ (n i:Nat),i<n->(∀ j,j<i->f j=none)->f i=some x->(List.range n).findSome? f=some x
 | 0,i,hi,_,_=>absurd hi ad
 | n+1,i,hi,h0,hx=>by
  rw [cs9,ce9]
  by_cases h:i<n
  ·rw [jW f x n i h h0 hx] <;> rfl
  ·have:i=n:=ad
   subst this;have hn:(List.range i).findSome? f=none:=by
    rw [ZN];intro j u;exact h0 j (aw9.1 u)
   rw [hn];simp [hx]
def fI {α:Type} (f:Nat->Option α) (n:Nat) (h:∀ j,j<n->f j=none):(List.range n).findSome? f=none:=by
 rw [ZN];intro j u;exact h j (aw9.1 u)
def tz (us:List bX) (i:Nat):Option (Nat × Xaa):=us[i]?.bind fun u=>(u.aU.find? fun s=>(us.take i).any fun v=>fZ v.aU s).map fun s=>(i,s)
def za (us:List bX):Option (Nat × Xaa):=(List.range us.length).findSome? (tz us)
def vZ (us:List bX) (i:Nat):Option (Nat × Xaa):=us[i]?.bind fun u=>if (mh us i (cv u)).data.toList=[] then none else some (i,mh us i (cv u))
def Fe (us:List bX):Option (Nat × Xaa):=(List.range us.length).findSome? (vZ us)
def eG (us:List bX):Fl :=
 if us.length=0 then ⟨25,0,dH⟩
 else if 64<us.length then ⟨4,0,dH⟩
 else match us.findIdx? fun u=>decide (dL u≠0) with
 | some n=>⟨31,n,dH⟩
 | none=>match za us with
  | some q=>⟨22,q.1,q.2⟩
  | none=>match Fe us with
   | some q=>⟨23,q.1,q.2⟩
   | none=>⟨0,0,dH⟩
def O5 (f:Fl):Xab:=.agg #[.int .i64 (f.nQ:Int),.int .i64 (f.unit:Int),.string f.name]
def rZ {L:Lp} {K:Xab->Hp->Prop} {h0 h:Hp} {g:Nat} {a b:Int} {s:Xaa} (bx:bF h g 75 [.int .i64 a,.int .i64 b,.string s]) (e0:Ext h0 h) (U:h0.size<=g) (f:Fl) (hk:∀ h',Ext h0 h'->K (O5 f) h') :
  T.aC ⟨g,0,none⟩ [.int .i64 (f.nQ:Int),.int .i64 (f.unit:Int),.string f.name] (T.ah ⟨g,0,none⟩ [.int .i64,.int .i64,.string] fun (u:Int) (G:Int) (J:Xaa)=>T.ret (.agg #[.int .i64 u,.int .i64 G,.string J])) L K h:=by
 refine ar bx rfl aj ?_;intro h2 j O z2;have j:bF h2 g 75 [.int .i64 (f.nQ:Int),.int .i64 (f.unit:Int),.string f.name]:=j;refine af j ((f.nQ:Int),(f.unit:Int),f.name,()) rfl ?_;exact hk h2 (bR e0 O)
def KO.of {us:List bX} (j:us.length<=64) (G:∀ u,u∈us->dL u=0):KO us:=by
 have r:FW us:=⟨G,j⟩
 refine ⟨ad,fun u hu=>?_,fun u hu=>?_,fun u hu=>?_⟩ <;> have:=r.bh hu <;> omega
def HE {h : Hp} {p : Xac} {l c : Nat} {us : List bX} (v : uH h p l us) : HC Tryz.prog 48 #[.slice p l c] h fun w h' => w = O5 (eG us) /\ Ext h h' := by
  refine bd (args := [.slice p l c]) mixed Tryz.func48 ax (lH p l c) ?_;unfold iw bf bk bH aP aY cH gS bY aR;have hll := v.len;refine bm ?_;intro h1 b1 e1 z1;refine av (fun g => ?_) (fun g => ?_)
  · have g : l = 0 := by have : (l : Int) = 0 := by simpa using g
                         omega
    refine rZ b1 e1 (Zh _) ⟨25, 0, dH⟩ fun h' e' => ⟨?_, e'⟩
    unfold eG;rw [Y8 ad]
  have U : ¬ us.length = 0 := by
    intro hh;have : l = 0 :=ad
    subst this;cases g
  refine av (fun V => ?_) (fun V => ?_)
  · have V := Y5 V
    refine rZ b1 e1 (Zh _) ⟨4, 0, dH⟩ fun h' e' => ⟨?_, e'⟩
    unfold eG;rw [Y2 U, Y8 ad]
  have V := Zc V;have h64 : ¬ 64 < us.length :=ad
  refine aX (cs := [(false, [.int .i64])]) (fun y k h' => ∃ i : Nat, y.1 = (i : Int) /\ k = us.length - i /\ i <= us.length /\ Ext h1 h' /\ ∀ j, j < i -> (G : j < us.length) -> dL us[j] = 0) ((0 : Int), ()) us.length rfl
    ⟨0, rfl, rfl, ad, Ch.refl _ _, fun j G => absurd G ad⟩ ?_
  rintro ⟨n2, ⟨⟩⟩ k h2 ⟨i, hi, rfl, hle, e2, hr⟩;simp only at hi;subst hi;refine an ?_;have b2 := b1.ak e2 aj;have e02 := e1.trans e2;refine av (fun q => ?_) (fun q => ?_)
  · have q := Y5 q
    have hil : i < us.length :=ad
    obtain ⟨a, sa, sb, sc, sd, rfl, hc, va⟩ := (v.ak e02).cells i hil;refine ay ⟨ad, ad⟩ (aw rfl ?_);rw [show Int.toNat (i : Int) = i from ad];refine az ((sa.p, sa.l, sa.c), (sb.p, sb.l, sb.c), (sc.p, sc.l, sc.c), (sd.p, sd.l, sd.c), ()) hc (an ?_);refine aJ (JV va) ?_;rintro _ h3 ⟨rfl, e3⟩;refine ⟨(((dL us[i] : Nat) : Int), ()), rfl, an ?_⟩;refine av (fun r => ?_) (fun r => ?_)
    · have r : ¬ dL us[i] = 0 := by
        intro hh;rw [hh] at r;cases r
      refine rZ (b2.ak e3 aj) (e02.trans e3) (Zh _) ⟨31, i, dH⟩ fun h' e' => ⟨?_, e'⟩
      unfold eG
      rw [Y2 U, Y2 h64, show us.findIdx? (fun u => decide (dL u ≠ 0)) = some i from by
        rw [Zs];exact ⟨hil, Y6 r, fun j G => by simp [hr j G ad]⟩]
    · have r : dL us[i] = 0 := by
        have : ((dL us[i] : Nat) : Int) = 0 := by simpa using r
        omega
      refine aH (cs := [(false, [.int .i64])]) (((i + 1 : Nat) : Int), ()) (us.length - (i + 1)) rfl ad (by rw [wrap_i64 ad ad]; rfl) ?_
      exact ⟨i + 1, rfl, rfl, ad, e2.trans e3, fun j G hx => by
        by_cases e : j = i
        · subst e; exact r
        · exact hr j ad hx⟩
  have q := Zc q
  have hR : ∀ u, u ∈ us -> dL u = 0 := fun u hu => by
    obtain ⟨j, G, rfl⟩ := Zu hu;exact hr j ad G
  have sz := KO.of ad hR
  have hfi : us.findIdx? (fun u => decide (dL u ≠ 0)) = none := by
    rw [ZB];intro u hu;rw [hR u hu];decide
  clear hr
  refine aX (cs := [(false, [.int .i64])]) (fun y k h' => ∃ i : Nat, y.1 = (i : Int) /\ k = us.length - i /\ i <= us.length /\ Ext h1 h' /\ ∀ j, j < i -> tz us j = none) ((0 : Int), ()) us.length rfl
    ⟨0, rfl, rfl, ad, e2, fun j G => absurd G ad⟩ ?_
  rintro ⟨n3, ⟨⟩⟩ k h3 ⟨i3, hi, rfl, hle3, e3, hd3⟩;simp only at hi;subst hi;refine an ?_;have hw3 := iA i3;refine av (fun q3 => ?_) (fun q3 => ?_)
  · have q3 := Y5 q3
    have X : i3 < us.length :=ad
    have Y : us[i3]? = some us[i3] := Y1 X;obtain ⟨a3, sa, sb, sc, sd, rfl, hc3, va3⟩ := v.cells i3 X;generalize us[i3] = u at Y hc3 va3;have hgm := va3.aU.many;have hgl := va3.aU.len
    refine aX (cs := [(false, [.int .i64])]) (fun y k h' => ∃ i : Nat, y.1 = (i : Int) /\ k = u.aU.length - i /\ i <= u.aU.length /\ Ext h1 h' /\ ∀ j, j < i -> (G : j < u.aU.length) -> ((us.take i3).any fun v => fZ v.aU u.aU[j]) = false) ((0 : Int), ()) u.aU.length rfl
      ⟨0, rfl, rfl, ad, e3, fun j G => absurd G ad⟩ ?_
    rintro ⟨n4, ⟨⟩⟩ k h4 ⟨i4, hi, rfl, hle4, e4, hd4⟩;simp only at hi;subst hi;refine an ?_;have hw4 := iA i4;have Z := e1.trans e4;have hcg : ∀ {h' : Hp}, Ext h h' -> aI h' ((a3.add (i3 * 4)).add 3) 0 [.slice sd.p sd.l sd.c] := fun e => ⟨by rw [add_add]; exact (aT e aj _ _ hc3).2.2.2.1, trivial⟩
    refine ay ⟨ad, ad⟩ (aw rfl ?_);rw [show Int.toNat (i3 : Int) = i3 from ad];refine az ((sd.p, sd.l, sd.c), ()) (hcg Z) (an ?_);refine aQ (fun q4 => ?_) (fun q4 => ?_)
    · have J : i4 < u.aU.length :=ad
      have hsg : u.aU[i4]? = some u.aU[i4] := Y1 J;obtain ⟨ag, hag, hcs, _⟩ := va3.aU.cells i4 J
      refine aX (cs := [(false, [.int .i64])]) (fun y k h' => ∃ i : Nat, y.1 = (i : Int) /\ k = i3 - i /\ i <= i3 /\ Ext h1 h' /\ ∀ j, j < i -> (G : j < us.length) -> fZ us[j].aU u.aU[i4] = false) ((0 : Int), ()) i3 rfl
        ⟨0, rfl, rfl, ad, e4, fun j G => absurd G ad⟩ ?_
      rintro ⟨n9, ⟨⟩⟩ k h5 ⟨i5, hi, rfl, hle5, e5, hd5⟩;simp only at hi;subst hi;refine an ?_;have hw5 := iA i5;have O := e1.trans e5;have b5 := b1.ak e5 aj;refine aQ (fun q5 => ?_) (fun q5 => ?_)
      · have hil5 : i5 < us.length :=ad
        obtain ⟨a5, ta, tb, tc, td, ha5, hc5, va5⟩ := (v.ak O).cells i5 hil5;refine ay ⟨ad, ad⟩ (aw ha5 ?_);rw [show Int.toNat (i5 : Int) = i5 from ad];refine az ((td.p, td.l, td.c), ()) ⟨by rw [add_add]; exact hc5.2.2.2.1, trivial⟩ ?_;refine an ?_;refine ay ⟨ad, ad⟩ (aw rfl ?_);refine az ((sd.p, sd.l, sd.c), ()) (hcg O) (an ?_);refine ay ⟨ad, ad⟩ (aw hag ?_);rw [show Int.toNat (i4 : Int) = i4 from ad];refine az (u.aU[i4], ()) (aT O aj _ _ hcs) (an ?_)
        refine aK (I2 va5.aU.len (fun j G => by
          obtain ⟨a, ha, hc, _⟩ := va5.aU.cells j G;exact ⟨a, ha, hc⟩) (by have := va5.aU.many; omega) u.aU[i4]) ?_
        refine ⟨⟨hcg O, trivial⟩, ?_⟩;refine av (fun r => ?_) (fun r => ?_)
        · refine ay ⟨ad, ad⟩ (aw rfl ?_)
          refine az ((sd.p, sd.l, sd.c), ()) (hcg O) (an ?_);refine ay ⟨ad, ad⟩ (aw hag ?_);refine az (u.aU[i4], ()) (aT O aj _ _ hcs) (an ?_);refine rZ b5 O (Zh _) ⟨22, i3, u.aU[i4]⟩ fun h' e' => ⟨?_, e'⟩
          have hda : tz us i3 = some (i3, u.aU[i4]) := by
            unfold tz
            rw [Y, Z6, la (fun s => (us.take i3).any fun v => fZ v.aU s) u.aU i4 J (fun j G => hd4 j G ad) (by
              rw [as9];exact ⟨us[i5], List.mem_take_iff_getElem.2 ⟨i5, ad, rfl⟩, r⟩)]
            rfl
          unfold eG za;rw [Y2 U, Y2 h64, hfi, jW _ _ _ i3 X hd3 hda]
        · refine aH (cs := [(false, [.int .i64])]) (((i5 + 1 : Nat) : Int), ()) (i3 - (i5 + 1)) rfl ad (Zl (fun z => [Value.int .i64 z]) hw5) ⟨i5 + 1, rfl, rfl, ad, e5, fun j G hx => ?_⟩
          by_cases e : j = i5
          · subst e; exact r
          · exact hd5 j ad hx
      · have : i5 = i3 :=ad
        subst this;refine aH (cs := [(false, [.int .i64])]) (((i4 + 1 : Nat) : Int), ()) (u.aU.length - (i4 + 1)) rfl ad (Zl (fun z => [Value.int .i64 z]) hw4) ⟨i4 + 1, rfl, rfl, ad, e5, fun j G hx => ?_⟩
        by_cases e : j = i4
        · subst e
          rw [List.any_eq_false];intro w hw;obtain ⟨j5, hj5, rfl⟩ := List.mem_take_iff_getElem.1 hw;rw [hd5 j5 ad ad]
          simp
        · exact hd4 j ad hx
    · have : i4 = u.aU.length :=ad
      subst this;refine aH (cs := [(false, [.int .i64])]) (((i3 + 1 : Nat) : Int), ()) (us.length - (i3 + 1)) rfl ad (Zl (fun z => [Value.int .i64 z]) hw3) ⟨i3 + 1, rfl, rfl, ad, e4, fun j G => ?_⟩
      by_cases e : j = i3
      · subst e
        unfold tz;rw [Y, Z6, nM _ u.aU fun j G => hd4 j G G] <;> rfl
      · exact hd3 j ad
  have q3 := Zc q3;have hdn : za us = none := fI _ _ fun j G => hd3 j ad
  refine aX (cs := [(false, [.int .i64])]) (fun y k h' => ∃ i : Nat, y.1 = (i : Int) /\ k = us.length - i /\ i <= us.length /\ Ext h1 h' /\ ∀ j, j < i -> vZ us j = none) ((0 : Int), ()) us.length rfl
    ⟨0, rfl, rfl, ad, e3, fun j G => absurd G ad⟩ ?_
  rintro ⟨n4, ⟨⟩⟩ k h4 ⟨i4, hi, rfl, hle4, e4, hu4⟩;simp only at hi;subst hi;refine an ?_;have hw4 := iA i4;have Z := e1.trans e4;have b4 := b1.ak e4 aj;refine aQ (fun q4 => ?_) (fun q4 => ?_)
  · have J : i4 < us.length :=ad
    have Y : us[i4]? = some us[i4] := Y1 J;refine aJ (C' (c := c) (v.ak Z) sz J) ?_;rintro _ h5 ⟨rfl, e5⟩;refine ⟨(mh us i4 (cv us[i4]), ()), rfl, an ?_⟩;rw [yP]
    have hun : vZ us i4 = if (mh us i4 (cv us[i4])).data.toList = [] then none else some (i4, mh us i4 (cv us[i4])) := by
      unfold vZ;rw [Y, Z6]
    refine av (fun r => ?_) (fun r => ?_)
    · have r : ¬ (mh us i4 (cv us[i4])).data.toList = [] := by simpa using r
      rw [Y2 r] at hun;refine rZ (b4.ak e5 aj) (Z.trans e5) (Zh _) ⟨23, i4, mh us i4 (cv us[i4])⟩ fun h' e' => ⟨?_, e'⟩
      unfold eG Fe;rw [Y2 U, Y2 h64, hfi, hdn, jW _ _ _ i4 J hu4 hun]
    · have r : (mh us i4 (cv us[i4])).data.toList = [] := by simpa using r
      rw [Y8 r] at hun;refine aH (cs := [(false, [.int .i64])]) (((i4 + 1 : Nat) : Int), ()) (us.length - (i4 + 1)) rfl ad (Zl (fun z => [Value.int .i64 z]) hw4) ⟨i4 + 1, rfl, rfl, ad, e4.trans e5, fun j G => ?_⟩
      by_cases e : j = i4
      · subst e; exact hun
      · exact hu4 j ad
  · refine rZ b4 Z (Zh _) ⟨0, 0, dH⟩ fun h' e' => ⟨?_, e'⟩
    unfold eG Fe;rw [Y2 U, Y2 h64, hfi, hdn, fI _ _ fun j G => hu4 j ad]
theorem Oj (n:Nat):∀ (l:List Xaa) (w:LW) (s:Xaa),(l.foldl (uP n) w).gl s=if fZ l s=true then some n else w.gl s
 | [],w,s=>by simp [fZ]
 | a::l,w,s=>by
  rw [ZH,Oj n l (uP n w a) s];have h1:fZ (a::l) s=(decide (a=s) || fZ l s):=by unfold fZ; rw [List.any_cons]
  have h2:(uP n w a).gl s=if a=s then some n else w.gl s:=by
   show dF w.gl a n s=_;unfold dF
   by_cases h:s=a
   ·rw [Y8 h,Y8 h.symm]
   ·rw [Y2 h,Y2 fun e=>h e.symm]
  rw [h1,h2]
  by_cases j:a=s <;> by_cases hl:fZ l s=true <;> simp [j,hl]
def PC (us:List bX) (s:Xaa):Option Nat:=us.findIdx? fun u=>fZ u.aU s
def N7 (us:List bX) (s:Xaa):(PC us s).isSome=us.any fun u=>fZ u.aU s:=by
 unfold PC;rw [List.findIdx?_isSome]
theorem Eo (us:List bX):∀ (k n:Nat) (w:LW),us.length-n=k->n<=us.length->(∀ s,w.gl s=PC (us.take n) s)->(∀ j,j<n->tz us j=none) ->
  match kH n (us.drop n) w with
  | .error q=>za us=some q
  | .ok w'=>za us=none/\∀ s,w'.gl s=PC us s
 | 0,n,w,hk,hn,J,O=>by
  have:n=us.length:=ad
  subst this;rw [al9];rw [ZA] at J;exact ⟨fI _ _ O,J⟩
 | k+1,n,w,hk,hn,J,O=>by
  have u:n<us.length:=ad
  rw [Zg u];unfold kH;have U:us[n]?=some us[n]:=Y1 u;have Z:(fun g=>(w.gl g).isSome)=fun g=>(us.take n).any fun v=>fZ v.aU g:=by
   funext g
   rw [J,N7]
  have G:tz us n=(us[n].aU.find? fun g=>(w.gl g).isSome).map fun s=>(n,s):=by
   unfold tz;rw [U,Z6,Z]
  cases hx:us[n].aU.find? fun g=>(w.gl g).isSome with
  | some g =>
   rw [hx] at G;exact jW _ _ _ n u O G
  | none =>
   rw [hx] at G;refine Eo us k (n+1) (Fu n us[n] w) ad u (fun s=>?_) (fun j hj=>?_)
   ·unfold Fu;rw [Oj,Y3 u];unfold PC;rw [bf9];have h0:=J s;unfold PC at h0;rw [<- h0]
    by_cases hi:fZ us[n].aU s=true
    ·rw [Y8 hi];have hm:s∈us[n].aU:=by
      unfold fZ at hi;obtain ⟨x,V,X⟩:=as9.1 hi;rw [<- Y5 X]; exact V
     have:=List.find?_eq_none.1 hx s hm
     have Y:w.gl s=none:=by
      cases hq:w.gl s with
      | none=>rfl
      | some q=>rw [hq] at this; exact absurd rfl this
     rw [Y];simp [List.findIdx?_cons,hi,List.length_take];omega
    ·rw [Y2 hi];cases w.gl s <;> simp [List.findIdx?_cons,hi]
   ·by_cases e:j=n
    ·subst e; exact G
    ·exact O j ad
theorem xo (s:Xaa) (n:Nat):∀ (us:List bX) (m:Nat),(n,s)∈(bQ m us).map yG↔∃ u,m<=n/\us[n-m]?=some u/\(s∈dX u.text\/s∈dX u.data)
 | [],m=>by simp [bQ]
 | u::us,m=>by
  rw [bQ,Ze,Zk,xo s n us (m+1)];unfold uf;rw [Ze,qA,qA,Zk,Za,Za];constructor
  ·rintro ((⟨x,hx,j⟩ | ⟨x,hx,j⟩) | ⟨v,h1,h2,h3⟩)
   ·cases j;exact ⟨u,Zh _,aj,.inl hx⟩
   ·cases j;exact ⟨u,Zh _,aj,.inr hx⟩
   ·refine ⟨v,ad,?_,h3⟩;rw [show n-m=(n-(m+1))+1 from ad];exact h2
  ·rintro ⟨v,h1,h2,h3⟩
   by_cases e:n=m
   ·subst e;rw [cl9] at h2;cases h2;rcases h3 with h3 | h3
    ·exact .inl (.inl ⟨s,h3,rfl⟩)
    ·exact .inl (.inr ⟨s,h3,rfl⟩)
   ·refine .inr ⟨v,ad,?_,h3⟩;rw [show n-m=(n-(m+1))+1 from ad] at h2;exact h2
theorem zG (s:Xaa) (n:Nat):∀ (us:List bX) (m:Nat),(n,s)∈(ek m us).map jP↔∃ u,m<=n/\us[n-m]?=some u/\s∈u.bh.map (·.1)
 | [],m=>by simp [ek]
 | u::us,m=>by
  rw [ek,Ze,Zk,zG s n us (m+1),Zv];constructor
  ·rintro (h | ⟨v,h1,h2,h3⟩)
   ·obtain ⟨e,G,j⟩:=Za.1 h;cases j;exact ⟨u,Zh _,aj,Za.2 ⟨e,G,rfl⟩⟩
   ·refine ⟨v,ad,?_,h3⟩;rw [show n-m=(n-(m+1))+1 from ad];exact h2
  ·rintro ⟨v,h1,h2,h3⟩
   by_cases e:n=m
   ·subst e;rw [cl9] at h2;cases h2;obtain ⟨x,hx,rfl⟩:=Za.1 h3;exact .inl (Za.2 ⟨x,hx,rfl⟩)
   ·refine .inr ⟨v,ad,?_,h3⟩;rw [show n-m=(n-(m+1))+1 from ad] at h2;exact h2
def xW (l:List Ky) (k:Ky):(mZ l k).isSome=true↔k∈l:=by
 constructor
 ·intro h;apply bt9;intro hk;rw [oa.2 hk] at h;cases h
 ·intro h;obtain ⟨i,hi⟩:=AV h;rw [hi] <;> rfl
def P9 {us:List bX} {w:LW} (i0:WI w (bQ 0 us) ((ek 0 us).map jP)) {n:Nat} {u:bX} (hu:us[n]?=some u) (s:Xaa):w.has (n,s)=true↔s∈eN u:=by
 unfold LW.has;rw [i0.num,i0.tq,Bool.or_eq_true,xW,xW,xo,zG];unfold eN;rw [Zk,Zk];simp only [Nat.sub_zero,Nat.zero_le,true_and];constructor
 ·rintro (⟨v,hv,h⟩ | ⟨v,hv,h⟩)
  ·rw [hu] at hv; cases hv; exact .inl h
  ·rw [hu] at hv; cases hv; exact .inr h
 ·rintro (h | h)
  ·exact .inl ⟨u,hu,h⟩
  ·exact .inr ⟨u,hu,h⟩
def LV {us:List bX} {w:LW} (i0:WI w (bQ 0 us) ((ek 0 us).map jP)) (j:∀ s,w.gl s=PC us s) {n:Nat} (hn:n<us.length) (s:Xaa):w.own n s=(gw us n s).map fun o=>(o,s):=by
 have hu:=Y1 hn;have h1:=P9 i0 hu s;have h2:fZ (eN us[n]) s=true↔s∈eN us[n]:=by
  unfold fZ;rw [as9];constructor
  ·rintro ⟨x,hx,u⟩;rw [<- Y5 u]; exact hx
  ·intro h;exact ⟨s,h,Y6 rfl⟩
 unfold LW.own gw;rw [hu,cr9,j s]
 by_cases h:s∈eN us[n]
 ·rw [Y8 (h1.2 h),Y8 (by rw [h2.2 h])] <;> rfl
 ·rw [Y2 fun x=>h (h1.1 x),Y2 fun x=>h (h2.1 (Zn x))] <;> rfl
theorem Ce (n sec:Nat) (x:cE):∀ (l:List cE) (i:Nat),nl n sec i (l++[x])=nl n sec i l++if x.kind=1 then [⟨n,sec,i+l.length,x.name⟩] else []
 | [],i=>by simp [nl]
 | y::l,i=>by
  simp only [List.cons_append,nl,List.length_cons];rw [Ce n sec x l (i+1),show i+1+l.length=i+(l.length+1) from ad,Zr]
structure DU (h:Hp) (g:Nat) (su lb st sd:cz) (L:List Lb):Prop where
 box:bF h g 81 [su.v,lb.v,st.v,sd.v]
 oT:SL h (g+1) 158 4 lb.p lb.l lb.c (L.map AB)
def DU.ak {h h':Hp} {g:Nat} {su lb st sd:cz} {L:List Lb} (s:DU h g su lb st sd L) (e:Ext h h'):DU h' g su lb st sd L:=⟨s.box.ak e aj,s.oT.bM e aj⟩
def TR:Tryz.prog.underlying 78=some (.slice 158):=ax
def Wc:(Tryz.prog.info? 158).map (fun i=>(i.zero,i.size,i.bytes))=some (some (.agg #[.int .i64 0,.int .i64 0,.int .i64 0,.string ⟨#[]⟩]),4,40):=ax
def D2 {h0 h:Hp} {g:Nat} {su lb st sd:cz} {L:List Lb} (hg:h0.size<=g) (e0:Ext h0 h) (s:DU h g su lb st sd L) {p:Xac} {l c:Nat} {xs:List cE} (v:Dr h0 p l xs) (hL:L.length+xs.length<=2^40) (n sec:Nat) :
  HC Tryz.prog 49 #[.pointer (some ⟨g,0,none⟩),.int .i64 (n:Int),.int .i64 (sec:Int),.slice p l c] h fun w h'=>w=.tuple #[]/\Ext h0 h'/\h.size<=h'.size/\∃ J,DU h' g su J st sd (L++nl n sec 0 xs):=by
 refine bd (args:=[.pointer (some ⟨g,0,none⟩),.int .i64 (n:Int),.int .i64 (sec:Int),.slice p l c]) mixed Tryz.func49 ax (iE (some ⟨g,0,none⟩) n sec p l c) ?_;unfold fg bf bk bH aP br bn aR;have hll:=v.len;refine aX (cs:=[(false,[.int .i64])]) (fun y k h'=>∃ (i:Nat) (J:cz),y.1=(i:Int)/\k=xs.length-i/\i<=xs.length/\Ext h0 h'/\h.size<=h'.size/\DU h' g su J st sd (L++nl n sec 0 (xs.take i))) ((0:Int),()) xs.length rfl
  ⟨0,lb,rfl,rfl,ad,e0,Zh _,by simpa [nl] using s⟩ ?_
 rintro ⟨n4,⟨⟩⟩ k h1 ⟨i,u,hi,rfl,hle,e1,z1,s1⟩;simp only at hi;subst hi;refine an ?_;have hw:=iA i;refine aQ (fun q=>?_) (fun q=>?_)
 ·have V:i<xs.length:=ad
  have Y:xs.take (i+1)=xs.take i++[xs[i]]:=Y3 V;have G:=Ce n sec xs[i] (xs.take i) 0;rw [<- Y,Zp,ac9 ad,ZJ] at G;obtain ⟨a,pp,ll,cc,rfl,hc,_⟩:=v.cells i V;generalize xs[i]=x at hc G;refine ay ⟨ad,ad⟩ (aw rfl ?_);rw [show Int.toNat (i:Int)=i from ad];refine az (x.kind,()) ⟨(aT e1 aj _ _ hc).1,trivial⟩ (an ?_);refine av (fun r=>?_) (fun r=>?_)
  ·have r:x.kind=1:=by simpa using r
   rw [Y8 r] at G;refine aw rfl ?_;rw [aE];refine af s1.box ((u.p,u.l,u.c),()) rfl (an ?_);have O:∀ {h':Hp},Ext h0 h'->aI h' ((a.add (i*10)).add 1) 0 [.string x.name]:=fun e=>⟨by rw [add_add]; exact (aT e aj _ _ hc).2.1,trivial⟩
   refine ay ⟨ad,ad⟩ (aw rfl ?_);refine az (x.name,()) (O e1) (an ?_);have Z:u.l=(L++nl n sec 0 (xs.take i)).length:=by have:=s1.oT.1; rwa [Y0] at this
   have hla:=qV n sec (xs.take i) 0;rw [Y4] at Z;rw [Zp] at hla;have hgs:=s1.box.lt;refine gU (vs:=AB ⟨n,sec,i,x.name⟩) TR Wc rfl ad ad (Mj _ _ _ _) rfl rfl s1.oT ad ad ad (fun h' e=>⟨O (e1.trans e),(s1.box.ak e aj).cells _ rfl,trivial⟩) ?_;intro p' c' h2 s2 k2 hp2;have X:∀ j,j∈aM u.p->h0.size<=j/\g<j:=fun j U=>by have:=(s1.oT.cr U).1; omega
   have e2:Ext h0 h2:=Ch.trans e1 k2 (fun j U hl=>by have:=X j U; omega);have b2:=s1.box.ak k2 (fun U=>by have:=X _ U; omega);have z2:=k2.size;refine ⟨⟨O e2,trivial⟩,aw rfl ?_⟩;rw [aE];refine ar b2 rfl aj ?_;intro h3 b3 k3 z3;have b3:bF h3 g 81 [su.v,(⟨p',u.l+1,c'⟩:cz).v,st.v,sd.v]:=b3;have e3:Ext h0 h3:=bR e2 k3;refine aH (cs:=[(false,[.int .i64])]) (((i+1:Nat):Int),()) (xs.length-(i+1)) rfl ad (Zl (fun z=>[Value.int .i64 z]) hw) ⟨i+1,⟨p',u.l+1,c'⟩,rfl,rfl,ad,e3,ad,b3,?_⟩;rw [G,<- Zr,Ze];exact s2.bM k3 (fun j U hh=>by have:=(s2.cr U).1; simp at hh; omega)
  ·have r:¬ x.kind=1:=by simpa using r
   rw [Y2 r,ZQ] at G;refine aH (cs:=[(false,[.int .i64])]) (((i+1:Nat):Int),()) (xs.length-(i+1)) rfl ad (Zl (fun z=>[Value.int .i64 z]) hw) ⟨i+1,u,rfl,rfl,ad,e1,z1,by rw [G]; exact s1⟩
 ·have:i=xs.length:=ad
  subst this;rw [ZA] at s1;exact ⟨rfl,e1,z1,u,s1⟩
def Gt (u:Nat):Lib.nDigits u<=u+1:=by
 induction u using Nat.strongRecOn with
 | _ u j =>
  rw [Lib.nDigits];split
  ·omega
  ·have:=j (u / 10) ad
   omega
def BV (n:Nat):(fX n).size<=n+1:=by
 have:(fX n).size=(Lib.decDigits n).length:=rfl
 rw [this,Lib.decDigits_length];exact Gt n
def O8 (L:List Lb) (o:Nat) (s:Xaa):Option Nat:=L.findIdx? fun x=>decide (x.u=o) && decide (x.n=s)
def qH (L:List Lb) (o:Nat) (s:Xaa):Xaa:=match O8 L o s with
 | some i=>⟨#[76]⟩++fX i
 | none=>((⟨#[69]⟩++fX o)++⟨#[95]⟩)++s
def dr (us:List bX) (L:List Lb) (n:Nat) (s:Xaa):Xaa:=qH L ((gw us n s).getD 0) s
def Ji {us:List bX} {n o:Nat} {s:Xaa} (h:gw us n s=some o):o<us.length:=by
 unfold gw at h;split at h
 ·rename_i j;cases h;cases hu:us[n]? with
  | none=>rw [hu] at j; cases j
  | some u=>exact (Zj.1 hu).1
 ·rw [Zs] at h;exact h.1
def Tk {L:List Lb} {o:Nat} {s:Xaa} {i:Nat} (hi:i<L.length) (h:∀ j,(G:j<i)->¬ ((L[j]'ad).u=o/\(L[j]'ad).n=s)) (h1:L[i].u=o) (h2:L[i].n=s):O8 L o s=some i:=by
 unfold O8;rw [Zs];refine ⟨hi,by simp [h1,h2],fun j G=>?_⟩
 have:=h j G
 simpa using this
def K3 {L:List Lb} {o:Nat} {s:Xaa} (h:∀ j,(G:j<L.length)->¬ (L[j].u=o/\L[j].n=s)):O8 L o s=none:=by
 unfold O8;rw [ZB];intro x hx;obtain ⟨j,G,rfl⟩:=Zu hx
 have:=h j G
 simpa using this
def Iu {h:Hp} {g:Nat} {su lb st sd:cz} {L:List Lb} (s:DU h g su lb st sd L) {us:List bX} (v:uH h su.p su.l us) (sz:KO us) {n:Nat} (hn:n<us.length) (hL:L.length<=2^40) {a:Xaa} {o:Nat} (X:gw us n a=some o) (ha:a.size<=2^60) :
  HC Tryz.prog 50 #[.pointer (some ⟨g,0,none⟩),.int .i64 (n:Int),.string a] h fun w h'=>w=.string (dr us L n a)/\Ext h h':=by
 refine bd (args:=[.pointer (some ⟨g,0,none⟩),.int .i64 (n:Int),.string a]) mixed Tryz.func50 ax (iU (some ⟨g,0,none⟩) n a) ?_;unfold fl bf bk bH aP cH gS bY aR;have hol:=Ji X;have Y:=sz.many;refine aw rfl ?_;refine af s.box ((su.p,su.l,su.c),()) rfl (an ?_);refine aJ (EV (c:=su.c) v sz hn a) ?_;rintro _ h1 ⟨rfl,e1⟩;rw [X];refine ⟨((o:Int),()),rfl,an ?_⟩;have s1:=s.ak e1;have Z:dr us L n a=qH L o a:=by unfold dr; rw [X]; rfl
 rw [Z];have hll:lb.l=L.length:=by have:=s.oT.1; rwa [Y0] at this
 refine aX (cs:=[(false,[.string]),(false,[.int .i64])]) (fun y k h'=>∃ i:Nat,y.2.1=(i:Int)/\k=L.length-i/\i<=L.length/\h'=h1/\∀ j,j<i->(J:j<L.length)->¬ (L[j].u=o/\L[j].n=a)) ((⟨#[]⟩:Xaa),(0:Int),()) L.length rfl
  ⟨0,rfl,rfl,ad,rfl,fun j J=>absurd J ad⟩ ?_
 rintro ⟨s8,n9,⟨⟩⟩ k h2 ⟨i,hi,rfl,hle,rfl,O⟩;simp only at hi;subst hi;refine an ?_;have hw:=iA i;refine aw rfl ?_;rw [aE];refine af s1.box ((lb.p,lb.l,lb.c),()) rfl (an ?_);refine aQ (fun q=>?_) (fun q=>?_)
 ·have U:i<L.length:=ad
  refine aw rfl ?_;rw [aE];refine af s1.box ((lb.p,lb.l,lb.c),()) rfl (an ?_);obtain ⟨al,V,hc⟩:=SL.cells s1.oT (i:=i) (by rw [Y0]; exact U);rw [Zb] at hc;refine ay ⟨ad,ad⟩ (aw V ?_);rw [show Int.toNat (i:Int)=i from ad];refine az ((L[i].u:Int),()) ⟨hc.1,trivial⟩ (an ?_);have G:¬ (L[i].u=o/\L[i].n=a)->T.again 0 [.string s8,.int .i64 (IntKind.wrap .i64 ((i:Int)+1))] [Jl (fun (y:qt (flat [(false,[TypeDesc.string]),(false,[TypeDesc.int .i64])])) k h'=>∃ i:Nat,y.2.1=(i:Int)/\k=L.length-i/\i<=L.length/\h'=h2/\∀ j,j<i->(J:j<L.length)->¬ (L[j].u=o/\L[j].n=a)) (L.length-i)] (fun w h'=>w=.string (qH L o a)/\Ext h h') h2:=by
   intro hne;refine aH (cs:=[(false,[.string]),(false,[.int .i64])]) (s8,((i+1:Nat):Int),()) (L.length-(i+1)) rfl ad (Zl (fun z=>[Value.string s8,Value.int .i64 z]) hw) ⟨i+1,rfl,rfl,ad,rfl,fun j J hx=>?_⟩
   by_cases e:j=i
   ·subst e; exact hne
   ·exact O j ad hx
  refine av (fun r=>?_) (fun r=>?_)
  ·have r:L[i].u=o:=by
    have:((L[i].u:Nat):Int)=(o:Int):=by simpa using r
    omega
   refine aw rfl ?_;rw [aE];refine af s1.box ((lb.p,lb.l,lb.c),()) rfl (an ?_);refine ay ⟨ad,ad⟩ (aw V ?_);refine az (L[i].n,()) ⟨by rw [add_add]; exact hc.2.2.2.1,trivial⟩ ?_;refine an ?_;rw [qv];refine aQ (fun t=>?_) (fun t=>?_)
   ·refine aJ (xc (n:=i) ad) ?_;rintro _ h3 ⟨rfl,e3⟩;refine ⟨(fX i,()),rfl,an ?_⟩
    have:=BV i
    refine ay ad ?_;refine ⟨?_,e1.trans e3⟩;unfold qH;rw [Tk U (fun j J=>O j J ad) r t]
   ·exact G fun hh=>t hh.2
  ·refine G fun hh=>?_
   rw [hh.1] at r;simp at r
 ·have:i=L.length:=ad
  subst this;refine aJ (xc (n:=o) ad) ?_;rintro _ h3 ⟨rfl,e3⟩;refine ⟨(fX o,()),rfl,an ?_⟩;have hd:=BV o;have h1:(⟨#[69]⟩++fX o:Xaa).size=1+(fX o).size:=au9 ..;have h2:((⟨#[69]⟩++fX o)++⟨#[95]⟩:Xaa).size=(⟨#[69]⟩++fX o:Xaa).size+1:=au9 ..;refine ay ad (ay (by rw [h1]; omega) (ay (by rw [h2,h1]; omega) ?_));refine ⟨?_,e1.trans e3⟩;unfold qH;rw [K3 fun j J=>O j J J]
def sO (f:Xaa->Xaa) (s:Xaa):Option ct:=some (lE (f s))
def gC (us:List bX) (L:List Lb) (n:Nat) (x:ct):ct:=de (sO (dr us L n)) x
def Rp (s:Xaa):Nf (lE s).ai:=⟨by simp [lE],by simp [lE]⟩
def IV {f:Xaa->Xaa}:∀ s y,sO f s=some y->Nf y.ai:=by
 intro s y hy;cases hy;exact Rp _
def TO (f:Xaa->Xaa) {t:Xaa × Nat} (h:t.2≠0/\t.2<4294967296):HP (sO f) t=⟨[(f t.1,t.2)],0⟩:=by
 unfold HP sO CB lE fo;simp only [List.filterMap_cons,List.filterMap_nil,Nat.one_mul,Nat.zero_mul,Nat.zero_mod];rw [bo9 h.2,Y2 h.1]
def Ez {h:Hp} {g:Nat} {su lb st sd:cz} {L:List Lb} (s:DU h g su lb st sd L) {us:List bX} (v:uH h su.p su.l us) (sz:KO us) {n:Nat} (hn:n<us.length) (hL:L.length<=2^40) {q:Xac} {m d:Nat} {x:ct} (u:gW h q m x.ai)
  (hx:Nf x.ai) (hxn:x.num<4294967296) (hlx:x.ai.length<=2^30) (ho:∀ t,t∈x.ai->∃ o,gw us n t.1=some o) (hs:∀ t,t∈x.ai->t.1.size<=2^60) :
  HC Tryz.prog 51 #[.pointer (some ⟨g,0,none⟩),.int .i64 (n:Int),iI q m d x] h fun w h'=>Ext h h'/\∃ p' l' c',w=iI p' l' c' (gC us L n x)/\SL h' h.size 117 2 p' l' c' ((gC us L n x).ai.map df):=by
 refine bd (args:=[.pointer (some ⟨g,0,none⟩),.int .i64 (n:Int),.agg #[.slice q m d,.int .u32 x.num]]) mixed Tryz.func51 ax (iD (some ⟨g,0,none⟩) n q m d x.num) ?_;unfold fc bf bk bH aP gS bK br aG bj aR;have hmm:=u.len;refine bm ?_;intro h1 b1 e1 z1;refine bm ?_;intro h2 b2 e2 z2;have b1:=b1.ak e2 aj;rw [aE];refine af b1 ((x.num:Int),()) rfl (an ?_);refine bm ?_;intro h3 b3 e3 z3;refine ar b3 rfl aj ?_;intro h4 b4 k4 z4;have b4:bF h4 h2.size 69 [.slice none 0 0,.int .u32 (x.num:Int)]:=b4;have e24:Ext h2 h4:=bR e3 k4;have b1:=b1.ak e24 aj;have b2:=b2.ak e24 aj;have e04:=(e1.trans e2).trans e24;have hb4:=b4.lt;have hz04:=e04.size;refine aX (cs:=[(false,[.int .i64])]) (fun y w h'=>∃ (i:Nat) (q:Xac) (m d:Nat),y.1=(i:Int)/\i<=x.ai.length/\w=x.ai.length-i/\Ch [h2.size] h4 h'/\bF h' h2.size 69 [.slice q m d,.int .u32 (((x.ai.take i).foldl (fO (sO (dr us L n))) ⟨[],x.num⟩).num:Int)] /\
  SL h' h4.size 117 2 q m d (((x.ai.take i).foldl (fO (sO (dr us L n))) ⟨[],x.num⟩).ai.map df)) ((0:Int),()) x.ai.length rfl ⟨0,none,0,0,rfl,ad,ad,Ch.refl _ _,b4,SL.nil _ _ _ _⟩ ?_
 rintro ⟨n8,⟨⟩⟩ w h5 ⟨i,q5,m5,d5,hi,hile,rfl,k5,b5,s5⟩;simp only at hi;subst hi;refine an ?_;have O:=b1.ak k5 (by simp; omega);have hz5:=k5.size;have U:Ext h h5:=bR e04 k5;have u5:=u.ak U aj;refine af O ((q,m,d),()) rfl (an ?_);have hw:=iA i;have Y:=Bh (of:=sO (dr us L n)) IV hx hxn i;have hal:((x.ai.take i).foldl (fO (sO (dr us L n))) ⟨[],x.num⟩).ai.length<=x.ai.length:=by
  rw [Y]
  have:=zI (eX (sO (dr us L n)) ⟨x.ai.take i,x.num⟩) (S:=x.ai.map fun t=>dr us L n t.1) (fun t ht=>by
   obtain ⟨u',hu',h | ⟨y,w,hy,hw,he⟩⟩:=zH ht
   ·cases h.1
   ·cases hy;simp [lE] at hw;subst hw;rw [<- he];exact Za.2 ⟨u',Z7 hu',rfl⟩)
  rwa [Y0] at this
 refine aQ (fun g1=>?_) (fun g1=>?_)
 ·have G:i<x.ai.length:=ad
  have J:(x.ai.take (i+1)).foldl (fO (sO (dr us L n))) ⟨[],x.num⟩=fO (sO (dr us L n)) ((x.ai.take i).foldl (fO (sO (dr us L n))) ⟨[],x.num⟩) x.ai[i]:=by
   rw [Y3 G,ZY] <;> rfl
  obtain ⟨a,rfl,hc⟩:=u5.cells i G;have V:=Y9 G;generalize x.ai[i]=t at hc J V;generalize hA:(x.ai.take i).foldl (fO (sO (dr us L n))) ⟨[],x.num⟩=A at b5 s5 hal J Y;obtain ⟨c1,c2⟩:=cT hc;obtain ⟨o,hoo⟩:=ho t V;refine af b5 ((q5,m5,d5),(A.num:Int),()) rfl (an ?_);refine af O ((some a,m,d),()) rfl (an ?_);refine ay ⟨ad,ad⟩ (aw rfl ?_);rw [show Int.toNat (i:Int)=i from ad];refine az (t.1,()) c1 (an ?_);refine af O ((some a,m,d),()) rfl (an ?_);refine ay ⟨ad,ad⟩ (aw rfl ?_);refine az ((t.2:Int),()) c2 (an ?_);refine aJ (Iu (s.ak U) (v.ak U) sz hn hL hoo (hs t V)) ?_;rintro _ h6 ⟨rfl,e6⟩;refine ⟨(dr us L n t.1,()),rfl,an ?_⟩;have hst:∀ {h':Hp},Ext h5 h'->aI h' (a.add (i*2)) 0 [.string t.1]/\aI h' ((a.add (i*2)).add 1) 0 [.int .u32 (t.2:Int)]/\aI h' ⟨h.size,0,none⟩ 0 [.slice (some a) m d]/\aI h' ⟨h2.size,0,none⟩ 0 [.slice q5 m5 d5,.int .u32 (A.num:Int)]:=fun e =>
   ⟨aT e aj _ _ c1,aT e aj _ _ c2,(O.ak e aj).cells _ rfl,(b5.ak e aj).cells _ rfl⟩
  obtain ⟨q1,q2,Z,q4⟩:=hst e6;refine ⟨⟨q2,Z,Z,q4,trivial⟩,?_⟩;refine km G9 sZ ad ad (GY _ _) ?_;intro h7 b7 e7 z7;obtain ⟨q1,q2,Z,q4⟩:=hst (e6.trans e7);refine ⟨⟨q2,Z,q1,Z,q4,trivial⟩,?_⟩;have e57:=e6.trans e7;have z57:=e57.size;refine aJ (EL (x:=A) (y:=⟨[(dr us L n t.1,t.2)],0⟩) (d:=1) (s5.bM e57 aj).RP (VI b7) (fun j X=>by have:=(s5.cr X).2; omega) (fun j X=>by simp [aM] at X; have:=b7.lt; omega) (by show A.ai.length+1<=_; omega)) ?_;rintro _ h8 ⟨e8,p',l',c',rfl,s8⟩;refine ⟨((p',l',c'),((xx A ⟨[(dr us L n t.1,t.2)],0⟩).num:Int),()),rfl,an ?_⟩;have e58:=e57.trans e8;obtain ⟨q1,q2,Z,q4⟩:=hst e58;refine ⟨⟨q2,Z,q1,Z,trivial⟩,?_⟩;refine ar (b5.ak e58 aj) rfl aj ?_;intro h9 b9 k9 z9;have b9:bF h9 h2.size 69 [.slice p' l' c',.int .u32 ((xx A ⟨[(dr us L n t.1,t.2)],0⟩).num:Int)]:=b9;have hput:fO (sO (dr us L n)) A t=xx A ⟨[(dr us L n t.1,t.2)],0⟩:=by
   unfold fO;rw [TO _ (hx.2 t V)]
  rw [hput] at J;refine aH (cs:=[(false,[.int .i64])]) (((i+1:Nat):Int),()) (x.ai.length-(i+1)) rfl ad (Zl (fun z=>[Value.int .i64 z]) hw) ⟨i+1,p',l',c',rfl,ad,rfl,Ch.trans (Ch.trans k5 e58 aj) k9 (fun j X _=>X),by rw [J]; exact b9,?_⟩;rw [J];exact (s8.bM k9 (fun j X=>by have:=(s8.cr X).1; simp; omega)).mono ad
 ·have hi:i=x.ai.length:=ad
  subst hi;rw [ZA,DI IV hx hxn] at b5 s5;refine af b5 ((q5,m5,d5),((gC us L n x).num:Int),()) rfl (an ?_);refine ar (b2.ak k5 (by simp; omega)) rfl aj ?_;intro h7 b7 k7 z7;have b7:bF h7 h1.size 69 [.slice q5 m5 d5,.int .u32 ((gC us L n x).num:Int)]:=b7;refine af b7 ((q5,m5,d5),((gC us L n x).num:Int),()) rfl ?_;exact ⟨bR U k7,q5,m5,d5,rfl,(s5.bM k7 (fun j X=>by have:=(s5.cr X).1; simp; omega)).mono ad⟩
structure Ot (us:List bX) (n:Nat) (x:ct):Prop where
 nf:Nf x.ai
 num:x.num<4294967296
 len:x.ai.length<=2^30
 own:∀ t,t∈x.ai->∃ o,gw us n t.1=some o
 sz:∀ t,t∈x.ai->t.1.size<=2^60
def Jf (us:List bX) (L:List Lb) (n:Nat) (x:ct):Nf (gC us L n x).ai:=eX _ _
def Es {us:List bX} {L:List Lb} {n:Nat} {x:ct} (h:x.num<4294967296):(gC us L n x).num<4294967296:=sC _ _ _ h
def E4 {us:List bX} {L:List Lb} {n:Nat} {x:ct} {t:Xaa × Nat} (G:t∈(gC us L n x).ai):∃ u,u∈x.ai/\t.1=dr us L n u.1:=by
 obtain ⟨J,j,h | ⟨y,w,hy,hw,O⟩⟩:=zH G
 ·cases h.1
 ·cases hy;simp [lE] at hw;subst hw;exact ⟨J,j,O.symm⟩
def wE (us:List bX) (L:List Lb) (es:List cK) (n:Nat) (x:cE):cE:={ x with e:=de (cw es) (gC us L n x.e) }
structure Xy (h0 h':Hp) (p:Xac) (l c:Nat) (ws:List (cz × cE)):Prop where
 out:SL h' h0.size 71 10 p l c (ws.map tp)
 fw:∀ w,w∈ws->gW h' w.1.p w.1.l w.2.e.ai
 low:∀ w,w∈ws->w.2.e.ai≠[]->∀ i,i∈aM w.1.p->i<h'.size/\i∉aM p
def Jx {h:Hp} {a:Xax} {v:Xab} (hc:ij h a=some v):a.block<h.size:=by
 unfold ij at hc;cases hb:h[a.block]? with
 | none=>simp [hb] at hc
 | some o=>exact fj hb
def PB {h:Hp} {p:Xac} {l:Nat} {us:dc} (v:gW h p l us) (h0:us≠[]):∀ i,i∈aM p->i<h.size:=by
 intro i hi;cases us with
 | nil=>exact absurd rfl h0
 | cons u us =>
  obtain ⟨a,rfl,hc⟩:=v.cells 0 aj
  have:i=a.block:=by simpa [aM] using hi
  subst this
  have:=Jx hc.1
  rwa [ig,ig] at this
def JJ {ws:List Nat} {h h':Hp} {p:Xac} {l:Nat} {us:dc} (v:gW h p l us) (k:Ch ws h h') (hw:us≠[]->∀ i,i∈aM p->i∉ws):gW h' p l us:=by
 by_cases h0:us=[]
 ·subst h0;exact ⟨v.len,fun i hi=>absurd hi aj⟩
 ·exact v.ak k (hw h0)
def Ci {h:Hp} {g:Nat} {su lb st sd:cz} {L:List Lb} (s:DU h g su lb st sd L) {us:List bX} (v:uH h su.p su.l us) (sz:KO us) {n:Nat} (hn:n<us.length) (hL:L.length<=2^40) {p:Xac} {l c:Nat} {xs:List cE} (vi:Dr h p l xs)
  (hxl:xs.length<=2^20) (hxs:∀ x,x∈xs->Ot us n x.e)
  {q:Xac} {m d:Nat} {es:List cK} (ve:tQ h q m es) (hb:∀ e,e∈es->∀ i,i∈aM e.p->i<h.size) (hm:es.length<=2^40) {S:List Xaa} (hS:S.length<=2^30) (hes:∀ e,e∈es->sP S e.x) (hSw:∀ x,x∈xs->∀ t,t∈x.e.ai->dr us L n t.1∈S) :
  HC Tryz.prog 53 #[.pointer (some ⟨g,0,none⟩),.int .i64 (n:Int),.slice p l c,.slice q m d] h fun w h'=>Ext h h'/\∃ p' l' c' ws,w=.slice p' l' c'/\TZ h' h.size p' l' c' ws/\ws.map (·.2)=xs.map (wE us L es n):=by
 refine bd (args:=[.pointer (some ⟨g,0,none⟩),.int .i64 (n:Int),.slice p l c,.slice q m d]) mixed Tryz.func53 ax (hY (some ⟨g,0,none⟩) n p l c q m d) ?_;unfold eQ bf bk bH aP bK br aG aR;obtain ⟨w0,hw0,vd,hit⟩:=C3 vi;have hl0:w0.length=xs.length:=by rw [<- hw0,Y0]
 have hll:=vd.len;refine lU (e:=71) (z:=.agg iz.toArray) (sz:=10) (by':=104) AU Er rfl vd.src (by simpa using hll) (n' w0) (oQ w0) ad ad ?_;intro p1 c1 h1 s1 e1;have U:∀ w,w∈w0->w.2.e.ai≠[]->∀ i,i∈aM w.1.p->i<h.size:=fun w hw h0=>PB (hit w hw).lin.vw h0
 refine aX (cs:=[(false,[.int .i64])]) (fun y k h'=>∃ (i:Nat) (ws:List (cz × cE)),y.1=(i:Int)/\k=xs.length-i/\i<=xs.length/\Ext h h'/\Xy h h' p1 l c1 ws/\ws.length=xs.length/\(∀ j w,j<i->ws[j]?=some w->SL h' h.size 117 2 w.1.p w.1.l w.1.c (w.2.e.ai.map df))/\∀ j x w,xs[j]?=some x->ws[j]?=some w->w.2=if j<i then wE us L es n x else x) ((0:Int),()) xs.length rfl
  ⟨0,w0,rfl,rfl,ad,e1,⟨s1,fun w hw=>(hit w hw).lin.vw.ak e1 aj,fun w hw h0 i hi=>⟨by have:=U w hw h0 i hi; have:=e1.size; omega,fun hh=>by have:=(s1.cr hh).1; have:=U w hw h0 i hi; omega⟩⟩,hl0,fun j w G=>absurd G ad,fun j x w hx hw=>by
   rw [Y2 ad]
   have:(w0.map (·.2))[j]?=some w.2:=by rw [ZO,hw]; rfl
   rw [hw0,hx] at this;exact (Zn this).symm⟩ ?_
 rintro ⟨n10,⟨⟩⟩ k h2 ⟨i,ws,hi,rfl,hle,e2,Y,hwl,hown,G⟩;simp only at hi;subst hi;refine an ?_;have hwi:=iA i;refine aQ (fun r=>?_) (fun r=>?_)
 ·have hil:i<xs.length:=ad
  have J:i<ws.length:=ad
  obtain ⟨a,rfl,hc⟩:=SL.cells Y.out (i:=i) (by rw [Y0]; exact J);rw [Zb] at hc;have hxi:xs[i]?=some xs[i]:=Y1 hil;have V:ws[i]?=some ws[i]:=Y1 J;have Z:=G i _ _ hxi V;rw [Y2 ad] at Z;have hxm:=Y9 hil;have hwm:=Y9 J;have vw:=Y.fw _ hwm;have lw:=Y.low _ hwm;generalize ws[i]=w at hc V Z hwm vw lw;generalize xs[i]=x at hxi Z hxm;subst Z;have O:=hxs w.2 hxm;refine ay ⟨ad,ad⟩ (aw rfl ?_);rw [show Int.toNat (i:Int)=i from ad];refine az ((w.1.p,w.1.l,w.1.c),(w.2.e.num:Int),()) ⟨by rw [add_add]; exact hc.2.2.2.2.2.2.2.1,by rw [add_add]; exact hc.2.2.2.2.2.2.2.2.1,trivial⟩ ?_;refine an ?_;have z2:=e2.size;refine aJ (Ez (d:=w.1.c) (s.ak e2) (v.ak e2) sz hn hL vw O.nf O.num O.len O.own O.sz) ?_;rintro _ h3 ⟨e3,p3,l3,c3,rfl,s3⟩;refine ⟨((p3,l3,c3),((gC us L n w.2.e).num:Int),()),rfl,an ?_⟩;have z3:=e3.size;refine aJ (IL (c:=c3) (d:=d) s3.RP (ve.ak (e2.trans e3)) (fun j G=>(s3.cr G).2) (fun e he j G=>by have:=hb e he j G; omega) hm (Jf _ _ _ _) (Es O.num) (fun e he=>(hes e he).nf) hS (fun t ht=>by
   obtain ⟨u',hu',he'⟩:=E4 ht;rw [he'];exact hSw w.2 hxm u' hu') fun e he=>(hes e he).fw) ?_
  rintro _ h4 ⟨e4,p4,l4,c4,rfl,s4⟩;refine ⟨((p4,l4,c4),((de (cw es) (gC us L n w.2.e)).num:Int),()),rfl,an ?_⟩;have z4:=e4.size;have e24:=e3.trans e4;refine ay ⟨ad,ad⟩ (aw rfl ?_);have so:=Y.out.bM e24 aj;refine SL.part (P:=Tryz.prog) so (i:=i) (by rw [Y0]; exact J) (vs:=[.slice p4 l4 c4,.int .u32 ((de (cw es) (gC us L n w.2.e)).num:Int)]) (o:=7) aj (by simp [cO]) rfl ?_;intro h6 s6 k6 z6;have hse:(ws.map tp).set i (lz ((ws.map tp)[i]'(by rw [Y0]; exact J)) 7 [.slice p4 l4 c4,.int .u32 ((de (cw es) (gC us L n w.2.e)).num:Int)])=(ws.set i (⟨p4,l4,c4⟩,wE us L es n w.2)).map tp:=by
   rw [ca9]
   congr 1
   rw [Zb]
   have:ws[i]=w:=(Zj.1 V).2
   rw [this] <;> rfl
  rw [hse] at s6;have hgb:∀ j,j∈aM (some a)->h.size<=j/\j<h2.size:=fun j G=>Y.out.cr G
  have e6:Ext h h6:=Ch.trans (e2.trans e24) k6 (fun j G hl=>by have:=hgb j G; omega);refine aH (cs:=[(false,[.int .i64])]) (((i+1:Nat):Int),()) (xs.length-(i+1)) rfl ad (Zl (fun z=>[Value.int .i64 z]) hwi) ⟨i+1,_,rfl,rfl,ad,e6,⟨s6,fun w' u=>?_,fun w' u h0' j hj'=>?_⟩,by rw [Z5]; exact hwl,fun j w' hj' u=>?_,fun j x' w' hx' u=>?_⟩
  ·rcases ai9 u with u | rfl
   ·exact JJ ((Y.fw w' u).ak e24 aj) k6 (fun h0 j G=>(Y.low w' u h0 j G).2)
   ·exact (s4.bM k6 (fun j G hh=>by have:=(s4.cr G).1; have:=hgb j hh; omega)).RP
  ·rcases ai9 u with u | rfl
   ·obtain ⟨h1,h2⟩:=Y.low w' u h0' j hj';exact ⟨ad,h2⟩
   ·obtain ⟨h1,h2⟩:=s4.cr hj';exact ⟨ad,fun hh=>by have:=hgb j hh; omega⟩
  ·have hbx:∀ q,q∈aM (some a)->∃ ys,bF h4 q 71 ys:=SL.AZ so
   by_cases X:i=j
   ·subst X;rw [bj9 J] at u;cases u;exact (SL.rL s4 k6 hbx bZ).mono ad
   ·rw [ap9 X] at u;exact SL.rL ((hown j w' ad u).bM e24 aj) k6 hbx bZ
  ·by_cases X:i=j
   ·subst X;rw [bj9 J] at u;cases u;rw [hxi] at hx';cases hx';rw [Y8 ad]
   ·rw [ap9 X] at u;have h2:=G j x' w' hx' u;rw [h2]
    by_cases hj2:j<i
    ·rw [Y8 hj2,Y8 ad]
    ·rw [Y2 hj2,Y2 ad]
 ·have:i=xs.length:=ad
  subst this;refine ⟨e2,p1,l,c1,ws,rfl,⟨Y.out,fun w hw=>?_,fun _ _=>trivial⟩,?_⟩
  ·obtain ⟨j,hj1,rfl⟩:=Zu hw;exact hown j _ ad (Y1 hj1)
  apply cm9
  ·rw [Y0,Y0,hwl]
  ·intro j h1' h2';rw [Zb,Zb];rw [Y0] at h1' h2'
   have:=G j _ _ (Y1 h2') (Y1 h1')
   rw [this,Y8 h2']
def Wz:Tryz.prog.underlying 79=some (.slice 43):=ax
def XV:(Tryz.prog.info? 43).map (fun i=>(i.zero,i.size,i.bytes))=some (some (.slice none 0 0),1,24):=ax
def Rz (p:Xac) (l c:Nat):Instr.fill (fun j=>some (j*1,1)) ((Array.range (1*1)).map ((Value.slice none 0 0).cells[· % (Value.slice none 0 0).cells.size]!)) [(0,.slice p l c)]=some ([.slice p l c]:List Xab).toArray:=ax
structure uR (h:Hp) (b:Nat) (st:cz) (tw:List (cz × List (cz × cE))):Prop where
 sl:SL h b 43 1 st.p st.l st.c (tw.map fun x=>[x.1.v])
 fw:∀ x,x∈tw->TZ h b x.1.p x.1.l x.1.c x.2
def MK {W:List Nat} {h h':Hp} {b:Nat} {p:Xac} {l c:Nat} {ws:List (cz × cE)} (s:TZ h b p l c ws) (k:Ch W h h') {e':TypeId} (hw:∀ i,i∈W->∃ ys,bF h i e' ys) (h1:71≠e') (h2:117≠e'):TZ h' b p l c ws :=
 ⟨SL.rL s.sl k hw h1,fun u hu=>SL.rL (s.own u hu) k hw h2,s.ok⟩
def DZ {h:Hp} {b b':Nat} {p:Xac} {l c:Nat} {ws:List (cz × cE)} (s:TZ h b p l c ws) (hb:b'<=b):TZ h b' p l c ws:=⟨s.sl.mono hb,fun u hu=>(s.own u hu).mono hb,s.ok⟩
def uR.ak {W:List Nat} {h h':Hp} {b:Nat} {st:cz} {tw:List (cz × List (cz × cE))} (s:uR h b st tw) (k:Ch W h h') {e':TypeId} (hw:∀ i,i∈W->∃ ys,bF h i e' ys) (j:∀ i,i∈aM st.p->i∉W) (h1:71≠e') (h2:117≠e'):uR h' b st tw :=
 ⟨s.sl.bM k j,fun x hx=>MK (s.fw x hx) k hw h1 h2⟩
def uR.ext {h h':Hp} {b:Nat} {st:cz} {tw:List (cz × List (cz × cE))} (s:uR h b st tw) (k:Ext h h'):uR h' b st tw:=s.ak (e':=0) k aj aj bZ bZ
def uR.nil (h:Hp) (b:Nat):uR h b mj []:=⟨SL.nil _ _ _ _,aj⟩
def uR.push {L:Lp} {K:Xab->Hp->Prop} {h:Hp} {b:Nat} {st:cz} {tw:List (cz × List (cz × cE))} (s:uR h b st tw) {x:cz × List (cz × cE)} (hx:TZ h b x.1.p x.1.l x.1.c x.2) (hb:b<=h.size) (hl:tw.length<=2^20) {l:List (Xax × List Xab)} (u:∀ h',Ext h h'->T.DF h' l) {k:Xac->Nat->Nat->T}
  (hk:∀ p' c' h',uR h' b ⟨p',st.l+1,c'⟩ (tw++[x])->Ch (aM st.p) h h'->(p'=st.p\/∃ a,p'=some a/\h.size<=a.block)->k p' (st.l+1) c' L K h') :
  T.eh Tryz.prog (Instr.buildSlice 79 1 #[(0,.slice x.1.p x.1.l x.1.c)]) false [(false,[.slice 0])] (fun q m cc=>T.bi l (T.eh Tryz.prog (Builtin.append_ #[79,79] 79 #[.slice st.p st.l st.c,.slice q m cc]) false [(false,[.slice 0])] k)) L K h:=by
 have J:st.l=tw.length:=by have:=s.sl.1; rwa [Y0] at this
 refine gU (vs:=[x.1.v]) Wz XV rfl ad ad (Rz _ _ _) rfl rfl s.sl hb ad ad u ?_;intro p' c' h' s' k' G;refine hk p' c' h' ⟨by rw [Ze]; exact s',fun y hy=>?_⟩ k' G;have j:=SL.AZ s.sl;rcases Zk.1 hy with hy | hy
 ·exact MK (s.fw y hy) k' j bZ bZ
 ·rw [Zi.1 hy];exact MK hx k' j bZ bZ
def OL (lv:Nat) (J:Xac) (u:Nat) (a1 G:Xax) (p16:Xac) (l17 l18:Nat):T :=
   T.loop [aR] [.int .i64 (0:Int)] <| fun (j:Int) =>
   bH j u
   (T.ah (G.add 2) [.slice 43] <| fun (O:Xac) (U:Nat) (V:Nat) =>
   T.need (fx j u) <|
   T.bG J <| fun (X:Xax) =>
   T.ah (X.add (aP j 4)) [.slice 71] <| fun (Y:Xac) (Z:Nat) (l28:Nat) =>
   bK 53 [.pointer (some G),.int .i64 j,.slice Y Z l28,.slice p16 l17 l18] false [(false,[.slice 71])] <| fun (p29:Xac) (l30:Nat) (l31:Nat) =>
   T.bi [((G.add 2),[.slice O U V])] <|
   bU (Instr.buildSlice 79 1 #[(0,.slice p29 l30 l31)]) false [dh] <| fun (p32:Xac) (l33:Nat) (l34:Nat) =>
   T.bi [((X.add (aP j 4)),[.slice Y Z l28]),((G.add 2),[.slice O U V])] <|
   bU (Builtin.append_ #[79,79] 79 #[.slice O U V,.slice p32 l33 l34]) false [dh] <| fun (p35:Xac) (l36:Nat) (l37:Nat) =>
   T.bi [((X.add (aP j 4)),[.slice Y Z l28])] <|
   T.aC (G.add 2) [.slice p35 l36 l37] <|
   T.ah (G.add 3) [.slice 43] <| fun (p38:Xac) (l39:Nat) (l40:Nat) =>
   T.need (fx j u) <|
   T.bG J <| fun (a41:Xax) =>
   T.ah ((a41.add (aP j 4)).add 1) [.slice 71] <| fun (p42:Xac) (l43:Nat) (l44:Nat) =>
   bK 53 [.pointer (some G),.int .i64 j,.slice p42 l43 l44,.slice p16 l17 l18] false [(false,[.slice 71])] <| fun (p45:Xac) (l46:Nat) (l47:Nat) =>
   T.bi [((G.add 3),[.slice p38 l39 l40])] <|
   bU (Instr.buildSlice 79 1 #[(0,.slice p45 l46 l47)]) false [dh] <| fun (p48:Xac) (l49:Nat) (l50:Nat) =>
   T.bi [(((a41.add (aP j 4)).add 1),[.slice p42 l43 l44]),((G.add 3),[.slice p38 l39 l40])] <|
   bU (Builtin.append_ #[79,79] 79 #[.slice p38 l39 l40,.slice p48 l49 l50]) false [dh] <| fun (p51:Xac) (l52:Nat) (l53:Nat) =>
   T.bi [(((a41.add (aP j 4)).add 1),[.slice p42 l43 l44])] <|
   T.aC (G.add 3) [.slice p51 l52 l53] <|
   T.again lv [.int .i64 (bt (j+(1:Int)))])
   (T.aC a1 [.int .i64 (0:Int),.int .i64 (0:Int),bY] <|
   T.ah a1 [.int .i64,.int .i64,.string] <| fun (n22:Int) (n23:Int) (s24:Xaa) =>
   bn #[.pointer (some G),.agg #[.int .i64 n22,.int .i64 n23,.string s24]])
def yi (us:List bX) (L:List Lb) (es:List cK) (F:bX->List cE) (i:Nat) (tw:List (cz × List (cz × cE))):Prop :=
 tw.length=i/\∀ n u x,us[n]?=some u->tw[n]?=some x->x.2.map (·.2)=(F u).map (wE us L es n)
def yi.push {us:List bX} {L:List Lb} {es:List cK} {F:bX->List cE} {i:Nat} {tw:List (cz × List (cz × cE))} (t:yi us L es F i tw) {u:bX} (hu:us[i]?=some u) {x:cz × List (cz × cE)} (hx:x.2.map (·.2)=(F u).map (wE us L es i)):yi us L es F (i+1) (tw++[x]):=by
 obtain ⟨h1,h2⟩:=t;refine ⟨by rw [Y4,h1]; rfl,fun n v y hv hy=>?_⟩
 by_cases hn:n<tw.length
 ·rw [ZD hn] at hy;exact h2 n v y hv hy
 ·rw [ZC ad] at hy;have j:n=tw.length:=by
   have:=(Zj.1 hy).1
   simp at this;omega
  subst j;rw [cl9] at hy;cases hy;rw [h1] at hv ⊢;rw [hu] at hv;cases hv;exact hx
structure UG (us:List bX) (L:List Lb) (S:List Xaa) (n:Nat) (u:bX):Prop where
 text:∀ x,x∈u.text->Ot us n x.e/\∀ t,t∈x.e.ai->dr us L n t.1∈S
 data:∀ x,x∈u.data->Ot us n x.e/\∀ t,t∈x.e.ai->dr us L n t.1∈S
def BK {L:Lp} {K:Xab->Hp->Prop} {h:Hp} {vs:List Xab} {cs:List fJ} {I:qt (flat cs)->Nat->Hp->Prop} {n:Nat} (y:qt (flat cs)) (m:Nat) (hm:m<n) (hy:vs=parts cs (ef _ y)) (j:I y m h):T.again L.length vs (L++[Jl I n]) K h :=
 aH y m (by rw [ZC (Zh _),cl9]; rfl) hm hy j
def Q0 {L:Lp} {K:Xab->Hp->Prop} {h0 h:Hp} {ga g lv:Nat} {su lb:cz} {LB:List Lb} {us:List bX} {a b:Int} {z:Xaa} {p16:Xac} {l17 l18:Nat} {es:List cK} {S:List Xaa} (hlv:lv=L.length) (hga:ga<g) (h0g:h0.size<=ga) (e0:Ext h0 h) (b1:bF h ga 75 [.int .i64 a,.int .i64 b,.string z])
  (pr:DU h g su lb mj mj LB) (v:uH h0 su.p su.l us) (sz:KO us) (hL:LB.length<=2^40) (ve:tQ h p16 l17 es) (hq:∀ i,i∈aM p16->g<i) (hb:∀ e,e∈es->∀ i,i∈aM e.p->g<i/\i<h.size) (hm:es.length<=2^40) (hS:S.length<=2^30) (hes:∀ e,e∈es->sP S e.x)
  (hW:∀ n u,us[n]?=some u->UG us LB S n u)
  (hk:∀ h' st sd tw dw,Ext h0 h'->DU h' g su lb st sd LB->uR h' h.size st tw->uR h' h.size sd dw->yi us LB es (·.text) us.length tw->yi us LB es (·.data) us.length dw->K (.tuple #[.pointer (some ⟨g,0,none⟩),O5 ⟨0,0,dH⟩]) h') :
  OL lv su.p su.l ⟨ga,0,none⟩ ⟨g,0,none⟩ p16 l17 l18 L K h:=by
 subst hlv;unfold OL bH aP bK bU bt fx bn bY aR dh;have hll:=v.len;have hmany:=sz.many;have hgs:=pr.box.lt;refine aX (cs:=[(false,[.int .i64])]) (fun y k h'=>∃ (i:Nat) (st sd:cz) (tw dw:List (cz × List (cz × cE))),y.1=(i:Int)/\k=us.length-i/\i<=us.length/\Ext h0 h'/\Ch [g] h h'/\bF h' g 81 [su.v,lb.v,st.v,sd.v]/\uR h' h.size st tw/\uR h' h.size sd dw/\(∀ j,j∈aM st.p->j∉aM sd.p) /\
  yi us LB es (·.text) i tw/\yi us LB es (·.data) i dw) ((0:Int),()) us.length rfl
  ⟨0,mj,mj,[],[],rfl,rfl,ad,e0,Ch.refl _ _,pr.box,uR.nil _ _,uR.nil _ _,by simp [mj,aM],⟨rfl,fun n u x _ hx=>by simp at hx⟩,⟨rfl,fun n u x _ hx=>by simp at hx⟩⟩ ?_
 rintro ⟨n21,⟨⟩⟩ k h1 ⟨i,st,sd,tw,dw,hi,rfl,hle,e1,k1,b7,t1,d1,hdj,it,id⟩;simp only at hi;subst hi;refine an ?_;have hw:=iA i;have z1:=k1.size;refine aQ (fun q=>?_) (fun q=>?_)
 ·have O:i<us.length:=ad
  have Y:us[i]?=some us[i]:=Y1 O;obtain ⟨au,sa,sb,sc,sd',hau,hcu,va⟩:=v.cells i O;have hum:=Y9 O;generalize us[i]=u at Y hcu va hum;have uw:=hW i u Y;have prk:∀ {h':Hp} {st' sd2:cz},Ch [g] h h'->bF h' g 81 [su.v,lb.v,st'.v,sd2.v]->DU h' g su lb st' sd2 LB:=fun k bx=>⟨bx,pr.oT.bM k (fun j G J=>by have:=(pr.oT.cr G).1; simp at J; omega)⟩
  have vek:∀ {h':Hp},Ch [g] h h'->tQ h' p16 l17 es:=fun k=>ve.mG k (fun j G J=>by have:=hq j G; simp at J; omega) (fun e he _ j G J=>by have:=(hb e he j G).1; simp at J; omega)
  have cu0:∀ {h':Hp},Ext h0 h'->aI h' (au.add (i*4)) 0 [.slice sa.p sa.l sa.c]:=fun e=>⟨(aT e aj _ _ hcu).1,trivial⟩
  have cu1:∀ {h':Hp},Ext h0 h'->aI h' ((au.add (i*4)).add 1) 0 [.slice sb.p sb.l sb.c]:=fun e=>⟨by rw [add_add]; exact (aT e aj _ _ hcu).2.1,trivial⟩
  rw [aE];refine af b7 ((st.p,st.l,st.c),()) rfl (an ?_);refine ay ⟨ad,ad⟩ (aw hau ?_);rw [show Int.toNat (i:Int)=i from ad];refine az ((sa.p,sa.l,sa.c),()) (cu0 e1) (an ?_);refine aJ (Ci (c:=sa.c) (d:=l18) (prk k1 b7) (v.ak e1) sz O hL (va.ak e1).text (sz.text u hum) (fun x hx=>(uw.text x hx).1) (vek k1) (fun e he j G=>by have:=(hb e he j G).2; omega) hm hS hes (fun x hx=>(uw.text x hx).2)) ?_;rintro _ h2 ⟨e2,p2,l2,c2,w2,rfl,o2,hm2⟩;refine ⟨((p2,l2,c2),()),rfl,an ?_⟩;have z2:=e2.size;have e02:=e1.trans e2;have b72:=b7.ak e2 aj;refine ⟨⟨b72.cells _ rfl,trivial⟩,?_⟩;refine uR.push (x:=(⟨p2,l2,c2⟩,w2)) (t1.ext e2) (DZ o2 z1) ad (by rw [it.1]; omega) (by exact fun h' e=>⟨cu0 (e02.trans e),(b72.ak e aj).cells _ rfl,trivial⟩) ?_;intro p3 c3 h3 t3 k3 hp3;have U:∀ j,j∈aM st.p->h.size<=j/\j<h1.size:=fun j G=>t1.sl.cr G
  have e03:Ext h0 h3:=Ch.trans e02 k3 (fun j G hl=>by have:=U j G; have:=e0.size; omega);have kg3:Ch [g] h h3:=Ch.trans (Ch.trans k1 e2 aj) k3 (fun j G hl=>by have:=U j G; omega);have b73:=b72.ak k3 (fun G=>by have:=U _ G; omega);have d3:uR h3 h.size sd dw:=(d1.ext e2).ak (e':=43) k3 (SL.AZ (t1.ext e2).sl) (fun j G J=>hdj j J G) bZ bZ;have z3:=k3.size;refine ⟨⟨cu0 e03,trivial⟩,?_⟩;rw [aE];refine ar b73 rfl aj ?_;intro h4 V k4 z4;have V:bF h4 g 81 [su.v,lb.v,(⟨p3,st.l+1,c3⟩:cz).v,sd.v]:=V;have hg0:∀ j,j∈[g]->h0.size<=j:=fun j G=>by simp at G; omega
  have Z:Ext h0 h4:=Ch.trans e03 k4 (fun j G hl=>by have:=hg0 j G; omega);have kg4:Ch [g] h h4:=Ch.trans kg3 k4 (fun j G _=>G);have hbg:∀ {J:Hp} {xs:List Xab},bF J g 81 xs->∀ j,j∈[g]->∃ ys,bF J j 81 ys:=fun bx j G=>by
   rw [Zi] at G;subst G;exact ⟨_,bx⟩
  have hng:∀ {J:Hp} {s:cz} {t:List (cz × List (cz × cE))},uR J h.size s t->∀ j,j∈aM s.p->j∉[g]:=fun t j G J=>by have:=(t.sl.cr G).1; simp at J; omega
  have t4:=t3.ak (e':=81) k4 (hbg b73) (hng t3) bZ bZ;have d4:=d3.ak (e':=81) k4 (hbg b73) (hng d3) bZ bZ;have hdj4:∀ j,j∈aM p3->j∉aM sd.p:=fun j G J=>by
   rcases hp3 with h | ⟨a',h,h'⟩
   ·rw [h] at G; exact hdj j G J
   ·rw [h] at G;simp [aM] at G
    have:=(d1.sl.cr J).2
    omega
  refine af V ((sd.p,sd.l,sd.c),()) rfl (an ?_);refine ay ⟨ad,ad⟩ (aw hau ?_);refine az ((sb.p,sb.l,sb.c),()) (cu1 Z) (an ?_);refine aJ (Ci (c:=sb.c) (d:=l18) (prk kg4 V) (v.ak Z) sz O hL (va.ak Z).data (sz.data u hum) (fun x hx=>(uw.data x hx).1) (vek kg4) (fun e he j G=>by have:=(hb e he j G).2; omega) hm hS hes (fun x hx=>(uw.data x hx).2)) ?_;rintro _ h5 ⟨e5,p5,l5,c5,w5,rfl,o5,hm5⟩;refine ⟨((p5,l5,c5),()),rfl,an ?_⟩;have z5:=e5.size;have e05:=Z.trans e5;have b75:=V.ak e5 aj;refine ⟨⟨b75.cells _ rfl,trivial⟩,?_⟩;refine uR.push (x:=(⟨p5,l5,c5⟩,w5)) (d4.ext e5) (DZ o5 ad) ad (by rw [id.1]; omega) (by exact fun h' e=>⟨cu1 (e05.trans e),(b75.ak e aj).cells _ rfl,trivial⟩) ?_;intro p6 c6 h6 d6 k6 hp6;have X:∀ j,j∈aM sd.p->h.size<=j/\j<h1.size:=fun j G=>d1.sl.cr G
  have e06:Ext h0 h6:=Ch.trans e05 k6 (fun j G hl=>by have:=X j G; have:=e0.size; omega);have kg6:Ch [g] h h6:=Ch.trans (Ch.trans kg4 e5 aj) k6 (fun j G hl=>by have:=X j G; omega);have b76:=b75.ak k6 (fun G=>by have:=X _ G; omega);have t6:uR h6 h.size ⟨p3,st.l+1,c3⟩ (tw++[(⟨p2,l2,c2⟩,w2)]):=(t4.ext e5).ak (e':=43) k6 (SL.AZ (d4.ext e5).sl) hdj4 bZ bZ;refine ⟨⟨cu1 e06,trivial⟩,?_⟩;refine ar b76 rfl aj ?_;intro h7 b77 k7 z7;have b77:bF h7 g 81 [su.v,lb.v,(⟨p3,st.l+1,c3⟩:cz).v,(⟨p6,sd.l+1,c6⟩:cz).v]:=b77;have e07:Ext h0 h7:=Ch.trans e06 k7 (fun j G hl=>by have:=hg0 j G; omega);refine BK (cs:=[(false,[.int .i64])]) (((i+1:Nat):Int),()) (us.length-(i+1)) ad (Zl (fun z=>[Value.int .i64 z]) hw) ⟨i+1,⟨p3,st.l+1,c3⟩,⟨p6,sd.l+1,c6⟩,_,_,rfl,rfl,ad,e07,Ch.trans kg6 k7 (fun j G _=>G),b77,
   t6.ak (e':=81) k7 (hbg b76) (hng t6) bZ bZ,d6.ak (e':=81) k7 (hbg b76) (hng d6) bZ bZ,fun j G J=>?_,it.push Y hm2,id.push Y hm5⟩
  rcases hp6 with h | ⟨a',h,h'⟩
  ·rw [h] at J; exact hdj4 j G J
  ·rw [h] at J;simp [aM] at J
   have:=(t4.sl.cr G).2
   omega
 ·have:i=us.length:=ad
  subst this;have b1':=b1.ak k1 (by simp; omega);refine ar b1' rfl aj ?_;intro h2 b2 k2 z2;have b2:bF h2 ga 75 [.int .i64 0,.int .i64 0,.string dH]:=b2;refine af b2 ((0:Int),(0:Int),dH,()) rfl ?_;have hba:∀ j,j∈[ga]->∃ ys,bF h1 j 75 ys:=fun j G=>by
   rw [Zi] at G;subst G;exact ⟨_,b1'⟩
  have hna:∀ {s:cz} {t:List (cz × List (cz × cE))},uR h1 h.size s t->∀ j,j∈aM s.p->j∉[ga]:=fun t j G J=>by have:=(t.sl.cr G).1; simp at J; omega
  refine hk h2 st sd tw dw (bR e1 k2) ⟨b7.ak k2 (by simp; omega),?_⟩ (t1.ak (e':=75) k2 hba (hna t1) bZ bZ) (d1.ak (e':=75) k2 hba (hna d1) bZ bZ) it id;refine pr.oT.bM (Ch.trans (ws:=[g,ga]) (Ch.mono k1 aj) k2 aj) (fun j G J=>by have:=(pr.oT.cr G).1; simp at J; omega)
def qg (us:List bX):List Nat:=us.flatMap fun u=>List.range u.bh.length
theorem rI:∀ (us:List bX) (n:Nat),(ek n us).length=(qg us).length
 | [],n=>rfl
 | u::us,n=>by
  unfold qg;rw [ek,ZG,Y4,Y4,Y0,ay9,rI us (n+1)] <;> rfl
def Ny (lv:Nat) (u:Xac) (G:Nat) (a1:Xax) (p12:Xac) (l13:Nat) (J:Int):T :=
   T.loop [aR,aR] [.int .i64 (0:Int),.int .i64 J] <| fun (j:Int) (X:Int) =>
   T.need (fx j G) <|
   T.bG u <| fun (a23:Xax) =>
   T.ah ((a23.add (aP j 4)).add 2) [.slice 100] <| fun (p24:Xac) (l25:Nat) (l26:Nat) =>
   cond (decide (X>=(l25:Int)))
   (T.need (fx j G) <|
   T.bG u <| fun (a27:Xax) =>
   T.ah ((a27.add (aP j 4)).add 2) [.slice 100] <| fun (V:Xac) (O:Nat) (Y:Nat) =>
   T.again lv [.int .i64 (bt (j+(1:Int))),.int .i64 (bt (X-(O:Int)))])
   (T.need (fx j G) <|
   T.bG u <| fun (a27:Xax) =>
   T.ah ((a27.add (aP j 4)).add 2) [.slice 100] <| fun (V:Xac) (O:Nat) (Y:Nat) =>
   T.need (fx J l13) <|
   T.bG p12 <| fun (Z:Xax) =>
   T.ah (Z.add (aP J 1)) [.int .i64] <| fun (U:Int) =>
   T.need (fx U O) <|
   T.bG V <| fun (a33:Xax) =>
   T.ah (a33.add (aP U 3)) [.string] <| fun (s34:Xaa) =>
   T.bi [((a33.add (aP U 3)),[.string s34]),((Z.add (aP J 1)),[.int .i64 U]),(((a27.add (aP j 4)).add 2),[.slice V O Y])] <|
   T.aC a1 [.int .i64 (24:Int),.int .i64 j,.string s34] <|
   T.ah a1 [.int .i64,.int .i64,.string] <| fun (n35:Int) (n36:Int) (s37:Xaa) =>
   bn #[.pointer none,.agg #[.int .i64 n35,.int .i64 n36,.string s37]])
def PP {L:Lp} {K:Xab->Hp->Prop} {h0 h:Hp} {ga lv b:Nat} {p:Xac} {l:Nat} {us:List bX} {x y:Int} {z:Xaa} {p12:Xac} {Z c13:Nat} {i0:Nat} {q:Nat × ry} (hlv:lv=L.length) (h0g:h0.size<=ga) (e0:Ext h0 h) (b1:bF h ga 75 [.int .i64 x,.int .i64 y,.string z]) (v:uH h p l us) (hmany:us.length<=2^20)
  (k12:SL h b 3 1 p12 Z c13 ((qg us).map KV)) (hle:(ek 0 us).length<=2^40) (hq:(ek 0 us)[i0]?=some q) (hk:∀ h',Ext h0 h'->K (.tuple #[.pointer none,O5 ⟨24,q.1,q.2.1⟩]) h'):Ny lv p l ⟨ga,0,none⟩ p12 Z i0 L K h:=by
 subst hlv;unfold Ny aP bt fx bn aR;have hll:=v.len;have hi0:i0<(ek 0 us).length:=(Zj.1 hq).1;have hkl:=rI us 0;refine aX (cs:=[(false,[.int .i64]),(false,[.int .i64])]) (fun y k h'=>∃ (u r:Nat),y.1=(u:Int)/\y.2.1=(r:Int)/\k=us.length-u/\h'=h/\u<=us.length/\(ek u (us.drop u))[r]?=some q/\(qg (us.drop u))[r]?=(qg us)[i0]?/\r<=i0) ((0:Int),(i0:Int),()) us.length rfl
  ⟨0,i0,rfl,rfl,rfl,rfl,ad,hq,rfl,Zh _⟩ ?_
 rintro ⟨n21,n22,⟨⟩⟩ k h' ⟨u,r,hu,hr,rfl,rfl,hul,j,G,hri⟩;simp only at hu hr;subst hu hr;refine an ?_;have V:u<us.length:=by
  by_cases h:u<us.length
  ·exact h
  ·rw [ZZ ad] at j;simp [ek] at j
 rw [Zg V] at j G;have G:(List.range us[u].bh.length++qg (us.drop (u+1)))[r]?=(qg us)[i0]?:=G;have j:(us[u].bh.map (fun e=>(u,e))++ek (u+1) (us.drop (u+1)))[r]?=some q:=j;obtain ⟨au,sa,sb,sc,sd,rfl,hcu,va⟩:=v.cells u V;generalize us[u]=w at G j hcu va;have hlq:=va.bh.len;have U:aI h' ((au.add (u*4)).add 2) 0 [.slice sc.p sc.l sc.c]:=⟨by rw [add_add]; exact hcu.2.2.1,trivial⟩
 refine ay ⟨ad,ad⟩ (aw rfl ?_);rw [show Int.toNat (u:Int)=u from ad];refine az ((sc.p,sc.l,sc.c),()) U (an ?_);refine aQ (fun g=>?_) (fun g=>?_)
 ·have hge:w.bh.length<=r:=ad
  refine ay ⟨ad,ad⟩ (aw rfl ?_);refine az ((sc.p,sc.l,sc.c),()) U (an ?_);have hw1:=iA u;have hw2:IntKind.wrap .i64 ((r:Int)-(sc.l:Int))=((r-w.bh.length:Nat):Int):=by rw [wrap_i64 ad ad]; omega
  rw [ZC (by rw [Y0]; exact hge),Y0] at j;rw [ZC (by rw [ay9]; exact hge),ay9] at G;exact BK (cs:=[(false,[.int .i64]),(false,[.int .i64])]) (((u+1:Nat):Int),((r-w.bh.length:Nat):Int),()) (us.length-(u+1)) ad (by rw [hw1,hw2]; rfl) ⟨u+1,r-w.bh.length,rfl,rfl,rfl,rfl,ad,j,G,ad⟩
 ·have O:r<w.bh.length:=ad
  rw [ZD (by rw [Y0]; exact O),ZO,Y1 O] at j;rw [ZD (by rw [ay9]; exact O),am9 O] at G;have hq':(u,w.bh[r])=q:=Zn j;subst hq';refine ay ⟨ad,ad⟩ (aw rfl ?_);refine az ((sc.p,sc.l,sc.c),()) U (an ?_);have X:i0<(qg us).length:=ad
  obtain ⟨a12,ha12,J⟩:=SL.cells k12 (i:=i0) (by rw [Y0]; exact X);rw [Zb] at J;have hgr:(qg us)[i0]=r:=by
   rw [Y1 X] at G;exact (Zn G).symm
  rw [hgr] at J;have hl13:Z=(qg us).length:=by have:=k12.1; rwa [Y0] at this
  refine ay ⟨ad,ad⟩ (aw ha12 ?_);rw [show Int.toNat (i0:Int)=i0 from ad];refine az ((r:Int),()) J (an ?_);obtain ⟨aq,pq,mq,cq,haq,Y,_,_⟩:=va.bh.cells r O;refine ay ⟨ad,ad⟩ (aw haq ?_);rw [show Int.toNat (r:Int)=r from ad];refine az (w.bh[r].1,()) ⟨Y.1,trivial⟩ (an ?_);refine ⟨⟨⟨Y.1,trivial⟩,J,U,trivial⟩,?_⟩;refine ar b1 rfl aj ?_;intro h2 b2 k2 z2;have b2:bF h2 ga 75 [.int .i64 24,.int .i64 (u:Int),.string w.bh[r].1]:=b2;refine af b2 ((24:Int),(u:Int),w.bh[r].1,()) rfl ?_;exact hk h2 (bR e0 k2)
def R8 (G:Xac) (j:Nat) (a1 a7:Xax):T :=
  T.loop [dh,dh,aR] [bj,bj,.int .i64 (0:Int)] <| fun (p9:Xac) (l10:Nat) (l11:Nat) (p12:Xac) (l13:Nat) (l14:Nat) (u:Int) =>
  bH u j
  (T.loop [dh,dh,aR] [.slice p9 l10 l11,.slice p12 l13 l14,.int .i64 (0:Int)] <| fun (p16:Xac) (l17:Nat) (O:Nat) (p19:Xac) (l20:Nat) (l21:Nat) (J:Int) =>
  T.need (fx u j) <|
  T.bG G <| fun (a23:Xax) =>
  T.ah ((a23.add (aP u 4)).add 2) [.slice 100] <| fun (p24:Xac) (l25:Nat) (l26:Nat) =>
  bH J l25
   (T.need (fx u j) <|
   T.bG G <| fun (a27:Xax) =>
   T.ah ((a27.add (aP u 4)).add 2) [.slice 100] <| fun (p28:Xac) (l29:Nat) (l30:Nat) =>
   T.need (fx J l29) <|
   T.bG p28 <| fun (a31:Xax) =>
   T.ah (a31.add (aP J 3)) [.string,.slice 117,.int .u32] <| fun (SM:Xaa) (p33:Xac) (l34:Nat) (l35:Nat) (n36:Int) =>
   T.new [bY,bj,aG (0:Int)] 100 <| fun (a37:Xax) =>
   T.aC a37 [.string SM,.slice p33 l34 l35,aG n36] <|
   T.ah a37 [.string] <| fun (U:Xaa) =>
   T.ah (a37.add 1) [.slice 117,.int .u32] <| fun (V:Xac) (X:Nat) (Y:Nat) (Z:Int) =>
   bK 50 [.pointer (some a7),.int .i64 u,.string U] false [(false,[.string])] <| fun (s43:Xaa) =>
   T.bi [((a37.add 1),[.slice V X Y,aG Z])] <|
   bK 51 [.pointer (some a7),.int .i64 u,.agg #[.slice V X Y,aG Z]] false [(true,[.slice 117,.int .u32])] <| fun (p44:Xac) (l45:Nat) (l46:Nat) (n47:Int) =>
   T.bi [(a37,[.string U])] <|
   bU (Instr.buildSlice 44 1 #[(0,.agg #[.string s43,.slice p44 l45 l46,aG n47])]) false [dh] <| fun (p48:Xac) (l49:Nat) (l50:Nat) =>
   T.bi [((a37.add 1),[.slice V X Y,aG Z]),(a37,[.string U])] <|
   bU (Builtin.append_ #[44,44] 44 #[.slice p16 l17 O,.slice p48 l49 l50]) false [dh] <| fun (p51:Xac) (l52:Nat) (l53:Nat) =>
   T.bi [((a37.add 1),[.slice V X Y,aG Z]),(a37,[.string U])] <|
   bU (Instr.buildSlice 31 1 #[(0,.int .i64 J)]) false [dh] <| fun (p54:Xac) (l55:Nat) (l56:Nat) =>
   bU (Builtin.append_ #[31,31] 31 #[.slice p19 l20 l21,.slice p54 l55 l56]) false [dh] <| fun (p57:Xac) (l58:Nat) (l59:Nat) =>
   T.again 2 [.slice p51 l52 l53,.slice p57 l58 l59,.int .i64 (bt (J+(1:Int)))])
   (T.again 1 [.slice p16 l17 O,.slice p19 l20 l21,.int .i64 (bt (u+(1:Int)))]))
  (bK 52 [.slice p9 l10 l11] true [(false,[.slice 100]),aR,aR] <| fun (p16:Xac) (l17:Nat) (O:Nat) (n19:Int) (n20:Int) =>
  cond (n20 != (0:Int)) (Ny 2 G j a1 p12 l13 n19) (OL 2 G j a1 a7 p16 l17 O))
structure VP (h:Hp) (b:Nat) (p:Xac) (l c:Nat) (q:Xac) (m d:Nat) (ms:List cK) (ks:List Nat):Prop where
 out:SL h b 100 3 p l c (ms.map zD)
 num:SL h b 3 1 q m d (ks.map KV)
 fw:∀ e,e∈ms->SL h b 117 2 e.p e.l e.c (e.x.ai.map df)
def VP.ext {h h':Hp} {b:Nat} {p:Xac} {l c:Nat} {q:Xac} {m d:Nat} {ms:List cK} {ks:List Nat} (s:VP h b p l c q m d ms ks) (e:Ext h h'):VP h' b p l c q m d ms ks :=
 ⟨s.out.bM e aj,s.num.bM e aj,fun x hx=>(s.fw x hx).bM e aj⟩
def dR (us:List bX) (L:List Lb) (l:List bX):List (Xaa × ct):=(ek 0 l).map fun q=>(dr us L q.1 q.2.1,gC us L q.1 q.2.2)
def Jv (l:List bX) (u:bX):qg (l++[u])=qg l++List.range u.bh.length:=by
 unfold qg;rw [ab9]
 simp
def P8 (us:List bX) (L:List Lb) (l:List bX) (u:bX):dR us L (l++[u])=dR us L l++u.bh.map fun e=>(dr us L l.length e.1,gC us L l.length e.2):=by
 unfold dR;rw [nT,Ze,Zv];simp only [Nat.zero_add] <;> rfl
def Yo (us:List bX) (n:Nat) (u:bX):Prop:=∀ e,e∈u.bh->Ot us n e.2/\(∃ o,gw us n e.1=some o)/\e.1.size<=2^60
def nP (n:Nat):kQ n=fX n:=wo n
def Fg (n:Nat):∀ c,c∈Lib.decDigits n->c≠95:=by
 intro c hc e;rw [Lib.decDigits_eq] at hc;obtain ⟨t,_,rfl⟩:=Za.1 hc;unfold Lib.dg at e;have h1:=Zl UInt8.toNat e;have h2:(UInt8.ofNat (48+n / 10^(Lib.nDigits n-1-t) % 10)).toNat=48+n / 10^(Lib.nDigits n-1-t) % 10:=by
  rw [UInt8.toNat_ofNat'];omega
 rw [h2] at h1;have h3:(95:UInt8).toNat=95:=rfl;omega
theorem R4:∀ {a b:List UInt8} {s t:List UInt8},(∀ c,c∈a->c≠95)->(∀ c,c∈b->c≠95)->a++95::s=b++95::t->a=b/\s=t
 | [],[],s,t,_,_,h=>by simpa using h
 | [],c::b,s,t,_,hb,h=>by
  simp only [List.nil_append,List.cons_append,List.cons.injEq] at h;exact absurd h.1.symm (hb c aj)
 | c::a,[],s,t,j,_,h=>by
  simp only [List.nil_append,List.cons_append,List.cons.injEq] at h;exact absurd h.1 (j c aj)
 | c::a,d::b,s,t,j,hb,h=>by
  simp only [List.cons_append,List.cons.injEq] at h;obtain ⟨h1,h2⟩:=R4 (fun x hx=>j x (Zd _ hx)) (fun x hx=>hb x (Zd _ hx)) h.2;exact ⟨by rw [h.1,h1],h2⟩
def Dk (L:List Lb) (o:Nat) (s:Xaa):O8 L o s=mZ (L.map yG) (o,s):=by
 unfold O8 mZ;rw [cf9]
 congr 1
 funext x
 show _=decide (yG x=(o,s));unfold yG;rw [cb9]
 simp
def Pe (L:List Lb) (k:Ky):Xaa:=qH L k.1 k.2
def Qp {L:List Lb} {k k':Ky} (h:Pe L k=Pe L k'):k=k':=by
 have u:∀ a b:Xaa,(⟨#[76]⟩:Xaa)++a≠(⟨#[69]⟩:Xaa)++b:=by
  intro a b e;have h1:=Zl (fun b:Xaa=>b.data.toList) e;simp only [eD] at h1;simp at h1
 have has:∀ a b c:Xaa,((⟨#[69]⟩++a)++⟨#[95]⟩)++b=(⟨#[69]⟩:Xaa)++(a++(⟨#[95]⟩++b)):=by
  intro a b c;simp only [ByteArray.append_assoc]
 obtain ⟨o,s⟩:=k;obtain ⟨o',s'⟩:=k';unfold Pe qH at h;rw [Dk,Dk] at h;cases h1:mZ (L.map yG) (o,s) with
 | some i =>
  cases h2:mZ (L.map yG) (o',s') with
  | some j =>
   rw [h1,h2] at h;have h:(⟨#[76]⟩:Xaa)++fX i=⟨#[76]⟩++fX j:=h;rw [<- nP,<- nP] at h
   have:=sx (vT h)
   subst this;obtain ⟨a,G⟩:=jy h1;obtain ⟨b,hb⟩:=jy h2;rw [<- G,<- hb]
  | none =>
   rw [h1,h2] at h;have h:(⟨#[76]⟩:Xaa)++fX i=((⟨#[69]⟩++fX o')++⟨#[95]⟩)++s':=h;rw [has _ _ ⟨#[]⟩] at h;exact absurd h (u _ _)
 | none =>
  cases h2:mZ (L.map yG) (o',s') with
  | some j =>
   rw [h1,h2] at h;have h:((⟨#[69]⟩++fX o)++⟨#[95]⟩)++s=(⟨#[76]⟩:Xaa)++fX j:=h;rw [has _ _ ⟨#[]⟩] at h;exact absurd h.symm (u _ _)
  | none =>
   rw [h1,h2] at h;have h:((⟨#[69]⟩++fX o)++⟨#[95]⟩)++s=((⟨#[69]⟩++fX o')++⟨#[95]⟩)++s':=h;rw [has _ _ ⟨#[]⟩,has _ _ ⟨#[]⟩] at h;have h:=vT h;have h3:=Zl (fun b:Xaa=>b.data.toList) h;simp only [eD] at h3;have h4:Lib.decDigits o++95::s.data.toList=Lib.decDigits o'++95::s'.data.toList:=by
    have e:∀ n:Nat,(fX n).data.toList=Lib.decDigits n:=fun n=>by unfold fX; simp
    rw [e,e] at h3;simpa using h3
   obtain ⟨h5,h6⟩:=R4 (Fg o) (Fg o') h4;have h7:o=o':=by
    apply sx;rw [nP,nP];unfold fX;rw [h5]
   subst h7
   congr 1
   cases s; cases s';simp only at h6
   congr 1
   exact Array.ext' h6
structure qU (us:List bX) (w:LW):Prop where
 right:∀ u,u∈us->dL u=0
 wi:WI w (bQ 0 us) ((ek 0 us).map jP)
 gl:∀ s,w.gl s=PC us s
def Vg (us:List bX) (k:Ky):Prop:=k∈(bQ 0 us).map yG\/k∈(ek 0 us).map jP
def ME {us:List bX} {n:Nat} {u:bX} (hu:us[n]?=some u) {s:Xaa} (hs:s∈eN u):Vg us (n,s):=by
 unfold eN at hs;rw [Zk,Zk] at hs;rcases hs with hs | hs
 ·exact .inl ((xo s n us 0).2 ⟨u,cg9 _,by rw [cx9]; exact hu,hs⟩)
 ·exact .inr ((zG s n us 0).2 ⟨u,cg9 _,by rw [cx9]; exact hu,hs⟩)
def D4 {u:bX} (h:dL u=0):∀ x,x∈u.aU->x∈eN u:=by
 have h1:=(wM h).2;rw [xk] at h1;unfold xh at h1;simp only [Bool.and_eq_true,decide_eq_true_eq] at h1;exact fun x hx=>((qN _ _ _ h1.2.2.2.2).1 x hx).1
def vp {l:List Xaa} {s:Xaa}:fZ l s=true↔s∈l:=by
 unfold fZ;rw [as9];constructor
 ·rintro ⟨x,hx,j⟩;rw [<- Y5 j]; exact hx
 ·intro h;exact ⟨s,h,Y6 rfl⟩
def I6 {us:List bX} (J:∀ u,u∈us->dL u=0) {n o:Nat} {s:Xaa} (h:gw us n s=some o):Vg us (o,s):=by
 unfold gw at h;split at h
 ·rename_i j;cases h;cases hu:us[n]? with
  | none=>rw [hu] at j; cases j
  | some u =>
   rw [hu] at j;exact ME hu (vp.1 (Zn j))
 ·rw [Zs] at h;obtain ⟨G,h1,_⟩:=h;exact ME (Y1 G) (D4 (J _ (Y9 G)) s (vp.1 h1))
def xw {us:List bX} {n:Nat} {u:bX} (hu:us[n]?=some u) {s:Xaa} (hs:s∈eN u):gw us n s=some n:=by
 unfold gw;rw [hu,cr9,Y8 (by rw [vp.2 hs])]
def Mz {us:List bX} {w:LW} (i0:WI w (bQ 0 us) ((ek 0 us).map jP)) {k:Ky} (hk:Vg us k) (hn:k∉(ek 0 us).map jP):w.word k=Pe (bQ 0 us) k:=by
 have hk:k∈(bQ 0 us).map yG:=hk.elim id fun h=>absurd h hn
 obtain ⟨i,hi⟩:=AV hk;unfold LW.word Pe qH;rw [Dk,i0.num];show (match mZ ((bQ 0 us).map yG) k with | some n=>(⟨#[76]⟩:Xaa)++kQ n | none=>_)=match mZ ((bQ 0 us).map yG) (k.1,k.2) with | some i=>(⟨#[76]⟩:Xaa)++fX i | none=>_
 rw [hi];show (⟨#[76]⟩:Xaa)++kQ i=⟨#[76]⟩++fX i;rw [nP]
def Ww (f:Xaa->Nat) (s:Xaa):jA f (lE s)=f s % 4294967296:=by
 unfold jA lE;show (0+(1*f s+0)) % 4294967296=_
 congr 1
 omega
def qU.own {us:List bX} {w:LW} (A:qU us w) {n:Nat} (hn:n<us.length) (s:Xaa):w.own n s=(gw us n s).map fun o=>(o,s):=LV A.wi A.gl hn s
def qU.rel {us:List bX} {w:LW} (A:qU us w) {n:Nat} (hn:n<us.length) {x:ct} (hb:w.bad n x=none):yF (Vg us) w.word (Pe (bQ 0 us)) (w.lin n x) (gC us (bQ 0 us) n x):=by
 intro f g j;unfold LW.lin gC;rw [fH,fH];refine oL fun t J=>?_
 obtain ⟨k,hk⟩:=Ac hb t J;rw [A.own hn] at hk;obtain ⟨o,G,rfl⟩:=bk9.1 hk;have u:=I6 A.right G;unfold Hy sO dr;simp only [A.own hn,G,Option.map_some,Option.getD_some];rw [Ww,Ww,j _ u] <;> rfl
def yV {us:List bX} {q:Nat × ry} (j:q∈ek 0 us):∃ u,us[q.1]?=some u/\q.2∈u.bh:=by
 obtain ⟨i,hi,h1,h2⟩:=vq us 0 q j;rw [ZJ] at h1;exact ⟨us[i],by rw [h1]; exact Y1 hi,h2⟩
def qU.two {us:List bX} {w:LW} (A:qU us w) (hb:fK w 0 us=none):uY (ek 0 us) jP (Vg us) w.word (Pe (bQ 0 us)) (fun q=>w.lin q.1 q.2.2) fun q=>gC us (bQ 0 us) q.1 q.2.2 where
 nd:=wH us 0 fun u hu=>by
  have:=wG (A.right u hu)
  unfold eN at this;rw [ZX] at this;exact this.2.1
 O':=fun q j=>.inr (Zm j)
 ia:=fun k k' hk G h=>word_inj A.wi hk G h
 ib:=fun k k' _ _ h=>Qp h
 RU:=fun k hk hn=>Mz A.wi hk hn
 rel:=fun q j=>by
  obtain ⟨u,hu,_⟩:=yV j;exact A.rel (Zj.1 hu).1 (DH hb j)
 fa:=fun q _=>eX _ _
 fb:=fun q _=>eX _ _
def LZ (w:LW) (us:List bX):vG w us=wD (ek 0 us) jP w.word fun q=>w.lin q.1 q.2.2:=rfl
def K5 (us:List bX):dR us (bQ 0 us) us=wD (ek 0 us) jP (Pe (bQ 0 us)) fun q=>gC us (bQ 0 us) q.1 q.2.2:=by
 unfold dR wD;refine ZM fun q j=>?_
 obtain ⟨u,hu,G⟩:=yV j
 have:gw us q.1 q.2.1=some q.1:=xw hu (by
  unfold eN;exact ZE _ (Zm G))
 unfold dr;rw [this] <;> rfl
def qU.Vu {us:List bX} {w:LW} (A:qU us w) (hb:fK w 0 us=none):mT (vG w us)=dE (eU (dR us (bQ 0 us) us)):=by
 rw [LZ,K5];exact (A.two hb).Vu
def qU.put {us:List bX} {w:LW} (A:qU us w) (hb:fK w 0 us=none) (hc:mT (vG w us)=none) {n:Nat} (hn:n<us.length) {x:ct} (j:w.bad n x=none) (hx:x.num<4294967296) {ms:List cK} (hm:ms.map fk=(dR us (bQ 0 us) us).map fun y=>(y.1,eR (eU (dR us (bQ 0 us) us)) y.1)) :
  vF (mu (vG w us)) (w.lin n x)=de (cw ms) (gC us (bQ 0 us) n x):=by
 have h1:cw ms=cw (eU (mu (dR us (bQ 0 us) us))):=FC (by rw [mI,hm]; rfl);rw [h1];show _=vF (mu (dR us (bQ 0 us) us)) _;rw [K5];rw [LZ] at hc ⊢;exact (A.two hb).same hc (A.rel hn j) (lM hx) (lM hx)
def ED {es fs:List cK} (h:es.map fk=fs.map fk):dE es=dE fs:=by
 unfold dE;have u:∀ (j:List cK),(j.findIdx? fun e=>@decide (kq (dp j) e.name) (Classical.propDecidable _))=(j.map fk).findIdx? fun q=>@decide (kq (dp j) q.1) (Classical.propDecidable _):=by
  intro j;rw [cf9] <;> rfl
 rw [u,u,h,AT h]
def QH {J0:List Xab->Hp->Prop} {K:Xab->Hp->Prop} {h0 h:Hp} {ga g:Nat} {su lb:cz} {LB:List Lb} {us:List bX} {a b:Int} {z:Xaa} {S:List Xaa} (hga:ga<g) (h0g:h0.size<=ga) (e0:Ext h0 h) (b1:bF h ga 75 [.int .i64 a,.int .i64 b,.string z])
  (pr:DU h g su lb mj mj LB) (v:uH h0 su.p su.l us) (sz:KO us) (hL:LB.length<=2^40) (hE:∀ n u,us[n]?=some u->Yo us n u) (hW:∀ n u,us[n]?=some u->UG us LB S n u) (hnd:((dR us LB us).map (·.1)).Nodup) (hlen:(ek 0 us).length<=2^20) (hS:S.length<=2^30)
  (hSd:∀ y,y∈dR us LB us->∀ t,t∈y.2.ai->t.1∈S)
  (hk1:∀ h' i q,dE (eU (dR us LB us))=some i->(ek 0 us)[i]?=some q->Ext h0 h'->K (.tuple #[.pointer none,O5 ⟨24,q.1,q.2.1⟩]) h')
  (hk0:∀ h' b' st sd tw dw ms,dE (eU (dR us LB us))=none->ms.map fk=(dR us LB us).map (fun y=>(y.1,eR (eU (dR us LB us)) y.1))->Ext h0 h'->DU h' g su lb st sd LB->uR h' b' st tw->uR h' b' sd dw->yi us LB ms (·.text) us.length tw->yi us LB ms (·.data) us.length dw->K (.tuple #[.pointer (some ⟨g,0,none⟩),O5 ⟨0,0,dH⟩]) h') :
  R8 su.p su.l ⟨ga,0,none⟩ ⟨g,0,none⟩ [J0] K h:=by
 unfold R8 bH aP bK bU bt fx aG bj bY aR dh;have hll:=v.len;have hmany:=sz.many;have hgs:=pr.box.lt;have hz0:=e0.size;refine aX (cs:=[(false,[.slice 0]),(false,[.slice 0]),(false,[.int .i64])]) (fun y k h'=>∃ (i:Nat) (ms:List cK) (ks:List Nat),y.2.2.1=(i:Int)/\k=us.length-i/\i<=us.length/\Ext h h'/\VP h' h.size y.1.1 y.1.2.1 y.1.2.2 y.2.1.1 y.2.1.2.1 y.2.1.2.2 ms ks/\ms.map fk=dR us LB (us.take i)/\ks=qg (us.take i))
  ((none,0,0),(none,0,0),(0:Int),()) us.length rfl ⟨0,[],[],rfl,rfl,ad,Ch.refl _ _,⟨SL.nil _ _ _ _,SL.nil _ _ _ _,aj⟩,rfl,rfl⟩ ?_
 rintro ⟨⟨p9,l10,l11⟩,⟨p12,l13,l14⟩,n15,⟨⟩⟩ k h1 ⟨i,ms,ks,hi,rfl,hle,e1,o1,G,rfl⟩;simp only at hi o1;subst hi;refine an ?_;refine aQ (fun q=>?_) (fun q=>?_)
 ·have U:i<us.length:=ad
  have hug:us[i]?=some us[i]:=Y1 U;have htk:us.take (i+1)=us.take i++[us[i]]:=Y3 U;have hti:(us.take i).length=i:=by rw [Zp]; omega
  have hwt:=iA i;obtain ⟨au,sa,sb,sc,sd,hau,hcu,va⟩:=v.cells i U;have hum:=Y9 U;generalize us[i]=u at hug htk hcu va hum;have ew:=hE i u hug;have hlq:=va.bh.len;have hue:=sz.bh u hum;refine aX (cs:=[(false,[.slice 0]),(false,[.slice 0]),(false,[.int .i64])]) (fun y k h'=>∃ (j:Nat) (ms:List cK) (ks:List Nat),y.2.2.1=(j:Int)/\k=u.bh.length-j/\j<=u.bh.length/\Ext h h'/\VP h' h.size y.1.1 y.1.2.1 y.1.2.2 y.2.1.1 y.2.1.2.1 y.2.1.2.2 ms ks /\
   ms.map fk=dR us LB (us.take i)++(u.bh.take j).map (fun e=>(dr us LB i e.1,gC us LB i e.2))/\ks=qg (us.take i)++List.range j) ((p9,l10,l11),(p12,l13,l14),(0:Int),()) u.bh.length rfl ⟨0,ms,_,rfl,rfl,ad,e1,o1,by simpa using G,aj⟩ ?_
  rintro ⟨⟨p16,l17,l18⟩,⟨p19,V,l21⟩,n22,⟨⟩⟩ k h2 ⟨j,X,ks2,hj,rfl,hlj,e2,o2,J,rfl⟩;simp only at hj o2;subst hj;refine an ?_;have e02:=e0.trans e2;have z2:=e2.size;have hwj:=iA j;have hcq:aI h2 ((au.add (i*4)).add 2) 0 [.slice sc.p sc.l sc.c]:=⟨by rw [add_add]; exact (aT e02 aj _ _ hcu).2.2.1,trivial⟩
  have hkl:=rI (us.take i) 0;have hsum1:(ek 0 (us.take i)).length<=(ek 0 us).length:=by
   have:=nT
   rw [rI,rI];unfold qg
   conv=>rhs; rw [<- ZL i us]
   rw [ab9,Y4];omega
  refine ay ⟨ad,ad⟩ (aw hau ?_);rw [show Int.toNat (i:Int)=i from ad];refine az ((sc.p,sc.l,sc.c),()) hcq (an ?_);refine aQ (fun r=>?_) (fun r=>?_)
  ·have hjl:j<u.bh.length:=ad
   have htj:u.bh.take (j+1)=u.bh.take j++[u.bh[j]]:=Y3 hjl;refine ay ⟨ad,ad⟩ (aw hau ?_);refine az ((sc.p,sc.l,sc.c),()) hcq (an ?_);obtain ⟨aq,pq,mq,cq,haq,hce,hlin,_⟩:=(va.bh.ak e02).cells j hjl;have hem:=Y9 hjl;generalize u.bh[j]=e at htj hce hlin hem;obtain ⟨Z,⟨o,hoo⟩,hsn⟩:=ew e hem;refine ay ⟨ad,ad⟩ (aw haq ?_);rw [show Int.toNat (j:Int)=j from ad];refine az (e.1,(pq,mq,cq),(e.2.num:Int),()) hce (an ?_);refine bm ?_;intro h3 b3 e3 z3;refine ar b3 rfl aj ?_;intro h4 b4 k4 z4;have b4:bF h4 h2.size 100 [.string e.1,.slice pq mq cq,.int .u32 (e.2.num:Int)]:=b4;have e24:Ext h2 h4:=bR e3 k4;refine af b4 (e.1,()) rfl (an ?_);rw [aE];refine af b4 ((pq,mq,cq),(e.2.num:Int),()) rfl (an ?_);have e04:=e02.trans e24;have prk:∀ {h':Hp},Ext h h'->DU h' g su lb mj mj LB:=fun e=>pr.ak e
   refine aJ (Iu (prk (e2.trans e24)) (v.ak e04) sz U hL hoo hsn) ?_;rintro _ h5 ⟨rfl,e5⟩;refine ⟨(dr us LB i e.1,()),rfl,an ?_⟩;have b45:=b4.ak e5 aj;refine ⟨⟨b45.cells _ rfl,trivial⟩,?_⟩;have e25:=e24.trans e5;refine aJ (Ez (d:=cq) (prk (e2.trans e25)) (v.ak (e02.trans e25)) sz U hL (hlin.vw.ak e25 aj) Z.nf Z.num Z.len Z.own Z.sz) ?_;rintro _ h6 ⟨e6,p6,l6,c6,rfl,s6⟩;refine ⟨((p6,l6,c6),((gC us LB i e.2).num:Int),()),rfl,an ?_⟩;have b46:=b45.ak e6 aj;refine ⟨⟨b46.cells _ rfl,trivial⟩,?_⟩;have e26:=e25.trans e6;have o6:=o2.ext e26;have z26:=e26.size;have z25:=e25.size;have hl17:l17=X.length:=by have:=o2.out.1; rwa [Y0] at this
   have hl20:V=(qg (us.take i)++List.range j).length:=by have:=o2.num.1; rwa [Y0] at this
   rw [Y4,ay9] at hl20;have hm2:X.length=(ek 0 (us.take i)).length+j:=by
    have:=Zl List.length J
    rw [Y0,Y4,Y0,Zp,ac9 hlj] at this;unfold dR at this
    rwa [Y0] at this
   refine gU (vs:=zD ⟨dr us LB i e.1,p6,l6,c6,gC us LB i e.2⟩) BU Kw rfl ad ad (GV _ _ _ _ _) rfl rfl o6.out ad ad ad (fun h' x=>⟨(b46.ak x aj).cells _ rfl,(b46.ak x aj).cells _ rfl,trivial⟩) ?_;intro p7 c7 h7 s7 k7 hp7;have hbx7:=SL.AZ o6.out;have hnb:h2.size∉aM p16:=fun hh=>by have:=(o2.out.cr hh).2; omega
   have b47:=b46.ak k7 hnb;refine ⟨⟨b47.cells _ rfl,b47.cells _ rfl,trivial⟩,?_⟩;have n7:SL h7 h.size 3 1 p19 V l21 ((qg (us.take i)++List.range j).map KV):=SL.rL o6.num k7 hbx7 bZ;have i7:∀ x,x∈X++[⟨dr us LB i e.1,p6,l6,c6,gC us LB i e.2⟩]->SL h7 h.size 117 2 x.p x.l x.c (x.x.ai.map df):=fun x hx=>by
    rcases Zk.1 hx with hx | hx
    ·exact SL.rL (o6.fw x hx) k7 hbx7 bZ
    ·rw [Zi.1 hx];exact SL.rL (s6.mono ad) k7 hbx7 bZ
   have z7:=k7.size;refine mz (vs:=KV j) C9 Rc rfl ad ad (DN _) rfl rfl n7 ad ad ad ?_;intro p8 c8 h8 s8 k8 hp8;have hbx8:=SL.AZ n7;have e7:Ext h h7:=Ch.trans (e2.trans e26) k7 (fun q hq hl=>by have:=(o2.out.cr hq).1; omega);have e8:Ext h h8:=Ch.trans e7 k8 (fun q hq hl=>by have:=(n7.cr hq).1; omega);refine aH (cs:=[(false,[.slice 0]),(false,[.slice 0]),(false,[.int .i64])]) ((p7,l17+1,c7),(p8,V+1,c8),((j+1:Nat):Int),()) (u.bh.length-(j+1)) rfl ad (Zl (fun z=>[Value.slice p7 (l17+1) c7,.slice p8 (V+1) c8,Value.int .i64 z]) hwj)
    ⟨j+1,X++[⟨dr us LB i e.1,p6,l6,c6,gC us LB i e.2⟩],_,rfl,rfl,ad,e8,⟨?_,?_,fun x hx=>SL.rL (i7 x hx) k8 hbx8 bZ⟩,?_,rfl⟩
   ·have:SL h7 h.size 100 3 p7 (l17+1) c7 ((X++[(⟨dr us LB i e.1,p6,l6,c6,gC us LB i e.2⟩:cK)]).map zD):=by rw [Ze]; exact s7
    exact SL.rL this k8 hbx8 bZ
   ·rw [cs9,<- Zr,Ze];exact s8
   ·rw [htj,Ze,Ze,J,Zr] <;> rfl
  ·have:j=u.bh.length:=ad
   subst this;rw [ZA] at J;refine aH (cs:=[(false,[.slice 0]),(false,[.slice 0]),(false,[.int .i64])]) ((p16,l17,l18),(p19,V,l21),((i+1:Nat):Int),()) (us.length-(i+1)) rfl ad (Zl (fun z=>[Value.slice p16 l17 l18,.slice p19 V l21,Value.int .i64 z]) hwt)
    ⟨i+1,X,_,rfl,rfl,ad,e2,o2,?_,?_⟩
   ·rw [J,htk,P8,hti]
   ·rw [htk,Jv]
 ·have:i=us.length:=ad
  subst this;rw [ZA] at G o1;have z1:=e1.size;have e01:=e0.trans e1;have pr1:=pr.ak e1;have b11:=b1.ak e1 aj;have hkm:ms.map fk=(eU (dR us LB us)).map fk:=by rw [G,mI]
  have hml:ms.length=(ek 0 us).length:=by
   have:=Zl List.length G
   rw [Y0] at this;rw [this];unfold dR;rw [Y0]
  have hnm:(aZ ms).Nodup:=by
   have:aZ ms=(dR us LB us).map (·.1):=by
    rw [<- G,Zv] <;> rfl
   rw [this];exact hnd
  have hmem:∀ e,e∈ms->fk e∈dR us LB us:=fun e Y=>by
   rw [<- G];exact Za.2 ⟨e,Y,rfl⟩
  have O:∀ e,e∈ms->sP S e.x:=fun e Y=>by
   have h1:=hmem e Y;have h2:=hSd _ h1;unfold dR at h1;obtain ⟨q,hq,hqe⟩:=Za.1 h1;have hx:e.x=gC us LB q.1 q.2.2:=(Zl (·.2) hqe).symm;obtain ⟨n,hn,hn1,hn2⟩:=vq us 0 q hq;have hqn:q.1=n:=ad
   have hew:=hE n us[n] (Y1 hn) q.2 hn2;exact ⟨by rw [hx]; exact Jf _ _ _ _,by rw [hx]; exact Es hew.1.num,h2⟩
  have ve:tQ h1 p9 l10 ms:=⟨by have:=o1.out.1; rwa [Y0] at this,fun i hi=>by
   obtain ⟨a,ha,hc⟩:=SL.cells o1.out (i:=i) (by rw [Y0]; exact hi);rw [Zb] at hc;exact ⟨a,ha,hc⟩,fun e Y=>(o1.fw e Y).RP⟩
  refine aJ (Kb (c:=l11) (B:=h.size) z1 ve (fun e Y i hi=>(o1.fw e Y).cr hi) hnm ad hS O) ?_;rintro w h2 ⟨e2,hw⟩;rw [ED hkm] at hw;cases hf:dE (eU (dR us LB us)) with
  | some i0 =>
   rw [hf] at hw;subst hw;refine ⟨((none,0,0),(i0:Int),(24:Int),()),rfl,an ?_⟩;refine bC rfl ?_;have hi0:i0<(ek 0 us).length:=by
    have h1:=hf;unfold dE at h1;rw [Zs] at h1;obtain ⟨h2,_⟩:=h1
    have:(eU (dR us LB us)).length=(ek 0 us).length:=by unfold eU dR; rw [Y0,Y0]
    omega
   exact PP (lv:=2) (i0:=i0) rfl h0g (e01.trans e2) (b11.ak e2 aj) (v.ak (e01.trans e2)) hmany (o1.num.bM e2 aj) ad (Y1 hi0) fun h' e'=>hk1 h' i0 _ hf (Y1 hi0) e'
  | none =>
   rw [hf] at hw;obtain ⟨p',l',c',ns,rfl,on⟩:=hw;refine ⟨((p',l',c'),(0:Int),(0:Int),()),rfl,an ?_⟩;refine bP rfl ?_;have hin:∀ m,m∈ns->∃ e,e∈ms/\m.name=e.name/\m.x=Sf (cw ms) ms.length e.x:=fun m hm=>by
    obtain ⟨j,hj,rfl⟩:=Zu hm;have hj':j<ms.length:=by rw [<- on.len]; exact hj
    obtain ⟨h1,h2⟩:=on.eq j ms[j] ns[j] (Y1 hj') (Y1 hj);exact ⟨ms[j],Y9 hj',h1,h2⟩
   have vn:tQ h2 p' l' ns:=⟨by have:=on.out.1; rwa [Y0] at this,fun i hi=>by
    obtain ⟨a,ha,hc⟩:=SL.cells on.out (i:=i) (by rw [Y0]; exact hi);rw [Zb] at hc;exact ⟨a,ha,hc⟩,on.fw⟩
   have hkn:ns.map fk=(dR us LB us).map (fun y=>(y.1,eR (eU (dR us LB us)) y.1)):=by
    rw [<- G,Zv,G];apply cm9
    ·rw [Y0,Y0,on.len]
    ·intro j h1' h2';rw [Y0] at h1' h2';rw [Zb,Zb];obtain ⟨h1,h2⟩:=on.eq j ms[j] ns[j] (Y1 h2') (Y1 h1');have h3:=Qu hnm (fun e Y=>(O e Y).num) (Y9 h2');unfold fk;rw [h1,h2,h3];show _=(ms[j].name,eR (eU (dR us LB us)) ms[j].name);rw [IM hkm]
   have z2:=e2.size;refine Q0 (lv:=2) (S:=S) rfl hga h0g (e01.trans e2) (b11.ak e2 aj) (pr1.ak e2) (v.ak (Ch.refl _ _)) sz hL vn (fun i hi=>by have:=(on.out.cr hi).1; omega) (fun e Y i hi=>by have:=(on.low e Y i hi).1; omega) (by rw [on.len]; omega) hS (fun e Y=>by
    obtain ⟨d,hd,_,hx⟩:=hin e Y;rw [hx];exact sP.it O (O d hd) _) hW ?_
   intro h' st sd tw dw e' pr' t' d' i1 i2;exact hk0 h' _ st sd tw dw ns hf hkn e' pr' t' d' i1 i2
theorem tO (u:bX):∀ (l:List bX) (n:Nat),bQ n (l++[u])=bQ n l++uf (n+l.length) u
 | [],n=>by simp [bQ]
 | y::l,n=>by
  simp only [List.cons_append,bQ,List.length_cons];rw [tO u l (n+1),show n+1+l.length=n+(l.length+1) from ad,Zr]
def Av (us:List bX) (i:Nat):(bQ 0 (us.take i)).length<=(bQ 0 us).length:=by
 have key:∀ (a b:List bX) (n:Nat),(bQ n a).length<=(bQ n (a++b)).length:=by
  intro a
  induction a with
  | nil=>intro b n; simp [bQ]
  | cons u a j =>
   intro b n;simp only [List.cons_append,bQ,List.length_append]
   have:=j b (n+1)
   omega
 have:=key (us.take i) (us.drop i) 0
 rwa [ZL] at this
structure MU (us:List bX) (S:List Xaa):Prop where
 sz:KO us
 dX:(bQ 0 us).length<=2^39
 bh:∀ n u,us[n]?=some u->Yo us n u
 items:∀ n u,us[n]?=some u->UG us (bQ 0 us) S n u
 nd:((dR us (bQ 0 us) us).map (·.1)).Nodup
 len:(ek 0 us).length<=2^20
 names:S.length<=2^30
 fw:∀ y,y∈dR us (bQ 0 us) us->∀ t,t∈y.2.ai->t.1∈S
def Co (us:List bX) (su:cz) (w:Xab) (h':Hp):Prop :=
 if (eG us).nQ≠0 then w=.tuple #[.pointer none,O5 (eG us)]
 else (∃ i q,dE (eU (dR us (bQ 0 us) us))=some i/\(ek 0 us)[i]?=some q/\w=.tuple #[.pointer none,O5 ⟨24,q.1,q.2.1⟩]) \/
  ∃ g b' lb st sd tw dw ms,dE (eU (dR us (bQ 0 us) us))=none/\w=.tuple #[.pointer (some ⟨g,0,none⟩),O5 ⟨0,0,dH⟩]/\ms.map fk=(dR us (bQ 0 us) us).map (fun y=>(y.1,eR (eU (dR us (bQ 0 us) us)) y.1)) /\
   DU h' g su lb st sd (bQ 0 us)/\uR h' b' st tw/\uR h' b' sd dw/\yi us (bQ 0 us) ms (·.text) us.length tw/\yi us (bQ 0 us) ms (·.data) us.length dw
def Bo {h:Hp} {su:cz} {us:List bX} {S:List Xaa} (v:uH h su.p su.l us) (hC:(eG us).nQ=0->MU us S):HC Tryz.prog 26 #[.slice su.p su.l su.c] h fun w h'=>Ext h h'/\Co us su w h':=by
 refine bd (args:=[.slice su.p su.l su.c]) mixed Tryz.func26 ax (nB su.p su.l su.c) ?_;unfold j4 bf bk bH aP gS bK br bt aG bn bj bY aR dh;have hll:=v.len;refine bm ?_;intro h1 b1 e1 z1;refine aJ (HE (c:=su.c) (v.ak e1)) ?_;rintro _ h2 ⟨rfl,e2⟩;refine ⟨(((eG us).nQ:Int),((eG us).unit:Int),(eG us).name,()),rfl,an ?_⟩;have b12:=b1.ak e2 aj;have e02:=e1.trans e2;refine bm ?_;intro h3 b3 e3 z3;refine ar b3 rfl aj ?_;intro h4 V k4 z4;have V:bF h4 h2.size 75 [.int .i64 ((eG us).nQ:Int),.int .i64 ((eG us).unit:Int),.string (eG us).name]:=V;have X:Ext h2 h4:=bR e3 k4;have j:=e02.trans X;have Y:=b12.ak X aj;have z2:=e2.size;refine af V (((eG us).nQ:Int),()) rfl (an ?_);refine av (fun g=>?_) (fun g=>?_)
 ·have g:(eG us).nQ≠0:=by
   intro hh;rw [hh] at g;cases g
  refine af V (((eG us).nQ:Int),((eG us).unit:Int),(eG us).name,()) rfl (an ?_);refine ⟨⟨V.cells _ rfl,trivial⟩,?_⟩;refine ar Y rfl aj ?_;intro h5 G k5 z5;have G:bF h5 h.size 75 [.int .i64 ((eG us).nQ:Int),.int .i64 ((eG us).unit:Int),.string (eG us).name]:=G;refine af G (((eG us).nQ:Int),((eG us).unit:Int),(eG us).name,()) rfl ?_;refine ⟨bR j k5,?_⟩;unfold Co;rw [Y8 g] <;> rfl
 ·have g:(eG us).nQ=0:=by
   have:(((eG us).nQ:Nat):Int)=0:=by simpa using g
   omega
  have C:=hC g;refine bm ?_;intro h5 G e5 z5;have G:bF h5 h4.size 81 [su.v,mj.v,mj.v,mj.v]:=G;have v4:=v.ak j;have hmany:=C.sz.many;refine aX (cs:=[(false,[.int .i64])]) (fun y k h'=>∃ (i:Nat) (lb:cz),y.1=(i:Int)/\k=us.length-i/\i<=us.length/\Ext h4 h'/\DU h' h4.size su lb mj mj (bQ 0 (us.take i))) ((0:Int),()) us.length rfl
   ⟨0,mj,rfl,rfl,ad,e5,⟨G,SL.nil _ _ _ _⟩⟩ ?_
  rintro ⟨n8,⟨⟩⟩ k h6 ⟨i,lb,hi,rfl,hle,e6,pr⟩;simp only at hi;subst hi;refine an ?_;have hw:=iA i;refine aQ (fun q=>?_) (fun q=>?_)
  ·have J:i<us.length:=ad
   have Z:us.take (i+1)=us.take i++[us[i]]:=Y3 J;have hti:(us.take i).length=i:=by rw [Zp]; omega
   obtain ⟨au,sa,sb,sc,sd,hau,O,va⟩:=v4.cells i J;have U:=Y9 J;generalize us[i]=u at Z O va U;have h1t:=C.sz.text u U;have h1d:=C.sz.data u U;have hlt:=Av us i;have hlb:=C.dX;have hl1:=qV i 0 u.text 0;have cu:∀ {h':Hp},Ext h4 h'->aI h' (au.add (i*4)) 0 [.slice sa.p sa.l sa.c]/\aI h' ((au.add (i*4)).add 1) 0 [.slice sb.p sb.l sb.c]:=fun e=>⟨⟨(aT e aj _ _ O).1,trivial⟩,⟨by rw [add_add]; exact (aT e aj _ _ O).2.1,trivial⟩⟩
   refine ay ⟨ad,ad⟩ (aw hau ?_);rw [show Int.toNat (i:Int)=i from ad];refine az ((sa.p,sa.l,sa.c),()) (cu e6).1 (an ?_);refine aJ (D2 (c:=sa.c) (Zh _) e6 pr va.text ad i 0) ?_;rintro _ h7 ⟨rfl,e7,z7,lb7,pr7⟩;refine ⟨(),rfl,an ?_⟩;refine ay ⟨ad,ad⟩ (aw hau ?_);refine az ((sb.p,sb.l,sb.c),()) (cu e7).2 (an ?_);refine aJ (D2 (c:=sb.c) (Zh _) e7 pr7 va.data (by rw [Y4]; omega) i 1) ?_;rintro _ h8 ⟨rfl,e8,z8,lb8,pr8⟩;refine ⟨(),rfl,an ?_⟩;refine aH (cs:=[(false,[.int .i64])]) (((i+1:Nat):Int),()) (us.length-(i+1)) rfl ad (Zl (fun z=>[Value.int .i64 z]) hw) ⟨i+1,lb8,rfl,rfl,ad,e8,?_⟩;rw [Z,tO,hti,ZJ];unfold uf;rw [<- Zr];exact pr8
  ·have:i=us.length:=ad
   subst this;rw [ZA] at pr;have e06:=j.trans e6;refine QH (h0:=h) (S:=S) (by have:=j.size; omega) (Zh _) e06 (Y.ak e6 aj) pr v C.sz (by have:=C.dX; omega) C.bh C.items C.nd C.len C.names C.fw (fun h' i q hf hq e'=>⟨e',?_⟩) (fun h' b' st sd tw dw ms hf hms e' pr' t' d' i1 i2=>⟨e',?_⟩)
   ·unfold Co;rw [Y2 ad];exact .inl ⟨i,q,hf,hq,rfl⟩
   ·unfold Co;rw [Y2 ad];exact .inr ⟨_,b',lb,st,sd,tw,dw,ms,hf,rfl,hms,pr',t',d',i1,i2⟩
end Go.Sx.Lk
