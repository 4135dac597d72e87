/- Contracts over heaps, part 2. Condition: as each statement says. -/
import Derived.Test.YtmdncdaladplkaaGreatDoorDxS
import Derived.Test.YtmdncdaladplkaaGreatDoorP1
import Derived.Test.YtmdncdaladplkaaGreatDoorBtB
import Derived.Test.YtmdncdaladplkaaGreatDoorBtC
import Derived.Test.YtmdncdaladplkaaGreatDoorBtD
set_option linter.all false
set_option maxRecDepth 100000
set_option maxHeartbeats 4000000
namespace Go.Sx
open Go.Proofs
section any
variable {P:Program} {h:Hp}
end any
variable {H:Hp}
def CE (p:eM H) (u:Nat) (h2:u<18446744073709551616):HC Xaz 92 #[.int .u64 u,vI 10] H fun v h'=>v=.string ⟨(Lib.decDigits u).toArray⟩/\Ext H h':=by
 refine bd (args:=[.int .u64 u,vI 10]) mixed Tryz.func92 ax (jq u 10) ?_;unfold fE cQ eG bP bn bQ bq bg;refine cj rfl (aw (fun g1=>?_) (fun g1=>?_))
 ·have g1:=ah9 g1;rw [wrap_i64 ad ad];refine QL (Ov u ad H) ?_;exact ⟨rfl,Ch.refl _ _⟩
 ·have g1:=av9 g1;refine br ?_;intro h1 m k z1;have p1:=p.an k aj;refine jo (tL p1 u ad h2) ?_;have n:Lib.nDigits u<=20:=by have:=Lib.numDigits_eq u ad h2; split at this <;> omega
  obtain ⟨t,d⟩:=cg9.1 YG;refine dA (zH PZ d ⟨H.size,0,none⟩ ad ad _ ?_);refine ⟨_,_,_,rfl,?_⟩;rw [show ((Lib.nDigits u:Nat):Int).toNat=Lib.nDigits u from ad];refine aK (LH m u 24 (Lib.nDigits u) (by simp; omega) ?_ (Lib.lt_pow_nDigits u) h2 ad) ?_
  ·intro j c;have c:j<24:=ad
   have:∀ j:Fin 24,[Value.int IntKind.u8 0,.int .u8 0,.int .u8 0,.int .u8 0,.int .u8 0,.int .u8 0,.int .u8 0,.int .u8 0,.int .u8 0,.int .u8 0,.int .u8 0,.int .u8 0,.int .u8 0,.int .u8 0,.int .u8 0,.int .u8 0,.int .u8 0,.int .u8 0,.int .u8 0,.int .u8 0,.int .u8 0,.int .u8 0,.int .u8 0,.int .u8 0][j.val]?=some (Value.int IntKind.u8 0):=by
    have e:[Value.int IntKind.u8 0,.int .u8 0,.int .u8 0,.int .u8 0,.int .u8 0,.int .u8 0,.int .u8 0,.int .u8 0,.int .u8 0,.int .u8 0,.int .u8 0,.int .u8 0,.int .u8 0,.int .u8 0,.int .u8 0,.int .u8 0,.int .u8 0,.int .u8 0,.int .u8 0,.int .u8 0,.int .u8 0,.int .u8 0,.int .u8 0,.int .u8 0]=List.replicate 24 (Value.int IntKind.u8 0):=rfl;intro j;rw [e,List.getElem?_replicate,ag9 j.isLt]
   exact this ⟨j,c⟩
  ·rintro _ f ⟨rfl,o,z3,v',w,q,b⟩;refine ⟨(),rfl,ao ?_⟩;refine dA (zH PZ d ⟨H.size,0,none⟩ ad ad _ ?_);refine ⟨_,_,_,rfl,?_⟩;rw [show ((Lib.nDigits u:Nat):Int).toNat=Lib.nDigits u from ad];have r:aS Xaz (convert 204 9 (.slice (some ⟨H.size,0,none⟩) (Lib.nDigits u) 24)) f fun v h'=>∃ x:qF (flat [(false,[.string])]),v=rv false [(false,[.string])] (et _ x)/\EC (flat [(false,[.string])]) (R:=T) (fun (g:Xaa)=>T.ret (.string g)) x [] (fun v h'=>v=.string ⟨(Lib.decDigits u).toArray⟩/\Ext H h') h':=by
    unfold convert;rw [av,aC Ws,av,aC wZ];show aS Xaz (do match <- underlying 5 with
     | .int .u8=>Conv.bytesToString (.slice (some ⟨H.size,0,none⟩) (Lib.nDigits u) 24)
     | .int .i32=>Conv.runesToString (.slice (some ⟨H.size,0,none⟩) (Lib.nDigits u) 24)
     | _ => stuck "Convert: a slice of what to string?") f _
    rw [av,aC ZS];have hl:Lib.nDigits u=(Lib.decDigits u).length:=(Lib.decDigits_length u).symm;rw [hl];refine xM ⟨H.size,0,none⟩ (Lib.decDigits u) 24 _ ?_ ?_
    ·have:∀ (vs:List Xab) (i:Nat),(∀ j,(c:j<vs.length)->ig f ⟨H.size,i+j,none⟩=some vs[j])->aH f ⟨H.size,0,none⟩ i vs:=by
      intro vs
      induction vs with
      | nil=>intro i _; trivial
      | cons v vs s =>
       intro i l;refine ⟨?_,s (i+1) fun j c=>?_⟩
       ·rw [aE,bu9]
        have:=l 0 aj
        simpa using this
       ·have:=l (j+1) (by simpa using c)
        rw [show i+1+j=i+(j+1) from ad];simpa using this
     refine this _ 0 fun j c=>?_
     rw [ab9] at c;rw [bu9,b j ad,am9,Lib.row_is_numeral q j c]
    ·exact ⟨(⟨(Lib.decDigits u).toArray⟩,()),rfl,rfl,bY k o⟩
   exact r
def Dk (p:eM H) (u:Nat) (h2:u<18446744073709551616):HC Xaz 68 #[.int .u64 u,vI 10] H fun v h'=>v=.string ⟨(Lib.decDigits u).toArray⟩/\Ext H h':=by
 refine bd (args:=[.int .u64 u,vI 10]) mixed Tryz.func68 ax (pB u 10) ?_;unfold kK eG;refine aK (CE p u h2) ?_;rintro _ h1 ⟨rfl,a⟩;exact ⟨(_,()),rfl,rfl,a⟩
variable {O V:Nat} {U:Xac}
def T6 {c:Nat} {xs:List Xaa} (s:SL H O 9 1 U V c (xs.map fun s=>[.string s])) (d:Xaa) (r:xs.length<=140737488355328)
  (k:(Lib.join (xs.map (·.data.toList)) d.data.toList).length<=140737488355328) :
  HC Xaz 69 #[.slice U V c,.string d] H fun v h'=>v=.string ⟨(Lib.join (xs.map (·.data.toList)) d.data.toList).toArray⟩/\Ext H h':=by
 intro W t;subst t;have hl:V=xs.length:=by rw [s.1,ab9]
 cases U with
 | none =>
  have h0:=s.2.2;have u:xs=[]:=by have:=h0.2; simpa using this
  subst u;simp only [List.length_nil] at hl;subst hl;exact (Tryz.strings_Join_none none c d W).mono fun e w' ⟨w,f⟩=>⟨_,w,by rw [f]; exact dM.refl W,rfl,by rw [f]; exact Ch.refl _ _⟩
 | some a =>
  obtain ⟨g,n,rest,rfl,y,o,m,B⟩:=s.2.2;subst hl;refine (Tryz.strings_Join g n.length c xs d W ?_ m.lt r o.1 k).mono ?_
  ·intro j x z;obtain ⟨q,rfl⟩:=ax9.1 z;obtain ⟨a,A,hc⟩:=s.cells (i:=j) (by simpa using q);cases A;rw [am9,aE,Nat.mul_one] at hc
   have:=hc.1
   rw [aE,ek9] at this;exact this
  ·rintro e w' ⟨rfl,f⟩;exact ⟨_,rfl,⟨f.os,f.tape,f.output⟩,rfl,f.size,fun i hi _=>f.block i hi⟩
def SM {x:bM} (v:iD H U O x.ah) (r:eM H) (hl:x.ah.length<=2^30) (W:∀ t,t∈x.ah->t.1.size<=32/\t.2<4294967296) (hn:x.num<4294967296) :
  HC Xaz 42 #[ik U O V x] H fun w h'=>w=.string (fG x)/\Ext H h':=by
 refine bd (args:=[.agg #[.slice U O V,.int .u32 x.num]]) mixed Tryz.func42 ax (Cd U O V x.num) ?_;unfold zy aY bh bt aI eG bn aF bg cm aQ cY;have hll:=v.len;have h10:=r.lt;refine br ?_;intro h1 b1 e1 z1;refine az b1 ((U,O,V),()) (ao ?_);refine aT (cs:=lM) (fun y w h'=>∃ (i:Nat),y.2.1=(i:Int)/\i<=x.ah.length/\w=x.ah.length-i/\Ext h1 h'/\y.1.2.1=i/\SL h' h1.size 9 1 y.1.1 y.1.2.1 y.1.2.2 (((x.ah.take i).map hQ).map fun s=>[.string s]))
  ((none,0,0),(0:Int),()) x.ah.length rfl ⟨0,rfl,ad,ad,Ch.refl _ _,rfl,SL.nil _ _ _ _⟩ ?_
 rintro ⟨⟨q,m,d⟩,n8,⟨⟩⟩ w h2 ⟨i,hi,hile,rfl,I,R,C⟩;simp only at hi R C;subst hi;subst R;refine ao ?_;have hz2:=I.size;have e02:=e1.trans I;have p2:=r.an e02 aj;refine aR ?_ ?_<;>intro g1
 ·have k:m<x.ah.length:=ad
  obtain ⟨a,rfl,hc⟩:=(v.an e02 aj).cells m k;have J:x.ah.take (m+1)=x.ah.take m++[x.ah[m]]:=ae9 k;obtain ⟨n,K⟩:=W x.ah[m] (al9 k);generalize x.ah[m]=t at hc J n K;refine bS rfl ?_;rw [cr m];refine ay (t.1,(t.2:Int),()) hc (ao ?_);refine br ?_;intro h3 b3 e3 z3;refine bR b3 ?_;intro h4 D k4 z4;have D:bC h4 h2.size 64 [.string t.1,.int .u32 t.2]:=D;have o:Ext h2 h4:=bY e3 k4;have s4:=C.bK o aj;have hw:=ic m;have u:∀ s,hQ t=s->((x.ah.take (m+1)).map hQ).map (fun s=>[Value.string s])=((x.ah.take m).map hQ).map (fun s=>[Value.string s])++[[.string s]]:=by
   rintro s rfl;rw [J,ao9,ao9] <;> rfl
  try rw [aE]
  refine az D ((t.2:Int),()) (ao ?_);refine aw ?_ ?_<;>intro b
  ·have b:t.2=1:=by have:(t.2:Int)=1:=(by simpa using b); omega
   refine az D (t.1,()) (ao ?_);refine gh (vs:=[.string t.1]) O3 NC rfl ad ad ax rfl rfl s4 ad ad ad ?_;intro p' c' h7 M G N;have E:Ext h1 h7:=Ch.trans (I.trans o) G (fun j P hl=>by have:=(s4.cB P).1; omega);refine aG (cs:=lM) ((p',m+1,c'),((m+1:Nat):Int),()) (x.ah.length-(m+1)) rfl ad (as9 (fun z=>[Value.slice p' (m+1) c',Value.int .i64 z]) hw) ⟨m+1,rfl,ad,rfl,E,rfl,?_⟩;rw [u t.1 (by unfold hQ; rw [ag9 b])];exact M
  ·have b:¬ t.2=1:=by have:¬ (t.2:Int)=1:=(by simpa using b); omega
   try rw [aE]
   refine az D ((t.2:Int),()) (ao ?_);refine az D (t.1,()) (ao ?_);rw [wrap_u64 ad ad];refine aK (Dk (p2.an o aj) t.2 ad) ?_;rintro _ S ⟨rfl,A⟩;refine ⟨(eO t.2,()),rfl,ao ?_⟩;have b5:=D.an A aj;have hds:=AF K;have f:∀ h',Ext S h'->T.B7 h' [(⟨h2.size,0,none⟩,[.string t.1]),((⟨h2.size,0,none⟩:Xax).add 1,[.int .u32 t.2])]:=fun h' e=>⟨(b5.an e aj).cells _ rfl,by rw [aE]; exact (b5.an e aj).cells _ rfl,trivial⟩
   have g:∀ h',Ch (aJ q) S h'->T.B7 h' [(⟨h2.size,0,none⟩,[.string t.1]),((⟨h2.size,0,none⟩:Xax).add 1,[.int .u32 t.2])]:=fun h' e=>by
    have b6:=b5.an e (fun R=>by have:=(C.cB R).2; omega);exact ⟨b6.cells _ rfl,by rw [aE]; exact b6.cells _ rfl,trivial⟩
   try rw [aE] at f
   try rw [aE] at g
   try rw [aE]
   refine ⟨f S (Ch.refl _ _),?_⟩;have h42:(⟨#[42]⟩:Xaa).size=1:=rfl;refine dC ad (dC (by rw [mi]; omega) ?_);have s5:=s4.bK A aj;refine gR (vs:=[.string ((eO t.2++⟨#[42]⟩)++t.1)]) O3 NC rfl ad ad ax rfl rfl s5 (by have:=A.size; omega) ad ad f ?_;intro p' c' h7 M G N;refine ⟨g h7 G,?_⟩;have E:Ext h1 h7:=Ch.trans ((I.trans o).trans A) G (fun j P hl=>by have:=(s4.cB P).1; omega);refine aG (cs:=lM) ((p',m+1,c'),((m+1:Nat):Int),()) (x.ah.length-(m+1)) rfl ad (as9 (fun z=>[Value.slice p' (m+1) c',Value.int .i64 z]) hw) ⟨m+1,rfl,ad,rfl,E,rfl,?_⟩;rw [u _ (show hQ t=(eO t.2++⟨#[42]⟩)++t.1 by unfold hQ; rw [ac9 b])];exact M
 ·have hi:m=x.ah.length:=ad
  subst hi;rw [bj9] at C;have b2:=b1.an I aj;have n:∀ xs:List Xaa,x.ah.map hQ++mU x=xs->(Lib.join (xs.map (·.data.toList)) [43]).length<=140737488355328/\xs.length<=140737488355328:=by
   rintro xs rfl;have h1:=join_length ((x.ah.map hQ++mU x).map (·.data.toList)) 53 (by
    intro y hy;obtain ⟨s,X,rfl⟩:=an9.1 hy;rw [show s.data.toList.length=s.size from aj];rcases ar9.1 X with H | H
    ·obtain ⟨t,ht,rfl⟩:=an9.1 H;exact IK (W t ht).1 (W t ht).2
    ·unfold mU at H;split at H
     ·rw [ai9] at H;subst H
      have:=AF hn
      omega
     ·simp at H)
   have h2:(mU x).length<=1:=by unfold mU; split <;> simp
   rw [ab9] at h1;rw [af9,ab9] at h1 ⊢;have h3:(x.ah.length+(mU x).length)*(53+1)<=(2^30+1)*54:=Nat.mul_le_mul ad ad;constructor
   ·omega
   ·omega
  have Q:∀ (hx:Hp) (q:Xac) (m d:Nat),Ext H hx->SL hx h1.size 9 1 q m d ((x.ah.map hQ++mU x).map fun s=>[.string s])->∀ L,(T.call Xaz 69 [.slice q m d,.string ⟨#[43]⟩] false [(false,[.string])] fun (F:Xaa)=>T.ret (.string F)) L (fun w h'=>w=.string (fG x)/\Ext H h') hx:=by
   intro hx q m d ex sx L;refine aK (T6 sx ⟨#[43]⟩ (n _ rfl).2 (n _ rfl).1) ?_;rintro _ h9 ⟨rfl,e9⟩;exact ⟨(fG x,()),rfl,rfl,ex.trans e9⟩
  have put:mU x=[eO x.num]->∀ L,(T.af ⟨H.size,1,none⟩ [.int .u32] fun (Y:Int)=>T.call Xaz 68 [.int .u64 (IntKind.wrap .u64 Y),vI (10:Int)] false [(false,[.string])] fun (Z:Xaa) =>
    T.eH Xaz (Instr.buildSlice 68 1 #[(0,.string Z)]) false [(false,[.slice 0])] fun (p12:Xac) (l13 l14:Nat) =>
    T.eH Xaz (Builtin.append_ #[68,68] 68 #[.slice q x.ah.length d,.slice p12 l13 l14]) false [(false,[.slice 0])] fun (p15:Xac) (l16 l17:Nat) =>
    T.call Xaz 69 [.slice p15 l16 l17,.string ⟨#[43]⟩] false [(false,[.string])] fun (F:Xaa)=>T.ret (.string F)) L (fun w h'=>w=.string (fG x)/\Ext H h') h2:=by
   intro ht L;refine az b2 ((x.num:Int),()) (ao ?_);rw [wrap_u64 ad ad];refine aK (Dk p2 x.num ad) ?_;rintro _ S ⟨rfl,A⟩;refine ⟨(eO x.num,()),rfl,ao ?_⟩;refine gh (vs:=[.string (eO x.num)]) O3 NC rfl ad ad ax rfl rfl (C.bK A aj) (by have:=A.size; omega) ad ad ?_;intro p' c' h7 M G N;refine Q h7 p' (x.ah.length+1) c' (Ch.trans (e02.trans A) G (fun j P hl=>by have:=(C.cB P).1; omega)) ?_ _;rw [ht,ao9];exact M
  try rw [aE]
  refine az b2 ((x.num:Int),()) (ao ?_);refine aw ?_ ?_<;>intro b
  ·have b:¬ x.num=0:=by simpa using b
   try rw [aE]
   exact put (by unfold mU; rw [ag9 (.inl b)]) _
  ·have b:x.num=0:=by simpa using b
   refine aw ?_ ?_<;>intro B
   ·have B:x.ah=[]:=by
     have:x.ah.length=0:=by
      have:(x.ah.length:Int)=0:=by simpa using B
      omega
     exact dy9.1 this
    try rw [aE]
    exact put (by unfold mU; rw [ag9 (.inr B)]) _
   ·have B:¬ x.ah=[]:=by
     intro hh;rw [hh] at B;cases B
    refine Q h2 q x.ah.length d e02 ?_ _;have ht:mU x=[]:=by unfold mU; rw [ac9 (by rintro (H | H); exact H b; exact B H)]
    rw [ht,bz9];exact C
def de {b:Xax} {t:Xaa × Nat} (hc:aH H b 0 (dp t)):aH H b 0 [.string t.1]/\aH H (b.add 1) 0 [.int .u32 (t.2:Int)]:=by
 obtain ⟨h1,h2,a⟩:=hc;exact ⟨⟨h1,trivial⟩,⟨by rw [add_add]; exact h2,trivial⟩⟩
def KJ (a n:Nat):IntKind.wrap .u32 ((a:Int)*(n:Int))=((a*n % 4294967296:Nat):Int):=by rw [ey,jd,Int.natCast_mul]
def KH (a n:Nat):IntKind.wrap .u32 ((a:Int)+(n:Int))=(((a+n) % 4294967296:Nat):Int):=by rw [ey,jd,fe9]
variable {Y:bM}
def Je (v:iD H U O Y.ah) (hl:Y.ah.length<=2^40) (P:∀ i,i∈aJ U->i<H.size) (n:Nat) :
  HC Xaz 102 #[ik U O V Y,.int .u32 n] H fun w h'=>Ext H h'/\∃ p' l' c',w=ik p' l' c' (vL Y n)/\SL h' H.size 64 2 p' l' c' ((vL Y n).ah.map dp):=by
 refine bd (args:=[.agg #[.slice U O V,.int .u32 Y.num],.int .u32 n]) mixed Tryz.func102 ax (oX U O V Y.num n) ?_;unfold kB aY bh bt aI bn aF bg aQ;have hll:=v.len;refine br ?_;intro h1 b1 Q z1;refine br ?_;intro h2 b2 I z2;have b1:=b1.an I aj;rw [aE];refine az b1 ((Y.num:Int),()) (ao ?_);refine br ?_;intro h3 R S z3;refine bR R ?_;intro h4 B W z4;rw [KJ] at B;have B:bC h4 h2.size 53 [.slice none 0 0,.int .u32 ((Y.num*n % 4294967296:Nat):Int)]:=B;have o:Ext h2 h4:=bY S W;have b1:=b1.an o aj;have b2:=b2.an o aj;have e04:=(Q.trans I).trans o;have hb4:=B.lt;refine aT (cs:=cI) (fun y w h'=>∃ (i:Nat) (q:Xac) (m d:Nat),y.1=(i:Int)/\i<=Y.ah.length/\w=Y.ah.length-i/\Ch [h2.size] h4 h'/\bC h' h2.size 53 [.slice q m d,.int .u32 ((Y.num*n % 4294967296:Nat):Int)] /\
  SL h' h4.size 64 2 q m d ((fv n (Y.ah.take i)).map dp)/\m<=i) ((0:Int),()) Y.ah.length rfl ⟨0,none,0,0,rfl,ad,ad,Ch.refl _ _,B,SL.nil _ _ _ _,ad⟩ ?_
 rintro ⟨n8,⟨⟩⟩ w h5 ⟨i,q,m,d,hi,J,rfl,A,C,r,K⟩;simp only at hi;subst hi;refine ao ?_;have b15:=b1.an A (by simp; omega);have hz5:=A.size;have D:Ext H h5:=bY e04 A;have v5:=v.an D aj;refine az b15 ((U,O,V),()) (ao ?_);have hw:=ic i;refine aR ?_ ?_<;>intro X
 ·have f:i<Y.ah.length:=ad
  have s:Y.ah.take (i+1)=Y.ah.take i++[Y.ah[i]]:=ae9 f;obtain ⟨a,rfl,hc⟩:=v5.cells i f;generalize Y.ah[i]=t at hc s;obtain ⟨E,Z⟩:=de hc;refine az b15 ((some a,O,V),()) (ao ?_);refine bS rfl ?_;rw [cr i];refine ay ((t.2:Int),()) Z (ao ?_);rw [KJ];refine aw ?_ ?_<;>intro g
  ·have g:¬ t.2*n % 4294967296=0:=by
    intro hh;rw [hh] at g;cases g
   refine az C ((q,m,d),()) (ao ?_);refine az b15 ((some a,O,V),()) (ao ?_);refine bS rfl ?_;refine ay (t.1,()) E (ao ?_);have hab:=P a.block (by simp [aJ]);refine gR (vs:=dp (t.1,t.2*n % 4294967296)) AK uq rfl ad ad ax rfl rfl r hz5 ad ad (fun h' e=>⟨aM e aj _ _ E,(b15.an e aj).cells _ rfl,(C.an e aj).cells _ rfl,trivial⟩) ?_;intro p' c' L M u hp7;have b:∀ j,j<h4.size->j∉aJ q:=fun j k K=>by have:=(r.cB K).1; omega
   refine ⟨⟨aM u (by rw [iO]; exact b _ (by have:=e04.size; omega)) _ _ E,(b15.an u (b _ ad)).cells _ rfl,trivial⟩,?_⟩;refine bR (C.an u (b _ ad)) ?_;intro h8 b8 N z8;refine aG (cs:=cI) (((i+1:Nat):Int),()) (Y.ah.length-(i+1)) rfl ad (as9 (fun z=>[Value.int .i64 z]) hw) ⟨i+1,p',m+1,c',rfl,ad,rfl,?_,b8,?_,ad⟩
   ·exact Ch.trans (Ch.trans A u (fun j k hl=>by have:=(r.cB k).1; omega)) N (fun j k _=>k)
   ·have F:fv n (Y.ah.take (i+1))=fv n (Y.ah.take i)++[(t.1,t.2*n % 4294967296)]:=by
     unfold fv;rw [s,eg9]
     congr 1
     simp only [List.filterMap_cons,List.filterMap_nil];rw [ac9 g]
    rw [F,ao9];exact M.bK N (fun j k=>by have:=(M.cB k).1; simp; omega)
  ·have g:t.2*n % 4294967296=0:=by
    have:((t.2*n % 4294967296:Nat):Int)=0:=by simpa using g
    omega
   refine aG (cs:=cI) (((i+1:Nat):Int),()) (Y.ah.length-(i+1)) rfl ad (as9 (fun z=>[Value.int .i64 z]) hw) ⟨i+1,q,m,d,rfl,ad,rfl,A,C,?_,ad⟩;have F:fv n (Y.ah.take (i+1))=fv n (Y.ah.take i):=by
    unfold fv;rw [s,eg9];simp only [List.filterMap_cons,List.filterMap_nil];rw [ag9 g,bz9]
   rw [F];exact r
 ·have hi:i=Y.ah.length:=ad
  subst hi;rw [bj9] at r;refine az C ((q,m,d),((Y.num*n % 4294967296:Nat):Int),()) (ao ?_);refine bR (b2.an A (by simp; omega)) ?_;intro L G u z7;have G:bC L h1.size 53 [.slice q m d,.int .u32 ((Y.num*n % 4294967296:Nat):Int)]:=G;refine az G ((q,m,d),((Y.num*n % 4294967296:Nat):Int),()) ?_;have hz4:=e04.size;exact ⟨bY D u,q,m,d,rfl,(r.bK u (fun j k=>by have:=(r.cB k).1; simp; omega)).mono ad⟩
def leB (a b:Xaa):(Op.bytesLess (ByteArray.toList a) (ByteArray.toList b) || (ByteArray.toList a==ByteArray.toList b))=!decide (iK b a):=by
 rw [ByteArray.toList_eq,ByteArray.toList_eq,Proofs.bytesLess_eq]
 by_cases h:iK b a
 ·rw [aj9 h];have h1:¬ a.data.toList<b.data.toList:=Dw h;have h2:¬ a.data.toList=b.data.toList:=fun e=>jX h (AG e).symm
  have c:¬ a.data=b.data:=fun e=>h2 (by rw [e])
  simp [h1,c]
 ·rw [ak9 h]
  by_cases h1:iK a b
  ·have h1:a.data.toList<b.data.toList:=h1;simp [h1]
  ·have:=Av a b h1 h
   subst this
   simp
def ox:Option Xaa->dt->Bool
 | _,[]=>true
 | o,t::r=>cE t.1.data.toList && decide (t.2≠0) && (match o with
  | none=>true
  | some s=>decide (iK s t.1)) && ox (some t.1) r
def KG (l:dt) (i:Nat):Option Xaa:=if i=0 then none else (l[i-1]?).map (·.1)
def JT {o:Option Xaa} {l:dt} (h:ox o l=true):(∀ t,t∈l->cE t.1.data.toList=true/\t.2≠0)/\(l.Pairwise fun p q=>iK p.1 q.1)/\∀ s,o=some s->∀ t,t∈l->iK s t.1:=by
 induction l generalizing o with
 | nil=>exact ⟨aj,List.Pairwise.nil,aj⟩
 | cons t r d =>
  unfold ox at h;simp only [Bool.and_eq_true,decide_eq_true_eq] at h;obtain ⟨⟨⟨h1,h2⟩,b⟩,e⟩:=h;obtain ⟨f,g,c⟩:=d e;refine ⟨?_,dp9.2 ⟨fun q i=>c _ rfl q i,g⟩,?_⟩
  ·intro u a;rcases be9.1 a with rfl | a
   ·exact ⟨h1,h2⟩
   ·exact f u a
  ·rintro s rfl u a;have b:iK s t.1:=by simpa using b
   rcases be9.1 a with rfl | a
   ·exact b
   ·exact jV b (c _ rfl u a)
def Fg {x:bM} (h:ox none x.ah=true) (hc:∀ t,t∈x.ah->t.2<4294967296) (hn:x.num<4294967296):Good x :=
 ⟨⟨(JT h).2.1,fun p a=>⟨((JT h).1 p a).2,hc p a⟩⟩,fun t ht=>((JT h).1 t ht).1,hn⟩
def uY {c:Nat} (v:iD H U O Y.ah) (hl:Y.ah.length<=9223372036854775807) (J:∀ t,t∈Y.ah->t.1.size<=maxLen) :
  HC Xaz 56 #[ik U O c Y] H fun w h'=>w=.bool (ox none Y.ah)/\Ext H h':=by
 refine bd (args:=[.agg #[.slice U O c,.int .u32 Y.num]]) mixed Tryz.func56 ax (zU U O c Y.num) ?_;unfold vZ aY bh bt aI aZ bq aF bz ez cm aQ cn;have hll:=v.len;refine br ?_;intro h1 G K z1;refine az G ((U,O,c),()) (ao ?_);refine aT (cs:=gT) (fun y w h'=>∃ (i:Nat),y.2.1=(i:Int)/\i<=Y.ah.length/\w=Y.ah.length-i/\Ext h1 h'/\ox none Y.ah=ox (KG Y.ah i) (Y.ah.drop i)) (false,(0:Int),()) Y.ah.length rfl
  ⟨0,rfl,ad,ad,Ch.refl _ _,rfl⟩ ?_
 rintro ⟨A,n8,⟨⟩⟩ w h2 ⟨i,hi,I,rfl,B,d⟩;simp only at hi;subst hi;refine ao ?_;have e02:=K.trans B;refine aR ?_ ?_<;>intro L
 ·have b:i<Y.ah.length:=ad
  have v2:=v.an e02 aj;obtain ⟨a,rfl,hc⟩:=v2.cells i b;have C:Y.ah.drop i=Y.ah[i]::Y.ah.drop (i+1):=aw9 b;have n:KG Y.ah (i+1)=some Y.ah[i].1:=by
   unfold KG;rw [ac9 ad,Nat.add_sub_cancel,ad9 b] <;> rfl
  have hsz:=J Y.ah[i] (al9 b);rw [C] at d;generalize Y.ah[i]=t at hc d n hsz;refine bS rfl ?_;rw [cr i];refine ay (t.1,(t.2:Int),()) hc (ao ?_);refine br ?_;intro S M N z3;refine bR M ?_;intro h4 k P z4;have k:bC h4 h2.size 64 [.string t.1,.int .u32 t.2]:=k;have e:Ext h2 h4:=bY N P;have e04:=e02.trans e;rw [aE];refine az k ((t.2:Int),()) (ao ?_);refine aw ?_ ?_<;>intro m
  ·have m:t.2=0:=by have:(t.2:Int)=0:=(by simpa using m); omega
   refine ⟨?_,e04⟩;rw [d];unfold ox;rw [ak9 ad]
   simp
  ·have m:t.2≠0:=by have:¬ (t.2:Int)=0:=(by simpa using m); omega
   refine az k (t.1,()) (ao ?_);refine aP (vS t.1 h4 (by have:maxLen=9223372036854775807:=rfl; omega)) ?_;refine ⟨⟨k.cells _ rfl,trivial⟩,?_⟩;refine aw ?_ ?_<;>intro g
   ·have g:cE t.1.data.toList=false:=by simpa using g
    refine ⟨?_,e04⟩;rw [d];unfold ox;rw [g]
    simp
   ·have g:cE t.1.data.toList=true:=by simpa using g
    have hw:=ic i
    have f:(match KG Y.ah i with
      | none=>true
      | some s=>decide (iK s t.1))=true->ox none Y.ah=ox (KG Y.ah (i+1)) (Y.ah.drop (i+1)):=by
     intro Q;rw [d,n]
     conv=>lhs; unfold ox
     rw [g,aj9 m,Q] <;> rfl
    refine aR ?_ ?_<;>intro R
    ·have D:IntKind.wrap .i64 ((i:Int)-1)=((i-1:Nat):Int):=by rw [wrap_i64 ad ad]; omega
     have o:i-1<Y.ah.length:=ad
     obtain ⟨a',E,q⟩:=(v.an e04 aj).cells (i-1) o;cases E;have r:KG Y.ah i=some Y.ah[i-1].1:=by
      unfold KG;rw [ac9 ad,ad9 o] <;> rfl
     rw [r] at f d;generalize Y.ah[i-1]=u at q r f d;refine az k (t.1,()) (ao ?_);refine az ((G.an B aj).an e aj) ((some a,O,c),()) (ao ?_);rw [D];refine bS rfl ?_;rw [show Int.toNat ((i-1:Nat):Int)=i-1 from ad];refine ay (u.1,()) (de q).1 (ao ?_);rw [leB];refine aw ?_ ?_<;>intro j
     ·have j:¬ iK u.1 t.1:=by simpa using j
      refine ⟨?_,e04⟩;rw [d];unfold ox;dsimp only;rw [ak9 j]
      simp
     ·have j:iK u.1 t.1:=by simpa using j
      exact aG (cs:=gT) (A,((i+1:Nat):Int),()) (Y.ah.length-(i+1)) rfl ad (as9 (fun z=>[Value.bool A,Value.int .i64 z]) hw) ⟨i+1,rfl,ad,rfl,B.trans e,f (aj9 j)⟩
    ·have F:i=0:=ad
     subst F;exact aG (cs:=gT) (A,((0+1:Nat):Int),()) (Y.ah.length-(0+1)) rfl ad (as9 (fun z=>[Value.bool A,Value.int .i64 z]) hw) ⟨0+1,rfl,ad,rfl,B.trans e,f rfl⟩
 ·have hi:i=Y.ah.length:=ad
  subst hi;refine ⟨?_,e02⟩;rw [d,de9] <;> rfl
def uK {c:Nat} (v:iD H U O Y.ah) (hl:Y.ah.length<=9223372036854775807) (G:∀ t,t∈Y.ah->t.1.size<=maxLen) :
  HC Xaz 97 #[ik U O c Y] H fun w h'=>w=.bool (ox none Y.ah)/\Ext H h':=by
 refine bd (args:=[.agg #[.slice U O c,.int .u32 Y.num]]) mixed Tryz.func97 ax (pj U O c Y.num) ?_;unfold kx aY bh bt aI aZ bq aF bz ez aQ cn;have hll:=v.len;refine br ?_;intro h1 j m z1;have v:=v.an m aj;refine aT (cs:=gT) (fun y w h'=>∃ (i:Nat),y.2.1=(i:Int)/\i<=Y.ah.length/\w=Y.ah.length-i/\h1=h'/\ox none Y.ah=ox (KG Y.ah i) (Y.ah.drop i)) (false,(0:Int),()) Y.ah.length rfl
  ⟨0,rfl,ad,ad,rfl,rfl⟩ ?_
 rintro ⟨A,n8,⟨⟩⟩ w h2 ⟨i,hi,F,rfl,rfl,d⟩;simp only at hi;subst hi;refine ao ?_;refine az j ((U,O,c),()) (ao ?_);refine aR ?_ ?_<;>intro I
 ·have b:i<Y.ah.length:=ad
  obtain ⟨a,rfl,hc⟩:=v.cells i b;have B:Y.ah.drop i=Y.ah[i]::Y.ah.drop (i+1):=aw9 b;have n:KG Y.ah (i+1)=some Y.ah[i].1:=by
   unfold KG;rw [ac9 ad,Nat.add_sub_cancel,ad9 b] <;> rfl
  have hsz:=G Y.ah[i] (al9 b);rw [B] at d;generalize Y.ah[i]=t at hc d n hsz;refine az j ((some a,O,c),()) (ao ?_);refine bS rfl ?_;rw [cr i];refine ay (t.1,()) (de hc).1 (ao ?_);refine aP (tD t.1 h1 (by have:maxLen=9223372036854775807:=rfl; omega)) ?_;refine ⟨⟨j.cells _ rfl,trivial⟩,?_⟩;refine aw ?_ ?_<;>intro f
  ·have f:cE t.1.data.toList=false:=by simpa using f
   refine ⟨?_,m⟩;rw [d];unfold ox;rw [f]
   simp
  ·have f:cE t.1.data.toList=true:=by simpa using f
   refine az j ((some a,O,c),()) (ao ?_);refine bS rfl ?_;refine ay ((t.2:Int),()) (de hc).2 (ao ?_);refine aw ?_ ?_<;>intro k
   ·have k:t.2=0:=by have:(t.2:Int)=0:=(by simpa using k); omega
    refine ⟨?_,m⟩;rw [d];unfold ox;rw [ak9 ad]
    simp
   ·have k:t.2≠0:=by have:¬ (t.2:Int)=0:=(by simpa using k); omega
    have hw:=ic i
    have e:(match KG Y.ah i with
      | none=>true
      | some s=>decide (iK s t.1))=true->ox none Y.ah=ox (KG Y.ah (i+1)) (Y.ah.drop (i+1)):=by
     intro J;rw [d,n]
     conv=>lhs; unfold ox
     rw [f,aj9 k,J] <;> rfl
    refine aR ?_ ?_<;>intro K
    ·have C:IntKind.wrap .i64 ((i:Int)-1)=((i-1:Nat):Int):=by rw [wrap_i64 ad ad]; omega
     have o:i-1<Y.ah.length:=ad
     obtain ⟨a',D,q⟩:=v.cells (i-1) o;cases D;have r:KG Y.ah i=some Y.ah[i-1].1:=by
      unfold KG;rw [ac9 ad,ad9 o] <;> rfl
     rw [r] at e d;generalize Y.ah[i-1]=u at q r e d;refine az j ((some a,O,c),()) (ao ?_);refine bS rfl ?_;refine ay (t.1,()) (de hc).1 (ao ?_);refine az j ((some a,O,c),()) (ao ?_);rw [C];refine bS rfl ?_;rw [show Int.toNat ((i-1:Nat):Int)=i-1 from ad];refine ay (u.1,()) (de q).1 (ao ?_);rw [leB];refine aw ?_ ?_<;>intro g
     ·have g:¬ iK u.1 t.1:=by simpa using g
      refine ⟨?_,m⟩;rw [d];unfold ox;dsimp only;rw [ak9 g]
      simp
     ·have g:iK u.1 t.1:=by simpa using g
      exact aG (cs:=gT) (A,((i+1:Nat):Int),()) (Y.ah.length-(i+1)) rfl ad (as9 (fun z=>[Value.bool A,Value.int .i64 z]) hw) ⟨i+1,rfl,ad,rfl,rfl,e (aj9 g)⟩
    ·have E:i=0:=ad
     subst E;exact aG (cs:=gT) (A,((0+1:Nat):Int),()) (Y.ah.length-(0+1)) rfl ad (as9 (fun z=>[Value.bool A,Value.int .i64 z]) hw) ⟨0+1,rfl,ad,rfl,rfl,e rfl⟩
 ·have hi:i=Y.ah.length:=ad
  subst hi;refine ⟨?_,m⟩;rw [d,de9] <;> rfl
end Go.Sx
namespace Go.Sx.Ob
abbrev Bt:=List UInt8
def vk:Nat->Nat->Bt
 | _,0=>[]
 | n,w+1=>UInt8.ofNat n::vk (n / 256) w
def Qy:Bt->Nat
 | []=>0
 | b::l=>b.toNat+256*Qy l
theorem dK:∀ (w n:Nat),(vk n w).length=w
 | 0,_=>rfl
 | w+1,n=>by rw [vk,cj9,dK w]
theorem Dy:∀ (w n:Nat),Qy (vk n w)=n % 256^w
 | 0,n=>by simp [vk,Qy,Nat.mod_one]
 | w+1,n=>by
  rw [vk,Qy,Dy w,Nat.pow_succ,fm9 (256^w) 256,Nat.mod_mul]
  congr 1
abbrev Rd (α:Type):=Except (Nat × Nat) (α × Bt)
def lH {α β:Type} (a:Rd α) (f:α->Bt->Rd β):Rd β :=
 match a with
 | .ok p=>f p.1 p.2
 | .error e=>.error e
@[simp] theorem wJ {α β:Type} (x:α) (r:Bt) (f:α->Bt->Rd β):lH (.ok (x,r)) f=f x r:=rfl
def vl (w:Nat) (r:Bt):Rd Nat:=if w<=r.length then .ok (Qy (r.take w),r.drop w) else .error (0,10)
def H0 (r:Bt):Rd Xaa:=lH (vl 2 r) fun n r=>if n<=r.length then .ok (⟨(r.take n).toArray⟩,r.drop n) else .error (0,10)
def Rr:Nat->Bt->Rd dt
 | 0,r=>.ok ([],r)
 | n+1,r=>lH (H0 r) fun s r=>lH (vl 4 r) fun c r=>lH (Rr n r) fun ts r=>.ok ((s,c)::ts,r)
def ja (r:Bt):Rd bM:=lH (vl 2 r) fun n r=>lH (Rr n r) fun ts r=>lH (vl 4 r) fun c r=>.ok (⟨ts,c⟩,r)
def jE (s:Xaa):Bt:=vk s.size 2++s.data.toList
def Hh (t:Xaa × Nat):Bt:=jE t.1++vk t.2 4
def mC (x:bM):Bt:=vk x.ah.length 2++(x.ah.flatMap Hh++vk x.num 4)
def OR (w n:Nat) (t:Bt):vl w (vk n w++t)=.ok (n % 256^w,t):=by
 unfold vl;rw [ag9 (by rw [af9,dK]; omega),List.take_left' (dK w n),List.drop_left' (dK w n),Dy]
def MF {s:Xaa} (h:s.size<65536) (t:Bt):H0 (jE s++t)=.ok (s,t):=by
 unfold H0 jE;rw [ay9,OR,wJ,dx9 ad];have hl:s.data.toList.length=s.size:=aj
 rw [ag9 (by rw [af9,hl]; omega),List.take_left' hl,List.drop_left' hl]
structure Ins where
 op:Int
 a:Int
 b:Int
 n:Int
 form:Int
deriving DecidableEq
structure cC where
 kind:Int
 name:Xaa
 inst:Ins
 e:bM
 n:Int
def Ul:Ins:=⟨0,0,0,0,0⟩
def GX:bM:=⟨[],0⟩
def dW:Xaa:=⟨#[]⟩
def fD (k:Int):cC:=⟨k,dW,Ul,GX,0⟩
def oJ:List Nat:=[1,1,1,2,2,2,2,2,2,2,3,3,4,4,4,4,4,4,4,4,4,4,4,4,4,4,4,4,5,5,5,5,6,6,7,8,9,10,11,12,12,13,13]
def dy (op:Int):Nat:=if op<1 then 0 else oJ.getD (op-1).toNat 0
def xB (n m:Int):Bool:=decide (0<=n) && decide (n<m)
def cT (s:Nat) (a b n:Int):Bool :=
 if s=1\/s=9\/s=12 then decide (a=0) && decide (b=0)
 else if s=2\/s=8\/s=10\/s=11\/s=13 then xB a 8 && decide (b=0)
 else if s=3 then xB a 4 && decide (b=0)
 else if s=4 then xB a 8 && xB b 8
 else if s=5 then xB a 4 && xB b 4
 else if s=6 then xB a 8 && xB b 4
 else xB a 4 && xB b 8 && xB n 8
def nq (n form:Int):Bool :=
 if form=1 then decide (-128<=n) && decide (n<=127)
 else if form=2 then decide (-32768<=n) && decide (n<=32767)
 else decide (form=4)
def nR (s:Nat) (n form:Int):Bool :=
 if s=8 then nq n 1
 else if s=9 then decide (0<=n) && decide (n<=255)
 else if s=10\/s=7 then true
 else if s=11 then decide (0<=n) && decide (n<=4095)
 else if s=12\/s=13 then nq n form
 else decide (n=0)
def tR (op:Int):Bool:=decide (12<=dy op)
def HV (op:Int):Bool:=decide (10<=dy op)
def ir (i:Ins):Int :=
 if dy i.op=0 then 11
 else if cT (dy i.op) i.a i.b i.n=false then 12
 else if (!tR i.op && decide (i.form≠0) || !nR (dy i.op) i.n i.form)=true then 13
 else 0
def RW (x:bM):Bool:=decide (x.ah=[]) && decide (x.num=0)
def AI (i:Ins) (e:bM):Bool :=
 decide (dy i.op≠0) && decide (i.form=0) && (if HV i.op then decide (i.n=0) && decide (ir { i with form:=if tR i.op then 1 else 0 }=0) && ox none e.ah
  else decide (ir i=0) && RW e)
def vG (n:Int):Bool:=decide (n=1) || decide (n=2) || decide (n=4) || decide (n=8) || decide (n=16) || decide (n=32) || decide (n=64) || decide (n=128) || decide (n=256)
def z1 (x:cC):Bool:=decide (x.name=dW)
def z2 (x:cC):Bool:=decide (x.inst=Ul)
def z3 (x:cC):Bool:=RW x.e
def z4 (x:cC):Bool:=decide (x.n=0)
def cJ (x:cC) (sec:Nat):Bool :=
 if x.kind=1 then cE x.name.data.toList && z2 x && z3 x && z4 x
 else if x.kind=2 then decide (sec=0) && AI x.inst x.e && z1 x && z4 x
 else if x.kind=3 then vG x.n && z1 x && z2 x && z3 x
 else if x.kind=4 then decide (sec=0) && z1 x && z2 x && z3 x && z4 x
 else if x.kind=5 then decide (sec=1) && decide (-128<=x.n) && decide (x.n<=255) && z1 x && z2 x && z3 x
 else if x.kind=6 then decide (sec=1) && ox none x.e.ah && z1 x && z2 x && z4 x
 else if x.kind=7 then decide (sec=1) && decide (0<=x.n) && decide (x.n<=1048576) && z1 x && z2 x && z3 x
 else false
def u32 (n:Int):Nat:=(n % 4294967296).toNat
def Vr (n:Nat):Int:=if n<2147483648 then (n:Int) else (n:Int)-4294967296
def s16 (n:Nat):Int:=if n<32768 then (n:Int) else (n:Int)-65536
def Ej (n:Int) (w:Nat):Bt:=vk (u32 n) w
def JP (x:cC):Bt:=Ej x.kind 1 ++
 (if x.kind=1 then jE x.name
 else if x.kind=2 then Ej x.inst.op 1++(Ej x.inst.a 1++(Ej x.inst.b 1++(Ej x.inst.n 4++if HV x.inst.op then mC x.e else [])))
 else if x.kind=3\/x.kind=5 then Ej x.n 2
 else if x.kind=6 then mC x.e
 else if x.kind=7 then Ej x.n 4
 else [])
def aaa (r:Bt):Rd cC:=lH (vl 1 r) fun op r=>lH (vl 1 r) fun a r=>lH (vl 1 r) fun b r=>lH (vl 4 r) fun n r =>
 if HV (op:Int) then lH (ja r) fun e r=>.ok ({ fD 2 with inst:=⟨op,a,b,Vr n,0⟩,e:=e },r) else .ok ({ fD 2 with inst:=⟨op,a,b,Vr n,0⟩ },r)
def Zz (k:Nat) (r:Bt):Rd cC :=
 if k=1 then lH (H0 r) fun s r=>.ok ({ fD 1 with name:=s },r)
 else if k=2 then aaa r
 else if k=3 then lH (vl 2 r) fun n r=>.ok ({ fD 3 with n:=n },r)
 else if k=5 then lH (vl 2 r) fun n r=>.ok ({ fD 5 with n:=s16 n },r)
 else if k=6 then lH (ja r) fun e r=>.ok ({ fD 6 with e:=e },r)
 else if k=7 then lH (vl 4 r) fun n r=>.ok ({ fD 7 with n:=n },r)
 else .ok (fD k,r)
def at_ {α:Type} (r:Bt) (rD:Nat) (ok:α->Bool) (a:Rd α):Rd α:=lH a fun x b=>if ok x then .ok (x,b) else .error (r.length,rD)
def gP (D:List Xaa) (s:Xaa):Bool:=D.any fun t=>decide (t=s)
def zd (sec:Nat) (D:List Xaa) (x:cC):Bool:=cJ x sec && !(decide (x.kind=1) && gP D x.name)
def uR (D:List Xaa) (x:cC):List Xaa:=if x.kind=1 then x.name::D else D
def YO (sec:Nat) (D:List Xaa) (r:Bt):Rd cC:=at_ r 31 (zd sec D) (lH (vl 1 r) Zz)
def Wo {α:Type} {r b:Bt} {rD:Nat} {ok:α->Bool} {a:Rd α} {x:α} (h:a=.ok (x,b)) (h2:ok x=true):at_ r rD ok a=.ok (x,b):=by
 unfold at_;rw [h,wJ,ag9 h2]
def IM (op:Int) (h:dy op≠0):1<=op/\op<=43:=by
 unfold dy at h;split at h
 ·exact absurd rfl h
 ·refine ⟨ad,?_⟩
  by_cases g:op<=43
  ·exact g
  ·exfalso;apply h;rw [cf9,bs9 (by simp [oJ]; omega)] <;> rfl
def F2 {i:Ins} (h:ir i=0):dy i.op≠0/\cT (dy i.op) i.a i.b i.n=true:=by
 unfold ir at h;split at h
 ·cases h
 ·split at h
  ·cases h
  ·rename_i h1 h2;exact ⟨h1,by simpa using h2⟩
def iP (op:Int):dy op=0\/(1<=dy op/\dy op<=13):=by
 by_cases h:dy op=0
 ·exact .inl h
 ·right
  have h1:=IM op h;unfold dy;rw [ac9 ad];have h2:(op-1).toNat<43:=ad
  generalize (op-1).toNat=k at h2
  have:∀ k:Fin 43,1<=oJ.getD k.1 0/\oJ.getD k.1 0<=13:=bT
  exact this ⟨k,h2⟩
abbrev sS:=Xaa × bM
structure cv where
 text:List cC
 data:List cC
 bj:List sS
 aU:List Xaa
def xZ (sec:Nat):Nat->List Xaa->Bt->Rd (List cC)
 | 0,_,r=>.ok ([],r)
 | n+1,D,r=>lH (YO sec D r) fun x r=>lH (xZ sec n (uR D x) r) fun l r=>.ok (x::l,r)
def D1 (D:List Xaa) (p:sS):Bool:=!(gP D p.1) && cE p.1.data.toList && ox none p.2.ah
def Ub (D:List Xaa) (last g:Xaa):Bool:=gP D g && decide (iK last g)
def U5 (D:List Xaa) (last:Xaa) (r:Bt):Rd Xaa:=at_ r 31 (Ub D last) (H0 r)
def Jg (D:List Xaa):Nat->Xaa->Bt->Rd (List Xaa)
 | 0,_,r=>.ok ([],r)
 | n+1,last,r=>lH (U5 D last r) fun x r=>lH (Jg D n x r) fun l r=>.ok (x::l,r)
def Qm:Bt:=[83,80,65,78,1]
def db (D:List Xaa) (l:List cC):List Xaa:=l.foldl uR D
def aX (D:List Xaa) (l:List sS):List Xaa:=l.foldl (fun D p=>p.1::D) D
def fo (sec:Nat):List Xaa->List cC->Bool
 | _,[]=>true
 | D,x::l=>zd sec D x && fo sec (uR D x) l
def hY:List Xaa->List sS->Bool
 | _,[]=>true
 | D,x::l=>D1 D x && hY (x.1::D) l
def dh (D:List Xaa):Xaa->List Xaa->Bool
 | _,[]=>true
 | last,x::l=>Ub D last x && dh D x l
def cv.names (u:cv):List Xaa:=aX (db (db [] u.text) u.data) u.bj
def xr (u:cv):Bool:=fo 0 [] u.text && fo 1 (db [] u.text) u.data && hY (db (db [] u.text) u.data) u.bj && dh u.names dW u.aU
def wH (u:cv):Bool:=decide (8192<u.text.length+u.data.length) || decide (8192<u.bj.length)
def fz (u:cv):Nat:=if wH u then 4 else if xr u then 0 else 31
def Oi (p:sS):Bt:=jE p.1++mC p.2
def D9 {α:Type} (w:α->Bt) (l:List α):Bt:=vk l.length 2++l.flatMap w
def ZJ (u:cv):Bt:=Qm++(D9 JP u.text++(D9 JP u.data++(D9 Oi u.bj++D9 jE u.aU)))
theorem IL (D:List Xaa) (a:∀ s,s∈D->s.size<65536):∀ (l:List Xaa) (o:Xaa) (t:Bt),dh D o l=true->Jg D l.length o (l.flatMap jE++t)=.ok (l,t)
 | [],o,t,_=>rfl
 | x::l,o,t,h=>by
  unfold dh at h;rw [bm9] at h;obtain ⟨h1,h2⟩:=h;have b:x.size<65536:=by
   unfold Ub gP at h1;simp only [Bool.and_eq_true,List.any_eq_true,decide_eq_true_eq] at h1;obtain ⟨⟨y,c,rfl⟩,_⟩:=h1;exact a y c
  rw [cj9,cd9,ay9,Jg];have d:U5 D o (jE x++(l.flatMap jE++t))=.ok (x,l.flatMap jE++t):=Wo (MF b _) h1;rw [d,wJ,IL D a l _ t h2,wJ]
theorem za (D:List Xaa):∀ (l:List Xaa) (o:Xaa),dh D o l=true->(∀ x,x∈l->x∈D/\iK o x)/\l.Pairwise iK
 | [],o,_=>⟨aj,List.Pairwise.nil⟩
 | x::l,o,h=>by
  unfold dh Ub gP at h;simp only [Bool.and_eq_true,List.any_eq_true,decide_eq_true_eq] at h;obtain ⟨⟨⟨y,d,rfl⟩,h2⟩,e⟩:=h;obtain ⟨a,b⟩:=za D l y e;refine ⟨?_,dp9.2 ⟨fun z c=>(a z c).2,b⟩⟩;intro z c;rcases be9.1 c with rfl | c
  ·exact ⟨d,h2⟩
  ·exact ⟨(a z c).1,jV h2 (a z c).2⟩
def A9 {u:cv} (h:fz u=0):wH u=false/\xr u=true:=by
 unfold fz at h;split at h
 ·cases h
 ·rename_i h1;split at h
  ·rename_i h2;exact ⟨by simpa using h1,h2⟩
  ·cases h
end Go.Sx.Ob
namespace Go.Sx
open Go.Proofs
def Y2:Tryz.prog.underlying 64=some (.struct (vU Xaz 64)):=ax
def QG (x y:Operand) (a:Xaa) (b:Int) (a':Xaa) (b':Int) (h:Hp) (K:Xab->Hp->Prop) (hk:K (.bool !(a==a' && b==b')) h) :
  aS Xaz (Sx.lW (BinOp.neq) 64 x y (.agg #[.string a,.int .u32 b]) (.agg #[.string a',.int .u32 b'])) h K:=by
 refine AB Y2 ax ax ax K ?_;have c:(vU Xaz 64).all (HZ #[.string a,.int .u32 b] #[.string a',.int .u32 b'])=(a==a' && (b==b' && true)):=by
  rw [<- dd9]
  kernel_rfl
 rw [c,cz9];exact hk
def N4 (t u:Xaa × Nat):(!(t.1==u.1 && (t.2:Int)==(u.2:Int)))=decide (t≠u):=by
 obtain ⟨a,b⟩:=t;obtain ⟨a',b'⟩:=u
 by_cases h1:a=a'
 ·subst h1;rw [bytes_beq]
  by_cases h2:b=b'
  ·subst h2
   simp
  ·have c:¬ ((b:Int)=(b':Int)):=ad
   have f:((b:Int)==(b':Int))=false:=by simpa using c
   simp [h2,f]
 ·have c:(a==a')=false:=by
   obtain ⟨d⟩:=a;obtain ⟨d'⟩:=a';show (d==d')=false;have f:¬ d=d':=fun e=>h1 (by rw [e])
   simpa using f
  simp [h1,c]
variable {H Y:Nat}
def Bx {α:Type} {l m:List α} (hi:H<l.length) (a:H<m.length) (h:l[H]≠m[H]):l≠m:=by
 rintro rfl;exact h rfl
def xp {α:Type} {l m:List α} (hi:H<l.length) (a:H<m.length) (h:l[H]=m[H]):(l.drop H=m.drop H)↔(l.drop (H+1)=m.drop (H+1)):=by
 rw [aw9 hi,aw9 a,h];exact ⟨fun e=>(List.cons.inj e).2,fun e=>by rw [e]⟩
instance:DecidableEq dt:=inferInstance
variable {O:Hp} {U V:Xac}
def Ie {c d:Nat} {us j:dt} (v:iD O U H us) (w:iD O V Y j) (hl:us.length<=2^60):uu Xaz 112 [.slice U H c,.slice V Y d] O (.bool (decide (us=j))):=by
 refine ff mixed Tryz.func112 ax (gw U H c V Y d) ?_;unfold eE aY bh bt aI fh aF bz ez aQ cn;have h1:=v.len;have h2:=w.len;refine aw ?_ ?_<;>intro k
 ·have k:¬ (H:Int)=(Y:Int):=by simpa using k
  exact ⟨by rw [ak9 (fun e=>by rw [e] at h1; omega)],rfl⟩
 ·have k:(H:Int)=(Y:Int):=by simpa using k
  refine aT (cs:=gT) (fun y n h'=>∃ (i:Nat),y.2.1=(i:Int)/\i<=us.length/\n=us.length-i/\O=h'/\(us=j↔us.drop i=j.drop i)) (false,(0:Int),()) us.length rfl
   ⟨0,rfl,ad,ad,rfl,Iff.rfl⟩ ?_
  rintro ⟨s,n8,⟨⟩⟩ n h2 ⟨i,hi,x,rfl,rfl,A⟩;simp only at hi;subst hi;refine ao ?_;refine aR ?_ ?_<;>intro B
  ·have f:i<us.length:=ad
   have g:i<j.length:=ad
   obtain ⟨a,rfl,hc⟩:=v.cells i f;obtain ⟨a',rfl,o⟩:=w.cells i g;have hst:=xp f g;have hno:=Bx f g;generalize us[i]=t at hc hst hno;generalize j[i]=u at o hst hno;refine bS rfl ?_;rw [cr i];refine ay (t.1,(t.2:Int),()) hc (ao ?_);refine bS rfl ?_;refine ay (u.1,(u.2:Int),()) o (ao ?_);refine wO (b:=decide (t≠u)) (fun C hk=>QG _ _ _ _ _ _ _ _ (by rw [N4]; exact hk)) ?_;refine aw ?_ ?_<;>intro r
   ·exact ⟨by rw [ak9 (hno (ah9 r))],rfl⟩
   ·have r:t=u:=by simpa using r
    have hw:=ic i;exact aG (cs:=gT) (s,((i+1:Nat):Int),()) (us.length-(i+1)) rfl ad (as9 (fun z=>[Value.bool s,Value.int .i64 z]) hw) ⟨i+1,rfl,ad,rfl,rfl,A.trans (hst r)⟩
  ·refine ⟨?_,rfl⟩;rw [aj9 (A.2 (by rw [cc9 ad,cc9 ad]))]
def gS (x y:bM):Bool:=decide (x.num=y.num) && decide (x.ah=y.ah)
def CU (x:bM):gS x x=true:=by unfold gS; simp
def CR {c d:Nat} {x y:bM} (v:iD O U H x.ah) (w:iD O V Y y.ah) (hl:x.ah.length<=2^60) :
  HC Xaz 82 #[ik U H c x,ik V Y d y] O fun r h'=>r=.bool (gS x y)/\Ext O h':=by
 refine bd (args:=[.agg #[.slice U H c,.int .u32 x.num],.agg #[.slice V Y d,.int .u32 y.num]]) mixed Tryz.func82 ax (Bs U H c x.num V Y d y.num) ?_;unfold zf aZ aF bz;refine br ?_;intro h1 b1 f z1;refine br ?_;intro h2 b e z2;have b1:=b1.an e aj;have e02:=f.trans e;rw [aE,aE];refine az b1 ((x.num:Int),()) (ao ?_);refine az b ((y.num:Int),()) (ao ?_);refine aw ?_ ?_<;>intro a
 ·have a:x.num=y.num:=by have:(x.num:Int)=y.num:=(by simpa using a); omega
  refine az b1 ((U,H,c),()) (ao ?_);refine az b ((V,Y,d),()) (ao ?_);refine aP (Ie (v.an e02 aj) (w.an e02 aj) hl) ?_;refine ⟨?_,e02⟩;unfold gS;rw [aj9 a] <;> rfl
 ·have a:¬ x.num=y.num:=by have:¬ (x.num:Int)=y.num:=(by simpa using a); omega
  refine ⟨?_,e02⟩;unfold gS;rw [ak9 a] <;> rfl
def SW {P:Program} {L:Lp} {K:Xab->Hp->Prop} {h:Hp} {k:Xac->Nat->Nat->T} {t e:TypeId} {z:Xab} {sz by':Nat} (ht:P.underlying t=some (.slice e)) (a:(P.info? e).map (fun i=>(i.zero,i.size,i.bytes))=some (some z,sz,by'))
  (hk:∀ h' ,SL h' h.size e sz (some ⟨h.size,0,none⟩) 0 0 []->Ext h h'->k (some ⟨h.size,0,none⟩) 0 0 L K h'):T.eH P (Instr.buildSlice t 0 #[]) false [(false,[.slice 0])] k L K h:=by
 obtain ⟨i,hi,b,rfl,rfl⟩:=pO a;refine dA ?_;unfold Instr.buildSlice;rw [av,aC ht];simp only;rw [av,cd hi];simp only [Nat.zero_mul];rw [ac9 ad];have h0:∀ f:Nat->Xab,Array.map f (Array.range 0)=#[]:=fun f=>aj
 simp only [h0];refine ⟨_,_,_,rfl,hk _ ?_ (Ext.push h _)⟩;exact ⟨rfl,aj,h.size,[],[],rfl,aq9 _,⟨aq9 _,ad⟩,by simpa using bC.new h e [],aj⟩
theorem wR {h:Hp} {a:Xax}:∀ (us:dt) (k:Nat),(∀ i,(hi:i<us.length)->aH h (a.add ((k+i)*2)) 0 (dp us[i]))->aH h a (k*2) (us.map dp).flatten
 | [],_,_=>trivial
 | t::us,k,hc=>by
  have h0:=hc 0 aj;obtain ⟨h1,h2,_⟩:=h0;rw [add_add] at h1 h2;have ih:=wR us (k+1) (fun i hi=>by
   have:=hc (i+1) (by simpa using hi)
   rw [show k+(i+1)=k+1+i from ad] at this;exact this)
  rw [show (k+1)*2=k*2+1+1 from ad] at ih;exact ⟨h1,by simpa using h2,ih⟩
def iD.flat {h:Hp} {a:Xax} {us:dt} (v:iD h (some a) H us):aH h a 0 (us.map dp).flatten:=by
 have:=wR (h:=h) (a:=a) us 0 (fun i hi=>by
  obtain ⟨a',e,hc⟩:=v.cells i hi;cases e;rw [bu9];exact hc)
 simpa using this
def IF (us:dt):(us.map dp).flatten.all dr=true:=by
 rw [bn9];intro v hv;obtain ⟨x,a,hv⟩:=List.mem_flatten.1 hv;obtain ⟨t,_,rfl⟩:=an9.1 a;simp only [dp,List.mem_cons,List.not_mem_nil,or_false] at hv;rcases hv with rfl | rfl <;> rfl
end Go.Sx
namespace Go.Sx.Ob
open Go.Proofs
variable {h':Hp} {e2 e1:TypeId} {sec:Nat}
def _root_.Go.Sx.Ch.st {h a b:Hp} {g:Nat} (e:Ext h a) (k:Ch [g] a b) (c:h.size<=g):Ext h b:=bY e k
def lT (nm:Nat->Xaa) (by_:Nat->Int):List Xab:=(List.range 43).flatMap fun k=>[.string (nm k),.int .u8 (by_ k),vI (oJ.getD k 0:Nat)]
def yO (h:Hp):Prop:=∃ nm by_ e f,h[0]?=some (.cells (lT nm by_).toArray e f)
def yO.an {ws:List Nat} {h:Hp} (t:yO h) (k:Ch ws h h') (a:0∉ws):yO h':=by
 obtain ⟨nm,by_,e,f,ht⟩:=t;exact ⟨nm,by_,e,f,k.get ht a⟩
theorem xd {α β:Type} (f:α->List β) (m:Nat) (a:∀ x,(f x).length=m):∀ (l:List α) (i j:Nat),j<m->(l.flatMap f)[i*m+j]?=(l[i]?).bind fun x=>(f x)[j]?
 | [],i,j,b=>aj
 | x::l,0,j,b=>by
  rw [cd9,bp9 (by rw [a]; omega)]
  simp
 | x::l,i+1,j,b=>by
  rw [cd9,bi9 (by rw [a,da9]; omega),a,show (i+1)*m+j-m=i*m+j by rw [da9]; omega,xd f m a l i j b]
  simp
def yO.cells {h:Hp} (t:yO h) {k:Nat} (hk:k<43):∃ (s:Xaa) (b:Int),aH h ((⟨0,0,none⟩:Xax).add (k*3)) 0 [.string s,.int .u8 b,vI (oJ.getD k 0:Nat)]:=by
 obtain ⟨nm,by_,e,f,ht⟩:=t;refine ⟨nm k,by_ k,?_⟩;have a:∀ j,j<3->(lT nm by_)[k*3+j]?=([.string (nm k),.int .u8 (by_ k),vI (oJ.getD k 0:Nat)]:List Xab)[j]?:=by
  intro j c;unfold lT;rw [xd _ 3 aj _ _ _ c];simp [hk]
 rw [aE];refine ⟨?_,?_,?_,trivial⟩
 ·rw [aE,r5 ht]
  have:=a 0 ad
  simpa using this
 ·rw [aE,r5 ht]
  have:=a 1 ad
  simpa using this
 ·rw [aE,r5 ht]
  have:=a 2 ad
  simpa using this
def KY {h:Hp} (t:yO h) (op:Int) (h1:-9223372036854775808<=op) (h2:op<=9223372036854775807) :
  HC Xaz 67 #[vI op] h fun w h'=>∃ (s:Xaa) (b:Int),w=.tuple #[.agg #[.string s,.int .u8 b,vI (dy op:Nat)],.bool (decide (dy op≠0))]/\Ext h h':=by
 refine bd (args:=[vI op]) mixed Tryz.func67 ax (HO op) ?_;unfold Gk bq bG cm;refine br ?_;intro n d e1 z1;have f:∀ (i:dy op=0),(∃ (s:Xaa) (b:Int),(Value.tuple #[.agg #[.string ⟨#[]⟩,.int .u8 0,vI 0],.bool false])=.tuple #[.agg #[.string s,.int .u8 b,vI (dy op:Nat)],.bool (decide (dy op≠0))]) :=
  fun i=>⟨⟨#[]⟩,0,by rw [i]; rfl⟩
 refine aw ?_ ?_<;>intro q
 ·have q:=ah9 q;refine bR d ?_;intro j a c z2;refine az a ((⟨#[]⟩:Xaa),(0:Int),(0:Int),()) ?_;obtain ⟨s,b,e⟩:=f (by unfold dy; rw [ag9 q]);exact ⟨s,b,e,bY e1 c⟩
 refine aw ?_ ?_<;>intro r
 ·have r:=ah9 r;refine bR d ?_;intro j a c z2;refine az a ((⟨#[]⟩:Xaa),(0:Int),(0:Int),()) ?_;obtain ⟨s,b,e⟩:=f (by
   by_cases g:dy op=0
   ·exact g
   ·have:=IM op g
    omega)
  exact ⟨s,b,e,bY e1 c⟩
 ·have q:=av9 q;have r:=av9 r;rw [wrap_i64 ad ad];refine hZ ?_;obtain ⟨s,b,hc⟩:=(t.an e1 aj).cells (k:=(op-1).toNat) ad;refine ay (s,b,((oJ.getD (op-1).toNat 0:Nat):Int),()) hc (ao ?_);refine bR d ?_;intro j a c z2;refine az a (s,b,((oJ.getD (op-1).toNat 0:Nat):Int),()) ?_;refine ⟨s,b,?_,bY e1 c⟩;have l:dy op=oJ.getD (op-1).toNat 0:=by unfold dy; rw [ac9 ad]
  have m:dy op≠0:=by
   rw [l]
   have:∀ k:Fin 43,oJ.getD k.1 0≠0:=bT
   exact this ⟨(op-1).toNat,ad⟩
  rw [aj9 m,l]
def G4 {h:Hp} (t:yO h) (op:Int) (h1:-9223372036854775808<=op) (h2:op<=9223372036854775807) :
  HC Xaz 60 #[vI op] h fun w h'=>w=.bool (tR op)/\Ext h h':=by
 refine bd (args:=[vI op]) mixed Tryz.func60 ax (AY op) ?_;unfold zk bP ez cm cn;refine aK (KY t op h1 h2) ?_;rintro _ c ⟨s,b,rfl,e1⟩;refine ⟨(s,b,((dy op:Nat):Int),decide (dy op≠0),()),rfl,ao ?_⟩;refine br ?_;intro g d e2 z2;refine bR d ?_;intro e a f z3;have e3:=(e1.trans e2).st f (by have:=e1.size; omega);have a:bC e c.size 171 [.string s,.int .u8 b,vI (dy op:Nat)]:=a;rw [aE];refine az a (((dy op:Nat):Int),()) (ao ?_);have hc:=iP op;refine aw ?_ ?_<;>intro q
 ·have q:((dy op:Nat):Int)=12:=by simpa using q
  refine ⟨?_,e3⟩;unfold tR;rw [aj9 ad]
 ·have q:¬ ((dy op:Nat):Int)=12:=by simpa using q
  refine az a (((dy op:Nat):Int),()) ?_;refine ⟨?_,e3⟩;unfold tR
  by_cases r:dy op=13
  ·rw [r]; rfl
  ·rw [ak9 ad]
   congr 1
   simp
   omega
def Ji (n:Int):(n==IntKind.wrap .i32 (IntKind.wrap .i8 n))=(decide (-128<=n) && decide (n<=127)):=by
 have h1:IntKind.wrap .i8 n=if n % 256<128 then n % 256 else n % 256-256:=by
  simp only [IntKind.wrap,IntKind.bits,IntKind.signed,Bool.true_and];split <;> rename_i a
  ·have:=ah9 a
   rw [ac9 ad] <;> rfl
  ·have:¬ _:=fun h=>a (aj9 h)
   rw [ag9 ad] <;> rfl
 have h2:IntKind.wrap .i32 (IntKind.wrap .i8 n)=IntKind.wrap .i8 n:=by
  have:-128<=IntKind.wrap .i8 n/\IntKind.wrap .i8 n<=127:=by rw [h1]; split <;> omega
  generalize IntKind.wrap .i8 n=m at this;simp only [IntKind.wrap,IntKind.bits,IntKind.signed,Bool.true_and];split <;> rename_i a
  ·have:=ah9 a; omega
  ·have:¬ _:=fun h=>a (aj9 h); omega
 rw [h2,h1]
 by_cases g:-128<=n/\n<=127
 ·rw [aj9 g.1,aj9 g.2]
  simp
  split <;> omega
 ·have:(decide (-128<=n) && decide (n<=127))=false:=by
   rw [Bool.and_eq_false_iff]
   simp
   omega
  rw [this]
  simp
  split <;> omega
def Hc (n:Int):(n==IntKind.wrap .i32 (IntKind.wrap .i16 n))=(decide (-32768<=n) && decide (n<=32767)):=by
 have h1:IntKind.wrap .i16 n=if n % 65536<32768 then n % 65536 else n % 65536-65536:=by
  simp only [IntKind.wrap,IntKind.bits,IntKind.signed,Bool.true_and];split <;> rename_i a
  ·have:=ah9 a
   rw [ac9 ad] <;> rfl
  ·have:¬ _:=fun h=>a (aj9 h)
   rw [ag9 ad] <;> rfl
 have h2:IntKind.wrap .i32 (IntKind.wrap .i16 n)=IntKind.wrap .i16 n:=by
  have:-32768<=IntKind.wrap .i16 n/\IntKind.wrap .i16 n<=32767:=by rw [h1]; split <;> omega
  generalize IntKind.wrap .i16 n=m at this;simp only [IntKind.wrap,IntKind.bits,IntKind.signed,Bool.true_and];split <;> rename_i a
  ·have:=ah9 a; omega
  ·have:¬ _:=fun h=>a (aj9 h); omega
 rw [h2,h1]
 by_cases g:-32768<=n/\n<=32767
 ·rw [aj9 g.1,aj9 g.2]
  simp
  split <;> omega
 ·have:(decide (-32768<=n) && decide (n<=32767))=false:=by
   rw [Bool.and_eq_false_iff]
   simp
   omega
  rw [this]
  simp
  split <;> omega
def cz (h:Hp) (n f:Int):uu Xaz 156 [.int .i32 n,vI f] h (.bool (nq n f)):=by
 refine ff mixed Tryz.func156 ax (yj n f) ?_;unfold ur;rw [Ji,Hc];refine aw ?_ ?_<;>intro q
 ·have q:f=1:=by simpa using q
  exact ⟨by unfold nq; rw [ag9 q],rfl⟩
 have q:¬ f=1:=by simpa using q
 refine aw ?_ ?_<;>intro r
 ·have r:f=2:=by simpa using r
  exact ⟨by unfold nq; rw [ac9 q,ag9 r],rfl⟩
 have r:¬ f=2:=by simpa using r
 exact ⟨by unfold nq; rw [ac9 q,ac9 r]; rfl,rfl⟩
def GP (h:Hp) (n:Int):uu Xaz 81 [vI n] h (.bool (vG n)):=by
 refine ff mixed Tryz.func81 ax (zW n) ?_;unfold wT bq bz;have a:¬ (1<=n/\n<=256)->vG n=false:=by
  intro g;cases b:vG n with
  | false=>rfl
  | true =>
   exfalso;unfold vG at b;simp only [Bool.or_eq_true,decide_eq_true_eq] at b;omega
 refine aR ?_ ?_<;>intro q
 ·refine aR ?_ ?_<;>intro r
  ·refine ⟨?_,rfl⟩;obtain ⟨k,rfl,hk⟩:∃ k:Nat,n=((k+1:Nat):Int)/\k<256:=⟨(n-1).toNat,ad,ad⟩
   have:∀ k:Fin 256,(IntKind.wrap .i64 (((BitVec.toNat ((BitVec.ofInt 64 ((k.1+1:Nat):Int)) &&& (BitVec.ofInt 64 (IntKind.wrap .i64 (((k.1+1:Nat):Int)-(1:Int)))))):Nat):Int)==(0:Int))=vG ((k.1+1:Nat):Int):=by
    decide +kernel
   rw [this ⟨k,hk⟩]
  ·exact ⟨by rw [a ad],rfl⟩
 ·exact ⟨by rw [a ad],rfl⟩
def cP (h:Hp) (n m:Int):uu Xaz 155 [vI n,vI m] h (.bool (xB n m)):=by
 refine ff mixed Tryz.func155 ax (B' n m) ?_;unfold yQ bz;refine aR ?_ ?_<;>intro q
 ·refine ⟨?_,rfl⟩;unfold xB;rw [aj9 (show 0<=n from ad)] <;> rfl
 ·refine ⟨?_,rfl⟩;unfold xB;rw [ak9 (show ¬ 0<=n from ad)] <;> rfl
def du (a b:Int):(a==b)=decide (a=b):=rfl
def dE (op a b n form:Int):Xab:=.agg #[vI op,vI a,vI b,.int .i32 n,vI form]
def QA (h:Hp) (op a b n form:Int):HC Xaz 137 #[dE op a b n form,vI 1] h fun w h'=>w=.bool (cT 1 a b n)/\Ext h h':=by
 refine bd (args:=[dE op a b n form,vI 1]) mixed Tryz.func137 ax (rG op a b n form) ?_;unfold mI bz;refine br ?_;intro d c e1 z1
 try simp only [aE]
 repeat' (first
  | (refine bI c (_,()) rfl ?_; refine ao ?_)
  | (refine aP (cP _ _ _) ?_)
  | (refine aP (cz _ _ _) ?_)
  | (refine aw (fun q=>?_) (fun q=>?_)))
 all_goals (refine ⟨?_,e1⟩; first | (simp_all [cT,du]; done) | (simp_all [cT,du] <;> simp [xB] <;> omega))
def TZ (h:Hp) (op a b n form:Int):HC Xaz 138 #[dE op a b n form,vI 1] h fun w h'=>w=.bool (nR 1 n form)/\Ext h h':=by
 refine bd (args:=[dE op a b n form,vI 1]) mixed Tryz.func138 ax (uX op a b n form) ?_;unfold q8;refine br ?_;intro d c e1 z1
 try simp only [aE]
 repeat' (first
  | (refine bI c (_,()) rfl ?_; refine ao ?_)
  | (refine aP (cP _ _ _) ?_)
  | (refine aP (cz _ _ _) ?_)
  | (refine aw (fun q=>?_) (fun q=>?_)))
 all_goals (refine ⟨?_,e1⟩; first | (simp_all [nR,du]; done) | (simp_all [nR,du] <;> omega))
def QD (h:Hp) (op a b n form:Int):HC Xaz 137 #[dE op a b n form,vI 2] h fun w h'=>w=.bool (cT 2 a b n)/\Ext h h':=by
 refine bd (args:=[dE op a b n form,vI 2]) mixed Tryz.func137 ax (rz op a b n form) ?_;unfold mX aZ bz;refine br ?_;intro d c e1 z1
 try simp only [aE]
 repeat' (first
  | (refine bI c (_,()) rfl ?_; refine ao ?_)
  | (refine aP (cP _ _ _) ?_)
  | (refine aP (cz _ _ _) ?_)
  | (refine aw (fun q=>?_) (fun q=>?_)))
 all_goals (refine ⟨?_,e1⟩; first | (simp_all [cT,du]; done) | (simp_all [cT,du] <;> simp [xB] <;> omega))
def T1 (h:Hp) (op a b n form:Int):HC Xaz 138 #[dE op a b n form,vI 2] h fun w h'=>w=.bool (nR 2 n form)/\Ext h h':=by
 refine bd (args:=[dE op a b n form,vI 2]) mixed Tryz.func138 ax (uP op a b n form) ?_;unfold qX;refine br ?_;intro d c e1 z1
 try simp only [aE]
 repeat' (first
  | (refine bI c (_,()) rfl ?_; refine ao ?_)
  | (refine aP (cP _ _ _) ?_)
  | (refine aP (cz _ _ _) ?_)
  | (refine aw (fun q=>?_) (fun q=>?_)))
 all_goals (refine ⟨?_,e1⟩; first | (simp_all [nR,du]; done) | (simp_all [nR,du] <;> omega))
def P1 (h:Hp) (op a b n form:Int):HC Xaz 137 #[dE op a b n form,vI 3] h fun w h'=>w=.bool (cT 3 a b n)/\Ext h h':=by
 refine bd (args:=[dE op a b n form,vI 3]) mixed Tryz.func137 ax (rK op a b n form) ?_;unfold mu aZ bz;refine br ?_;intro d c e1 z1
 try simp only [aE]
 repeat' (first
  | (refine bI c (_,()) rfl ?_; refine ao ?_)
  | (refine aP (cP _ _ _) ?_)
  | (refine aP (cz _ _ _) ?_)
  | (refine aw (fun q=>?_) (fun q=>?_)))
 all_goals (refine ⟨?_,e1⟩; first | (simp_all [cT,du]; done) | (simp_all [cT,du] <;> simp [xB] <;> omega))
def R5 (h:Hp) (op a b n form:Int):HC Xaz 138 #[dE op a b n form,vI 3] h fun w h'=>w=.bool (nR 3 n form)/\Ext h h':=by
 refine bd (args:=[dE op a b n form,vI 3]) mixed Tryz.func138 ax (uL op a b n form) ?_;unfold rb;refine br ?_;intro d c e1 z1
 try simp only [aE]
 repeat' (first
  | (refine bI c (_,()) rfl ?_; refine ao ?_)
  | (refine aP (cP _ _ _) ?_)
  | (refine aP (cz _ _ _) ?_)
  | (refine aw (fun q=>?_) (fun q=>?_)))
 all_goals (refine ⟨?_,e1⟩; first | (simp_all [nR,du]; done) | (simp_all [nR,du] <;> omega))
def Rl (h:Hp) (op a b n form:Int):HC Xaz 137 #[dE op a b n form,vI 4] h fun w h'=>w=.bool (cT 4 a b n)/\Ext h h':=by
 refine bd (args:=[dE op a b n form,vI 4]) mixed Tryz.func137 ax (rm op a b n form) ?_;unfold lX aZ bz;refine br ?_;intro d c e1 z1
 try simp only [aE]
 repeat' (first
  | (refine bI c (_,()) rfl ?_; refine ao ?_)
  | (refine aP (cP _ _ _) ?_)
  | (refine aP (cz _ _ _) ?_)
  | (refine aw (fun q=>?_) (fun q=>?_)))
 all_goals (refine ⟨?_,e1⟩; first | (simp_all [cT,du]; done) | (simp_all [cT,du] <;> simp [xB] <;> omega))
def Tm (h:Hp) (op a b n form:Int):HC Xaz 138 #[dE op a b n form,vI 4] h fun w h'=>w=.bool (nR 4 n form)/\Ext h h':=by
 refine bd (args:=[dE op a b n form,vI 4]) mixed Tryz.func138 ax (uS op a b n form) ?_;unfold qZ;refine br ?_;intro d c e1 z1
 try simp only [aE]
 repeat' (first
  | (refine bI c (_,()) rfl ?_; refine ao ?_)
  | (refine aP (cP _ _ _) ?_)
  | (refine aP (cz _ _ _) ?_)
  | (refine aw (fun q=>?_) (fun q=>?_)))
 all_goals (refine ⟨?_,e1⟩; first | (simp_all [nR,du]; done) | (simp_all [nR,du] <;> omega))
def PU (h:Hp) (op a b n form:Int):HC Xaz 137 #[dE op a b n form,vI 5] h fun w h'=>w=.bool (cT 5 a b n)/\Ext h h':=by
 refine bd (args:=[dE op a b n form,vI 5]) mixed Tryz.func137 ax (rI op a b n form) ?_;unfold mM aZ bz;refine br ?_;intro d c e1 z1
 try simp only [aE]
 repeat' (first
  | (refine bI c (_,()) rfl ?_; refine ao ?_)
  | (refine aP (cP _ _ _) ?_)
  | (refine aP (cz _ _ _) ?_)
  | (refine aw (fun q=>?_) (fun q=>?_)))
 all_goals (refine ⟨?_,e1⟩; first | (simp_all [cT,du]; done) | (simp_all [cT,du] <;> simp [xB] <;> omega))
def SG (h:Hp) (op a b n form:Int):HC Xaz 138 #[dE op a b n form,vI 5] h fun w h'=>w=.bool (nR 5 n form)/\Ext h h':=by
 refine bd (args:=[dE op a b n form,vI 5]) mixed Tryz.func138 ax (uH op a b n form) ?_;unfold qV;refine br ?_;intro d c e1 z1
 try simp only [aE]
 repeat' (first
  | (refine bI c (_,()) rfl ?_; refine ao ?_)
  | (refine aP (cP _ _ _) ?_)
  | (refine aP (cz _ _ _) ?_)
  | (refine aw (fun q=>?_) (fun q=>?_)))
 all_goals (refine ⟨?_,e1⟩; first | (simp_all [nR,du]; done) | (simp_all [nR,du] <;> omega))
def PG (h:Hp) (op a b n form:Int):HC Xaz 137 #[dE op a b n form,vI 6] h fun w h'=>w=.bool (cT 6 a b n)/\Ext h h':=by
 refine bd (args:=[dE op a b n form,vI 6]) mixed Tryz.func137 ax (rq op a b n form) ?_;unfold mj aZ bz;refine br ?_;intro d c e1 z1
 try simp only [aE]
 repeat' (first
  | (refine bI c (_,()) rfl ?_; refine ao ?_)
  | (refine aP (cP _ _ _) ?_)
  | (refine aP (cz _ _ _) ?_)
  | (refine aw (fun q=>?_) (fun q=>?_)))
 all_goals (refine ⟨?_,e1⟩; first | (simp_all [cT,du]; done) | (simp_all [cT,du] <;> simp [xB] <;> omega))
def Tg (h:Hp) (op a b n form:Int):HC Xaz 138 #[dE op a b n form,vI 6] h fun w h'=>w=.bool (nR 6 n form)/\Ext h h':=by
 refine bd (args:=[dE op a b n form,vI 6]) mixed Tryz.func138 ax (vz op a b n form) ?_;unfold rc;refine br ?_;intro d c e1 z1
 try simp only [aE]
 repeat' (first
  | (refine bI c (_,()) rfl ?_; refine ao ?_)
  | (refine aP (cP _ _ _) ?_)
  | (refine aP (cz _ _ _) ?_)
  | (refine aw (fun q=>?_) (fun q=>?_)))
 all_goals (refine ⟨?_,e1⟩; first | (simp_all [nR,du]; done) | (simp_all [nR,du] <;> omega))
def Ow (h:Hp) (op a b n form:Int):HC Xaz 137 #[dE op a b n form,vI 7] h fun w h'=>w=.bool (cT 7 a b n)/\Ext h h':=by
 refine bd (args:=[dE op a b n form,vI 7]) mixed Tryz.func137 ax (rH op a b n form) ?_;unfold lV aZ bz;refine br ?_;intro d c e1 z1
 try simp only [aE]
 repeat' (first
  | (refine bI c (_,()) rfl ?_; refine ao ?_)
  | (refine aP (cP _ _ _) ?_)
  | (refine aP (cz _ _ _) ?_)
  | (refine aw (fun q=>?_) (fun q=>?_)))
 all_goals (refine ⟨?_,e1⟩; first | (simp_all [cT,du]; done) | (simp_all [cT,du] <;> simp [xB] <;> omega))
def Uv (h:Hp) (op a b n form:Int):HC Xaz 138 #[dE op a b n form,vI 7] h fun w h'=>w=.bool (nR 7 n form)/\Ext h h':=by
 refine bd (args:=[dE op a b n form,vI 7]) mixed Tryz.func138 ax (vB op a b n form) ?_;unfold rk;refine br ?_;intro d c e1 z1
 try simp only [aE]
 repeat' (first
  | (refine bI c (_,()) rfl ?_; refine ao ?_)
  | (refine aP (cP _ _ _) ?_)
  | (refine aP (cz _ _ _) ?_)
  | (refine aw (fun q=>?_) (fun q=>?_)))
 all_goals (refine ⟨?_,e1⟩; first | (simp_all [nR,du]; done) | (simp_all [nR,du] <;> omega))
def Pj (h:Hp) (op a b n form:Int):HC Xaz 137 #[dE op a b n form,vI 8] h fun w h'=>w=.bool (cT 8 a b n)/\Ext h h':=by
 refine bd (args:=[dE op a b n form,vI 8]) mixed Tryz.func137 ax (rL op a b n form) ?_;unfold me aZ bz;refine br ?_;intro d c e1 z1
 try simp only [aE]
 repeat' (first
  | (refine bI c (_,()) rfl ?_; refine ao ?_)
  | (refine aP (cP _ _ _) ?_)
  | (refine aP (cz _ _ _) ?_)
  | (refine aw (fun q=>?_) (fun q=>?_)))
 all_goals (refine ⟨?_,e1⟩; first | (simp_all [cT,du]; done) | (simp_all [cT,du] <;> simp [xB] <;> omega))
def Uf (h:Hp) (op a b n form:Int):HC Xaz 138 #[dE op a b n form,vI 8] h fun w h'=>w=.bool (nR 8 n form)/\Ext h h':=by
 refine bd (args:=[dE op a b n form,vI 8]) mixed Tryz.func138 ax (vf op a b n form) ?_;unfold rf aZ;refine br ?_;intro d c e1 z1
 try simp only [aE]
 repeat' (first
  | (refine bI c (_,()) rfl ?_; refine ao ?_)
  | (refine aP (cP _ _ _) ?_)
  | (refine aP (cz _ _ _) ?_)
  | (refine aw (fun q=>?_) (fun q=>?_)))
 all_goals (refine ⟨?_,e1⟩; first | (simp_all [nR,du]; done) | (simp_all [nR,du] <;> omega))
def Rv (h:Hp) (op a b n form:Int):HC Xaz 137 #[dE op a b n form,vI 9] h fun w h'=>w=.bool (cT 9 a b n)/\Ext h h':=by
 refine bd (args:=[dE op a b n form,vI 9]) mixed Tryz.func137 ax (rp op a b n form) ?_;unfold mz bz;refine br ?_;intro d c e1 z1
 try simp only [aE]
 repeat' (first
  | (refine bI c (_,()) rfl ?_; refine ao ?_)
  | (refine aP (cP _ _ _) ?_)
  | (refine aP (cz _ _ _) ?_)
  | (refine aw (fun q=>?_) (fun q=>?_)))
 all_goals (refine ⟨?_,e1⟩; first | (simp_all [cT,du]; done) | (simp_all [cT,du] <;> simp [xB] <;> omega))
def S4 (h:Hp) (op a b n form:Int):HC Xaz 138 #[dE op a b n form,vI 9] h fun w h'=>w=.bool (nR 9 n form)/\Ext h h':=by
 refine bd (args:=[dE op a b n form,vI 9]) mixed Tryz.func138 ax (uM op a b n form) ?_;unfold qU bz;refine br ?_;intro d c e1 z1
 try simp only [aE]
 repeat' (first
  | (refine bI c (_,()) rfl ?_; refine ao ?_)
  | (refine aP (cP _ _ _) ?_)
  | (refine aP (cz _ _ _) ?_)
  | (refine aw (fun q=>?_) (fun q=>?_)))
 all_goals (refine ⟨?_,e1⟩; first | (simp_all [nR,du]; done) | (simp_all [nR,du] <;> omega))
def M1 (h:Hp) (op a b n form:Int):HC Xaz 137 #[dE op a b n form,vI 10] h fun w h'=>w=.bool (cT 10 a b n)/\Ext h h':=by
 refine bd (args:=[dE op a b n form,vI 10]) mixed Tryz.func137 ax (qD op a b n form) ?_;unfold kX aZ bz;refine br ?_;intro d c e1 z1
 try simp only [aE]
 repeat' (first
  | (refine bI c (_,()) rfl ?_; refine ao ?_)
  | (refine aP (cP _ _ _) ?_)
  | (refine aP (cz _ _ _) ?_)
  | (refine aw (fun q=>?_) (fun q=>?_)))
 all_goals (refine ⟨?_,e1⟩; first | (simp_all [cT,du]; done) | (simp_all [cT,du] <;> simp [xB] <;> omega))
def PX (h:Hp) (op a b n form:Int):HC Xaz 138 #[dE op a b n form,vI 10] h fun w h'=>w=.bool (nR 10 n form)/\Ext h h':=by
 refine bd (args:=[dE op a b n form,vI 10]) mixed Tryz.func138 ax (ua op a b n form) ?_;unfold ph;refine br ?_;intro d c e1 z1
 try simp only [aE]
 repeat' (first
  | (refine bI c (_,()) rfl ?_; refine ao ?_)
  | (refine aP (cP _ _ _) ?_)
  | (refine aP (cz _ _ _) ?_)
  | (refine aw (fun q=>?_) (fun q=>?_)))
 all_goals (refine ⟨?_,e1⟩; first | (simp_all [nR,du]; done) | (simp_all [nR,du] <;> omega))
def LJ (h:Hp) (op a b n form:Int):HC Xaz 137 #[dE op a b n form,vI 11] h fun w h'=>w=.bool (cT 11 a b n)/\Ext h h':=by
 refine bd (args:=[dE op a b n form,vI 11]) mixed Tryz.func137 ax (qd op a b n form) ?_;unfold ld aZ bz;refine br ?_;intro d c e1 z1
 try simp only [aE]
 repeat' (first
  | (refine bI c (_,()) rfl ?_; refine ao ?_)
  | (refine aP (cP _ _ _) ?_)
  | (refine aP (cz _ _ _) ?_)
  | (refine aw (fun q=>?_) (fun q=>?_)))
 all_goals (refine ⟨?_,e1⟩; first | (simp_all [cT,du]; done) | (simp_all [cT,du] <;> simp [xB] <;> omega))
def ND (h:Hp) (op a b n form:Int):HC Xaz 138 #[dE op a b n form,vI 11] h fun w h'=>w=.bool (nR 11 n form)/\Ext h h':=by
 refine bd (args:=[dE op a b n form,vI 11]) mixed Tryz.func138 ax (tW op a b n form) ?_;unfold py bz;refine br ?_;intro d c e1 z1
 try simp only [aE]
 repeat' (first
  | (refine bI c (_,()) rfl ?_; refine ao ?_)
  | (refine aP (cP _ _ _) ?_)
  | (refine aP (cz _ _ _) ?_)
  | (refine aw (fun q=>?_) (fun q=>?_)))
 all_goals (refine ⟨?_,e1⟩; first | (simp_all [nR,du]; done) | (simp_all [nR,du] <;> omega))
def Mf (h:Hp) (op a b n form:Int):HC Xaz 137 #[dE op a b n form,vI 12] h fun w h'=>w=.bool (cT 12 a b n)/\Ext h h':=by
 refine bd (args:=[dE op a b n form,vI 12]) mixed Tryz.func137 ax (pQ op a b n form) ?_;unfold la bz;refine br ?_;intro d c e1 z1
 try simp only [aE]
 repeat' (first
  | (refine bI c (_,()) rfl ?_; refine ao ?_)
  | (refine aP (cP _ _ _) ?_)
  | (refine aP (cz _ _ _) ?_)
  | (refine aw (fun q=>?_) (fun q=>?_)))
 all_goals (refine ⟨?_,e1⟩; first | (simp_all [cT,du]; done) | (simp_all [cT,du] <;> simp [xB] <;> omega))
def Rq (h:Hp) (op a b n form:Int):HC Xaz 138 #[dE op a b n form,vI 12] h fun w h'=>w=.bool (nR 12 n form)/\Ext h h':=by
 refine bd (args:=[dE op a b n form,vI 12]) mixed Tryz.func138 ax (tT op a b n form) ?_;unfold oU aZ;refine br ?_;intro d c e1 z1
 try simp only [aE]
 repeat' (first
  | (refine bI c (_,()) rfl ?_; refine ao ?_)
  | (refine aP (cP _ _ _) ?_)
  | (refine aP (cz _ _ _) ?_)
  | (refine aw (fun q=>?_) (fun q=>?_)))
 all_goals (refine ⟨?_,e1⟩; first | (simp_all [nR,du]; done) | (simp_all [nR,du] <;> omega))
def Mg (h:Hp) (op a b n form:Int):HC Xaz 137 #[dE op a b n form,vI 13] h fun w h'=>w=.bool (cT 13 a b n)/\Ext h h':=by
 refine bd (args:=[dE op a b n form,vI 13]) mixed Tryz.func137 ax (qk op a b n form) ?_;unfold lC aZ bz;refine br ?_;intro d c e1 z1
 try simp only [aE]
 repeat' (first
  | (refine bI c (_,()) rfl ?_; refine ao ?_)
  | (refine aP (cP _ _ _) ?_)
  | (refine aP (cz _ _ _) ?_)
  | (refine aw (fun q=>?_) (fun q=>?_)))
 all_goals (refine ⟨?_,e1⟩; first | (simp_all [cT,du]; done) | (simp_all [cT,du] <;> simp [xB] <;> omega))
def P7 (h:Hp) (op a b n form:Int):HC Xaz 138 #[dE op a b n form,vI 13] h fun w h'=>w=.bool (nR 13 n form)/\Ext h h':=by
 refine bd (args:=[dE op a b n form,vI 13]) mixed Tryz.func138 ax (tU op a b n form) ?_;unfold oC aZ;refine br ?_;intro d c e1 z1
 try simp only [aE]
 repeat' (first
  | (refine bI c (_,()) rfl ?_; refine ao ?_)
  | (refine aP (cP _ _ _) ?_)
  | (refine aP (cz _ _ _) ?_)
  | (refine aw (fun q=>?_) (fun q=>?_)))
 all_goals (refine ⟨?_,e1⟩; first | (simp_all [nR,du]; done) | (simp_all [nR,du] <;> omega))
def FA (h:Hp) (op a b n form:Int) {s:Nat} (h1:1<=s) (h2:s<=13):HC Xaz 137 #[dE op a b n form,vI s] h fun w h'=>w=.bool (cT s a b n)/\Ext h h':=by
 have c:s=1\/s=2\/s=3\/s=4\/s=5\/s=6\/s=7\/s=8\/s=9\/s=10\/s=11\/s=12\/s=13:=ad
 clear h1 h2;rcases c with rfl | rfl | rfl | rfl | rfl | rfl | rfl | rfl | rfl | rfl | rfl | rfl | rfl
 ·exact QA h op a b n form
 ·exact QD h op a b n form
 ·exact P1 h op a b n form
 ·exact Rl h op a b n form
 ·exact PU h op a b n form
 ·exact PG h op a b n form
 ·exact Ow h op a b n form
 ·exact Pj h op a b n form
 ·exact Rv h op a b n form
 ·exact M1 h op a b n form
 ·exact LJ h op a b n form
 ·exact Mf h op a b n form
 ·exact Mg h op a b n form
def Dx (h:Hp) (op a b n form:Int) {s:Nat} (h1:1<=s) (h2:s<=13):HC Xaz 138 #[dE op a b n form,vI s] h fun w h'=>w=.bool (nR s n form)/\Ext h h':=by
 have c:s=1\/s=2\/s=3\/s=4\/s=5\/s=6\/s=7\/s=8\/s=9\/s=10\/s=11\/s=12\/s=13:=ad
 clear h1 h2;rcases c with rfl | rfl | rfl | rfl | rfl | rfl | rfl | rfl | rfl | rfl | rfl | rfl | rfl
 ·exact TZ h op a b n form
 ·exact T1 h op a b n form
 ·exact R5 h op a b n form
 ·exact Tm h op a b n form
 ·exact SG h op a b n form
 ·exact Tg h op a b n form
 ·exact Uv h op a b n form
 ·exact Uf h op a b n form
 ·exact S4 h op a b n form
 ·exact PX h op a b n form
 ·exact ND h op a b n form
 ·exact Rq h op a b n form
 ·exact P7 h op a b n form
def Sm (n:Int):Prop:=-9223372036854775808<=n/\n<=9223372036854775807
def GZ {h:Hp} (t:yO h) (op a b n form:Int) (d:Sm op) :
  HC Xaz 111 #[dE op a b n form] h fun w h'=>w=vI (ir ⟨op,a,b,n,form⟩)/\Ext h h':=by
 refine bd (args:=[dE op a b n form]) mixed Tryz.func111 ax (Bq op a b n form) ?_;unfold zu aZ bP cm cn;refine br ?_;intro u b1 e1 z1;refine az b1 (op,()) (ao ?_);refine aK (KY (t.an e1 aj) op d.1 d.2) ?_;rintro _ l ⟨s,y,rfl,e2⟩;refine ⟨(s,y,((dy op:Nat):Int),decide (dy op≠0),()),rfl,ao ?_⟩;refine br ?_;intro x m g z3;refine bR m ?_;intro i b4 j z4;have b4:bC i l.size 171 [.string s,.int .u8 y,vI (dy op:Nat)]:=b4;have e4:=((e1.trans e2).trans g).st j (by have:=e1.size; have:=e2.size; omega);have b1:=b1.an ((e2.trans g).st j (by have:=e2.size; omega)) aj;unfold ir;simp only [aE];refine aw ?_ ?_<;>intro q
 ·have q:dy op=0:=by simpa using q
  exact ⟨by rw [ag9 q],e4⟩
 have q:¬ dy op=0:=by simpa using q
 rw [ac9 q];refine az b1 (op,a,b,n,form,()) (ao ?_);refine az b4 (((dy op:Nat):Int),()) (ao ?_);have hs:=iP op;refine aK (FA i op a b n form (s:=dy op) ad ad) ?_;rintro _ z ⟨rfl,e⟩;refine ⟨(cT (dy op) a b n,()),rfl,ao ?_⟩;have e45:=e4.trans e;refine aw ?_ ?_<;>intro q
 ·have q:cT (dy op) a b n=false:=by simpa using q
  exact ⟨by rw [ag9 q],e45⟩
 have q:cT (dy op) a b n=true:=by simpa using q
 rw [ac9 (by rw [q]; simp)];have b1:=b1.an e aj;have b4:=b4.an e aj;refine az b1 (op,()) (ao ?_);refine aK (G4 (t.an e45 aj) op d.1 d.2) ?_;rintro _ k ⟨rfl,f⟩;refine ⟨(tR op,()),rfl,ao ?_⟩;have e46:=e45.trans f;have b1:=b1.an f aj;have b4:=b4.an f aj;refine aw ?_ ?_<;>intro q
 ·have q:tR op=false:=by simpa using q
  refine az b1 (form,()) (ao ?_);refine aw ?_ ?_<;>intro r
  ·have r:¬ form=0:=by simpa using r
   exact ⟨by rw [q]; simp [r],e46⟩
  have r:form=0:=by simpa using r
  refine az b1 (op,a,b,n,form,()) (ao ?_);refine az b4 (((dy op:Nat):Int),()) (ao ?_);refine aK (Dx k op a b n form (s:=dy op) ad ad) ?_;rintro _ o ⟨rfl,c⟩;refine ⟨(nR (dy op) n form,()),rfl,ao ?_⟩;refine aw ?_ ?_<;>intro p
  ·exact ⟨by rw [q]; simp_all,e46.trans c⟩
  ·exact ⟨by rw [q]; simp_all,e46.trans c⟩
 ·have q:tR op=true:=by simpa using q
  refine az b1 (op,a,b,n,form,()) (ao ?_);refine az b4 (((dy op:Nat):Int),()) (ao ?_);refine aK (Dx k op a b n form (s:=dy op) ad ad) ?_;rintro _ o ⟨rfl,c⟩;refine ⟨(nR (dy op) n form,()),rfl,ao ?_⟩;refine aw ?_ ?_<;>intro p
  ·exact ⟨by rw [q]; simp_all,e46.trans c⟩
  ·exact ⟨by rw [q]; simp_all,e46.trans c⟩
def encI (p:Xac) (l c:Nat) (x:cC):List Xab:=[vI x.kind,.string x.name,vI x.inst.op,vI x.inst.a,vI x.inst.b,.int .i32 x.inst.n,vI x.inst.form,.slice p l c,.int .u32 x.e.num,vI x.n]
def wV (p:Xac) (l c:Nat) (x:cC):Xab:=.agg (encI p l c x).toArray
structure rh (h:Hp) (p:Xac) (l:Nat) (x:bM):Prop where
 vw:iD h p l x.ah
 many:x.ah.length<=2^60
 names:∀ t,t∈x.ah->t.1.size<=maxLen
def rh.an {h:Hp} {p:Xac} {l:Nat} {x:bM} (v:rh h p l x) (k:Ext h h'):rh h' p l x:=⟨v.vw.an k aj,v.many,v.names⟩
def iD.none (h:Hp):iD h none 0 []:=⟨rfl,fun i hi=>absurd hi aj⟩
def sN (x:bM):gS x GX=RW x:=by
 unfold gS RW GX;rw [Bool.and_comm]
def Km (g k:Nat):T :=
 T.af ⟨g,5,none⟩ [.int .i32] <| fun (a:Int) =>
 cond (a==(0:Int))
  (T.af ⟨k,0,none⟩ [.int .i64,.int .i64,.int .i64,.int .i32,.int .i64] <| fun (b c d e f:Int) =>
  bP 111 [.agg #[vI b,vI c,vI d,.int .i32 e,vI f]] false [aQ] <| fun (h:Int) =>
  cond (h==(0:Int))
  (T.af ⟨g,7,none⟩ [.slice 64,.int .u32] <| fun (i:Xac) (j l:Nat) (m:Int) =>
  bP 56 [.agg #[.slice i j l,aF m]] false [cn] <| fun (n:Bool) =>
  T.ret (.bool n))
  bz)
  bz
def N8 (g k:Nat):T :=
 T.af ⟨k,0,none⟩ [.int .i64,.int .i64,.int .i64,.int .i32,.int .i64] <| fun (a b c d e:Int) =>
 bP 111 [.agg #[vI a,vI b,vI c,.int .i32 d,vI e]] false [aQ] <| fun (f:Int) =>
 cond (f==(0:Int))
  (T.af ⟨g,7,none⟩ [.slice 64,.int .u32] <| fun (h:Xac) (i j:Nat) (l:Int) =>
  bP 82 [.agg #[.slice h i j,aF l],.agg #[bg,aF (0:Int)]] false [cn] <| fun (m:Bool) =>
  T.ret (.bool m))
  bz
def px (i:Ins):List Xab:=[vI i.op,vI i.a,vI i.b,.int .i32 i.n,vI i.form]
variable {H:cC} {O:Xac} {U:Ins}
def GR {L:Lp} {h0 h:Hp} (t:yO h) {l c g k:Nat} (d:bC h g e1 (encI O l c H)) (f:bC h k e2 (px U)) (v:rh h O l H.e) (j:Sm U.op) (e:Ext h0 h) :
  Km g k L (fun w h'=>w=.bool (decide (H.inst.n=0) && decide (ir U=0) && ox none H.e.ah)/\Ext h0 h') h:=by
 unfold Km bP aF bz aQ cn;refine az d (H.inst.n,()) (ao ?_);refine aw ?_ ?_<;>intro q
 ·have q:H.inst.n=0:=by simpa using q
  refine az f (U.op,U.a,U.b,U.n,U.form,()) (ao ?_);refine aK (GZ t U.op U.a U.b U.n U.form j) ?_;rintro _ o ⟨rfl,e2⟩;refine ⟨(ir U,()),rfl,ao ?_⟩;refine aw ?_ ?_<;>intro r
  ·have r:ir U=0:=by simpa using r
   refine az (d.an e2 aj) ((O,l,c),(H.e.num:Int),()) (ao ?_);refine aK (uY (c:=c) (v.an e2).vw (by have:=v.many; omega) v.names) ?_;rintro _ s ⟨rfl,m⟩;refine ⟨(ox none H.e.ah,()),rfl,?_⟩;exact ⟨by rw [aj9 q,aj9 r]; rfl,(e.trans e2).trans m⟩
  ·have r:¬ ir U=0:=by simpa using r
   exact ⟨by rw [ak9 r,fb9]; rfl,e.trans e2⟩
 ·have q:¬ H.inst.n=0:=by simpa using q
  exact ⟨by rw [ak9 q]; rfl,e⟩
def N9 {L:Lp} {h0 h:Hp} (t:yO h) {l c g k:Nat} (f:bC h g e1 (encI O l c H)) (j:bC h k e2 (px U)) (v:rh h O l H.e) (m:Sm U.op) (e:Ext h0 h) :
  N8 g k L (fun w h'=>w=.bool (decide (ir U=0) && RW H.e)/\Ext h0 h') h:=by
 unfold N8 bP aF bz bg aQ cn;refine az j (U.op,U.a,U.b,U.n,U.form,()) (ao ?_);refine aK (GZ t U.op U.a U.b U.n U.form m) ?_;rintro _ o ⟨rfl,e2⟩;refine ⟨(ir U,()),rfl,ao ?_⟩;refine aw ?_ ?_<;>intro r
 ·have r:ir U=0:=by simpa using r
  refine az (f.an e2 aj) ((O,l,c),(H.e.num:Int),()) (ao ?_);refine aK (CR (c:=c) (d:=0) (y:=GX) (v.an e2).vw (iD.none o) v.many) ?_;rintro _ s ⟨rfl,q⟩;refine ⟨(gS H.e GX,()),rfl,?_⟩;exact ⟨by rw [aj9 r,sN]; rfl,(e.trans e2).trans q⟩
 ·have r:¬ ir U=0:=by simpa using r
  exact ⟨by rw [ak9 r]; rfl,e.trans e2⟩
def instruction_hc {h:Hp} (t:yO h) {l c:Nat} (v:rh h O l H.e) (m:Sm H.inst.op) :
  HC Xaz 80 #[wV O l c H] h fun w h'=>w=.bool (AI H.inst H.e)/\Ext h h':=by
 refine bd (args:=[wV O l c H]) mixed Tryz.func80 ax (rA H.kind H.name H.inst.op H.inst.a H.inst.b H.inst.n H.inst.form O l c H.e.num H.n) ?_;unfold mS aZ cQ bP aF bz bg cm cn;refine br ?_;intro I b1 e1 z1;have b1:bC I h.size 55 (encI O l c H):=b1;simp only [aE];refine az b1 (H.inst.op,()) (ao ?_);refine aK (KY (t.an e1 aj) H.inst.op m.1 m.2) ?_;rintro _ J ⟨s,y,rfl,e2⟩;refine ⟨(s,y,((dy H.inst.op:Nat):Int),decide (dy H.inst.op≠0),()),rfl,ao ?_⟩;refine br ?_;intro W K M z3;refine bR K ?_;intro g b4 N z4;have b4:bC g J.size 171 [.string s,.int .u8 y,vI (dy H.inst.op:Nat)]:=b4;have s1:=e1.size;have s2:=e2.size;have e14:=(e2.trans M).st N ad;have e4:=e1.trans e14;have b1:=b1.an e14 aj;unfold AI;refine aw ?_ ?_<;>intro q
 ·have q:dy H.inst.op=0:=by simpa using q
  exact ⟨by rw [q]; rfl,e4⟩
 have q:dy H.inst.op≠0:=by simpa using q
 rw [aj9 q,bl9];refine az b1 (H.inst.form,()) (ao ?_);refine aw ?_ ?_<;>intro r
 ·have r:¬ H.inst.form=0:=by simpa using r
  exact ⟨by rw [ak9 r]; rfl,e4⟩
 have r:H.inst.form=0:=by simpa using r
 rw [aj9 r,bl9];refine az b1 (H.inst.op,H.inst.a,H.inst.b,H.inst.n,H.inst.form,()) (ao ?_);refine br ?_;intro X P Q Y;refine bR P ?_;intro g6 o R Z;have o:bC g6 g.size 49 (px H.inst):=o;have e46:=Q.st R ad;have e6:=e4.trans e46;have b1:=b1.an e46 aj;have b4:=b4.an e46 aj;simp only [aE];have hs:=iP H.inst.op;refine az b4 (((dy H.inst.op:Nat):Int),()) (ao ?_);generalize i:(if HV H.inst.op=true then decide (H.inst.n=0) && decide (ir { H.inst with form:=if tR H.inst.op=true then 1 else 0 }=0) && ox none H.e.ah else decide (ir H.inst=0) && RW H.e)=B;have S:{ H.inst with form:=0 }=H.inst:=by
  rcases U:H.inst with ⟨a1,a2,a3,a4,a5⟩
  rw [U] at r;simp only at r;rw [r]
 have E:12<=dy H.inst.op->T.aD ⟨g.size,4,none⟩ [vI 1] (Km h.size g.size) [] (fun w h'=>w=.bool B/\Ext h h') g6:=by
  intro z;refine dc o rfl (by simp [px]) ?_;intro g7 A F z7;have A:bC g7 g.size 49 (px { H.inst with form:=1 }):=A;have C:Ext g g7:=e46.st F ad;have e7:=e4.trans C;have u:HV H.inst.op=true:=aj9 ad;have D:tR H.inst.op=true:=aj9 z;rw [ag9 u,ag9 D] at i
  have:=GR (L:=[]) (h0:=h) (t.an e7 aj) (b1.an F (by simp; omega)) A (v.an e7) m e7
  rw [i] at this;exact this
 have G:dy H.inst.op=10\/dy H.inst.op=11->Km h.size g.size [] (fun w h'=>w=.bool B/\Ext h h') g6:=by
  intro z;have u:HV H.inst.op=true:=aj9 ad;have D:¬ tR H.inst.op=true:=by unfold tR; rw [ak9 ad]; simp
  rw [ag9 u,ac9 D,S] at i
  have:=GR (L:=[]) (h0:=h) (t.an e6 aj) b1 o (v.an e6) m e6
  rw [i] at this;exact this
 have V:dy H.inst.op<10->N8 h.size g.size [] (fun w h'=>w=.bool B/\Ext h h') g6:=by
  intro z;have u:¬ HV H.inst.op=true:=by unfold HV; rw [ak9 ad]; simp
  rw [ac9 u] at i
  have:=N9 (L:=[]) (h0:=h) (t.an e6 aj) b1 o (v.an e6) m e6
  rw [i] at this;exact this
 clear i;refine aw ?_ ?_<;>intro j
 ·have j:((dy H.inst.op:Nat):Int)=12:=by simpa using j
  refine aw (fun d=>E ad) (fun d=>?_);have d:¬ ((dy H.inst.op:Nat):Int)=12:=by simpa using d
  exact absurd j d
 have j:¬ ((dy H.inst.op:Nat):Int)=12:=by simpa using j
 refine aw ?_ ?_<;>intro d
 ·have d:((dy H.inst.op:Nat):Int)=13:=by simpa using d
  exact E ad
 have d:¬ ((dy H.inst.op:Nat):Int)=13:=by simpa using d
 refine aw ?_ ?_<;>intro k
 ·have k:((dy H.inst.op:Nat):Int)=10:=by simpa using k
  refine aw (fun d=>G ad) (fun f=>?_);have f:¬ ((dy H.inst.op:Nat):Int)=10:=by simpa using f
  exact absurd k f
 have k:¬ ((dy H.inst.op:Nat):Int)=10:=by simpa using k
 refine aw ?_ ?_<;>intro f
 ·have f:((dy H.inst.op:Nat):Int)=11:=by simpa using f
  exact G ad
 have f:¬ ((dy H.inst.op:Nat):Int)=11:=by simpa using f
 exact V ad
structure iV (h:Hp) (p:Xac) (l:Nat) (x:cC):Prop where
 lin:rh h p l x.e
 name:x.name.size<=maxLen
 op:Sm x.inst.op
def iV.an {h:Hp} {p:Xac} {l:Nat} {x:cC} (v:iV h p l x) (k:Ext h h'):iV h' p l x:=⟨v.lin.an k,v.name,v.op⟩
def lA (x y:cC):Bool:=decide (x.name=y.name) && decide (x.inst=y.inst) && decide (x.n=y.n) && gS x.e y.e
def Va:Tryz.prog.underlying 49=some (.struct (vU Xaz 49)):=ax
def Wb (x y:Operand) (i j:Ins) (h:Hp) (K:Xab->Hp->Prop) (hk:K (.bool !(decide (i=j))) h) :
  aS Xaz (Sx.lW (BinOp.neq) 49 x y (.agg (px i).toArray) (.agg (px j).toArray)) h K:=by
 refine AB Va ax ax ax K ?_;have c:(vU Xaz 49).all (HZ (px i).toArray (px j).toArray)=(i.op==j.op && (i.a==j.a && (i.b==j.b && (i.n==j.n && (i.form==j.form && true))))):=by
  rw [<- dd9]
  kernel_rfl
 rw [c,cz9]
 have:(i.op==j.op && (i.a==j.a && (i.b==j.b && (i.n==j.n && i.form==j.form))))=decide (i=j):=by
  rcases i with ⟨d,e,f,g,k⟩
  rcases j with ⟨l,m,c3,o,c5⟩
  simp only [du,Ins.mk.injEq]
  by_cases h1:d=l <;> by_cases h2:e=m <;> by_cases p:f=c3 <;> by_cases q:g=o <;> by_cases r:k=c5 <;> simp [h1,h2,p,q,r]
 rw [this];exact hk
def rtT (g k:Nat):T :=
 T.af ⟨g,1,none⟩ [.string] <| fun (z:Xaa) =>
 T.af ⟨k,1,none⟩ [.string] <| fun (A:Xaa) =>
 cond (!((ByteArray.toList z)==(ByteArray.toList A)))
  (T.ret (vI (31:Int)))
  (T.af ⟨g,2,none⟩ [.int .i64,.int .i64,.int .i64,.int .i32,.int .i64] <| fun (a b c d e:Int) =>
  T.af ⟨k,2,none⟩ [.int .i64,.int .i64,.int .i64,.int .i32,.int .i64] <| fun (f h i j l:Int) =>
  bQ (Sx.lW (BinOp.neq) 49 (Operand.tmp 109) (Operand.tmp 111) (.agg #[vI a,vI b,vI c,.int .i32 d,vI e]) (.agg #[vI f,vI h,vI i,.int .i32 j,vI l])) false [cn] <| fun (m:Bool) =>
  cond m
  (T.ret (vI (31:Int)))
  (T.af ⟨g,9,none⟩ [.int .i64] <| fun (n:Int) =>
  T.af ⟨k,9,none⟩ [.int .i64] <| fun (o:Int) =>
  cond (n != o)
   (T.ret (vI (31:Int)))
   (T.af ⟨g,7,none⟩ [.slice 64,.int .u32] <| fun (p:Xac) (q r:Nat) (s:Int) =>
   T.af ⟨k,7,none⟩ [.slice 64,.int .u32] <| fun (t:Xac) (u w:Nat) (x:Int) =>
   bP 82 [.agg #[.slice p q r,aF s],.agg #[.slice t u w,aF x]] false [cn] <| fun (y:Bool) =>
   cond (!y)
   (T.ret (vI (31:Int)))
   (T.ret (vI (0:Int))))))
def Fh (b:Bool):Xab:=vI (if b then 0 else 31)
def qe {L:Lp} {h0 h:Hp} {y:cC} {q:Xac} {l c m d g k:Nat} (f:bC h g e1 (encI O l c H)) (i:bC h k e2 (encI q m d y)) (v:rh h O l H.e) (w:iD h q m y.e.ah) (e:Ext h0 h) :
  rtT g k L (fun w h'=>w=Fh (lA H y)/\Ext h0 h') h:=by
 unfold rtT lA bP bQ aF cn;refine az f (H.name,()) (ao ?_);refine az i (y.name,()) (ao ?_);rw [ByteArray.toList_eq,ByteArray.toList_eq];refine aw ?_ ?_<;>intro r
 ·have r:¬ H.name=y.name:=fun o=>by rw [o] at r; simp at r
  exact ⟨by rw [ak9 r]; rfl,e⟩
 have r:H.name=y.name:=AG (by simpa using r);rw [aj9 r,bl9];refine az f (H.inst.op,H.inst.a,H.inst.b,H.inst.n,H.inst.form,()) (ao ?_);refine az i (y.inst.op,y.inst.a,y.inst.b,y.inst.n,y.inst.form,()) (ao ?_);refine wO (fun s t=>Wb _ _ H.inst y.inst h s t) ?_;refine aw ?_ ?_<;>intro r
 ·have r:¬ H.inst=y.inst:=by simpa using r
  exact ⟨by rw [ak9 r]; rfl,e⟩
 have r:H.inst=y.inst:=by simpa using r
 rw [aj9 r,bl9];refine az f (H.n,()) (ao ?_);refine az i (y.n,()) (ao ?_);refine aw ?_ ?_<;>intro r
 ·have r:¬ H.n=y.n:=by simpa using r
  exact ⟨by rw [ak9 r]; rfl,e⟩
 have r:H.n=y.n:=by simpa using r
 rw [aj9 r,bl9];refine az f ((O,l,c),(H.e.num:Int),()) (ao ?_);refine az i ((q,m,d),(y.e.num:Int),()) (ao ?_);refine aK (CR (c:=c) (d:=d) v.vw w v.many) ?_;rintro _ u ⟨rfl,j⟩;refine ⟨(gS H.e y.e,()),rfl,ao ?_⟩;refine aw ?_ ?_<;>intro r
 ·have r:gS H.e y.e=false:=by simpa using r
  exact ⟨by rw [r]; rfl,e.trans j⟩
 ·have r:gS H.e y.e=true:=by simpa using r
  exact ⟨by rw [r]; rfl,e.trans j⟩
def vA (x:bM):gS x x=true:=CU x
def EO (hk:H.kind=1):cJ H sec=(cE H.name.data.toList && lA H { fD H.kind with name:=H.name }):=by
 unfold cJ lA;simp only [hk,fD,vA,sN,z1,z2,z3,z4];simp (decide:=true) only [if_true,if_false,fu9,bl9,cz9]
 try simp only [Bool.and_assoc,Bool.and_comm,Bool.and_left_comm]
def Qs (hk:H.kind=2):cJ H sec=(decide (sec=0) && AI H.inst H.e && lA H { fD H.kind with inst:=H.inst,e:=H.e }):=by
 unfold cJ lA;simp only [hk,fD,vA,sN,z1,z2,z3,z4];simp (decide:=true) only [if_true,if_false,fu9,bl9,cz9]
 try simp only [Bool.and_assoc,Bool.and_comm,Bool.and_left_comm]
def OZ (hk:H.kind=3):cJ H sec=(vG H.n && lA H { fD H.kind with n:=H.n }):=by
 unfold cJ lA;simp only [hk,fD,vA,sN,z1,z2,z3,z4];simp (decide:=true) only [if_true,if_false,fu9,bl9,cz9]
 try simp only [Bool.and_assoc,Bool.and_comm,Bool.and_left_comm]
def QC (hk:H.kind=4):cJ H sec=(decide (sec=0) && lA H (fD H.kind)):=by
 unfold cJ lA;simp only [hk,fD,vA,sN,z1,z2,z3,z4];simp (decide:=true) only [if_true,if_false,fu9,bl9,cz9]
 try simp only [Bool.and_assoc,Bool.and_comm,Bool.and_left_comm]
def Pw (hk:H.kind=5):cJ H sec=(decide (sec=1) && decide (-128<=H.n) && decide (H.n<=255) && lA H { fD H.kind with n:=H.n }):=by
 unfold cJ lA;simp only [hk,fD,vA,sN,z1,z2,z3,z4];simp (decide:=true) only [if_true,if_false,fu9,bl9,cz9]
 try simp only [Bool.and_assoc,Bool.and_comm,Bool.and_left_comm]
def Nv (hk:H.kind=6):cJ H sec=(decide (sec=1) && ox none H.e.ah && lA H { fD H.kind with e:=H.e }):=by
 unfold cJ lA;simp only [hk,fD,vA,sN,z1,z2,z3,z4];simp (decide:=true) only [if_true,if_false,fu9,bl9,cz9]
 try simp only [Bool.and_assoc,Bool.and_comm,Bool.and_left_comm]
def Qw (hk:H.kind=7):cJ H sec=(decide (sec=1) && decide (0<=H.n) && decide (H.n<=1048576) && lA H { fD H.kind with n:=H.n }):=by
 unfold cJ lA;simp only [hk,fD,vA,sN,z1,z2,z3,z4];simp (decide:=true) only [if_true,if_false,fu9,bl9,cz9]
 try simp only [Bool.and_assoc,Bool.and_comm,Bool.and_left_comm]
def JZ (h1:H.kind≠1) (h2:H.kind≠2) (a:H.kind≠3) (b:H.kind≠4) (c:H.kind≠5) (d:H.kind≠6) (e:H.kind≠7):cJ H sec=false:=by
 unfold cJ;rw [ac9 h1,ac9 h2,ac9 a,ac9 b,ac9 c,ac9 d,ac9 e]
def Q6 {h:Hp} (t:yO h) {l c:Nat} (v:iV h O l H) :
  HC Xaz 54 #[wV O l c H,vI 0] h fun w h'=>w=Fh (cJ H 0)/\Ext h h':=by
 refine bd (args:=[wV O l c H,vI 0]) mixed Tryz.func54 ax (uW H.kind H.name H.inst.op H.inst.a H.inst.b H.inst.n H.inst.form O l c H.e.num H.n) ?_;unfold qY aZ fh aF bg cm;refine br ?_;intro j b1 e1 z1;have b1:bC j h.size 55 (encI O l c H):=b1;refine az b1 (H.kind,()) (ao ?_);refine br ?_;intro I s e2 z2;refine bR s ?_;intro m i u z3;have i:bC m j.size 55 (encI none 0 0 (fD H.kind)):=i;have s1:=e1.size;have e13:=e2.st u (aq9 _);have e3:=e1.trans e13;have b1:=b1.an e13 aj;simp only [aE];refine az b1 (H.kind,()) (ao ?_);refine aw ?_ ?_<;>intro q
 ·have q:H.kind=1:=by simpa using q
  rw [EO q];refine az b1 (H.name,()) (ao ?_);refine dc i rfl (by simp [encI]) ?_;intro g d f z4;have d:bC g j.size 55 (encI none 0 0 { fD H.kind with name:=H.name }):=d;have e4:=e3.st f ad;have b1:=b1.an f (by simp; omega);refine az b1 (H.name,()) (ao ?_);refine aP (vS H.name g (by have:=v.name; have:maxLen=9223372036854775807:=rfl; omega)) ?_;refine aw ?_ ?_<;>intro r
  ·have r:cE H.name.data.toList=false:=by simpa using r
   exact ⟨by rw [r]; rfl,e4⟩
  have r:cE H.name.data.toList=true:=by simpa using r
  rw [r,bl9];have hh:=qe (L:=[]) (h0:=h) (y:={ fD H.kind with name:=H.name }) b1 d (v.lin.an e4) (iD.none g) e4;exact hh
 have z:H.kind≠1:=by simpa using q
 refine aw ?_ ?_<;>intro q
 ·have q:H.kind=2:=by simpa using q
  rw [Qs q];refine az b1 (H.inst.op,H.inst.a,H.inst.b,H.inst.n,H.inst.form,()) (ao ?_);refine az b1 ((O,l,c),(H.e.num:Int),()) (ao ?_);refine dc i rfl (by simp [encI]) ?_;intro g d f z4;have e4:=e3.st f ad;have b1:=b1.an f (by simp; omega);refine ⟨⟨b1.cells [.slice O l c,.int .u32 H.e.num] rfl,trivial⟩,?_⟩;refine dc d rfl (by simp [encI,lK]) ?_;intro A b5 o J;have b5:bC A j.size 55 (encI O l c { fD H.kind with inst:=H.inst,e:=H.e }):=b5;have e5:=e4.st o ad;have b1:=b1.an o (by simp; omega);refine az b1 (H.kind,H.name,H.inst.op,H.inst.a,H.inst.b,H.inst.n,H.inst.form,(O,l,c),(H.e.num:Int),H.n,()) (ao ?_);refine aK (instruction_hc (c:=c) (t.an e5 aj) (v.lin.an e5) v.op) ?_;rintro _ K ⟨rfl,k⟩;refine ⟨(AI H.inst H.e,()),rfl,ao ?_⟩;have e6:=e5.trans k;refine aw ?_ ?_<;>intro r
  ·have r:AI H.inst H.e=false:=by simpa using r
   exact ⟨by rw [r]; rfl,e6⟩
  have r:AI H.inst H.e=true:=by simpa using r
  rw [r];have b1:=b1.an k aj;have b5:=b5.an k aj;have hh:=qe (L:=[]) (h0:=h) (y:={ fD H.kind with inst:=H.inst,e:=H.e }) b1 b5 (v.lin.an e6) (v.lin.an e6).vw e6;exact hh
 have B:H.kind≠2:=by simpa using q
 refine aw ?_ ?_<;>intro q
 ·have q:H.kind=3:=by simpa using q
  rw [OZ q];refine az b1 (H.n,()) (ao ?_);refine dc i rfl (by simp [encI]) ?_;intro g d f z4;have d:bC g j.size 55 (encI none 0 0 { fD H.kind with n:=H.n }):=d;have e4:=e3.st f ad;have b1:=b1.an f (by simp; omega);refine az b1 (H.n,()) (ao ?_);refine aP (GP g H.n) ?_;refine aw ?_ ?_<;>intro r
  ·have r:vG H.n=false:=by simpa using r
   exact ⟨by rw [r]; rfl,e4⟩
  have r:vG H.n=true:=by simpa using r
  rw [r,bl9];have hh:=qe (L:=[]) (h0:=h) (y:={ fD H.kind with n:=H.n }) b1 d (v.lin.an e4) (iD.none g) e4;exact hh
 have C:H.kind≠3:=by simpa using q
 refine aw ?_ ?_<;>intro q
 ·have q:H.kind=4:=by simpa using q
  rw [QC q];have hh:=qe (L:=[]) (h0:=h) (y:=(fD H.kind)) b1 i (v.lin.an e3) (iD.none m) e3;exact hh
 have D:H.kind≠4:=by simpa using q
 refine aw ?_ ?_<;>intro q
 ·have q:H.kind=5:=by simpa using q
  rw [Pw q];refine az b1 (H.n,()) (ao ?_);refine dc i rfl (by simp [encI]) ?_;intro g d f z4;have d:bC g j.size 55 (encI none 0 0 { fD H.kind with n:=H.n }):=d;have e4:=e3.st f ad;have b1:=b1.an f (by simp; omega);exact ⟨rfl,e4⟩
 have E:H.kind≠5:=by simpa using q
 refine aw ?_ ?_<;>intro q
 ·have q:H.kind=6:=by simpa using q
  rw [Nv q];refine az b1 ((O,l,c),(H.e.num:Int),()) (ao ?_);refine dc i rfl (by simp [encI]) ?_;intro g d f z4;have d:bC g j.size 55 (encI O l c { fD H.kind with e:=H.e }):=d;have e4:=e3.st f ad;have b1:=b1.an f (by simp; omega);exact ⟨rfl,e4⟩
 have F:H.kind≠6:=by simpa using q
 refine aw ?_ ?_<;>intro q
 ·have q:H.kind=7:=by simpa using q
  rw [Qw q];refine az b1 (H.n,()) (ao ?_);refine dc i rfl (by simp [encI]) ?_;intro g d f z4;have d:bC g j.size 55 (encI none 0 0 { fD H.kind with n:=H.n }):=d;have e4:=e3.st f ad;have b1:=b1.an f (by simp; omega);exact ⟨rfl,e4⟩
 have G:H.kind≠7:=by simpa using q
 exact ⟨by rw [JZ z B C D E F G]; rfl,e3⟩
def NI {h:Hp} (t:yO h) {l c:Nat} (v:iV h O l H) :
  HC Xaz 54 #[wV O l c H,vI 1] h fun w h'=>w=Fh (cJ H 1)/\Ext h h':=by
 refine bd (args:=[wV O l c H,vI 1]) mixed Tryz.func54 ax (uZ H.kind H.name H.inst.op H.inst.a H.inst.b H.inst.n H.inst.form O l c H.e.num H.n) ?_;unfold qS aZ fh aF bg cm;refine br ?_;intro i b1 e1 z1;have b1:bC i h.size 55 (encI O l c H):=b1;refine az b1 (H.kind,()) (ao ?_);refine br ?_;intro J s e2 z2;refine bR s ?_;intro u j z z3;have j:bC u i.size 55 (encI none 0 0 (fD H.kind)):=j;have s1:=e1.size;have e13:=e2.st z (aq9 _);have e3:=e1.trans e13;have b1:=b1.an e13 aj;simp only [aE];refine az b1 (H.kind,()) (ao ?_);refine aw ?_ ?_<;>intro q
 ·have q:H.kind=1:=by simpa using q
  rw [EO q];refine az b1 (H.name,()) (ao ?_);refine dc j rfl (by simp [encI]) ?_;intro f b4 d z4;have b4:bC f i.size 55 (encI none 0 0 { fD H.kind with name:=H.name }):=b4;have e4:=e3.st d ad;have b1:=b1.an d (by simp; omega);refine az b1 (H.name,()) (ao ?_);refine aP (vS H.name f (by have:=v.name; have:maxLen=9223372036854775807:=rfl; omega)) ?_;refine aw ?_ ?_<;>intro r
  ·have r:cE H.name.data.toList=false:=by simpa using r
   exact ⟨by rw [r]; rfl,e4⟩
  have r:cE H.name.data.toList=true:=by simpa using r
  rw [r,bl9];have hh:=qe (L:=[]) (h0:=h) (y:={ fD H.kind with name:=H.name }) b1 b4 (v.lin.an e4) (iD.none f) e4;exact hh
 have A:H.kind≠1:=by simpa using q
 refine aw ?_ ?_<;>intro q
 ·have q:H.kind=2:=by simpa using q
  rw [Qs q];refine az b1 (H.inst.op,H.inst.a,H.inst.b,H.inst.n,H.inst.form,()) (ao ?_);refine az b1 ((O,l,c),(H.e.num:Int),()) (ao ?_);refine dc j rfl (by simp [encI]) ?_;intro f b4 d z4;have e4:=e3.st d ad;have b1:=b1.an d (by simp; omega);refine ⟨⟨b1.cells [.slice O l c,.int .u32 H.e.num] rfl,trivial⟩,?_⟩;refine dc b4 rfl (by simp [encI,lK]) ?_;intro B m o K;have m:bC B i.size 55 (encI O l c { fD H.kind with inst:=H.inst,e:=H.e }):=m;have e5:=e4.st o ad;have b1:=b1.an o (by simp; omega);exact ⟨rfl,e5⟩
 have C:H.kind≠2:=by simpa using q
 refine aw ?_ ?_<;>intro q
 ·have q:H.kind=3:=by simpa using q
  rw [OZ q];refine az b1 (H.n,()) (ao ?_);refine dc j rfl (by simp [encI]) ?_;intro f b4 d z4;have b4:bC f i.size 55 (encI none 0 0 { fD H.kind with n:=H.n }):=b4;have e4:=e3.st d ad;have b1:=b1.an d (by simp; omega);refine az b1 (H.n,()) (ao ?_);refine aP (GP f H.n) ?_;refine aw ?_ ?_<;>intro r
  ·have r:vG H.n=false:=by simpa using r
   exact ⟨by rw [r]; rfl,e4⟩
  have r:vG H.n=true:=by simpa using r
  rw [r,bl9];have hh:=qe (L:=[]) (h0:=h) (y:={ fD H.kind with n:=H.n }) b1 b4 (v.lin.an e4) (iD.none f) e4;exact hh
 have D:H.kind≠3:=by simpa using q
 refine aw ?_ ?_<;>intro q
 ·have q:H.kind=4:=by simpa using q
  rw [QC q];exact ⟨rfl,e3⟩
 have E:H.kind≠4:=by simpa using q
 refine aw ?_ ?_<;>intro q
 ·have q:H.kind=5:=by simpa using q
  rw [Pw q];refine az b1 (H.n,()) (ao ?_);refine dc j rfl (by simp [encI]) ?_;intro f b4 d z4;have b4:bC f i.size 55 (encI none 0 0 { fD H.kind with n:=H.n }):=b4;have e4:=e3.st d ad;have b1:=b1.an d (by simp; omega);refine az b1 (H.n,()) (ao ?_);refine aR ?_ ?_<;>intro r
  ·refine az b1 (H.n,()) (ao ?_);refine aw ?_ ?_<;>intro g
   ·have g:¬ H.n<=255:=by simpa using g
    exact ⟨by rw [ak9 g,fb9]; rfl,e4⟩
   have g:H.n<=255:=by simpa using g
   rw [aj9 g,aj9 (show -128<=H.n from r)];have hh:=qe (L:=[]) (h0:=h) (y:={ fD H.kind with n:=H.n }) b1 b4 (v.lin.an e4) (iD.none f) e4;exact hh
  ·exact ⟨by rw [ak9 (show ¬ -128<=H.n from r),fb9]; rfl,e4⟩
 have F:H.kind≠5:=by simpa using q
 refine aw ?_ ?_<;>intro q
 ·have q:H.kind=6:=by simpa using q
  rw [Nv q];refine az b1 ((O,l,c),(H.e.num:Int),()) (ao ?_);refine dc j rfl (by simp [encI]) ?_;intro f b4 d z4;have b4:bC f i.size 55 (encI O l c { fD H.kind with e:=H.e }):=b4;have e4:=e3.st d ad;have b1:=b1.an d (by simp; omega);refine az b1 ((O,l,c),(H.e.num:Int),()) (ao ?_);refine aK (uY (c:=c) (v.lin.an e4).vw (by have:=v.lin.many; omega) v.lin.names) ?_;rintro _ M ⟨rfl,k⟩;refine ⟨(ox none H.e.ah,()),rfl,ao ?_⟩;have e6:=e4.trans k;refine aw ?_ ?_<;>intro r
  ·have r:ox none H.e.ah=false:=by simpa using r
   exact ⟨by rw [r]; rfl,e6⟩
  have r:ox none H.e.ah=true:=by simpa using r
  rw [r];have b1:=b1.an k aj;have b4:=b4.an k aj;have hh:=qe (L:=[]) (h0:=h) (y:={ fD H.kind with e:=H.e }) b1 b4 (v.lin.an e6) (v.lin.an e6).vw e6;exact hh
 have G:H.kind≠6:=by simpa using q
 refine aw ?_ ?_<;>intro q
 ·have q:H.kind=7:=by simpa using q
  rw [Qw q];refine az b1 (H.n,()) (ao ?_);refine dc j rfl (by simp [encI]) ?_;intro f b4 d z4;have b4:bC f i.size 55 (encI none 0 0 { fD H.kind with n:=H.n }):=b4;have e4:=e3.st d ad;have b1:=b1.an d (by simp; omega);refine az b1 (H.n,()) (ao ?_);refine aR ?_ ?_<;>intro r
  ·refine az b1 (H.n,()) (ao ?_);refine aw ?_ ?_<;>intro g
   ·have g:¬ H.n<=1048576:=by simpa using g
    exact ⟨by rw [ak9 g,fb9]; rfl,e4⟩
   have g:H.n<=1048576:=by simpa using g
   rw [aj9 g,aj9 (show 0<=H.n from r)];have hh:=qe (L:=[]) (h0:=h) (y:={ fD H.kind with n:=H.n }) b1 b4 (v.lin.an e4) (iD.none f) e4;exact hh
  ·exact ⟨by rw [ak9 (show ¬ 0<=H.n from r),fb9]; rfl,e4⟩
 have I:H.kind≠7:=by simpa using q
 exact ⟨by rw [JZ A C D E F G I]; rfl,e3⟩
section
variable {α:Type}
def vE (en:α->Xab) (D:List (Xaa × α)):List (Xaa × Xab):=D.map fun p=>(p.1,en p.2)
def gE (D:List (Xaa × α)) (s:Xaa):Option α:=(D.find? fun p=>decide (s=p.1)).map (·.2)
def pE (D:List (Xaa × α)) (s:Xaa) (v:α):List (Xaa × α):=if (gE D s).isSome then D.map fun p=>if s=p.1 then (p.1,v) else p else D++[(s,v)]
def nG (en:α->Xab) (D:List (Xaa × α)) (s:Xaa):look (vE en D) s=(gE D s).map en:=by
 unfold look gE vE
 induction D with
 | nil=>rfl
 | cons p D a =>
  by_cases h:s=p.1
  ·simp [h]
  ·simp only [List.map_cons,List.find?_cons,decide_eq_false h];exact a
def I6 (en:α->Xab) (D:List (Xaa × α)) (s:Xaa) (v:α):kO (vE en D) s (en v)=vE en (pE D s v):=by
 unfold kO pE;rw [nG];cases h:gE D s with
 | none=>simp [vE]
 | some q =>
  simp only [Option.map_some,Option.isSome_some,if_true,vE,List.map_map];refine ck9 fun p a=>?_
  simp only [Function.comp];split <;> simp_all
def yk (D:List (Xaa × α)) (s:Xaa) (v:α):(pE D s v).length=if (gE D s).isSome then D.length else D.length+1:=by
 unfold pE;split <;> simp
def yo (D:List (Xaa × α)) (s t:Xaa) (v:α):gE (D++[(s,v)]) t=(gE D t).or (if t=s then some v else none):=by
 unfold gE;rw [List.find?_append];cases h:D.find? (fun p=>decide (t=p.1)) with
 | some q=>simp
 | none =>
  simp only [Option.none_or,Option.map_none,List.find?_cons,List.find?_nil]
  by_cases e:t=s
  ·simp [e]
  ·simp [e]
def Il (D:List (Xaa × α)) (s t:Xaa) (v:α) (d:(gE D s).isSome):gE (D.map fun p=>if s=p.1 then (p.1,v) else p) t=if t=s then some v else gE D t:=by
 unfold gE at *
 induction D with
 | nil=>simp at d
 | cons p D f =>
  by_cases h:s=p.1
  ·by_cases e:t=s
   ·simp [h,e]
   ·have e2:¬ t=p.1:=fun k=>e (k.trans h.symm)
    have g:∀ l:List (Xaa × α),(List.find? (fun p=>decide (t=p.1)) (List.map (fun p=>if s=p.1 then (p.1,v) else p) l)).map (·.2)=(List.find? (fun p=>decide (t=p.1)) l).map (·.2):=by
     intro l
     induction l with
     | nil=>rfl
     | cons q l a =>
      by_cases b:s=q.1
      ·have:¬ t=q.1:=fun k=>e (k.trans b.symm)
       simp only [List.map_cons,List.find?_cons,if_pos b,decide_eq_false this];exact a
      ·simp only [List.map_cons,List.find?_cons,if_neg b]
       by_cases ht:t=q.1
       ·simp [ht]
       ·simp only [decide_eq_false ht];exact a
    simp only [List.map_cons,List.find?_cons,if_pos h,decide_eq_false e2,if_neg e];exact g D
  ·have c:(Option.map (fun x=>x.2) (List.find? (fun p=>decide (s=p.1)) D)).isSome:=by
    simpa [List.find?_cons,decide_eq_false h] using d
   simp only [List.map_cons,List.find?_cons,if_neg h]
   by_cases ht:t=p.1
   ·have:¬ t=s:=fun k=>h (k.symm.trans ht)
    simp [ht,if_neg (ht▸this)]
   ·simp only [decide_eq_false ht];exact f c
def QQ (D:List (Xaa × α)) (s:Xaa) (v:α) (t:Xaa):gE (pE D s v) t=if t=s then some v else gE D t:=by
 unfold pE;split
 ·rename_i h;exact Il D s t v h
 ·rename_i h;rw [yo]
  by_cases e:t=s
  ·subst e
   have:gE D t=none:=by simpa using h
   rw [this]; simp
  ·simp [e]
def dT (f:Xaa->Option α) (s:Xaa) (v:α):Xaa->Option α:=fun t=>if t=s then some v else f t
def ej (en:α->Xab) (h:Hp) (g:Nat) (f:Xaa->Option α) (n:Nat):Prop:=∃ D:List (Xaa × α),fl h g (vE en D)/\(∀ s,gE D s=f s)/\D.length=n
def ej.an {en:α->Xab} {ws:List Nat} {h h':Hp} {g:Nat} {f:Xaa->Option α} {n:Nat} (m:ej en h g f n) (k:Ch ws h h') (a:g∉ws):ej en h' g f n:=by
 obtain ⟨D,m,r⟩:=m;exact ⟨D,m.an k a,r⟩
def ej.lt {en:α->Xab} {h:Hp} {g:Nat} {f:Xaa->Option α} {n:Nat} (m:ej en h g f n):g<h.size:=by
 obtain ⟨D,m,r⟩:=m;exact m.lt
def ej.new {en:α->Xab} {h:Hp} {g:Nat} (m:fl h g []):ej en h g (fun _=>none) 0:=⟨[],m,fun s=>rfl,rfl⟩
def ej.kO {en:α->Xab} {h':Hp} {g:Nat} {f:Xaa->Option α} {n:Nat} {D:List (Xaa × α)} (a:∀ s,gE D s=f s) (hn:D.length=n) {s:Xaa} {v:α} (m:fl h' g (Sx.kO (vE en D) s (en v))):ej en h' g (dT f s v) (if (f s).isSome then n else n+1):=by
 rw [I6] at m;refine ⟨_,m,fun t=>?_,?_⟩
 ·rw [QQ,a t]; rfl
 ·rw [yk,a s,hn]
end
def eB (b:Bool):Xab:=.bool b
def VA:Tryz.prog.underlying 152=some (.map 9 4):=ax
def wZ:Tryz.prog.underlying 9=some .string:=ax
def P8:(Tryz.prog.info? 4).bind (·.zero)=some (.bool false):=ax
def CF (h:Hp) (g:Nat) (D:List Xaa):Prop:=∃ n,ej eB h g (fun s=>if gP D s then some true else none) n
def CF.an {ws:List Nat} {h h':Hp} {g:Nat} {D:List Xaa} (m:CF h g D) (k:Ch ws h h') (a:g∉ws):CF h' g D:=by
 obtain ⟨n,m⟩:=m;exact ⟨n,m.an k a⟩
def CF.lt {h:Hp} {g:Nat} {D:List Xaa} (m:CF h g D):g<h.size:=by
 obtain ⟨n,m⟩:=m;exact m.lt
section
variable {L:Lp} {K:Xab->Hp->Prop} {h:Hp} {g:Nat} {D:List Xaa}
def Qz (m:CF h g D) (s:Xaa) {k:Bool->T} (hk:k (gP D s) L K h):T.eH Xaz (Instr.lookup 152 (.map (some g)) (.string s) false) false [(false,[.bool])] k L K h:=by
 obtain ⟨n,b,m,a,hn⟩:=m;refine j6 VA wZ P8 m s false _ ?_;refine ⟨(gP D s,()),?_,hk⟩;simp only [Bool.false_eq_true,if_false];rw [nG,a s];dsimp only
 all_goals (cases gP D s <;> rfl)
def dz (m:CF h g D) {s:Xaa} (a:s.size<=maxLen) {k:T} (hk:∀ h',CF h' g (s::D)->Ch [g] h h'->h'.size=h.size->k L K h') :
  T.dX Xaz (Instr.mapUpdate 152 (.map (some g)) (.string s) (.bool true)) k L K h:=by
 obtain ⟨n,i,m,b,hn⟩:=m;refine gV VA wZ m a _ _ ?_;intro h' c c' d
 have:=ej.kO (en:=eB) b hn (v:=true) c
 have f:dT (fun t=>if gP D t then some true else none) s true=fun t=>if gP (s::D) t then some true else none:=by
  funext t
  unfold dT gP
  by_cases h1:t=s
  ·rw [ag9 h1,ag9];simp [h1]
  ·rw [ac9 h1]
   have:¬ s=t:=fun e=>h1 e.symm
   rw [List.any_cons,ak9 this,ey9]
 rw [f] at this;exact hk h' ⟨_,this⟩ c' d
def Y9 {t:TypeId} {k:Option Nat->T} (hk:∀ h',CF h' h.size []->Ext h h'->h'.size=h.size+1->k (some h.size) L K h'):T.eH Xaz (Instr.makeMap t none) false [(false,[.map 0 0])] k L K h:=by
 refine nj _ ?_;intro h' m e z;exact ⟨(some h.size,()),rfl,hk h' ⟨0,ej.new m⟩ e z⟩
end
structure FJ (h:Hp) (p:Xac) (l:Nat) (us:List cC):Prop where
 len:l=us.length
 many:us.length<=2^60
 cells:∀ i,(hi:i<us.length)->∃ a q m c,p=some a/\aH h (a.add (i*10)) 0 (encI q m c us[i])/\iV h q m us[i]
def FJ.an {h h':Hp} {p:Xac} {l:Nat} {us:List cC} (v:FJ h p l us) (k:Ext h h'):FJ h' p l us :=
 ⟨v.len,v.many,fun i hi=>by
  obtain ⟨a,q,m,c,b,hc,hv⟩:=v.cells i hi;exact ⟨a,q,m,c,b,aM k aj _ _ hc,hv.an k⟩⟩
def Xj (p:Xac) (l c:Nat) (x:sS):List Xab:=[.string x.1,.slice p l c,.int .u32 x.2.num]
structure uV (h:Hp) (p:Xac) (l:Nat) (us:List sS):Prop where
 len:l=us.length
 many:us.length<=2^60
 cells:∀ i,(hi:i<us.length)->∃ a q m c,p=some a/\aH h (a.add (i*3)) 0 (Xj q m c us[i])/\rh h q m us[i].2/\us[i].1.size<=maxLen
def uV.an {h h':Hp} {p:Xac} {l:Nat} {us:List sS} (v:uV h p l us) (k:Ext h h'):uV h' p l us :=
 ⟨v.len,v.many,fun i hi=>by
  obtain ⟨a,q,m,c,b,hc,hv,d⟩:=v.cells i hi;exact ⟨a,q,m,c,b,aM k aj _ _ hc,hv.an k,d⟩⟩
structure Zi (h:Hp) (p:Xac) (l:Nat) (us:List Xaa):Prop where
 len:l=us.length
 many:us.length<=2^60
 cells:∀ i,(hi:i<us.length)->∃ a,p=some a/\aH h (a.add (i*1)) 0 [.string us[i]]/\us[i].size<=maxLen
def Zi.an {h h':Hp} {l:Nat} {us:List Xaa} (v:Zi h O l us) (k:Ext h h'):Zi h' O l us :=
 ⟨v.len,v.many,fun i hi=>by
  obtain ⟨a,b,hc,c⟩:=v.cells i hi;exact ⟨a,b,aM k aj _ _ hc,c⟩⟩
structure bU where
 p:Xac
 l:Nat
 c:Nat
def bU.v (s:bU):Xab:=.slice s.p s.l s.c
structure uD (h:Hp) (a b c d:bU) (u:cv):Prop where
 text:FJ h a.p a.l u.text
 data:FJ h b.p b.l u.data
 bj:uV h c.p c.l u.bj
 aU:Zi h d.p d.l u.aU
def uD.an {h h':Hp} {a b c d:bU} {u:cv} (v:uD h a b c d u) (k:Ext h h'):uD h' a b c d u:=⟨v.text.an k,v.data.an k,v.bj.an k,v.aU.an k⟩
def F9 (a b c d:bU):Xab:=.agg #[a.v,b.v,c.v,d.v]
def RU:Tryz.prog.underlying 43=some (.slice 46):=ax
def ZB:(Tryz.prog.info? 46).map (fun i=>(i.zero,i.size,i.bytes))=some (some (.slice none 0 0),1,24):=ax
def Q9 (a:Xac) (b c:Nat) (d:Xac) (e f:Nat):Instr.fill (fun j=>some (j*1,1)) ((Array.range (2*1)).map ((Value.slice none 0 0).cells[· % (Value.slice none 0 0).cells.size]!)) [(0,.slice a b c),(1,.slice d e f)]=some ([.slice a b c,.slice d e f]:List Xab).toArray:=ax
def Ae (u:cv) (k:Nat):List cC:=if k=0 then u.text else u.data
def vF (u:cv) (k:Nat):List Xaa:=if k=0 then [] else if k=1 then db [] u.text else db (db [] u.text) u.data
def Bz (u:cv) (k:Nat):Bool:=if k=0 then xr u else if k=1 then (fo 1 (db [] u.text) u.data && (hY (db (db [] u.text) u.data) u.bj && dh u.names dW u.aU)) else (hY (db (db [] u.text) u.data) u.bj && dh u.names dW u.aU)
def LI (u:cv) {k:Nat} (hk:k<2):Bz u k=(fo k (vF u k) (Ae u k) && Bz u (k+1)):=by
 have:k=0\/k=1:=ad
 rcases this with rfl | rfl
 ·simp [Bz,vF,Ae,xr,Bool.and_assoc]
 ·simp [Bz,vF,Ae]
def MA (u:cv) {k:Nat} (hk:k<2):vF u (k+1)=db (vF u k) (Ae u k):=by
 have:k=0\/k=1:=ad
 rcases this with rfl | rfl <;> rfl
def Hn (D:List Xaa) (l:List cC) {i:Nat} (hi:i<l.length):db D (l.take (i+1))=uR (db D (l.take i)) l[i]:=by
 unfold db;rw [ae9 hi,ch9] <;> rfl
def GY (D:List Xaa) (l:List sS) {i:Nat} (hi:i<l.length):aX D (l.take (i+1))=l[i].1::aX D (l.take i):=by
 unfold aX;rw [ae9 hi,ch9] <;> rfl
def EF (sec:Nat) (D:List Xaa) (l:List cC) {i:Nat} (hi:i<l.length):fo sec D (l.drop i)=(zd sec D l[i] && fo sec (uR D l[i]) (l.drop (i+1))):=by
 rw [aw9 hi,fo]
def G9 (D:List Xaa) (l:List sS) {i:Nat} (hi:i<l.length):hY D (l.drop i)=(D1 D l[i] && hY (l[i].1::D) (l.drop (i+1))):=by
 rw [aw9 hi,hY]
def oN (l:List Xaa) (i:Nat):Xaa:=if i=0 then dW else l.getD (i-1) dW
def wP (D l:List Xaa) {i:Nat} (hi:i<l.length):dh D (oN l i) (l.drop i)=(Ub D (oN l i) l[i] && dh D (oN l (i+1)) (l.drop (i+1))):=by
 rw [aw9 hi,dh]
 congr 2
 unfold oN;rw [ac9 ad,Nat.add_sub_cancel,cf9,ad9 hi] <;> rfl
def HD (h:Hp) (g:Nat) (D:List Xaa):Prop:=CF h g D/\∀ s,s∈D->cE s.data.toList=true
def HD.an {ws:List Nat} {h h':Hp} {g:Nat} {D:List Xaa} (m:HD h g D) (k:Ch ws h h') (a:g∉ws):HD h' g D:=⟨m.1.an k a,m.2⟩
def F8 {s:Xaa} (h:cE s.data.toList=true):iK dW s:=by
 unfold cE at h;simp only [Bool.and_eq_true,decide_eq_true_eq] at h;have h2:=h.1.1.1.1;show (dW.data.toList:List UInt8)<s.data.toList
 have:(dW.data.toList:List UInt8)=[]:=rfl
 rw [this];cases b:s.data.toList with
 | nil=>rw [b] at h2; simp at h2
 | cons a l=>exact List.Lex.nil
def wL {D:List Xaa} {s:Xaa} (h:gP D s=true):s∈D:=by
 unfold gP at h;simp only [List.any_eq_true,decide_eq_true_eq] at h;obtain ⟨y,a,rfl⟩:=h;exact a
def S6 {h:Hp} (t:yO h) {l c k:Nat} (v:iV h O l H) (hk:k<2) :
  HC Xaz 54 #[wV O l c H,vI (k:Int)] h fun w h'=>w=Fh (cJ H k)/\Ext h h':=by
 have:k=0\/k=1:=ad
 rcases this with rfl | rfl
 ·exact Q6 t v
 ·exact NI t v
def w9 {h:Hp} (t:yO h) {a b c d:bU} {u:cv} (v:uD h a b c d u):HC Xaz 30 #[F9 a b c d] h fun w h'=>w=vI (fz u:Nat)/\Ext h h':=by
 refine bd (args:=[F9 a b c d]) mixed Tryz.func30 ax (Ad a.p a.l a.c b.p b.l b.c c.p c.l c.c d.p d.l d.c) ?_;unfold xy aY bh bt aI aZ cQ fh bn bQ bq aF bg cm aQ;refine br ?_;intro Q b1 e1 z1;have b1:bC Q h.size 70 [a.v,b.v,c.v,d.v]:=b1;have m1:=v.text.many;have m2:=v.data.many;have m3:=v.bj.many;have m4:=v.aU.many;have n1:=v.text.len;have n2:=v.data.len;have n3:=v.bj.len;have n4:=v.aU.len;have s1:=e1.size;simp only [aE];refine az b1 ((a.p,a.l,a.c),()) (ao ?_);refine az b1 ((b.p,b.l,b.c),()) (ao ?_);rw [wrap_i64 ad ad];unfold fz wH;refine aw ?_ ?_<;>intro q
 ·have q:=ah9 q;exact ⟨by rw [aj9 (show 8192<u.text.length+u.data.length from ad)]; rfl,e1⟩
 have q:=av9 q;rw [ak9 (show ¬ 8192<u.text.length+u.data.length from ad),ey9];refine az b1 ((c.p,c.l,c.c),()) (ao ?_);refine aw ?_ ?_<;>intro q
 ·have q:=ah9 q;exact ⟨by rw [aj9 (show 8192<u.bj.length from ad)]; rfl,e1⟩
 have q:=av9 q;rw [ak9 (show ¬ 8192<u.bj.length from ad),ac9 aj];refine Y9 ?_;intro g2 m e2 z2;have b2:=b1.an e2 aj;refine az b2 ((a.p,a.l,a.c),()) (ao ?_);refine az b2 ((b.p,b.l,b.c),()) (ao ?_);refine nS RU ZB ad ad (Q9 a.p a.l a.c b.p b.l b.c) ?_;intro g3 b3 Z z3;have m:=m.an Z (by have:=m.lt; simp);have e03:=(e1.trans e2).trans Z;have b3':=b2.an Z aj;have s2:=e2.size;clear b1 b2;have S:∀ k,k<2->∃ s:bU,([a.v,b.v]:List Xab).drop k=s.v::([a.v,b.v]:List Xab).drop (k+1)/\FJ h s.p s.l (Ae u k):=by
  intro k hk
  have:k=0\/k=1:=ad
  rcases this with rfl | rfl
  ·exact ⟨a,rfl,v.text⟩
  ·exact ⟨b,rfl,v.data⟩
 have s3:=Z.size;have b3:bC g3 g2.size 46 [a.v,b.v]:=b3;generalize hU:xr u=U;refine aT (cs:=gb) (fun y w h'=>∃ k:Nat,y.2.1=(k:Int)/\k<=2/\w=2-k/\Ext h h'/\bC h' h.size 70 [a.v,b.v,c.v,d.v]/\bC h' g2.size 46 [a.v,b.v]/\HD h' Q.size (vF u k)/\U=Bz u k) ((0:Int),(0:Int),()) 2 rfl
  ⟨0,rfl,ad,ad,e03,b3',b3,⟨m,by simp [vF]⟩,hU.symm⟩ ?_
 rintro ⟨V,n22,⟨⟩⟩ w h4 ⟨k,hk,hk2,rfl,e4,b1,b2,m,f⟩;simp only at hk;subst hk;refine ao ?_;refine aR ?_ ?_<;>intro q
 ·have hk:k<2:=ad
  obtain ⟨sl,hsl,vs⟩:=S k hk;refine bS rfl ?_;rw [aE];refine bI b2 ((sl.p,sl.l,sl.c),()) (by rw [show 0+(k:Int).toNat*1=k from ad,hsl]; rfl) ?_;refine ao ?_;have lk:=vs.len;have mk:=vs.many;generalize hl:Ae u k=l at vs lk mk;have j:U=(fo k (db (vF u k) (l.take 0)) (l.drop 0) && Bz u (k+1)):=by
   rw [f,LI u hk,hl] <;> rfl
  refine aT (cs:=gb) (fun y w h'=>∃ i:Nat,y.2.1=(i:Int)/\i<=l.length/\w=l.length-i/\Ext h h'/\bC h' h.size 70 [a.v,b.v,c.v,d.v]/\bC h' g2.size 46 [a.v,b.v]/\HD h' Q.size (db (vF u k) (l.take i))/\U=(fo k (db (vF u k) (l.take i)) (l.drop i) && Bz u (k+1))) (V,(0:Int),()) l.length rfl
   ⟨0,rfl,ad,ad,e4,b1,b2,m,j⟩ ?_
  clear f j m b1 b2 e4;rintro ⟨z,n28,⟨⟩⟩ w W ⟨i,hi,K,rfl,B,b1,b2,m,f⟩;simp only at hi;subst hi;refine ao ?_;refine aR ?_ ?_<;>intro q2
  ·have g:i<l.length:=ad
   obtain ⟨aa,pp,L,H,rfl',hc,I⟩:=(vs.an B).cells i g;rw [EF k _ l g] at f;have hnt:=Hn (vF u k) l g;generalize l[i]=x at hc I f hnt;refine hZ (bm rfl' ?_);rw [cr i];refine ay (x.kind,x.name,x.inst.op,x.inst.a,x.inst.b,x.inst.n,x.inst.form,(pp,L,H),(x.e.num:Int),x.n,()) hc (ao ?_);refine br ?_;intro h6 b6 C z6;refine bR b6 ?_;intro h7 F k7 z7;have F:bC h7 W.size 55 (encI pp L H x):=F;have o:Ext W h7:=C.st k7 (aq9 _);have e7:=B.trans o;simp only [aE];refine az F (x.kind,x.name,x.inst.op,x.inst.a,x.inst.b,x.inst.n,x.inst.form,(pp,L,H),(x.e.num:Int),x.n,()) (ao ?_);refine aK (S6 (c:=H) (t.an e7 aj) (I.an o) hk) ?_;rintro _ h8 ⟨rfl,M⟩;refine ⟨((if cJ x k then 0 else 31:Int),()),rfl,ao ?_⟩;have e58:=o.trans M;have e08:=B.trans e58;have b1:=b1.an e58 aj;have b2:=b2.an e58 aj;have m:=m.an e58 aj;have b8:=F.an M aj;refine aw ?_ ?_<;>intro r
   ·have r:cJ x k=false:=by
     cases hr:cJ x k with
     | false=>rfl
     | true=>rw [hr] at r; simp at r
    exact ⟨by rw [f,zd,r]; rfl,e08⟩
   have r:cJ x k=true:=by
    cases hr:cJ x k with
    | true=>rfl
    | false=>rw [hr] at r; simp at r
   have hno:∀ D,zd k D x=!(decide (x.kind=1) && gP D x.name):=fun D=>by rw [zd,r]; rfl
   rw [hno] at f;refine az b8 (x.kind,()) (ao ?_);refine aw ?_ ?_<;>intro A
   ·have A:x.kind=1:=by simpa using A
    rw [aj9 A,bl9] at f;have J:cE x.name.data.toList=true:=by
     rw [EO A,bm9] at r;exact r.1
    refine az b8 (x.name,()) (ao ?_);refine Qz m.1 x.name ?_;refine aw ?_ ?_<;>intro X
    ·exact ⟨by rw [f,X]; rfl,e08⟩
    rw [X] at f;refine az b8 (x.kind,()) (ao ?_);refine cj (by simpa using A) ?_;refine az b8 (x.name,()) (ao ?_);refine dz m.1 I.name ?_;intro h9 m9 R z9;have N:Ext h h9:=e08.st R ad;have s5:=B.size;have G:uR (db (vF u k) (l.take i)) x=x.name::db (vF u k) (l.take i):=by unfold uR; rw [ag9 A]
    refine aG (cs:=gb) (z,((i+1:Nat):Int),()) (l.length-(i+1)) rfl ad (by rw [wrap_i64 ad ad]; rfl) ?_;refine ⟨i+1,rfl,ad,rfl,N,b1.an R (by simp; omega),b2.an R (by simp; omega),by rw [hnt,G]; exact ⟨m9,fun s hs=>(be9.1 hs).elim (fun e=>by rw [e]; exact J) (m.2 s)⟩,by rw [f,hnt]; rfl⟩
   ·have A:¬ x.kind=1:=by simpa using A
    rw [ak9 A] at f;refine az b8 (x.kind,()) (ao ?_);refine cg (by simpa using A) ?_;have G:uR (db (vF u k) (l.take i)) x=db (vF u k) (l.take i):=by unfold uR; rw [ac9 A]
    refine aG (cs:=gb) (z,((i+1:Nat):Int),()) (l.length-(i+1)) rfl ad (by rw [wrap_i64 ad ad]; rfl) ?_;refine ⟨i+1,rfl,ad,rfl,e08,b1,b2,by rw [hnt,G]; exact m,by rw [f,hnt]; rfl⟩
  ·have g:i=l.length:=ad
   subst g;rw [bj9] at m f;rw [de9,fo,bl9] at f;refine aG (cs:=gb) (z,((k+1:Nat):Int),()) (2-(k+1)) rfl ad (by rw [wrap_i64 ad ad]; rfl) ?_;refine ⟨k+1,rfl,ad,rfl,B,b1,b2,by rw [MA u hk,hl]; exact m,f⟩
 ·have hk:k=2:=ad
  subst hk;have f:U=(hY (db (db [] u.text) u.data) u.bj && dh u.names dW u.aU):=f;have m:HD h4 Q.size (db (db [] u.text) u.data):=m;generalize hD:db (db [] u.text) u.data=D at f m;have hN:u.names=aX D u.bj:=by rw [<- hD]; rfl
  rw [hN] at f;refine az b1 ((c.p,c.l,c.c),()) (ao ?_);have j:U=(hY (aX D (u.bj.take 0)) (u.bj.drop 0) && dh (aX D u.bj) dW u.aU):=f;refine aT (cs:=gb) (fun y w h'=>∃ i:Nat,y.2.1=(i:Int)/\i<=u.bj.length/\w=u.bj.length-i/\Ext h h'/\bC h' h.size 70 [a.v,b.v,c.v,d.v]/\HD h' Q.size (aX D (u.bj.take i))/\U=(hY (aX D (u.bj.take i)) (u.bj.drop i) && dh (aX D u.bj) dW u.aU)) (V,(0:Int),()) u.bj.length rfl
   ⟨0,rfl,ad,ad,e4,b1,m,j⟩ ?_
  clear f j m b1 b2 e4;rintro ⟨z,n28,⟨⟩⟩ w W ⟨i,hi,K,rfl,B,b1,m,f⟩;simp only at hi;subst hi;refine ao ?_;have s5:=B.size;refine aw ?_ ?_<;>intro q2
  ·have q2:=ah9 q2;have g:i<u.bj.length:=ad
   obtain ⟨aa,pp,L,H,rfl',hc,I,vn⟩:=(v.bj.an B).cells i g;rw [G9 _ _ g] at f;have hnt:=GY D u.bj g;generalize u.bj[i]=x at hc I vn f hnt;refine hZ (bm rfl' ?_);rw [cr i];refine ay (x.1,(pp,L,H),(x.2.num:Int),()) hc (ao ?_);refine br ?_;intro h6 b6 C z6;refine bR b6 ?_;intro h7 F k7 z7;have F:bC h7 W.size 116 (Xj pp L H x):=F;have o:Ext W h7:=C.st k7 (aq9 _);have e7:=B.trans o;simp only [aE];have b1:=b1.an o aj;have m:=m.an o aj;unfold D1 at f;refine az F (x.1,()) (ao ?_);refine Qz m.1 x.1 ?_;refine aw ?_ ?_<;>intro r
   ·exact ⟨by rw [f,r]; rfl,e7⟩
   rw [r] at f;refine az F (x.1,()) (ao ?_);refine aP (vS x.1 h7 (by have:maxLen=9223372036854775807:=rfl; omega)) ?_;refine aw ?_ ?_<;>intro r
   ·have r:cE x.1.data.toList=false:=by simpa using r
    exact ⟨by rw [f,r]; rfl,e7⟩
   have J:cE x.1.data.toList=true:=by simpa using r
   rw [J] at f;refine az F ((pp,L,H),(x.2.num:Int),()) (ao ?_);refine aK (uY (c:=H) (I.an o).vw (by have:=I.many; omega) I.names) ?_;rintro _ h8 ⟨rfl,M⟩;refine ⟨(ox none x.2.ah,()),rfl,ao ?_⟩;have e08:=e7.trans M;have b1:=b1.an M aj;have m:=m.an M aj;have b8:=F.an M aj;refine aw ?_ ?_<;>intro r
   ·have r:ox none x.2.ah=false:=by simpa using r
    exact ⟨by rw [f,r]; rfl,e08⟩
   have r:ox none x.2.ah=true:=by simpa using r
   rw [r] at f;refine az b8 (x.1,()) (ao ?_);refine dz m.1 vn ?_;intro h9 m9 R z9;have N:Ext h h9:=e08.st R ad;refine aG (cs:=gb) (z,((i+1:Nat):Int),()) (u.bj.length-(i+1)) rfl ad (by rw [wrap_i64 ad ad]; rfl) ?_;refine ⟨i+1,rfl,ad,rfl,N,b1.an R (by simp; omega),by rw [hnt]; exact ⟨m9,fun s hs=>(be9.1 hs).elim (fun e=>by rw [e]; exact J) (m.2 s)⟩,by rw [f,hnt]; rfl⟩
  have q2:=av9 q2;have g:i=u.bj.length:=ad
  subst g;rw [bj9] at m f;rw [de9,hY,bl9] at f;generalize hE:aX D u.bj=E at m f;refine az b1 ((d.p,d.l,d.c),()) (ao ?_);have j:U=dh E (oN u.aU 0) (u.aU.drop 0):=f;refine aT (cs:=gb) (fun y w h'=>∃ i:Nat,y.2.1=(i:Int)/\i<=u.aU.length/\w=u.aU.length-i/\Ext h h'/\bC h' h.size 70 [a.v,b.v,c.v,d.v]/\HD h' Q.size E/\U=dh E (oN u.aU i) (u.aU.drop i)) (z,(0:Int),()) u.aU.length rfl
   ⟨0,rfl,ad,ad,B,b1,m,j⟩ ?_
  clear f j m b1 B s5;rintro ⟨Y,n32,⟨⟩⟩ w h6 ⟨i,hi,K,rfl,C,b1,m,f⟩;simp only at hi;subst hi;refine ao ?_;refine aR ?_ ?_<;>intro q3
  ·have g:i<u.aU.length:=ad
   obtain ⟨aa,rfl',hc,I⟩:=(v.aU.an C).cells i g;rw [wP _ _ g] at f;unfold Ub at f;refine hZ (bm rfl' ?_);rw [cr i];refine ay (u.aU[i],()) hc (ao ?_);refine Qz m.1 _ ?_;refine aw ?_ ?_<;>intro r
   ·have r:gP E u.aU[i]=false:=by simpa using r
    exact ⟨by rw [f,r]; rfl,C⟩
   have r:gP E u.aU[i]=true:=by simpa using r
   rw [r,bl9] at f;refine aR ?_ ?_<;>intro X
   ·refine az b1 ((d.p,d.l,d.c),()) (ao ?_);rw [wrap_i64 ad ad];obtain ⟨ab,O,hc',va'⟩:=(v.aU.an C).cells (i-1) ad;refine hZ (bm O ?_);rw [show Int.toNat ((i:Int)-1)=i-1 from ad];refine ay (u.aU[i-1],()) hc' (ao ?_);have hla:oN u.aU i=u.aU[i-1]:=by
     unfold oN;rw [ac9 ad,cf9,ad9 ad] <;> rfl
    rw [leB];rw [hla] at f;refine aw ?_ ?_<;>intro P
    ·have P:decide (iK u.aU[i-1] u.aU[i])=false:=by simpa using P
     exact ⟨by rw [f,P]; rfl,C⟩
    ·have P:decide (iK u.aU[i-1] u.aU[i])=true:=by simpa using P
     rw [P,bl9] at f;refine aG (cs:=gb) (Y,((i+1:Nat):Int),()) (u.aU.length-(i+1)) rfl ad (by rw [wrap_i64 ad ad]; rfl) ?_;exact ⟨i+1,rfl,ad,rfl,C,b1,m,f⟩
   ·have hi0:i=0:=ad
    subst hi0;have hg:decide (iK (oN u.aU 0) u.aU[0])=true:=aj9 (F8 (m.2 _ (wL r)));rw [hg,bl9] at f;refine aG (cs:=gb) (Y,((0+1:Nat):Int),()) (u.aU.length-(0+1)) rfl ad (by rw [wrap_i64 ad ad]; rfl) ?_;exact ⟨0+1,rfl,ad,rfl,C,b1,m,f⟩
  ·have g:i=u.aU.length:=ad
   subst g;rw [de9] at f;exact ⟨by rw [f]; rfl,C⟩
def Qv (l:List UInt8):List (List Xab):=l.map fun b=>[.int .u8 (b.toNat:Int)]
def IZ (l:List UInt8):(Qv l).length=l.length:=by simp [Qv]
def Qi (l:List UInt8):(Qv l).flatten=l.map fun b=>.int .u8 (b.toNat:Int):=by
 induction l with
 | nil=>rfl
 | cons a l c =>
  have:Qv (a::l)=[.int .u8 (a.toNat:Int)]::Qv l:=rfl
  rw [this,eo9,c] <;> rfl
def byZ:(Tryz.prog.info? 5).map (fun i=>(i.zero,i.size,i.bytes))=some (some (.int .u8 0),1,1):=ax
def SL.cB {h:Hp} {b:Nat} {e:TypeId} {sz l c:Nat} {xs:List (List Xab)} (s:SL h b e sz O l c xs):∀ i,i∈aJ O->b<=i/\i<h.size:=by
 intro i hi;cases O with
 | none=>simp [aJ] at hi
 | some a =>
  obtain ⟨g,f,rest,rfl,j,_,d,_⟩:=s.2.2;simp [aJ] at hi;exact ⟨ad,by rw [hi]; exact d.lt⟩
def xM {P:Program} {h:Hp} (a:Xax) (l:List UInt8) (cap:Nat) (K:Xab->Hp->Prop) (hc:aH h a 0 (l.map BL)) (hk:K (.string ⟨l.toArray⟩) h):aS P (Conv.bytesToString (.slice (some a) l.length cap)) h K:=by
 unfold Conv.bytesToString;simp only;rw [av];refine dJ aj hc _ ?_;rw [av,<- Array.forIn_toList]
 have b:∀ (l:List UInt8) (s:Xaa) (K':Xaa->Hp->Prop),K' ⟨s.data++l.toArray⟩ h->aS P (forIn (l.map BL) s fun c r=>match c with
   | .int .u8 n=>(pure (ForInStep.yield (r.push (UInt8.ofNat n.toNat))):Sem (ForInStep Xaa))
   | _ => stuck "bytesToString: byte expected") h K' := by
  intro l
  induction l with
  | nil =>
   intro s K' hk;have e:(⟨s.data++([]:List UInt8).toArray⟩:Xaa)=s:=aj
   rw [e] at hk;exact hk
  | cons c l d =>
   intro s K' hk;rw [bq9,List.forIn_cons];rw [av];show aS P (forIn (List.map BL l) (s.push (UInt8.ofNat ((c.toNat:Nat):Int).toNat)) _) h K';have e1:UInt8.ofNat ((c.toNat:Nat):Int).toNat=c:=aj
   rw [e1];refine d (s.push c) K' ?_
   have:(⟨(s.push c).data++l.toArray⟩:Xaa)=⟨s.data++(c::l).toArray⟩:=by
    congr 1
    apply cb9.1
    simp
   rw [this]; exact hk
 refine b l ByteArray.empty _ ?_;have e:(⟨ByteArray.empty.data++l.toArray⟩:Xaa)=⟨l.toArray⟩:=by
  congr 1
  apply cb9.1
  simp
 rw [e];exact hk
abbrev St:=Except (Nat × Nat) Bt
def neK {k c:Nat} (h:k≠c):(((k:Nat):Int)==(c:Int))=false:=by
 simp only [beq_eq_false_iff_ne,ne_eq];omega
def iz:List Xab:=[vI (0:Int),.string ⟨#[]⟩,vI (0:Int),vI (0:Int),vI (0:Int),.int .i32 (0:Int),vI (0:Int),.slice none 0 0,.int .u32 (0:Int),vI (0:Int)]
structure Ls {α:Type} (e:TypeId) (sz:Nat) (enc:bU->α->List Xab) (tm:α->dt) (ok:α->Prop) (h:Hp) (b:Nat) (p:Xac) (l c:Nat) (us:List (bU × α)):Prop where
 sl:SL h b e sz p l c (us.map fun u=>enc u.1 u.2)
 own:∀ u,u∈us->SL h b 64 2 u.1.p u.1.l u.1.c ((tm u.2).map dp)
 ok:∀ u,u∈us->ok u.2
section
variable {α:Type} {e:TypeId} {sz:Nat} {enc:bU->α->List Xab} {tm:α->dt} {ok:α->Prop} {h h':Hp} {b b':Nat} {p:Xac} {l c:Nat} {us:List (bU × α)}
end
abbrev ptr (g:Nat):Xab:=.pointer (some ⟨g,0,none⟩)
def VB:Tryz.prog.underlying 46=some (.slice 55):=ax
def Y5:Tryz.prog.underlying 67=some (.slice 116):=ax
def J9:Tryz.prog.underlying 68=some (.slice 9):=ax
def ZR:(Tryz.prog.info? 55).map (fun i=>(i.zero,i.size,i.bytes))=some (some (.agg iz.toArray),10,104):=ax
def X4:(Tryz.prog.info? 9).map (fun i=>(i.zero,i.size,i.bytes))=some (some (.string ⟨#[]⟩),1,16):=ax
def SL.zL {h:Hp} {b:Nat} {e:TypeId} {sz l c:Nat} {xs:List (List Xab)} (s:SL h b e sz O l c xs):∀ i,i∈aJ O->∃ xs,bC h i e xs:=by
 intro i hi;cases O with
 | none=>simp [aJ] at hi
 | some a =>
  obtain ⟨g,f,rest,rfl,j,_,d,_⟩:=s.2.2;simp [aJ] at hi;subst hi;exact ⟨_,d⟩
def SL.rj {ws:List Nat} {h h':Hp} {b:Nat} {e d:TypeId} {sz l c:Nat} {xs:List (List Xab)} (s:SL h b e sz O l c xs) (k:Ch ws h h') (g:∀ i,i∈ws->∃ ys,bC h i d ys) (j:e≠d):SL h' b e sz O l c xs:=by
 refine Sx.SL.bK s k (fun i hi m=>?_);obtain ⟨ys,f⟩:=SL.zL s i hi;obtain ⟨zs,a⟩:=g i m;unfold bC at f a;rw [f] at a;simp only [Option.some.injEq,Obj.cells.injEq] at a;exact j a.2.1
section
variable {h0 h:Hp} {g gm:Nat} {bp:Xac} {bl bc:Nat} {full:Bt} {st:St} {D:List Xaa}
end
def nu:bU:=⟨none,0,0⟩
abbrev WH:=Ls 55 10 (fun s x=>encI s.p s.l s.c x) (fun x:cC=>x.e.ah) (fun _=>True)
def Co:Tryz.prog.underlying 46=some (.slice 55):=ax
def Gf:(Tryz.prog.info? 55).map (fun i=>(i.zero,i.size,i.bytes))=some (some (.agg iz.toArray),10,104):=ax
def ub (u:bU × cC):List Xab:=encI u.1.p u.1.l u.1.c u.2
def G5 {a b:Nat} (h:(((a:Nat):Int)==((b:Nat):Int))=true):a=b:=by
 have:=eq_of_beq h
 omega
def Hf {a b:Nat} (h:(((a:Nat):Int)==((b:Nat):Int))=false):¬ a=b:=by
 rintro rfl;simp at h
variable {V:Lp} {Y:Bool}
def K0 {K:Xab->Hp->Prop} {h:Hp} {t u:T} (a:Y=false->u V K h) (ht:Y=true->t V K h):(cond Y t u) V K h:=aw ht a
theorem gK {h:Hp} {a:Xax}:∀ (b:List Xab) (o i:Nat),aH h a (o+i) b->aH h (a.add o) i b
 | [],_,_,_=>trivial
 | v::b,o,i,hc=>⟨by rw [add_add]; exact hc.1,gK b o (i+1) hc.2⟩
def rJ (s t:Xaa):(ByteArray.toList s==ByteArray.toList t)=decide (s=t):=by
 rw [ByteArray.toList_eq,ByteArray.toList_eq]
 by_cases h:s=t
 ·rw [aj9 h,h]; simp
 ·rw [ak9 h]
  have:¬ s.data.toList=t.data.toList:=fun e=>h (AG e)
  simpa using this
def Tf (x y:Operand) (i j:Ins) (h:Hp) (K:Xab->Hp->Prop) (hk:K (.bool (decide (i=j))) h) :
  aS Xaz (Sx.lW (BinOp.eql) 49 x y (.agg (px i).toArray) (.agg (px j).toArray)) h K:=by
 refine Gy Va ax ax ax K ?_;have c:(vU Xaz 49).all (HZ (px i).toArray (px j).toArray)=(i.op==j.op && (i.a==j.a && (i.b==j.b && (i.n==j.n && (i.form==j.form && true))))):=by
  rw [<- dd9]
  kernel_rfl
 rw [c,cz9]
 have:(i.op==j.op && (i.a==j.a && (i.b==j.b && (i.n==j.n && i.form==j.form))))=decide (i=j):=by
  rcases i with ⟨d,e,f,g,k⟩
  rcases j with ⟨l,m,c3,o,c5⟩
  simp only [du,Ins.mk.injEq]
  by_cases h1:d=l <;> by_cases h2:e=m <;> by_cases p:f=c3 <;> by_cases q:g=o <;> by_cases r:k=c5 <;> simp [h1,h2,p,q,r]
 rw [this];exact hk
structure xA (h:Hp) (p:Xac) (l:Nat) (us:List cv):Prop where
 len:l=us.length
 many:us.length<=2^60
 cells:∀ i,(hi:i<us.length)->∃ a sa sb sc sd,p=some a/\aH h (a.add (i*4)) 0 [bU.v sa,bU.v sb,bU.v sc,bU.v sd]/\uD h sa sb sc sd us[i]
def xA.an {h h':Hp} {p:Xac} {l:Nat} {us:List cv} (v:xA h p l us) (k:Ext h h'):xA h' p l us :=
 ⟨v.len,v.many,fun i hi=>by
  obtain ⟨a,sa,sb,sc,sd,b,hc,hv⟩:=v.cells i hi;exact ⟨a,sa,sb,sc,sd,b,aM k aj _ _ hc,hv.an k⟩⟩
def CJ (u:cv):Bool:=decide (600<u.text.length) || decide (300<u.data.length) || decide (100<u.bj.length)
def KQ (u:cv):Nat:=u.text.length+u.data.length+u.bj.length
def jc (us:List cv):Nat:=(us.map KQ).sum
def uF (us:List cv):Bool:=(us.take 65).any CJ || decide (900<jc (us.take 65))
def NK {α:Type} (f:α->Bool) (l:List α) {i n:Nat} (hi:i<l.length) (hn:i<n) (h:f l[i]=true):(l.take n).any f=true:=by
 rw [dz9];exact ⟨l[i],List.mem_take_iff_getElem.2 ⟨i,ad,rfl⟩,h⟩
def Ia (us:List cv) {i:Nat} (hi:i<us.length):jc (us.take (i+1))=jc (us.take i)+KQ us[i]:=by
 unfold jc;rw [ae9 hi,ao9,fq9]
 simp
def NT {h:Hp} {l c:Nat} {us:List cv} (v:xA h O l us):uu Xaz 23 [.slice O l c] h (.bool (uF us)):=by
 refine ff mixed Tryz.func23 ax (pJ O l c) ?_;unfold kr aY bh bt aI bq ez aQ cn;have hl:=v.len;have hm:=v.many;refine aT (cs:=Nb) (fun y m h'=>∃ i:Nat,y.1=false/\y.2.1=((jc (us.take i):Nat):Int)/\y.2.2.1=(i:Int)/\m=l-i/\i<=l/\i<=65/\h'=h/\(us.take i).any CJ=false/\jc (us.take i)<=i*1000) (false,(0:Int),(0:Int),()) l rfl
  ⟨0,rfl,rfl,rfl,rfl,ad,ad,rfl,rfl,by simp [jc]⟩ ?_
 rintro ⟨A,B,C,⟨⟩⟩ m h1 ⟨i,e,f,j,rfl,hi,o,rfl,q,D⟩;simp only at e f j;subst e f j;refine ao ?_;have d:(l<=i\/65<=i)->(T.ret (.bool (decide (((jc (us.take i):Nat):Int)>(900:Int))))) [Jl (cs:=Nb) (fun y m h'=>∃ i:Nat,y.1=false/\y.2.1=((jc (us.take i):Nat):Int)/\y.2.2.1=(i:Int)/\m=l-i/\i<=l/\i<=65/\h'=h1/\(us.take i).any CJ=false/\jc (us.take i)<=i*1000) (l-i)] (fun v' h'=>v'=.bool (uF us)/\h'=h1) h1:=by
  intro E
  have:us.take i=us.take 65:=by
   by_cases k:i=65
   ·rw [k]
   ·rw [bv9 ad,bv9 ad]
  refine ⟨?_,rfl⟩;unfold uF;rw [<- this,q,ey9]
  congr 1
  by_cases g:900<jc (us.take i)
  ·rw [aj9 g,aj9 ad]
  ·rw [ak9 g,ak9 ad]
 refine K0 ?_ ?_<;>intro r
 ·have r:=av9 r;exact d ad
 have r:=ah9 r;refine K0 ?_ ?_<;>intro w
 ·have w:=av9 w;exact d ad
 have w:=ah9 w;clear d;have b:i<us.length:=ad
 obtain ⟨a,sa,sb,sc,sd,rfl,hc,hv⟩:=v.cells i b;have na:=hv.text.len;have nb:=hv.data.len;have nc:=hv.bj.len;have s:aH h1 (a.add (i*4)) 0 [bU.v sa]:=⟨hc.1,trivial⟩
 have t:aH h1 ((a.add (i*4)).add 1) 0 [bU.v sb]:=gK _ 1 0 ⟨hc.2.1,trivial⟩;have u:aH h1 ((a.add (i*4)).add 2) 0 [bU.v sc]:=gK _ 2 0 ⟨hc.2.2.1,trivial⟩;have qT:CJ us[i]=true->(T.ret (.bool true)) [Jl (cs:=Nb) (fun y m h'=>∃ i:Nat,y.1=false/\y.2.1=((jc (us.take i):Nat):Int)/\y.2.2.1=(i:Int)/\m=l-i/\i<=l/\i<=65/\h'=h1/\(us.take i).any CJ=false/\jc (us.take i)<=i*1000) (l-i)] (fun v' h'=>v'=.bool (uF us)/\h'=h1) h1:=by
  intro z;refine ⟨?_,rfl⟩;unfold uF;rw [NK CJ us b ad z] <;> rfl
 refine bS rfl ?_;refine ay ((sa.p,sa.l,sa.c),()) s (ao ?_);refine aw (fun g=>?_) (fun g1=>?_)
 ·have g:=ah9 g;refine qT ?_;unfold CJ;rw [aj9 ad] <;> rfl
 have g1:=av9 g1;refine bS rfl ?_;refine ay ((sb.p,sb.l,sb.c),()) t (ao ?_);refine aw (fun g=>?_) (fun g2=>?_)
 ·have g:=ah9 g;refine qT ?_;unfold CJ;rw [aj9 (show 300<us[i].data.length from ad)]
  simp
 have g2:=av9 g2;refine bS rfl ?_;refine ay ((sc.p,sc.l,sc.c),()) u (ao ?_);refine aw (fun g=>?_) (fun g3=>?_)
 ·have g:=ah9 g;refine qT ?_;unfold CJ;rw [aj9 (show 100<us[i].bj.length from ad)]
  simp
 have g3:=av9 g3;refine bS rfl ?_;refine ay ((sa.p,sa.l,sa.c),()) s (ao ?_);refine bS rfl ?_;refine ay ((sb.p,sb.l,sb.c),()) t (ao ?_);refine bS rfl ?_;refine ay ((sc.p,sc.l,sc.c),()) u (ao ?_);rw [wrap_i64 (x:=((jc (us.take i):Nat):Int)+(sa.l:Int)) ad ad,wrap_i64 (x:=((jc (us.take i):Nat):Int)+(sa.l:Int)+(sb.l:Int)) ad ad,wrap_i64 (x:=((jc (us.take i):Nat):Int)+(sa.l:Int)+(sb.l:Int)+(sc.l:Int)) ad ad,wrap_i64 (x:=(i:Int)+1) ad ad];have hst:=Ia us b;have n:KQ us[i]=sa.l+sb.l+sc.l:=by unfold KQ; omega
 refine aG (cs:=Nb) (false,((jc (us.take (i+1)):Nat):Int),((i+1:Nat):Int),()) (l-(i+1)) rfl ad ?_ ?_
 ·show [Value.bool false,Value.int .i64 (((jc (us.take i):Nat):Int)+(sa.l:Int)+(sb.l:Int)+(sc.l:Int)),Value.int .i64 ((i:Int)+1)]=[Value.bool false,Value.int .i64 ((jc (us.take (i+1)):Nat):Int),Value.int .i64 ((i+1:Nat):Int)];rw [hst,n]
  congr 3
  omega
 ·refine ⟨i+1,rfl,rfl,rfl,rfl,ad,ad,rfl,?_,ad⟩;rw [ae9 b,List.any_append,q,ey9];unfold CJ;simp only [List.any_cons,List.any_nil,Bool.or_false,Bool.or_eq_false_iff,decide_eq_false_iff_not];omega
def UF:Array (Nat × Xab):=#[(0,.agg #[.string ⟨#[110,111,112]⟩,.int .u8 (0:Int),vI (1:Int)]),(1,.agg #[.string ⟨#[104,97,108,116]⟩,.int .u8 (1:Int),vI (1:Int)]),(2,.agg #[.string ⟨#[114,101,116]⟩,.int .u8 (2:Int),vI (1:Int)]),(3,.agg #[.string ⟨#[112,114,105,110,116]⟩,.int .u8 (3:Int),vI (2:Int)]),(4,.agg #[.string ⟨#[105,110]⟩,.int .u8 (4:Int),vI (2:Int)]),(5,.agg #[.string ⟨#[112,117,115,104]⟩,.int .u8 (5:Int),vI (2:Int)]),(6,.agg #[.string ⟨#[112,111,112]⟩,.int .u8 (6:Int),vI (2:Int)]),(7,.agg #[.string ⟨#[106,114]⟩,.int .u8 (7:Int),vI (2:Int)]),(8,.agg #[.string ⟨#[110,101,103]⟩,.int .u8 (8:Int),vI (2:Int)]),(9,.agg #[.string ⟨#[110,111,116]⟩,.int .u8 (9:Int),vI (2:Int)]),(10,.agg #[.string ⟨#[122,116,117,114,110]⟩,.int .u8 (10:Int),vI (3:Int)]),(11,.agg #[.string ⟨#[122,99,111,110,106]⟩,.int .u8 (11:Int),vI (3:Int)]),(12,.agg #[.string ⟨#[109,111,118]⟩,.int .u8 (16:Int),vI (4:Int)]),(13,.agg #[.string ⟨#[97,100,100]⟩,.int .u8 (17:Int),vI (4:Int)]),(14,.agg #[.string ⟨#[115,117,98]⟩,.int .u8 (18:Int),vI (4:Int)]),(15,.agg #[.string ⟨#[109,117,108]⟩,.int .u8 (19:Int),vI (4:Int)]),(16,.agg #[.string ⟨#[100,105,118]⟩,.int .u8 (20:Int),vI (4:Int)]),(17,.agg #[.string ⟨#[97,110,100]⟩,.int .u8 (21:Int),vI (4:Int)]),(18,.agg #[.string ⟨#[111,114]⟩,.int .u8 (22:Int),vI (4:Int)]),(19,.agg #[.string ⟨#[120,111,114]⟩,.int .u8 (23:Int),vI (4:Int)]),(20,.agg #[.string ⟨#[115,104,108]⟩,.int .u8 (24:Int),vI (4:Int)]),(21,.agg #[.string ⟨#[115,104,114]⟩,.int .u8 (25:Int),vI (4:Int)]),(22,.agg #[.string ⟨#[108,116]⟩,.int .u8 (26:Int),vI (4:Int)]),(23,.agg #[.string ⟨#[101,113]⟩,.int .u8 (27:Int),vI (4:Int)]),(24,.agg #[.string ⟨#[108,100,98]⟩,.int .u8 (28:Int),vI (4:Int)]),(25,.agg #[.string ⟨#[108,100,119]⟩,.int .u8 (29:Int),vI (4:Int)]),(26,.agg #[.string ⟨#[108,100,109]⟩,.int .u8 (30:Int),vI (4:Int)]),(27,.agg #[.string ⟨#[115,116,109]⟩,.int .u8 (31:Int),vI (4:Int)]),(28,.agg #[.string ⟨#[122,109,111,118]⟩,.int .u8 (32:Int),vI (5:Int)]),(29,.agg #[.string ⟨#[122,97,100,100]⟩,.int .u8 (33:Int),vI (5:Int)]),(30,.agg #[.string ⟨#[122,115,117,98]⟩,.int .u8 (34:Int),vI (5:Int)]),(31,.agg #[.string ⟨#[122,109,117,108]⟩,.int .u8 (35:Int),vI (5:Int)]),(32,.agg #[.string ⟨#[122,114,101]⟩,.int .u8 (36:Int),vI (6:Int)]),(33,.agg #[.string ⟨#[122,105,109]⟩,.int .u8 (37:Int),vI (6:Int)]),(34,.agg #[.string ⟨#[122,115,101,116]⟩,.int .u8 (38:Int),vI (7:Int)]),(35,.agg #[.string ⟨#[108,105,115]⟩,.int .u8 (48:Int),vI (8:Int)]),(36,.agg #[.string ⟨#[116,114,97,112]⟩,.int .u8 (49:Int),vI (9:Int)]),(37,.agg #[.string ⟨#[108,105]⟩,.int .u8 (50:Int),vI (10:Int)]),(38,.agg #[.string ⟨#[108,100,112]⟩,.int .u8 (51:Int),vI (11:Int)]),(39,.agg #[.string ⟨#[106,109,112]⟩,.int .u8 (64:Int),vI (12:Int)]),(40,.agg #[.string ⟨#[99,97,108,108]⟩,.int .u8 (67:Int),vI (12:Int)]),(41,.agg #[.string ⟨#[106,122]⟩,.int .u8 (70:Int),vI (13:Int)]),(42,.agg #[.string ⟨#[106,110,122]⟩,.int .u8 (73:Int),vI (13:Int)])]
def vW (k:Nat):Xaa:=match UF[k]? with | some (_,.agg #[.string s,_,_])=>s | _=>⟨#[]⟩
def xg (k:Nat):Int:=match UF[k]? with | some (_,.agg #[_,.int _ b,_])=>b | _=>0
def ZK:Tryz.prog.underlying 141=some (.slice 144):=ax
def opZ:(Tryz.prog.info? 144).map (fun i=>(i.zero,i.size,i.bytes))=some (some (.agg #[.string ⟨#[]⟩,.int .u8 0,vI 0]),3,32):=ax
def Ua:Instr.fill (fun j=>some (j*3,3)) ((Array.range (43*3)).map ((Value.agg #[.string ⟨#[]⟩,.int .u8 0,vI 0]).cells[· % (Value.agg #[.string ⟨#[]⟩,.int .u8 0,vI 0]).cells.size]!)) UF.toList=some (lT vW xg).toArray:=ax
def WL (h:Hp):HC Xaz 49 #[] h fun v h'=>v=.slice (some ⟨h.size,0,none⟩) 43 43/\bC h' h.size 144 (lT vW xg)/\Ext h h':=by
 refine bd (args:=[]) mixed Tryz.func49 ax rF ?_;show (T.eH Xaz (Instr.buildSlice 141 43 UF) false [(false,[.slice 0])] <| fun (p0:Xac) (a b:Nat)=>T.ret (.slice p0 a b)) [] _ h;refine nS ZK opZ ad ad Ua ?_;intro h1 c e1 z1;exact ⟨rfl,c,e1⟩
def Nj {nm:Nat->Xaa} {by_:Nat->Int} {k:Nat} (hk:k<43):(lT nm by_)[k*3+2]?=some (vI (oJ.getD k 0:Nat)):=by
 unfold lT;rw [xd _ 3 aj _ _ _ ad];simp [hk]
def oQ (h:Hp) (op:Int) (f:Sm op):HC Xaz 26 #[vI op] h fun w h'=>w=vI (dy op:Nat)/\Ext h h':=by
 refine bd (args:=[vI op]) mixed Tryz.func26 ax (oZ op) ?_;unfold kz bP bq;refine aK (WL h) ?_;rintro _ h1 ⟨rfl,d,e1⟩;refine ⟨((some ⟨h.size,0,none⟩,43,43),()),rfl,ao ?_⟩;have c:op<1\/43<op->dy op=0:=by
  intro g
  by_cases h0:dy op=0
  ·exact h0
  ·have:=IM op h0
   omega
 refine aw ?_ ?_<;>intro q
 ·have q:=ah9 q;rw [c (.inl q)];exact ⟨rfl,e1⟩
 have q:=av9 q;refine aw ?_ ?_<;>intro r
 ·have r:op>((43:Nat):Int):=ah9 r;rw [c (.inr ad)];exact ⟨rfl,e1⟩
 have r:¬ op>((43:Nat):Int):=av9 r;obtain ⟨k,hk⟩:∃ k:Nat,op=(k:Int)+1:=⟨(op-1).toNat,ad⟩
 rw [wrap_i64 ad ad,show op-1=(k:Int) from ad];have a:k<43:=ad
 refine hZ ?_;refine bm rfl ?_;rw [cr k,aE,aE];have e:dy op=oJ.getD k 0:=by
  unfold dy;rw [ac9 ad,show (op-1).toNat=k from ad]
 refine bI d (((oJ.getD k 0:Nat):Int),()) ?_ ?_
 ·show List.take 1 (List.drop (0+k*3+2) (lT vW xg))=[vI ((oJ.getD k 0:Nat):Int)]
  have:=Nj (nm:=vW) (by_:=xg) a
  rw [bu9];obtain ⟨b,hv⟩:=ax9.1 this;rw [aw9 b,List.take_succ_cons,List.take_zero,hv]
 ·rw [e];exact ⟨rfl,e1⟩
def DM (h:Hp) (op:Int) (a:Sm op):HC Xaz 125 #[vI op] h fun w h'=>w=.bool (tR op)/\Ext h h':=by
 refine bd (args:=[vI op]) mixed Tryz.func125 ax (pe op) ?_;unfold kp cQ ez;have hc:=iP op;refine aK (oQ h op a) ?_;rintro _ h1 ⟨rfl,e1⟩;refine ⟨(((dy op:Nat):Int),()),rfl,ao ?_⟩;refine aw ?_ ?_<;>intro q
 ·have q:dy op=12:=G5 q;exact ⟨by unfold tR; rw [q]; rfl,e1⟩
 have q:¬ dy op=12:=Hf q;refine aK (oQ h1 op a) ?_;rintro _ h2 ⟨rfl,e2⟩;refine ⟨(((dy op:Nat):Int),()),rfl,?_⟩;refine ⟨?_,e1.trans e2⟩
 congr 1
 unfold tR
 by_cases g:dy op=13
 ·rw [g]; rfl
 ·rw [ak9 ad];exact neK (c:=13) g
def Lh (h:Hp) (op:Int) (e:Sm op):HC Xaz 127 #[vI op] h fun w h'=>w=.bool (HV op)/\Ext h h':=by
 refine bd (args:=[vI op]) mixed Tryz.func127 ax (qA op) ?_;unfold kZ cQ ez;have hc:=iP op;refine aK (oQ h op e) ?_;rintro _ h1 ⟨rfl,e1⟩;refine ⟨(((dy op:Nat):Int),()),rfl,ao ?_⟩;refine aw (fun q=>?_) (fun a=>?_)
 ·have q:dy op=10:=G5 q;exact ⟨by unfold HV; rw [q]; rfl,e1⟩
 have a:¬ dy op=10:=Hf a;refine aw (fun q=>?_) (fun b=>?_)
 ·have q:dy op=11:=G5 q;exact ⟨by unfold HV; rw [q]; rfl,e1⟩
 have b:¬ dy op=11:=Hf b;refine aw (fun q=>?_) (fun d=>?_)
 ·have q:dy op=12:=G5 q;exact ⟨by unfold HV; rw [q]; rfl,e1⟩
 have d:¬ dy op=12:=Hf d;refine ⟨?_,e1⟩
 congr 1
 unfold HV
 by_cases g:dy op=13
 ·rw [g]; rfl
 ·rw [ak9 ad];exact neK (c:=13) g
def Tr (h:Hp) (n w:Int):uu Xaz 151 [.int .i32 n,vI w] h (.bool ((decide (w=1) || decide (w=2) || decide (w=4)) && nq n w)):=by
 refine ff mixed Tryz.func151 ax (qa n w) ?_;unfold lE nq bz ez;refine aw (fun q=>?_) (fun a=>?_)
 ·have q:w=1:=by simpa using q
  rw [ag9 q,q];refine aw (fun r=>⟨?_,rfl⟩) (fun r=>⟨?_,rfl⟩)
  ·have r:=ah9 r;rw [aj9 (show -128<=n from r)]
   simp
  ·have r:=av9 r;rw [ak9 (show ¬ -128<=n from r)]
   simp
 have a:¬ w=1:=by simpa using a
 rw [ac9 a];refine aw (fun q=>?_) (fun b=>?_)
 ·have q:w=2:=by simpa using q
  rw [ag9 q,q];refine aw (fun r=>⟨?_,rfl⟩) (fun r=>⟨?_,rfl⟩)
  ·have r:=ah9 r;rw [aj9 (show -32768<=n from r)]
   simp
  ·have r:=av9 r;rw [ak9 (show ¬ -32768<=n from r)]
   simp
 have b:¬ w=2:=by simpa using b
 rw [ac9 b];refine aw (fun q=>?_) (fun c=>?_)
 ·have q:w=4:=by simpa using q
  rw [q];exact ⟨rfl,rfl⟩
 ·have c:¬ w=4:=by simpa using c
  rw [ak9 a,ak9 b,ak9 c];exact ⟨rfl,rfl⟩
def aA (s:Nat):Nat:=if s=2\/s=8\/s=10\/s=11\/s=13\/s=4\/s=6 then 8 else if s=3\/s=5\/s=7 then 4 else 0
def bB (s:Nat):Nat:=if s=4\/s=7 then 8 else if s=5\/s=6 then 4 else 0
def Qb {s:Nat} (c:1<=s/\s<=13) (a b n:Int):cT s a b n=true↔(0<=a/\0<=b/\(a<(aA s:Int)\/(aA s=0/\a=0))/\(b<(bB s:Int)\/(bB s=0/\b=0))/\(s=7->0<=n/\n<=7)):=by
 have:s=1\/s=2\/s=3\/s=4\/s=5\/s=6\/s=7\/s=8\/s=9\/s=10\/s=11\/s=12\/s=13:=ad
 unfold cT xB aA bB;rcases this with rfl | rfl | rfl | rfl | rfl | rfl | rfl | rfl | rfl | rfl | rfl | rfl | rfl <;> simp <;> omega
def MJ (h:Hp) (op a b n form:Int) (e:Sm op) (g:dy op≠0):HC Xaz 150 #[dE op a b n form] h fun w h'=>w=.bool (cT (dy op) a b n)/\Ext h h':=by
 refine bd (args:=[dE op a b n form]) mixed Tryz.func150 ax (lL op a b n form) ?_;unfold iq cQ bz ez aQ;have hc:1<=dy op/\dy op<=13:=by have:=iP op; omega
 refine br ?_;intro h1 d e1 z1;refine az d (op,()) (ao ?_);refine aK (oQ h1 op e) ?_;rintro _ h2 ⟨rfl,e2⟩;refine ⟨(((dy op:Nat):Int),()),rfl,ao ?_⟩;have b2:=d.an e2 aj;have e02:=e1.trans e2;have hiff:=Qb hc a b n;generalize dy op=s at *;generalize cT s a b n=R at *;refine jb (cs:=gb) (fun y h'=>y=(((aA s:Nat):Int),((bB s:Nat):Int),())/\h2=h') ?_ ?_
 ·have:s=1\/s=2\/s=3\/s=4\/s=5\/s=6\/s=7\/s=8\/s=9\/s=10\/s=11\/s=12\/s=13:=ad
  rcases this with rfl | rfl | rfl | rfl | rfl | rfl | rfl | rfl | rfl | rfl | rfl | rfl | rfl
  all_goals (repeat (first | refine cj rfl ?_ | refine cg rfl ?_))
  all_goals exact dZ (cs:=gb) (((aA _:Nat):Int),((bB _:Nat):Int),()) rfl rfl ⟨rfl,rfl⟩
 rintro ⟨A,B,⟨⟩⟩ _ ⟨f,rfl⟩;cases f;refine ao ?_;simp only [aE];have c:∀ b:Bool,(b=true↔R=true)->(T.ret (.bool b)) [] (fun w h'=>w=.bool R/\Ext h h') h2:=by
  intro b i;refine ⟨?_,e02⟩;cases b <;> cases R <;> simp_all
 repeat' (first
  | (refine bI b2 (a,()) rfl ?_; refine ao ?_)
  | (refine bI b2 (b,()) rfl ?_; refine ao ?_)
  | (refine bI b2 (n,()) rfl ?_; refine ao ?_)
  | refine c _ ?_
  | refine aw (fun q=>?_) (fun q=>?_))
 all_goals (rw [hiff]; simp only [decide_eq_true_eq,decide_eq_false_iff_not,bne_iff_ne,ne_eq,bne_eq_false_iff_eq,Bool.false_eq_true,false_iff,true_iff] at *; omega)
def xk (n w:Int):Bool:=(decide (w=1) || decide (w=2) || decide (w=4)) && nq n w
def FZ (n w:Int):Prop:=(w=1/\-128<=n/\n<=127)\/(w=2/\-32768<=n/\n<=32767)\/w=4
def J7 (n w:Int):xk n w=true↔FZ n w:=by
 unfold xk nq FZ
 by_cases h1:w=1
 ·subst h1; simp
 ·by_cases h2:w=2
  ·subst h2; simp
  ·by_cases a:w=4
   ·subst a; simp
   ·simp [h1,h2,a]
def WA (n w:Int):xk n w=false↔¬ FZ n w:=by
 rw [<- J7]
 simp
def bF {i:Ins} (h0:dy i.op≠0) (l:cT (dy i.op) i.a i.b i.n=true) (P:Prop) (m:P↔((dy i.op=12\/dy i.op=13->FZ i.n i.form)/\(dy i.op≠12/\dy i.op≠13->i.form=0)/\(dy i.op=8->-128<=i.n/\i.n<=127)/\(dy i.op=9->0<=i.n/\i.n<=255)/\(dy i.op=11->0<=i.n/\i.n<=4095) /\
  (dy i.op<7->i.n=0))):(P->ir i=0)/\(¬ P->ir i=13):=by
 obtain ⟨op,a,b,n,form⟩:=i;simp only at *;have hc:=iP op;have c:(!tR op && decide (form≠0) || !nR (dy op) n form)=true↔¬ P:=by
  rw [m];unfold tR nR nq FZ
  have:dy op=1\/dy op=2\/dy op=3\/dy op=4\/dy op=5\/dy op=6\/dy op=7\/dy op=8\/dy op=9\/dy op=10\/dy op=11\/dy op=12\/dy op=13:=ad
  rcases this with h | h | h | h | h | h | h | h | h | h | h | h | h <;> rw [h]
  all_goals (
   by_cases f:form=1
   ·subst f; simp; try omega
   ·by_cases g:form=2
    ·subst g; simp; try omega
    ·by_cases j:form=4
     ·subst j; simp; try omega
     ·by_cases k:form=0
      ·subst k; simp; try omega
      ·simp [f,g,j,k])
 unfold ir;simp only;rw [ac9 h0,l,ac9 aj];refine ⟨fun d=>?_,fun d=>?_⟩
 ·rw [ac9 (fun e=>c.1 e d)]
 ·rw [ag9 (c.2 d)]
def ML (h:Hp) (op a b n form:Int) (g:Sm op):HC Xaz 126 #[dE op a b n form] h fun w h'=>w=vI (ir ⟨op,a,b,n,form⟩)/\Ext h h':=by
 refine bd (args:=[dE op a b n form]) mixed Tryz.func126 ax (oB op a b n form) ?_;unfold kD aZ cQ;refine br ?_;intro h1 j e1 z1;refine az j (op,()) (ao ?_);refine aK (oQ h1 op g) ?_;rintro _ h2 ⟨rfl,e2⟩;refine ⟨(((dy op:Nat):Int),()),rfl,ao ?_⟩;have b2:=j.an e2 aj;have e02:=e1.trans e2;refine aw ?_ ?_<;>intro q
 ·have q:dy op=0:=G5 q;exact ⟨by unfold ir; simp only; rw [ag9 q],e02⟩
 have q:¬ dy op=0:=Hf q;refine az b2 (op,a,b,n,form,()) (ao ?_);refine iG (MJ h2 op a b n form g q) ?_;intro h3 k;have b3:=b2.an k aj;have e03:=e02.trans k;refine aw ?_ ?_<;>intro r
 ·have r:cT (dy op) a b n=false:=by simpa using r
  exact ⟨by unfold ir; simp only; rw [ac9 q,r,ag9 rfl],e03⟩
 have r:cT (dy op) a b n=true:=by simpa using r
 have hc:=iP op;obtain ⟨e,c⟩:=bF (i:=⟨op,a,b,n,form⟩) q r _ Iff.rfl;simp only at e c;generalize ir ⟨op,a,b,n,form⟩=C at *;generalize dy op=s at *;clear r;have l:((s=12\/s=13->FZ n form)/\(s≠12/\s≠13->form=0)/\(s=8->-128<=n/\n<=127)/\(s=9->0<=n/\n<=255)/\(s=11->0<=n/\n<=4095)/\(s<7->n=0))->(T.ret (vI (0:Int))) [] (fun w h'=>w=vI C/\Ext h h') h3:=fun f=>⟨by rw [e f],e03⟩
 have d:¬ ((s=12\/s=13->FZ n form)/\(s≠12/\s≠13->form=0)/\(s=8->-128<=n/\n<=127)/\(s=9->0<=n/\n<=255)/\(s=11->0<=n/\n<=4095)/\(s<7->n=0))->(T.ret (vI (13:Int))) [] (fun w h'=>w=vI C/\Ext h h') h3:=fun f=>⟨by rw [c f],e03⟩
 clear e c;simp only [aE]
 repeat' (first
  | (refine bI b3 (n,()) rfl ?_; refine ao ?_)
  | (refine bI b3 (form,()) rfl ?_; refine ao ?_)
  | refine l ?_
  | refine d ?_
  | refine aP (b:=xk n form) (Tr h3 n form) ?_
  | refine aw (fun q=>?_) (fun q=>?_))
 all_goals (
  clear l d;simp only [decide_eq_true_eq,decide_eq_false_iff_not,bne_iff_ne,ne_eq,bne_eq_false_iff_eq,beq_iff_eq,beq_eq_false_iff_ne,Bool.not_eq_true',Bool.not_eq_false',J7,WA,FZ] at *;omega)
def oD (x:cC) (a b c d:Bool):Bool:=(!a || z1 x) && ((!b || z2 x) && ((!c || z3 x) && (!d || z4 x)))
def W7 (s:Xaa):(ByteArray.toList s==([]:List UInt8))=decide (s=dW):=by
 have:=rJ s dW
 rw [show ByteArray.toList dW=[] by rw [ByteArray.toList_eq]; rfl] at this;exact this
def Sz (n m:Nat) (i:Ins) (h:Hp) (K:Xab->Hp->Prop) (hk:K (.bool (decide (i=Ul))) h) :
  aS Xaz (Sx.lW (BinOp.eql) 49 (Operand.tmp n) (Operand.tmp m) (.agg #[vI i.op,vI i.a,vI i.b,.int .i32 i.n,vI i.form]) (.agg #[vI (0:Int),vI (0:Int),vI (0:Int),.int .i32 (0:Int),vI (0:Int)])) h K :=
 Tf _ _ i Ul h K hk
def S8 {h:Hp} {l c:Nat} (v:iD h O l H.e.ah) (d f g i:Bool) :
  HC Xaz 124 #[wV O l c H,.bool d,.bool f,.bool g,.bool i] h fun w h'=>w=.bool (oD H d f g i)/\Ext h h':=by
 refine bd (args:=[wV O l c H,.bool d,.bool f,.bool g,.bool i]) mixed Tryz.func124 ax (qx H.kind H.name H.inst.op H.inst.a H.inst.b H.inst.n H.inst.form O l c H.e.num H.n d f g i) ?_;unfold ly fh aF bz ez;have hl:=v.len;have j:RW H.e=(decide (l=0) && decide (H.e.num=0)):=by
  unfold RW
  congr 1
  rw [hl]
  simp
 refine br ?_;intro h1 bx e1 k;have bx:bC h1 h.size 55 (encI O l c H):=bx;simp only [aE];unfold oD z1 z2 z3 z4;rw [j]
 repeat' (first
  | (refine bI bx (H.n,()) rfl ?_; refine ao ?_)
  | (refine bI bx (H.name,()) rfl ?_; refine ao ?_)
  | (refine bI bx ((O,l,c),()) rfl ?_; refine ao ?_)
  | (refine bI bx ((H.e.num:Int),()) rfl ?_; refine ao ?_)
  | (refine bI bx (H.inst.op,H.inst.a,H.inst.b,H.inst.n,H.inst.form,()) rfl ?_; refine ao ?_)
  | refine wO (fun m o=>Sz _ _ H.inst h1 m o) ?_
  | refine ⟨as9 Value.bool ?_,e1⟩
  | refine aw (fun q=>?_) (fun q=>?_))
 all_goals (
  try simp only [W7] at *
  simp_all [du])
 all_goals omega
def UG (g:Nat) (i j l m:Bool) (k:Bool->T):T :=
 T.af ⟨g,0,none⟩ [.int .i64,.string,.int .i64,.int .i64,.int .i64,.int .i32,.int .i64,.slice 64,.int .u32,.int .i64] <| fun (n:Int) (o:Xaa) (p n8 q a b:Int) (c:Xac) (d e:Nat) (f h:Int) =>
  bP 124 [.agg #[vI n,.string o,vI p,vI n8,vI q,.int .i32 a,vI b,.slice c d e,aF f,vI h],.bool i,.bool j,.bool l,.bool m] false [cn] k
def iC {K:Xab->Hp->Prop} {h:Hp} {g l c:Nat} {d f i:Bool} {k:Bool->T} (bx:bC h g 55 (encI O l c H)) (v:iD h O l H.e.ah) (hk:∀ h',Ext h h'->k (oD H Y d f i) V K h'):UG g Y d f i k V K h:=by
 unfold UG bP aF cn;refine az bx (H.kind,H.name,H.inst.op,H.inst.a,H.inst.b,H.inst.n,H.inst.form,(O,l,c),(H.e.num:Int),H.n,()) (ao ?_);exact iG (S8 v Y d f i) hk
def DT (h:Hp) (n:Int):uu Xaz 128 [vI n] h (.bool (vG n)):=by
 refine ff mixed Tryz.func128 ax (pI n) ?_;unfold kC bq bz ez aQ cn;refine aT (cs:=gT) (fun y m h'=>∃ k:Nat,y=(false,((2^k:Nat):Int),())/\m=9-k/\k<=9/\h'=h/\(∀ j,j<k->¬ n=((2^j:Nat):Int))) (false,(1:Int),()) 9 rfl
  ⟨0,rfl,rfl,ad,rfl,fun j a=>ad⟩ ?_
 rintro ⟨o,p,⟨⟩⟩ m h1 ⟨k,e,s,hk,rfl,a⟩;cases e;refine ao ?_;refine aR ?_ ?_<;>intro q
 ·have b:k<=8:=by
   by_cases g:k=9
   ·subst g;exact absurd q bT
   ·omega
  refine aw ?_ ?_<;>intro r
  ·have r:n=((2^k:Nat):Int):=by simpa using r
   refine ⟨?_,rfl⟩
   have:k=0\/k=1\/k=2\/k=3\/k=4\/k=5\/k=6\/k=7\/k=8:=ad
   rcases this with rfl | rfl | rfl | rfl | rfl | rfl | rfl | rfl | rfl <;> (rw [r]; rfl)
  ·have r:¬ n=((2^k:Nat):Int):=by simpa using r
   have d:2^k<=2^8:=Nat.pow_le_pow_right ad b;have f:((2^k:Nat):Int)<=256:=by exact_mod_cast d
   have i:(0:Int)<=((2^k:Nat):Int):=Int.natCast_nonneg _;rw [wrap_i64 ad ad];have h2:(2:Int)*((2^k:Nat):Int)=((2^(k+1):Nat):Int):=by rw [Nat.pow_succ]; omega
   rw [h2];refine aG (cs:=gT) (false,((2^(k+1):Nat):Int),()) (9-(k+1)) rfl ad rfl ⟨k+1,rfl,rfl,ad,rfl,fun j l=>?_⟩
   by_cases g:j=k
   ·subst g; exact r
   ·exact a j ad
 ·have c:k=9:=by
   by_cases g:k=9
   ·exact g
   ·have d:2^k<=2^8:=Nat.pow_le_pow_right ad ad;omega
  subst c;refine ⟨?_,rfl⟩;have a0:=a 0 ad;have a1:=a 1 ad;have a2:=a 2 ad;have a3:=a 3 ad;have a4:=a 4 ad;have a5:=a 5 ad;have a6:=a 6 ad;have a7:=a 7 ad;have a8:=a 8 ad;unfold vG;simp only [Nat.reducePow] at a0 a1 a2 a3 a4 a5 a6 a7 a8;rw [ak9 ad,ak9 ad,ak9 ad,ak9 ad,ak9 ad,ak9 ad,ak9 ad,ak9 ad,ak9 ad] <;> rfl
def NO {h:Hp} {l c:Nat} (v:iV h O l H):HC Xaz 96 #[wV O l c H,vI (0:Int)] h fun w h'=>w=Fh (cJ H 0)/\Ext h h':=by
 refine bd (args:=[wV O l c H,vI (0:Int)]) mixed Tryz.func96 ax (ni H.kind H.name H.inst.op H.inst.a H.inst.b H.inst.n H.inst.form O l c H.e.num H.n) ?_;unfold iQ aZ cQ aF cn;have U:maxLen=9223372036854775807:=rfl;refine br ?_;intro h1 f e1 V;have f:bC h1 h.size 55 (encI O l c H):=f;have v1:=v.an e1;simp only [aE];refine jb (cs:=pA) (fun y h'=>y.1=cJ H 0/\Ext h h') ?_ ?_
 rotate_left
 ·rintro ⟨R,⟨⟩⟩ h' ⟨C,F⟩;simp only at C;subst C;refine ao ?_;cases hr:cJ H 0
  ·exact ⟨rfl,F⟩
  ·exact ⟨rfl,F⟩
 have d:∀ (b:Bool) (h':Hp),b=cJ H 0->Ext h h'->T.again 0 [.bool b] [fun W h'=>∃ y:qF (flat [(false,[.bool])]),W=parts [(false,[.bool])] (et _ y)/\(y.1=cJ H 0/\Ext h h')] (fun w h'=>w=Fh (cJ H 0)/\Ext h h') h':=by
  rintro b h' rfl F;exact dZ (cs:=pA) (J:=fun y h'=>y.1=cJ H 0/\Ext h h') (cJ H 0,()) rfl rfl ⟨rfl,F⟩
 refine az f (H.kind,()) (ao ?_)
 by_cases i:H.kind=1
 ·refine cj (by rw [i]; rfl) ?_;have hit:cJ H 0=(cE H.name.data.toList && z2 H && z3 H && z4 H):=by unfold cJ; rw [ag9 i]
  refine az f (H.name,()) (ao ?_);refine aP (tD H.name h1 (by have:=v.name; omega)) ?_;refine aw (fun q=>?_) (fun q=>d _ _ (by rw [hit,q]; rfl) e1);refine iC f v1.lin.vw ?_;intro h2 e2;exact d _ _ (by rw [hit,q]; unfold oD; simp [Bool.and_assoc]) (e1.trans e2)
 refine cg (by simpa using i) ?_
 by_cases k:H.kind=2
 ·refine cj (by rw [k]; rfl) ?_;have hit:cJ H 0=(AI H.inst H.e && z1 H && z4 H):=by unfold cJ; rw [ac9 i,ag9 k]; simp
  refine az f (H.inst.op,H.inst.a,H.inst.b,H.inst.n,H.inst.form,()) (ao ?_);refine br ?_;intro h2 R e2 X;refine bR R ?_;intro h3 D j Y;have D:bC h3 h1.size 49 (px H.inst):=D;have m:Ext h1 h3:=e2.st j (aq9 _);have b13:=f.an m aj;rw [aE];refine az D (H.inst.form,()) (ao ?_);refine jb (cs:=[]) (fun _ h'=>bC h' h1.size 49 (px { H.inst with form:=if tR H.inst.op then 1 else H.inst.form })/\Ext h1 h') ?_ ?_
  ·refine az D (H.inst.op,()) (ao ?_);refine iG (DM h3 H.inst.op v.op) ?_;intro h4 L;have b4:=D.an L aj;refine aw ?_ ?_<;>intro q
   ·refine dc b4 rfl (by simp [px]) ?_;intro M I t z5;exact dZ (cs:=[]) () rfl rfl ⟨by rw [ag9 q]; exact I,(m.trans L).st t (by have:=m.size; omega)⟩
   ·exact dZ (cs:=[]) () rfl rfl ⟨by rw [ac9 (by rw [q]; decide)]; exact b4,m.trans L⟩
  rintro _ M ⟨I,N⟩;refine ao ?_;have b15:=f.an N aj;have v5:=v1.an N;refine jb (cs:=pA) (fun y h'=>y.1=(decide (H.inst.form=0) && decide (ir { H.inst with form:=if tR H.inst.op then 1 else H.inst.form }=0) && (z1 H && z4 H))/\Ext M h') ?_ ?_
  ·refine aw ?_ ?_<;>intro q
   ·have q:H.inst.form=0:=by simpa using q
    refine az I (H.inst.op,H.inst.a,H.inst.b,H.inst.n,((if tR H.inst.op then (1:Int) else H.inst.form):Int),()) (ao ?_);refine aK (ML M H.inst.op H.inst.a H.inst.b H.inst.n (if tR H.inst.op then 1 else H.inst.form) v.op) ?_;rintro _ S ⟨rfl,o⟩;refine ⟨(ir { H.inst with form:=if tR H.inst.op then 1 else H.inst.form },()),rfl,ao ?_⟩;refine aw ?_ ?_<;>intro r
    ·have r:ir { H.inst with form:=if tR H.inst.op then 1 else H.inst.form }=0:=by simpa using r
     refine iC (b15.an o aj) (v5.an o).lin.vw ?_;intro Z A;exact dZ (cs:=pA) (oD H true false false true,()) rfl rfl ⟨by rw [aj9 q,aj9 r]; rfl,o.trans A⟩
    ·have r:¬ ir { H.inst with form:=if tR H.inst.op then 1 else H.inst.form }=0:=by simpa using r
     exact dZ (cs:=pA) (false,()) rfl rfl ⟨by rw [aj9 q,ak9 r]; rfl,o⟩
   ·have q:¬ H.inst.form=0:=by simpa using q
    exact dZ (cs:=pA) (false,()) rfl rfl ⟨by rw [ak9 q]; rfl,Ch.refl _ _⟩
  rintro ⟨b10,⟨⟩⟩ S ⟨C,o⟩;simp only at C;subst C;refine ao ?_;have b6:=I.an o aj;have b16:=b15.an o aj;have v6:=v5.an o;refine az b6 (H.inst.op,()) (ao ?_);refine iG (Lh S H.inst.op v.op) ?_;intro Z A;have b7:=b6.an A aj;have b17:=b16.an A aj;have v7:=v6.an A;have e07:=((e1.trans N).trans o).trans A;have hchk:HV H.inst.op=true->(decide (H.inst.form=0) && decide (ir { H.inst with form:=if tR H.inst.op then 1 else H.inst.form }=0) && (z1 H && z4 H) && (decide (H.inst.n=0) && ox none H.e.ah))=cJ H 0:=by
   intro s;rw [hit];unfold AI;rw [ag9 s]
   by_cases B:H.inst.form=0
   ·rw [aj9 B,B]
    by_cases c0:ir { H.inst with form:=if tR H.inst.op then 1 else 0 }=0
    ·have hs:=(F2 c0).1;simp only at hs;rw [aj9 c0,aj9 hs];simp only [Bool.true_and]
     ac_rfl
    ·rw [ak9 c0]
     simp
   ·rw [ak9 B]
    simp
  have u:HV H.inst.op=false->(decide (H.inst.form=0) && decide (ir { H.inst with form:=if tR H.inst.op then 1 else H.inst.form }=0) && (z1 H && z4 H) && z3 H)=cJ H 0:=by
   intro s;rw [hit];unfold AI;rw [ac9 (show ¬ (HV H.inst.op=true) by rw [s]; decide)];have P:tR H.inst.op=false:=by
    unfold HV at s;unfold tR;rw [decide_eq_false_iff_not] at s ⊢;omega
   rw [ac9 (show ¬ (tR H.inst.op=true) by rw [P]; decide)]
   by_cases B:H.inst.form=0
   ·rw [aj9 B];have hi:({ H.inst with form:=H.inst.form }:Ins)=H.inst:=rfl;rw [hi]
    by_cases c0:ir H.inst=0
    ·have hs:=(F2 c0).1;rw [aj9 c0,aj9 hs];unfold z3;simp only [Bool.true_and]
     ac_rfl
    ·rw [ak9 c0]
     simp
   ·rw [ak9 B]
    simp
  generalize (decide (H.inst.form=0) && decide (ir { H.inst with form:=if tR H.inst.op then 1 else H.inst.form }=0) && (z1 H && z4 H))=G at *;refine aw ?_ ?_<;>intro s
  ·have hchk:=hchk s;refine aw (fun g=>?_) (fun g=>d _ _ (by rw [<- hchk,g]; rfl) e07);refine az b7 (H.inst.n,()) (ao ?_);refine aw ?_ ?_<;>intro r
   ·have r:H.inst.n=0:=by simpa using r
    refine az b17 ((O,l,c),(H.e.num:Int),()) (ao ?_);refine aK (uK (c:=c) v7.lin.vw (by have:=v.lin.many; omega) v.lin.names) ?_;rintro _ h8 ⟨rfl,Q⟩;refine ⟨(ox none H.e.ah,()),rfl,?_⟩;exact d _ _ (by rw [<- hchk,g,aj9 r]; simp) (e07.trans Q)
   ·have r:¬ H.inst.n=0:=by simpa using r
    exact d _ _ (by rw [<- hchk,ak9 r]; simp) e07
  ·have hchk:=u s;refine aw (fun g=>?_) (fun g=>d _ _ (by rw [<- hchk,g]; rfl) e07);refine iC b17 v7.lin.vw ?_;intro h8 Q;exact d _ _ (by rw [<- hchk,g]; unfold oD; simp) (e07.trans Q)
 refine cg (by simpa using k) ?_
 by_cases j:H.kind=3
 ·refine cj (by rw [j]; rfl) ?_;have hit:cJ H 0=(vG H.n && z1 H && z2 H && z3 H):=by unfold cJ; rw [ac9 i,ac9 k,ag9 j]
  refine az f (H.n,()) (ao ?_);refine aP (DT h1 H.n) ?_;refine aw (fun q=>?_) (fun q=>d _ _ (by rw [hit,q]; rfl) e1);refine iC f v1.lin.vw ?_;intro h2 e2;exact d _ _ (by rw [hit,q]; unfold oD; simp [Bool.and_assoc]) (e1.trans e2)
 refine cg (by simpa using j) ?_
 by_cases z:H.kind=4
 ·refine cj (by rw [z]; rfl) ?_;have hit:cJ H 0=(z1 H && z2 H && z3 H && z4 H):=by unfold cJ; rw [ac9 i,ac9 k,ac9 j,ag9 z]; simp
  refine iC f v1.lin.vw ?_;intro h2 e2;exact d _ _ (by rw [hit]; unfold oD; simp [Bool.and_assoc]) (e1.trans e2)
 refine cg (by simpa using z) ?_
 by_cases t:H.kind=5
 ·refine cj (by rw [t]; rfl) ?_;exact d _ _ (by unfold cJ; rw [ac9 i,ac9 k,ac9 j,ac9 z,ag9 t]; simp) e1
 refine cg (by simpa using t) ?_
 by_cases E:H.kind=6
 ·refine cj (by rw [E]; rfl) ?_;exact d _ _ (by unfold cJ; rw [ac9 i,ac9 k,ac9 j,ac9 z,ac9 t,ag9 E]; simp) e1
 refine cg (by simpa using E) ?_
 by_cases K:H.kind=7
 ·refine cj (by rw [K]; rfl) ?_;exact d _ _ (by unfold cJ; rw [ac9 i,ac9 k,ac9 j,ac9 z,ac9 t,ac9 E,ag9 K]; simp) e1
 refine cg (by simpa using K) ?_;exact d _ _ (by unfold cJ; rw [ac9 i,ac9 k,ac9 j,ac9 z,ac9 t,ac9 E,ac9 K]) e1
def Qf {h:Hp} {l c:Nat} (v:iV h O l H):HC Xaz 96 #[wV O l c H,vI (1:Int)] h fun w h'=>w=Fh (cJ H 1)/\Ext h h':=by
 refine bd (args:=[wV O l c H,vI (1:Int)]) mixed Tryz.func96 ax (lY H.kind H.name H.inst.op H.inst.a H.inst.b H.inst.n H.inst.form O l c H.e.num H.n) ?_;unfold iR aZ aF cn;have K:maxLen=9223372036854775807:=rfl;refine br ?_;intro h1 f e1 L;have f:bC h1 h.size 55 (encI O l c H):=f;have v1:=v.an e1;simp only [aE];refine jb (cs:=pA) (fun y h'=>y.1=cJ H 1/\Ext h h') ?_ ?_
 rotate_left
 ·rintro ⟨G,⟨⟩⟩ h' ⟨s,z⟩;simp only at s;subst s;refine ao ?_;cases V:cJ H 1
  ·exact ⟨rfl,z⟩
  ·exact ⟨rfl,z⟩
 have d:∀ (b:Bool) (h':Hp),b=cJ H 1->Ext h h'->T.again 0 [.bool b] [fun M h'=>∃ y:qF (flat [(false,[.bool])]),M=parts [(false,[.bool])] (et _ y)/\(y.1=cJ H 1/\Ext h h')] (fun w h'=>w=Fh (cJ H 1)/\Ext h h') h':=by
  rintro b h' rfl z;exact dZ (cs:=pA) (J:=fun y h'=>y.1=cJ H 1/\Ext h h') (cJ H 1,()) rfl rfl ⟨rfl,z⟩
 refine az f (H.kind,()) (ao ?_)
 by_cases g:H.kind=1
 ·refine cj (by rw [g]; rfl) ?_;have hit:cJ H 1=(cE H.name.data.toList && z2 H && z3 H && z4 H):=by unfold cJ; rw [ag9 g]
  refine az f (H.name,()) (ao ?_);refine aP (tD H.name h1 (by have:=v.name; omega)) ?_;refine aw (fun q=>?_) (fun q=>d _ _ (by rw [hit,q]; rfl) e1);refine iC f v1.lin.vw ?_;intro h2 e2;exact d _ _ (by rw [hit,q]; unfold oD; simp [Bool.and_assoc]) (e1.trans e2)
 refine cg (by simpa using g) ?_
 by_cases j:H.kind=2
 ·refine cj (by rw [j]; rfl) ?_;have hit:cJ H 1=(false):=by unfold cJ; rw [ac9 g,ag9 j]; simp
  refine az f (H.inst.op,H.inst.a,H.inst.b,H.inst.n,H.inst.form,()) (ao ?_);refine br ?_;intro h2 G e2 N;refine bR G ?_;intro h3 t i P;have t:bC h3 h1.size 49 (px H.inst):=t;have k:Ext h1 h3:=e2.st i (aq9 _);have b13:=f.an k aj;rw [aE];refine az t (H.inst.form,()) (ao ?_);refine jb (cs:=[]) (fun _ h'=>bC h' h1.size 49 (px { H.inst with form:=if tR H.inst.op then 1 else H.inst.form })/\Ext h1 h') ?_ ?_
  ·refine az t (H.inst.op,()) (ao ?_);refine iG (DM h3 H.inst.op v.op) ?_;intro W D;have b4:=t.an D aj;refine aw ?_ ?_<;>intro q
   ·refine dc b4 rfl (by simp [px]) ?_;intro I E m X;exact dZ (cs:=[]) () rfl rfl ⟨by rw [ag9 q]; exact E,(k.trans D).st m (by have:=k.size; omega)⟩
   ·exact dZ (cs:=[]) () rfl rfl ⟨by rw [ac9 (by rw [q]; decide)]; exact b4,k.trans D⟩
  rintro _ I ⟨E,F⟩;refine ao ?_;have b15:=f.an F aj;have v5:=v1.an F;refine jb (cs:=pA) (fun y h'=>y.1=false/\Ext I h') (dZ (cs:=pA) (false,()) rfl rfl ⟨rfl,Ch.refl _ _⟩) ?_;rintro ⟨Q,⟨⟩⟩ R ⟨s,A⟩;simp only at s;subst s;refine ao ?_;have b6:=E.an A aj;have b16:=b15.an A aj;have v6:=v5.an A;refine az b6 (H.inst.op,()) (ao ?_);refine iG (Lh R H.inst.op v.op) ?_;intro Y B;have b7:=b6.an B aj;have b17:=b16.an B aj;have v7:=v6.an B;have e07:=((e1.trans F).trans A).trans B;refine aw ?_ ?_<;>intro S
  ·exact cg rfl (d _ _ (by rw [hit]) e07)
  ·exact cg rfl (d _ _ (by rw [hit]) e07)
 refine cg (by simpa using j) ?_
 by_cases i:H.kind=3
 ·refine cj (by rw [i]; rfl) ?_;have hit:cJ H 1=(vG H.n && z1 H && z2 H && z3 H):=by unfold cJ; rw [ac9 g,ac9 j,ag9 i]
  refine az f (H.n,()) (ao ?_);refine aP (DT h1 H.n) ?_;refine aw (fun q=>?_) (fun q=>d _ _ (by rw [hit,q]; rfl) e1);refine iC f v1.lin.vw ?_;intro h2 e2;exact d _ _ (by rw [hit,q]; unfold oD; simp [Bool.and_assoc]) (e1.trans e2)
 refine cg (by simpa using i) ?_
 by_cases o:H.kind=4
 ·refine cj (by rw [o]; rfl) ?_;exact d _ _ (by unfold cJ; rw [ac9 g,ac9 j,ac9 i,ag9 o]; simp) e1
 refine cg (by simpa using o) ?_
 by_cases m:H.kind=5
 ·refine cj (by rw [m]; rfl) ?_;have hit:cJ H 1=(decide (-128<=H.n) && decide (H.n<=255) && z1 H && z2 H && z3 H):=by unfold cJ; rw [ac9 g,ac9 j,ac9 i,ac9 o,ag9 m]; simp
  refine az f (H.n,()) (ao ?_);refine aw (fun q=>?_) (fun q=>d _ _ (by rw [hit,show decide (-128<=H.n)=false from q]; rfl) e1);refine az f (H.n,()) (ao ?_);refine aw (fun r=>?_) (fun r=>d _ _ (by rw [hit,r]; simp) e1);refine iC f v1.lin.vw ?_;intro h2 e2;exact d _ _ (by rw [hit,r,show decide (-128<=H.n)=true from q]; unfold oD; simp [Bool.and_assoc]) (e1.trans e2)
 refine cg (by simpa using m) ?_
 by_cases u:H.kind=6
 ·refine cj (by rw [u]; rfl) ?_;have hit:cJ H 1=(ox none H.e.ah && z1 H && z2 H && z4 H):=by unfold cJ; rw [ac9 g,ac9 j,ac9 i,ac9 o,ac9 m,ag9 u]; simp
  refine az f ((O,l,c),(H.e.num:Int),()) (ao ?_);refine aK (uK (c:=c) v1.lin.vw (by have:=v.lin.many; omega) v.lin.names) ?_;rintro _ h2 ⟨rfl,e2⟩;refine ⟨(ox none H.e.ah,()),rfl,ao ?_⟩;refine aw (fun q=>?_) (fun q=>d _ _ (by rw [hit,q]; rfl) (e1.trans e2));refine iC (f.an e2 aj) (v1.an e2).lin.vw ?_;intro h3 U;exact d _ _ (by rw [hit,q]; unfold oD; simp [Bool.and_assoc]) ((e1.trans e2).trans U)
 refine cg (by simpa using u) ?_
 by_cases C:H.kind=7
 ·refine cj (by rw [C]; rfl) ?_;have hit:cJ H 1=(decide (0<=H.n) && decide (H.n<=1048576) && z1 H && z2 H && z3 H):=by unfold cJ; rw [ac9 g,ac9 j,ac9 i,ac9 o,ac9 m,ac9 u,ag9 C]; simp
  refine az f (H.n,()) (ao ?_);refine aw (fun q=>?_) (fun q=>d _ _ (by rw [hit,show decide (0<=H.n)=false from q]; rfl) e1);refine az f (H.n,()) (ao ?_);refine aw (fun r=>?_) (fun r=>d _ _ (by rw [hit,r]; simp) e1);refine iC f v1.lin.vw ?_;intro h2 e2;exact d _ _ (by rw [hit,r,show decide (0<=H.n)=true from q]; unfold oD; simp [Bool.and_assoc]) (e1.trans e2)
 refine cg (by simpa using C) ?_;exact d _ _ (by unfold cJ; rw [ac9 g,ac9 j,ac9 i,ac9 o,ac9 m,ac9 u,ac9 C]) e1
def DC {h:Hp} {l c k:Nat} (v:iV h O l H) (hk:k<2):HC Xaz 96 #[wV O l c H,vI (k:Int)] h fun w h'=>w=Fh (cJ H k)/\Ext h h':=by
 have:k=0\/k=1:=ad
 rcases this with rfl | rfl
 ·exact NO v
 ·exact Qf v
end Go.Sx.Ob
