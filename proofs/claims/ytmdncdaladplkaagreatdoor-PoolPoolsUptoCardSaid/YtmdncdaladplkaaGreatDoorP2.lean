/- Contracts over heaps, part 2. Condition: as each statement says. -/
import Derived.Test.YtmdncdaladplkaaGreatDoorDxS
import Derived.Test.YtmdncdaladplkaaGreatDoorP1
import Derived.Test.YtmdncdaladplkaaGreatDoorBtB
import Derived.Test.YtmdncdaladplkaaGreatDoorBtC
import Derived.Test.YtmdncdaladplkaaGreatDoorBtD
set_option linter.all false
set_option maxRecDepth 100000
set_option maxHeartbeats 4000000
namespace Go.Sx
open Go.Proofs
section any
variable {P:Program} {h:Hp}
end any
variable {H:Hp}
def Cu (p:eH H) (u:Nat) (h2:u<18446744073709551616):HC Xaz 92 #[.int .u64 u,vI 10] H fun v h'=>v=.string ⟨(Lib.decDigits u).toArray⟩/\Ext H h':=by
 refine aX (args:=[.int .u64 u,vI 10]) mixed Tryz.func92 av (jf u 10) ?_;unfold fz cE eE bM bd bR bn aZ;refine bX rfl (ao (fun g1=>?_) (fun g1=>?_))
 ·have g1:=ah9 g1;rw [wrap_i64 ad ad];refine QA (Og u ad H) ?_;exact ⟨rfl,Ch.refl _ _⟩
 ·have g1:=ar9 g1;refine bm ?_;intro h1 m k z1;have p1:=p.aj k ai;refine je (tH p1 u ad h2) ?_;have n:Lib.nDigits u<=20:=by have:=Lib.numDigits_eq u ad h2; split at this <;> omega
  obtain ⟨t,d⟩:=cl9.1 Yq;refine dt (zo PO d ⟨H.size,0,none⟩ ad ad _ ?_);refine ⟨_,_,_,rfl,?_⟩;rw [show ((Lib.nDigits u:Nat):Int).toNat=Lib.nDigits u from ad];refine aE (LC m u 24 (Lib.nDigits u) (by simp; omega) ?_ (Lib.lt_pow_nDigits u) h2 ad) ?_
  ·intro j c;have c:j<24:=ad
   have:∀ j:Fin 24,[Value.int IntKind.u8 0,.int .u8 0,.int .u8 0,.int .u8 0,.int .u8 0,.int .u8 0,.int .u8 0,.int .u8 0,.int .u8 0,.int .u8 0,.int .u8 0,.int .u8 0,.int .u8 0,.int .u8 0,.int .u8 0,.int .u8 0,.int .u8 0,.int .u8 0,.int .u8 0,.int .u8 0,.int .u8 0,.int .u8 0,.int .u8 0,.int .u8 0][j.val]?=some (Value.int IntKind.u8 0):=by
    have e:[Value.int IntKind.u8 0,.int .u8 0,.int .u8 0,.int .u8 0,.int .u8 0,.int .u8 0,.int .u8 0,.int .u8 0,.int .u8 0,.int .u8 0,.int .u8 0,.int .u8 0,.int .u8 0,.int .u8 0,.int .u8 0,.int .u8 0,.int .u8 0,.int .u8 0,.int .u8 0,.int .u8 0,.int .u8 0,.int .u8 0,.int .u8 0,.int .u8 0]=List.replicate 24 (Value.int IntKind.u8 0):=rfl;intro j;rw [e,List.getElem?_replicate,af9 j.isLt]
   exact this ⟨j,c⟩
  ·rintro _ f ⟨rfl,o,z3,v',w,q,b⟩;refine ⟨(),rfl,ak ?_⟩;refine dt (zo PO d ⟨H.size,0,none⟩ ad ad _ ?_);refine ⟨_,_,_,rfl,?_⟩;rw [show ((Lib.nDigits u:Nat):Int).toNat=Lib.nDigits u from ad];have r:aP Xaz (convert 204 9 (.slice (some ⟨H.size,0,none⟩) (Lib.nDigits u) 24)) f fun v h'=>∃ x:qH (flat [(false,[.string])]),v=rv false [(false,[.string])] (ep _ x)/\Er (flat [(false,[.string])]) (R:=T) (fun (g:Xaa)=>T.ret (.string g)) x [] (fun v h'=>v=.string ⟨(Lib.decDigits u).toArray⟩/\Ext H h') h':=by
    unfold convert;rw [an,az Wc,an,az wT];show aP Xaz (do match <- underlying 5 with
     | .int .u8=>Conv.bytesToString (.slice (some ⟨H.size,0,none⟩) (Lib.nDigits u) 24)
     | .int .i32=>Conv.runesToString (.slice (some ⟨H.size,0,none⟩) (Lib.nDigits u) 24)
     | _ => stuck "Convert: a slice of what to string?") f _
    rw [an,az ZB];have hl:Lib.nDigits u=(Lib.decDigits u).length:=(Lib.decDigits_length u).symm;rw [hl];refine xE ⟨H.size,0,none⟩ (Lib.decDigits u) 24 _ ?_ ?_
    ·have:∀ (vs:List Xab) (i:Nat),(∀ j,(c:j<vs.length)->gS f ⟨H.size,i+j,none⟩=some vs[j])->aF f ⟨H.size,0,none⟩ i vs:=by
      intro vs
      induction vs with
      | nil=>intro i _; trivial
      | cons v vs s =>
       intro i l;refine ⟨?_,s (i+1) fun j c=>?_⟩
       ·rw [ay,bv9]
        have:=l 0 ai
        simpa using this
       ·have:=l (j+1) (by simpa using c)
        rw [show i+1+j=i+(j+1) from ad];simpa using this
     refine this _ 0 fun j c=>?_
     rw [ab9] at c;rw [bv9,b j ad,am9,Lib.row_is_numeral q j c]
    ·exact ⟨(⟨(Lib.decDigits u).toArray⟩,()),rfl,rfl,bU k o⟩
   exact r
def C9 (p:eH H) (u:Nat) (h2:u<18446744073709551616):HC Xaz 68 #[.int .u64 u,vI 10] H fun v h'=>v=.string ⟨(Lib.decDigits u).toArray⟩/\Ext H h':=by
 refine aX (args:=[.int .u64 u,vI 10]) mixed Tryz.func68 av (pC u 10) ?_;unfold kL eE;refine aE (Cu p u h2) ?_;rintro _ h1 ⟨rfl,a⟩;exact ⟨(_,()),rfl,rfl,a⟩
variable {O V:Nat} {U:Xac}
def TR {c:Nat} {xs:List Xaa} (s:SL H O 9 1 U V c (xs.map fun s=>[.string s])) (d:Xaa) (r:xs.length<=140737488355328)
  (k:(Lib.join (xs.map (·.data.toList)) d.data.toList).length<=140737488355328) :
  HC Xaz 69 #[.slice U V c,.string d] H fun v h'=>v=.string ⟨(Lib.join (xs.map (·.data.toList)) d.data.toList).toArray⟩/\Ext H h':=by
 intro W t;subst t;have hl:V=xs.length:=by rw [s.1,ab9]
 cases U with
 | none =>
  have h0:=s.2.2;have u:xs=[]:=by have:=h0.2; simpa using this
  subst u;simp only [List.length_nil] at hl;subst hl;exact (Tryz.strings_Join_none none c d W).mono fun e w' ⟨w,f⟩=>⟨_,w,by rw [f]; exact dI.refl W,rfl,by rw [f]; exact Ch.refl _ _⟩
 | some a =>
  obtain ⟨g,n,rest,rfl,y,o,m,B⟩:=s.2.2;subst hl;refine (Tryz.strings_Join g n.length c xs d W ?_ m.lt r o.1 k).mono ?_
  ·intro j x z;obtain ⟨q,rfl⟩:=ax9.1 z;obtain ⟨a,A,hc⟩:=s.cells (i:=j) (by simpa using q);cases A;rw [am9,ay,Nat.mul_one] at hc
   have:=hc.1
   rw [ay,eo9] at this;exact this
  ·rintro e w' ⟨rfl,f⟩;exact ⟨_,rfl,⟨f.os,f.tape,f.output⟩,rfl,f.size,fun i hi _=>f.block i hi⟩
def Su {x:bJ} (v:ik H U O x.ah) (r:eH H) (hl:x.ah.length<=2^30) (W:∀ t,t∈x.ah->t.1.size<=32/\t.2<4294967296) (hn:x.num<4294967296) :
  HC Xaz 42 #[gU U O V x] H fun w h'=>w=.string (fA x)/\Ext H h':=by
 refine aX (args:=[.agg #[.slice U O V,.int .u32 x.num]]) mixed Tryz.func42 av (B3 U O V x.num) ?_;unfold ze aR aY bq aH eE bd aC aZ bZ aM cR;have hll:=v.len;have h10:=r.lt;refine bm ?_;intro h1 b1 e1 z1;refine aw b1 ((U,O,V),()) (ak ?_);refine aQ (cs:=kA) (fun y w h'=>∃ (i:Nat),y.2.1=(i:Int)/\i<=x.ah.length/\w=x.ah.length-i/\Ext h1 h'/\y.1.2.1=i/\SL h' h1.size 9 1 y.1.1 y.1.2.1 y.1.2.2 (((x.ah.take i).map gP).map fun s=>[.string s]))
  ((none,0,0),(0:Int),()) x.ah.length rfl ⟨0,rfl,ad,ad,Ch.refl _ _,rfl,SL.nil _ _ _ _⟩ ?_
 rintro ⟨⟨q,m,d⟩,n8,⟨⟩⟩ w h2 ⟨i,hi,hile,rfl,I,R,C⟩;simp only at hi R C;subst hi;subst R;refine ak ?_;have hz2:=I.size;have e02:=e1.trans I;have p2:=r.aj e02 ai;refine aK ?_ ?_<;>intro g1
 ·have k:m<x.ah.length:=ad
  obtain ⟨a,rfl,hc⟩:=(v.aj e02 ai).cells m k;have J:x.ah.take (m+1)=x.ah.take m++[x.ah[m]]:=ag9 k;obtain ⟨n,K⟩:=W x.ah[m] (al9 k);generalize x.ah[m]=t at hc J n K;refine bK rfl ?_;rw [cr m];refine ar (t.1,(t.2:Int),()) hc (ak ?_);refine bm ?_;intro h3 b3 e3 z3;refine bP b3 ?_;intro h4 D k4 z4;have D:br h4 h2.size 64 [.string t.1,.int .u32 t.2]:=D;have o:Ext h2 h4:=bU e3 k4;have s4:=C.bF o ai;have hw:=hY m;have u:∀ s,gP t=s->((x.ah.take (m+1)).map gP).map (fun s=>[Value.string s])=((x.ah.take m).map gP).map (fun s=>[Value.string s])++[[.string s]]:=by
   rintro s rfl;rw [J,ao9,ao9] <;> rfl
  try rw [ay]
  refine aw D ((t.2:Int),()) (ak ?_);refine ao ?_ ?_<;>intro b
  ·have b:t.2=1:=by have:(t.2:Int)=1:=(by simpa using b); omega
   refine aw D (t.1,()) (ak ?_);refine fg (vs:=[.string t.1]) OU Nq rfl ad ad av rfl rfl s4 ad ad ad ?_;intro p' c' h7 M G N;have E:Ext h1 h7:=Ch.trans (I.trans o) G (fun j P hl=>by have:=(s4.cw P).1; omega);refine aD (cs:=kA) ((p',m+1,c'),((m+1:Nat):Int),()) (x.ah.length-(m+1)) rfl ad (aq9 (fun z=>[Value.slice p' (m+1) c',Value.int .i64 z]) hw) ⟨m+1,rfl,ad,rfl,E,rfl,?_⟩;rw [u t.1 (by unfold gP; rw [af9 b])];exact M
  ·have b:¬ t.2=1:=by have:¬ (t.2:Int)=1:=(by simpa using b); omega
   try rw [ay]
   refine aw D ((t.2:Int),()) (ak ?_);refine aw D (t.1,()) (ak ?_);rw [wrap_u64 ad ad];refine aE (C9 (p2.aj o ai) t.2 ad) ?_;rintro _ S ⟨rfl,A⟩;refine ⟨(eK t.2,()),rfl,ak ?_⟩;have b5:=D.aj A ai;have hds:=Ax K;have f:∀ h',Ext S h'->T.BY h' [(⟨h2.size,0,none⟩,[.string t.1]),((⟨h2.size,0,none⟩:Xax).add 1,[.int .u32 t.2])]:=fun h' e=>⟨(b5.aj e ai).cells _ rfl,by rw [ay]; exact (b5.aj e ai).cells _ rfl,trivial⟩
   have g:∀ h',Ch (aG q) S h'->T.BY h' [(⟨h2.size,0,none⟩,[.string t.1]),((⟨h2.size,0,none⟩:Xax).add 1,[.int .u32 t.2])]:=fun h' e=>by
    have b6:=b5.aj e (fun R=>by have:=(C.cw R).2; omega);exact ⟨b6.cells _ rfl,by rw [ay]; exact b6.cells _ rfl,trivial⟩
   try rw [ay] at f
   try rw [ay] at g
   try rw [ay]
   refine ⟨f S (Ch.refl _ _),?_⟩;have h42:(⟨#[42]⟩:Xaa).size=1:=rfl;refine dy ad (dy (by rw [mj]; omega) ?_);have s5:=s4.bF A ai;refine gz (vs:=[.string ((eK t.2++⟨#[42]⟩)++t.1)]) OU Nq rfl ad ad av rfl rfl s5 (by have:=A.size; omega) ad ad f ?_;intro p' c' h7 M G N;refine ⟨g h7 G,?_⟩;have E:Ext h1 h7:=Ch.trans ((I.trans o).trans A) G (fun j P hl=>by have:=(s4.cw P).1; omega);refine aD (cs:=kA) ((p',m+1,c'),((m+1:Nat):Int),()) (x.ah.length-(m+1)) rfl ad (aq9 (fun z=>[Value.slice p' (m+1) c',Value.int .i64 z]) hw) ⟨m+1,rfl,ad,rfl,E,rfl,?_⟩;rw [u _ (show gP t=(eK t.2++⟨#[42]⟩)++t.1 by unfold gP; rw [ac9 b])];exact M
 ·have hi:m=x.ah.length:=ad
  subst hi;rw [bl9] at C;have b2:=b1.aj I ai;have n:∀ xs:List Xaa,x.ah.map gP++mU x=xs->(Lib.join (xs.map (·.data.toList)) [43]).length<=140737488355328/\xs.length<=140737488355328:=by
   rintro xs rfl;have h1:=join_length ((x.ah.map gP++mU x).map (·.data.toList)) 53 (by
    intro y hy;obtain ⟨s,X,rfl⟩:=an9.1 hy;rw [show s.data.toList.length=s.size from ai];rcases as9.1 X with H | H
    ·obtain ⟨t,ht,rfl⟩:=an9.1 H;exact IG (W t ht).1 (W t ht).2
    ·unfold mU at H;split at H
     ·rw [ak9] at H;subst H
      have:=Ax hn
      omega
     ·simp at H)
   have h2:(mU x).length<=1:=by unfold mU; split <;> simp
   rw [ab9] at h1;rw [ae9,ab9] at h1 ⊢;have h3:(x.ah.length+(mU x).length)*(53+1)<=(2^30+1)*54:=Nat.mul_le_mul ad ad;constructor
   ·omega
   ·omega
  have Q:∀ (hx:Hp) (q:Xac) (m d:Nat),Ext H hx->SL hx h1.size 9 1 q m d ((x.ah.map gP++mU x).map fun s=>[.string s])->∀ L,(T.call Xaz 69 [.slice q m d,.string ⟨#[43]⟩] false [(false,[.string])] fun (F:Xaa)=>T.ret (.string F)) L (fun w h'=>w=.string (fA x)/\Ext H h') hx:=by
   intro hx q m d ex sx L;refine aE (TR sx ⟨#[43]⟩ (n _ rfl).2 (n _ rfl).1) ?_;rintro _ h9 ⟨rfl,e9⟩;exact ⟨(fA x,()),rfl,rfl,ex.trans e9⟩
  have put:mU x=[eK x.num]->∀ L,(T.af ⟨H.size,1,none⟩ [.int .u32] fun (Y:Int)=>T.call Xaz 68 [.int .u64 (IntKind.wrap .u64 Y),vI (10:Int)] false [(false,[.string])] fun (Z:Xaa) =>
    T.ef Xaz (Instr.buildSlice 68 1 #[(0,.string Z)]) false [(false,[.slice 0])] fun (p12:Xac) (l13 l14:Nat) =>
    T.ef Xaz (Builtin.append_ #[68,68] 68 #[.slice q x.ah.length d,.slice p12 l13 l14]) false [(false,[.slice 0])] fun (p15:Xac) (l16 l17:Nat) =>
    T.call Xaz 69 [.slice p15 l16 l17,.string ⟨#[43]⟩] false [(false,[.string])] fun (F:Xaa)=>T.ret (.string F)) L (fun w h'=>w=.string (fA x)/\Ext H h') h2:=by
   intro ht L;refine aw b2 ((x.num:Int),()) (ak ?_);rw [wrap_u64 ad ad];refine aE (C9 p2 x.num ad) ?_;rintro _ S ⟨rfl,A⟩;refine ⟨(eK x.num,()),rfl,ak ?_⟩;refine fg (vs:=[.string (eK x.num)]) OU Nq rfl ad ad av rfl rfl (C.bF A ai) (by have:=A.size; omega) ad ad ?_;intro p' c' h7 M G N;refine Q h7 p' (x.ah.length+1) c' (Ch.trans (e02.trans A) G (fun j P hl=>by have:=(C.cw P).1; omega)) ?_ _;rw [ht,ao9];exact M
  try rw [ay]
  refine aw b2 ((x.num:Int),()) (ak ?_);refine ao ?_ ?_<;>intro b
  ·have b:¬ x.num=0:=by simpa using b
   try rw [ay]
   exact put (by unfold mU; rw [af9 (.inl b)]) _
  ·have b:x.num=0:=by simpa using b
   refine ao ?_ ?_<;>intro B
   ·have B:x.ah=[]:=by
     have:x.ah.length=0:=by
      have:(x.ah.length:Int)=0:=by simpa using B
      omega
     exact dx9.1 this
    try rw [ay]
    exact put (by unfold mU; rw [af9 (.inr B)]) _
   ·have B:¬ x.ah=[]:=by
     intro hh;rw [hh] at B;cases B
    refine Q h2 q x.ah.length d e02 ?_ _;have ht:mU x=[]:=by unfold mU; rw [ac9 (by rintro (H | H); exact H b; exact B H)]
    rw [ht,bz9];exact C
def da {b:Xax} {t:Xaa × Nat} (hc:aF H b 0 (df t)):aF H b 0 [.string t.1]/\aF H (b.add 1) 0 [.int .u32 (t.2:Int)]:=by
 obtain ⟨h1,h2,a⟩:=hc;exact ⟨⟨h1,trivial⟩,⟨by rw [add_add]; exact h2,trivial⟩⟩
def KG (a n:Nat):IntKind.wrap .u32 ((a:Int)*(n:Int))=((a*n % 4294967296:Nat):Int):=by rw [eu,iU,Int.natCast_mul]
def KE (a n:Nat):IntKind.wrap .u32 ((a:Int)+(n:Int))=(((a+n) % 4294967296:Nat):Int):=by rw [eu,iU,ff9]
variable {Y:bJ}
def Ja (v:ik H U O Y.ah) (hl:Y.ah.length<=2^40) (P:∀ i,i∈aG U->i<H.size) (n:Nat) :
  HC Xaz 102 #[gU U O V Y,.int .u32 n] H fun w h'=>Ext H h'/\∃ p' l' c',w=gU p' l' c' (vG Y n)/\SL h' H.size 64 2 p' l' c' ((vG Y n).ah.map df):=by
 refine aX (args:=[.agg #[.slice U O V,.int .u32 Y.num],.int .u32 n]) mixed Tryz.func102 av (oY U O V Y.num n) ?_;unfold kB aR aY bq aH bd aC aZ aM;have hll:=v.len;refine bm ?_;intro h1 b1 Q z1;refine bm ?_;intro h2 b2 I z2;have b1:=b1.aj I ai;rw [ay];refine aw b1 ((Y.num:Int),()) (ak ?_);refine bm ?_;intro h3 R S z3;refine bP R ?_;intro h4 B W z4;rw [KG] at B;have B:br h4 h2.size 53 [.slice none 0 0,.int .u32 ((Y.num*n % 4294967296:Nat):Int)]:=B;have o:Ext h2 h4:=bU S W;have b1:=b1.aj o ai;have b2:=b2.aj o ai;have e04:=(Q.trans I).trans o;have hb4:=B.lt;refine aQ (cs:=cF) (fun y w h'=>∃ (i:Nat) (q:Xac) (m d:Nat),y.1=(i:Int)/\i<=Y.ah.length/\w=Y.ah.length-i/\Ch [h2.size] h4 h'/\br h' h2.size 53 [.slice q m d,.int .u32 ((Y.num*n % 4294967296:Nat):Int)] /\
  SL h' h4.size 64 2 q m d ((fo n (Y.ah.take i)).map df)/\m<=i) ((0:Int),()) Y.ah.length rfl ⟨0,none,0,0,rfl,ad,ad,Ch.refl _ _,B,SL.nil _ _ _ _,ad⟩ ?_
 rintro ⟨n8,⟨⟩⟩ w h5 ⟨i,q,m,d,hi,J,rfl,A,C,r,K⟩;simp only at hi;subst hi;refine ak ?_;have b15:=b1.aj A (by simp; omega);have hz5:=A.size;have D:Ext H h5:=bU e04 A;have v5:=v.aj D ai;refine aw b15 ((U,O,V),()) (ak ?_);have hw:=hY i;refine aK ?_ ?_<;>intro X
 ·have f:i<Y.ah.length:=ad
  have s:Y.ah.take (i+1)=Y.ah.take i++[Y.ah[i]]:=ag9 f;obtain ⟨a,rfl,hc⟩:=v5.cells i f;generalize Y.ah[i]=t at hc s;obtain ⟨E,Z⟩:=da hc;refine aw b15 ((some a,O,V),()) (ak ?_);refine bK rfl ?_;rw [cr i];refine ar ((t.2:Int),()) Z (ak ?_);rw [KG];refine ao ?_ ?_<;>intro g
  ·have g:¬ t.2*n % 4294967296=0:=by
    intro hh;rw [hh] at g;cases g
   refine aw C ((q,m,d),()) (ak ?_);refine aw b15 ((some a,O,V),()) (ak ?_);refine bK rfl ?_;refine ar (t.1,()) E (ak ?_);have hab:=P a.block (by simp [aG]);refine gz (vs:=df (t.1,t.2*n % 4294967296)) AD ul rfl ad ad av rfl rfl r hz5 ad ad (fun h' e=>⟨aI e ai _ _ E,(b15.aj e ai).cells _ rfl,(C.aj e ai).cells _ rfl,trivial⟩) ?_;intro p' c' L M u hp7;have b:∀ j,j<h4.size->j∉aG q:=fun j k K=>by have:=(r.cw K).1; omega
   refine ⟨⟨aI u (by rw [iF]; exact b _ (by have:=e04.size; omega)) _ _ E,(b15.aj u (b _ ad)).cells _ rfl,trivial⟩,?_⟩;refine bP (C.aj u (b _ ad)) ?_;intro h8 b8 N z8;refine aD (cs:=cF) (((i+1:Nat):Int),()) (Y.ah.length-(i+1)) rfl ad (aq9 (fun z=>[Value.int .i64 z]) hw) ⟨i+1,p',m+1,c',rfl,ad,rfl,?_,b8,?_,ad⟩
   ·exact Ch.trans (Ch.trans A u (fun j k hl=>by have:=(r.cw k).1; omega)) N (fun j k _=>k)
   ·have F:fo n (Y.ah.take (i+1))=fo n (Y.ah.take i)++[(t.1,t.2*n % 4294967296)]:=by
     unfold fo;rw [s,ee9]
     congr 1
     simp only [List.filterMap_cons,List.filterMap_nil];rw [ac9 g]
    rw [F,ao9];exact M.bF N (fun j k=>by have:=(M.cw k).1; simp; omega)
  ·have g:t.2*n % 4294967296=0:=by
    have:((t.2*n % 4294967296:Nat):Int)=0:=by simpa using g
    omega
   refine aD (cs:=cF) (((i+1:Nat):Int),()) (Y.ah.length-(i+1)) rfl ad (aq9 (fun z=>[Value.int .i64 z]) hw) ⟨i+1,q,m,d,rfl,ad,rfl,A,C,?_,ad⟩;have F:fo n (Y.ah.take (i+1))=fo n (Y.ah.take i):=by
    unfold fo;rw [s,ee9];simp only [List.filterMap_cons,List.filterMap_nil];rw [af9 g,bz9]
   rw [F];exact r
 ·have hi:i=Y.ah.length:=ad
  subst hi;rw [bl9] at r;refine aw C ((q,m,d),((Y.num*n % 4294967296:Nat):Int),()) (ak ?_);refine bP (b2.aj A (by simp; omega)) ?_;intro L G u z7;have G:br L h1.size 53 [.slice q m d,.int .u32 ((Y.num*n % 4294967296:Nat):Int)]:=G;refine aw G ((q,m,d),((Y.num*n % 4294967296:Nat):Int),()) ?_;have hz4:=e04.size;exact ⟨bU D u,q,m,d,rfl,(r.bF u (fun j k=>by have:=(r.cw k).1; simp; omega)).mono ad⟩
def leB (a b:Xaa):(Op.bytesLess (ByteArray.toList a) (ByteArray.toList b) || (ByteArray.toList a==ByteArray.toList b))=!decide (iB b a):=by
 rw [ByteArray.toList_eq,ByteArray.toList_eq,Proofs.bytesLess_eq]
 by_cases h:iB b a
 ·rw [ai9 h];have h1:¬ a.data.toList<b.data.toList:=Dk h;have h2:¬ a.data.toList=b.data.toList:=fun e=>jT h (Ay e).symm
  have c:¬ a.data=b.data:=fun e=>h2 (by rw [e])
  simp [h1,c]
 ·rw [aj9 h]
  by_cases h1:iB a b
  ·have h1:a.data.toList<b.data.toList:=h1;simp [h1]
  ·have:=An a b h1 h
   subst this
   simp
def oz:Option Xaa->dm->Bool
 | _,[]=>true
 | o,t::r=>cB t.1.data.toList && decide (t.2≠0) && (match o with
  | none=>true
  | some s=>decide (iB s t.1)) && oz (some t.1) r
def KD (l:dm) (i:Nat):Option Xaa:=if i=0 then none else (l[i-1]?).map (·.1)
def JP {o:Option Xaa} {l:dm} (h:oz o l=true):(∀ t,t∈l->cB t.1.data.toList=true/\t.2≠0)/\(l.Pairwise fun p q=>iB p.1 q.1)/\∀ s,o=some s->∀ t,t∈l->iB s t.1:=by
 induction l generalizing o with
 | nil=>exact ⟨ai,List.Pairwise.nil,ai⟩
 | cons t r d =>
  unfold oz at h;simp only [Bool.and_eq_true,decide_eq_true_eq] at h;obtain ⟨⟨⟨h1,h2⟩,b⟩,e⟩:=h;obtain ⟨f,g,c⟩:=d e;refine ⟨?_,dp9.2 ⟨fun q i=>c _ rfl q i,g⟩,?_⟩
  ·intro u a;rcases bd9.1 a with rfl | a
   ·exact ⟨h1,h2⟩
   ·exact f u a
  ·rintro s rfl u a;have b:iB s t.1:=by simpa using b
   rcases bd9.1 a with rfl | a
   ·exact b
   ·exact jR b (c _ rfl u a)
def E0 {x:bJ} (h:oz none x.ah=true) (hc:∀ t,t∈x.ah->t.2<4294967296) (hn:x.num<4294967296):Good x :=
 ⟨⟨(JP h).2.1,fun p a=>⟨((JP h).1 p a).2,hc p a⟩⟩,fun t ht=>((JP h).1 t ht).1,hn⟩
def uW {c:Nat} (v:ik H U O Y.ah) (hl:Y.ah.length<=9223372036854775807) (J:∀ t,t∈Y.ah->t.1.size<=maxLen) :
  HC Xaz 56 #[gU U O c Y] H fun w h'=>w=.bool (oz none Y.ah)/\Ext H h':=by
 refine aX (args:=[.agg #[.slice U O c,.int .u32 Y.num]]) mixed Tryz.func56 av (zG U O c Y.num) ?_;unfold vU aR aY bq aH aT bn aC bH dX bZ aM ct;have hll:=v.len;refine bm ?_;intro h1 G K z1;refine aw G ((U,O,c),()) (ak ?_);refine aQ (cs:=jP) (fun y w h'=>∃ (i:Nat),y.2.1=(i:Int)/\i<=Y.ah.length/\w=Y.ah.length-i/\Ext h1 h'/\oz none Y.ah=oz (KD Y.ah i) (Y.ah.drop i)) (false,(0:Int),()) Y.ah.length rfl
  ⟨0,rfl,ad,ad,Ch.refl _ _,rfl⟩ ?_
 rintro ⟨A,n8,⟨⟩⟩ w h2 ⟨i,hi,I,rfl,B,d⟩;simp only at hi;subst hi;refine ak ?_;have e02:=K.trans B;refine aK ?_ ?_<;>intro L
 ·have b:i<Y.ah.length:=ad
  have v2:=v.aj e02 ai;obtain ⟨a,rfl,hc⟩:=v2.cells i b;have C:Y.ah.drop i=Y.ah[i]::Y.ah.drop (i+1):=aw9 b;have n:KD Y.ah (i+1)=some Y.ah[i].1:=by
   unfold KD;rw [ac9 ad,Nat.add_sub_cancel,ad9 b] <;> rfl
  have hsz:=J Y.ah[i] (al9 b);rw [C] at d;generalize Y.ah[i]=t at hc d n hsz;refine bK rfl ?_;rw [cr i];refine ar (t.1,(t.2:Int),()) hc (ak ?_);refine bm ?_;intro S M N z3;refine bP M ?_;intro h4 k P z4;have k:br h4 h2.size 64 [.string t.1,.int .u32 t.2]:=k;have e:Ext h2 h4:=bU N P;have e04:=e02.trans e;rw [ay];refine aw k ((t.2:Int),()) (ak ?_);refine ao ?_ ?_<;>intro m
  ·have m:t.2=0:=by have:(t.2:Int)=0:=(by simpa using m); omega
   refine ⟨?_,e04⟩;rw [d];unfold oz;rw [aj9 ad]
   simp
  ·have m:t.2≠0:=by have:¬ (t.2:Int)=0:=(by simpa using m); omega
   refine aw k (t.1,()) (ak ?_);refine aJ (vO t.1 h4 (by have:maxLen=9223372036854775807:=rfl; omega)) ?_;refine ⟨⟨k.cells _ rfl,trivial⟩,?_⟩;refine ao ?_ ?_<;>intro g
   ·have g:cB t.1.data.toList=false:=by simpa using g
    refine ⟨?_,e04⟩;rw [d];unfold oz;rw [g]
    simp
   ·have g:cB t.1.data.toList=true:=by simpa using g
    have hw:=hY i
    have f:(match KD Y.ah i with
      | none=>true
      | some s=>decide (iB s t.1))=true->oz none Y.ah=oz (KD Y.ah (i+1)) (Y.ah.drop (i+1)):=by
     intro Q;rw [d,n]
     conv=>lhs; unfold oz
     rw [g,ai9 m,Q] <;> rfl
    refine aK ?_ ?_<;>intro R
    ·have D:IntKind.wrap .i64 ((i:Int)-1)=((i-1:Nat):Int):=by rw [wrap_i64 ad ad]; omega
     have o:i-1<Y.ah.length:=ad
     obtain ⟨a',E,q⟩:=(v.aj e04 ai).cells (i-1) o;cases E;have r:KD Y.ah i=some Y.ah[i-1].1:=by
      unfold KD;rw [ac9 ad,ad9 o] <;> rfl
     rw [r] at f d;generalize Y.ah[i-1]=u at q r f d;refine aw k (t.1,()) (ak ?_);refine aw ((G.aj B ai).aj e ai) ((some a,O,c),()) (ak ?_);rw [D];refine bK rfl ?_;rw [show Int.toNat ((i-1:Nat):Int)=i-1 from ad];refine ar (u.1,()) (da q).1 (ak ?_);rw [leB];refine ao ?_ ?_<;>intro j
     ·have j:¬ iB u.1 t.1:=by simpa using j
      refine ⟨?_,e04⟩;rw [d];unfold oz;dsimp only;rw [aj9 j]
      simp
     ·have j:iB u.1 t.1:=by simpa using j
      exact aD (cs:=jP) (A,((i+1:Nat):Int),()) (Y.ah.length-(i+1)) rfl ad (aq9 (fun z=>[Value.bool A,Value.int .i64 z]) hw) ⟨i+1,rfl,ad,rfl,B.trans e,f (ai9 j)⟩
    ·have F:i=0:=ad
     subst F;exact aD (cs:=jP) (A,((0+1:Nat):Int),()) (Y.ah.length-(0+1)) rfl ad (aq9 (fun z=>[Value.bool A,Value.int .i64 z]) hw) ⟨0+1,rfl,ad,rfl,B.trans e,f rfl⟩
 ·have hi:i=Y.ah.length:=ad
  subst hi;refine ⟨?_,e02⟩;rw [d,de9] <;> rfl
def uH {c:Nat} (v:ik H U O Y.ah) (hl:Y.ah.length<=9223372036854775807) (G:∀ t,t∈Y.ah->t.1.size<=maxLen) :
  HC Xaz 97 #[gU U O c Y] H fun w h'=>w=.bool (oz none Y.ah)/\Ext H h':=by
 refine aX (args:=[.agg #[.slice U O c,.int .u32 Y.num]]) mixed Tryz.func97 av (pn U O c Y.num) ?_;unfold kx aR aY bq aH aT bn aC bH dX aM ct;have hll:=v.len;refine bm ?_;intro h1 j m z1;have v:=v.aj m ai;refine aQ (cs:=jP) (fun y w h'=>∃ (i:Nat),y.2.1=(i:Int)/\i<=Y.ah.length/\w=Y.ah.length-i/\h1=h'/\oz none Y.ah=oz (KD Y.ah i) (Y.ah.drop i)) (false,(0:Int),()) Y.ah.length rfl
  ⟨0,rfl,ad,ad,rfl,rfl⟩ ?_
 rintro ⟨A,n8,⟨⟩⟩ w h2 ⟨i,hi,F,rfl,rfl,d⟩;simp only at hi;subst hi;refine ak ?_;refine aw j ((U,O,c),()) (ak ?_);refine aK ?_ ?_<;>intro I
 ·have b:i<Y.ah.length:=ad
  obtain ⟨a,rfl,hc⟩:=v.cells i b;have B:Y.ah.drop i=Y.ah[i]::Y.ah.drop (i+1):=aw9 b;have n:KD Y.ah (i+1)=some Y.ah[i].1:=by
   unfold KD;rw [ac9 ad,Nat.add_sub_cancel,ad9 b] <;> rfl
  have hsz:=G Y.ah[i] (al9 b);rw [B] at d;generalize Y.ah[i]=t at hc d n hsz;refine aw j ((some a,O,c),()) (ak ?_);refine bK rfl ?_;rw [cr i];refine ar (t.1,()) (da hc).1 (ak ?_);refine aJ (tz t.1 h1 (by have:maxLen=9223372036854775807:=rfl; omega)) ?_;refine ⟨⟨j.cells _ rfl,trivial⟩,?_⟩;refine ao ?_ ?_<;>intro f
  ·have f:cB t.1.data.toList=false:=by simpa using f
   refine ⟨?_,m⟩;rw [d];unfold oz;rw [f]
   simp
  ·have f:cB t.1.data.toList=true:=by simpa using f
   refine aw j ((some a,O,c),()) (ak ?_);refine bK rfl ?_;refine ar ((t.2:Int),()) (da hc).2 (ak ?_);refine ao ?_ ?_<;>intro k
   ·have k:t.2=0:=by have:(t.2:Int)=0:=(by simpa using k); omega
    refine ⟨?_,m⟩;rw [d];unfold oz;rw [aj9 ad]
    simp
   ·have k:t.2≠0:=by have:¬ (t.2:Int)=0:=(by simpa using k); omega
    have hw:=hY i
    have e:(match KD Y.ah i with
      | none=>true
      | some s=>decide (iB s t.1))=true->oz none Y.ah=oz (KD Y.ah (i+1)) (Y.ah.drop (i+1)):=by
     intro J;rw [d,n]
     conv=>lhs; unfold oz
     rw [f,ai9 k,J] <;> rfl
    refine aK ?_ ?_<;>intro K
    ·have C:IntKind.wrap .i64 ((i:Int)-1)=((i-1:Nat):Int):=by rw [wrap_i64 ad ad]; omega
     have o:i-1<Y.ah.length:=ad
     obtain ⟨a',D,q⟩:=v.cells (i-1) o;cases D;have r:KD Y.ah i=some Y.ah[i-1].1:=by
      unfold KD;rw [ac9 ad,ad9 o] <;> rfl
     rw [r] at e d;generalize Y.ah[i-1]=u at q r e d;refine aw j ((some a,O,c),()) (ak ?_);refine bK rfl ?_;refine ar (t.1,()) (da hc).1 (ak ?_);refine aw j ((some a,O,c),()) (ak ?_);rw [C];refine bK rfl ?_;rw [show Int.toNat ((i-1:Nat):Int)=i-1 from ad];refine ar (u.1,()) (da q).1 (ak ?_);rw [leB];refine ao ?_ ?_<;>intro g
     ·have g:¬ iB u.1 t.1:=by simpa using g
      refine ⟨?_,m⟩;rw [d];unfold oz;dsimp only;rw [aj9 g]
      simp
     ·have g:iB u.1 t.1:=by simpa using g
      exact aD (cs:=jP) (A,((i+1:Nat):Int),()) (Y.ah.length-(i+1)) rfl ad (aq9 (fun z=>[Value.bool A,Value.int .i64 z]) hw) ⟨i+1,rfl,ad,rfl,rfl,e (ai9 g)⟩
    ·have E:i=0:=ad
     subst E;exact aD (cs:=jP) (A,((0+1:Nat):Int),()) (Y.ah.length-(0+1)) rfl ad (aq9 (fun z=>[Value.bool A,Value.int .i64 z]) hw) ⟨0+1,rfl,ad,rfl,rfl,e rfl⟩
 ·have hi:i=Y.ah.length:=ad
  subst hi;refine ⟨?_,m⟩;rw [d,de9] <;> rfl
end Go.Sx
namespace Go.Sx.Ob
abbrev Bt:=List UInt8
def vh:Nat->Nat->Bt
 | _,0=>[]
 | n,w+1=>UInt8.ofNat n::vh (n / 256) w
def Qp:Bt->Nat
 | []=>0
 | b::l=>b.toNat+256*Qp l
theorem dG:∀ (w n:Nat),(vh n w).length=w
 | 0,_=>rfl
 | w+1,n=>by rw [vh,ck9,dG w]
theorem Dm:∀ (w n:Nat),Qp (vh n w)=n % 256^w
 | 0,n=>by simp [vh,Qp,Nat.mod_one]
 | w+1,n=>by
  rw [vh,Qp,Dm w,Nat.pow_succ,fn9 (256^w) 256,Nat.mod_mul]
  congr 1
abbrev Rd (α:Type):=Except (Nat × Nat) (α × Bt)
def lK {α β:Type} (a:Rd α) (f:α->Bt->Rd β):Rd β :=
 match a with
 | .ok p=>f p.1 p.2
 | .error e=>.error e
@[simp] theorem wC {α β:Type} (x:α) (r:Bt) (f:α->Bt->Rd β):lK (.ok (x,r)) f=f x r:=rfl
def vj (w:Nat) (r:Bt):Rd Nat:=if w<=r.length then .ok (Qp (r.take w),r.drop w) else .error (0,10)
def HX (r:Bt):Rd Xaa:=lK (vj 2 r) fun n r=>if n<=r.length then .ok (⟨(r.take n).toArray⟩,r.drop n) else .error (0,10)
def Ri:Nat->Bt->Rd dm
 | 0,r=>.ok ([],r)
 | n+1,r=>lK (HX r) fun s r=>lK (vj 4 r) fun c r=>lK (Ri n r) fun ts r=>.ok ((s,c)::ts,r)
def iR (r:Bt):Rd bJ:=lK (vj 2 r) fun n r=>lK (Ri n r) fun ts r=>lK (vj 4 r) fun c r=>.ok (⟨ts,c⟩,r)
def jx (s:Xaa):Bt:=vh s.size 2++s.data.toList
def Hb (t:Xaa × Nat):Bt:=jx t.1++vh t.2 4
def mC (x:bJ):Bt:=vh x.ah.length 2++(x.ah.flatMap Hb++vh x.num 4)
def OI (w n:Nat) (t:Bt):vj w (vh n w++t)=.ok (n % 256^w,t):=by
 unfold vj;rw [af9 (by rw [ae9,dG]; omega),List.take_left' (dG w n),List.drop_left' (dG w n),Dm]
def Mx {s:Xaa} (h:s.size<65536) (t:Bt):HX (jx s++t)=.ok (s,t):=by
 unfold HX jx;rw [bb9,OI,wC,dw9 ad];have hl:s.data.toList.length=s.size:=ai
 rw [af9 (by rw [ae9,hl]; omega),List.take_left' hl,List.drop_left' hl]
structure Ins where
 op:Int
 a:Int
 b:Int
 n:Int
 form:Int
deriving DecidableEq
structure cz where
 kind:Int
 name:Xaa
 inst:Ins
 e:bJ
 n:Int
def T9:Ins:=⟨0,0,0,0,0⟩
def GR:bJ:=⟨[],0⟩
def dS:Xaa:=⟨#[]⟩
def fy (k:Int):cz:=⟨k,dS,T9,GR,0⟩
def oK:List Nat:=[1,1,1,2,2,2,2,2,2,2,3,3,4,4,4,4,4,4,4,4,4,4,4,4,4,4,4,4,5,5,5,5,6,6,7,8,9,10,11,12,12,13,13]
def dq (op:Int):Nat:=if op<1 then 0 else oK.getD (op-1).toNat 0
def xu (n m:Int):Bool:=decide (0<=n) && decide (n<m)
def cQ (s:Nat) (a b n:Int):Bool :=
 if s=1\/s=9\/s=12 then decide (a=0) && decide (b=0)
 else if s=2\/s=8\/s=10\/s=11\/s=13 then xu a 8 && decide (b=0)
 else if s=3 then xu a 4 && decide (b=0)
 else if s=4 then xu a 8 && xu b 8
 else if s=5 then xu a 4 && xu b 4
 else if s=6 then xu a 8 && xu b 4
 else xu a 4 && xu b 8 && xu n 8
def nq (n form:Int):Bool :=
 if form=1 then decide (-128<=n) && decide (n<=127)
 else if form=2 then decide (-32768<=n) && decide (n<=32767)
 else decide (form=4)
def nR (s:Nat) (n form:Int):Bool :=
 if s=8 then nq n 1
 else if s=9 then decide (0<=n) && decide (n<=255)
 else if s=10\/s=7 then true
 else if s=11 then decide (0<=n) && decide (n<=4095)
 else if s=12\/s=13 then nq n form
 else decide (n=0)
def tN (op:Int):Bool:=decide (12<=dq op)
def HP (op:Int):Bool:=decide (10<=dq op)
def gW (i:Ins):Int :=
 if dq i.op=0 then 11
 else if cQ (dq i.op) i.a i.b i.n=false then 12
 else if (!tN i.op && decide (i.form≠0) || !nR (dq i.op) i.n i.form)=true then 13
 else 0
def RJ (x:bJ):Bool:=decide (x.ah=[]) && decide (x.num=0)
def AA (i:Ins) (e:bJ):Bool :=
 decide (dq i.op≠0) && decide (i.form=0) && (if HP i.op then decide (i.n=0) && decide (gW { i with form:=if tN i.op then 1 else 0 }=0) && oz none e.ah
  else decide (gW i=0) && RJ e)
def vB (n:Int):Bool:=decide (n=1) || decide (n=2) || decide (n=4) || decide (n=8) || decide (n=16) || decide (n=32) || decide (n=64) || decide (n=128) || decide (n=256)
def z1 (x:cz):Bool:=decide (x.name=dS)
def z2 (x:cz):Bool:=decide (x.inst=T9)
def z3 (x:cz):Bool:=RJ x.e
def z4 (x:cz):Bool:=decide (x.n=0)
def cG (x:cz) (sec:Nat):Bool :=
 if x.kind=1 then cB x.name.data.toList && z2 x && z3 x && z4 x
 else if x.kind=2 then decide (sec=0) && AA x.inst x.e && z1 x && z4 x
 else if x.kind=3 then vB x.n && z1 x && z2 x && z3 x
 else if x.kind=4 then decide (sec=0) && z1 x && z2 x && z3 x && z4 x
 else if x.kind=5 then decide (sec=1) && decide (-128<=x.n) && decide (x.n<=255) && z1 x && z2 x && z3 x
 else if x.kind=6 then decide (sec=1) && oz none x.e.ah && z1 x && z2 x && z4 x
 else if x.kind=7 then decide (sec=1) && decide (0<=x.n) && decide (x.n<=1048576) && z1 x && z2 x && z3 x
 else false
def u32 (n:Int):Nat:=(n % 4294967296).toNat
def Vd (n:Nat):Int:=if n<2147483648 then (n:Int) else (n:Int)-4294967296
def s16 (n:Nat):Int:=if n<32768 then (n:Int) else (n:Int)-65536
def D8 (n:Int) (w:Nat):Bt:=vh (u32 n) w
def JL (x:cz):Bt:=D8 x.kind 1 ++
 (if x.kind=1 then jx x.name
 else if x.kind=2 then D8 x.inst.op 1++(D8 x.inst.a 1++(D8 x.inst.b 1++(D8 x.inst.n 4++if HP x.inst.op then mC x.e else [])))
 else if x.kind=3\/x.kind=5 then D8 x.n 2
 else if x.kind=6 then mC x.e
 else if x.kind=7 then D8 x.n 4
 else [])
def ZT (r:Bt):Rd cz:=lK (vj 1 r) fun op r=>lK (vj 1 r) fun a r=>lK (vj 1 r) fun b r=>lK (vj 4 r) fun n r =>
 if HP (op:Int) then lK (iR r) fun e r=>.ok ({ fy 2 with inst:=⟨op,a,b,Vd n,0⟩,e:=e },r) else .ok ({ fy 2 with inst:=⟨op,a,b,Vd n,0⟩ },r)
def Zi (k:Nat) (r:Bt):Rd cz :=
 if k=1 then lK (HX r) fun s r=>.ok ({ fy 1 with name:=s },r)
 else if k=2 then ZT r
 else if k=3 then lK (vj 2 r) fun n r=>.ok ({ fy 3 with n:=n },r)
 else if k=5 then lK (vj 2 r) fun n r=>.ok ({ fy 5 with n:=s16 n },r)
 else if k=6 then lK (iR r) fun e r=>.ok ({ fy 6 with e:=e },r)
 else if k=7 then lK (vj 4 r) fun n r=>.ok ({ fy 7 with n:=n },r)
 else .ok (fy k,r)
def at_ {α:Type} (r:Bt) (rA:Nat) (ok:α->Bool) (a:Rd α):Rd α:=lK a fun x b=>if ok x then .ok (x,b) else .error (r.length,rA)
def gw (D:List Xaa) (s:Xaa):Bool:=D.any fun t=>decide (t=s)
def yO (sec:Nat) (D:List Xaa) (x:cz):Bool:=cG x sec && !(decide (x.kind=1) && gw D x.name)
def uO (D:List Xaa) (x:cz):List Xaa:=if x.kind=1 then x.name::D else D
def Yy (sec:Nat) (D:List Xaa) (r:Bt):Rd cz:=at_ r 31 (yO sec D) (lK (vj 1 r) Zi)
def V8 {α:Type} {r b:Bt} {rA:Nat} {ok:α->Bool} {a:Rd α} {x:α} (h:a=.ok (x,b)) (h2:ok x=true):at_ r rA ok a=.ok (x,b):=by
 unfold at_;rw [h,wC,af9 h2]
def II (op:Int) (h:dq op≠0):1<=op/\op<=43:=by
 unfold dq at h;split at h
 ·exact absurd rfl h
 ·refine ⟨ad,?_⟩
  by_cases g:op<=43
  ·exact g
  ·exfalso;apply h;rw [cf9,bq9 (by simp [oK]; omega)] <;> rfl
def FW {i:Ins} (h:gW i=0):dq i.op≠0/\cQ (dq i.op) i.a i.b i.n=true:=by
 unfold gW at h;split at h
 ·cases h
 ·split at h
  ·cases h
  ·rename_i h1 h2;exact ⟨h1,by simpa using h2⟩
def iG (op:Int):dq op=0\/(1<=dq op/\dq op<=13):=by
 by_cases h:dq op=0
 ·exact .inl h
 ·right
  have h1:=II op h;unfold dq;rw [ac9 ad];have h2:(op-1).toNat<43:=ad
  generalize (op-1).toNat=k at h2
  have:∀ k:Fin 43,1<=oK.getD k.1 0/\oK.getD k.1 0<=13:=bQ
  exact this ⟨k,h2⟩
abbrev sO:=Xaa × bJ
structure cg where
 text:List cz
 data:List cz
 bg:List sO
 aS:List Xaa
def xP (sec:Nat):Nat->List Xaa->Bt->Rd (List cz)
 | 0,_,r=>.ok ([],r)
 | n+1,D,r=>lK (Yy sec D r) fun x r=>lK (xP sec n (uO D x) r) fun l r=>.ok (x::l,r)
def DO (D:List Xaa) (p:sO):Bool:=!(gw D p.1) && cB p.1.data.toList && oz none p.2.ah
def TY (D:List Xaa) (last g:Xaa):Bool:=gw D g && decide (iB last g)
def UP (D:List Xaa) (last:Xaa) (r:Bt):Rd Xaa:=at_ r 31 (TY D last) (HX r)
def Jb (D:List Xaa):Nat->Xaa->Bt->Rd (List Xaa)
 | 0,_,r=>.ok ([],r)
 | n+1,last,r=>lK (UP D last r) fun x r=>lK (Jb D n x r) fun l r=>.ok (x::l,r)
def Qc:Bt:=[83,80,65,78,1]
def cY (D:List Xaa) (l:List cz):List Xaa:=l.foldl uO D
def aU (D:List Xaa) (l:List sO):List Xaa:=l.foldl (fun D p=>p.1::D) D
def fj (sec:Nat):List Xaa->List cz->Bool
 | _,[]=>true
 | D,x::l=>yO sec D x && fj sec (uO D x) l
def gQ:List Xaa->List sO->Bool
 | _,[]=>true
 | D,x::l=>DO D x && gQ (x.1::D) l
def dc (D:List Xaa):Xaa->List Xaa->Bool
 | _,[]=>true
 | last,x::l=>TY D last x && dc D x l
def cg.names (u:cg):List Xaa:=aU (cY (cY [] u.text) u.data) u.bg
def xj (u:cg):Bool:=fj 0 [] u.text && fj 1 (cY [] u.text) u.data && gQ (cY (cY [] u.text) u.data) u.bg && dc u.names dS u.aS
def wA (u:cg):Bool:=decide (8192<u.text.length+u.data.length) || decide (8192<u.bg.length)
def ft (u:cg):Nat:=if wA u then 4 else if xj u then 0 else 31
def N7 (p:sO):Bt:=jx p.1++mC p.2
def DY {α:Type} (w:α->Bt) (l:List α):Bt:=vh l.length 2++l.flatMap w
def Zt (u:cg):Bt:=Qc++(DY JL u.text++(DY JL u.data++(DY N7 u.bg++DY jx u.aS)))
theorem IH (D:List Xaa) (a:∀ s,s∈D->s.size<65536):∀ (l:List Xaa) (o:Xaa) (t:Bt),dc D o l=true->Jb D l.length o (l.flatMap jx++t)=.ok (l,t)
 | [],o,t,_=>rfl
 | x::l,o,t,h=>by
  unfold dc at h;rw [bk9] at h;obtain ⟨h1,h2⟩:=h;have b:x.size<65536:=by
   unfold TY gw at h1;simp only [Bool.and_eq_true,List.any_eq_true,decide_eq_true_eq] at h1;obtain ⟨⟨y,c,rfl⟩,_⟩:=h1;exact a y c
  rw [ck9,cd9,bb9,Jb];have d:UP D o (jx x++(l.flatMap jx++t))=.ok (x,l.flatMap jx++t):=V8 (Mx b _) h1;rw [d,wC,IH D a l _ t h2,wC]
theorem yK (D:List Xaa):∀ (l:List Xaa) (o:Xaa),dc D o l=true->(∀ x,x∈l->x∈D/\iB o x)/\l.Pairwise iB
 | [],o,_=>⟨ai,List.Pairwise.nil⟩
 | x::l,o,h=>by
  unfold dc TY gw at h;simp only [Bool.and_eq_true,List.any_eq_true,decide_eq_true_eq] at h;obtain ⟨⟨⟨y,d,rfl⟩,h2⟩,e⟩:=h;obtain ⟨a,b⟩:=yK D l y e;refine ⟨?_,dp9.2 ⟨fun z c=>(a z c).2,b⟩⟩;intro z c;rcases bd9.1 c with rfl | c
  ·exact ⟨d,h2⟩
  ·exact ⟨(a z c).1,jR h2 (a z c).2⟩
def A0 {u:cg} (h:ft u=0):wA u=false/\xj u=true:=by
 unfold ft at h;split at h
 ·cases h
 ·rename_i h1;split at h
  ·rename_i h2;exact ⟨by simpa using h1,h2⟩
  ·cases h
end Go.Sx.Ob
namespace Go.Sx
open Go.Proofs
def YM:Tryz.prog.underlying 64=some (.struct (vP Xaz 64)):=av
def Qw (x y:Operand) (a:Xaa) (b:Int) (a':Xaa) (b':Int) (h:Hp) (K:Xab->Hp->Prop) (hk:K (.bool !(a==a' && b==b')) h) :
  aP Xaz (Sx.lX (BinOp.neq) 64 x y (.agg #[.string a,.int .u32 b]) (.agg #[.string a',.int .u32 b'])) h K:=by
 refine Au YM av av av K ?_;have c:(vP Xaz 64).all (HW #[.string a,.int .u32 b] #[.string a',.int .u32 b'])=(a==a' && (b==b' && true)):=by
  rw [<- dd9]
  kernel_rfl
 rw [c,dg9];exact hk
def NT (t u:Xaa × Nat):(!(t.1==u.1 && (t.2:Int)==(u.2:Int)))=decide (t≠u):=by
 obtain ⟨a,b⟩:=t;obtain ⟨a',b'⟩:=u
 by_cases h1:a=a'
 ·subst h1;rw [bytes_beq]
  by_cases h2:b=b'
  ·subst h2
   simp
  ·have c:¬ ((b:Int)=(b':Int)):=ad
   have f:((b:Int)==(b':Int))=false:=by simpa using c
   simp [h2,f]
 ·have c:(a==a')=false:=by
   obtain ⟨d⟩:=a;obtain ⟨d'⟩:=a';show (d==d')=false;have f:¬ d=d':=fun e=>h1 (by rw [e])
   simpa using f
  simp [h1,c]
variable {H Y:Nat}
def Bo {α:Type} {l m:List α} (hi:H<l.length) (a:H<m.length) (h:l[H]≠m[H]):l≠m:=by
 rintro rfl;exact h rfl
def xi {α:Type} {l m:List α} (hi:H<l.length) (a:H<m.length) (h:l[H]=m[H]):(l.drop H=m.drop H)↔(l.drop (H+1)=m.drop (H+1)):=by
 rw [aw9 hi,aw9 a,h];exact ⟨fun e=>(List.cons.inj e).2,fun e=>by rw [e]⟩
instance:DecidableEq dm:=inferInstance
variable {O:Hp} {U V:Xac}
def H' {c d:Nat} {us j:dm} (v:ik O U H us) (w:ik O V Y j) (hl:us.length<=2^60):uo Xaz 112 [.slice U H c,.slice V Y d] O (.bool (decide (us=j))):=by
 refine eX mixed Tryz.func112 av (gf U H c V Y d) ?_;unfold eC aR aY bq aH eZ aC bH dX aM ct;have h1:=v.len;have h2:=w.len;refine ao ?_ ?_<;>intro k
 ·have k:¬ (H:Int)=(Y:Int):=by simpa using k
  exact ⟨by rw [aj9 (fun e=>by rw [e] at h1; omega)],rfl⟩
 ·have k:(H:Int)=(Y:Int):=by simpa using k
  refine aQ (cs:=jP) (fun y n h'=>∃ (i:Nat),y.2.1=(i:Int)/\i<=us.length/\n=us.length-i/\O=h'/\(us=j↔us.drop i=j.drop i)) (false,(0:Int),()) us.length rfl
   ⟨0,rfl,ad,ad,rfl,Iff.rfl⟩ ?_
  rintro ⟨s,n8,⟨⟩⟩ n h2 ⟨i,hi,x,rfl,rfl,A⟩;simp only at hi;subst hi;refine ak ?_;refine aK ?_ ?_<;>intro B
  ·have f:i<us.length:=ad
   have g:i<j.length:=ad
   obtain ⟨a,rfl,hc⟩:=v.cells i f;obtain ⟨a',rfl,o⟩:=w.cells i g;have hst:=xi f g;have hno:=Bo f g;generalize us[i]=t at hc hst hno;generalize j[i]=u at o hst hno;refine bK rfl ?_;rw [cr i];refine ar (t.1,(t.2:Int),()) hc (ak ?_);refine bK rfl ?_;refine ar (u.1,(u.2:Int),()) o (ak ?_);refine wI (b:=decide (t≠u)) (fun C hk=>Qw _ _ _ _ _ _ _ _ (by rw [NT]; exact hk)) ?_;refine ao ?_ ?_<;>intro r
   ·exact ⟨by rw [aj9 (hno (ah9 r))],rfl⟩
   ·have r:t=u:=by simpa using r
    have hw:=hY i;exact aD (cs:=jP) (s,((i+1:Nat):Int),()) (us.length-(i+1)) rfl ad (aq9 (fun z=>[Value.bool s,Value.int .i64 z]) hw) ⟨i+1,rfl,ad,rfl,rfl,A.trans (hst r)⟩
  ·refine ⟨?_,rfl⟩;rw [ai9 (A.2 (by rw [cc9 ad,cc9 ad]))]
def jq (x y:bJ):Bool:=decide (x.num=y.num) && decide (x.ah=y.ah)
def xA (x:bJ):jq x x=true:=by unfold jq; simp
def CH {c d:Nat} {x y:bJ} (v:ik O U H x.ah) (w:ik O V Y y.ah) (hl:x.ah.length<=2^60) :
  HC Xaz 82 #[gU U H c x,gU V Y d y] O fun r h'=>r=.bool (jq x y)/\Ext O h':=by
 refine aX (args:=[.agg #[.slice U H c,.int .u32 x.num],.agg #[.slice V Y d,.int .u32 y.num]]) mixed Tryz.func82 av (Bk U H c x.num V Y d y.num) ?_;unfold yQ aT aC bH;refine bm ?_;intro h1 b1 f z1;refine bm ?_;intro h2 b e z2;have b1:=b1.aj e ai;have e02:=f.trans e;rw [ay,ay];refine aw b1 ((x.num:Int),()) (ak ?_);refine aw b ((y.num:Int),()) (ak ?_);refine ao ?_ ?_<;>intro a
 ·have a:x.num=y.num:=by have:(x.num:Int)=y.num:=(by simpa using a); omega
  refine aw b1 ((U,H,c),()) (ak ?_);refine aw b ((V,Y,d),()) (ak ?_);refine aJ (H' (v.aj e02 ai) (w.aj e02 ai) hl) ?_;refine ⟨?_,e02⟩;unfold jq;rw [ai9 a] <;> rfl
 ·have a:¬ x.num=y.num:=by have:¬ (x.num:Int)=y.num:=(by simpa using a); omega
  refine ⟨?_,e02⟩;unfold jq;rw [aj9 a] <;> rfl
def SE {P:Program} {L:Lp} {K:Xab->Hp->Prop} {h:Hp} {k:Xac->Nat->Nat->T} {t e:TypeId} {z:Xab} {sz by':Nat} (ht:P.underlying t=some (.slice e)) (a:(P.info? e).map (fun i=>(i.zero,i.size,i.bytes))=some (some z,sz,by'))
  (hk:∀ h' ,SL h' h.size e sz (some ⟨h.size,0,none⟩) 0 0 []->Ext h h'->k (some ⟨h.size,0,none⟩) 0 0 L K h'):T.ef P (Instr.buildSlice t 0 #[]) false [(false,[.slice 0])] k L K h:=by
 obtain ⟨i,hi,b,rfl,rfl⟩:=pR a;refine dt ?_;unfold Instr.buildSlice;rw [an,az ht];simp only;rw [an,bY hi];simp only [Nat.zero_mul];rw [ac9 ad];have h0:∀ f:Nat->Xab,Array.map f (Array.range 0)=#[]:=fun f=>ai
 simp only [h0];refine ⟨_,_,_,rfl,hk _ ?_ (Ext.push h _)⟩;exact ⟨rfl,ai,h.size,[],[],rfl,au9 _,⟨au9 _,ad⟩,by simpa using br.new h e [],ai⟩
theorem wL {h:Hp} {a:Xax}:∀ (us:dm) (k:Nat),(∀ i,(hi:i<us.length)->aF h (a.add ((k+i)*2)) 0 (df us[i]))->aF h a (k*2) (us.map df).flatten
 | [],_,_=>trivial
 | t::us,k,hc=>by
  have h0:=hc 0 ai;obtain ⟨h1,h2,_⟩:=h0;rw [add_add] at h1 h2;have ih:=wL us (k+1) (fun i hi=>by
   have:=hc (i+1) (by simpa using hi)
   rw [show k+(i+1)=k+1+i from ad] at this;exact this)
  rw [show (k+1)*2=k*2+1+1 from ad] at ih;exact ⟨h1,by simpa using h2,ih⟩
def ik.flat {h:Hp} {a:Xax} {us:dm} (v:ik h (some a) H us):aF h a 0 (us.map df).flatten:=by
 have:=wL (h:=h) (a:=a) us 0 (fun i hi=>by
  obtain ⟨a',e,hc⟩:=v.cells i hi;cases e;rw [bv9];exact hc)
 simpa using this
def IB (us:dm):(us.map df).flatten.all dl=true:=by
 rw [bm9];intro v hv;obtain ⟨x,a,hv⟩:=List.mem_flatten.1 hv;obtain ⟨t,_,rfl⟩:=an9.1 a;simp only [df,List.mem_cons,List.not_mem_nil,or_false] at hv;rcases hv with rfl | rfl <;> rfl
end Go.Sx
namespace Go.Sx.Ob
open Go.Proofs
variable {h':Hp} {e2 e1:TypeId} {sec:Nat}
def _root_.Go.Sx.Ch.st {h a b:Hp} {g:Nat} (e:Ext h a) (k:Ch [g] a b) (c:h.size<=g):Ext h b:=bU e k
def lU (nm:Nat->Xaa) (by_:Nat->Int):List Xab:=(List.range 43).flatMap fun k=>[.string (nm k),.int .u8 (by_ k),vI (oK.getD k 0:Nat)]
def yx (h:Hp):Prop:=∃ nm by_ e f,h[0]?=some (.cells (lU nm by_).toArray e f)
def yx.aj {ws:List Nat} {h:Hp} (t:yx h) (k:Ch ws h h') (a:0∉ws):yx h':=by
 obtain ⟨nm,by_,e,f,ht⟩:=t;exact ⟨nm,by_,e,f,k.get ht a⟩
theorem wY {α β:Type} (f:α->List β) (m:Nat) (a:∀ x,(f x).length=m):∀ (l:List α) (i j:Nat),j<m->(l.flatMap f)[i*m+j]?=(l[i]?).bind fun x=>(f x)[j]?
 | [],i,j,b=>ai
 | x::l,0,j,b=>by
  rw [cd9,bt9 (by rw [a]; omega)]
  simp
 | x::l,i+1,j,b=>by
  rw [cd9,bn9 (by rw [a,cz9]; omega),a,show (i+1)*m+j-m=i*m+j by rw [cz9]; omega,wY f m a l i j b]
  simp
def yx.cells {h:Hp} (t:yx h) {k:Nat} (hk:k<43):∃ (s:Xaa) (b:Int),aF h ((⟨0,0,none⟩:Xax).add (k*3)) 0 [.string s,.int .u8 b,vI (oK.getD k 0:Nat)]:=by
 obtain ⟨nm,by_,e,f,ht⟩:=t;refine ⟨nm k,by_ k,?_⟩;have a:∀ j,j<3->(lU nm by_)[k*3+j]?=([.string (nm k),.int .u8 (by_ k),vI (oK.getD k 0:Nat)]:List Xab)[j]?:=by
  intro j c;unfold lU;rw [wY _ 3 ai _ _ _ c];simp [hk]
 rw [ay];refine ⟨?_,?_,?_,trivial⟩
 ·rw [ay,rX ht]
  have:=a 0 ad
  simpa using this
 ·rw [ay,rX ht]
  have:=a 1 ad
  simpa using this
 ·rw [ay,rX ht]
  have:=a 2 ad
  simpa using this
def KV {h:Hp} (t:yx h) (op:Int) (h1:-9223372036854775808<=op) (h2:op<=9223372036854775807) :
  HC Xaz 67 #[vI op] h fun w h'=>∃ (s:Xaa) (b:Int),w=.tuple #[.agg #[.string s,.int .u8 b,vI (dq op:Nat)],.bool (decide (dq op≠0))]/\Ext h h':=by
 refine aX (args:=[vI op]) mixed Tryz.func67 av (HI op) ?_;unfold Gf bn bj bZ;refine bm ?_;intro n d e1 z1;have f:∀ (i:dq op=0),(∃ (s:Xaa) (b:Int),(Value.tuple #[.agg #[.string ⟨#[]⟩,.int .u8 0,vI 0],.bool false])=.tuple #[.agg #[.string s,.int .u8 b,vI (dq op:Nat)],.bool (decide (dq op≠0))]) :=
  fun i=>⟨⟨#[]⟩,0,by rw [i]; rfl⟩
 refine ao ?_ ?_<;>intro q
 ·have q:=ah9 q;refine bP d ?_;intro j a c z2;refine aw a ((⟨#[]⟩:Xaa),(0:Int),(0:Int),()) ?_;obtain ⟨s,b,e⟩:=f (by unfold dq; rw [af9 q]);exact ⟨s,b,e,bU e1 c⟩
 refine ao ?_ ?_<;>intro r
 ·have r:=ah9 r;refine bP d ?_;intro j a c z2;refine aw a ((⟨#[]⟩:Xaa),(0:Int),(0:Int),()) ?_;obtain ⟨s,b,e⟩:=f (by
   by_cases g:dq op=0
   ·exact g
   ·have:=II op g
    omega)
  exact ⟨s,b,e,bU e1 c⟩
 ·have q:=ar9 q;have r:=ar9 r;rw [wrap_i64 ad ad];refine gR ?_;obtain ⟨s,b,hc⟩:=(t.aj e1 ai).cells (k:=(op-1).toNat) ad;refine ar (s,b,((oK.getD (op-1).toNat 0:Nat):Int),()) hc (ak ?_);refine bP d ?_;intro j a c z2;refine aw a (s,b,((oK.getD (op-1).toNat 0:Nat):Int),()) ?_;refine ⟨s,b,?_,bU e1 c⟩;have l:dq op=oK.getD (op-1).toNat 0:=by unfold dq; rw [ac9 ad]
  have m:dq op≠0:=by
   rw [l]
   have:∀ k:Fin 43,oK.getD k.1 0≠0:=bQ
   exact this ⟨(op-1).toNat,ad⟩
  rw [ai9 m,l]
def GZ {h:Hp} (t:yx h) (op:Int) (h1:-9223372036854775808<=op) (h2:op<=9223372036854775807) :
  HC Xaz 60 #[vI op] h fun w h'=>w=.bool (tN op)/\Ext h h':=by
 refine aX (args:=[vI op]) mixed Tryz.func60 av (AQ op) ?_;unfold yW bM dX bZ ct;refine aE (KV t op h1 h2) ?_;rintro _ c ⟨s,b,rfl,e1⟩;refine ⟨(s,b,((dq op:Nat):Int),decide (dq op≠0),()),rfl,ak ?_⟩;refine bm ?_;intro g d e2 z2;refine bP d ?_;intro e a f z3;have e3:=(e1.trans e2).st f (by have:=e1.size; omega);have a:br e c.size 171 [.string s,.int .u8 b,vI (dq op:Nat)]:=a;rw [ay];refine aw a (((dq op:Nat):Int),()) (ak ?_);have hc:=iG op;refine ao ?_ ?_<;>intro q
 ·have q:((dq op:Nat):Int)=12:=by simpa using q
  refine ⟨?_,e3⟩;unfold tN;rw [ai9 ad]
 ·have q:¬ ((dq op:Nat):Int)=12:=by simpa using q
  refine aw a (((dq op:Nat):Int),()) ?_;refine ⟨?_,e3⟩;unfold tN
  by_cases r:dq op=13
  ·rw [r]; rfl
  ·rw [aj9 ad]
   congr 1
   simp
   omega
def Jd (n:Int):(n==IntKind.wrap .i32 (IntKind.wrap .i8 n))=(decide (-128<=n) && decide (n<=127)):=by
 have h1:IntKind.wrap .i8 n=if n % 256<128 then n % 256 else n % 256-256:=by
  simp only [IntKind.wrap,IntKind.bits,IntKind.signed,Bool.true_and];split <;> rename_i a
  ·have:=ah9 a
   rw [ac9 ad] <;> rfl
  ·have:¬ _:=fun h=>a (ai9 h)
   rw [af9 ad] <;> rfl
 have h2:IntKind.wrap .i32 (IntKind.wrap .i8 n)=IntKind.wrap .i8 n:=by
  have:-128<=IntKind.wrap .i8 n/\IntKind.wrap .i8 n<=127:=by rw [h1]; split <;> omega
  generalize IntKind.wrap .i8 n=m at this;simp only [IntKind.wrap,IntKind.bits,IntKind.signed,Bool.true_and];split <;> rename_i a
  ·have:=ah9 a; omega
  ·have:¬ _:=fun h=>a (ai9 h); omega
 rw [h2,h1]
 by_cases g:-128<=n/\n<=127
 ·rw [ai9 g.1,ai9 g.2]
  simp
  split <;> omega
 ·have:(decide (-128<=n) && decide (n<=127))=false:=by
   rw [Bool.and_eq_false_iff]
   simp
   omega
  rw [this]
  simp
  split <;> omega
def G8 (n:Int):(n==IntKind.wrap .i32 (IntKind.wrap .i16 n))=(decide (-32768<=n) && decide (n<=32767)):=by
 have h1:IntKind.wrap .i16 n=if n % 65536<32768 then n % 65536 else n % 65536-65536:=by
  simp only [IntKind.wrap,IntKind.bits,IntKind.signed,Bool.true_and];split <;> rename_i a
  ·have:=ah9 a
   rw [ac9 ad] <;> rfl
  ·have:¬ _:=fun h=>a (ai9 h)
   rw [af9 ad] <;> rfl
 have h2:IntKind.wrap .i32 (IntKind.wrap .i16 n)=IntKind.wrap .i16 n:=by
  have:-32768<=IntKind.wrap .i16 n/\IntKind.wrap .i16 n<=32767:=by rw [h1]; split <;> omega
  generalize IntKind.wrap .i16 n=m at this;simp only [IntKind.wrap,IntKind.bits,IntKind.signed,Bool.true_and];split <;> rename_i a
  ·have:=ah9 a; omega
  ·have:¬ _:=fun h=>a (ai9 h); omega
 rw [h2,h1]
 by_cases g:-32768<=n/\n<=32767
 ·rw [ai9 g.1,ai9 g.2]
  simp
  split <;> omega
 ·have:(decide (-32768<=n) && decide (n<=32767))=false:=by
   rw [Bool.and_eq_false_iff]
   simp
   omega
  rw [this]
  simp
  split <;> omega
def cn (h:Hp) (n f:Int):uo Xaz 156 [.int .i32 n,vI f] h (.bool (nq n f)):=by
 refine eX mixed Tryz.func156 av (xZ n f) ?_;unfold um;rw [Jd,G8];refine ao ?_ ?_<;>intro q
 ·have q:f=1:=by simpa using q
  exact ⟨by unfold nq; rw [af9 q],rfl⟩
 have q:¬ f=1:=by simpa using q
 refine ao ?_ ?_<;>intro r
 ·have r:f=2:=by simpa using r
  exact ⟨by unfold nq; rw [ac9 q,af9 r],rfl⟩
 have r:¬ f=2:=by simpa using r
 exact ⟨by unfold nq; rw [ac9 q,ac9 r]; rfl,rfl⟩
def GK (h:Hp) (n:Int):uo Xaz 81 [vI n] h (.bool (vB n)):=by
 refine eX mixed Tryz.func81 av (zI n) ?_;unfold wM bn bH;have a:¬ (1<=n/\n<=256)->vB n=false:=by
  intro g;cases b:vB n with
  | false=>rfl
  | true =>
   exfalso;unfold vB at b;simp only [Bool.or_eq_true,decide_eq_true_eq] at b;omega
 refine aK ?_ ?_<;>intro q
 ·refine aK ?_ ?_<;>intro r
  ·refine ⟨?_,rfl⟩;obtain ⟨k,rfl,hk⟩:∃ k:Nat,n=((k+1:Nat):Int)/\k<256:=⟨(n-1).toNat,ad,ad⟩
   have:∀ k:Fin 256,(IntKind.wrap .i64 (((BitVec.toNat ((BitVec.ofInt 64 ((k.1+1:Nat):Int)) &&& (BitVec.ofInt 64 (IntKind.wrap .i64 (((k.1+1:Nat):Int)-(1:Int)))))):Nat):Int)==(0:Int))=vB ((k.1+1:Nat):Int):=by
    decide +kernel
   rw [this ⟨k,hk⟩]
  ·exact ⟨by rw [a ad],rfl⟩
 ·exact ⟨by rw [a ad],rfl⟩
def cM (h:Hp) (n m:Int):uo Xaz 155 [vI n,vI m] h (.bool (xu n m)):=by
 refine eX mixed Tryz.func155 av (B0 n m) ?_;unfold yy bH;refine aK ?_ ?_<;>intro q
 ·refine ⟨?_,rfl⟩;unfold xu;rw [ai9 (show 0<=n from ad)] <;> rfl
 ·refine ⟨?_,rfl⟩;unfold xu;rw [aj9 (show ¬ 0<=n from ad)] <;> rfl
def dp (a b:Int):(a==b)=decide (a=b):=rfl
def dz (op a b n form:Int):Xab:=.agg #[vI op,vI a,vI b,.int .i32 n,vI form]
def Qr (h:Hp) (op a b n form:Int):HC Xaz 137 #[dz op a b n form,vI 1] h fun w h'=>w=.bool (cQ 1 a b n)/\Ext h h':=by
 refine aX (args:=[dz op a b n form,vI 1]) mixed Tryz.func137 av (rD op a b n form) ?_;unfold mI bH;refine bm ?_;intro d c e1 z1
 try simp only [ay]
 repeat' (first
  | (refine bC c (_,()) rfl ?_; refine ak ?_)
  | (refine aJ (cM _ _ _) ?_)
  | (refine aJ (cn _ _ _) ?_)
  | (refine ao (fun q=>?_) (fun q=>?_)))
 all_goals (refine ⟨?_,e1⟩; first | (simp_all [cQ,dp]; done) | (simp_all [cQ,dp] <;> simp [xu] <;> omega))
def TK (h:Hp) (op a b n form:Int):HC Xaz 138 #[dz op a b n form,vI 1] h fun w h'=>w=.bool (nR 1 n form)/\Ext h h':=by
 refine aX (args:=[dz op a b n form,vI 1]) mixed Tryz.func138 av (uV op a b n form) ?_;unfold q8;refine bm ?_;intro d c e1 z1
 try simp only [ay]
 repeat' (first
  | (refine bC c (_,()) rfl ?_; refine ak ?_)
  | (refine aJ (cM _ _ _) ?_)
  | (refine aJ (cn _ _ _) ?_)
  | (refine ao (fun q=>?_) (fun q=>?_)))
 all_goals (refine ⟨?_,e1⟩; first | (simp_all [nR,dp]; done) | (simp_all [nR,dp] <;> omega))
def Qu (h:Hp) (op a b n form:Int):HC Xaz 137 #[dz op a b n form,vI 2] h fun w h'=>w=.bool (cQ 2 a b n)/\Ext h h':=by
 refine aX (args:=[dz op a b n form,vI 2]) mixed Tryz.func137 av (rq op a b n form) ?_;unfold mX aT bH;refine bm ?_;intro d c e1 z1
 try simp only [ay]
 repeat' (first
  | (refine bC c (_,()) rfl ?_; refine ak ?_)
  | (refine aJ (cM _ _ _) ?_)
  | (refine aJ (cn _ _ _) ?_)
  | (refine ao (fun q=>?_) (fun q=>?_)))
 all_goals (refine ⟨?_,e1⟩; first | (simp_all [cQ,dp]; done) | (simp_all [cQ,dp] <;> simp [xu] <;> omega))
def TM (h:Hp) (op a b n form:Int):HC Xaz 138 #[dz op a b n form,vI 2] h fun w h'=>w=.bool (nR 2 n form)/\Ext h h':=by
 refine aX (args:=[dz op a b n form,vI 2]) mixed Tryz.func138 av (uM op a b n form) ?_;unfold qX;refine bm ?_;intro d c e1 z1
 try simp only [ay]
 repeat' (first
  | (refine bC c (_,()) rfl ?_; refine ak ?_)
  | (refine aJ (cM _ _ _) ?_)
  | (refine aJ (cn _ _ _) ?_)
  | (refine ao (fun q=>?_) (fun q=>?_)))
 all_goals (refine ⟨?_,e1⟩; first | (simp_all [nR,dp]; done) | (simp_all [nR,dp] <;> omega))
def PQ (h:Hp) (op a b n form:Int):HC Xaz 137 #[dz op a b n form,vI 3] h fun w h'=>w=.bool (cQ 3 a b n)/\Ext h h':=by
 refine aX (args:=[dz op a b n form,vI 3]) mixed Tryz.func137 av (rH op a b n form) ?_;unfold mu aT bH;refine bm ?_;intro d c e1 z1
 try simp only [ay]
 repeat' (first
  | (refine bC c (_,()) rfl ?_; refine ak ?_)
  | (refine aJ (cM _ _ _) ?_)
  | (refine aJ (cn _ _ _) ?_)
  | (refine ao (fun q=>?_) (fun q=>?_)))
 all_goals (refine ⟨?_,e1⟩; first | (simp_all [cQ,dp]; done) | (simp_all [cQ,dp] <;> simp [xu] <;> omega))
def RS (h:Hp) (op a b n form:Int):HC Xaz 138 #[dz op a b n form,vI 3] h fun w h'=>w=.bool (nR 3 n form)/\Ext h h':=by
 refine aX (args:=[dz op a b n form,vI 3]) mixed Tryz.func138 av (uI op a b n form) ?_;unfold rb;refine bm ?_;intro d c e1 z1
 try simp only [ay]
 repeat' (first
  | (refine bC c (_,()) rfl ?_; refine ak ?_)
  | (refine aJ (cM _ _ _) ?_)
  | (refine aJ (cn _ _ _) ?_)
  | (refine ao (fun q=>?_) (fun q=>?_)))
 all_goals (refine ⟨?_,e1⟩; first | (simp_all [nR,dp]; done) | (simp_all [nR,dp] <;> omega))
def Rb (h:Hp) (op a b n form:Int):HC Xaz 137 #[dz op a b n form,vI 4] h fun w h'=>w=.bool (cQ 4 a b n)/\Ext h h':=by
 refine aX (args:=[dz op a b n form,vI 4]) mixed Tryz.func137 av (rj op a b n form) ?_;unfold lY aT bH;refine bm ?_;intro d c e1 z1
 try simp only [ay]
 repeat' (first
  | (refine bC c (_,()) rfl ?_; refine ak ?_)
  | (refine aJ (cM _ _ _) ?_)
  | (refine aJ (cn _ _ _) ?_)
  | (refine ao (fun q=>?_) (fun q=>?_)))
 all_goals (refine ⟨?_,e1⟩; first | (simp_all [cQ,dp]; done) | (simp_all [cQ,dp] <;> simp [xu] <;> omega))
def S8 (h:Hp) (op a b n form:Int):HC Xaz 138 #[dz op a b n form,vI 4] h fun w h'=>w=.bool (nR 4 n form)/\Ext h h':=by
 refine aX (args:=[dz op a b n form,vI 4]) mixed Tryz.func138 av (uP op a b n form) ?_;unfold qZ;refine bm ?_;intro d c e1 z1
 try simp only [ay]
 repeat' (first
  | (refine bC c (_,()) rfl ?_; refine ak ?_)
  | (refine aJ (cM _ _ _) ?_)
  | (refine aJ (cn _ _ _) ?_)
  | (refine ao (fun q=>?_) (fun q=>?_)))
 all_goals (refine ⟨?_,e1⟩; first | (simp_all [nR,dp]; done) | (simp_all [nR,dp] <;> omega))
def PJ (h:Hp) (op a b n form:Int):HC Xaz 137 #[dz op a b n form,vI 5] h fun w h'=>w=.bool (cQ 5 a b n)/\Ext h h':=by
 refine aX (args:=[dz op a b n form,vI 5]) mixed Tryz.func137 av (rF op a b n form) ?_;unfold mM aT bH;refine bm ?_;intro d c e1 z1
 try simp only [ay]
 repeat' (first
  | (refine bC c (_,()) rfl ?_; refine ak ?_)
  | (refine aJ (cM _ _ _) ?_)
  | (refine aJ (cn _ _ _) ?_)
  | (refine ao (fun q=>?_) (fun q=>?_)))
 all_goals (refine ⟨?_,e1⟩; first | (simp_all [cQ,dp]; done) | (simp_all [cQ,dp] <;> simp [xu] <;> omega))
def Sn (h:Hp) (op a b n form:Int):HC Xaz 138 #[dz op a b n form,vI 5] h fun w h'=>w=.bool (nR 5 n form)/\Ext h h':=by
 refine aX (args:=[dz op a b n form,vI 5]) mixed Tryz.func138 av (uE op a b n form) ?_;unfold qV;refine bm ?_;intro d c e1 z1
 try simp only [ay]
 repeat' (first
  | (refine bC c (_,()) rfl ?_; refine ak ?_)
  | (refine aJ (cM _ _ _) ?_)
  | (refine aJ (cn _ _ _) ?_)
  | (refine ao (fun q=>?_) (fun q=>?_)))
 all_goals (refine ⟨?_,e1⟩; first | (simp_all [nR,dp]; done) | (simp_all [nR,dp] <;> omega))
def Px (h:Hp) (op a b n form:Int):HC Xaz 137 #[dz op a b n form,vI 6] h fun w h'=>w=.bool (cQ 6 a b n)/\Ext h h':=by
 refine aX (args:=[dz op a b n form,vI 6]) mixed Tryz.func137 av (rm op a b n form) ?_;unfold ml aT bH;refine bm ?_;intro d c e1 z1
 try simp only [ay]
 repeat' (first
  | (refine bC c (_,()) rfl ?_; refine ak ?_)
  | (refine aJ (cM _ _ _) ?_)
  | (refine aJ (cn _ _ _) ?_)
  | (refine ao (fun q=>?_) (fun q=>?_)))
 all_goals (refine ⟨?_,e1⟩; first | (simp_all [cQ,dp]; done) | (simp_all [cQ,dp] <;> simp [xu] <;> omega))
def SZ (h:Hp) (op a b n form:Int):HC Xaz 138 #[dz op a b n form,vI 6] h fun w h'=>w=.bool (nR 6 n form)/\Ext h h':=by
 refine aX (args:=[dz op a b n form,vI 6]) mixed Tryz.func138 av (vq op a b n form) ?_;unfold rc;refine bm ?_;intro d c e1 z1
 try simp only [ay]
 repeat' (first
  | (refine bC c (_,()) rfl ?_; refine ak ?_)
  | (refine aJ (cM _ _ _) ?_)
  | (refine aJ (cn _ _ _) ?_)
  | (refine ao (fun q=>?_) (fun q=>?_)))
 all_goals (refine ⟨?_,e1⟩; first | (simp_all [nR,dp]; done) | (simp_all [nR,dp] <;> omega))
def Oh (h:Hp) (op a b n form:Int):HC Xaz 137 #[dz op a b n form,vI 7] h fun w h'=>w=.bool (cQ 7 a b n)/\Ext h h':=by
 refine aX (args:=[dz op a b n form,vI 7]) mixed Tryz.func137 av (rE op a b n form) ?_;unfold lW aT bH;refine bm ?_;intro d c e1 z1
 try simp only [ay]
 repeat' (first
  | (refine bC c (_,()) rfl ?_; refine ak ?_)
  | (refine aJ (cM _ _ _) ?_)
  | (refine aJ (cn _ _ _) ?_)
  | (refine ao (fun q=>?_) (fun q=>?_)))
 all_goals (refine ⟨?_,e1⟩; first | (simp_all [cQ,dp]; done) | (simp_all [cQ,dp] <;> simp [xu] <;> omega))
def Uh (h:Hp) (op a b n form:Int):HC Xaz 138 #[dz op a b n form,vI 7] h fun w h'=>w=.bool (nR 7 n form)/\Ext h h':=by
 refine aX (args:=[dz op a b n form,vI 7]) mixed Tryz.func138 av (vu op a b n form) ?_;unfold ri;refine bm ?_;intro d c e1 z1
 try simp only [ay]
 repeat' (first
  | (refine bC c (_,()) rfl ?_; refine ak ?_)
  | (refine aJ (cM _ _ _) ?_)
  | (refine aJ (cn _ _ _) ?_)
  | (refine ao (fun q=>?_) (fun q=>?_)))
 all_goals (refine ⟨?_,e1⟩; first | (simp_all [nR,dp]; done) | (simp_all [nR,dp] <;> omega))
def O9 (h:Hp) (op a b n form:Int):HC Xaz 137 #[dz op a b n form,vI 8] h fun w h'=>w=.bool (cQ 8 a b n)/\Ext h h':=by
 refine aX (args:=[dz op a b n form,vI 8]) mixed Tryz.func137 av (rI op a b n form) ?_;unfold mh aT bH;refine bm ?_;intro d c e1 z1
 try simp only [ay]
 repeat' (first
  | (refine bC c (_,()) rfl ?_; refine ak ?_)
  | (refine aJ (cM _ _ _) ?_)
  | (refine aJ (cn _ _ _) ?_)
  | (refine ao (fun q=>?_) (fun q=>?_)))
 all_goals (refine ⟨?_,e1⟩; first | (simp_all [cQ,dp]; done) | (simp_all [cQ,dp] <;> simp [xu] <;> omega))
def T3 (h:Hp) (op a b n form:Int):HC Xaz 138 #[dz op a b n form,vI 8] h fun w h'=>w=.bool (nR 8 n form)/\Ext h h':=by
 refine aX (args:=[dz op a b n form,vI 8]) mixed Tryz.func138 av (u7 op a b n form) ?_;unfold rf aT;refine bm ?_;intro d c e1 z1
 try simp only [ay]
 repeat' (first
  | (refine bC c (_,()) rfl ?_; refine ak ?_)
  | (refine aJ (cM _ _ _) ?_)
  | (refine aJ (cn _ _ _) ?_)
  | (refine ao (fun q=>?_) (fun q=>?_)))
 all_goals (refine ⟨?_,e1⟩; first | (simp_all [nR,dp]; done) | (simp_all [nR,dp] <;> omega))
def Rm (h:Hp) (op a b n form:Int):HC Xaz 137 #[dz op a b n form,vI 9] h fun w h'=>w=.bool (cQ 9 a b n)/\Ext h h':=by
 refine aX (args:=[dz op a b n form,vI 9]) mixed Tryz.func137 av (rl op a b n form) ?_;unfold mz bH;refine bm ?_;intro d c e1 z1
 try simp only [ay]
 repeat' (first
  | (refine bC c (_,()) rfl ?_; refine ak ?_)
  | (refine aJ (cM _ _ _) ?_)
  | (refine aJ (cn _ _ _) ?_)
  | (refine ao (fun q=>?_) (fun q=>?_)))
 all_goals (refine ⟨?_,e1⟩; first | (simp_all [cQ,dp]; done) | (simp_all [cQ,dp] <;> simp [xu] <;> omega))
def SK (h:Hp) (op a b n form:Int):HC Xaz 138 #[dz op a b n form,vI 9] h fun w h'=>w=.bool (nR 9 n form)/\Ext h h':=by
 refine aX (args:=[dz op a b n form,vI 9]) mixed Tryz.func138 av (uJ op a b n form) ?_;unfold qU bH;refine bm ?_;intro d c e1 z1
 try simp only [ay]
 repeat' (first
  | (refine bC c (_,()) rfl ?_; refine ak ?_)
  | (refine aJ (cM _ _ _) ?_)
  | (refine aJ (cn _ _ _) ?_)
  | (refine ao (fun q=>?_) (fun q=>?_)))
 all_goals (refine ⟨?_,e1⟩; first | (simp_all [nR,dp]; done) | (simp_all [nR,dp] <;> omega))
def MS (h:Hp) (op a b n form:Int):HC Xaz 137 #[dz op a b n form,vI 10] h fun w h'=>w=.bool (cQ 10 a b n)/\Ext h h':=by
 refine aX (args:=[dz op a b n form,vI 10]) mixed Tryz.func137 av (qF op a b n form) ?_;unfold ld aT bH;refine bm ?_;intro d c e1 z1
 try simp only [ay]
 repeat' (first
  | (refine bC c (_,()) rfl ?_; refine ak ?_)
  | (refine aJ (cM _ _ _) ?_)
  | (refine aJ (cn _ _ _) ?_)
  | (refine ao (fun q=>?_) (fun q=>?_)))
 all_goals (refine ⟨?_,e1⟩; first | (simp_all [cQ,dp]; done) | (simp_all [cQ,dp] <;> simp [xu] <;> omega))
def PM (h:Hp) (op a b n form:Int):HC Xaz 138 #[dz op a b n form,vI 10] h fun w h'=>w=.bool (nR 10 n form)/\Ext h h':=by
 refine aX (args:=[dz op a b n form,vI 10]) mixed Tryz.func138 av (tX op a b n form) ?_;unfold pj;refine bm ?_;intro d c e1 z1
 try simp only [ay]
 repeat' (first
  | (refine bC c (_,()) rfl ?_; refine ak ?_)
  | (refine aJ (cM _ _ _) ?_)
  | (refine aJ (cn _ _ _) ?_)
  | (refine ao (fun q=>?_) (fun q=>?_)))
 all_goals (refine ⟨?_,e1⟩; first | (simp_all [nR,dp]; done) | (simp_all [nR,dp] <;> omega))
def LF (h:Hp) (op a b n form:Int):HC Xaz 137 #[dz op a b n form,vI 11] h fun w h'=>w=.bool (cQ 11 a b n)/\Ext h h':=by
 refine aX (args:=[dz op a b n form,vI 11]) mixed Tryz.func137 av (qf op a b n form) ?_;unfold ln aT bH;refine bm ?_;intro d c e1 z1
 try simp only [ay]
 repeat' (first
  | (refine bC c (_,()) rfl ?_; refine ak ?_)
  | (refine aJ (cM _ _ _) ?_)
  | (refine aJ (cn _ _ _) ?_)
  | (refine ao (fun q=>?_) (fun q=>?_)))
 all_goals (refine ⟨?_,e1⟩; first | (simp_all [cQ,dp]; done) | (simp_all [cQ,dp] <;> simp [xu] <;> omega))
def Nr (h:Hp) (op a b n form:Int):HC Xaz 138 #[dz op a b n form,vI 11] h fun w h'=>w=.bool (nR 11 n form)/\Ext h h':=by
 refine aX (args:=[dz op a b n form,vI 11]) mixed Tryz.func138 av (tT op a b n form) ?_;unfold py bH;refine bm ?_;intro d c e1 z1
 try simp only [ay]
 repeat' (first
  | (refine bC c (_,()) rfl ?_; refine ak ?_)
  | (refine aJ (cM _ _ _) ?_)
  | (refine aJ (cn _ _ _) ?_)
  | (refine ao (fun q=>?_) (fun q=>?_)))
 all_goals (refine ⟨?_,e1⟩; first | (simp_all [nR,dp]; done) | (simp_all [nR,dp] <;> omega))
def L9 (h:Hp) (op a b n form:Int):HC Xaz 137 #[dz op a b n form,vI 12] h fun w h'=>w=.bool (cQ 12 a b n)/\Ext h h':=by
 refine aX (args:=[dz op a b n form,vI 12]) mixed Tryz.func137 av (pT op a b n form) ?_;unfold lj bH;refine bm ?_;intro d c e1 z1
 try simp only [ay]
 repeat' (first
  | (refine bC c (_,()) rfl ?_; refine ak ?_)
  | (refine aJ (cM _ _ _) ?_)
  | (refine aJ (cn _ _ _) ?_)
  | (refine ao (fun q=>?_) (fun q=>?_)))
 all_goals (refine ⟨?_,e1⟩; first | (simp_all [cQ,dp]; done) | (simp_all [cQ,dp] <;> simp [xu] <;> omega))
def Rh (h:Hp) (op a b n form:Int):HC Xaz 138 #[dz op a b n form,vI 12] h fun w h'=>w=.bool (nR 12 n form)/\Ext h h':=by
 refine aX (args:=[dz op a b n form,vI 12]) mixed Tryz.func138 av (tP op a b n form) ?_;unfold oV aT;refine bm ?_;intro d c e1 z1
 try simp only [ay]
 repeat' (first
  | (refine bC c (_,()) rfl ?_; refine ak ?_)
  | (refine aJ (cM _ _ _) ?_)
  | (refine aJ (cn _ _ _) ?_)
  | (refine ao (fun q=>?_) (fun q=>?_)))
 all_goals (refine ⟨?_,e1⟩; first | (simp_all [nR,dp]; done) | (simp_all [nR,dp] <;> omega))
def Ma (h:Hp) (op a b n form:Int):HC Xaz 137 #[dz op a b n form,vI 13] h fun w h'=>w=.bool (cQ 13 a b n)/\Ext h h':=by
 refine aX (args:=[dz op a b n form,vI 13]) mixed Tryz.func137 av (qm op a b n form) ?_;unfold lG aT bH;refine bm ?_;intro d c e1 z1
 try simp only [ay]
 repeat' (first
  | (refine bC c (_,()) rfl ?_; refine ak ?_)
  | (refine aJ (cM _ _ _) ?_)
  | (refine aJ (cn _ _ _) ?_)
  | (refine ao (fun q=>?_) (fun q=>?_)))
 all_goals (refine ⟨?_,e1⟩; first | (simp_all [cQ,dp]; done) | (simp_all [cQ,dp] <;> simp [xu] <;> omega))
def PX (h:Hp) (op a b n form:Int):HC Xaz 138 #[dz op a b n form,vI 13] h fun w h'=>w=.bool (nR 13 n form)/\Ext h h':=by
 refine aX (args:=[dz op a b n form,vI 13]) mixed Tryz.func138 av (tQ op a b n form) ?_;unfold oD aT;refine bm ?_;intro d c e1 z1
 try simp only [ay]
 repeat' (first
  | (refine bC c (_,()) rfl ?_; refine ak ?_)
  | (refine aJ (cM _ _ _) ?_)
  | (refine aJ (cn _ _ _) ?_)
  | (refine ao (fun q=>?_) (fun q=>?_)))
 all_goals (refine ⟨?_,e1⟩; first | (simp_all [nR,dp]; done) | (simp_all [nR,dp] <;> omega))
def Fp (h:Hp) (op a b n form:Int) {s:Nat} (h1:1<=s) (h2:s<=13):HC Xaz 137 #[dz op a b n form,vI s] h fun w h'=>w=.bool (cQ s a b n)/\Ext h h':=by
 have c:s=1\/s=2\/s=3\/s=4\/s=5\/s=6\/s=7\/s=8\/s=9\/s=10\/s=11\/s=12\/s=13:=ad
 clear h1 h2;rcases c with rfl | rfl | rfl | rfl | rfl | rfl | rfl | rfl | rfl | rfl | rfl | rfl | rfl
 ·exact Qr h op a b n form
 ·exact Qu h op a b n form
 ·exact PQ h op a b n form
 ·exact Rb h op a b n form
 ·exact PJ h op a b n form
 ·exact Px h op a b n form
 ·exact Oh h op a b n form
 ·exact O9 h op a b n form
 ·exact Rm h op a b n form
 ·exact MS h op a b n form
 ·exact LF h op a b n form
 ·exact L9 h op a b n form
 ·exact Ma h op a b n form
def Dl (h:Hp) (op a b n form:Int) {s:Nat} (h1:1<=s) (h2:s<=13):HC Xaz 138 #[dz op a b n form,vI s] h fun w h'=>w=.bool (nR s n form)/\Ext h h':=by
 have c:s=1\/s=2\/s=3\/s=4\/s=5\/s=6\/s=7\/s=8\/s=9\/s=10\/s=11\/s=12\/s=13:=ad
 clear h1 h2;rcases c with rfl | rfl | rfl | rfl | rfl | rfl | rfl | rfl | rfl | rfl | rfl | rfl | rfl
 ·exact TK h op a b n form
 ·exact TM h op a b n form
 ·exact RS h op a b n form
 ·exact S8 h op a b n form
 ·exact Sn h op a b n form
 ·exact SZ h op a b n form
 ·exact Uh h op a b n form
 ·exact T3 h op a b n form
 ·exact SK h op a b n form
 ·exact PM h op a b n form
 ·exact Nr h op a b n form
 ·exact Rh h op a b n form
 ·exact PX h op a b n form
def Sm (n:Int):Prop:=-9223372036854775808<=n/\n<=9223372036854775807
def GU {h:Hp} (t:yx h) (op a b n form:Int) (d:Sm op) :
  HC Xaz 111 #[dz op a b n form] h fun w h'=>w=vI (gW ⟨op,a,b,n,form⟩)/\Ext h h':=by
 refine aX (args:=[dz op a b n form]) mixed Tryz.func111 av (Bi op a b n form) ?_;unfold zb aT bM bZ ct;refine bm ?_;intro u b1 e1 z1;refine aw b1 (op,()) (ak ?_);refine aE (KV (t.aj e1 ai) op d.1 d.2) ?_;rintro _ l ⟨s,y,rfl,e2⟩;refine ⟨(s,y,((dq op:Nat):Int),decide (dq op≠0),()),rfl,ak ?_⟩;refine bm ?_;intro x m g z3;refine bP m ?_;intro i b4 j z4;have b4:br i l.size 171 [.string s,.int .u8 y,vI (dq op:Nat)]:=b4;have e4:=((e1.trans e2).trans g).st j (by have:=e1.size; have:=e2.size; omega);have b1:=b1.aj ((e2.trans g).st j (by have:=e2.size; omega)) ai;unfold gW;simp only [ay];refine ao ?_ ?_<;>intro q
 ·have q:dq op=0:=by simpa using q
  exact ⟨by rw [af9 q],e4⟩
 have q:¬ dq op=0:=by simpa using q
 rw [ac9 q];refine aw b1 (op,a,b,n,form,()) (ak ?_);refine aw b4 (((dq op:Nat):Int),()) (ak ?_);have hs:=iG op;refine aE (Fp i op a b n form (s:=dq op) ad ad) ?_;rintro _ z ⟨rfl,e⟩;refine ⟨(cQ (dq op) a b n,()),rfl,ak ?_⟩;have e45:=e4.trans e;refine ao ?_ ?_<;>intro q
 ·have q:cQ (dq op) a b n=false:=by simpa using q
  exact ⟨by rw [af9 q],e45⟩
 have q:cQ (dq op) a b n=true:=by simpa using q
 rw [ac9 (by rw [q]; simp)];have b1:=b1.aj e ai;have b4:=b4.aj e ai;refine aw b1 (op,()) (ak ?_);refine aE (GZ (t.aj e45 ai) op d.1 d.2) ?_;rintro _ k ⟨rfl,f⟩;refine ⟨(tN op,()),rfl,ak ?_⟩;have e46:=e45.trans f;have b1:=b1.aj f ai;have b4:=b4.aj f ai;refine ao ?_ ?_<;>intro q
 ·have q:tN op=false:=by simpa using q
  refine aw b1 (form,()) (ak ?_);refine ao ?_ ?_<;>intro r
  ·have r:¬ form=0:=by simpa using r
   exact ⟨by rw [q]; simp [r],e46⟩
  have r:form=0:=by simpa using r
  refine aw b1 (op,a,b,n,form,()) (ak ?_);refine aw b4 (((dq op:Nat):Int),()) (ak ?_);refine aE (Dl k op a b n form (s:=dq op) ad ad) ?_;rintro _ o ⟨rfl,c⟩;refine ⟨(nR (dq op) n form,()),rfl,ak ?_⟩;refine ao ?_ ?_<;>intro p
  ·exact ⟨by rw [q]; simp_all,e46.trans c⟩
  ·exact ⟨by rw [q]; simp_all,e46.trans c⟩
 ·have q:tN op=true:=by simpa using q
  refine aw b1 (op,a,b,n,form,()) (ak ?_);refine aw b4 (((dq op:Nat):Int),()) (ak ?_);refine aE (Dl k op a b n form (s:=dq op) ad ad) ?_;rintro _ o ⟨rfl,c⟩;refine ⟨(nR (dq op) n form,()),rfl,ak ?_⟩;refine ao ?_ ?_<;>intro p
  ·exact ⟨by rw [q]; simp_all,e46.trans c⟩
  ·exact ⟨by rw [q]; simp_all,e46.trans c⟩
def encI (p:Xac) (l c:Nat) (x:cz):List Xab:=[vI x.kind,.string x.name,vI x.inst.op,vI x.inst.a,vI x.inst.b,.int .i32 x.inst.n,vI x.inst.form,.slice p l c,.int .u32 x.e.num,vI x.n]
def wO (p:Xac) (l c:Nat) (x:cz):Xab:=.agg (encI p l c x).toArray
structure mY (h:Hp) (p:Xac) (l:Nat) (x:bJ):Prop where
 vw:ik h p l x.ah
 many:x.ah.length<=2^60
 names:∀ t,t∈x.ah->t.1.size<=maxLen
def mY.aj {h:Hp} {p:Xac} {l:Nat} {x:bJ} (v:mY h p l x) (k:Ext h h'):mY h' p l x:=⟨v.vw.aj k ai,v.many,v.names⟩
def ik.none (h:Hp):ik h none 0 []:=⟨rfl,fun i hi=>absurd hi ai⟩
def sJ (x:bJ):jq x GR=RJ x:=by
 unfold jq RJ GR;rw [Bool.and_comm]
def Kj (g k:Nat):T :=
 T.af ⟨g,5,none⟩ [.int .i32] <| fun (a:Int) =>
 cond (a==(0:Int))
  (T.af ⟨k,0,none⟩ [.int .i64,.int .i64,.int .i64,.int .i32,.int .i64] <| fun (b c d e f:Int) =>
  bM 111 [.agg #[vI b,vI c,vI d,.int .i32 e,vI f]] false [aM] <| fun (h:Int) =>
  cond (h==(0:Int))
  (T.af ⟨g,7,none⟩ [.slice 64,.int .u32] <| fun (i:Xac) (j l:Nat) (m:Int) =>
  bM 56 [.agg #[.slice i j l,aC m]] false [ct] <| fun (n:Bool) =>
  T.ret (.bool n))
  bH)
  bH
def NX (g k:Nat):T :=
 T.af ⟨k,0,none⟩ [.int .i64,.int .i64,.int .i64,.int .i32,.int .i64] <| fun (a b c d e:Int) =>
 bM 111 [.agg #[vI a,vI b,vI c,.int .i32 d,vI e]] false [aM] <| fun (f:Int) =>
 cond (f==(0:Int))
  (T.af ⟨g,7,none⟩ [.slice 64,.int .u32] <| fun (h:Xac) (i j:Nat) (l:Int) =>
  bM 82 [.agg #[.slice h i j,aC l],.agg #[aZ,aC (0:Int)]] false [ct] <| fun (m:Bool) =>
  T.ret (.bool m))
  bH
def px (i:Ins):List Xab:=[vI i.op,vI i.a,vI i.b,.int .i32 i.n,vI i.form]
variable {H:cz} {O:Xac} {U:Ins}
def GM {L:Lp} {h0 h:Hp} (t:yx h) {l c g k:Nat} (d:br h g e1 (encI O l c H)) (f:br h k e2 (px U)) (v:mY h O l H.e) (j:Sm U.op) (e:Ext h0 h) :
  Kj g k L (fun w h'=>w=.bool (decide (H.inst.n=0) && decide (gW U=0) && oz none H.e.ah)/\Ext h0 h') h:=by
 unfold Kj bM aC bH aM ct;refine aw d (H.inst.n,()) (ak ?_);refine ao ?_ ?_<;>intro q
 ·have q:H.inst.n=0:=by simpa using q
  refine aw f (U.op,U.a,U.b,U.n,U.form,()) (ak ?_);refine aE (GU t U.op U.a U.b U.n U.form j) ?_;rintro _ o ⟨rfl,e2⟩;refine ⟨(gW U,()),rfl,ak ?_⟩;refine ao ?_ ?_<;>intro r
  ·have r:gW U=0:=by simpa using r
   refine aw (d.aj e2 ai) ((O,l,c),(H.e.num:Int),()) (ak ?_);refine aE (uW (c:=c) (v.aj e2).vw (by have:=v.many; omega) v.names) ?_;rintro _ s ⟨rfl,m⟩;refine ⟨(oz none H.e.ah,()),rfl,?_⟩;exact ⟨by rw [ai9 q,ai9 r]; rfl,(e.trans e2).trans m⟩
  ·have r:¬ gW U=0:=by simpa using r
   exact ⟨by rw [aj9 r,fb9]; rfl,e.trans e2⟩
 ·have q:¬ H.inst.n=0:=by simpa using q
  exact ⟨by rw [aj9 q]; rfl,e⟩
def NY {L:Lp} {h0 h:Hp} (t:yx h) {l c g k:Nat} (f:br h g e1 (encI O l c H)) (j:br h k e2 (px U)) (v:mY h O l H.e) (m:Sm U.op) (e:Ext h0 h) :
  NX g k L (fun w h'=>w=.bool (decide (gW U=0) && RJ H.e)/\Ext h0 h') h:=by
 unfold NX bM aC bH aZ aM ct;refine aw j (U.op,U.a,U.b,U.n,U.form,()) (ak ?_);refine aE (GU t U.op U.a U.b U.n U.form m) ?_;rintro _ o ⟨rfl,e2⟩;refine ⟨(gW U,()),rfl,ak ?_⟩;refine ao ?_ ?_<;>intro r
 ·have r:gW U=0:=by simpa using r
  refine aw (f.aj e2 ai) ((O,l,c),(H.e.num:Int),()) (ak ?_);refine aE (CH (c:=c) (d:=0) (y:=GR) (v.aj e2).vw (ik.none o) v.many) ?_;rintro _ s ⟨rfl,q⟩;refine ⟨(jq H.e GR,()),rfl,?_⟩;exact ⟨by rw [ai9 r,sJ]; rfl,(e.trans e2).trans q⟩
 ·have r:¬ gW U=0:=by simpa using r
  exact ⟨by rw [aj9 r]; rfl,e.trans e2⟩
def instruction_hc {h:Hp} (t:yx h) {l c:Nat} (v:mY h O l H.e) (m:Sm H.inst.op) :
  HC Xaz 80 #[wO O l c H] h fun w h'=>w=.bool (AA H.inst H.e)/\Ext h h':=by
 refine aX (args:=[wO O l c H]) mixed Tryz.func80 av (ru H.kind H.name H.inst.op H.inst.a H.inst.b H.inst.n H.inst.form O l c H.e.num H.n) ?_;unfold mS aT cE bM aC bH aZ bZ ct;refine bm ?_;intro I b1 e1 z1;have b1:br I h.size 55 (encI O l c H):=b1;simp only [ay];refine aw b1 (H.inst.op,()) (ak ?_);refine aE (KV (t.aj e1 ai) H.inst.op m.1 m.2) ?_;rintro _ J ⟨s,y,rfl,e2⟩;refine ⟨(s,y,((dq H.inst.op:Nat):Int),decide (dq H.inst.op≠0),()),rfl,ak ?_⟩;refine bm ?_;intro W K M z3;refine bP K ?_;intro g b4 N z4;have b4:br g J.size 171 [.string s,.int .u8 y,vI (dq H.inst.op:Nat)]:=b4;have s1:=e1.size;have s2:=e2.size;have e14:=(e2.trans M).st N ad;have e4:=e1.trans e14;have b1:=b1.aj e14 ai;unfold AA;refine ao ?_ ?_<;>intro q
 ·have q:dq H.inst.op=0:=by simpa using q
  exact ⟨by rw [q]; rfl,e4⟩
 have q:dq H.inst.op≠0:=by simpa using q
 rw [ai9 q,bj9];refine aw b1 (H.inst.form,()) (ak ?_);refine ao ?_ ?_<;>intro r
 ·have r:¬ H.inst.form=0:=by simpa using r
  exact ⟨by rw [aj9 r]; rfl,e4⟩
 have r:H.inst.form=0:=by simpa using r
 rw [ai9 r,bj9];refine aw b1 (H.inst.op,H.inst.a,H.inst.b,H.inst.n,H.inst.form,()) (ak ?_);refine bm ?_;intro X P Q Y;refine bP P ?_;intro g6 o R Z;have o:br g6 g.size 49 (px H.inst):=o;have e46:=Q.st R ad;have e6:=e4.trans e46;have b1:=b1.aj e46 ai;have b4:=b4.aj e46 ai;simp only [ay];have hs:=iG H.inst.op;refine aw b4 (((dq H.inst.op:Nat):Int),()) (ak ?_);generalize i:(if HP H.inst.op=true then decide (H.inst.n=0) && decide (gW { H.inst with form:=if tN H.inst.op=true then 1 else 0 }=0) && oz none H.e.ah else decide (gW H.inst=0) && RJ H.e)=B;have S:{ H.inst with form:=0 }=H.inst:=by
  rcases U:H.inst with ⟨a1,a2,a3,a4,a5⟩
  rw [U] at r;simp only at r;rw [r]
 have E:12<=dq H.inst.op->T.ax ⟨g.size,4,none⟩ [vI 1] (Kj h.size g.size) [] (fun w h'=>w=.bool B/\Ext h h') g6:=by
  intro z;refine cZ o rfl (by simp [px]) ?_;intro g7 A F z7;have A:br g7 g.size 49 (px { H.inst with form:=1 }):=A;have C:Ext g g7:=e46.st F ad;have e7:=e4.trans C;have u:HP H.inst.op=true:=ai9 ad;have D:tN H.inst.op=true:=ai9 z;rw [af9 u,af9 D] at i
  have:=GM (L:=[]) (h0:=h) (t.aj e7 ai) (b1.aj F (by simp; omega)) A (v.aj e7) m e7
  rw [i] at this;exact this
 have G:dq H.inst.op=10\/dq H.inst.op=11->Kj h.size g.size [] (fun w h'=>w=.bool B/\Ext h h') g6:=by
  intro z;have u:HP H.inst.op=true:=ai9 ad;have D:¬ tN H.inst.op=true:=by unfold tN; rw [aj9 ad]; simp
  rw [af9 u,ac9 D,S] at i
  have:=GM (L:=[]) (h0:=h) (t.aj e6 ai) b1 o (v.aj e6) m e6
  rw [i] at this;exact this
 have V:dq H.inst.op<10->NX h.size g.size [] (fun w h'=>w=.bool B/\Ext h h') g6:=by
  intro z;have u:¬ HP H.inst.op=true:=by unfold HP; rw [aj9 ad]; simp
  rw [ac9 u] at i
  have:=NY (L:=[]) (h0:=h) (t.aj e6 ai) b1 o (v.aj e6) m e6
  rw [i] at this;exact this
 clear i;refine ao ?_ ?_<;>intro j
 ·have j:((dq H.inst.op:Nat):Int)=12:=by simpa using j
  refine ao (fun d=>E ad) (fun d=>?_);have d:¬ ((dq H.inst.op:Nat):Int)=12:=by simpa using d
  exact absurd j d
 have j:¬ ((dq H.inst.op:Nat):Int)=12:=by simpa using j
 refine ao ?_ ?_<;>intro d
 ·have d:((dq H.inst.op:Nat):Int)=13:=by simpa using d
  exact E ad
 have d:¬ ((dq H.inst.op:Nat):Int)=13:=by simpa using d
 refine ao ?_ ?_<;>intro k
 ·have k:((dq H.inst.op:Nat):Int)=10:=by simpa using k
  refine ao (fun d=>G ad) (fun f=>?_);have f:¬ ((dq H.inst.op:Nat):Int)=10:=by simpa using f
  exact absurd k f
 have k:¬ ((dq H.inst.op:Nat):Int)=10:=by simpa using k
 refine ao ?_ ?_<;>intro f
 ·have f:((dq H.inst.op:Nat):Int)=11:=by simpa using f
  exact G ad
 have f:¬ ((dq H.inst.op:Nat):Int)=11:=by simpa using f
 exact V ad
structure iM (h:Hp) (p:Xac) (l:Nat) (x:cz):Prop where
 lin:mY h p l x.e
 name:x.name.size<=maxLen
 op:Sm x.inst.op
def iM.aj {h:Hp} {p:Xac} {l:Nat} {x:cz} (v:iM h p l x) (k:Ext h h'):iM h' p l x:=⟨v.lin.aj k,v.name,v.op⟩
def lE (x y:cz):Bool:=decide (x.name=y.name) && decide (x.inst=y.inst) && decide (x.n=y.n) && jq x.e y.e
def UX:Tryz.prog.underlying 49=some (.struct (vP Xaz 49)):=av
def VX (x y:Operand) (i j:Ins) (h:Hp) (K:Xab->Hp->Prop) (hk:K (.bool !(decide (i=j))) h) :
  aP Xaz (Sx.lX (BinOp.neq) 49 x y (.agg (px i).toArray) (.agg (px j).toArray)) h K:=by
 refine Au UX av av av K ?_;have c:(vP Xaz 49).all (HW (px i).toArray (px j).toArray)=(i.op==j.op && (i.a==j.a && (i.b==j.b && (i.n==j.n && (i.form==j.form && true))))):=by
  rw [<- dd9]
  kernel_rfl
 rw [c,dg9]
 have:(i.op==j.op && (i.a==j.a && (i.b==j.b && (i.n==j.n && i.form==j.form))))=decide (i=j):=by
  rcases i with ⟨d,e,f,g,k⟩
  rcases j with ⟨l,m,c3,o,c5⟩
  simp only [dp,Ins.mk.injEq]
  by_cases h1:d=l <;> by_cases h2:e=m <;> by_cases p:f=c3 <;> by_cases q:g=o <;> by_cases r:k=c5 <;> simp [h1,h2,p,q,r]
 rw [this];exact hk
def Z6 (g k:Nat):T :=
 T.af ⟨g,1,none⟩ [.string] <| fun (z:Xaa) =>
 T.af ⟨k,1,none⟩ [.string] <| fun (A:Xaa) =>
 cond (!((ByteArray.toList z)==(ByteArray.toList A)))
  (T.ret (vI (31:Int)))
  (T.af ⟨g,2,none⟩ [.int .i64,.int .i64,.int .i64,.int .i32,.int .i64] <| fun (a b c d e:Int) =>
  T.af ⟨k,2,none⟩ [.int .i64,.int .i64,.int .i64,.int .i32,.int .i64] <| fun (f h i j l:Int) =>
  bR (Sx.lX (BinOp.neq) 49 (Operand.tmp 109) (Operand.tmp 111) (.agg #[vI a,vI b,vI c,.int .i32 d,vI e]) (.agg #[vI f,vI h,vI i,.int .i32 j,vI l])) false [ct] <| fun (m:Bool) =>
  cond m
  (T.ret (vI (31:Int)))
  (T.af ⟨g,9,none⟩ [.int .i64] <| fun (n:Int) =>
  T.af ⟨k,9,none⟩ [.int .i64] <| fun (o:Int) =>
  cond (n != o)
   (T.ret (vI (31:Int)))
   (T.af ⟨g,7,none⟩ [.slice 64,.int .u32] <| fun (p:Xac) (q r:Nat) (s:Int) =>
   T.af ⟨k,7,none⟩ [.slice 64,.int .u32] <| fun (t:Xac) (u w:Nat) (x:Int) =>
   bM 82 [.agg #[.slice p q r,aC s],.agg #[.slice t u w,aC x]] false [ct] <| fun (y:Bool) =>
   cond (!y)
   (T.ret (vI (31:Int)))
   (T.ret (vI (0:Int))))))
def E1 (b:Bool):Xab:=vI (if b then 0 else 31)
def qg {L:Lp} {h0 h:Hp} {y:cz} {q:Xac} {l c m d g k:Nat} (f:br h g e1 (encI O l c H)) (i:br h k e2 (encI q m d y)) (v:mY h O l H.e) (w:ik h q m y.e.ah) (e:Ext h0 h) :
  Z6 g k L (fun w h'=>w=E1 (lE H y)/\Ext h0 h') h:=by
 unfold Z6 lE bM bR aC ct;refine aw f (H.name,()) (ak ?_);refine aw i (y.name,()) (ak ?_);rw [ByteArray.toList_eq,ByteArray.toList_eq];refine ao ?_ ?_<;>intro r
 ·have r:¬ H.name=y.name:=fun o=>by rw [o] at r; simp at r
  exact ⟨by rw [aj9 r]; rfl,e⟩
 have r:H.name=y.name:=Ay (by simpa using r);rw [ai9 r,bj9];refine aw f (H.inst.op,H.inst.a,H.inst.b,H.inst.n,H.inst.form,()) (ak ?_);refine aw i (y.inst.op,y.inst.a,y.inst.b,y.inst.n,y.inst.form,()) (ak ?_);refine wI (fun s t=>VX _ _ H.inst y.inst h s t) ?_;refine ao ?_ ?_<;>intro r
 ·have r:¬ H.inst=y.inst:=by simpa using r
  exact ⟨by rw [aj9 r]; rfl,e⟩
 have r:H.inst=y.inst:=by simpa using r
 rw [ai9 r,bj9];refine aw f (H.n,()) (ak ?_);refine aw i (y.n,()) (ak ?_);refine ao ?_ ?_<;>intro r
 ·have r:¬ H.n=y.n:=by simpa using r
  exact ⟨by rw [aj9 r]; rfl,e⟩
 have r:H.n=y.n:=by simpa using r
 rw [ai9 r,bj9];refine aw f ((O,l,c),(H.e.num:Int),()) (ak ?_);refine aw i ((q,m,d),(y.e.num:Int),()) (ak ?_);refine aE (CH (c:=c) (d:=d) v.vw w v.many) ?_;rintro _ u ⟨rfl,j⟩;refine ⟨(jq H.e y.e,()),rfl,ak ?_⟩;refine ao ?_ ?_<;>intro r
 ·have r:jq H.e y.e=false:=by simpa using r
  exact ⟨by rw [r]; rfl,e.trans j⟩
 ·have r:jq H.e y.e=true:=by simpa using r
  exact ⟨by rw [r]; rfl,e.trans j⟩
def vr (x:bJ):jq x x=true:=xA x
def EF (hk:H.kind=1):cG H sec=(cB H.name.data.toList && lE H { fy H.kind with name:=H.name }):=by
 unfold cG lE;simp only [hk,fy,vr,sJ,z1,z2,z3,z4];simp (decide:=true) only [if_true,if_false,ft9,bj9,dg9]
 try simp only [Bool.and_assoc,Bool.and_comm,Bool.and_left_comm]
def Qj (hk:H.kind=2):cG H sec=(decide (sec=0) && AA H.inst H.e && lE H { fy H.kind with inst:=H.inst,e:=H.e }):=by
 unfold cG lE;simp only [hk,fy,vr,sJ,z1,z2,z3,z4];simp (decide:=true) only [if_true,if_false,ft9,bj9,dg9]
 try simp only [Bool.and_assoc,Bool.and_comm,Bool.and_left_comm]
def OQ (hk:H.kind=3):cG H sec=(vB H.n && lE H { fy H.kind with n:=H.n }):=by
 unfold cG lE;simp only [hk,fy,vr,sJ,z1,z2,z3,z4];simp (decide:=true) only [if_true,if_false,ft9,bj9,dg9]
 try simp only [Bool.and_assoc,Bool.and_comm,Bool.and_left_comm]
def Qt (hk:H.kind=4):cG H sec=(decide (sec=0) && lE H (fy H.kind)):=by
 unfold cG lE;simp only [hk,fy,vr,sJ,z1,z2,z3,z4];simp (decide:=true) only [if_true,if_false,ft9,bj9,dg9]
 try simp only [Bool.and_assoc,Bool.and_comm,Bool.and_left_comm]
def Pm (hk:H.kind=5):cG H sec=(decide (sec=1) && decide (-128<=H.n) && decide (H.n<=255) && lE H { fy H.kind with n:=H.n }):=by
 unfold cG lE;simp only [hk,fy,vr,sJ,z1,z2,z3,z4];simp (decide:=true) only [if_true,if_false,ft9,bj9,dg9]
 try simp only [Bool.and_assoc,Bool.and_comm,Bool.and_left_comm]
def Ni (hk:H.kind=6):cG H sec=(decide (sec=1) && oz none H.e.ah && lE H { fy H.kind with e:=H.e }):=by
 unfold cG lE;simp only [hk,fy,vr,sJ,z1,z2,z3,z4];simp (decide:=true) only [if_true,if_false,ft9,bj9,dg9]
 try simp only [Bool.and_assoc,Bool.and_comm,Bool.and_left_comm]
def Qn (hk:H.kind=7):cG H sec=(decide (sec=1) && decide (0<=H.n) && decide (H.n<=1048576) && lE H { fy H.kind with n:=H.n }):=by
 unfold cG lE;simp only [hk,fy,vr,sJ,z1,z2,z3,z4];simp (decide:=true) only [if_true,if_false,ft9,bj9,dg9]
 try simp only [Bool.and_assoc,Bool.and_comm,Bool.and_left_comm]
def JV (h1:H.kind≠1) (h2:H.kind≠2) (a:H.kind≠3) (b:H.kind≠4) (c:H.kind≠5) (d:H.kind≠6) (e:H.kind≠7):cG H sec=false:=by
 unfold cG;rw [ac9 h1,ac9 h2,ac9 a,ac9 b,ac9 c,ac9 d,ac9 e]
def QX {h:Hp} (t:yx h) {l c:Nat} (v:iM h O l H) :
  HC Xaz 54 #[wO O l c H,vI 0] h fun w h'=>w=E1 (cG H 0)/\Ext h h':=by
 refine aX (args:=[wO O l c H,vI 0]) mixed Tryz.func54 av (uT H.kind H.name H.inst.op H.inst.a H.inst.b H.inst.n H.inst.form O l c H.e.num H.n) ?_;unfold qY aT eZ aC aZ bZ;refine bm ?_;intro j b1 e1 z1;have b1:br j h.size 55 (encI O l c H):=b1;refine aw b1 (H.kind,()) (ak ?_);refine bm ?_;intro I s e2 z2;refine bP s ?_;intro m i u z3;have i:br m j.size 55 (encI none 0 0 (fy H.kind)):=i;have s1:=e1.size;have e13:=e2.st u (au9 _);have e3:=e1.trans e13;have b1:=b1.aj e13 ai;simp only [ay];refine aw b1 (H.kind,()) (ak ?_);refine ao ?_ ?_<;>intro q
 ·have q:H.kind=1:=by simpa using q
  rw [EF q];refine aw b1 (H.name,()) (ak ?_);refine cZ i rfl (by simp [encI]) ?_;intro g d f z4;have d:br g j.size 55 (encI none 0 0 { fy H.kind with name:=H.name }):=d;have e4:=e3.st f ad;have b1:=b1.aj f (by simp; omega);refine aw b1 (H.name,()) (ak ?_);refine aJ (vO H.name g (by have:=v.name; have:maxLen=9223372036854775807:=rfl; omega)) ?_;refine ao ?_ ?_<;>intro r
  ·have r:cB H.name.data.toList=false:=by simpa using r
   exact ⟨by rw [r]; rfl,e4⟩
  have r:cB H.name.data.toList=true:=by simpa using r
  rw [r,bj9];have hh:=qg (L:=[]) (h0:=h) (y:={ fy H.kind with name:=H.name }) b1 d (v.lin.aj e4) (ik.none g) e4;exact hh
 have z:H.kind≠1:=by simpa using q
 refine ao ?_ ?_<;>intro q
 ·have q:H.kind=2:=by simpa using q
  rw [Qj q];refine aw b1 (H.inst.op,H.inst.a,H.inst.b,H.inst.n,H.inst.form,()) (ak ?_);refine aw b1 ((O,l,c),(H.e.num:Int),()) (ak ?_);refine cZ i rfl (by simp [encI]) ?_;intro g d f z4;have e4:=e3.st f ad;have b1:=b1.aj f (by simp; omega);refine ⟨⟨b1.cells [.slice O l c,.int .u32 H.e.num] rfl,trivial⟩,?_⟩;refine cZ d rfl (by simp [encI,lN]) ?_;intro A b5 o J;have b5:br A j.size 55 (encI O l c { fy H.kind with inst:=H.inst,e:=H.e }):=b5;have e5:=e4.st o ad;have b1:=b1.aj o (by simp; omega);refine aw b1 (H.kind,H.name,H.inst.op,H.inst.a,H.inst.b,H.inst.n,H.inst.form,(O,l,c),(H.e.num:Int),H.n,()) (ak ?_);refine aE (instruction_hc (c:=c) (t.aj e5 ai) (v.lin.aj e5) v.op) ?_;rintro _ K ⟨rfl,k⟩;refine ⟨(AA H.inst H.e,()),rfl,ak ?_⟩;have e6:=e5.trans k;refine ao ?_ ?_<;>intro r
  ·have r:AA H.inst H.e=false:=by simpa using r
   exact ⟨by rw [r]; rfl,e6⟩
  have r:AA H.inst H.e=true:=by simpa using r
  rw [r];have b1:=b1.aj k ai;have b5:=b5.aj k ai;have hh:=qg (L:=[]) (h0:=h) (y:={ fy H.kind with inst:=H.inst,e:=H.e }) b1 b5 (v.lin.aj e6) (v.lin.aj e6).vw e6;exact hh
 have B:H.kind≠2:=by simpa using q
 refine ao ?_ ?_<;>intro q
 ·have q:H.kind=3:=by simpa using q
  rw [OQ q];refine aw b1 (H.n,()) (ak ?_);refine cZ i rfl (by simp [encI]) ?_;intro g d f z4;have d:br g j.size 55 (encI none 0 0 { fy H.kind with n:=H.n }):=d;have e4:=e3.st f ad;have b1:=b1.aj f (by simp; omega);refine aw b1 (H.n,()) (ak ?_);refine aJ (GK g H.n) ?_;refine ao ?_ ?_<;>intro r
  ·have r:vB H.n=false:=by simpa using r
   exact ⟨by rw [r]; rfl,e4⟩
  have r:vB H.n=true:=by simpa using r
  rw [r,bj9];have hh:=qg (L:=[]) (h0:=h) (y:={ fy H.kind with n:=H.n }) b1 d (v.lin.aj e4) (ik.none g) e4;exact hh
 have C:H.kind≠3:=by simpa using q
 refine ao ?_ ?_<;>intro q
 ·have q:H.kind=4:=by simpa using q
  rw [Qt q];have hh:=qg (L:=[]) (h0:=h) (y:=(fy H.kind)) b1 i (v.lin.aj e3) (ik.none m) e3;exact hh
 have D:H.kind≠4:=by simpa using q
 refine ao ?_ ?_<;>intro q
 ·have q:H.kind=5:=by simpa using q
  rw [Pm q];refine aw b1 (H.n,()) (ak ?_);refine cZ i rfl (by simp [encI]) ?_;intro g d f z4;have d:br g j.size 55 (encI none 0 0 { fy H.kind with n:=H.n }):=d;have e4:=e3.st f ad;have b1:=b1.aj f (by simp; omega);exact ⟨rfl,e4⟩
 have E:H.kind≠5:=by simpa using q
 refine ao ?_ ?_<;>intro q
 ·have q:H.kind=6:=by simpa using q
  rw [Ni q];refine aw b1 ((O,l,c),(H.e.num:Int),()) (ak ?_);refine cZ i rfl (by simp [encI]) ?_;intro g d f z4;have d:br g j.size 55 (encI O l c { fy H.kind with e:=H.e }):=d;have e4:=e3.st f ad;have b1:=b1.aj f (by simp; omega);exact ⟨rfl,e4⟩
 have F:H.kind≠6:=by simpa using q
 refine ao ?_ ?_<;>intro q
 ·have q:H.kind=7:=by simpa using q
  rw [Qn q];refine aw b1 (H.n,()) (ak ?_);refine cZ i rfl (by simp [encI]) ?_;intro g d f z4;have d:br g j.size 55 (encI none 0 0 { fy H.kind with n:=H.n }):=d;have e4:=e3.st f ad;have b1:=b1.aj f (by simp; omega);exact ⟨rfl,e4⟩
 have G:H.kind≠7:=by simpa using q
 exact ⟨by rw [JV z B C D E F G]; rfl,e3⟩
def Nw {h:Hp} (t:yx h) {l c:Nat} (v:iM h O l H) :
  HC Xaz 54 #[wO O l c H,vI 1] h fun w h'=>w=E1 (cG H 1)/\Ext h h':=by
 refine aX (args:=[wO O l c H,vI 1]) mixed Tryz.func54 av (uX H.kind H.name H.inst.op H.inst.a H.inst.b H.inst.n H.inst.form O l c H.e.num H.n) ?_;unfold qS aT eZ aC aZ bZ;refine bm ?_;intro i b1 e1 z1;have b1:br i h.size 55 (encI O l c H):=b1;refine aw b1 (H.kind,()) (ak ?_);refine bm ?_;intro J s e2 z2;refine bP s ?_;intro u j z z3;have j:br u i.size 55 (encI none 0 0 (fy H.kind)):=j;have s1:=e1.size;have e13:=e2.st z (au9 _);have e3:=e1.trans e13;have b1:=b1.aj e13 ai;simp only [ay];refine aw b1 (H.kind,()) (ak ?_);refine ao ?_ ?_<;>intro q
 ·have q:H.kind=1:=by simpa using q
  rw [EF q];refine aw b1 (H.name,()) (ak ?_);refine cZ j rfl (by simp [encI]) ?_;intro f b4 d z4;have b4:br f i.size 55 (encI none 0 0 { fy H.kind with name:=H.name }):=b4;have e4:=e3.st d ad;have b1:=b1.aj d (by simp; omega);refine aw b1 (H.name,()) (ak ?_);refine aJ (vO H.name f (by have:=v.name; have:maxLen=9223372036854775807:=rfl; omega)) ?_;refine ao ?_ ?_<;>intro r
  ·have r:cB H.name.data.toList=false:=by simpa using r
   exact ⟨by rw [r]; rfl,e4⟩
  have r:cB H.name.data.toList=true:=by simpa using r
  rw [r,bj9];have hh:=qg (L:=[]) (h0:=h) (y:={ fy H.kind with name:=H.name }) b1 b4 (v.lin.aj e4) (ik.none f) e4;exact hh
 have A:H.kind≠1:=by simpa using q
 refine ao ?_ ?_<;>intro q
 ·have q:H.kind=2:=by simpa using q
  rw [Qj q];refine aw b1 (H.inst.op,H.inst.a,H.inst.b,H.inst.n,H.inst.form,()) (ak ?_);refine aw b1 ((O,l,c),(H.e.num:Int),()) (ak ?_);refine cZ j rfl (by simp [encI]) ?_;intro f b4 d z4;have e4:=e3.st d ad;have b1:=b1.aj d (by simp; omega);refine ⟨⟨b1.cells [.slice O l c,.int .u32 H.e.num] rfl,trivial⟩,?_⟩;refine cZ b4 rfl (by simp [encI,lN]) ?_;intro B m o K;have m:br B i.size 55 (encI O l c { fy H.kind with inst:=H.inst,e:=H.e }):=m;have e5:=e4.st o ad;have b1:=b1.aj o (by simp; omega);exact ⟨rfl,e5⟩
 have C:H.kind≠2:=by simpa using q
 refine ao ?_ ?_<;>intro q
 ·have q:H.kind=3:=by simpa using q
  rw [OQ q];refine aw b1 (H.n,()) (ak ?_);refine cZ j rfl (by simp [encI]) ?_;intro f b4 d z4;have b4:br f i.size 55 (encI none 0 0 { fy H.kind with n:=H.n }):=b4;have e4:=e3.st d ad;have b1:=b1.aj d (by simp; omega);refine aw b1 (H.n,()) (ak ?_);refine aJ (GK f H.n) ?_;refine ao ?_ ?_<;>intro r
  ·have r:vB H.n=false:=by simpa using r
   exact ⟨by rw [r]; rfl,e4⟩
  have r:vB H.n=true:=by simpa using r
  rw [r,bj9];have hh:=qg (L:=[]) (h0:=h) (y:={ fy H.kind with n:=H.n }) b1 b4 (v.lin.aj e4) (ik.none f) e4;exact hh
 have D:H.kind≠3:=by simpa using q
 refine ao ?_ ?_<;>intro q
 ·have q:H.kind=4:=by simpa using q
  rw [Qt q];exact ⟨rfl,e3⟩
 have E:H.kind≠4:=by simpa using q
 refine ao ?_ ?_<;>intro q
 ·have q:H.kind=5:=by simpa using q
  rw [Pm q];refine aw b1 (H.n,()) (ak ?_);refine cZ j rfl (by simp [encI]) ?_;intro f b4 d z4;have b4:br f i.size 55 (encI none 0 0 { fy H.kind with n:=H.n }):=b4;have e4:=e3.st d ad;have b1:=b1.aj d (by simp; omega);refine aw b1 (H.n,()) (ak ?_);refine aK ?_ ?_<;>intro r
  ·refine aw b1 (H.n,()) (ak ?_);refine ao ?_ ?_<;>intro g
   ·have g:¬ H.n<=255:=by simpa using g
    exact ⟨by rw [aj9 g,fb9]; rfl,e4⟩
   have g:H.n<=255:=by simpa using g
   rw [ai9 g,ai9 (show -128<=H.n from r)];have hh:=qg (L:=[]) (h0:=h) (y:={ fy H.kind with n:=H.n }) b1 b4 (v.lin.aj e4) (ik.none f) e4;exact hh
  ·exact ⟨by rw [aj9 (show ¬ -128<=H.n from r),fb9]; rfl,e4⟩
 have F:H.kind≠5:=by simpa using q
 refine ao ?_ ?_<;>intro q
 ·have q:H.kind=6:=by simpa using q
  rw [Ni q];refine aw b1 ((O,l,c),(H.e.num:Int),()) (ak ?_);refine cZ j rfl (by simp [encI]) ?_;intro f b4 d z4;have b4:br f i.size 55 (encI O l c { fy H.kind with e:=H.e }):=b4;have e4:=e3.st d ad;have b1:=b1.aj d (by simp; omega);refine aw b1 ((O,l,c),(H.e.num:Int),()) (ak ?_);refine aE (uW (c:=c) (v.lin.aj e4).vw (by have:=v.lin.many; omega) v.lin.names) ?_;rintro _ M ⟨rfl,k⟩;refine ⟨(oz none H.e.ah,()),rfl,ak ?_⟩;have e6:=e4.trans k;refine ao ?_ ?_<;>intro r
  ·have r:oz none H.e.ah=false:=by simpa using r
   exact ⟨by rw [r]; rfl,e6⟩
  have r:oz none H.e.ah=true:=by simpa using r
  rw [r];have b1:=b1.aj k ai;have b4:=b4.aj k ai;have hh:=qg (L:=[]) (h0:=h) (y:={ fy H.kind with e:=H.e }) b1 b4 (v.lin.aj e6) (v.lin.aj e6).vw e6;exact hh
 have G:H.kind≠6:=by simpa using q
 refine ao ?_ ?_<;>intro q
 ·have q:H.kind=7:=by simpa using q
  rw [Qn q];refine aw b1 (H.n,()) (ak ?_);refine cZ j rfl (by simp [encI]) ?_;intro f b4 d z4;have b4:br f i.size 55 (encI none 0 0 { fy H.kind with n:=H.n }):=b4;have e4:=e3.st d ad;have b1:=b1.aj d (by simp; omega);refine aw b1 (H.n,()) (ak ?_);refine aK ?_ ?_<;>intro r
  ·refine aw b1 (H.n,()) (ak ?_);refine ao ?_ ?_<;>intro g
   ·have g:¬ H.n<=1048576:=by simpa using g
    exact ⟨by rw [aj9 g,fb9]; rfl,e4⟩
   have g:H.n<=1048576:=by simpa using g
   rw [ai9 g,ai9 (show 0<=H.n from r)];have hh:=qg (L:=[]) (h0:=h) (y:={ fy H.kind with n:=H.n }) b1 b4 (v.lin.aj e4) (ik.none f) e4;exact hh
  ·exact ⟨by rw [aj9 (show ¬ 0<=H.n from r),fb9]; rfl,e4⟩
 have I:H.kind≠7:=by simpa using q
 exact ⟨by rw [JV A C D E F G I]; rfl,e3⟩
section
variable {α:Type}
def vE (en:α->Xab) (D:List (Xaa × α)):List (Xaa × Xab):=D.map fun p=>(p.1,en p.2)
def gE (D:List (Xaa × α)) (s:Xaa):Option α:=(D.find? fun p=>decide (s=p.1)).map (·.2)
def pE (D:List (Xaa × α)) (s:Xaa) (v:α):List (Xaa × α):=if (gE D s).isSome then D.map fun p=>if s=p.1 then (p.1,v) else p else D++[(s,v)]
def nG (en:α->Xab) (D:List (Xaa × α)) (s:Xaa):look (vE en D) s=(gE D s).map en:=by
 unfold look gE vE
 induction D with
 | nil=>rfl
 | cons p D a =>
  by_cases h:s=p.1
  ·simp [h]
  ·simp only [List.map_cons,List.find?_cons,decide_eq_false h];exact a
def IZ (en:α->Xab) (D:List (Xaa × α)) (s:Xaa) (v:α):kR (vE en D) s (en v)=vE en (pE D s v):=by
 unfold kR pE;rw [nG];cases h:gE D s with
 | none=>simp [vE]
 | some q =>
  simp only [Option.map_some,Option.isSome_some,if_true,vE,List.map_map];refine ci9 fun p a=>?_
  simp only [Function.comp];split <;> simp_all
def x5 (D:List (Xaa × α)) (s:Xaa) (v:α):(pE D s v).length=if (gE D s).isSome then D.length else D.length+1:=by
 unfold pE;split <;> simp
def ya (D:List (Xaa × α)) (s t:Xaa) (v:α):gE (D++[(s,v)]) t=(gE D t).or (if t=s then some v else none):=by
 unfold gE;rw [List.find?_append];cases h:D.find? (fun p=>decide (t=p.1)) with
 | some q=>simp
 | none =>
  simp only [Option.none_or,Option.map_none,List.find?_cons,List.find?_nil]
  by_cases e:t=s
  ·simp [e]
  ·simp [e]
def Ih (D:List (Xaa × α)) (s t:Xaa) (v:α) (d:(gE D s).isSome):gE (D.map fun p=>if s=p.1 then (p.1,v) else p) t=if t=s then some v else gE D t:=by
 unfold gE at *
 induction D with
 | nil=>simp at d
 | cons p D f =>
  by_cases h:s=p.1
  ·by_cases e:t=s
   ·simp [h,e]
   ·have e2:¬ t=p.1:=fun k=>e (k.trans h.symm)
    have g:∀ l:List (Xaa × α),(List.find? (fun p=>decide (t=p.1)) (List.map (fun p=>if s=p.1 then (p.1,v) else p) l)).map (·.2)=(List.find? (fun p=>decide (t=p.1)) l).map (·.2):=by
     intro l
     induction l with
     | nil=>rfl
     | cons q l a =>
      by_cases b:s=q.1
      ·have:¬ t=q.1:=fun k=>e (k.trans b.symm)
       simp only [List.map_cons,List.find?_cons,if_pos b,decide_eq_false this];exact a
      ·simp only [List.map_cons,List.find?_cons,if_neg b]
       by_cases ht:t=q.1
       ·simp [ht]
       ·simp only [decide_eq_false ht];exact a
    simp only [List.map_cons,List.find?_cons,if_pos h,decide_eq_false e2,if_neg e];exact g D
  ·have c:(Option.map (fun x=>x.2) (List.find? (fun p=>decide (s=p.1)) D)).isSome:=by
    simpa [List.find?_cons,decide_eq_false h] using d
   simp only [List.map_cons,List.find?_cons,if_neg h]
   by_cases ht:t=p.1
   ·have:¬ t=s:=fun k=>h (k.symm.trans ht)
    simp [ht,if_neg (ht▸this)]
   ·simp only [decide_eq_false ht];exact f c
def QG (D:List (Xaa × α)) (s:Xaa) (v:α) (t:Xaa):gE (pE D s v) t=if t=s then some v else gE D t:=by
 unfold pE;split
 ·rename_i h;exact Ih D s t v h
 ·rename_i h;rw [ya]
  by_cases e:t=s
  ·subst e
   have:gE D t=none:=by simpa using h
   rw [this]; simp
  ·simp [e]
def dO (f:Xaa->Option α) (s:Xaa) (v:α):Xaa->Option α:=fun t=>if t=s then some v else f t
def ej (en:α->Xab) (h:Hp) (g:Nat) (f:Xaa->Option α) (n:Nat):Prop:=∃ D:List (Xaa × α),ff h g (vE en D)/\(∀ s,gE D s=f s)/\D.length=n
def ej.aj {en:α->Xab} {ws:List Nat} {h h':Hp} {g:Nat} {f:Xaa->Option α} {n:Nat} (m:ej en h g f n) (k:Ch ws h h') (a:g∉ws):ej en h' g f n:=by
 obtain ⟨D,m,r⟩:=m;exact ⟨D,m.aj k a,r⟩
def ej.lt {en:α->Xab} {h:Hp} {g:Nat} {f:Xaa->Option α} {n:Nat} (m:ej en h g f n):g<h.size:=by
 obtain ⟨D,m,r⟩:=m;exact m.lt
def ej.new {en:α->Xab} {h:Hp} {g:Nat} (m:ff h g []):ej en h g (fun _=>none) 0:=⟨[],m,fun s=>rfl,rfl⟩
def ej.kR {en:α->Xab} {h':Hp} {g:Nat} {f:Xaa->Option α} {n:Nat} {D:List (Xaa × α)} (a:∀ s,gE D s=f s) (hn:D.length=n) {s:Xaa} {v:α} (m:ff h' g (Sx.kR (vE en D) s (en v))):ej en h' g (dO f s v) (if (f s).isSome then n else n+1):=by
 rw [IZ] at m;refine ⟨_,m,fun t=>?_,?_⟩
 ·rw [QG,a t]; rfl
 ·rw [x5,a s,hn]
end
def eB (b:Bool):Xab:=.bool b
def Vm:Tryz.prog.underlying 152=some (.map 9 4):=av
def wT:Tryz.prog.underlying 9=some .string:=av
def PY:(Tryz.prog.info? 4).bind (·.zero)=some (.bool false):=av
def Cv (h:Hp) (g:Nat) (D:List Xaa):Prop:=∃ n,ej eB h g (fun s=>if gw D s then some true else none) n
def Cv.aj {ws:List Nat} {h h':Hp} {g:Nat} {D:List Xaa} (m:Cv h g D) (k:Ch ws h h') (a:g∉ws):Cv h' g D:=by
 obtain ⟨n,m⟩:=m;exact ⟨n,m.aj k a⟩
def Cv.lt {h:Hp} {g:Nat} {D:List Xaa} (m:Cv h g D):g<h.size:=by
 obtain ⟨n,m⟩:=m;exact m.lt
section
variable {L:Lp} {K:Xab->Hp->Prop} {h:Hp} {g:Nat} {D:List Xaa}
def Qq (m:Cv h g D) (s:Xaa) {k:Bool->T} (hk:k (gw D s) L K h):T.ef Xaz (Instr.lookup 152 (.map (some g)) (.string s) false) false [(false,[.bool])] k L K h:=by
 obtain ⟨n,b,m,a,hn⟩:=m;refine j3 Vm wT PY m s false _ ?_;refine ⟨(gw D s,()),?_,hk⟩;simp only [Bool.false_eq_true,if_false];rw [nG,a s];dsimp only
 all_goals (cases gw D s <;> rfl)
def dr (m:Cv h g D) {s:Xaa} (a:s.size<=maxLen) {k:T} (hk:∀ h',Cv h' g (s::D)->Ch [g] h h'->h'.size=h.size->k L K h') :
  T.dZ Xaz (Instr.mapUpdate 152 (.map (some g)) (.string s) (.bool true)) k L K h:=by
 obtain ⟨n,i,m,b,hn⟩:=m;refine gF Vm wT m a _ _ ?_;intro h' c c' d
 have:=ej.kR (en:=eB) b hn (v:=true) c
 have f:dO (fun t=>if gw D t then some true else none) s true=fun t=>if gw (s::D) t then some true else none:=by
  funext t
  unfold dO gw
  by_cases h1:t=s
  ·rw [af9 h1,af9];simp [h1]
  ·rw [ac9 h1]
   have:¬ s=t:=fun e=>h1 e.symm
   rw [List.any_cons,aj9 this,ey9]
 rw [f] at this;exact hk h' ⟨_,this⟩ c' d
def YT {t:TypeId} {k:Option Nat->T} (hk:∀ h',Cv h' h.size []->Ext h h'->h'.size=h.size+1->k (some h.size) L K h'):T.ef Xaz (Instr.makeMap t none) false [(false,[.map 0 0])] k L K h:=by
 refine nj _ ?_;intro h' m e z;exact ⟨(some h.size,()),rfl,hk h' ⟨0,ej.new m⟩ e z⟩
end
structure FD (h:Hp) (p:Xac) (l:Nat) (us:List cz):Prop where
 len:l=us.length
 many:us.length<=2^60
 cells:∀ i,(hi:i<us.length)->∃ a q m c,p=some a/\aF h (a.add (i*10)) 0 (encI q m c us[i])/\iM h q m us[i]
def FD.aj {h h':Hp} {p:Xac} {l:Nat} {us:List cz} (v:FD h p l us) (k:Ext h h'):FD h' p l us :=
 ⟨v.len,v.many,fun i hi=>by
  obtain ⟨a,q,m,c,b,hc,hv⟩:=v.cells i hi;exact ⟨a,q,m,c,b,aI k ai _ _ hc,hv.aj k⟩⟩
def W5 (p:Xac) (l c:Nat) (x:sO):List Xab:=[.string x.1,.slice p l c,.int .u32 x.2.num]
structure uS (h:Hp) (p:Xac) (l:Nat) (us:List sO):Prop where
 len:l=us.length
 many:us.length<=2^60
 cells:∀ i,(hi:i<us.length)->∃ a q m c,p=some a/\aF h (a.add (i*3)) 0 (W5 q m c us[i])/\mY h q m us[i].2/\us[i].1.size<=maxLen
def uS.aj {h h':Hp} {p:Xac} {l:Nat} {us:List sO} (v:uS h p l us) (k:Ext h h'):uS h' p l us :=
 ⟨v.len,v.many,fun i hi=>by
  obtain ⟨a,q,m,c,b,hc,hv,d⟩:=v.cells i hi;exact ⟨a,q,m,c,b,aI k ai _ _ hc,hv.aj k,d⟩⟩
structure Y3 (h:Hp) (p:Xac) (l:Nat) (us:List Xaa):Prop where
 len:l=us.length
 many:us.length<=2^60
 cells:∀ i,(hi:i<us.length)->∃ a,p=some a/\aF h (a.add (i*1)) 0 [.string us[i]]/\us[i].size<=maxLen
def Y3.aj {h h':Hp} {l:Nat} {us:List Xaa} (v:Y3 h O l us) (k:Ext h h'):Y3 h' O l us :=
 ⟨v.len,v.many,fun i hi=>by
  obtain ⟨a,b,hc,c⟩:=v.cells i hi;exact ⟨a,b,aI k ai _ _ hc,c⟩⟩
structure bI where
 p:Xac
 l:Nat
 c:Nat
def bI.v (s:bI):Xab:=.slice s.p s.l s.c
structure uA (h:Hp) (a b c d:bI) (u:cg):Prop where
 text:FD h a.p a.l u.text
 data:FD h b.p b.l u.data
 bg:uS h c.p c.l u.bg
 aS:Y3 h d.p d.l u.aS
def uA.aj {h h':Hp} {a b c d:bI} {u:cg} (v:uA h a b c d u) (k:Ext h h'):uA h' a b c d u:=⟨v.text.aj k,v.data.aj k,v.bg.aj k,v.aS.aj k⟩
def F5 (a b c d:bI):Xab:=.agg #[a.v,b.v,c.v,d.v]
def RI:Tryz.prog.underlying 43=some (.slice 46):=av
def Zl:(Tryz.prog.info? 46).map (fun i=>(i.zero,i.size,i.bytes))=some (some (.slice none 0 0),1,24):=av
def Q0 (a:Xac) (b c:Nat) (d:Xac) (e f:Nat):Instr.fill (fun j=>some (j*1,1)) ((Array.range (2*1)).map ((Value.slice none 0 0).cells[· % (Value.slice none 0 0).cells.size]!)) [(0,.slice a b c),(1,.slice d e f)]=some ([.slice a b c,.slice d e f]:List Xab).toArray:=av
def zU (u:cg) (k:Nat):List cz:=if k=0 then u.text else u.data
def vA (u:cg) (k:Nat):List Xaa:=if k=0 then [] else if k=1 then cY [] u.text else cY (cY [] u.text) u.data
def Bq (u:cg) (k:Nat):Bool:=if k=0 then xj u else if k=1 then (fj 1 (cY [] u.text) u.data && (gQ (cY (cY [] u.text) u.data) u.bg && dc u.names dS u.aS)) else (gQ (cY (cY [] u.text) u.data) u.bg && dc u.names dS u.aS)
def LD (u:cg) {k:Nat} (hk:k<2):Bq u k=(fj k (vA u k) (zU u k) && Bq u (k+1)):=by
 have:k=0\/k=1:=ad
 rcases this with rfl | rfl
 ·simp [Bq,vA,zU,xj,Bool.and_assoc]
 ·simp [Bq,vA,zU]
def Mr (u:cg) {k:Nat} (hk:k<2):vA u (k+1)=cY (vA u k) (zU u k):=by
 have:k=0\/k=1:=ad
 rcases this with rfl | rfl <;> rfl
def Hi (D:List Xaa) (l:List cz) {i:Nat} (hi:i<l.length):cY D (l.take (i+1))=uO (cY D (l.take i)) l[i]:=by
 unfold cY;rw [ag9 hi,cg9] <;> rfl
def GS (D:List Xaa) (l:List sO) {i:Nat} (hi:i<l.length):aU D (l.take (i+1))=l[i].1::aU D (l.take i):=by
 unfold aU;rw [ag9 hi,cg9] <;> rfl
def Eu (sec:Nat) (D:List Xaa) (l:List cz) {i:Nat} (hi:i<l.length):fj sec D (l.drop i)=(yO sec D l[i] && fj sec (uO D l[i]) (l.drop (i+1))):=by
 rw [aw9 hi,fj]
def G4 (D:List Xaa) (l:List sO) {i:Nat} (hi:i<l.length):gQ D (l.drop i)=(DO D l[i] && gQ (l[i].1::D) (l.drop (i+1))):=by
 rw [aw9 hi,gQ]
def oO (l:List Xaa) (i:Nat):Xaa:=if i=0 then dS else l.getD (i-1) dS
def wJ (D l:List Xaa) {i:Nat} (hi:i<l.length):dc D (oO l i) (l.drop i)=(TY D (oO l i) l[i] && dc D (oO l (i+1)) (l.drop (i+1))):=by
 rw [aw9 hi,dc]
 congr 2
 unfold oO;rw [ac9 ad,Nat.add_sub_cancel,cf9,ad9 hi] <;> rfl
def Hx (h:Hp) (g:Nat) (D:List Xaa):Prop:=Cv h g D/\∀ s,s∈D->cB s.data.toList=true
def Hx.aj {ws:List Nat} {h h':Hp} {g:Nat} {D:List Xaa} (m:Hx h g D) (k:Ch ws h h') (a:g∉ws):Hx h' g D:=⟨m.1.aj k a,m.2⟩
def F3 {s:Xaa} (h:cB s.data.toList=true):iB dS s:=by
 unfold cB at h;simp only [Bool.and_eq_true,decide_eq_true_eq] at h;have h2:=h.1.1.1.1;show (dS.data.toList:List UInt8)<s.data.toList
 have:(dS.data.toList:List UInt8)=[]:=rfl
 rw [this];cases b:s.data.toList with
 | nil=>rw [b] at h2; simp at h2
 | cons a l=>exact List.Lex.nil
def wF {D:List Xaa} {s:Xaa} (h:gw D s=true):s∈D:=by
 unfold gw at h;simp only [List.any_eq_true,decide_eq_true_eq] at h;obtain ⟨y,a,rfl⟩:=h;exact a
def SO {h:Hp} (t:yx h) {l c k:Nat} (v:iM h O l H) (hk:k<2) :
  HC Xaz 54 #[wO O l c H,vI (k:Int)] h fun w h'=>w=E1 (cG H k)/\Ext h h':=by
 have:k=0\/k=1:=ad
 rcases this with rfl | rfl
 ·exact QX t v
 ·exact Nw t v
def wW {h:Hp} (t:yx h) {a b c d:bI} {u:cg} (v:uA h a b c d u):HC Xaz 30 #[F5 a b c d] h fun w h'=>w=vI (ft u:Nat)/\Ext h h':=by
 refine aX (args:=[F5 a b c d]) mixed Tryz.func30 av (zT a.p a.l a.c b.p b.l b.c c.p c.l c.c d.p d.l d.c) ?_;unfold xr aR aY bq aH aT cE eZ bd bR bn aC aZ bZ aM;refine bm ?_;intro Q b1 e1 z1;have b1:br Q h.size 70 [a.v,b.v,c.v,d.v]:=b1;have m1:=v.text.many;have m2:=v.data.many;have m3:=v.bg.many;have m4:=v.aS.many;have n1:=v.text.len;have n2:=v.data.len;have n3:=v.bg.len;have n4:=v.aS.len;have s1:=e1.size;simp only [ay];refine aw b1 ((a.p,a.l,a.c),()) (ak ?_);refine aw b1 ((b.p,b.l,b.c),()) (ak ?_);rw [wrap_i64 ad ad];unfold ft wA;refine ao ?_ ?_<;>intro q
 ·have q:=ah9 q;exact ⟨by rw [ai9 (show 8192<u.text.length+u.data.length from ad)]; rfl,e1⟩
 have q:=ar9 q;rw [aj9 (show ¬ 8192<u.text.length+u.data.length from ad),ey9];refine aw b1 ((c.p,c.l,c.c),()) (ak ?_);refine ao ?_ ?_<;>intro q
 ·have q:=ah9 q;exact ⟨by rw [ai9 (show 8192<u.bg.length from ad)]; rfl,e1⟩
 have q:=ar9 q;rw [aj9 (show ¬ 8192<u.bg.length from ad),ac9 ai];refine YT ?_;intro g2 m e2 z2;have b2:=b1.aj e2 ai;refine aw b2 ((a.p,a.l,a.c),()) (ak ?_);refine aw b2 ((b.p,b.l,b.c),()) (ak ?_);refine nS RI Zl ad ad (Q0 a.p a.l a.c b.p b.l b.c) ?_;intro g3 b3 Z z3;have m:=m.aj Z (by have:=m.lt; simp);have e03:=(e1.trans e2).trans Z;have b3':=b2.aj Z ai;have s2:=e2.size;clear b1 b2;have S:∀ k,k<2->∃ s:bI,([a.v,b.v]:List Xab).drop k=s.v::([a.v,b.v]:List Xab).drop (k+1)/\FD h s.p s.l (zU u k):=by
  intro k hk
  have:k=0\/k=1:=ad
  rcases this with rfl | rfl
  ·exact ⟨a,rfl,v.text⟩
  ·exact ⟨b,rfl,v.data⟩
 have s3:=Z.size;have b3:br g3 g2.size 46 [a.v,b.v]:=b3;generalize hU:xj u=U;refine aQ (cs:=fH) (fun y w h'=>∃ k:Nat,y.2.1=(k:Int)/\k<=2/\w=2-k/\Ext h h'/\br h' h.size 70 [a.v,b.v,c.v,d.v]/\br h' g2.size 46 [a.v,b.v]/\Hx h' Q.size (vA u k)/\U=Bq u k) ((0:Int),(0:Int),()) 2 rfl
  ⟨0,rfl,ad,ad,e03,b3',b3,⟨m,by simp [vA]⟩,hU.symm⟩ ?_
 rintro ⟨V,n22,⟨⟩⟩ w h4 ⟨k,hk,hk2,rfl,e4,b1,b2,m,f⟩;simp only at hk;subst hk;refine ak ?_;refine aK ?_ ?_<;>intro q
 ·have hk:k<2:=ad
  obtain ⟨sl,hsl,vs⟩:=S k hk;refine bK rfl ?_;rw [ay];refine bC b2 ((sl.p,sl.l,sl.c),()) (by rw [show 0+(k:Int).toNat*1=k from ad,hsl]; rfl) ?_;refine ak ?_;have lk:=vs.len;have mk:=vs.many;generalize hl:zU u k=l at vs lk mk;have j:U=(fj k (cY (vA u k) (l.take 0)) (l.drop 0) && Bq u (k+1)):=by
   rw [f,LD u hk,hl] <;> rfl
  refine aQ (cs:=fH) (fun y w h'=>∃ i:Nat,y.2.1=(i:Int)/\i<=l.length/\w=l.length-i/\Ext h h'/\br h' h.size 70 [a.v,b.v,c.v,d.v]/\br h' g2.size 46 [a.v,b.v]/\Hx h' Q.size (cY (vA u k) (l.take i))/\U=(fj k (cY (vA u k) (l.take i)) (l.drop i) && Bq u (k+1))) (V,(0:Int),()) l.length rfl
   ⟨0,rfl,ad,ad,e4,b1,b2,m,j⟩ ?_
  clear f j m b1 b2 e4;rintro ⟨z,n28,⟨⟩⟩ w W ⟨i,hi,K,rfl,B,b1,b2,m,f⟩;simp only at hi;subst hi;refine ak ?_;refine aK ?_ ?_<;>intro q2
  ·have g:i<l.length:=ad
   obtain ⟨aa,pp,L,H,rfl',hc,I⟩:=(vs.aj B).cells i g;rw [Eu k _ l g] at f;have hnt:=Hi (vA u k) l g;generalize l[i]=x at hc I f hnt;refine gR (bf rfl' ?_);rw [cr i];refine ar (x.kind,x.name,x.inst.op,x.inst.a,x.inst.b,x.inst.n,x.inst.form,(pp,L,H),(x.e.num:Int),x.n,()) hc (ak ?_);refine bm ?_;intro h6 b6 C z6;refine bP b6 ?_;intro h7 F k7 z7;have F:br h7 W.size 55 (encI pp L H x):=F;have o:Ext W h7:=C.st k7 (au9 _);have e7:=B.trans o;simp only [ay];refine aw F (x.kind,x.name,x.inst.op,x.inst.a,x.inst.b,x.inst.n,x.inst.form,(pp,L,H),(x.e.num:Int),x.n,()) (ak ?_);refine aE (SO (c:=H) (t.aj e7 ai) (I.aj o) hk) ?_;rintro _ h8 ⟨rfl,M⟩;refine ⟨((if cG x k then 0 else 31:Int),()),rfl,ak ?_⟩;have e58:=o.trans M;have e08:=B.trans e58;have b1:=b1.aj e58 ai;have b2:=b2.aj e58 ai;have m:=m.aj e58 ai;have b8:=F.aj M ai;refine ao ?_ ?_<;>intro r
   ·have r:cG x k=false:=by
     cases hr:cG x k with
     | false=>rfl
     | true=>rw [hr] at r; simp at r
    exact ⟨by rw [f,yO,r]; rfl,e08⟩
   have r:cG x k=true:=by
    cases hr:cG x k with
    | true=>rfl
    | false=>rw [hr] at r; simp at r
   have hno:∀ D,yO k D x=!(decide (x.kind=1) && gw D x.name):=fun D=>by rw [yO,r]; rfl
   rw [hno] at f;refine aw b8 (x.kind,()) (ak ?_);refine ao ?_ ?_<;>intro A
   ·have A:x.kind=1:=by simpa using A
    rw [ai9 A,bj9] at f;have J:cB x.name.data.toList=true:=by
     rw [EF A,bk9] at r;exact r.1
    refine aw b8 (x.name,()) (ak ?_);refine Qq m.1 x.name ?_;refine ao ?_ ?_<;>intro X
    ·exact ⟨by rw [f,X]; rfl,e08⟩
    rw [X] at f;refine aw b8 (x.kind,()) (ak ?_);refine bX (by simpa using A) ?_;refine aw b8 (x.name,()) (ak ?_);refine dr m.1 I.name ?_;intro h9 m9 R z9;have N:Ext h h9:=e08.st R ad;have s5:=B.size;have G:uO (cY (vA u k) (l.take i)) x=x.name::cY (vA u k) (l.take i):=by unfold uO; rw [af9 A]
    refine aD (cs:=fH) (z,((i+1:Nat):Int),()) (l.length-(i+1)) rfl ad (by rw [wrap_i64 ad ad]; rfl) ?_;refine ⟨i+1,rfl,ad,rfl,N,b1.aj R (by simp; omega),b2.aj R (by simp; omega),by rw [hnt,G]; exact ⟨m9,fun s hs=>(bd9.1 hs).elim (fun e=>by rw [e]; exact J) (m.2 s)⟩,by rw [f,hnt]; rfl⟩
   ·have A:¬ x.kind=1:=by simpa using A
    rw [aj9 A] at f;refine aw b8 (x.kind,()) (ak ?_);refine cv (by simpa using A) ?_;have G:uO (cY (vA u k) (l.take i)) x=cY (vA u k) (l.take i):=by unfold uO; rw [ac9 A]
    refine aD (cs:=fH) (z,((i+1:Nat):Int),()) (l.length-(i+1)) rfl ad (by rw [wrap_i64 ad ad]; rfl) ?_;refine ⟨i+1,rfl,ad,rfl,e08,b1,b2,by rw [hnt,G]; exact m,by rw [f,hnt]; rfl⟩
  ·have g:i=l.length:=ad
   subst g;rw [bl9] at m f;rw [de9,fj,bj9] at f;refine aD (cs:=fH) (z,((k+1:Nat):Int),()) (2-(k+1)) rfl ad (by rw [wrap_i64 ad ad]; rfl) ?_;refine ⟨k+1,rfl,ad,rfl,B,b1,b2,by rw [Mr u hk,hl]; exact m,f⟩
 ·have hk:k=2:=ad
  subst hk;have f:U=(gQ (cY (cY [] u.text) u.data) u.bg && dc u.names dS u.aS):=f;have m:Hx h4 Q.size (cY (cY [] u.text) u.data):=m;generalize hD:cY (cY [] u.text) u.data=D at f m;have hN:u.names=aU D u.bg:=by rw [<- hD]; rfl
  rw [hN] at f;refine aw b1 ((c.p,c.l,c.c),()) (ak ?_);have j:U=(gQ (aU D (u.bg.take 0)) (u.bg.drop 0) && dc (aU D u.bg) dS u.aS):=f;refine aQ (cs:=fH) (fun y w h'=>∃ i:Nat,y.2.1=(i:Int)/\i<=u.bg.length/\w=u.bg.length-i/\Ext h h'/\br h' h.size 70 [a.v,b.v,c.v,d.v]/\Hx h' Q.size (aU D (u.bg.take i))/\U=(gQ (aU D (u.bg.take i)) (u.bg.drop i) && dc (aU D u.bg) dS u.aS)) (V,(0:Int),()) u.bg.length rfl
   ⟨0,rfl,ad,ad,e4,b1,m,j⟩ ?_
  clear f j m b1 b2 e4;rintro ⟨z,n28,⟨⟩⟩ w W ⟨i,hi,K,rfl,B,b1,m,f⟩;simp only at hi;subst hi;refine ak ?_;have s5:=B.size;refine ao ?_ ?_<;>intro q2
  ·have q2:=ah9 q2;have g:i<u.bg.length:=ad
   obtain ⟨aa,pp,L,H,rfl',hc,I,vn⟩:=(v.bg.aj B).cells i g;rw [G4 _ _ g] at f;have hnt:=GS D u.bg g;generalize u.bg[i]=x at hc I vn f hnt;refine gR (bf rfl' ?_);rw [cr i];refine ar (x.1,(pp,L,H),(x.2.num:Int),()) hc (ak ?_);refine bm ?_;intro h6 b6 C z6;refine bP b6 ?_;intro h7 F k7 z7;have F:br h7 W.size 116 (W5 pp L H x):=F;have o:Ext W h7:=C.st k7 (au9 _);have e7:=B.trans o;simp only [ay];have b1:=b1.aj o ai;have m:=m.aj o ai;unfold DO at f;refine aw F (x.1,()) (ak ?_);refine Qq m.1 x.1 ?_;refine ao ?_ ?_<;>intro r
   ·exact ⟨by rw [f,r]; rfl,e7⟩
   rw [r] at f;refine aw F (x.1,()) (ak ?_);refine aJ (vO x.1 h7 (by have:maxLen=9223372036854775807:=rfl; omega)) ?_;refine ao ?_ ?_<;>intro r
   ·have r:cB x.1.data.toList=false:=by simpa using r
    exact ⟨by rw [f,r]; rfl,e7⟩
   have J:cB x.1.data.toList=true:=by simpa using r
   rw [J] at f;refine aw F ((pp,L,H),(x.2.num:Int),()) (ak ?_);refine aE (uW (c:=H) (I.aj o).vw (by have:=I.many; omega) I.names) ?_;rintro _ h8 ⟨rfl,M⟩;refine ⟨(oz none x.2.ah,()),rfl,ak ?_⟩;have e08:=e7.trans M;have b1:=b1.aj M ai;have m:=m.aj M ai;have b8:=F.aj M ai;refine ao ?_ ?_<;>intro r
   ·have r:oz none x.2.ah=false:=by simpa using r
    exact ⟨by rw [f,r]; rfl,e08⟩
   have r:oz none x.2.ah=true:=by simpa using r
   rw [r] at f;refine aw b8 (x.1,()) (ak ?_);refine dr m.1 vn ?_;intro h9 m9 R z9;have N:Ext h h9:=e08.st R ad;refine aD (cs:=fH) (z,((i+1:Nat):Int),()) (u.bg.length-(i+1)) rfl ad (by rw [wrap_i64 ad ad]; rfl) ?_;refine ⟨i+1,rfl,ad,rfl,N,b1.aj R (by simp; omega),by rw [hnt]; exact ⟨m9,fun s hs=>(bd9.1 hs).elim (fun e=>by rw [e]; exact J) (m.2 s)⟩,by rw [f,hnt]; rfl⟩
  have q2:=ar9 q2;have g:i=u.bg.length:=ad
  subst g;rw [bl9] at m f;rw [de9,gQ,bj9] at f;generalize hE:aU D u.bg=E at m f;refine aw b1 ((d.p,d.l,d.c),()) (ak ?_);have j:U=dc E (oO u.aS 0) (u.aS.drop 0):=f;refine aQ (cs:=fH) (fun y w h'=>∃ i:Nat,y.2.1=(i:Int)/\i<=u.aS.length/\w=u.aS.length-i/\Ext h h'/\br h' h.size 70 [a.v,b.v,c.v,d.v]/\Hx h' Q.size E/\U=dc E (oO u.aS i) (u.aS.drop i)) (z,(0:Int),()) u.aS.length rfl
   ⟨0,rfl,ad,ad,B,b1,m,j⟩ ?_
  clear f j m b1 B s5;rintro ⟨Y,n32,⟨⟩⟩ w h6 ⟨i,hi,K,rfl,C,b1,m,f⟩;simp only at hi;subst hi;refine ak ?_;refine aK ?_ ?_<;>intro q3
  ·have g:i<u.aS.length:=ad
   obtain ⟨aa,rfl',hc,I⟩:=(v.aS.aj C).cells i g;rw [wJ _ _ g] at f;unfold TY at f;refine gR (bf rfl' ?_);rw [cr i];refine ar (u.aS[i],()) hc (ak ?_);refine Qq m.1 _ ?_;refine ao ?_ ?_<;>intro r
   ·have r:gw E u.aS[i]=false:=by simpa using r
    exact ⟨by rw [f,r]; rfl,C⟩
   have r:gw E u.aS[i]=true:=by simpa using r
   rw [r,bj9] at f;refine aK ?_ ?_<;>intro X
   ·refine aw b1 ((d.p,d.l,d.c),()) (ak ?_);rw [wrap_i64 ad ad];obtain ⟨ab,O,hc',va'⟩:=(v.aS.aj C).cells (i-1) ad;refine gR (bf O ?_);rw [show Int.toNat ((i:Int)-1)=i-1 from ad];refine ar (u.aS[i-1],()) hc' (ak ?_);have hla:oO u.aS i=u.aS[i-1]:=by
     unfold oO;rw [ac9 ad,cf9,ad9 ad] <;> rfl
    rw [leB];rw [hla] at f;refine ao ?_ ?_<;>intro P
    ·have P:decide (iB u.aS[i-1] u.aS[i])=false:=by simpa using P
     exact ⟨by rw [f,P]; rfl,C⟩
    ·have P:decide (iB u.aS[i-1] u.aS[i])=true:=by simpa using P
     rw [P,bj9] at f;refine aD (cs:=fH) (Y,((i+1:Nat):Int),()) (u.aS.length-(i+1)) rfl ad (by rw [wrap_i64 ad ad]; rfl) ?_;exact ⟨i+1,rfl,ad,rfl,C,b1,m,f⟩
   ·have hi0:i=0:=ad
    subst hi0;have hg:decide (iB (oO u.aS 0) u.aS[0])=true:=ai9 (F3 (m.2 _ (wF r)));rw [hg,bj9] at f;refine aD (cs:=fH) (Y,((0+1:Nat):Int),()) (u.aS.length-(0+1)) rfl ad (by rw [wrap_i64 ad ad]; rfl) ?_;exact ⟨0+1,rfl,ad,rfl,C,b1,m,f⟩
  ·have g:i=u.aS.length:=ad
   subst g;rw [de9] at f;exact ⟨by rw [f]; rfl,C⟩
def Qm (l:List UInt8):List (List Xab):=l.map fun b=>[.int .u8 (b.toNat:Int)]
def IV (l:List UInt8):(Qm l).length=l.length:=by simp [Qm]
def P9 (l:List UInt8):(Qm l).flatten=l.map fun b=>.int .u8 (b.toNat:Int):=by
 induction l with
 | nil=>rfl
 | cons a l c =>
  have:Qm (a::l)=[.int .u8 (a.toNat:Int)]::Qm l:=rfl
  rw [this,em9,c] <;> rfl
def byZ:(Tryz.prog.info? 5).map (fun i=>(i.zero,i.size,i.bytes))=some (some (.int .u8 0),1,1):=av
def SL.cw {h:Hp} {b:Nat} {e:TypeId} {sz l c:Nat} {xs:List (List Xab)} (s:SL h b e sz O l c xs):∀ i,i∈aG O->b<=i/\i<h.size:=by
 intro i hi;cases O with
 | none=>simp [aG] at hi
 | some a =>
  obtain ⟨g,f,rest,rfl,j,_,d,_⟩:=s.2.2;simp [aG] at hi;exact ⟨ad,by rw [hi]; exact d.lt⟩
def xE {P:Program} {h:Hp} (a:Xax) (l:List UInt8) (cap:Nat) (K:Xab->Hp->Prop) (hc:aF h a 0 (l.map BD)) (hk:K (.string ⟨l.toArray⟩) h):aP P (Conv.bytesToString (.slice (some a) l.length cap)) h K:=by
 unfold Conv.bytesToString;simp only;rw [an];refine dF ai hc _ ?_;rw [an,<- Array.forIn_toList]
 have b:∀ (l:List UInt8) (s:Xaa) (K':Xaa->Hp->Prop),K' ⟨s.data++l.toArray⟩ h->aP P (forIn (l.map BD) s fun c r=>match c with
   | .int .u8 n=>(pure (ForInStep.yield (r.push (UInt8.ofNat n.toNat))):Sem (ForInStep Xaa))
   | _ => stuck "bytesToString: byte expected") h K' := by
  intro l
  induction l with
  | nil =>
   intro s K' hk;have e:(⟨s.data++([]:List UInt8).toArray⟩:Xaa)=s:=ai
   rw [e] at hk;exact hk
  | cons c l d =>
   intro s K' hk;rw [bo9,List.forIn_cons];rw [an];show aP P (forIn (List.map BD l) (s.push (UInt8.ofNat ((c.toNat:Nat):Int).toNat)) _) h K';have e1:UInt8.ofNat ((c.toNat:Nat):Int).toNat=c:=ai
   rw [e1];refine d (s.push c) K' ?_
   have:(⟨(s.push c).data++l.toArray⟩:Xaa)=⟨s.data++(c::l).toArray⟩:=by
    congr 1
    apply by9.1
    simp
   rw [this]; exact hk
 refine b l ByteArray.empty _ ?_;have e:(⟨ByteArray.empty.data++l.toArray⟩:Xaa)=⟨l.toArray⟩:=by
  congr 1
  apply by9.1
  simp
 rw [e];exact hk
abbrev St:=Except (Nat × Nat) Bt
def neK {k c:Nat} (h:k≠c):(((k:Nat):Int)==(c:Int))=false:=by
 simp only [beq_eq_false_iff_ne,ne_eq];omega
def iz:List Xab:=[vI (0:Int),.string ⟨#[]⟩,vI (0:Int),vI (0:Int),vI (0:Int),.int .i32 (0:Int),vI (0:Int),.slice none 0 0,.int .u32 (0:Int),vI (0:Int)]
structure Ls {α:Type} (e:TypeId) (sz:Nat) (enc:bI->α->List Xab) (tm:α->dm) (ok:α->Prop) (h:Hp) (b:Nat) (p:Xac) (l c:Nat) (us:List (bI × α)):Prop where
 sl:SL h b e sz p l c (us.map fun u=>enc u.1 u.2)
 own:∀ u,u∈us->SL h b 64 2 u.1.p u.1.l u.1.c ((tm u.2).map df)
 ok:∀ u,u∈us->ok u.2
section
variable {α:Type} {e:TypeId} {sz:Nat} {enc:bI->α->List Xab} {tm:α->dm} {ok:α->Prop} {h h':Hp} {b b':Nat} {p:Xac} {l c:Nat} {us:List (bI × α)}
end
abbrev ptr (g:Nat):Xab:=.pointer (some ⟨g,0,none⟩)
def Vn:Tryz.prog.underlying 46=some (.slice 55):=av
def YP:Tryz.prog.underlying 67=some (.slice 116):=av
def J5:Tryz.prog.underlying 68=some (.slice 9):=av
def ZA:(Tryz.prog.info? 55).map (fun i=>(i.zero,i.size,i.bytes))=some (some (.agg iz.toArray),10,104):=av
def XP:(Tryz.prog.info? 9).map (fun i=>(i.zero,i.size,i.bytes))=some (some (.string ⟨#[]⟩),1,16):=av
def SL.zu {h:Hp} {b:Nat} {e:TypeId} {sz l c:Nat} {xs:List (List Xab)} (s:SL h b e sz O l c xs):∀ i,i∈aG O->∃ xs,br h i e xs:=by
 intro i hi;cases O with
 | none=>simp [aG] at hi
 | some a =>
  obtain ⟨g,f,rest,rfl,j,_,d,_⟩:=s.2.2;simp [aG] at hi;subst hi;exact ⟨_,d⟩
def SL.kN {ws:List Nat} {h h':Hp} {b:Nat} {e d:TypeId} {sz l c:Nat} {xs:List (List Xab)} (s:SL h b e sz O l c xs) (k:Ch ws h h') (g:∀ i,i∈ws->∃ ys,br h i d ys) (j:e≠d):SL h' b e sz O l c xs:=by
 refine Sx.SL.bF s k (fun i hi m=>?_);obtain ⟨ys,f⟩:=SL.zu s i hi;obtain ⟨zs,a⟩:=g i m;unfold br at f a;rw [f] at a;simp only [Option.some.injEq,Obj.cells.injEq] at a;exact j a.2.1
section
variable {h0 h:Hp} {g gm:Nat} {bp:Xac} {bl bc:Nat} {full:Bt} {st:St} {D:List Xaa}
end
def nv:bI:=⟨none,0,0⟩
abbrev Ws:=Ls 55 10 (fun s x=>encI s.p s.l s.c x) (fun x:cz=>x.e.ah) (fun _=>True)
def Ce:Tryz.prog.underlying 46=some (.slice 55):=av
def Ga:(Tryz.prog.info? 55).map (fun i=>(i.zero,i.size,i.bytes))=some (some (.agg iz.toArray),10,104):=av
def tY (u:bI × cz):List Xab:=encI u.1.p u.1.l u.1.c u.2
def G0 {a b:Nat} (h:(((a:Nat):Int)==((b:Nat):Int))=true):a=b:=by
 have:=eq_of_beq h
 omega
def Ha {a b:Nat} (h:(((a:Nat):Int)==((b:Nat):Int))=false):¬ a=b:=by
 rintro rfl;simp at h
variable {V:Lp} {Y:Bool}
def KX {K:Xab->Hp->Prop} {h:Hp} {t u:T} (a:Y=false->u V K h) (ht:Y=true->t V K h):(cond Y t u) V K h:=ao ht a
theorem dT {h:Hp} {a:Xax}:∀ (b:List Xab) (o i:Nat),aF h a (o+i) b->aF h (a.add o) i b
 | [],_,_,_=>trivial
 | v::b,o,i,hc=>⟨by rw [add_add]; exact hc.1,dT b o (i+1) hc.2⟩
def rG (s t:Xaa):(ByteArray.toList s==ByteArray.toList t)=decide (s=t):=by
 rw [ByteArray.toList_eq,ByteArray.toList_eq]
 by_cases h:s=t
 ·rw [ai9 h,h]; simp
 ·rw [aj9 h]
  have:¬ s.data.toList=t.data.toList:=fun e=>h (Ay e)
  simpa using this
def SY (x y:Operand) (i j:Ins) (h:Hp) (K:Xab->Hp->Prop) (hk:K (.bool (decide (i=j))) h) :
  aP Xaz (Sx.lX (BinOp.eql) 49 x y (.agg (px i).toArray) (.agg (px j).toArray)) h K:=by
 refine Gt UX av av av K ?_;have c:(vP Xaz 49).all (HW (px i).toArray (px j).toArray)=(i.op==j.op && (i.a==j.a && (i.b==j.b && (i.n==j.n && (i.form==j.form && true))))):=by
  rw [<- dd9]
  kernel_rfl
 rw [c,dg9]
 have:(i.op==j.op && (i.a==j.a && (i.b==j.b && (i.n==j.n && i.form==j.form))))=decide (i=j):=by
  rcases i with ⟨d,e,f,g,k⟩
  rcases j with ⟨l,m,c3,o,c5⟩
  simp only [dp,Ins.mk.injEq]
  by_cases h1:d=l <;> by_cases h2:e=m <;> by_cases p:f=c3 <;> by_cases q:g=o <;> by_cases r:k=c5 <;> simp [h1,h2,p,q,r]
 rw [this];exact hk
structure xt (h:Hp) (p:Xac) (l:Nat) (us:List cg):Prop where
 len:l=us.length
 many:us.length<=2^60
 cells:∀ i,(hi:i<us.length)->∃ a sa sb sc sd,p=some a/\aF h (a.add (i*4)) 0 [bI.v sa,bI.v sb,bI.v sc,bI.v sd]/\uA h sa sb sc sd us[i]
def xt.aj {h h':Hp} {p:Xac} {l:Nat} {us:List cg} (v:xt h p l us) (k:Ext h h'):xt h' p l us :=
 ⟨v.len,v.many,fun i hi=>by
  obtain ⟨a,sa,sb,sc,sd,b,hc,hv⟩:=v.cells i hi;exact ⟨a,sa,sb,sc,sd,b,aI k ai _ _ hc,hv.aj k⟩⟩
def CA (u:cg):Bool:=decide (600<u.text.length) || decide (300<u.data.length) || decide (100<u.bg.length)
def KN (u:cg):Nat:=u.text.length+u.data.length+u.bg.length
def iT (us:List cg):Nat:=(us.map KN).sum
def uC (us:List cg):Bool:=(us.take 65).any CA || decide (900<iT (us.take 65))
def Ny {α:Type} (f:α->Bool) (l:List α) {i n:Nat} (hi:i<l.length) (hn:i<n) (h:f l[i]=true):(l.take n).any f=true:=by
 rw [dy9];exact ⟨l[i],List.mem_take_iff_getElem.2 ⟨i,ad,rfl⟩,h⟩
def H7 (us:List cg) {i:Nat} (hi:i<us.length):iT (us.take (i+1))=iT (us.take i)+KN us[i]:=by
 unfold iT;rw [ag9 hi,ao9,List.sum_append]
 simp
def NG {h:Hp} {l c:Nat} {us:List cg} (v:xt h O l us):uo Xaz 23 [.slice O l c] h (.bool (uC us)):=by
 refine eX mixed Tryz.func23 av (pL O l c) ?_;unfold kr aR aY bq aH bn dX aM ct;have hl:=v.len;have hm:=v.many;refine aQ (cs:=TD) (fun y m h'=>∃ i:Nat,y.1=false/\y.2.1=((iT (us.take i):Nat):Int)/\y.2.2.1=(i:Int)/\m=l-i/\i<=l/\i<=65/\h'=h/\(us.take i).any CA=false/\iT (us.take i)<=i*1000) (false,(0:Int),(0:Int),()) l rfl
  ⟨0,rfl,rfl,rfl,rfl,ad,ad,rfl,rfl,by simp [iT]⟩ ?_
 rintro ⟨A,B,C,⟨⟩⟩ m h1 ⟨i,e,f,j,rfl,hi,o,rfl,q,D⟩;simp only at e f j;subst e f j;refine ak ?_;have d:(l<=i\/65<=i)->(T.ret (.bool (decide (((iT (us.take i):Nat):Int)>(900:Int))))) [Jl (cs:=TD) (fun y m h'=>∃ i:Nat,y.1=false/\y.2.1=((iT (us.take i):Nat):Int)/\y.2.2.1=(i:Int)/\m=l-i/\i<=l/\i<=65/\h'=h1/\(us.take i).any CA=false/\iT (us.take i)<=i*1000) (l-i)] (fun v' h'=>v'=.bool (uC us)/\h'=h1) h1:=by
  intro E
  have:us.take i=us.take 65:=by
   by_cases k:i=65
   ·rw [k]
   ·rw [bw9 ad,bw9 ad]
  refine ⟨?_,rfl⟩;unfold uC;rw [<- this,q,ey9]
  congr 1
  by_cases g:900<iT (us.take i)
  ·rw [ai9 g,ai9 ad]
  ·rw [aj9 g,aj9 ad]
 refine KX ?_ ?_<;>intro r
 ·have r:=ar9 r;exact d ad
 have r:=ah9 r;refine KX ?_ ?_<;>intro w
 ·have w:=ar9 w;exact d ad
 have w:=ah9 w;clear d;have b:i<us.length:=ad
 obtain ⟨a,sa,sb,sc,sd,rfl,hc,hv⟩:=v.cells i b;have na:=hv.text.len;have nb:=hv.data.len;have nc:=hv.bg.len;have s:aF h1 (a.add (i*4)) 0 [bI.v sa]:=⟨hc.1,trivial⟩
 have t:aF h1 ((a.add (i*4)).add 1) 0 [bI.v sb]:=dT _ 1 0 ⟨hc.2.1,trivial⟩;have u:aF h1 ((a.add (i*4)).add 2) 0 [bI.v sc]:=dT _ 2 0 ⟨hc.2.2.1,trivial⟩;have qT:CA us[i]=true->(T.ret (.bool true)) [Jl (cs:=TD) (fun y m h'=>∃ i:Nat,y.1=false/\y.2.1=((iT (us.take i):Nat):Int)/\y.2.2.1=(i:Int)/\m=l-i/\i<=l/\i<=65/\h'=h1/\(us.take i).any CA=false/\iT (us.take i)<=i*1000) (l-i)] (fun v' h'=>v'=.bool (uC us)/\h'=h1) h1:=by
  intro z;refine ⟨?_,rfl⟩;unfold uC;rw [Ny CA us b ad z] <;> rfl
 refine bK rfl ?_;refine ar ((sa.p,sa.l,sa.c),()) s (ak ?_);refine ao (fun g=>?_) (fun g1=>?_)
 ·have g:=ah9 g;refine qT ?_;unfold CA;rw [ai9 ad] <;> rfl
 have g1:=ar9 g1;refine bK rfl ?_;refine ar ((sb.p,sb.l,sb.c),()) t (ak ?_);refine ao (fun g=>?_) (fun g2=>?_)
 ·have g:=ah9 g;refine qT ?_;unfold CA;rw [ai9 (show 300<us[i].data.length from ad)]
  simp
 have g2:=ar9 g2;refine bK rfl ?_;refine ar ((sc.p,sc.l,sc.c),()) u (ak ?_);refine ao (fun g=>?_) (fun g3=>?_)
 ·have g:=ah9 g;refine qT ?_;unfold CA;rw [ai9 (show 100<us[i].bg.length from ad)]
  simp
 have g3:=ar9 g3;refine bK rfl ?_;refine ar ((sa.p,sa.l,sa.c),()) s (ak ?_);refine bK rfl ?_;refine ar ((sb.p,sb.l,sb.c),()) t (ak ?_);refine bK rfl ?_;refine ar ((sc.p,sc.l,sc.c),()) u (ak ?_);rw [wrap_i64 (x:=((iT (us.take i):Nat):Int)+(sa.l:Int)) ad ad,wrap_i64 (x:=((iT (us.take i):Nat):Int)+(sa.l:Int)+(sb.l:Int)) ad ad,wrap_i64 (x:=((iT (us.take i):Nat):Int)+(sa.l:Int)+(sb.l:Int)+(sc.l:Int)) ad ad,wrap_i64 (x:=(i:Int)+1) ad ad];have hst:=H7 us b;have n:KN us[i]=sa.l+sb.l+sc.l:=by unfold KN; omega
 refine aD (cs:=TD) (false,((iT (us.take (i+1)):Nat):Int),((i+1:Nat):Int),()) (l-(i+1)) rfl ad ?_ ?_
 ·show [Value.bool false,Value.int .i64 (((iT (us.take i):Nat):Int)+(sa.l:Int)+(sb.l:Int)+(sc.l:Int)),Value.int .i64 ((i:Int)+1)]=[Value.bool false,Value.int .i64 ((iT (us.take (i+1)):Nat):Int),Value.int .i64 ((i+1:Nat):Int)];rw [hst,n]
  congr 3
  omega
 ·refine ⟨i+1,rfl,rfl,rfl,rfl,ad,ad,rfl,?_,ad⟩;rw [ag9 b,List.any_append,q,ey9];unfold CA;simp only [List.any_cons,List.any_nil,Bool.or_false,Bool.or_eq_false_iff,decide_eq_false_iff_not];omega
def Ur:Array (Nat × Xab):=#[(0,.agg #[.string ⟨#[110,111,112]⟩,.int .u8 (0:Int),vI (1:Int)]),(1,.agg #[.string ⟨#[104,97,108,116]⟩,.int .u8 (1:Int),vI (1:Int)]),(2,.agg #[.string ⟨#[114,101,116]⟩,.int .u8 (2:Int),vI (1:Int)]),(3,.agg #[.string ⟨#[112,114,105,110,116]⟩,.int .u8 (3:Int),vI (2:Int)]),(4,.agg #[.string ⟨#[105,110]⟩,.int .u8 (4:Int),vI (2:Int)]),(5,.agg #[.string ⟨#[112,117,115,104]⟩,.int .u8 (5:Int),vI (2:Int)]),(6,.agg #[.string ⟨#[112,111,112]⟩,.int .u8 (6:Int),vI (2:Int)]),(7,.agg #[.string ⟨#[106,114]⟩,.int .u8 (7:Int),vI (2:Int)]),(8,.agg #[.string ⟨#[110,101,103]⟩,.int .u8 (8:Int),vI (2:Int)]),(9,.agg #[.string ⟨#[110,111,116]⟩,.int .u8 (9:Int),vI (2:Int)]),(10,.agg #[.string ⟨#[122,116,117,114,110]⟩,.int .u8 (10:Int),vI (3:Int)]),(11,.agg #[.string ⟨#[122,99,111,110,106]⟩,.int .u8 (11:Int),vI (3:Int)]),(12,.agg #[.string ⟨#[109,111,118]⟩,.int .u8 (16:Int),vI (4:Int)]),(13,.agg #[.string ⟨#[97,100,100]⟩,.int .u8 (17:Int),vI (4:Int)]),(14,.agg #[.string ⟨#[115,117,98]⟩,.int .u8 (18:Int),vI (4:Int)]),(15,.agg #[.string ⟨#[109,117,108]⟩,.int .u8 (19:Int),vI (4:Int)]),(16,.agg #[.string ⟨#[100,105,118]⟩,.int .u8 (20:Int),vI (4:Int)]),(17,.agg #[.string ⟨#[97,110,100]⟩,.int .u8 (21:Int),vI (4:Int)]),(18,.agg #[.string ⟨#[111,114]⟩,.int .u8 (22:Int),vI (4:Int)]),(19,.agg #[.string ⟨#[120,111,114]⟩,.int .u8 (23:Int),vI (4:Int)]),(20,.agg #[.string ⟨#[115,104,108]⟩,.int .u8 (24:Int),vI (4:Int)]),(21,.agg #[.string ⟨#[115,104,114]⟩,.int .u8 (25:Int),vI (4:Int)]),(22,.agg #[.string ⟨#[108,116]⟩,.int .u8 (26:Int),vI (4:Int)]),(23,.agg #[.string ⟨#[101,113]⟩,.int .u8 (27:Int),vI (4:Int)]),(24,.agg #[.string ⟨#[108,100,98]⟩,.int .u8 (28:Int),vI (4:Int)]),(25,.agg #[.string ⟨#[108,100,119]⟩,.int .u8 (29:Int),vI (4:Int)]),(26,.agg #[.string ⟨#[108,100,109]⟩,.int .u8 (30:Int),vI (4:Int)]),(27,.agg #[.string ⟨#[115,116,109]⟩,.int .u8 (31:Int),vI (4:Int)]),(28,.agg #[.string ⟨#[122,109,111,118]⟩,.int .u8 (32:Int),vI (5:Int)]),(29,.agg #[.string ⟨#[122,97,100,100]⟩,.int .u8 (33:Int),vI (5:Int)]),(30,.agg #[.string ⟨#[122,115,117,98]⟩,.int .u8 (34:Int),vI (5:Int)]),(31,.agg #[.string ⟨#[122,109,117,108]⟩,.int .u8 (35:Int),vI (5:Int)]),(32,.agg #[.string ⟨#[122,114,101]⟩,.int .u8 (36:Int),vI (6:Int)]),(33,.agg #[.string ⟨#[122,105,109]⟩,.int .u8 (37:Int),vI (6:Int)]),(34,.agg #[.string ⟨#[122,115,101,116]⟩,.int .u8 (38:Int),vI (7:Int)]),(35,.agg #[.string ⟨#[108,105,115]⟩,.int .u8 (48:Int),vI (8:Int)]),(36,.agg #[.string ⟨#[116,114,97,112]⟩,.int .u8 (49:Int),vI (9:Int)]),(37,.agg #[.string ⟨#[108,105]⟩,.int .u8 (50:Int),vI (10:Int)]),(38,.agg #[.string ⟨#[108,100,112]⟩,.int .u8 (51:Int),vI (11:Int)]),(39,.agg #[.string ⟨#[106,109,112]⟩,.int .u8 (64:Int),vI (12:Int)]),(40,.agg #[.string ⟨#[99,97,108,108]⟩,.int .u8 (67:Int),vI (12:Int)]),(41,.agg #[.string ⟨#[106,122]⟩,.int .u8 (70:Int),vI (13:Int)]),(42,.agg #[.string ⟨#[106,110,122]⟩,.int .u8 (73:Int),vI (13:Int)])]
def vR (k:Nat):Xaa:=match Ur[k]? with | some (_,.agg #[.string s,_,_])=>s | _=>⟨#[]⟩
def w8 (k:Nat):Int:=match Ur[k]? with | some (_,.agg #[_,.int _ b,_])=>b | _=>0
def Zu:Tryz.prog.underlying 141=some (.slice 144):=av
def opZ:(Tryz.prog.info? 144).map (fun i=>(i.zero,i.size,i.bytes))=some (some (.agg #[.string ⟨#[]⟩,.int .u8 0,vI 0]),3,32):=av
def TX:Instr.fill (fun j=>some (j*3,3)) ((Array.range (43*3)).map ((Value.agg #[.string ⟨#[]⟩,.int .u8 0,vI 0]).cells[· % (Value.agg #[.string ⟨#[]⟩,.int .u8 0,vI 0]).cells.size]!)) Ur.toList=some (lU vR w8).toArray:=av
def Wv (h:Hp):HC Xaz 49 #[] h fun v h'=>v=.slice (some ⟨h.size,0,none⟩) 43 43/\br h' h.size 144 (lU vR w8)/\Ext h h':=by
 refine aX (args:=[]) mixed Tryz.func49 av rC ?_;show (T.ef Xaz (Instr.buildSlice 141 43 Ur) false [(false,[.slice 0])] <| fun (p0:Xac) (a b:Nat)=>T.ret (.slice p0 a b)) [] _ h;refine nS Zu opZ ad ad TX ?_;intro h1 c e1 z1;exact ⟨rfl,c,e1⟩
def M7 {nm:Nat->Xaa} {by_:Nat->Int} {k:Nat} (hk:k<43):(lU nm by_)[k*3+2]?=some (vI (oK.getD k 0:Nat)):=by
 unfold lU;rw [wY _ 3 ai _ _ _ ad];simp [hk]
def oR (h:Hp) (op:Int) (f:Sm op):HC Xaz 26 #[vI op] h fun w h'=>w=vI (dq op:Nat)/\Ext h h':=by
 refine aX (args:=[vI op]) mixed Tryz.func26 av (o7 op) ?_;unfold kz bM bn;refine aE (Wv h) ?_;rintro _ h1 ⟨rfl,d,e1⟩;refine ⟨((some ⟨h.size,0,none⟩,43,43),()),rfl,ak ?_⟩;have c:op<1\/43<op->dq op=0:=by
  intro g
  by_cases h0:dq op=0
  ·exact h0
  ·have:=II op h0
   omega
 refine ao ?_ ?_<;>intro q
 ·have q:=ah9 q;rw [c (.inl q)];exact ⟨rfl,e1⟩
 have q:=ar9 q;refine ao ?_ ?_<;>intro r
 ·have r:op>((43:Nat):Int):=ah9 r;rw [c (.inr ad)];exact ⟨rfl,e1⟩
 have r:¬ op>((43:Nat):Int):=ar9 r;obtain ⟨k,hk⟩:∃ k:Nat,op=(k:Int)+1:=⟨(op-1).toNat,ad⟩
 rw [wrap_i64 ad ad,show op-1=(k:Int) from ad];have a:k<43:=ad
 refine gR ?_;refine bf rfl ?_;rw [cr k,ay,ay];have e:dq op=oK.getD k 0:=by
  unfold dq;rw [ac9 ad,show (op-1).toNat=k from ad]
 refine bC d (((oK.getD k 0:Nat):Int),()) ?_ ?_
 ·show List.take 1 (List.drop (0+k*3+2) (lU vR w8))=[vI ((oK.getD k 0:Nat):Int)]
  have:=M7 (nm:=vR) (by_:=w8) a
  rw [bv9];obtain ⟨b,hv⟩:=ax9.1 this;rw [aw9 b,List.take_succ_cons,List.take_zero,hv]
 ·rw [e];exact ⟨rfl,e1⟩
def DB (h:Hp) (op:Int) (a:Sm op):HC Xaz 125 #[vI op] h fun w h'=>w=.bool (tN op)/\Ext h h':=by
 refine aX (args:=[vI op]) mixed Tryz.func125 av (pf op) ?_;unfold kp cE dX;have hc:=iG op;refine aE (oR h op a) ?_;rintro _ h1 ⟨rfl,e1⟩;refine ⟨(((dq op:Nat):Int),()),rfl,ak ?_⟩;refine ao ?_ ?_<;>intro q
 ·have q:dq op=12:=G0 q;exact ⟨by unfold tN; rw [q]; rfl,e1⟩
 have q:¬ dq op=12:=Ha q;refine aE (oR h1 op a) ?_;rintro _ h2 ⟨rfl,e2⟩;refine ⟨(((dq op:Nat):Int),()),rfl,?_⟩;refine ⟨?_,e1.trans e2⟩
 congr 1
 unfold tN
 by_cases g:dq op=13
 ·rw [g]; rfl
 ·rw [aj9 ad];exact neK (c:=13) g
def Lc (h:Hp) (op:Int) (e:Sm op):HC Xaz 127 #[vI op] h fun w h'=>w=.bool (HP op)/\Ext h h':=by
 refine aX (args:=[vI op]) mixed Tryz.func127 av (qC op) ?_;unfold lh cE dX;have hc:=iG op;refine aE (oR h op e) ?_;rintro _ h1 ⟨rfl,e1⟩;refine ⟨(((dq op:Nat):Int),()),rfl,ak ?_⟩;refine ao (fun q=>?_) (fun a=>?_)
 ·have q:dq op=10:=G0 q;exact ⟨by unfold HP; rw [q]; rfl,e1⟩
 have a:¬ dq op=10:=Ha a;refine ao (fun q=>?_) (fun b=>?_)
 ·have q:dq op=11:=G0 q;exact ⟨by unfold HP; rw [q]; rfl,e1⟩
 have b:¬ dq op=11:=Ha b;refine ao (fun q=>?_) (fun d=>?_)
 ·have q:dq op=12:=G0 q;exact ⟨by unfold HP; rw [q]; rfl,e1⟩
 have d:¬ dq op=12:=Ha d;refine ⟨?_,e1⟩
 congr 1
 unfold HP
 by_cases g:dq op=13
 ·rw [g]; rfl
 ·rw [aj9 ad];exact neK (c:=13) g
def Td (h:Hp) (n w:Int):uo Xaz 151 [.int .i32 n,vI w] h (.bool ((decide (w=1) || decide (w=2) || decide (w=4)) && nq n w)):=by
 refine eX mixed Tryz.func151 av (qc n w) ?_;unfold lH nq bH dX;refine ao (fun q=>?_) (fun a=>?_)
 ·have q:w=1:=by simpa using q
  rw [af9 q,q];refine ao (fun r=>⟨?_,rfl⟩) (fun r=>⟨?_,rfl⟩)
  ·have r:=ah9 r;rw [ai9 (show -128<=n from r)]
   simp
  ·have r:=ar9 r;rw [aj9 (show ¬ -128<=n from r)]
   simp
 have a:¬ w=1:=by simpa using a
 rw [ac9 a];refine ao (fun q=>?_) (fun b=>?_)
 ·have q:w=2:=by simpa using q
  rw [af9 q,q];refine ao (fun r=>⟨?_,rfl⟩) (fun r=>⟨?_,rfl⟩)
  ·have r:=ah9 r;rw [ai9 (show -32768<=n from r)]
   simp
  ·have r:=ar9 r;rw [aj9 (show ¬ -32768<=n from r)]
   simp
 have b:¬ w=2:=by simpa using b
 rw [ac9 b];refine ao (fun q=>?_) (fun c=>?_)
 ·have q:w=4:=by simpa using q
  rw [q];exact ⟨rfl,rfl⟩
 ·have c:¬ w=4:=by simpa using c
  rw [aj9 a,aj9 b,aj9 c];exact ⟨rfl,rfl⟩
def aA (s:Nat):Nat:=if s=2\/s=8\/s=10\/s=11\/s=13\/s=4\/s=6 then 8 else if s=3\/s=5\/s=7 then 4 else 0
def bB (s:Nat):Nat:=if s=4\/s=7 then 8 else if s=5\/s=6 then 4 else 0
def P2 {s:Nat} (c:1<=s/\s<=13) (a b n:Int):cQ s a b n=true↔(0<=a/\0<=b/\(a<(aA s:Int)\/(aA s=0/\a=0))/\(b<(bB s:Int)\/(bB s=0/\b=0))/\(s=7->0<=n/\n<=7)):=by
 have:s=1\/s=2\/s=3\/s=4\/s=5\/s=6\/s=7\/s=8\/s=9\/s=10\/s=11\/s=12\/s=13:=ad
 unfold cQ xu aA bB;rcases this with rfl | rfl | rfl | rfl | rfl | rfl | rfl | rfl | rfl | rfl | rfl | rfl | rfl <;> simp <;> omega
def MB (h:Hp) (op a b n form:Int) (e:Sm op) (g:dq op≠0):HC Xaz 150 #[dz op a b n form] h fun w h'=>w=.bool (cQ (dq op) a b n)/\Ext h h':=by
 refine aX (args:=[dz op a b n form]) mixed Tryz.func150 av (lO op a b n form) ?_;unfold gV cE bH dX aM;have hc:1<=dq op/\dq op<=13:=by have:=iG op; omega
 refine bm ?_;intro h1 d e1 z1;refine aw d (op,()) (ak ?_);refine aE (oR h1 op e) ?_;rintro _ h2 ⟨rfl,e2⟩;refine ⟨(((dq op:Nat):Int),()),rfl,ak ?_⟩;have b2:=d.aj e2 ai;have e02:=e1.trans e2;have hiff:=P2 hc a b n;generalize dq op=s at *;generalize cQ s a b n=R at *;refine iS (cs:=fH) (fun y h'=>y=(((aA s:Nat):Int),((bB s:Nat):Int),())/\h2=h') ?_ ?_
 ·have:s=1\/s=2\/s=3\/s=4\/s=5\/s=6\/s=7\/s=8\/s=9\/s=10\/s=11\/s=12\/s=13:=ad
  rcases this with rfl | rfl | rfl | rfl | rfl | rfl | rfl | rfl | rfl | rfl | rfl | rfl | rfl
  all_goals (repeat (first | refine bX rfl ?_ | refine cv rfl ?_))
  all_goals exact dV (cs:=fH) (((aA _:Nat):Int),((bB _:Nat):Int),()) rfl rfl ⟨rfl,rfl⟩
 rintro ⟨A,B,⟨⟩⟩ _ ⟨f,rfl⟩;cases f;refine ak ?_;simp only [ay];have c:∀ b:Bool,(b=true↔R=true)->(T.ret (.bool b)) [] (fun w h'=>w=.bool R/\Ext h h') h2:=by
  intro b i;refine ⟨?_,e02⟩;cases b <;> cases R <;> simp_all
 repeat' (first
  | (refine bC b2 (a,()) rfl ?_; refine ak ?_)
  | (refine bC b2 (b,()) rfl ?_; refine ak ?_)
  | (refine bC b2 (n,()) rfl ?_; refine ak ?_)
  | refine c _ ?_
  | refine ao (fun q=>?_) (fun q=>?_))
 all_goals (rw [hiff]; simp only [decide_eq_true_eq,decide_eq_false_iff_not,bne_iff_ne,ne_eq,bne_eq_false_iff_eq,Bool.false_eq_true,false_iff,true_iff] at *; omega)
def xe (n w:Int):Bool:=(decide (w=1) || decide (w=2) || decide (w=4)) && nq n w
def FT (n w:Int):Prop:=(w=1/\-128<=n/\n<=127)\/(w=2/\-32768<=n/\n<=32767)\/w=4
def J3 (n w:Int):xe n w=true↔FT n w:=by
 unfold xe nq FT
 by_cases h1:w=1
 ·subst h1; simp
 ·by_cases h2:w=2
  ·subst h2; simp
  ·by_cases a:w=4
   ·subst a; simp
   ·simp [h1,h2,a]
def Wm (n w:Int):xe n w=false↔¬ FT n w:=by
 rw [<- J3]
 simp
def bt {i:Ins} (h0:dq i.op≠0) (l:cQ (dq i.op) i.a i.b i.n=true) (P:Prop) (m:P↔((dq i.op=12\/dq i.op=13->FT i.n i.form)/\(dq i.op≠12/\dq i.op≠13->i.form=0)/\(dq i.op=8->-128<=i.n/\i.n<=127)/\(dq i.op=9->0<=i.n/\i.n<=255)/\(dq i.op=11->0<=i.n/\i.n<=4095) /\
  (dq i.op<7->i.n=0))):(P->gW i=0)/\(¬ P->gW i=13):=by
 obtain ⟨op,a,b,n,form⟩:=i;simp only at *;have hc:=iG op;have c:(!tN op && decide (form≠0) || !nR (dq op) n form)=true↔¬ P:=by
  rw [m];unfold tN nR nq FT
  have:dq op=1\/dq op=2\/dq op=3\/dq op=4\/dq op=5\/dq op=6\/dq op=7\/dq op=8\/dq op=9\/dq op=10\/dq op=11\/dq op=12\/dq op=13:=ad
  rcases this with h | h | h | h | h | h | h | h | h | h | h | h | h <;> rw [h]
  all_goals (
   by_cases f:form=1
   ·subst f; simp; try omega
   ·by_cases g:form=2
    ·subst g; simp; try omega
    ·by_cases j:form=4
     ·subst j; simp; try omega
     ·by_cases k:form=0
      ·subst k; simp; try omega
      ·simp [f,g,j,k])
 unfold gW;simp only;rw [ac9 h0,l,ac9 ai];refine ⟨fun d=>?_,fun d=>?_⟩
 ·rw [ac9 (fun e=>c.1 e d)]
 ·rw [af9 (c.2 d)]
def MD (h:Hp) (op a b n form:Int) (g:Sm op):HC Xaz 126 #[dz op a b n form] h fun w h'=>w=vI (gW ⟨op,a,b,n,form⟩)/\Ext h h':=by
 refine aX (args:=[dz op a b n form]) mixed Tryz.func126 av (oC op a b n form) ?_;unfold kD aT cE;refine bm ?_;intro h1 j e1 z1;refine aw j (op,()) (ak ?_);refine aE (oR h1 op g) ?_;rintro _ h2 ⟨rfl,e2⟩;refine ⟨(((dq op:Nat):Int),()),rfl,ak ?_⟩;have b2:=j.aj e2 ai;have e02:=e1.trans e2;refine ao ?_ ?_<;>intro q
 ·have q:dq op=0:=G0 q;exact ⟨by unfold gW; simp only; rw [af9 q],e02⟩
 have q:¬ dq op=0:=Ha q;refine aw b2 (op,a,b,n,form,()) (ak ?_);refine iv (MB h2 op a b n form g q) ?_;intro h3 k;have b3:=b2.aj k ai;have e03:=e02.trans k;refine ao ?_ ?_<;>intro r
 ·have r:cQ (dq op) a b n=false:=by simpa using r
  exact ⟨by unfold gW; simp only; rw [ac9 q,r,af9 rfl],e03⟩
 have r:cQ (dq op) a b n=true:=by simpa using r
 have hc:=iG op;obtain ⟨e,c⟩:=bt (i:=⟨op,a,b,n,form⟩) q r _ Iff.rfl;simp only at e c;generalize gW ⟨op,a,b,n,form⟩=C at *;generalize dq op=s at *;clear r;have l:((s=12\/s=13->FT n form)/\(s≠12/\s≠13->form=0)/\(s=8->-128<=n/\n<=127)/\(s=9->0<=n/\n<=255)/\(s=11->0<=n/\n<=4095)/\(s<7->n=0))->(T.ret (vI (0:Int))) [] (fun w h'=>w=vI C/\Ext h h') h3:=fun f=>⟨by rw [e f],e03⟩
 have d:¬ ((s=12\/s=13->FT n form)/\(s≠12/\s≠13->form=0)/\(s=8->-128<=n/\n<=127)/\(s=9->0<=n/\n<=255)/\(s=11->0<=n/\n<=4095)/\(s<7->n=0))->(T.ret (vI (13:Int))) [] (fun w h'=>w=vI C/\Ext h h') h3:=fun f=>⟨by rw [c f],e03⟩
 clear e c;simp only [ay]
 repeat' (first
  | (refine bC b3 (n,()) rfl ?_; refine ak ?_)
  | (refine bC b3 (form,()) rfl ?_; refine ak ?_)
  | refine l ?_
  | refine d ?_
  | refine aJ (b:=xe n form) (Td h3 n form) ?_
  | refine ao (fun q=>?_) (fun q=>?_))
 all_goals (
  clear l d;simp only [decide_eq_true_eq,decide_eq_false_iff_not,bne_iff_ne,ne_eq,bne_eq_false_iff_eq,beq_iff_eq,beq_eq_false_iff_ne,Bool.not_eq_true',Bool.not_eq_false',J3,Wm,FT] at *;omega)
def oE (x:cz) (a b c d:Bool):Bool:=(!a || z1 x) && ((!b || z2 x) && ((!c || z3 x) && (!d || z4 x)))
def WS (s:Xaa):(ByteArray.toList s==([]:List UInt8))=decide (s=dS):=by
 have:=rG s dS
 rw [show ByteArray.toList dS=[] by rw [ByteArray.toList_eq]; rfl] at this;exact this
def Sg (n m:Nat) (i:Ins) (h:Hp) (K:Xab->Hp->Prop) (hk:K (.bool (decide (i=T9))) h) :
  aP Xaz (Sx.lX (BinOp.eql) 49 (Operand.tmp n) (Operand.tmp m) (.agg #[vI i.op,vI i.a,vI i.b,.int .i32 i.n,vI i.form]) (.agg #[vI (0:Int),vI (0:Int),vI (0:Int),.int .i32 (0:Int),vI (0:Int)])) h K :=
 SY _ _ i T9 h K hk
def SQ {h:Hp} {l c:Nat} (v:ik h O l H.e.ah) (d f g i:Bool) :
  HC Xaz 124 #[wO O l c H,.bool d,.bool f,.bool g,.bool i] h fun w h'=>w=.bool (oE H d f g i)/\Ext h h':=by
 refine aX (args:=[wO O l c H,.bool d,.bool f,.bool g,.bool i]) mixed Tryz.func124 av (qz H.kind H.name H.inst.op H.inst.a H.inst.b H.inst.n H.inst.form O l c H.e.num H.n d f g i) ?_;unfold lB eZ aC bH dX;have hl:=v.len;have j:RJ H.e=(decide (l=0) && decide (H.e.num=0)):=by
  unfold RJ
  congr 1
  rw [hl]
  simp
 refine bm ?_;intro h1 bx e1 k;have bx:br h1 h.size 55 (encI O l c H):=bx;simp only [ay];unfold oE z1 z2 z3 z4;rw [j]
 repeat' (first
  | (refine bC bx (H.n,()) rfl ?_; refine ak ?_)
  | (refine bC bx (H.name,()) rfl ?_; refine ak ?_)
  | (refine bC bx ((O,l,c),()) rfl ?_; refine ak ?_)
  | (refine bC bx ((H.e.num:Int),()) rfl ?_; refine ak ?_)
  | (refine bC bx (H.inst.op,H.inst.a,H.inst.b,H.inst.n,H.inst.form,()) rfl ?_; refine ak ?_)
  | refine wI (fun m o=>Sg _ _ H.inst h1 m o) ?_
  | refine ⟨aq9 Value.bool ?_,e1⟩
  | refine ao (fun q=>?_) (fun q=>?_))
 all_goals (
  try simp only [WS] at *
  simp_all [dp])
 all_goals omega
def Ut (g:Nat) (i j l m:Bool) (k:Bool->T):T :=
 T.af ⟨g,0,none⟩ [.int .i64,.string,.int .i64,.int .i64,.int .i64,.int .i32,.int .i64,.slice 64,.int .u32,.int .i64] <| fun (n:Int) (o:Xaa) (p n8 q a b:Int) (c:Xac) (d e:Nat) (f h:Int) =>
  bM 124 [.agg #[vI n,.string o,vI p,vI n8,vI q,.int .i32 a,vI b,.slice c d e,aC f,vI h],.bool i,.bool j,.bool l,.bool m] false [ct] k
def ij {K:Xab->Hp->Prop} {h:Hp} {g l c:Nat} {d f i:Bool} {k:Bool->T} (bx:br h g 55 (encI O l c H)) (v:ik h O l H.e.ah) (hk:∀ h',Ext h h'->k (oE H Y d f i) V K h'):Ut g Y d f i k V K h:=by
 unfold Ut bM aC ct;refine aw bx (H.kind,H.name,H.inst.op,H.inst.a,H.inst.b,H.inst.n,H.inst.form,(O,l,c),(H.e.num:Int),H.n,()) (ak ?_);exact iv (SQ v Y d f i) hk
def DI (h:Hp) (n:Int):uo Xaz 128 [vI n] h (.bool (vB n)):=by
 refine eX mixed Tryz.func128 av (pK n) ?_;unfold kC bn bH dX aM ct;refine aQ (cs:=jP) (fun y m h'=>∃ k:Nat,y=(false,((2^k:Nat):Int),())/\m=9-k/\k<=9/\h'=h/\(∀ j,j<k->¬ n=((2^j:Nat):Int))) (false,(1:Int),()) 9 rfl
  ⟨0,rfl,rfl,ad,rfl,fun j a=>ad⟩ ?_
 rintro ⟨o,p,⟨⟩⟩ m h1 ⟨k,e,s,hk,rfl,a⟩;cases e;refine ak ?_;refine aK ?_ ?_<;>intro q
 ·have b:k<=8:=by
   by_cases g:k=9
   ·subst g;exact absurd q bQ
   ·omega
  refine ao ?_ ?_<;>intro r
  ·have r:n=((2^k:Nat):Int):=by simpa using r
   refine ⟨?_,rfl⟩
   have:k=0\/k=1\/k=2\/k=3\/k=4\/k=5\/k=6\/k=7\/k=8:=ad
   rcases this with rfl | rfl | rfl | rfl | rfl | rfl | rfl | rfl | rfl <;> (rw [r]; rfl)
  ·have r:¬ n=((2^k:Nat):Int):=by simpa using r
   have d:2^k<=2^8:=Nat.pow_le_pow_right ad b;have f:((2^k:Nat):Int)<=256:=by exact_mod_cast d
   have i:(0:Int)<=((2^k:Nat):Int):=Int.natCast_nonneg _;rw [wrap_i64 ad ad];have h2:(2:Int)*((2^k:Nat):Int)=((2^(k+1):Nat):Int):=by rw [Nat.pow_succ]; omega
   rw [h2];refine aD (cs:=jP) (false,((2^(k+1):Nat):Int),()) (9-(k+1)) rfl ad rfl ⟨k+1,rfl,rfl,ad,rfl,fun j l=>?_⟩
   by_cases g:j=k
   ·subst g; exact r
   ·exact a j ad
 ·have c:k=9:=by
   by_cases g:k=9
   ·exact g
   ·have d:2^k<=2^8:=Nat.pow_le_pow_right ad ad;omega
  subst c;refine ⟨?_,rfl⟩;have a0:=a 0 ad;have a1:=a 1 ad;have a2:=a 2 ad;have a3:=a 3 ad;have a4:=a 4 ad;have a5:=a 5 ad;have a6:=a 6 ad;have a7:=a 7 ad;have a8:=a 8 ad;unfold vB;simp only [Nat.reducePow] at a0 a1 a2 a3 a4 a5 a6 a7 a8;rw [aj9 ad,aj9 ad,aj9 ad,aj9 ad,aj9 ad,aj9 ad,aj9 ad,aj9 ad,aj9 ad] <;> rfl
def NC {h:Hp} {l c:Nat} (v:iM h O l H):HC Xaz 96 #[wO O l c H,vI (0:Int)] h fun w h'=>w=E1 (cG H 0)/\Ext h h':=by
 refine aX (args:=[wO O l c H,vI (0:Int)]) mixed Tryz.func96 av (ni H.kind H.name H.inst.op H.inst.a H.inst.b H.inst.n H.inst.form O l c H.e.num H.n) ?_;unfold iH aT cE aC ct;have U:maxLen=9223372036854775807:=rfl;refine bm ?_;intro h1 f e1 V;have f:br h1 h.size 55 (encI O l c H):=f;have v1:=v.aj e1;simp only [ay];refine iS (cs:=pA) (fun y h'=>y.1=cG H 0/\Ext h h') ?_ ?_
 rotate_left
 ·rintro ⟨R,⟨⟩⟩ h' ⟨C,F⟩;simp only at C;subst C;refine ak ?_;cases hr:cG H 0
  ·exact ⟨rfl,F⟩
  ·exact ⟨rfl,F⟩
 have d:∀ (b:Bool) (h':Hp),b=cG H 0->Ext h h'->T.again 0 [.bool b] [fun W h'=>∃ y:qH (flat [(false,[.bool])]),W=parts [(false,[.bool])] (ep _ y)/\(y.1=cG H 0/\Ext h h')] (fun w h'=>w=E1 (cG H 0)/\Ext h h') h':=by
  rintro b h' rfl F;exact dV (cs:=pA) (J:=fun y h'=>y.1=cG H 0/\Ext h h') (cG H 0,()) rfl rfl ⟨rfl,F⟩
 refine aw f (H.kind,()) (ak ?_)
 by_cases i:H.kind=1
 ·refine bX (by rw [i]; rfl) ?_;have hit:cG H 0=(cB H.name.data.toList && z2 H && z3 H && z4 H):=by unfold cG; rw [af9 i]
  refine aw f (H.name,()) (ak ?_);refine aJ (tz H.name h1 (by have:=v.name; omega)) ?_;refine ao (fun q=>?_) (fun q=>d _ _ (by rw [hit,q]; rfl) e1);refine ij f v1.lin.vw ?_;intro h2 e2;exact d _ _ (by rw [hit,q]; unfold oE; simp [Bool.and_assoc]) (e1.trans e2)
 refine cv (by simpa using i) ?_
 by_cases k:H.kind=2
 ·refine bX (by rw [k]; rfl) ?_;have hit:cG H 0=(AA H.inst H.e && z1 H && z4 H):=by unfold cG; rw [ac9 i,af9 k]; simp
  refine aw f (H.inst.op,H.inst.a,H.inst.b,H.inst.n,H.inst.form,()) (ak ?_);refine bm ?_;intro h2 R e2 X;refine bP R ?_;intro h3 D j Y;have D:br h3 h1.size 49 (px H.inst):=D;have m:Ext h1 h3:=e2.st j (au9 _);have b13:=f.aj m ai;rw [ay];refine aw D (H.inst.form,()) (ak ?_);refine iS (cs:=[]) (fun _ h'=>br h' h1.size 49 (px { H.inst with form:=if tN H.inst.op then 1 else H.inst.form })/\Ext h1 h') ?_ ?_
  ·refine aw D (H.inst.op,()) (ak ?_);refine iv (DB h3 H.inst.op v.op) ?_;intro h4 L;have b4:=D.aj L ai;refine ao ?_ ?_<;>intro q
   ·refine cZ b4 rfl (by simp [px]) ?_;intro M I t z5;exact dV (cs:=[]) () rfl rfl ⟨by rw [af9 q]; exact I,(m.trans L).st t (by have:=m.size; omega)⟩
   ·exact dV (cs:=[]) () rfl rfl ⟨by rw [ac9 (by rw [q]; decide)]; exact b4,m.trans L⟩
  rintro _ M ⟨I,N⟩;refine ak ?_;have b15:=f.aj N ai;have v5:=v1.aj N;refine iS (cs:=pA) (fun y h'=>y.1=(decide (H.inst.form=0) && decide (gW { H.inst with form:=if tN H.inst.op then 1 else H.inst.form }=0) && (z1 H && z4 H))/\Ext M h') ?_ ?_
  ·refine ao ?_ ?_<;>intro q
   ·have q:H.inst.form=0:=by simpa using q
    refine aw I (H.inst.op,H.inst.a,H.inst.b,H.inst.n,((if tN H.inst.op then (1:Int) else H.inst.form):Int),()) (ak ?_);refine aE (MD M H.inst.op H.inst.a H.inst.b H.inst.n (if tN H.inst.op then 1 else H.inst.form) v.op) ?_;rintro _ S ⟨rfl,o⟩;refine ⟨(gW { H.inst with form:=if tN H.inst.op then 1 else H.inst.form },()),rfl,ak ?_⟩;refine ao ?_ ?_<;>intro r
    ·have r:gW { H.inst with form:=if tN H.inst.op then 1 else H.inst.form }=0:=by simpa using r
     refine ij (b15.aj o ai) (v5.aj o).lin.vw ?_;intro Z A;exact dV (cs:=pA) (oE H true false false true,()) rfl rfl ⟨by rw [ai9 q,ai9 r]; rfl,o.trans A⟩
    ·have r:¬ gW { H.inst with form:=if tN H.inst.op then 1 else H.inst.form }=0:=by simpa using r
     exact dV (cs:=pA) (false,()) rfl rfl ⟨by rw [ai9 q,aj9 r]; rfl,o⟩
   ·have q:¬ H.inst.form=0:=by simpa using q
    exact dV (cs:=pA) (false,()) rfl rfl ⟨by rw [aj9 q]; rfl,Ch.refl _ _⟩
  rintro ⟨b10,⟨⟩⟩ S ⟨C,o⟩;simp only at C;subst C;refine ak ?_;have b6:=I.aj o ai;have b16:=b15.aj o ai;have v6:=v5.aj o;refine aw b6 (H.inst.op,()) (ak ?_);refine iv (Lc S H.inst.op v.op) ?_;intro Z A;have b7:=b6.aj A ai;have b17:=b16.aj A ai;have v7:=v6.aj A;have e07:=((e1.trans N).trans o).trans A;have hchk:HP H.inst.op=true->(decide (H.inst.form=0) && decide (gW { H.inst with form:=if tN H.inst.op then 1 else H.inst.form }=0) && (z1 H && z4 H) && (decide (H.inst.n=0) && oz none H.e.ah))=cG H 0:=by
   intro s;rw [hit];unfold AA;rw [af9 s]
   by_cases B:H.inst.form=0
   ·rw [ai9 B,B]
    by_cases c0:gW { H.inst with form:=if tN H.inst.op then 1 else 0 }=0
    ·have hs:=(FW c0).1;simp only at hs;rw [ai9 c0,ai9 hs];simp only [Bool.true_and]
     ac_rfl
    ·rw [aj9 c0]
     simp
   ·rw [aj9 B]
    simp
  have u:HP H.inst.op=false->(decide (H.inst.form=0) && decide (gW { H.inst with form:=if tN H.inst.op then 1 else H.inst.form }=0) && (z1 H && z4 H) && z3 H)=cG H 0:=by
   intro s;rw [hit];unfold AA;rw [ac9 (show ¬ (HP H.inst.op=true) by rw [s]; decide)];have P:tN H.inst.op=false:=by
    unfold HP at s;unfold tN;rw [decide_eq_false_iff_not] at s ⊢;omega
   rw [ac9 (show ¬ (tN H.inst.op=true) by rw [P]; decide)]
   by_cases B:H.inst.form=0
   ·rw [ai9 B];have hi:({ H.inst with form:=H.inst.form }:Ins)=H.inst:=rfl;rw [hi]
    by_cases c0:gW H.inst=0
    ·have hs:=(FW c0).1;rw [ai9 c0,ai9 hs];unfold z3;simp only [Bool.true_and]
     ac_rfl
    ·rw [aj9 c0]
     simp
   ·rw [aj9 B]
    simp
  generalize (decide (H.inst.form=0) && decide (gW { H.inst with form:=if tN H.inst.op then 1 else H.inst.form }=0) && (z1 H && z4 H))=G at *;refine ao ?_ ?_<;>intro s
  ·have hchk:=hchk s;refine ao (fun g=>?_) (fun g=>d _ _ (by rw [<- hchk,g]; rfl) e07);refine aw b7 (H.inst.n,()) (ak ?_);refine ao ?_ ?_<;>intro r
   ·have r:H.inst.n=0:=by simpa using r
    refine aw b17 ((O,l,c),(H.e.num:Int),()) (ak ?_);refine aE (uH (c:=c) v7.lin.vw (by have:=v.lin.many; omega) v.lin.names) ?_;rintro _ h8 ⟨rfl,Q⟩;refine ⟨(oz none H.e.ah,()),rfl,?_⟩;exact d _ _ (by rw [<- hchk,g,ai9 r]; simp) (e07.trans Q)
   ·have r:¬ H.inst.n=0:=by simpa using r
    exact d _ _ (by rw [<- hchk,aj9 r]; simp) e07
  ·have hchk:=u s;refine ao (fun g=>?_) (fun g=>d _ _ (by rw [<- hchk,g]; rfl) e07);refine ij b17 v7.lin.vw ?_;intro h8 Q;exact d _ _ (by rw [<- hchk,g]; unfold oE; simp) (e07.trans Q)
 refine cv (by simpa using k) ?_
 by_cases j:H.kind=3
 ·refine bX (by rw [j]; rfl) ?_;have hit:cG H 0=(vB H.n && z1 H && z2 H && z3 H):=by unfold cG; rw [ac9 i,ac9 k,af9 j]
  refine aw f (H.n,()) (ak ?_);refine aJ (DI h1 H.n) ?_;refine ao (fun q=>?_) (fun q=>d _ _ (by rw [hit,q]; rfl) e1);refine ij f v1.lin.vw ?_;intro h2 e2;exact d _ _ (by rw [hit,q]; unfold oE; simp [Bool.and_assoc]) (e1.trans e2)
 refine cv (by simpa using j) ?_
 by_cases z:H.kind=4
 ·refine bX (by rw [z]; rfl) ?_;have hit:cG H 0=(z1 H && z2 H && z3 H && z4 H):=by unfold cG; rw [ac9 i,ac9 k,ac9 j,af9 z]; simp
  refine ij f v1.lin.vw ?_;intro h2 e2;exact d _ _ (by rw [hit]; unfold oE; simp [Bool.and_assoc]) (e1.trans e2)
 refine cv (by simpa using z) ?_
 by_cases t:H.kind=5
 ·refine bX (by rw [t]; rfl) ?_;exact d _ _ (by unfold cG; rw [ac9 i,ac9 k,ac9 j,ac9 z,af9 t]; simp) e1
 refine cv (by simpa using t) ?_
 by_cases E:H.kind=6
 ·refine bX (by rw [E]; rfl) ?_;exact d _ _ (by unfold cG; rw [ac9 i,ac9 k,ac9 j,ac9 z,ac9 t,af9 E]; simp) e1
 refine cv (by simpa using E) ?_
 by_cases K:H.kind=7
 ·refine bX (by rw [K]; rfl) ?_;exact d _ _ (by unfold cG; rw [ac9 i,ac9 k,ac9 j,ac9 z,ac9 t,ac9 E,af9 K]; simp) e1
 refine cv (by simpa using K) ?_;exact d _ _ (by unfold cG; rw [ac9 i,ac9 k,ac9 j,ac9 z,ac9 t,ac9 E,ac9 K]) e1
def P6 {h:Hp} {l c:Nat} (v:iM h O l H):HC Xaz 96 #[wO O l c H,vI (1:Int)] h fun w h'=>w=E1 (cG H 1)/\Ext h h':=by
 refine aX (args:=[wO O l c H,vI (1:Int)]) mixed Tryz.func96 av (lZ H.kind H.name H.inst.op H.inst.a H.inst.b H.inst.n H.inst.form O l c H.e.num H.n) ?_;unfold iI aT aC ct;have K:maxLen=9223372036854775807:=rfl;refine bm ?_;intro h1 f e1 L;have f:br h1 h.size 55 (encI O l c H):=f;have v1:=v.aj e1;simp only [ay];refine iS (cs:=pA) (fun y h'=>y.1=cG H 1/\Ext h h') ?_ ?_
 rotate_left
 ·rintro ⟨G,⟨⟩⟩ h' ⟨s,z⟩;simp only at s;subst s;refine ak ?_;cases V:cG H 1
  ·exact ⟨rfl,z⟩
  ·exact ⟨rfl,z⟩
 have d:∀ (b:Bool) (h':Hp),b=cG H 1->Ext h h'->T.again 0 [.bool b] [fun M h'=>∃ y:qH (flat [(false,[.bool])]),M=parts [(false,[.bool])] (ep _ y)/\(y.1=cG H 1/\Ext h h')] (fun w h'=>w=E1 (cG H 1)/\Ext h h') h':=by
  rintro b h' rfl z;exact dV (cs:=pA) (J:=fun y h'=>y.1=cG H 1/\Ext h h') (cG H 1,()) rfl rfl ⟨rfl,z⟩
 refine aw f (H.kind,()) (ak ?_)
 by_cases g:H.kind=1
 ·refine bX (by rw [g]; rfl) ?_;have hit:cG H 1=(cB H.name.data.toList && z2 H && z3 H && z4 H):=by unfold cG; rw [af9 g]
  refine aw f (H.name,()) (ak ?_);refine aJ (tz H.name h1 (by have:=v.name; omega)) ?_;refine ao (fun q=>?_) (fun q=>d _ _ (by rw [hit,q]; rfl) e1);refine ij f v1.lin.vw ?_;intro h2 e2;exact d _ _ (by rw [hit,q]; unfold oE; simp [Bool.and_assoc]) (e1.trans e2)
 refine cv (by simpa using g) ?_
 by_cases j:H.kind=2
 ·refine bX (by rw [j]; rfl) ?_;have hit:cG H 1=(false):=by unfold cG; rw [ac9 g,af9 j]; simp
  refine aw f (H.inst.op,H.inst.a,H.inst.b,H.inst.n,H.inst.form,()) (ak ?_);refine bm ?_;intro h2 G e2 N;refine bP G ?_;intro h3 t i P;have t:br h3 h1.size 49 (px H.inst):=t;have k:Ext h1 h3:=e2.st i (au9 _);have b13:=f.aj k ai;rw [ay];refine aw t (H.inst.form,()) (ak ?_);refine iS (cs:=[]) (fun _ h'=>br h' h1.size 49 (px { H.inst with form:=if tN H.inst.op then 1 else H.inst.form })/\Ext h1 h') ?_ ?_
  ·refine aw t (H.inst.op,()) (ak ?_);refine iv (DB h3 H.inst.op v.op) ?_;intro W D;have b4:=t.aj D ai;refine ao ?_ ?_<;>intro q
   ·refine cZ b4 rfl (by simp [px]) ?_;intro I E m X;exact dV (cs:=[]) () rfl rfl ⟨by rw [af9 q]; exact E,(k.trans D).st m (by have:=k.size; omega)⟩
   ·exact dV (cs:=[]) () rfl rfl ⟨by rw [ac9 (by rw [q]; decide)]; exact b4,k.trans D⟩
  rintro _ I ⟨E,F⟩;refine ak ?_;have b15:=f.aj F ai;have v5:=v1.aj F;refine iS (cs:=pA) (fun y h'=>y.1=false/\Ext I h') (dV (cs:=pA) (false,()) rfl rfl ⟨rfl,Ch.refl _ _⟩) ?_;rintro ⟨Q,⟨⟩⟩ R ⟨s,A⟩;simp only at s;subst s;refine ak ?_;have b6:=E.aj A ai;have b16:=b15.aj A ai;have v6:=v5.aj A;refine aw b6 (H.inst.op,()) (ak ?_);refine iv (Lc R H.inst.op v.op) ?_;intro Y B;have b7:=b6.aj B ai;have b17:=b16.aj B ai;have v7:=v6.aj B;have e07:=((e1.trans F).trans A).trans B;refine ao ?_ ?_<;>intro S
  ·exact cv rfl (d _ _ (by rw [hit]) e07)
  ·exact cv rfl (d _ _ (by rw [hit]) e07)
 refine cv (by simpa using j) ?_
 by_cases i:H.kind=3
 ·refine bX (by rw [i]; rfl) ?_;have hit:cG H 1=(vB H.n && z1 H && z2 H && z3 H):=by unfold cG; rw [ac9 g,ac9 j,af9 i]
  refine aw f (H.n,()) (ak ?_);refine aJ (DI h1 H.n) ?_;refine ao (fun q=>?_) (fun q=>d _ _ (by rw [hit,q]; rfl) e1);refine ij f v1.lin.vw ?_;intro h2 e2;exact d _ _ (by rw [hit,q]; unfold oE; simp [Bool.and_assoc]) (e1.trans e2)
 refine cv (by simpa using i) ?_
 by_cases o:H.kind=4
 ·refine bX (by rw [o]; rfl) ?_;exact d _ _ (by unfold cG; rw [ac9 g,ac9 j,ac9 i,af9 o]; simp) e1
 refine cv (by simpa using o) ?_
 by_cases m:H.kind=5
 ·refine bX (by rw [m]; rfl) ?_;have hit:cG H 1=(decide (-128<=H.n) && decide (H.n<=255) && z1 H && z2 H && z3 H):=by unfold cG; rw [ac9 g,ac9 j,ac9 i,ac9 o,af9 m]; simp
  refine aw f (H.n,()) (ak ?_);refine ao (fun q=>?_) (fun q=>d _ _ (by rw [hit,show decide (-128<=H.n)=false from q]; rfl) e1);refine aw f (H.n,()) (ak ?_);refine ao (fun r=>?_) (fun r=>d _ _ (by rw [hit,r]; simp) e1);refine ij f v1.lin.vw ?_;intro h2 e2;exact d _ _ (by rw [hit,r,show decide (-128<=H.n)=true from q]; unfold oE; simp [Bool.and_assoc]) (e1.trans e2)
 refine cv (by simpa using m) ?_
 by_cases u:H.kind=6
 ·refine bX (by rw [u]; rfl) ?_;have hit:cG H 1=(oz none H.e.ah && z1 H && z2 H && z4 H):=by unfold cG; rw [ac9 g,ac9 j,ac9 i,ac9 o,ac9 m,af9 u]; simp
  refine aw f ((O,l,c),(H.e.num:Int),()) (ak ?_);refine aE (uH (c:=c) v1.lin.vw (by have:=v.lin.many; omega) v.lin.names) ?_;rintro _ h2 ⟨rfl,e2⟩;refine ⟨(oz none H.e.ah,()),rfl,ak ?_⟩;refine ao (fun q=>?_) (fun q=>d _ _ (by rw [hit,q]; rfl) (e1.trans e2));refine ij (f.aj e2 ai) (v1.aj e2).lin.vw ?_;intro h3 U;exact d _ _ (by rw [hit,q]; unfold oE; simp [Bool.and_assoc]) ((e1.trans e2).trans U)
 refine cv (by simpa using u) ?_
 by_cases C:H.kind=7
 ·refine bX (by rw [C]; rfl) ?_;have hit:cG H 1=(decide (0<=H.n) && decide (H.n<=1048576) && z1 H && z2 H && z3 H):=by unfold cG; rw [ac9 g,ac9 j,ac9 i,ac9 o,ac9 m,ac9 u,af9 C]; simp
  refine aw f (H.n,()) (ak ?_);refine ao (fun q=>?_) (fun q=>d _ _ (by rw [hit,show decide (0<=H.n)=false from q]; rfl) e1);refine aw f (H.n,()) (ak ?_);refine ao (fun r=>?_) (fun r=>d _ _ (by rw [hit,r]; simp) e1);refine ij f v1.lin.vw ?_;intro h2 e2;exact d _ _ (by rw [hit,r,show decide (0<=H.n)=true from q]; unfold oE; simp [Bool.and_assoc]) (e1.trans e2)
 refine cv (by simpa using C) ?_;exact d _ _ (by unfold cG; rw [ac9 g,ac9 j,ac9 i,ac9 o,ac9 m,ac9 u,ac9 C]) e1
def Dr {h:Hp} {l c k:Nat} (v:iM h O l H) (hk:k<2):HC Xaz 96 #[wO O l c H,vI (k:Int)] h fun w h'=>w=E1 (cG H k)/\Ext h h':=by
 have:k=0\/k=1:=ad
 rcases this with rfl | rfl
 ·exact NC v
 ·exact P6 v
end Go.Sx.Ob
