/- Contracts over heaps, part 2. Condition: as each statement says. -/
import Derived.Test.YtmdncdaladplkaaGreatDoorDxS
import Derived.Test.YtmdncdaladplkaaGreatDoorP1
import Derived.Test.YtmdncdaladplkaaGreatDoorBtB
import Derived.Test.YtmdncdaladplkaaGreatDoorBtC
set_option linter.all false
set_option maxRecDepth 100000
set_option maxHeartbeats 4000000
namespace Go.Sx
open Go.Proofs
section any
variable {P:Program} {h:Hp}
end any
variable {H:Hp}
def C5 (p:eU H) (u:Nat) (h2:u<18446744073709551616):HC Xaz 92 #[.int .u64 u,vI 10] H λv h'=>v=.string ⟨(Lib.decDigits u).toArray⟩/\Ext H h':=by
 refine aX (args:=[.int .u64 u,vI 10]) mixed Tryz.func92 av (jE u 10) ?_;unfold fK cY fo cv bg dp bY bm;refine bU rfl (ao (λg1=>?_) (λg1=>?_))
 ·have g1:=ai9 g1;rw [wrap_i64 ad ad];refine Rz (O8 u ad H) ?_;exact ⟨rfl,Ch.refl _ _⟩
 ·have g1:=aw9 g1;refine bn ?_;intro h1 m k z1;have p1:=p.aj k ai;refine jD (uu p1 u ad h2) ?_;have n:Lib.nDigits u<=20:=by have:=Lib.numDigits_eq u ad h2; split at this <;> omega
  obtain ⟨t,d⟩:=cq9.1 Zu;refine dt (zW QJ d ⟨H.size,0,none⟩ ad ad _ ?_);refine ⟨_,_,_,rfl,?_⟩;rw [show ((Lib.nDigits u:Nat):Int).toNat=Lib.nDigits u from ad];refine aG (Mv m u 24 (Lib.nDigits u) (by simp; omega) ?_ (Lib.lt_pow_nDigits u) h2 ad) ?_
  ·intro j c;have c:j<24:=ad
   have:∀ j:Fin 24,[Value.int IntKind.u8 0,.int .u8 0,.int .u8 0,.int .u8 0,.int .u8 0,.int .u8 0,.int .u8 0,.int .u8 0,.int .u8 0,.int .u8 0,.int .u8 0,.int .u8 0,.int .u8 0,.int .u8 0,.int .u8 0,.int .u8 0,.int .u8 0,.int .u8 0,.int .u8 0,.int .u8 0,.int .u8 0,.int .u8 0,.int .u8 0,.int .u8 0][j.val]?=some (Value.int IntKind.u8 0):=by
    have e:[Value.int IntKind.u8 0,.int .u8 0,.int .u8 0,.int .u8 0,.int .u8 0,.int .u8 0,.int .u8 0,.int .u8 0,.int .u8 0,.int .u8 0,.int .u8 0,.int .u8 0,.int .u8 0,.int .u8 0,.int .u8 0,.int .u8 0,.int .u8 0,.int .u8 0,.int .u8 0,.int .u8 0,.int .u8 0,.int .u8 0,.int .u8 0,.int .u8 0]=List.replicate 24 (Value.int IntKind.u8 0):=rfl;intro j;rw [e,List.getElem?_replicate,ag9 j.isLt]
   exact this ⟨j,c⟩
  ·rintro _ f ⟨rfl,o,z3,v',w,q,b⟩;refine ⟨(),rfl,ak ?_⟩;refine dt (zW QJ d ⟨H.size,0,none⟩ ad ad _ ?_);refine ⟨_,_,_,rfl,?_⟩;rw [show ((Lib.nDigits u:Nat):Int).toNat=Lib.nDigits u from ad];have r:aQ Xaz (convert 204 9 (.slice (some ⟨H.size,0,none⟩) (Lib.nDigits u) 24)) f λv h'=>∃ x:qu (flat [(false,[.string])]),v=rv false [(false,[.string])] (et _ x)/\E4 (flat [(false,[.string])]) (R:=T) (λ(g:Xaa)=>T.ret (.string g)) x [] (λv h'=>v=.string ⟨(Lib.decDigits u).toArray⟩/\Ext H h') h':=by
    unfold convert;rw [an,az Xi,an,az xB];show aQ Xaz (do match <- underlying 5 with
     | .int .u8=>Conv.bytesToString (.slice (some ⟨H.size,0,none⟩) (Lib.nDigits u) 24)
     | .int .i32=>Conv.runesToString (.slice (some ⟨H.size,0,none⟩) (Lib.nDigits u) 24)
     | _ => stuck "Convert: a slice of what to string?") f _
    rw [an,az aaG];have hl:Lib.nDigits u=(Lib.decDigits u).length:=(Lib.decDigits_length u).symm;rw [hl];refine yj ⟨H.size,0,none⟩ (Lib.decDigits u) 24 _ ?_ ?_
    ·have:∀ (vs:List Xab) (i:Nat),(∀ j,(c:j<vs.length)->iB f ⟨H.size,i+j,none⟩=some vs[j])->aH f ⟨H.size,0,none⟩ i vs:=by
      intro vs
      induction vs with
      | nil=>intro i _; trivial
      | cons v vs s =>
       intro i l;refine ⟨?_,s (i+1) λj c=>?_⟩
       ·rw [aw,by9]
        have:=l 0 ai
        simpa using this
       ·have:=l (j+1) (by simpa using c)
        rw [show i+1+j=i+(j+1) from ad];simpa using this
     refine this _ 0 λj c=>?_
     rw [ab9] at c;rw [by9,b j ad,aj9,Lib.row_is_numeral q j c]
    ·exact ⟨(⟨(Lib.decDigits u).toArray⟩,()),rfl,rfl,bS k o⟩
   exact r
def DK (p:eU H) (u:Nat) (h2:u<18446744073709551616):HC Xaz 68 #[.int .u64 u,vI 10] H λv h'=>v=.string ⟨(Lib.decDigits u).toArray⟩/\Ext H h':=by
 refine aX (args:=[.int .u64 u,vI 10]) mixed Tryz.func68 av (qf u 10) ?_;unfold lz fo;refine aG (C5 p u h2) ?_;rintro _ h1 ⟨rfl,a⟩;exact ⟨(_,()),rfl,rfl,a⟩
variable {O V:Nat} {U:Xac}
def UT {c:Nat} {xs:List Xaa} (s:SL H O 9 1 U V c (xs.map λs=>[.string s])) (d:Xaa) (r:xs.length<=140737488355328)
  (k:(Lib.join (xs.map (·.data.toList)) d.data.toList).length<=140737488355328) :
  HC Xaz 69 #[.slice U V c,.string d] H λv h'=>v=.string ⟨(Lib.join (xs.map (·.data.toList)) d.data.toList).toArray⟩/\Ext H h':=by
 intro W t;subst t;have hl:V=xs.length:=by rw [s.1,ab9]
 cases U with
 | none =>
  have h0:=s.2.2;have u:xs=[]:=by have:=h0.2; simpa using this
  subst u;simp only [List.length_nil] at hl;subst hl;exact (Tryz.strings_Join_none none c d W).mono λe w' ⟨w,f⟩=>⟨_,w,by rw [f]; exact dO.refl W,rfl,by rw [f]; exact Ch.refl _ _⟩
 | some a =>
  obtain ⟨g,n,rest,rfl,y,o,m,B⟩:=s.2.2;subst hl;refine (Tryz.strings_Join g n.length c xs d W ?_ m.lt r o.1 k).mono ?_
  ·intro j x z;obtain ⟨q,rfl⟩:=bc9.1 z;obtain ⟨a,A,hc⟩:=s.cells (i:=j) (by simpa using q);cases A;rw [aj9,aw,Nat.mul_one] at hc
   have:=hc.1
   rw [aw,eh9] at this;exact this
  ·rintro e w' ⟨rfl,f⟩;exact ⟨_,rfl,⟨f.os,f.tape,f.output⟩,rfl,f.size,λi hi _=>f.block i hi⟩
def TE {x:bK} (v:iA H U O x.af) (r:eU H) (hl:x.af.length<=2^30) (W:∀ t,t∈x.af->t.1.size<=32/\t.2<4294967296) (hn:x.num<4294967296) :
  HC Xaz 42 #[iD U O V x] H λw h'=>w=.string (fM x)/\Ext H h':=by
 refine aX (args:=[.agg #[.slice U O V,.int .u32 x.num]]) mixed Tryz.func42 av (CB U O V x.num) ?_;unfold zO aR aY bz aK fo bg aE bm bZ aS fH;have hll:=v.len;have h10:=r.lt;refine bn ?_;intro h1 b1 e1 z1;refine ay b1 ((U,O,V),()) (ak ?_);refine aM (cs:=kX) (λy w h'=>∃ (i:Nat),y.2.1=(i:Int)/\i<=x.af.length/\w=x.af.length-i/\Ext h1 h'/\y.1.2.1=i/\SL h' h1.size 9 1 y.1.1 y.1.2.1 y.1.2.2 (((x.af.take i).map ix).map λs=>[.string s]))
  ((none,0,0),(0:Int),()) x.af.length rfl ⟨0,rfl,ad,ad,Ch.refl _ _,rfl,SL.nil _ _ _ _⟩ ?_
 rintro ⟨⟨q,m,d⟩,n8,⟨⟩⟩ w h2 ⟨i,hi,hile,rfl,I,R,C⟩;simp only at hi R C;subst hi;subst R;refine ak ?_;have hz2:=I.size;have e02:=e1.trans I;have p2:=r.aj e02 ai;refine aI ?_ ?_<;>intro g1
 ·have k:m<x.af.length:=ad
  obtain ⟨a,rfl,hc⟩:=(v.aj e02 ai).cells m k;have J:x.af.take (m+1)=x.af.take m++[x.af[m]]:=af9 k;obtain ⟨n,K⟩:=W x.af[m] (ah9 k);generalize x.af[m]=t at hc J n K;refine bM rfl ?_;rw [cg m];refine ar (t.1,(t.2:Int),()) hc (ak ?_);refine bn ?_;intro h3 b3 e3 z3;refine bJ b3 ?_;intro h4 D k4 z4;have D:br h4 h2.size 64 [.string t.1,.int .u32 t.2]:=D;have o:Ext h2 h4:=bS e3 k4;have s4:=C.bf o ai;have hw:=gK m;have u:∀ s,ix t=s->((x.af.take (m+1)).map ix).map (λs=>[Value.string s])=((x.af.take m).map ix).map (λs=>[Value.string s])++[[.string s]]:=by
   rintro s rfl;rw [J,ao9,ao9] <;> rfl
  try rw [aw]
  refine ay D ((t.2:Int),()) (ak ?_);refine ao ?_ ?_<;>intro b
  ·have b:t.2=1:=by have:(t.2:Int)=1:=(by simpa using b); omega
   refine ay D (t.1,()) (ak ?_);refine eZ (vs:=[.string t.1]) PO Oi rfl ad ad av rfl rfl s4 ad ad ad ?_;intro p' c' h7 M G N;have E:Ext h1 h7:=Ch.trans (I.trans o) G (λj P hl=>by have:=(s4.cj P).1; omega);refine aC (cs:=kX) ((p',m+1,c'),((m+1:Nat):Int),()) (x.af.length-(m+1)) rfl ad (as9 (λz=>[Value.slice p' (m+1) c',Value.int .i64 z]) hw) ⟨m+1,rfl,ad,rfl,E,rfl,?_⟩;rw [u t.1 (by unfold ix; rw [ag9 b])];exact M
  ·have b:¬ t.2=1:=by have:¬ (t.2:Int)=1:=(by simpa using b); omega
   try rw [aw]
   refine ay D ((t.2:Int),()) (ak ?_);refine ay D (t.1,()) (ak ?_);rw [wrap_u64 ad ad];refine aG (DK (p2.aj o ai) t.2 ad) ?_;rintro _ S ⟨rfl,A⟩;refine ⟨(eO t.2,()),rfl,ak ?_⟩;have b5:=D.aj A ai;have hds:=AW K;have f:∀ h',Ext S h'->T.Cv h' [(⟨h2.size,0,none⟩,[.string t.1]),((⟨h2.size,0,none⟩:Xax).add 1,[.int .u32 t.2])]:=λh' e=>⟨(b5.aj e ai).cells _ rfl,by rw [aw]; exact (b5.aj e ai).cells _ rfl,trivial⟩
   have g:∀ h',Ch (ax q) S h'->T.Cv h' [(⟨h2.size,0,none⟩,[.string t.1]),((⟨h2.size,0,none⟩:Xax).add 1,[.int .u32 t.2])]:=λh' e=>by
    have b6:=b5.aj e (λR=>by have:=(C.cj R).2; omega);exact ⟨b6.cells _ rfl,by rw [aw]; exact b6.cells _ rfl,trivial⟩
   try rw [aw] at f
   try rw [aw] at g
   try rw [aw]
   refine ⟨f S (Ch.refl _ _),?_⟩;have h42:(⟨#[42]⟩:Xaa).size=1:=rfl;refine cX ad (cX (by rw [mV]; omega) ?_);have s5:=s4.bf A ai;refine gz (vs:=[.string ((eO t.2++⟨#[42]⟩)++t.1)]) PO Oi rfl ad ad av rfl rfl s5 (by have:=A.size; omega) ad ad f ?_;intro p' c' h7 M G N;refine ⟨g h7 G,?_⟩;have E:Ext h1 h7:=Ch.trans ((I.trans o).trans A) G (λj P hl=>by have:=(s4.cj P).1; omega);refine aC (cs:=kX) ((p',m+1,c'),((m+1:Nat):Int),()) (x.af.length-(m+1)) rfl ad (as9 (λz=>[Value.slice p' (m+1) c',Value.int .i64 z]) hw) ⟨m+1,rfl,ad,rfl,E,rfl,?_⟩;rw [u _ (show ix t=(eO t.2++⟨#[42]⟩)++t.1 by unfold ix; rw [ac9 b])];exact M
 ·have hi:m=x.af.length:=ad
  subst hi;rw [bj9] at C;have b2:=b1.aj I ai;have n:∀ xs:List Xaa,x.af.map ix++nH x=xs->(Lib.join (xs.map (·.data.toList)) [43]).length<=140737488355328/\xs.length<=140737488355328:=by
   rintro xs rfl;have h1:=join_length ((x.af.map ix++nH x).map (·.data.toList)) 53 (by
    intro y hy;obtain ⟨s,X,rfl⟩:=ap9.1 hy;rw [show s.data.toList.length=s.size from ai];rcases ar9.1 X with H | H
    ·obtain ⟨t,ht,rfl⟩:=ap9.1 H;exact Jt (W t ht).1 (W t ht).2
    ·unfold nH at H;split at H
     ·rw [an9] at H;subst H
      have:=AW hn
      omega
     ·simp at H)
   have h2:(nH x).length<=1:=by unfold nH; split <;> simp
   rw [ab9] at h1;rw [ae9,ab9] at h1 ⊢;have h3:(x.af.length+(nH x).length)*(53+1)<=(2^30+1)*54:=Nat.mul_le_mul ad ad;constructor
   ·omega
   ·omega
  have Q:∀ (hx:Hp) (q:Xac) (m d:Nat),Ext H hx->SL hx h1.size 9 1 q m d ((x.af.map ix++nH x).map λs=>[.string s])->∀ L,(T.call Xaz 69 [.slice q m d,.string ⟨#[43]⟩] false [(false,[.string])] λ(F:Xaa)=>T.ret (.string F)) L (λw h'=>w=.string (fM x)/\Ext H h') hx:=by
   intro hx q m d ex sx L;refine aG (UT sx ⟨#[43]⟩ (n _ rfl).2 (n _ rfl).1) ?_;rintro _ h9 ⟨rfl,e9⟩;exact ⟨(fM x,()),rfl,rfl,ex.trans e9⟩
  have put:nH x=[eO x.num]->∀ L,(T.ah ⟨H.size,1,none⟩ [.int .u32] λ(Y:Int)=>T.call Xaz 68 [.int .u64 (IntKind.wrap .u64 Y),vI (10:Int)] false [(false,[.string])] λ(Z:Xaa) =>
    T.dP Xaz (Instr.buildSlice 68 1 #[(0,.string Z)]) false [(false,[.slice 0])] λ(p12:Xac) (l13 l14:Nat) =>
    T.dP Xaz (Builtin.append_ #[68,68] 68 #[.slice q x.af.length d,.slice p12 l13 l14]) false [(false,[.slice 0])] λ(p15:Xac) (l16 l17:Nat) =>
    T.call Xaz 69 [.slice p15 l16 l17,.string ⟨#[43]⟩] false [(false,[.string])] λ(F:Xaa)=>T.ret (.string F)) L (λw h'=>w=.string (fM x)/\Ext H h') h2:=by
   intro ht L;refine ay b2 ((x.num:Int),()) (ak ?_);rw [wrap_u64 ad ad];refine aG (DK p2 x.num ad) ?_;rintro _ S ⟨rfl,A⟩;refine ⟨(eO x.num,()),rfl,ak ?_⟩;refine eZ (vs:=[.string (eO x.num)]) PO Oi rfl ad ad av rfl rfl (C.bf A ai) (by have:=A.size; omega) ad ad ?_;intro p' c' h7 M G N;refine Q h7 p' (x.af.length+1) c' (Ch.trans (e02.trans A) G (λj P hl=>by have:=(C.cj P).1; omega)) ?_ _;rw [ht,ao9];exact M
  try rw [aw]
  refine ay b2 ((x.num:Int),()) (ak ?_);refine ao ?_ ?_<;>intro b
  ·have b:¬ x.num=0:=by simpa using b
   try rw [aw]
   exact put (by unfold nH; rw [ag9 (.inl b)]) _
  ·have b:x.num=0:=by simpa using b
   refine ao ?_ ?_<;>intro B
   ·have B:x.af=[]:=by
     have:x.af.length=0:=by
      have:(x.af.length:Int)=0:=by simpa using B
      omega
     exact ec9.1 this
    try rw [aw]
    exact put (by unfold nH; rw [ag9 (.inr B)]) _
   ·have B:¬ x.af=[]:=by
     intro hh;rw [hh] at B;cases B
    refine Q h2 q x.af.length d e02 ?_ _;have ht:nH x=[]:=by unfold nH; rw [ac9 (by rintro (H | H); exact H b; exact B H)]
    rw [ht,cb9];exact C
def de {b:Xax} {t:Xaa × Nat} (hc:aH H b 0 (cT t)):aH H b 0 [.string t.1]/\aH H (b.add 1) 0 [.int .u32 (t.2:Int)]:=by
 obtain ⟨h1,h2,a⟩:=hc;exact ⟨⟨h1,trivial⟩,⟨by rw [add_add]; exact h2,trivial⟩⟩
def Lt (a n:Nat):IntKind.wrap .u32 ((a:Int)*(n:Int))=((a*n % 4294967296:Nat):Int):=by rw [eC,jr,Int.natCast_mul]
def Lo (a n:Nat):IntKind.wrap .u32 ((a:Int)+(n:Int))=(((a+n) % 4294967296:Nat):Int):=by rw [eC,jr,fk9]
variable {Y:bK}
def JR (v:iA H U O Y.af) (hl:Y.af.length<=2^40) (P:∀ i,i∈ax U->i<H.size) (n:Nat) :
  HC Xaz 102 #[iD U O V Y,.int .u32 n] H λw h'=>Ext H h'/\∃ p' l' c',w=iD p' l' c' (wA Y n)/\SL h' H.size 64 2 p' l' c' ((wA Y n).af.map cT):=by
 refine aX (args:=[.agg #[.slice U O V,.int .u32 Y.num],.int .u32 n]) mixed Tryz.func102 av (pM U O V Y.num n) ?_;unfold kZ aR aY bz aK bg aE bm aS;have hll:=v.len;refine bn ?_;intro h1 b1 Q z1;refine bn ?_;intro h2 b2 I z2;have b1:=b1.aj I ai;rw [aw];refine ay b1 ((Y.num:Int),()) (ak ?_);refine bn ?_;intro h3 R S z3;refine bJ R ?_;intro h4 B W z4;rw [Lt] at B;have B:br h4 h2.size 53 [.slice none 0 0,.int .u32 ((Y.num*n % 4294967296:Nat):Int)]:=B;have o:Ext h2 h4:=bS S W;have b1:=b1.aj o ai;have b2:=b2.aj o ai;have e04:=(Q.trans I).trans o;have hb4:=B.lt;refine aM (cs:=cz) (λy w h'=>∃ (i:Nat) (q:Xac) (m d:Nat),y.1=(i:Int)/\i<=Y.af.length/\w=Y.af.length-i/\Ch [h2.size] h4 h'/\br h' h2.size 53 [.slice q m d,.int .u32 ((Y.num*n % 4294967296:Nat):Int)] /\
  SL h' h4.size 64 2 q m d ((fA n (Y.af.take i)).map cT)/\m<=i) ((0:Int),()) Y.af.length rfl ⟨0,none,0,0,rfl,ad,ad,Ch.refl _ _,B,SL.nil _ _ _ _,ad⟩ ?_
 rintro ⟨n8,⟨⟩⟩ w h5 ⟨i,q,m,d,hi,J,rfl,A,C,r,K⟩;simp only at hi;subst hi;refine ak ?_;have b15:=b1.aj A (by simp; omega);have hz5:=A.size;have D:Ext H h5:=bS e04 A;have v5:=v.aj D ai;refine ay b15 ((U,O,V),()) (ak ?_);have hw:=gK i;refine aI ?_ ?_<;>intro X
 ·have f:i<Y.af.length:=ad
  have s:Y.af.take (i+1)=Y.af.take i++[Y.af[i]]:=af9 f;obtain ⟨a,rfl,hc⟩:=v5.cells i f;generalize Y.af[i]=t at hc s;obtain ⟨E,Z⟩:=de hc;refine ay b15 ((some a,O,V),()) (ak ?_);refine bM rfl ?_;rw [cg i];refine ar ((t.2:Int),()) Z (ak ?_);rw [Lt];refine ao ?_ ?_<;>intro g
  ·have g:¬ t.2*n % 4294967296=0:=by
    intro hh;rw [hh] at g;cases g
   refine ay C ((q,m,d),()) (ak ?_);refine ay b15 ((some a,O,V),()) (ak ?_);refine bM rfl ?_;refine ar (t.1,()) E (ak ?_);have hab:=P a.block (by simp [ax]);refine gz (vs:=cT (t.1,t.2*n % 4294967296)) A2 uY rfl ad ad av rfl rfl r hz5 ad ad (λh' e=>⟨aP e ai _ _ E,(b15.aj e ai).cells _ rfl,(C.aj e ai).cells _ rfl,trivial⟩) ?_;intro p' c' L M u hp7;have b:∀ j,j<h4.size->j∉ax q:=λj k K=>by have:=(r.cj K).1; omega
   refine ⟨⟨aP u (by rw [fw]; exact b _ (by have:=e04.size; omega)) _ _ E,(b15.aj u (b _ ad)).cells _ rfl,trivial⟩,?_⟩;refine bJ (C.aj u (b _ ad)) ?_;intro h8 b8 N z8;refine aC (cs:=cz) (((i+1:Nat):Int),()) (Y.af.length-(i+1)) rfl ad (as9 (λz=>[Value.int .i64 z]) hw) ⟨i+1,p',m+1,c',rfl,ad,rfl,?_,b8,?_,ad⟩
   ·exact Ch.trans (Ch.trans A u (λj k hl=>by have:=(r.cj k).1; omega)) N (λj k _=>k)
   ·have F:fA n (Y.af.take (i+1))=fA n (Y.af.take i)++[(t.1,t.2*n % 4294967296)]:=by
     unfold fA;rw [s,em9]
     congr 1
     simp only [List.filterMap_cons,List.filterMap_nil];rw [ac9 g]
    rw [F,ao9];exact M.bf N (λj k=>by have:=(M.cj k).1; simp; omega)
  ·have g:t.2*n % 4294967296=0:=by
    have:((t.2*n % 4294967296:Nat):Int)=0:=by simpa using g
    omega
   refine aC (cs:=cz) (((i+1:Nat):Int),()) (Y.af.length-(i+1)) rfl ad (as9 (λz=>[Value.int .i64 z]) hw) ⟨i+1,q,m,d,rfl,ad,rfl,A,C,?_,ad⟩;have F:fA n (Y.af.take (i+1))=fA n (Y.af.take i):=by
    unfold fA;rw [s,em9];simp only [List.filterMap_cons,List.filterMap_nil];rw [ag9 g,cb9]
   rw [F];exact r
 ·have hi:i=Y.af.length:=ad
  subst hi;rw [bj9] at r;refine ay C ((q,m,d),((Y.num*n % 4294967296:Nat):Int),()) (ak ?_);refine bJ (b2.aj A (by simp; omega)) ?_;intro L G u z7;have G:br L h1.size 53 [.slice q m d,.int .u32 ((Y.num*n % 4294967296:Nat):Int)]:=G;refine ay G ((q,m,d),((Y.num*n % 4294967296:Nat):Int),()) ?_;have hz4:=e04.size;exact ⟨bS D u,q,m,d,rfl,(r.bf u (λj k=>by have:=(r.cj k).1; simp; omega)).mono ad⟩
def leB (a b:Xaa):(Op.bytesLess (ByteArray.toList a) (ByteArray.toList b) || (ByteArray.toList a==ByteArray.toList b))=!decide (iW b a):=by
 rw [ByteArray.toList_eq,ByteArray.toList_eq,Proofs.bytesLess_eq]
 by_cases h:iW b a
 ·rw [ak9 h];have h1:¬ a.data.toList<b.data.toList:=DX h;have h2:¬ a.data.toList=b.data.toList:=λe=>ko h (AX e).symm
  have c:¬ a.data=b.data:=λe=>h2 (by rw [e])
  simp [h1,c]
 ·rw [al9 h]
  by_cases h1:iW a b
  ·have h1:a.data.toList<b.data.toList:=h1;simp [h1]
  ·have:=AK a b h1 h
   subst this
   simp
def oW:Option Xaa->dr->Bool
 | _,[]=>true
 | o,t::r=>cD t.1.data.toList && decide (t.2≠0) && (match o with
  | none=>true
  | some s=>decide (iW s t.1)) && oW (some t.1) r
def Ln (l:dr) (i:Nat):Option Xaa:=if i=0 then none else (l[i-1]?).map (·.1)
def Kz {o:Option Xaa} {l:dr} (h:oW o l=true):(∀ t,t∈l->cD t.1.data.toList=true/\t.2≠0)/\(l.Pairwise λp q=>iW p.1 q.1)/\∀ s,o=some s->∀ t,t∈l->iW s t.1:=by
 induction l generalizing o with
 | nil=>exact ⟨ai,List.Pairwise.nil,ai⟩
 | cons t r d =>
  unfold oW at h;simp only [Bool.and_eq_true,decide_eq_true_eq] at h;obtain ⟨⟨⟨h1,h2⟩,b⟩,e⟩:=h;obtain ⟨f,g,c⟩:=d e;refine ⟨?_,ds9.2 ⟨λq i=>c _ rfl q i,g⟩,?_⟩
  ·intro u a;rcases bd9.1 a with rfl | a
   ·exact ⟨h1,h2⟩
   ·exact f u a
  ·rintro s rfl u a;have b:iW s t.1:=by simpa using b
   rcases bd9.1 a with rfl | a
   ·exact b
   ·exact kj b (c _ rfl u a)
def FK {x:bK} (h:oW none x.af=true) (hc:∀ t,t∈x.af->t.2<4294967296) (hn:x.num<4294967296):Good x :=
 ⟨⟨(Kz h).2.1,λp a=>⟨((Kz h).1 p a).2,hc p a⟩⟩,λt ht=>((Kz h).1 t ht).1,hn⟩
def vT {c:Nat} (v:iA H U O Y.af) (hl:Y.af.length<=9223372036854775807) (J:∀ t,t∈Y.af->t.1.size<=maxLen) :
  HC Xaz 56 #[iD U O c Y] H λw h'=>w=.bool (oW none Y.af)/\Ext H h':=by
 refine aX (args:=[.agg #[.slice U O c,.int .u32 Y.num]]) mixed Tryz.func56 av (Ai U O c Y.num) ?_;unfold wO aR aY bz aK bj aE cC fR bZ aS cH;have hll:=v.len;refine bn ?_;intro h1 G K z1;refine ay G ((U,O,c),()) (ak ?_);refine aM (cs:=iv) (λy w h'=>∃ (i:Nat),y.2.1=(i:Int)/\i<=Y.af.length/\w=Y.af.length-i/\Ext h1 h'/\oW none Y.af=oW (Ln Y.af i) (Y.af.drop i)) (false,(0:Int),()) Y.af.length rfl
  ⟨0,rfl,ad,ad,Ch.refl _ _,rfl⟩ ?_
 rintro ⟨A,n8,⟨⟩⟩ w h2 ⟨i,hi,I,rfl,B,d⟩;simp only at hi;subst hi;refine ak ?_;have e02:=K.trans B;refine aI ?_ ?_<;>intro L
 ·have b:i<Y.af.length:=ad
  have v2:=v.aj e02 ai;obtain ⟨a,rfl,hc⟩:=v2.cells i b;have C:Y.af.drop i=Y.af[i]::Y.af.drop (i+1):=ax9 b;have n:Ln Y.af (i+1)=some Y.af[i].1:=by
   unfold Ln;rw [ac9 ad,Nat.add_sub_cancel,ad9 b] <;> rfl
  have hsz:=J Y.af[i] (ah9 b);rw [C] at d;generalize Y.af[i]=t at hc d n hsz;refine bM rfl ?_;rw [cg i];refine ar (t.1,(t.2:Int),()) hc (ak ?_);refine bn ?_;intro S M N z3;refine bJ M ?_;intro h4 k P z4;have k:br h4 h2.size 64 [.string t.1,.int .u32 t.2]:=k;have e:Ext h2 h4:=bS N P;have e04:=e02.trans e;rw [aw];refine ay k ((t.2:Int),()) (ak ?_);refine ao ?_ ?_<;>intro m
  ·have m:t.2=0:=by have:(t.2:Int)=0:=(by simpa using m); omega
   refine ⟨?_,e04⟩;rw [d];unfold oW;rw [al9 ad]
   simp
  ·have m:t.2≠0:=by have:¬ (t.2:Int)=0:=(by simpa using m); omega
   refine ay k (t.1,()) (ak ?_);refine aJ (wI t.1 h4 (by have:maxLen=9223372036854775807:=rfl; omega)) ?_;refine ⟨⟨k.cells _ rfl,trivial⟩,?_⟩;refine ao ?_ ?_<;>intro g
   ·have g:cD t.1.data.toList=false:=by simpa using g
    refine ⟨?_,e04⟩;rw [d];unfold oW;rw [g]
    simp
   ·have g:cD t.1.data.toList=true:=by simpa using g
    have hw:=gK i
    have f:(match Ln Y.af i with
      | none=>true
      | some s=>decide (iW s t.1))=true->oW none Y.af=oW (Ln Y.af (i+1)) (Y.af.drop (i+1)):=by
     intro Q;rw [d,n]
     conv=>lhs; unfold oW
     rw [g,ak9 m,Q] <;> rfl
    refine aI ?_ ?_<;>intro R
    ·have D:IntKind.wrap .i64 ((i:Int)-1)=((i-1:Nat):Int):=by rw [wrap_i64 ad ad]; omega
     have o:i-1<Y.af.length:=ad
     obtain ⟨a',E,q⟩:=(v.aj e04 ai).cells (i-1) o;cases E;have r:Ln Y.af i=some Y.af[i-1].1:=by
      unfold Ln;rw [ac9 ad,ad9 o] <;> rfl
     rw [r] at f d;generalize Y.af[i-1]=u at q r f d;refine ay k (t.1,()) (ak ?_);refine ay ((G.aj B ai).aj e ai) ((some a,O,c),()) (ak ?_);rw [D];refine bM rfl ?_;rw [show Int.toNat ((i-1:Nat):Int)=i-1 from ad];refine ar (u.1,()) (de q).1 (ak ?_);rw [leB];refine ao ?_ ?_<;>intro j
     ·have j:¬ iW u.1 t.1:=by simpa using j
      refine ⟨?_,e04⟩;rw [d];unfold oW;dsimp only;rw [al9 j]
      simp
     ·have j:iW u.1 t.1:=by simpa using j
      exact aC (cs:=iv) (A,((i+1:Nat):Int),()) (Y.af.length-(i+1)) rfl ad (as9 (λz=>[Value.bool A,Value.int .i64 z]) hw) ⟨i+1,rfl,ad,rfl,B.trans e,f (ak9 j)⟩
    ·have F:i=0:=ad
     subst F;exact aC (cs:=iv) (A,((0+1:Nat):Int),()) (Y.af.length-(0+1)) rfl ad (as9 (λz=>[Value.bool A,Value.int .i64 z]) hw) ⟨0+1,rfl,ad,rfl,B.trans e,f rfl⟩
 ·have hi:i=Y.af.length:=ad
  subst hi;refine ⟨?_,e02⟩;rw [d,dg9] <;> rfl
def vC {c:Nat} (v:iA H U O Y.af) (hl:Y.af.length<=9223372036854775807) (G:∀ t,t∈Y.af->t.1.size<=maxLen) :
  HC Xaz 97 #[iD U O c Y] H λw h'=>w=.bool (oW none Y.af)/\Ext H h':=by
 refine aX (args:=[.agg #[.slice U O c,.int .u32 Y.num]]) mixed Tryz.func97 av (pW U O c Y.num) ?_;unfold kV aR aY bz aK bj aE cC fR aS cH;have hll:=v.len;refine bn ?_;intro h1 j m z1;have v:=v.aj m ai;refine aM (cs:=iv) (λy w h'=>∃ (i:Nat),y.2.1=(i:Int)/\i<=Y.af.length/\w=Y.af.length-i/\h1=h'/\oW none Y.af=oW (Ln Y.af i) (Y.af.drop i)) (false,(0:Int),()) Y.af.length rfl
  ⟨0,rfl,ad,ad,rfl,rfl⟩ ?_
 rintro ⟨A,n8,⟨⟩⟩ w h2 ⟨i,hi,F,rfl,rfl,d⟩;simp only at hi;subst hi;refine ak ?_;refine ay j ((U,O,c),()) (ak ?_);refine aI ?_ ?_<;>intro I
 ·have b:i<Y.af.length:=ad
  obtain ⟨a,rfl,hc⟩:=v.cells i b;have B:Y.af.drop i=Y.af[i]::Y.af.drop (i+1):=ax9 b;have n:Ln Y.af (i+1)=some Y.af[i].1:=by
   unfold Ln;rw [ac9 ad,Nat.add_sub_cancel,ad9 b] <;> rfl
  have hsz:=G Y.af[i] (ah9 b);rw [B] at d;generalize Y.af[i]=t at hc d n hsz;refine ay j ((some a,O,c),()) (ak ?_);refine bM rfl ?_;rw [cg i];refine ar (t.1,()) (de hc).1 (ak ?_);refine aJ (ui t.1 h1 (by have:maxLen=9223372036854775807:=rfl; omega)) ?_;refine ⟨⟨j.cells _ rfl,trivial⟩,?_⟩;refine ao ?_ ?_<;>intro f
  ·have f:cD t.1.data.toList=false:=by simpa using f
   refine ⟨?_,m⟩;rw [d];unfold oW;rw [f]
   simp
  ·have f:cD t.1.data.toList=true:=by simpa using f
   refine ay j ((some a,O,c),()) (ak ?_);refine bM rfl ?_;refine ar ((t.2:Int),()) (de hc).2 (ak ?_);refine ao ?_ ?_<;>intro k
   ·have k:t.2=0:=by have:(t.2:Int)=0:=(by simpa using k); omega
    refine ⟨?_,m⟩;rw [d];unfold oW;rw [al9 ad]
    simp
   ·have k:t.2≠0:=by have:¬ (t.2:Int)=0:=(by simpa using k); omega
    have hw:=gK i
    have e:(match Ln Y.af i with
      | none=>true
      | some s=>decide (iW s t.1))=true->oW none Y.af=oW (Ln Y.af (i+1)) (Y.af.drop (i+1)):=by
     intro J;rw [d,n]
     conv=>lhs; unfold oW
     rw [f,ak9 k,J] <;> rfl
    refine aI ?_ ?_<;>intro K
    ·have C:IntKind.wrap .i64 ((i:Int)-1)=((i-1:Nat):Int):=by rw [wrap_i64 ad ad]; omega
     have o:i-1<Y.af.length:=ad
     obtain ⟨a',D,q⟩:=v.cells (i-1) o;cases D;have r:Ln Y.af i=some Y.af[i-1].1:=by
      unfold Ln;rw [ac9 ad,ad9 o] <;> rfl
     rw [r] at e d;generalize Y.af[i-1]=u at q r e d;refine ay j ((some a,O,c),()) (ak ?_);refine bM rfl ?_;refine ar (t.1,()) (de hc).1 (ak ?_);refine ay j ((some a,O,c),()) (ak ?_);rw [C];refine bM rfl ?_;rw [show Int.toNat ((i-1:Nat):Int)=i-1 from ad];refine ar (u.1,()) (de q).1 (ak ?_);rw [leB];refine ao ?_ ?_<;>intro g
     ·have g:¬ iW u.1 t.1:=by simpa using g
      refine ⟨?_,m⟩;rw [d];unfold oW;dsimp only;rw [al9 g]
      simp
     ·have g:iW u.1 t.1:=by simpa using g
      exact aC (cs:=iv) (A,((i+1:Nat):Int),()) (Y.af.length-(i+1)) rfl ad (as9 (λz=>[Value.bool A,Value.int .i64 z]) hw) ⟨i+1,rfl,ad,rfl,rfl,e (ak9 g)⟩
    ·have E:i=0:=ad
     subst E;exact aC (cs:=iv) (A,((0+1:Nat):Int),()) (Y.af.length-(0+1)) rfl ad (as9 (λz=>[Value.bool A,Value.int .i64 z]) hw) ⟨0+1,rfl,ad,rfl,rfl,e rfl⟩
 ·have hi:i=Y.af.length:=ad
  subst hi;refine ⟨?_,m⟩;rw [d,dg9] <;> rfl
end Go.Sx
namespace Go.Sx.Ob
abbrev Bt:=List UInt8
def wa:Nat->Nat->Bt
 | _,0=>[]
 | n,w+1=>UInt8.ofNat n::wa (n / 256) w
def Rp:Bt->Nat
 | []=>0
 | b::l=>b.toNat+256*Rp l
theorem dL:∀ (w n:Nat),(wa n w).length=w
 | 0,_=>rfl
 | w+1,n=>by rw [wa,cn9,dL w]
theorem DZ:∀ (w n:Nat),Rp (wa n w)=n % 256^w
 | 0,n=>by simp [wa,Rp,Nat.mod_one]
 | w+1,n=>by
  rw [wa,Rp,DZ w,Nat.pow_succ,fv9 (256^w) 256,Nat.mod_mul]
  congr 1
abbrev Rd (α:Type):=Except (Nat × Nat) (α × Bt)
def mn {α β:Type} (a:Rd α) (f:α->Bt->Rd β):Rd β :=
 match a with
 | .ok p=>f p.1 p.2
 | .error e=>.error e
@[simp] theorem xm {α β:Type} (x:α) (r:Bt) (f:α->Bt->Rd β):mn (.ok (x,r)) f=f x r:=rfl
def wb (w:Nat) (r:Bt):Rd Nat:=if w<=r.length then .ok (Rp (r.take w),r.drop w) else .error (0,10)
def IC (r:Bt):Rd Xaa:=mn (wb 2 r) λn r=>if n<=r.length then .ok (⟨(r.take n).toArray⟩,r.drop n) else .error (0,10)
def Sf:Nat->Bt->Rd dr
 | 0,r=>.ok ([],r)
 | n+1,r=>mn (IC r) λs r=>mn (wb 4 r) λc r=>mn (Sf n r) λts r=>.ok ((s,c)::ts,r)
def jo (r:Bt):Rd bK:=mn (wb 2 r) λn r=>mn (Sf n r) λts r=>mn (wb 4 r) λc r=>.ok (⟨ts,c⟩,r)
def jV (s:Xaa):Bt:=wa s.size 2++s.data.toList
def HR (t:Xaa × Nat):Bt:=jV t.1++wa t.2 4
def nk (x:bK):Bt:=wa x.af.length 2++(x.af.flatMap HR++wa x.num 4)
def PA (w n:Nat) (t:Bt):wb w (wa n w++t)=.ok (n % 256^w,t):=by
 unfold wb;rw [ag9 (by rw [ae9,dL]; omega),List.take_left' (dL w n),List.drop_left' (dL w n),DZ]
def Nr {s:Xaa} (h:s.size<65536) (t:Bt):IC (jV s++t)=.ok (s,t):=by
 unfold IC jV;rw [az9,PA,xm,eb9 ad];have hl:s.data.toList.length=s.size:=ai
 rw [ag9 (by rw [ae9,hl]; omega),List.take_left' hl,List.drop_left' hl]
structure Ins where
 op:Int
 a:Int
 b:Int
 n:Int
 form:Int
deriving DecidableEq
structure cB where
 kind:Int
 name:Xaa
 inst:Ins
 e:bK
 n:Int
def Va:Ins:=⟨0,0,0,0,0⟩
def Hw:bK:=⟨[],0⟩
def dZ:Xaa:=⟨#[]⟩
def fG (k:Int):cB:=⟨k,dZ,Va,Hw,0⟩
def px:List Nat:=[1,1,1,2,2,2,2,2,2,2,3,3,4,4,4,4,4,4,4,4,4,4,4,4,4,4,4,4,5,5,5,5,6,6,7,8,9,10,11,12,12,13,13]
def dA (op:Int):Nat:=if op<1 then 0 else px.getD (op-1).toNat 0
def x5 (n m:Int):Bool:=decide (0<=n) && decide (n<m)
def cS (s:Nat) (a b n:Int):Bool :=
 if s=1\/s=9\/s=12 then decide (a=0) && decide (b=0)
 else if s=2\/s=8\/s=10\/s=11\/s=13 then x5 a 8 && decide (b=0)
 else if s=3 then x5 a 4 && decide (b=0)
 else if s=4 then x5 a 8 && x5 b 8
 else if s=5 then x5 a 4 && x5 b 4
 else if s=6 then x5 a 8 && x5 b 4
 else x5 a 4 && x5 b 8 && x5 n 8
def nU (n form:Int):Bool :=
 if form=1 then decide (-128<=n) && decide (n<=127)
 else if form=2 then decide (-32768<=n) && decide (n<=32767)
 else decide (form=4)
def nR (s:Nat) (n form:Int):Bool :=
 if s=8 then nU n 1
 else if s=9 then decide (0<=n) && decide (n<=255)
 else if s=10\/s=7 then true
 else if s=11 then decide (0<=n) && decide (n<=4095)
 else if s=12\/s=13 then nU n form
 else decide (n=0)
def uB (op:Int):Bool:=decide (12<=dA op)
def Iw (op:Int):Bool:=decide (10<=dA op)
def iF (i:Ins):Int :=
 if dA i.op=0 then 11
 else if cS (dA i.op) i.a i.b i.n=false then 12
 else if (!uB i.op && decide (i.form≠0) || !nR (dA i.op) i.n i.form)=true then 13
 else 0
def SQ (x:bK):Bool:=decide (x.af=[]) && decide (x.num=0)
def AZ (i:Ins) (e:bK):Bool :=
 decide (dA i.op≠0) && decide (i.form=0) && (if Iw i.op then decide (i.n=0) && decide (iF { i with form:=if uB i.op then 1 else 0 }=0) && oW none e.af
  else decide (iF i=0) && SQ e)
def wv (n:Int):Bool:=decide (n=1) || decide (n=2) || decide (n=4) || decide (n=8) || decide (n=16) || decide (n=32) || decide (n=64) || decide (n=128) || decide (n=256)
def z1 (x:cB):Bool:=decide (x.name=dZ)
def z2 (x:cB):Bool:=decide (x.inst=Va)
def z3 (x:cB):Bool:=SQ x.e
def z4 (x:cB):Bool:=decide (x.n=0)
def cI (x:cB) (sec:Nat):Bool :=
 if x.kind=1 then cD x.name.data.toList && z2 x && z3 x && z4 x
 else if x.kind=2 then decide (sec=0) && AZ x.inst x.e && z1 x && z4 x
 else if x.kind=3 then wv x.n && z1 x && z2 x && z3 x
 else if x.kind=4 then decide (sec=0) && z1 x && z2 x && z3 x && z4 x
 else if x.kind=5 then decide (sec=1) && decide (-128<=x.n) && decide (x.n<=255) && z1 x && z2 x && z3 x
 else if x.kind=6 then decide (sec=1) && oW none x.e.af && z1 x && z2 x && z4 x
 else if x.kind=7 then decide (sec=1) && decide (0<=x.n) && decide (x.n<=1048576) && z1 x && z2 x && z3 x
 else false
def u32 (n:Int):Nat:=(n % 4294967296).toNat
def YA (n:Nat):Int:=if n<2147483648 then (n:Int) else (n:Int)-4294967296
def s16 (n:Nat):Int:=if n<32768 then (n:Int) else (n:Int)-65536
def EK (n:Int) (w:Nat):Bt:=wa (u32 n) w
def Ku (x:cB):Bt:=EK x.kind 1 ++
 (if x.kind=1 then jV x.name
 else if x.kind=2 then EK x.inst.op 1++(EK x.inst.a 1++(EK x.inst.b 1++(EK x.inst.n 4++if Iw x.inst.op then nk x.e else [])))
 else if x.kind=3\/x.kind=5 then EK x.n 2
 else if x.kind=6 then nk x.e
 else if x.kind=7 then EK x.n 4
 else [])
def aaY (r:Bt):Rd cB:=mn (wb 1 r) λop r=>mn (wb 1 r) λa r=>mn (wb 1 r) λb r=>mn (wb 4 r) λn r =>
 if Iw (op:Int) then mn (jo r) λe r=>.ok ({ fG 2 with inst:=⟨op,a,b,YA n,0⟩,e:=e },r) else .ok ({ fG 2 with inst:=⟨op,a,b,YA n,0⟩ },r)
def aam (k:Nat) (r:Bt):Rd cB :=
 if k=1 then mn (IC r) λs r=>.ok ({ fG 1 with name:=s },r)
 else if k=2 then aaY r
 else if k=3 then mn (wb 2 r) λn r=>.ok ({ fG 3 with n:=n },r)
 else if k=5 then mn (wb 2 r) λn r=>.ok ({ fG 5 with n:=s16 n },r)
 else if k=6 then mn (jo r) λe r=>.ok ({ fG 6 with e:=e },r)
 else if k=7 then mn (wb 4 r) λn r=>.ok ({ fG 7 with n:=n },r)
 else .ok (fG k,r)
def at_ {α:Type} (r:Bt) (r6:Nat) (ok:α->Bool) (a:Rd α):Rd α:=mn a λx b=>if ok x then .ok (x,b) else .error (r.length,r6)
def hQ (D:List Xaa) (s:Xaa):Bool:=D.any λt=>decide (t=s)
def zu (sec:Nat) (D:List Xaa) (x:cB):Bool:=cI x sec && !(decide (x.kind=1) && hQ D x.name)
def vM (D:List Xaa) (x:cB):List Xaa:=if x.kind=1 then x.name::D else D
def ZC (sec:Nat) (D:List Xaa) (r:Bt):Rd cB:=at_ r 31 (zu sec D) (mn (wb 1 r) aam)
def Xe {α:Type} {r b:Bt} {r6:Nat} {ok:α->Bool} {a:Rd α} {x:α} (h:a=.ok (x,b)) (h2:ok x=true):at_ r r6 ok a=.ok (x,b):=by
 unfold at_;rw [h,xm,ag9 h2]
def Jv (op:Int) (h:dA op≠0):1<=op/\op<=43:=by
 unfold dA at h;split at h
 ·exact absurd rfl h
 ·refine ⟨ad,?_⟩
  by_cases g:op<=43
  ·exact g
  ·exfalso;apply h;rw [cg9,bv9 (by simp [px]; omega)] <;> rfl
def Gx {i:Ins} (h:iF i=0):dA i.op≠0/\cS (dA i.op) i.a i.b i.n=true:=by
 unfold iF at h;split at h
 ·cases h
 ·split at h
  ·cases h
  ·rename_i h1 h2;exact ⟨h1,by simpa using h2⟩
def jb (op:Int):dA op=0\/(1<=dA op/\dA op<=13):=by
 by_cases h:dA op=0
 ·exact .inl h
 ·right
  have h1:=Jv op h;unfold dA;rw [ac9 ad];have h2:(op-1).toNat<43:=ad
  generalize (op-1).toNat=k at h2
  have:∀ k:Fin 43,1<=px.getD k.1 0/\px.getD k.1 0<=13:=bH
  exact this ⟨k,h2⟩
abbrev tI:=Xaa × bK
structure cm where
 text:List cB
 data:List cB
 bi:List tI
 aT:List Xaa
def yx (sec:Nat):Nat->List Xaa->Bt->Rd (List cB)
 | 0,_,r=>.ok ([],r)
 | n+1,D,r=>mn (ZC sec D r) λx r=>mn (yx sec n (vM D x) r) λl r=>.ok (x::l,r)
def Er (D:List Xaa) (p:tI):Bool:=!(hQ D p.1) && cD p.1.data.toList && oW none p.2.af
def UZ (D:List Xaa) (last g:Xaa):Bool:=hQ D g && decide (iW last g)
def VV (D:List Xaa) (last:Xaa) (r:Bt):Rd Xaa:=at_ r 31 (UZ D last) (IC r)
def JS (D:List Xaa):Nat->Xaa->Bt->Rd (List Xaa)
 | 0,_,r=>.ok ([],r)
 | n+1,last,r=>mn (VV D last r) λx r=>mn (JS D n x r) λl r=>.ok (x::l,r)
def Rb:Bt:=[83,80,65,78,1]
def dc (D:List Xaa) (l:List cB):List Xaa:=l.foldl vM D
def aU (D:List Xaa) (l:List tI):List Xaa:=l.foldl (λD p=>p.1::D) D
def fv (sec:Nat):List Xaa->List cB->Bool
 | _,[]=>true
 | D,x::l=>zu sec D x && fv sec (vM D x) l
def iy:List Xaa->List tI->Bool
 | _,[]=>true
 | D,x::l=>Er D x && iy (x.1::D) l
def dl (D:List Xaa):Xaa->List Xaa->Bool
 | _,[]=>true
 | last,x::l=>UZ D last x && dl D x l
def cm.names (u:cm):List Xaa:=aU (dc (dc [] u.text) u.data) u.bi
def xS (u:cm):Bool:=fv 0 [] u.text && fv 1 (dc [] u.text) u.data && iy (dc (dc [] u.text) u.data) u.bi && dl u.names dZ u.aT
def xj (u:cm):Bool:=decide (8192<u.text.length+u.data.length) || decide (8192<u.bi.length)
def fC (u:cm):Nat:=if xj u then 4 else if xS u then 0 else 31
def OZ (p:tI):Bt:=jV p.1++nk p.2
def EB {α:Type} (w:α->Bt) (l:List α):Bt:=wa l.length 2++l.flatMap w
def aay (u:cm):Bt:=Rb++(EB Ku u.text++(EB Ku u.data++(EB OZ u.bi++EB jV u.aT)))
theorem Ju (D:List Xaa) (a:∀ s,s∈D->s.size<65536):∀ (l:List Xaa) (o:Xaa) (t:Bt),dl D o l=true->JS D l.length o (l.flatMap jV++t)=.ok (l,t)
 | [],o,t,_=>rfl
 | x::l,o,t,h=>by
  unfold dl at h;rw [bm9] at h;obtain ⟨h1,h2⟩:=h;have b:x.size<65536:=by
   unfold UZ hQ at h1;simp only [Bool.and_eq_true,List.any_eq_true,decide_eq_true_eq] at h1;obtain ⟨⟨y,c,rfl⟩,_⟩:=h1;exact a y c
  rw [cn9,cf9,az9,JS];have d:VV D o (jV x++(l.flatMap jV++t))=.ok (x,l.flatMap jV++t):=Xe (Nr b _) h1;rw [d,xm,Ju D a l _ t h2,xm]
theorem zq (D:List Xaa):∀ (l:List Xaa) (o:Xaa),dl D o l=true->(∀ x,x∈l->x∈D/\iW o x)/\l.Pairwise iW
 | [],o,_=>⟨ai,List.Pairwise.nil⟩
 | x::l,o,h=>by
  unfold dl UZ hQ at h;simp only [Bool.and_eq_true,List.any_eq_true,decide_eq_true_eq] at h;obtain ⟨⟨⟨y,d,rfl⟩,h2⟩,e⟩:=h;obtain ⟨a,b⟩:=zq D l y e;refine ⟨?_,ds9.2 ⟨λz c=>(a z c).2,b⟩⟩;intro z c;rcases bd9.1 c with rfl | c
  ·exact ⟨d,h2⟩
  ·exact ⟨(a z c).1,kj h2 (a z c).2⟩
def Bp {u:cm} (h:fC u=0):xj u=false/\xS u=true:=by
 unfold fC at h;split at h
 ·cases h
 ·rename_i h1;split at h
  ·rename_i h2;exact ⟨by simpa using h1,h2⟩
  ·cases h
end Go.Sx.Ob
namespace Go.Sx
open Go.Proofs
def ZR:Tryz.prog.underlying 64=some (.struct (wJ Xaz 64)):=av
def FM (x y:Operand) (a:Xaa) (b:Int) (a':Xaa) (b':Int) (h:Hp) (K:Xab->Hp->Prop) (hk:K (.bool !(a==a' && b==b')) h) :
  aQ Xaz (Sx.vr (BinOp.neq) 64 x y (.agg #[.string a,.int .u32 b]) (.agg #[.string a',.int .u32 b'])) h K:=by
 refine AS ZR av av av K ?_;have c:(wJ Xaz 64).all (IB #[.string a,.int .u32 b] #[.string a',.int .u32 b'])=(a==a' && (b==b' && true)):=by
  rw [<- df9]
  kernel_rfl
 rw [c,di9];exact hk
def OL (t u:Xaa × Nat):(!(t.1==u.1 && (t.2:Int)==(u.2:Int)))=decide (t≠u):=by
 obtain ⟨a,b⟩:=t;obtain ⟨a',b'⟩:=u
 by_cases h1:a=a'
 ·subst h1;rw [bytes_beq]
  by_cases h2:b=b'
  ·subst h2
   simp
  ·have c:¬ ((b:Int)=(b':Int)):=ad
   have f:((b:Int)==(b':Int))=false:=by simpa using c
   simp [h2,f]
 ·have c:(a==a')=false:=by
   obtain ⟨d⟩:=a;obtain ⟨d'⟩:=a';show (d==d')=false;have f:¬ d=d':=λe=>h1 (by rw [e])
   simpa using f
  simp [h1,c]
variable {H Y:Nat}
def BR {α:Type} {l m:List α} (hi:H<l.length) (a:H<m.length) (h:l[H]≠m[H]):l≠m:=by
 rintro rfl;exact h rfl
def xR {α:Type} {l m:List α} (hi:H<l.length) (a:H<m.length) (h:l[H]=m[H]):(l.drop H=m.drop H)↔(l.drop (H+1)=m.drop (H+1)):=by
 rw [ax9 hi,ax9 a,h];exact ⟨λe=>(List.cons.inj e).2,λe=>by rw [e]⟩
instance:DecidableEq dr:=inferInstance
variable {O:Hp} {U V:Xac}
def IR {c d:Nat} {us j:dr} (v:iA O U H us) (w:iA O V Y j) (hl:us.length<=2^60):ug Xaz 112 [.slice U H c,.slice V Y d] O (.bool (decide (us=j))):=by
 refine eW mixed Tryz.func112 av (gP U H c V Y d) ?_;unfold eG aR aY bz aK ja aE cC fR aS cH;have h1:=v.len;have h2:=w.len;refine ao ?_ ?_<;>intro k
 ·have k:¬ (H:Int)=(Y:Int):=by simpa using k
  exact ⟨by rw [al9 (λe=>by rw [e] at h1; omega)],rfl⟩
 ·have k:(H:Int)=(Y:Int):=by simpa using k
  refine aM (cs:=iv) (λy n h'=>∃ (i:Nat),y.2.1=(i:Int)/\i<=us.length/\n=us.length-i/\O=h'/\(us=j↔us.drop i=j.drop i)) (false,(0:Int),()) us.length rfl
   ⟨0,rfl,ad,ad,rfl,Iff.rfl⟩ ?_
  rintro ⟨s,n8,⟨⟩⟩ n h2 ⟨i,hi,x,rfl,rfl,A⟩;simp only at hi;subst hi;refine ak ?_;refine aI ?_ ?_<;>intro B
  ·have f:i<us.length:=ad
   have g:i<j.length:=ad
   obtain ⟨a,rfl,hc⟩:=v.cells i f;obtain ⟨a',rfl,o⟩:=w.cells i g;have hst:=xR f g;have hno:=BR f g;generalize us[i]=t at hc hst hno;generalize j[i]=u at o hst hno;refine bM rfl ?_;rw [cg i];refine ar (t.1,(t.2:Int),()) hc (ak ?_);refine bM rfl ?_;refine ar (u.1,(u.2:Int),()) o (ak ?_);refine pL (b:=decide (t≠u)) (λC hk=>FM _ _ _ _ _ _ _ _ (by rw [OL]; exact hk)) ?_;refine ao ?_ ?_<;>intro r
   ·exact ⟨by rw [al9 (hno (ai9 r))],rfl⟩
   ·have r:t=u:=by simpa using r
    have hw:=gK i;exact aC (cs:=iv) (s,((i+1:Nat):Int),()) (us.length-(i+1)) rfl ad (as9 (λz=>[Value.bool s,Value.int .i64 z]) hw) ⟨i+1,rfl,ad,rfl,rfl,A.trans (hst r)⟩
  ·refine ⟨?_,rfl⟩;rw [ak9 (A.2 (by rw [ce9 ad,ce9 ad]))]
def jO (x y:bK):Bool:=decide (x.num=y.num) && decide (x.af=y.af)
def yf (x:bK):jO x x=true:=by unfold jO; simp
def Di {c d:Nat} {x y:bK} (v:iA O U H x.af) (w:iA O V Y y.af) (hl:x.af.length<=2^60) :
  HC Xaz 82 #[iD U H c x,iD V Y d y] O λr h'=>r=.bool (jO x y)/\Ext O h':=by
 refine aX (args:=[.agg #[.slice U H c,.int .u32 x.num],.agg #[.slice V Y d,.int .u32 y.num]]) mixed Tryz.func82 av (BN U H c x.num V Y d y.num) ?_;unfold zx bj aE cC;refine bn ?_;intro h1 b1 f z1;refine bn ?_;intro h2 b e z2;have b1:=b1.aj e ai;have e02:=f.trans e;rw [aw,aw];refine ay b1 ((x.num:Int),()) (ak ?_);refine ay b ((y.num:Int),()) (ak ?_);refine ao ?_ ?_<;>intro a
 ·have a:x.num=y.num:=by have:(x.num:Int)=y.num:=(by simpa using a); omega
  refine ay b1 ((U,H,c),()) (ak ?_);refine ay b ((V,Y,d),()) (ak ?_);refine aJ (IR (v.aj e02 ai) (w.aj e02 ai) hl) ?_;refine ⟨?_,e02⟩;unfold jO;rw [ak9 a] <;> rfl
 ·have a:¬ x.num=y.num:=by have:¬ (x.num:Int)=y.num:=(by simpa using a); omega
  refine ⟨?_,e02⟩;unfold jO;rw [al9 a] <;> rfl
def TN {P:Program} {L:Lp} {K:Xab->Hp->Prop} {h:Hp} {k:Xac->Nat->Nat->T} {t e:TypeId} {z:Xab} {sz by':Nat} (ht:P.underlying t=some (.slice e)) (a:(P.info? e).map (λi=>(i.zero,i.size,i.bytes))=some (some z,sz,by'))
  (hk:∀ h' ,SL h' h.size e sz (some ⟨h.size,0,none⟩) 0 0 []->Ext h h'->k (some ⟨h.size,0,none⟩) 0 0 L K h'):T.dP P (Instr.buildSlice t 0 #[]) false [(false,[.slice 0])] k L K h:=by
 obtain ⟨i,hi,b,rfl,rfl⟩:=oz a;refine dt ?_;unfold Instr.buildSlice;rw [an,az ht];simp only;rw [an,bT hi];simp only [Nat.zero_mul];rw [ac9 ad];have h0:∀ f:Nat->Xab,Array.map f (Array.range 0)=#[]:=λf=>ai
 simp only [h0];refine ⟨_,_,_,rfl,hk _ ?_ (Ext.push h _)⟩;exact ⟨rfl,ai,h.size,[],[],rfl,am9 _,⟨am9 _,ad⟩,by simpa using br.new h e [],ai⟩
theorem xv {h:Hp} {a:Xax}:∀ (us:dr) (k:Nat),(∀ i,(hi:i<us.length)->aH h (a.add ((k+i)*2)) 0 (cT us[i]))->aH h a (k*2) (us.map cT).flatten
 | [],_,_=>trivial
 | t::us,k,hc=>by
  have h0:=hc 0 ai;obtain ⟨h1,h2,_⟩:=h0;rw [add_add] at h1 h2;have ih:=xv us (k+1) (λi hi=>by
   have:=hc (i+1) (by simpa using hi)
   rw [show k+(i+1)=k+1+i from ad] at this;exact this)
  rw [show (k+1)*2=k*2+1+1 from ad] at ih;exact ⟨h1,by simpa using h2,ih⟩
def iA.flat {h:Hp} {a:Xax} {us:dr} (v:iA h (some a) H us):aH h a 0 (us.map cT).flatten:=by
 have:=xv (h:=h) (a:=a) us 0 (λi hi=>by
  obtain ⟨a',e,hc⟩:=v.cells i hi;cases e;rw [by9];exact hc)
 simpa using this
def Jm (us:dr):(us.map cT).flatten.all df=true:=by
 rw [bn9];intro v hv;obtain ⟨x,a,hv⟩:=fx9.1 hv;obtain ⟨t,_,rfl⟩:=ap9.1 a;simp only [cT,List.mem_cons,List.not_mem_nil,or_false] at hv;rcases hv with rfl | rfl <;> rfl
end Go.Sx
namespace Go.Sx.Ob
open Go.Proofs
variable {h':Hp} {e2 e1:TypeId} {sec:Nat}
def _root_.Go.Sx.Ch.st {h a b:Hp} {g:Nat} (e:Ext h a) (k:Ch [g] a b) (c:h.size<=g):Ext h b:=bS e k
def mJ (nm:Nat->Xaa) (by_:Nat->Int):List Xab:=(List.range 43).flatMap λk=>[.string (nm k),.int .u8 (by_ k),vI (px.getD k 0:Nat)]
def zY (h:Hp):Prop:=∃ nm by_ e f,h[0]?=some (.cells (mJ nm by_).toArray e f)
def zY.aj {ws:List Nat} {h:Hp} (t:zY h) (k:Ch ws h h') (a:0∉ws):zY h':=by
 obtain ⟨nm,by_,e,f,ht⟩:=t;exact ⟨nm,by_,e,f,k.get ht a⟩
theorem xG {α β:Type} (f:α->List β) (m:Nat) (a:∀ x,(f x).length=m):∀ (l:List α) (i j:Nat),j<m->(l.flatMap f)[i*m+j]?=(l[i]?).bind λx=>(f x)[j]?
 | [],i,j,b=>ai
 | x::l,0,j,b=>by
  rw [cf9,bw9 (by rw [a]; omega)]
  simp
 | x::l,i+1,j,b=>by
  rw [cf9,bp9 (by rw [a,dd9]; omega),a,show (i+1)*m+j-m=i*m+j by rw [dd9]; omega,xG f m a l i j b]
  simp
def zY.cells {h:Hp} (t:zY h) {k:Nat} (hk:k<43):∃ (s:Xaa) (b:Int),aH h ((⟨0,0,none⟩:Xax).add (k*3)) 0 [.string s,.int .u8 b,vI (px.getD k 0:Nat)]:=by
 obtain ⟨nm,by_,e,f,ht⟩:=t;refine ⟨nm k,by_ k,?_⟩;have a:∀ j,j<3->(mJ nm by_)[k*3+j]?=([.string (nm k),.int .u8 (by_ k),vI (px.getD k 0:Nat)]:List Xab)[j]?:=by
  intro j c;unfold mJ;rw [xG _ 3 ai _ _ _ c];simp [hk]
 rw [aw];refine ⟨?_,?_,?_,trivial⟩
 ·rw [aw,sQ ht]
  have:=a 0 ad
  simpa using this
 ·rw [aw,sQ ht]
  have:=a 1 ad
  simpa using this
 ·rw [aw,sQ ht]
  have:=a 2 ad
  simpa using this
def LN {h:Hp} (t:zY h) (op:Int) (h1:-9223372036854775808<=op) (h2:op<=9223372036854775807) :
  HC Xaz 67 #[vI op] h λw h'=>∃ (s:Xaa) (b:Int),w=.tuple #[.agg #[.string s,.int .u8 b,vI (dA op:Nat)],.bool (decide (dA op≠0))]/\Ext h h':=by
 refine aX (args:=[vI op]) mixed Tryz.func67 av (Io op) ?_;unfold GS bY bR bZ;refine bn ?_;intro n d e1 z1;have f:∀ (i:dA op=0),(∃ (s:Xaa) (b:Int),(Value.tuple #[.agg #[.string ⟨#[]⟩,.int .u8 0,vI 0],.bool false])=.tuple #[.agg #[.string s,.int .u8 b,vI (dA op:Nat)],.bool (decide (dA op≠0))]) :=
  λi=>⟨⟨#[]⟩,0,by rw [i]; rfl⟩
 refine ao ?_ ?_<;>intro q
 ·have q:=ai9 q;refine bJ d ?_;intro j a c z2;refine ay a ((⟨#[]⟩:Xaa),(0:Int),(0:Int),()) ?_;obtain ⟨s,b,e⟩:=f (by unfold dA; rw [ag9 q]);exact ⟨s,b,e,bS e1 c⟩
 refine ao ?_ ?_<;>intro r
 ·have r:=ai9 r;refine bJ d ?_;intro j a c z2;refine ay a ((⟨#[]⟩:Xaa),(0:Int),(0:Int),()) ?_;obtain ⟨s,b,e⟩:=f (by
   by_cases g:dA op=0
   ·exact g
   ·have:=Jv op g
    omega)
  exact ⟨s,b,e,bS e1 c⟩
 ·have q:=aw9 q;have r:=aw9 r;rw [wrap_i64 ad ad];refine eS ?_;obtain ⟨s,b,hc⟩:=(t.aj e1 ai).cells (k:=(op-1).toNat) ad;refine ar (s,b,((px.getD (op-1).toNat 0:Nat):Int),()) hc (ak ?_);refine bJ d ?_;intro j a c z2;refine ay a (s,b,((px.getD (op-1).toNat 0:Nat):Int),()) ?_;refine ⟨s,b,?_,bS e1 c⟩;have l:dA op=px.getD (op-1).toNat 0:=by unfold dA; rw [ac9 ad]
  have m:dA op≠0:=by
   rw [l]
   have:∀ k:Fin 43,px.getD k.1 0≠0:=bH
   exact this ⟨(op-1).toNat,ad⟩
  rw [ak9 m,l]
def HE {h:Hp} (t:zY h) (op:Int) (h1:-9223372036854775808<=op) (h2:op<=9223372036854775807) :
  HC Xaz 60 #[vI op] h λw h'=>w=.bool (uB op)/\Ext h h':=by
 refine aX (args:=[vI op]) mixed Tryz.func60 av (Be op) ?_;unfold zD cv fR bZ cH;refine aG (LN t op h1 h2) ?_;rintro _ c ⟨s,b,rfl,e1⟩;refine ⟨(s,b,((dA op:Nat):Int),decide (dA op≠0),()),rfl,ak ?_⟩;refine bn ?_;intro g d e2 z2;refine bJ d ?_;intro e a f z3;have e3:=(e1.trans e2).st f (by have:=e1.size; omega);have a:br e c.size 171 [.string s,.int .u8 b,vI (dA op:Nat)]:=a;rw [aw];refine ay a (((dA op:Nat):Int),()) (ak ?_);have hc:=jb op;refine ao ?_ ?_<;>intro q
 ·have q:((dA op:Nat):Int)=12:=by simpa using q
  refine ⟨?_,e3⟩;unfold uB;rw [ak9 ad]
 ·have q:¬ ((dA op:Nat):Int)=12:=by simpa using q
  refine ay a (((dA op:Nat):Int),()) ?_;refine ⟨?_,e3⟩;unfold uB
  by_cases r:dA op=13
  ·rw [r]; rfl
  ·rw [al9 ad]
   congr 1
   simp
   omega
def JU (n:Int):(n==IntKind.wrap .i32 (IntKind.wrap .i8 n))=(decide (-128<=n) && decide (n<=127)):=by
 have h1:IntKind.wrap .i8 n=if n % 256<128 then n % 256 else n % 256-256:=by
  simp only [IntKind.wrap,IntKind.bits,IntKind.signed,Bool.true_and];split <;> rename_i a
  ·have:=ai9 a
   rw [ac9 ad] <;> rfl
  ·have:¬ _:=λh=>a (ak9 h)
   rw [ag9 ad] <;> rfl
 have h2:IntKind.wrap .i32 (IntKind.wrap .i8 n)=IntKind.wrap .i8 n:=by
  have:-128<=IntKind.wrap .i8 n/\IntKind.wrap .i8 n<=127:=by rw [h1]; split <;> omega
  generalize IntKind.wrap .i8 n=m at this;simp only [IntKind.wrap,IntKind.bits,IntKind.signed,Bool.true_and];split <;> rename_i a
  ·have:=ai9 a; omega
  ·have:¬ _:=λh=>a (ak9 h); omega
 rw [h2,h1]
 by_cases g:-128<=n/\n<=127
 ·rw [ak9 g.1,ak9 g.2]
  simp
  split <;> omega
 ·have:(decide (-128<=n) && decide (n<=127))=false:=by
   rw [Bool.and_eq_false_iff]
   simp
   omega
  rw [this]
  simp
  split <;> omega
def HN (n:Int):(n==IntKind.wrap .i32 (IntKind.wrap .i16 n))=(decide (-32768<=n) && decide (n<=32767)):=by
 have h1:IntKind.wrap .i16 n=if n % 65536<32768 then n % 65536 else n % 65536-65536:=by
  simp only [IntKind.wrap,IntKind.bits,IntKind.signed,Bool.true_and];split <;> rename_i a
  ·have:=ai9 a
   rw [ac9 ad] <;> rfl
  ·have:¬ _:=λh=>a (ak9 h)
   rw [ag9 ad] <;> rfl
 have h2:IntKind.wrap .i32 (IntKind.wrap .i16 n)=IntKind.wrap .i16 n:=by
  have:-32768<=IntKind.wrap .i16 n/\IntKind.wrap .i16 n<=32767:=by rw [h1]; split <;> omega
  generalize IntKind.wrap .i16 n=m at this;simp only [IntKind.wrap,IntKind.bits,IntKind.signed,Bool.true_and];split <;> rename_i a
  ·have:=ai9 a; omega
  ·have:¬ _:=λh=>a (ak9 h); omega
 rw [h2,h1]
 by_cases g:-32768<=n/\n<=32767
 ·rw [ak9 g.1,ak9 g.2]
  simp
  split <;> omega
 ·have:(decide (-32768<=n) && decide (n<=32767))=false:=by
   rw [Bool.and_eq_false_iff]
   simp
   omega
  rw [this]
  simp
  split <;> omega
def ct (h:Hp) (n f:Int):ug Xaz 156 [.int .i32 n,vI f] h (.bool (nU n f)):=by
 refine eW mixed Tryz.func156 av (yH n f) ?_;unfold uZ;rw [JU,HN];refine ao ?_ ?_<;>intro q
 ·have q:f=1:=by simpa using q
  exact ⟨by unfold nU; rw [ag9 q],rfl⟩
 have q:¬ f=1:=by simpa using q
 refine ao ?_ ?_<;>intro r
 ·have r:f=2:=by simpa using r
  exact ⟨by unfold nU; rw [ac9 q,ag9 r],rfl⟩
 have r:¬ f=2:=by simpa using r
 exact ⟨by unfold nU; rw [ac9 q,ac9 r]; rfl,rfl⟩
def Ho (h:Hp) (n:Int):ug Xaz 81 [vI n] h (.bool (wv n)):=by
 refine eW mixed Tryz.func81 av (Aj n) ?_;unfold xw bY cC;have a:¬ (1<=n/\n<=256)->wv n=false:=by
  intro g;cases b:wv n with
  | false=>rfl
  | true =>
   exfalso;unfold wv at b;simp only [Bool.or_eq_true,decide_eq_true_eq] at b;omega
 refine aI ?_ ?_<;>intro q
 ·refine aI ?_ ?_<;>intro r
  ·refine ⟨?_,rfl⟩;obtain ⟨k,rfl,hk⟩:∃ k:Nat,n=((k+1:Nat):Int)/\k<256:=⟨(n-1).toNat,ad,ad⟩
   have:∀ k:Fin 256,(IntKind.wrap .i64 (((BitVec.toNat ((BitVec.ofInt 64 ((k.1+1:Nat):Int)) &&& (BitVec.ofInt 64 (IntKind.wrap .i64 (((k.1+1:Nat):Int)-(1:Int)))))):Nat):Int)==(0:Int))=wv ((k.1+1:Nat):Int):=by
    decide +kernel
   rw [this ⟨k,hk⟩]
  ·exact ⟨by rw [a ad],rfl⟩
 ·exact ⟨by rw [a ad],rfl⟩
def cQ (h:Hp) (n m:Int):ug Xaz 155 [vI n,vI m] h (.bool (x5 n m)):=by
 refine eW mixed Tryz.func155 av (Cy n m) ?_;unfold ze cC;refine aI ?_ ?_<;>intro q
 ·refine ⟨?_,rfl⟩;unfold x5;rw [ak9 (show 0<=n from ad)] <;> rfl
 ·refine ⟨?_,rfl⟩;unfold x5;rw [al9 (show ¬ 0<=n from ad)] <;> rfl
def dz (a b:Int):(a==b)=decide (a=b):=rfl
def dF (op a b n form:Int):Xab:=.agg #[vI op,vI a,vI b,.int .i32 n,vI form]
def Rr (h:Hp) (op a b n form:Int):HC Xaz 137 #[dF op a b n form,vI 1] h λw h'=>w=.bool (cS 1 a b n)/\Ext h h':=by
 refine aX (args:=[dF op a b n form,vI 1]) mixed Tryz.func137 av (r9 op a b n form) ?_;unfold nu;refine bn ?_;intro d c e1 z1
 try simp only [aw]
 repeat' (first
  | (refine aZ c (_,()) rfl ?_; refine ak ?_)
  | (refine aJ (cQ _ _ _) ?_)
  | (refine aJ (ct _ _ _) ?_)
  | (refine ao (λq=>?_) (λq=>?_)))
 all_goals (refine ⟨?_,e1⟩; first | (simp_all [cS,dz]; done) | (simp_all [cS,dz] <;> simp [x5] <;> omega))
def UM (h:Hp) (op a b n form:Int):HC Xaz 138 #[dF op a b n form,vI 1] h λw h'=>w=.bool (nR 1 n form)/\Ext h h':=by
 refine aX (args:=[dF op a b n form,vI 1]) mixed Tryz.func138 av (vS op a b n form) ?_;unfold rJ;refine bn ?_;intro d c e1 z1
 try simp only [aw]
 repeat' (first
  | (refine aZ c (_,()) rfl ?_; refine ak ?_)
  | (refine aJ (cQ _ _ _) ?_)
  | (refine aJ (ct _ _ _) ?_)
  | (refine ao (λq=>?_) (λq=>?_)))
 all_goals (refine ⟨?_,e1⟩; first | (simp_all [nR,dz]; done) | (simp_all [nR,dz] <;> omega))
def Ru (h:Hp) (op a b n form:Int):HC Xaz 137 #[dF op a b n form,vI 2] h λw h'=>w=.bool (cS 2 a b n)/\Ext h h':=by
 refine aX (args:=[dF op a b n form,vI 2]) mixed Tryz.func137 av (rX op a b n form) ?_;unfold nK;refine bn ?_;intro d c e1 z1
 try simp only [aw]
 repeat' (first
  | (refine aZ c (_,()) rfl ?_; refine ak ?_)
  | (refine aJ (cQ _ _ _) ?_)
  | (refine aJ (ct _ _ _) ?_)
  | (refine ao (λq=>?_) (λq=>?_)))
 all_goals (refine ⟨?_,e1⟩; first | (simp_all [cS,dz]; done) | (simp_all [cS,dz] <;> simp [x5] <;> omega))
def UO (h:Hp) (op a b n form:Int):HC Xaz 138 #[dF op a b n form,vI 2] h λw h'=>w=.bool (nR 2 n form)/\Ext h h':=by
 refine aX (args:=[dF op a b n form,vI 2]) mixed Tryz.func138 av (vK op a b n form) ?_;unfold rG;refine bn ?_;intro d c e1 z1
 try simp only [aw]
 repeat' (first
  | (refine aZ c (_,()) rfl ?_; refine ak ?_)
  | (refine aJ (cQ _ _ _) ?_)
  | (refine aJ (ct _ _ _) ?_)
  | (refine ao (λq=>?_) (λq=>?_)))
 all_goals (refine ⟨?_,e1⟩; first | (simp_all [nR,dz]; done) | (simp_all [nR,dz] <;> omega))
def QL (h:Hp) (op a b n form:Int):HC Xaz 137 #[dF op a b n form,vI 3] h λw h'=>w=.bool (cS 3 a b n)/\Ext h h':=by
 refine aX (args:=[dF op a b n form,vI 3]) mixed Tryz.func137 av (sy op a b n form) ?_;unfold mY bj cC;refine bn ?_;intro d c e1 z1
 try simp only [aw]
 repeat' (first
  | (refine aZ c (_,()) rfl ?_; refine ak ?_)
  | (refine aJ (cQ _ _ _) ?_)
  | (refine aJ (ct _ _ _) ?_)
  | (refine ao (λq=>?_) (λq=>?_)))
 all_goals (refine ⟨?_,e1⟩; first | (simp_all [cS,dz]; done) | (simp_all [cS,dz] <;> simp [x5] <;> omega))
def S0 (h:Hp) (op a b n form:Int):HC Xaz 138 #[dF op a b n form,vI 3] h λw h'=>w=.bool (nR 3 n form)/\Ext h h':=by
 refine aX (args:=[dF op a b n form,vI 3]) mixed Tryz.func138 av (vD op a b n form) ?_;unfold rL;refine bn ?_;intro d c e1 z1
 try simp only [aw]
 repeat' (first
  | (refine aZ c (_,()) rfl ?_; refine ak ?_)
  | (refine aJ (cQ _ _ _) ?_)
  | (refine aJ (ct _ _ _) ?_)
  | (refine ao (λq=>?_) (λq=>?_)))
 all_goals (refine ⟨?_,e1⟩; first | (simp_all [nR,dz]; done) | (simp_all [nR,dz] <;> omega))
def R7 (h:Hp) (op a b n form:Int):HC Xaz 137 #[dF op a b n form,vI 4] h λw h'=>w=.bool (cS 4 a b n)/\Ext h h':=by
 refine aX (args:=[dF op a b n form,vI 4]) mixed Tryz.func137 av (rR op a b n form) ?_;unfold mP bj cC;refine bn ?_;intro d c e1 z1
 try simp only [aw]
 repeat' (first
  | (refine aZ c (_,()) rfl ?_; refine ak ?_)
  | (refine aJ (cQ _ _ _) ?_)
  | (refine aJ (ct _ _ _) ?_)
  | (refine ao (λq=>?_) (λq=>?_)))
 all_goals (refine ⟨?_,e1⟩; first | (simp_all [cS,dz]; done) | (simp_all [cS,dz] <;> simp [x5] <;> omega))
def Uc (h:Hp) (op a b n form:Int):HC Xaz 138 #[dF op a b n form,vI 4] h λw h'=>w=.bool (nR 4 n form)/\Ext h h':=by
 refine aX (args:=[dF op a b n form,vI 4]) mixed Tryz.func138 av (vN op a b n form) ?_;unfold rI;refine bn ?_;intro d c e1 z1
 try simp only [aw]
 repeat' (first
  | (refine aZ c (_,()) rfl ?_; refine ak ?_)
  | (refine aJ (cQ _ _ _) ?_)
  | (refine aJ (ct _ _ _) ?_)
  | (refine ao (λq=>?_) (λq=>?_)))
 all_goals (refine ⟨?_,e1⟩; first | (simp_all [nR,dz]; done) | (simp_all [nR,dz] <;> omega))
def QD (h:Hp) (op a b n form:Int):HC Xaz 137 #[dF op a b n form,vI 5] h λw h'=>w=.bool (cS 5 a b n)/\Ext h h':=by
 refine aX (args:=[dF op a b n form,vI 5]) mixed Tryz.func137 av (sg op a b n form) ?_;unfold nz bj cC;refine bn ?_;intro d c e1 z1
 try simp only [aw]
 repeat' (first
  | (refine aZ c (_,()) rfl ?_; refine ak ?_)
  | (refine aJ (cQ _ _ _) ?_)
  | (refine aJ (ct _ _ _) ?_)
  | (refine ao (λq=>?_) (λq=>?_)))
 all_goals (refine ⟨?_,e1⟩; first | (simp_all [cS,dz]; done) | (simp_all [cS,dz] <;> simp [x5] <;> omega))
def Tx (h:Hp) (op a b n form:Int):HC Xaz 138 #[dF op a b n form,vI 5] h λw h'=>w=.bool (nR 5 n form)/\Ext h h':=by
 refine aX (args:=[dF op a b n form,vI 5]) mixed Tryz.func138 av (vz op a b n form) ?_;unfold rE;refine bn ?_;intro d c e1 z1
 try simp only [aw]
 repeat' (first
  | (refine aZ c (_,()) rfl ?_; refine ak ?_)
  | (refine aJ (cQ _ _ _) ?_)
  | (refine aJ (ct _ _ _) ?_)
  | (refine ao (λq=>?_) (λq=>?_)))
 all_goals (refine ⟨?_,e1⟩; first | (simp_all [nR,dz]; done) | (simp_all [nR,dz] <;> omega))
def Qr (h:Hp) (op a b n form:Int):HC Xaz 137 #[dF op a b n form,vI 6] h λw h'=>w=.bool (cS 6 a b n)/\Ext h h':=by
 refine aX (args:=[dF op a b n form,vI 6]) mixed Tryz.func137 av (rU op a b n form) ?_;unfold mW bj cC;refine bn ?_;intro d c e1 z1
 try simp only [aw]
 repeat' (first
  | (refine aZ c (_,()) rfl ?_; refine ak ?_)
  | (refine aJ (cQ _ _ _) ?_)
  | (refine aJ (ct _ _ _) ?_)
  | (refine ao (λq=>?_) (λq=>?_)))
 all_goals (refine ⟨?_,e1⟩; first | (simp_all [cS,dz]; done) | (simp_all [cS,dz] <;> simp [x5] <;> omega))
def T7 (h:Hp) (op a b n form:Int):HC Xaz 138 #[dF op a b n form,vI 6] h λw h'=>w=.bool (nR 6 n form)/\Ext h h':=by
 refine aX (args:=[dF op a b n form,vI 6]) mixed Tryz.func138 av (wh op a b n form) ?_;unfold rM;refine bn ?_;intro d c e1 z1
 try simp only [aw]
 repeat' (first
  | (refine aZ c (_,()) rfl ?_; refine ak ?_)
  | (refine aJ (cQ _ _ _) ?_)
  | (refine aJ (ct _ _ _) ?_)
  | (refine ao (λq=>?_) (λq=>?_)))
 all_goals (refine ⟨?_,e1⟩; first | (simp_all [nR,dz]; done) | (simp_all [nR,dz] <;> omega))
def O9 (h:Hp) (op a b n form:Int):HC Xaz 137 #[dF op a b n form,vI 7] h λw h'=>w=.bool (cS 7 a b n)/\Ext h h':=by
 refine aX (args:=[dF op a b n form,vI 7]) mixed Tryz.func137 av (sf op a b n form) ?_;unfold mM bj cC;refine bn ?_;intro d c e1 z1
 try simp only [aw]
 repeat' (first
  | (refine aZ c (_,()) rfl ?_; refine ak ?_)
  | (refine aJ (cQ _ _ _) ?_)
  | (refine aJ (ct _ _ _) ?_)
  | (refine ao (λq=>?_) (λq=>?_)))
 all_goals (refine ⟨?_,e1⟩; first | (simp_all [cS,dz]; done) | (simp_all [cS,dz] <;> simp [x5] <;> omega))
def Vj (h:Hp) (op a b n form:Int):HC Xaz 138 #[dF op a b n form,vI 7] h λw h'=>w=.bool (nR 7 n form)/\Ext h h':=by
 refine aX (args:=[dF op a b n form,vI 7]) mixed Tryz.func138 av (wm op a b n form) ?_;unfold rQ;refine bn ?_;intro d c e1 z1
 try simp only [aw]
 repeat' (first
  | (refine aZ c (_,()) rfl ?_; refine ak ?_)
  | (refine aJ (cQ _ _ _) ?_)
  | (refine aJ (ct _ _ _) ?_)
  | (refine ao (λq=>?_) (λq=>?_)))
 all_goals (refine ⟨?_,e1⟩; first | (simp_all [nR,dz]; done) | (simp_all [nR,dz] <;> omega))
def P4 (h:Hp) (op a b n form:Int):HC Xaz 137 #[dF op a b n form,vI 8] h λw h'=>w=.bool (cS 8 a b n)/\Ext h h':=by
 refine aX (args:=[dF op a b n form,vI 8]) mixed Tryz.func137 av (sA op a b n form) ?_;unfold mT;refine bn ?_;intro d c e1 z1
 try simp only [aw]
 repeat' (first
  | (refine aZ c (_,()) rfl ?_; refine ak ?_)
  | (refine aJ (cQ _ _ _) ?_)
  | (refine aJ (ct _ _ _) ?_)
  | (refine ao (λq=>?_) (λq=>?_)))
 all_goals (refine ⟨?_,e1⟩; first | (simp_all [cS,dz]; done) | (simp_all [cS,dz] <;> simp [x5] <;> omega))
def U5 (h:Hp) (op a b n form:Int):HC Xaz 138 #[dF op a b n form,vI 8] h λw h'=>w=.bool (nR 8 n form)/\Ext h h':=by
 refine aX (args:=[dF op a b n form,vI 8]) mixed Tryz.func138 av (vX op a b n form) ?_;unfold rO bj;refine bn ?_;intro d c e1 z1
 try simp only [aw]
 repeat' (first
  | (refine aZ c (_,()) rfl ?_; refine ak ?_)
  | (refine aJ (cQ _ _ _) ?_)
  | (refine aJ (ct _ _ _) ?_)
  | (refine ao (λq=>?_) (λq=>?_)))
 all_goals (refine ⟨?_,e1⟩; first | (simp_all [nR,dz]; done) | (simp_all [nR,dz] <;> omega))
def Sk (h:Hp) (op a b n form:Int):HC Xaz 137 #[dF op a b n form,vI 9] h λw h'=>w=.bool (cS 9 a b n)/\Ext h h':=by
 refine aX (args:=[dF op a b n form,vI 9]) mixed Tryz.func137 av (rT op a b n form) ?_;unfold nj;refine bn ?_;intro d c e1 z1
 try simp only [aw]
 repeat' (first
  | (refine aZ c (_,()) rfl ?_; refine ak ?_)
  | (refine aJ (cQ _ _ _) ?_)
  | (refine aJ (ct _ _ _) ?_)
  | (refine ao (λq=>?_) (λq=>?_)))
 all_goals (refine ⟨?_,e1⟩; first | (simp_all [cS,dz]; done) | (simp_all [cS,dz] <;> simp [x5] <;> omega))
def TT (h:Hp) (op a b n form:Int):HC Xaz 138 #[dF op a b n form,vI 9] h λw h'=>w=.bool (nR 9 n form)/\Ext h h':=by
 refine aX (args:=[dF op a b n form,vI 9]) mixed Tryz.func138 av (vF op a b n form) ?_;unfold rD cC;refine bn ?_;intro d c e1 z1
 try simp only [aw]
 repeat' (first
  | (refine aZ c (_,()) rfl ?_; refine ak ?_)
  | (refine aJ (cQ _ _ _) ?_)
  | (refine aJ (ct _ _ _) ?_)
  | (refine ao (λq=>?_) (λq=>?_)))
 all_goals (refine ⟨?_,e1⟩; first | (simp_all [nR,dz]; done) | (simp_all [nR,dz] <;> omega))
def NM (h:Hp) (op a b n form:Int):HC Xaz 137 #[dF op a b n form,vI 10] h λw h'=>w=.bool (cS 10 a b n)/\Ext h h':=by
 refine aX (args:=[dF op a b n form,vI 10]) mixed Tryz.func137 av (rj op a b n form) ?_;unfold lO;refine bn ?_;intro d c e1 z1
 try simp only [aw]
 repeat' (first
  | (refine aZ c (_,()) rfl ?_; refine ak ?_)
  | (refine aJ (cQ _ _ _) ?_)
  | (refine aJ (ct _ _ _) ?_)
  | (refine ao (λq=>?_) (λq=>?_)))
 all_goals (refine ⟨?_,e1⟩; first | (simp_all [cS,dz]; done) | (simp_all [cS,dz] <;> simp [x5] <;> omega))
def QH (h:Hp) (op a b n form:Int):HC Xaz 138 #[dF op a b n form,vI 10] h λw h'=>w=.bool (nR 10 n form)/\Ext h h':=by
 refine aX (args:=[dF op a b n form,vI 10]) mixed Tryz.func138 av (uM op a b n form) ?_;unfold pV;refine bn ?_;intro d c e1 z1
 try simp only [aw]
 repeat' (first
  | (refine aZ c (_,()) rfl ?_; refine ak ?_)
  | (refine aJ (cQ _ _ _) ?_)
  | (refine aJ (ct _ _ _) ?_)
  | (refine ao (λq=>?_) (λq=>?_)))
 all_goals (refine ⟨?_,e1⟩; first | (simp_all [nR,dz]; done) | (simp_all [nR,dz] <;> omega))
def Mx (h:Hp) (op a b n form:Int):HC Xaz 137 #[dF op a b n form,vI 11] h λw h'=>w=.bool (cS 11 a b n)/\Ext h h':=by
 refine aX (args:=[dF op a b n form,vI 11]) mixed Tryz.func137 av (qK op a b n form) ?_;unfold lS;refine bn ?_;intro d c e1 z1
 try simp only [aw]
 repeat' (first
  | (refine aZ c (_,()) rfl ?_; refine ak ?_)
  | (refine aJ (cQ _ _ _) ?_)
  | (refine aJ (ct _ _ _) ?_)
  | (refine ao (λq=>?_) (λq=>?_)))
 all_goals (refine ⟨?_,e1⟩; first | (simp_all [cS,dz]; done) | (simp_all [cS,dz] <;> simp [x5] <;> omega))
def Oj (h:Hp) (op a b n form:Int):HC Xaz 138 #[dF op a b n form,vI 11] h λw h'=>w=.bool (nR 11 n form)/\Ext h h':=by
 refine aX (args:=[dF op a b n form,vI 11]) mixed Tryz.func138 av (uH op a b n form) ?_;unfold qb cC;refine bn ?_;intro d c e1 z1
 try simp only [aw]
 repeat' (first
  | (refine aZ c (_,()) rfl ?_; refine ak ?_)
  | (refine aJ (cQ _ _ _) ?_)
  | (refine aJ (ct _ _ _) ?_)
  | (refine ao (λq=>?_) (λq=>?_)))
 all_goals (refine ⟨?_,e1⟩; first | (simp_all [nR,dz]; done) | (simp_all [nR,dz] <;> omega))
def MX (h:Hp) (op a b n form:Int):HC Xaz 137 #[dF op a b n form,vI 12] h λw h'=>w=.bool (cS 12 a b n)/\Ext h h':=by
 refine aX (args:=[dF op a b n form,vI 12]) mixed Tryz.func137 av (qx op a b n form) ?_;unfold lR;refine bn ?_;intro d c e1 z1
 try simp only [aw]
 repeat' (first
  | (refine aZ c (_,()) rfl ?_; refine ak ?_)
  | (refine aJ (cQ _ _ _) ?_)
  | (refine aJ (ct _ _ _) ?_)
  | (refine ao (λq=>?_) (λq=>?_)))
 all_goals (refine ⟨?_,e1⟩; first | (simp_all [cS,dz]; done) | (simp_all [cS,dz] <;> simp [x5] <;> omega))
def Sd (h:Hp) (op a b n form:Int):HC Xaz 138 #[dF op a b n form,vI 12] h λw h'=>w=.bool (nR 12 n form)/\Ext h h':=by
 refine aX (args:=[dF op a b n form,vI 12]) mixed Tryz.func138 av (uD op a b n form) ?_;unfold pI bj;refine bn ?_;intro d c e1 z1
 try simp only [aw]
 repeat' (first
  | (refine aZ c (_,()) rfl ?_; refine ak ?_)
  | (refine aJ (cQ _ _ _) ?_)
  | (refine aJ (ct _ _ _) ?_)
  | (refine ao (λq=>?_) (λq=>?_)))
 all_goals (refine ⟨?_,e1⟩; first | (simp_all [nR,dz]; done) | (simp_all [nR,dz] <;> omega))
def MY (h:Hp) (op a b n form:Int):HC Xaz 137 #[dF op a b n form,vI 13] h λw h'=>w=.bool (cS 13 a b n)/\Ext h h':=by
 refine aX (args:=[dF op a b n form,vI 13]) mixed Tryz.func137 av (qR op a b n form) ?_;unfold mh;refine bn ?_;intro d c e1 z1
 try simp only [aw]
 repeat' (first
  | (refine aZ c (_,()) rfl ?_; refine ak ?_)
  | (refine aJ (cQ _ _ _) ?_)
  | (refine aJ (ct _ _ _) ?_)
  | (refine ao (λq=>?_) (λq=>?_)))
 all_goals (refine ⟨?_,e1⟩; first | (simp_all [cS,dz]; done) | (simp_all [cS,dz] <;> simp [x5] <;> omega))
def QV (h:Hp) (op a b n form:Int):HC Xaz 138 #[dF op a b n form,vI 13] h λw h'=>w=.bool (nR 13 n form)/\Ext h h':=by
 refine aX (args:=[dF op a b n form,vI 13]) mixed Tryz.func138 av (uE op a b n form) ?_;unfold pe bj;refine bn ?_;intro d c e1 z1
 try simp only [aw]
 repeat' (first
  | (refine aZ c (_,()) rfl ?_; refine ak ?_)
  | (refine aJ (cQ _ _ _) ?_)
  | (refine aJ (ct _ _ _) ?_)
  | (refine ao (λq=>?_) (λq=>?_)))
 all_goals (refine ⟨?_,e1⟩; first | (simp_all [nR,dz]; done) | (simp_all [nR,dz] <;> omega))
def F4 (h:Hp) (op a b n form:Int) {s:Nat} (h1:1<=s) (h2:s<=13):HC Xaz 137 #[dF op a b n form,vI s] h λw h'=>w=.bool (cS s a b n)/\Ext h h':=by
 have c:s=1\/s=2\/s=3\/s=4\/s=5\/s=6\/s=7\/s=8\/s=9\/s=10\/s=11\/s=12\/s=13:=ad
 clear h1 h2;rcases c with rfl | rfl | rfl | rfl | rfl | rfl | rfl | rfl | rfl | rfl | rfl | rfl | rfl
 ·exact Rr h op a b n form
 ·exact Ru h op a b n form
 ·exact QL h op a b n form
 ·exact R7 h op a b n form
 ·exact QD h op a b n form
 ·exact Qr h op a b n form
 ·exact O9 h op a b n form
 ·exact P4 h op a b n form
 ·exact Sk h op a b n form
 ·exact NM h op a b n form
 ·exact Mx h op a b n form
 ·exact MX h op a b n form
 ·exact MY h op a b n form
def DY (h:Hp) (op a b n form:Int) {s:Nat} (h1:1<=s) (h2:s<=13):HC Xaz 138 #[dF op a b n form,vI s] h λw h'=>w=.bool (nR s n form)/\Ext h h':=by
 have c:s=1\/s=2\/s=3\/s=4\/s=5\/s=6\/s=7\/s=8\/s=9\/s=10\/s=11\/s=12\/s=13:=ad
 clear h1 h2;rcases c with rfl | rfl | rfl | rfl | rfl | rfl | rfl | rfl | rfl | rfl | rfl | rfl | rfl
 ·exact UM h op a b n form
 ·exact UO h op a b n form
 ·exact S0 h op a b n form
 ·exact Uc h op a b n form
 ·exact Tx h op a b n form
 ·exact T7 h op a b n form
 ·exact Vj h op a b n form
 ·exact U5 h op a b n form
 ·exact TT h op a b n form
 ·exact QH h op a b n form
 ·exact Oj h op a b n form
 ·exact Sd h op a b n form
 ·exact QV h op a b n form
def Sm (n:Int):Prop:=-9223372036854775808<=n/\n<=9223372036854775807
def Hy {h:Hp} (t:zY h) (op a b n form:Int) (d:Sm op) :
  HC Xaz 111 #[dF op a b n form] h λw h'=>w=vI (iF ⟨op,a,b,n,form⟩)/\Ext h h':=by
 refine aX (args:=[dF op a b n form]) mixed Tryz.func111 av (BL op a b n form) ?_;unfold zL bj cv bZ cH;refine bn ?_;intro u b1 e1 z1;refine ay b1 (op,()) (ak ?_);refine aG (LN (t.aj e1 ai) op d.1 d.2) ?_;rintro _ l ⟨s,y,rfl,e2⟩;refine ⟨(s,y,((dA op:Nat):Int),decide (dA op≠0),()),rfl,ak ?_⟩;refine bn ?_;intro x m g z3;refine bJ m ?_;intro i b4 j z4;have b4:br i l.size 171 [.string s,.int .u8 y,vI (dA op:Nat)]:=b4;have e4:=((e1.trans e2).trans g).st j (by have:=e1.size; have:=e2.size; omega);have b1:=b1.aj ((e2.trans g).st j (by have:=e2.size; omega)) ai;unfold iF;simp only [aw];refine ao ?_ ?_<;>intro q
 ·have q:dA op=0:=by simpa using q
  exact ⟨by rw [ag9 q],e4⟩
 have q:¬ dA op=0:=by simpa using q
 rw [ac9 q];refine ay b1 (op,a,b,n,form,()) (ak ?_);refine ay b4 (((dA op:Nat):Int),()) (ak ?_);have hs:=jb op;refine aG (F4 i op a b n form (s:=dA op) ad ad) ?_;rintro _ z ⟨rfl,e⟩;refine ⟨(cS (dA op) a b n,()),rfl,ak ?_⟩;have e45:=e4.trans e;refine ao ?_ ?_<;>intro q
 ·have q:cS (dA op) a b n=false:=by simpa using q
  exact ⟨by rw [ag9 q],e45⟩
 have q:cS (dA op) a b n=true:=by simpa using q
 rw [ac9 (by rw [q]; simp)];have b1:=b1.aj e ai;have b4:=b4.aj e ai;refine ay b1 (op,()) (ak ?_);refine aG (HE (t.aj e45 ai) op d.1 d.2) ?_;rintro _ k ⟨rfl,f⟩;refine ⟨(uB op,()),rfl,ak ?_⟩;have e46:=e45.trans f;have b1:=b1.aj f ai;have b4:=b4.aj f ai;refine ao ?_ ?_<;>intro q
 ·have q:uB op=false:=by simpa using q
  refine ay b1 (form,()) (ak ?_);refine ao ?_ ?_<;>intro r
  ·have r:¬ form=0:=by simpa using r
   exact ⟨by rw [q]; simp [r],e46⟩
  have r:form=0:=by simpa using r
  refine ay b1 (op,a,b,n,form,()) (ak ?_);refine ay b4 (((dA op:Nat):Int),()) (ak ?_);refine aG (DY k op a b n form (s:=dA op) ad ad) ?_;rintro _ o ⟨rfl,c⟩;refine ⟨(nR (dA op) n form,()),rfl,ak ?_⟩;refine ao ?_ ?_<;>intro p
  ·exact ⟨by rw [q]; simp_all,e46.trans c⟩
  ·exact ⟨by rw [q]; simp_all,e46.trans c⟩
 ·have q:uB op=true:=by simpa using q
  refine ay b1 (op,a,b,n,form,()) (ak ?_);refine ay b4 (((dA op:Nat):Int),()) (ak ?_);refine aG (DY k op a b n form (s:=dA op) ad ad) ?_;rintro _ o ⟨rfl,c⟩;refine ⟨(nR (dA op) n form,()),rfl,ak ?_⟩;refine ao ?_ ?_<;>intro p
  ·exact ⟨by rw [q]; simp_all,e46.trans c⟩
  ·exact ⟨by rw [q]; simp_all,e46.trans c⟩
def encI (p:Xac) (l c:Nat) (x:cB):List Xab:=[vI x.kind,.string x.name,vI x.inst.op,vI x.inst.a,vI x.inst.b,.int .i32 x.inst.n,vI x.inst.form,.slice p l c,.int .u32 x.e.num,vI x.n]
def xx (p:Xac) (l c:Nat) (x:cB):Xab:=.agg (encI p l c x).toArray
structure nL (h:Hp) (p:Xac) (l:Nat) (x:bK):Prop where
 vw:iA h p l x.af
 many:x.af.length<=2^60
 names:∀ t,t∈x.af->t.1.size<=maxLen
def nL.aj {h:Hp} {p:Xac} {l:Nat} {x:bK} (v:nL h p l x) (k:Ext h h'):nL h' p l x:=⟨v.vw.aj k ai,v.many,v.names⟩
def iA.none (h:Hp):iA h none 0 []:=⟨rfl,λi hi=>absurd hi ai⟩
def tD (x:bK):jO x Hw=SQ x:=by
 unfold jO SQ Hw;rw [Bool.and_comm]
def K1 (g k:Nat):T:=lC ⟨g,0,none⟩ ⟨k,0,none⟩
def OP (g k:Nat):T:=pd ⟨k,0,none⟩ ⟨g,0,none⟩
def qa (i:Ins):List Xab:=[vI i.op,vI i.a,vI i.b,.int .i32 i.n,vI i.form]
variable {O:cB} {H Y:Xac} {V:Ins}
def Hr {L:Lp} {h0 h:Hp} (t:zY h) {l c g k:Nat} (d:br h g e1 (encI H l c O)) (f:br h k e2 (qa V)) (v:nL h H l O.e) (j:Sm V.op) (e:Ext h0 h) :
  K1 g k L (λw h'=>w=.bool (decide (O.inst.n=0) && decide (iF V=0) && oW none O.e.af)/\Ext h0 h') h:=by
 unfold K1 lC bj cY aE cC;simp only [aw];refine ay d (O.inst.n,()) (ak ?_);refine ao ?_ ?_<;>intro q
 ·have q:O.inst.n=0:=by simpa using q
  refine ay f (V.op,V.a,V.b,V.n,V.form,()) (ak ?_);refine aG (Hy t V.op V.a V.b V.n V.form j) ?_;rintro _ o ⟨rfl,e2⟩;refine ⟨(iF V,()),rfl,ak ?_⟩;refine ao ?_ ?_<;>intro r
  ·have r:iF V=0:=by simpa using r
   refine ay (d.aj e2 ai) ((H,l,c),(O.e.num:Int),()) (ak ?_);refine aG (vT (c:=c) (v.aj e2).vw (by have:=v.many; omega) v.names) ?_;rintro _ s ⟨rfl,m⟩;refine ⟨(oW none O.e.af,()),rfl,?_⟩;exact ⟨by rw [ak9 q,ak9 r]; rfl,(e.trans e2).trans m⟩
  ·have r:¬ iF V=0:=by simpa using r
   exact ⟨by rw [al9 r,fe9]; rfl,e.trans e2⟩
 ·have q:¬ O.inst.n=0:=by simpa using q
  exact ⟨by rw [al9 q]; rfl,e⟩
def OQ {L:Lp} {h0 h:Hp} (t:zY h) {l c g k:Nat} (f:br h g e1 (encI H l c O)) (j:br h k e2 (qa V)) (v:nL h H l O.e) (m:Sm V.op) (e:Ext h0 h) :
  OP g k L (λw h'=>w=.bool (decide (iF V=0) && SQ O.e)/\Ext h0 h') h:=by
 unfold OP pd bj cY aE cC bm;simp only [aw];refine ay j (V.op,V.a,V.b,V.n,V.form,()) (ak ?_);refine aG (Hy t V.op V.a V.b V.n V.form m) ?_;rintro _ o ⟨rfl,e2⟩;refine ⟨(iF V,()),rfl,ak ?_⟩;refine ao ?_ ?_<;>intro r
 ·have r:iF V=0:=by simpa using r
  refine ay (f.aj e2 ai) ((H,l,c),(O.e.num:Int),()) (ak ?_);refine aG (Di (c:=c) (d:=0) (y:=Hw) (v.aj e2).vw (iA.none o) v.many) ?_;rintro _ s ⟨rfl,q⟩;refine ⟨(jO O.e Hw,()),rfl,?_⟩;exact ⟨by rw [ak9 r,tD]; rfl,(e.trans e2).trans q⟩
 ·have r:¬ iF V=0:=by simpa using r
  exact ⟨by rw [al9 r]; rfl,e.trans e2⟩
def instruction_hc {h:Hp} (t:zY h) {l c:Nat} (v:nL h H l O.e) (m:Sm O.inst.op) :
  HC Xaz 80 #[xx H l c O] h λw h'=>w=.bool (AZ O.inst O.e)/\Ext h h':=by
 refine aX (args:=[xx H l c O]) mixed Tryz.func80 av (rY O.kind O.name O.inst.op O.inst.a O.inst.b O.inst.n O.inst.form H l c O.e.num O.n) ?_;unfold nE cv aE cC bZ cH;refine bn ?_;intro I b1 e1 z1;have b1:br I h.size 55 (encI H l c O):=b1;simp only [aw];refine ay b1 (O.inst.op,()) (ak ?_);refine aG (LN (t.aj e1 ai) O.inst.op m.1 m.2) ?_;rintro _ J ⟨s,y,rfl,e2⟩;refine ⟨(s,y,((dA O.inst.op:Nat):Int),decide (dA O.inst.op≠0),()),rfl,ak ?_⟩;refine bn ?_;intro W K M z3;refine bJ K ?_;intro g b4 N z4;have b4:br g J.size 171 [.string s,.int .u8 y,vI (dA O.inst.op:Nat)]:=b4;have s1:=e1.size;have s2:=e2.size;have e14:=(e2.trans M).st N ad;have e4:=e1.trans e14;have b1:=b1.aj e14 ai;unfold AZ;refine ao ?_ ?_<;>intro q
 ·have q:dA O.inst.op=0:=by simpa using q
  exact ⟨by rw [q]; rfl,e4⟩
 have q:dA O.inst.op≠0:=by simpa using q
 rw [ak9 q,bl9];refine ay b1 (O.inst.form,()) (ak ?_);refine ao ?_ ?_<;>intro r
 ·have r:¬ O.inst.form=0:=by simpa using r
  exact ⟨by rw [al9 r]; rfl,e4⟩
 have r:O.inst.form=0:=by simpa using r
 rw [ak9 r,bl9];refine ay b1 (O.inst.op,O.inst.a,O.inst.b,O.inst.n,O.inst.form,()) (ak ?_);refine bn ?_;intro X P Q Y;refine bJ P ?_;intro g6 o R Z;have o:br g6 g.size 49 (qa O.inst):=o;have e46:=Q.st R ad;have e6:=e4.trans e46;have b1:=b1.aj e46 ai;have b4:=b4.aj e46 ai;simp only [aw];have hs:=jb O.inst.op;refine ay b4 (((dA O.inst.op:Nat):Int),()) (ak ?_);generalize i:(if Iw O.inst.op=true then decide (O.inst.n=0) && decide (iF { O.inst with form:=if uB O.inst.op=true then 1 else 0 }=0) && oW none O.e.af else decide (iF O.inst=0) && SQ O.e)=B;have S:{ O.inst with form:=0 }=O.inst:=by
  rcases U:O.inst with ⟨a1,a2,a3,a4,a5⟩
  rw [U] at r;simp only at r;rw [r]
 have E:12<=dA O.inst.op->T.aD ⟨g.size,4,none⟩ [vI 1] (K1 h.size g.size) [] (λw h'=>w=.bool B/\Ext h h') g6:=by
  intro z;refine cG o rfl (by simp [qa]) ?_;intro g7 A F z7;have A:br g7 g.size 49 (qa { O.inst with form:=1 }):=A;have C:Ext g g7:=e46.st F ad;have e7:=e4.trans C;have u:Iw O.inst.op=true:=ak9 ad;have D:uB O.inst.op=true:=ak9 z;rw [ag9 u,ag9 D] at i
  have:=Hr (L:=[]) (h0:=h) (t.aj e7 ai) (b1.aj F (by simp; omega)) A (v.aj e7) m e7
  rw [i] at this;exact this
 have G:dA O.inst.op=10\/dA O.inst.op=11->K1 h.size g.size [] (λw h'=>w=.bool B/\Ext h h') g6:=by
  intro z;have u:Iw O.inst.op=true:=ak9 ad;have D:¬ uB O.inst.op=true:=by unfold uB; rw [al9 ad]; simp
  rw [ag9 u,ac9 D,S] at i
  have:=Hr (L:=[]) (h0:=h) (t.aj e6 ai) b1 o (v.aj e6) m e6
  rw [i] at this;exact this
 have V:dA O.inst.op<10->OP h.size g.size [] (λw h'=>w=.bool B/\Ext h h') g6:=by
  intro z;have u:¬ Iw O.inst.op=true:=by unfold Iw; rw [al9 ad]; simp
  rw [ac9 u] at i
  have:=OQ (L:=[]) (h0:=h) (t.aj e6 ai) b1 o (v.aj e6) m e6
  rw [i] at this;exact this
 clear i;refine ao ?_ ?_<;>intro j
 ·have j:((dA O.inst.op:Nat):Int)=12:=by simpa using j
  refine ao (λd=>E ad) (λd=>?_);have d:¬ ((dA O.inst.op:Nat):Int)=12:=by simpa using d
  exact absurd j d
 have j:¬ ((dA O.inst.op:Nat):Int)=12:=by simpa using j
 refine ao ?_ ?_<;>intro d
 ·have d:((dA O.inst.op:Nat):Int)=13:=by simpa using d
  exact E ad
 have d:¬ ((dA O.inst.op:Nat):Int)=13:=by simpa using d
 refine ao ?_ ?_<;>intro k
 ·have k:((dA O.inst.op:Nat):Int)=10:=by simpa using k
  refine ao (λd=>G ad) (λf=>?_);have f:¬ ((dA O.inst.op:Nat):Int)=10:=by simpa using f
  exact absurd k f
 have k:¬ ((dA O.inst.op:Nat):Int)=10:=by simpa using k
 refine ao ?_ ?_<;>intro f
 ·have f:((dA O.inst.op:Nat):Int)=11:=by simpa using f
  exact G ad
 have f:¬ ((dA O.inst.op:Nat):Int)=11:=by simpa using f
 exact V ad
structure jj (h:Hp) (p:Xac) (l:Nat) (x:cB):Prop where
 lin:nL h p l x.e
 name:x.name.size<=maxLen
 op:Sm x.inst.op
def jj.aj {h:Hp} {p:Xac} {l:Nat} {x:cB} (v:jj h p l x) (k:Ext h h'):jj h' p l x:=⟨v.lin.aj k,v.name,v.op⟩
def ma (x y:cB):Bool:=decide (x.name=y.name) && decide (x.inst=y.inst) && decide (x.n=y.n) && jO x.e y.e
def V1:Tryz.prog.underlying 49=some (.struct (wJ Xaz 49)):=av
def W2 (x y:Operand) (i j:Ins) (h:Hp) (K:Xab->Hp->Prop) (hk:K (.bool !(decide (i=j))) h) :
  aQ Xaz (Sx.vr (BinOp.neq) 49 x y (.agg (qa i).toArray) (.agg (qa j).toArray)) h K:=by
 refine AS V1 av av av K ?_;have c:(wJ Xaz 49).all (IB (qa i).toArray (qa j).toArray)=(i.op==j.op && (i.a==j.a && (i.b==j.b && (i.n==j.n && (i.form==j.form && true))))):=by
  rw [<- df9]
  kernel_rfl
 rw [c,di9]
 have:(i.op==j.op && (i.a==j.a && (i.b==j.b && (i.n==j.n && i.form==j.form))))=decide (i=j):=by
  rcases i with ⟨d,e,f,g,k⟩
  rcases j with ⟨l,m,c3,o,c5⟩
  simp only [dz,Ins.mk.injEq]
  by_cases h1:d=l <;> by_cases h2:e=m <;> by_cases p:f=c3 <;> by_cases q:g=o <;> by_cases r:k=c5 <;> simp [h1,h2,p,q,r]
 rw [this];exact hk
def rtT (g k:Nat):T:=gW ⟨g,0,none⟩ ⟨k,0,none⟩
def FL (b:Bool):Xab:=vI (if b then 0 else 31)
def qL {L:Lp} {h0 h:Hp} {y:cB} {l c m d g k:Nat} (f:br h g e1 (encI H l c O)) (i:br h k e2 (encI Y m d y)) (v:nL h H l O.e) (w:iA h Y m y.e.af) (e:Ext h0 h) :
  rtT g k L (λw h'=>w=FL (ma O y)/\Ext h0 h') h:=by
 unfold rtT gW ma bj ja aE;simp only [aw];refine ay f (O.name,()) (ak ?_);refine ay i (y.name,()) (ak ?_);rw [ByteArray.toList_eq,ByteArray.toList_eq];refine ao ?_ ?_<;>intro r
 ·have r:¬ O.name=y.name:=λo=>by rw [o] at r; simp at r
  exact ⟨by rw [al9 r]; rfl,e⟩
 have r:O.name=y.name:=AX (by simpa using r);rw [ak9 r,bl9];refine ay f (O.inst.op,O.inst.a,O.inst.b,O.inst.n,O.inst.form,()) (ak ?_);refine ay i (y.inst.op,y.inst.a,y.inst.b,y.inst.n,y.inst.form,()) (ak ?_);refine pL (λs t=>W2 _ _ O.inst y.inst h s t) ?_;refine ao ?_ ?_<;>intro r
 ·have r:¬ O.inst=y.inst:=by simpa using r
  exact ⟨by rw [al9 r]; rfl,e⟩
 have r:O.inst=y.inst:=by simpa using r
 rw [ak9 r,bl9];refine ay f (O.n,()) (ak ?_);refine ay i (y.n,()) (ak ?_);refine ao ?_ ?_<;>intro r
 ·have r:¬ O.n=y.n:=by simpa using r
  exact ⟨by rw [al9 r]; rfl,e⟩
 have r:O.n=y.n:=by simpa using r
 rw [ak9 r,bl9];refine ay f ((H,l,c),(O.e.num:Int),()) (ak ?_);refine ay i ((Y,m,d),(y.e.num:Int),()) (ak ?_);refine aG (Di (c:=c) (d:=d) v.vw w v.many) ?_;rintro _ u ⟨rfl,j⟩;refine ⟨(jO O.e y.e,()),rfl,ak ?_⟩;refine ao ?_ ?_<;>intro r
 ·have r:jO O.e y.e=false:=by simpa using r
  exact ⟨by rw [r]; rfl,e.trans j⟩
 ·have r:jO O.e y.e=true:=by simpa using r
  exact ⟨by rw [r]; rfl,e.trans j⟩
def wj (x:bK):jO x x=true:=yf x
def Fm (hk:O.kind=1):cI O sec=(cD O.name.data.toList && ma O { fG O.kind with name:=O.name }):=by
 unfold cI ma;simp only [hk,fG,wj,tD,z1,z2,z3,z4];simp (decide:=true) only [if_true,if_false,ga9,bl9,di9]
 try simp only [Bool.and_assoc,Bool.and_comm,Bool.and_left_comm]
def Rj (hk:O.kind=2):cI O sec=(decide (sec=0) && AZ O.inst O.e && ma O { fG O.kind with inst:=O.inst,e:=O.e }):=by
 unfold cI ma;simp only [hk,fG,wj,tD,z1,z2,z3,z4];simp (decide:=true) only [if_true,if_false,ga9,bl9,di9]
 try simp only [Bool.and_assoc,Bool.and_comm,Bool.and_left_comm]
def PJ (hk:O.kind=3):cI O sec=(wv O.n && ma O { fG O.kind with n:=O.n }):=by
 unfold cI ma;simp only [hk,fG,wj,tD,z1,z2,z3,z4];simp (decide:=true) only [if_true,if_false,ga9,bl9,di9]
 try simp only [Bool.and_assoc,Bool.and_comm,Bool.and_left_comm]
def Rt (hk:O.kind=4):cI O sec=(decide (sec=0) && ma O (fG O.kind)):=by
 unfold cI ma;simp only [hk,fG,wj,tD,z1,z2,z3,z4];simp (decide:=true) only [if_true,if_false,ga9,bl9,di9]
 try simp only [Bool.and_assoc,Bool.and_comm,Bool.and_left_comm]
def Qe (hk:O.kind=5):cI O sec=(decide (sec=1) && decide (-128<=O.n) && decide (O.n<=255) && ma O { fG O.kind with n:=O.n }):=by
 unfold cI ma;simp only [hk,fG,wj,tD,z1,z2,z3,z4];simp (decide:=true) only [if_true,if_false,ga9,bl9,di9]
 try simp only [Bool.and_assoc,Bool.and_comm,Bool.and_left_comm]
def Oa (hk:O.kind=6):cI O sec=(decide (sec=1) && oW none O.e.af && ma O { fG O.kind with e:=O.e }):=by
 unfold cI ma;simp only [hk,fG,wj,tD,z1,z2,z3,z4];simp (decide:=true) only [if_true,if_false,ga9,bl9,di9]
 try simp only [Bool.and_assoc,Bool.and_comm,Bool.and_left_comm]
def Rn (hk:O.kind=7):cI O sec=(decide (sec=1) && decide (0<=O.n) && decide (O.n<=1048576) && ma O { fG O.kind with n:=O.n }):=by
 unfold cI ma;simp only [hk,fG,wj,tD,z1,z2,z3,z4];simp (decide:=true) only [if_true,if_false,ga9,bl9,di9]
 try simp only [Bool.and_assoc,Bool.and_comm,Bool.and_left_comm]
def KF (h1:O.kind≠1) (h2:O.kind≠2) (a:O.kind≠3) (b:O.kind≠4) (c:O.kind≠5) (d:O.kind≠6) (e:O.kind≠7):cI O sec=false:=by
 unfold cI;rw [ac9 h1,ac9 h2,ac9 a,ac9 b,ac9 c,ac9 d,ac9 e]
def RR {h:Hp} (t:zY h) {l c:Nat} (v:jj h H l O) :
  HC Xaz 54 #[xx H l c O,vI 0] h λw h'=>w=FL (cI O 0)/\Ext h h':=by
 refine aX (args:=[xx H l c O,vI 0]) mixed Tryz.func54 av (vR O.kind O.name O.inst.op O.inst.a O.inst.b O.inst.n O.inst.form H l c O.e.num O.n) ?_;unfold rH bj aE bm bZ;refine bn ?_;intro j b1 e1 z1;have b1:br j h.size 55 (encI H l c O):=b1;refine ay b1 (O.kind,()) (ak ?_);refine bn ?_;intro I s e2 z2;refine bJ s ?_;intro m i u z3;have i:br m j.size 55 (encI none 0 0 (fG O.kind)):=i;have s1:=e1.size;have e13:=e2.st u (am9 _);have e3:=e1.trans e13;have b1:=b1.aj e13 ai;simp only [aw];refine ay b1 (O.kind,()) (ak ?_);refine ao ?_ ?_<;>intro q
 ·have q:O.kind=1:=by simpa using q
  rw [Fm q];refine ay b1 (O.name,()) (ak ?_);refine cG i rfl (by simp [encI]) ?_;intro g d f z4;have d:br g j.size 55 (encI none 0 0 { fG O.kind with name:=O.name }):=d;have e4:=e3.st f ad;have b1:=b1.aj f (by simp; omega);refine ay b1 (O.name,()) (ak ?_);refine aJ (wI O.name g (by have:=v.name; have:maxLen=9223372036854775807:=rfl; omega)) ?_;refine ao ?_ ?_<;>intro r
  ·have r:cD O.name.data.toList=false:=by simpa using r
   exact ⟨by rw [r]; rfl,e4⟩
  have r:cD O.name.data.toList=true:=by simpa using r
  rw [r,bl9];have hh:=qL (L:=[]) (h0:=h) (y:={ fG O.kind with name:=O.name }) b1 d (v.lin.aj e4) (iA.none g) e4;exact hh
 have z:O.kind≠1:=by simpa using q
 refine ao ?_ ?_<;>intro q
 ·have q:O.kind=2:=by simpa using q
  rw [Rj q];refine ay b1 (O.inst.op,O.inst.a,O.inst.b,O.inst.n,O.inst.form,()) (ak ?_);refine ay b1 ((H,l,c),(O.e.num:Int),()) (ak ?_);refine cG i rfl (by simp [encI]) ?_;intro g d f z4;have e4:=e3.st f ad;have b1:=b1.aj f (by simp; omega);refine ⟨⟨b1.cells [.slice H l c,.int .u32 O.e.num] rfl,trivial⟩,?_⟩;refine cG d rfl (by simp [encI,iw]) ?_;intro A b5 o J;have b5:br A j.size 55 (encI H l c { fG O.kind with inst:=O.inst,e:=O.e }):=b5;have e5:=e4.st o ad;have b1:=b1.aj o (by simp; omega);refine ay b1 (O.kind,O.name,O.inst.op,O.inst.a,O.inst.b,O.inst.n,O.inst.form,(H,l,c),(O.e.num:Int),O.n,()) (ak ?_);refine aG (instruction_hc (c:=c) (t.aj e5 ai) (v.lin.aj e5) v.op) ?_;rintro _ K ⟨rfl,k⟩;refine ⟨(AZ O.inst O.e,()),rfl,ak ?_⟩;have e6:=e5.trans k;refine ao ?_ ?_<;>intro r
  ·have r:AZ O.inst O.e=false:=by simpa using r
   exact ⟨by rw [r]; rfl,e6⟩
  have r:AZ O.inst O.e=true:=by simpa using r
  rw [r];have b1:=b1.aj k ai;have b5:=b5.aj k ai;have hh:=qL (L:=[]) (h0:=h) (y:={ fG O.kind with inst:=O.inst,e:=O.e }) b1 b5 (v.lin.aj e6) (v.lin.aj e6).vw e6;exact hh
 have B:O.kind≠2:=by simpa using q
 refine ao ?_ ?_<;>intro q
 ·have q:O.kind=3:=by simpa using q
  rw [PJ q];refine ay b1 (O.n,()) (ak ?_);refine cG i rfl (by simp [encI]) ?_;intro g d f z4;have d:br g j.size 55 (encI none 0 0 { fG O.kind with n:=O.n }):=d;have e4:=e3.st f ad;have b1:=b1.aj f (by simp; omega);refine ay b1 (O.n,()) (ak ?_);refine aJ (Ho g O.n) ?_;refine ao ?_ ?_<;>intro r
  ·have r:wv O.n=false:=by simpa using r
   exact ⟨by rw [r]; rfl,e4⟩
  have r:wv O.n=true:=by simpa using r
  rw [r,bl9];have hh:=qL (L:=[]) (h0:=h) (y:={ fG O.kind with n:=O.n }) b1 d (v.lin.aj e4) (iA.none g) e4;exact hh
 have C:O.kind≠3:=by simpa using q
 refine ao ?_ ?_<;>intro q
 ·have q:O.kind=4:=by simpa using q
  rw [Rt q];have hh:=qL (L:=[]) (h0:=h) (y:=(fG O.kind)) b1 i (v.lin.aj e3) (iA.none m) e3;exact hh
 have D:O.kind≠4:=by simpa using q
 refine ao ?_ ?_<;>intro q
 ·have q:O.kind=5:=by simpa using q
  rw [Qe q];refine ay b1 (O.n,()) (ak ?_);refine cG i rfl (by simp [encI]) ?_;intro g d f z4;have d:br g j.size 55 (encI none 0 0 { fG O.kind with n:=O.n }):=d;have e4:=e3.st f ad;have b1:=b1.aj f (by simp; omega);exact ⟨rfl,e4⟩
 have E:O.kind≠5:=by simpa using q
 refine ao ?_ ?_<;>intro q
 ·have q:O.kind=6:=by simpa using q
  rw [Oa q];refine ay b1 ((H,l,c),(O.e.num:Int),()) (ak ?_);refine cG i rfl (by simp [encI]) ?_;intro g d f z4;have d:br g j.size 55 (encI H l c { fG O.kind with e:=O.e }):=d;have e4:=e3.st f ad;have b1:=b1.aj f (by simp; omega);exact ⟨rfl,e4⟩
 have F:O.kind≠6:=by simpa using q
 refine ao ?_ ?_<;>intro q
 ·have q:O.kind=7:=by simpa using q
  rw [Rn q];refine ay b1 (O.n,()) (ak ?_);refine cG i rfl (by simp [encI]) ?_;intro g d f z4;have d:br g j.size 55 (encI none 0 0 { fG O.kind with n:=O.n }):=d;have e4:=e3.st f ad;have b1:=b1.aj f (by simp; omega);exact ⟨rfl,e4⟩
 have G:O.kind≠7:=by simpa using q
 exact ⟨by rw [KF z B C D E F G]; rfl,e3⟩
def Oo {h:Hp} (t:zY h) {l c:Nat} (v:jj h H l O) :
  HC Xaz 54 #[xx H l c O,vI 1] h λw h'=>w=FL (cI O 1)/\Ext h h':=by
 refine aX (args:=[xx H l c O,vI 1]) mixed Tryz.func54 av (vU O.kind O.name O.inst.op O.inst.a O.inst.b O.inst.n O.inst.form H l c O.e.num O.n) ?_;unfold rB bj aE bm bZ;refine bn ?_;intro i b1 e1 z1;have b1:br i h.size 55 (encI H l c O):=b1;refine ay b1 (O.kind,()) (ak ?_);refine bn ?_;intro J s e2 z2;refine bJ s ?_;intro u j z z3;have j:br u i.size 55 (encI none 0 0 (fG O.kind)):=j;have s1:=e1.size;have e13:=e2.st z (am9 _);have e3:=e1.trans e13;have b1:=b1.aj e13 ai;simp only [aw];refine ay b1 (O.kind,()) (ak ?_);refine ao ?_ ?_<;>intro q
 ·have q:O.kind=1:=by simpa using q
  rw [Fm q];refine ay b1 (O.name,()) (ak ?_);refine cG j rfl (by simp [encI]) ?_;intro f b4 d z4;have b4:br f i.size 55 (encI none 0 0 { fG O.kind with name:=O.name }):=b4;have e4:=e3.st d ad;have b1:=b1.aj d (by simp; omega);refine ay b1 (O.name,()) (ak ?_);refine aJ (wI O.name f (by have:=v.name; have:maxLen=9223372036854775807:=rfl; omega)) ?_;refine ao ?_ ?_<;>intro r
  ·have r:cD O.name.data.toList=false:=by simpa using r
   exact ⟨by rw [r]; rfl,e4⟩
  have r:cD O.name.data.toList=true:=by simpa using r
  rw [r,bl9];have hh:=qL (L:=[]) (h0:=h) (y:={ fG O.kind with name:=O.name }) b1 b4 (v.lin.aj e4) (iA.none f) e4;exact hh
 have A:O.kind≠1:=by simpa using q
 refine ao ?_ ?_<;>intro q
 ·have q:O.kind=2:=by simpa using q
  rw [Rj q];refine ay b1 (O.inst.op,O.inst.a,O.inst.b,O.inst.n,O.inst.form,()) (ak ?_);refine ay b1 ((H,l,c),(O.e.num:Int),()) (ak ?_);refine cG j rfl (by simp [encI]) ?_;intro f b4 d z4;have e4:=e3.st d ad;have b1:=b1.aj d (by simp; omega);refine ⟨⟨b1.cells [.slice H l c,.int .u32 O.e.num] rfl,trivial⟩,?_⟩;refine cG b4 rfl (by simp [encI,iw]) ?_;intro B m o K;have m:br B i.size 55 (encI H l c { fG O.kind with inst:=O.inst,e:=O.e }):=m;have e5:=e4.st o ad;have b1:=b1.aj o (by simp; omega);exact ⟨rfl,e5⟩
 have C:O.kind≠2:=by simpa using q
 refine ao ?_ ?_<;>intro q
 ·have q:O.kind=3:=by simpa using q
  rw [PJ q];refine ay b1 (O.n,()) (ak ?_);refine cG j rfl (by simp [encI]) ?_;intro f b4 d z4;have b4:br f i.size 55 (encI none 0 0 { fG O.kind with n:=O.n }):=b4;have e4:=e3.st d ad;have b1:=b1.aj d (by simp; omega);refine ay b1 (O.n,()) (ak ?_);refine aJ (Ho f O.n) ?_;refine ao ?_ ?_<;>intro r
  ·have r:wv O.n=false:=by simpa using r
   exact ⟨by rw [r]; rfl,e4⟩
  have r:wv O.n=true:=by simpa using r
  rw [r,bl9];have hh:=qL (L:=[]) (h0:=h) (y:={ fG O.kind with n:=O.n }) b1 b4 (v.lin.aj e4) (iA.none f) e4;exact hh
 have D:O.kind≠3:=by simpa using q
 refine ao ?_ ?_<;>intro q
 ·have q:O.kind=4:=by simpa using q
  rw [Rt q];exact ⟨rfl,e3⟩
 have E:O.kind≠4:=by simpa using q
 refine ao ?_ ?_<;>intro q
 ·have q:O.kind=5:=by simpa using q
  rw [Qe q];refine ay b1 (O.n,()) (ak ?_);refine cG j rfl (by simp [encI]) ?_;intro f b4 d z4;have b4:br f i.size 55 (encI none 0 0 { fG O.kind with n:=O.n }):=b4;have e4:=e3.st d ad;have b1:=b1.aj d (by simp; omega);refine ay b1 (O.n,()) (ak ?_);refine aI ?_ ?_<;>intro r
  ·refine ay b1 (O.n,()) (ak ?_);refine ao ?_ ?_<;>intro g
   ·have g:¬ O.n<=255:=by simpa using g
    exact ⟨by rw [al9 g,fe9]; rfl,e4⟩
   have g:O.n<=255:=by simpa using g
   rw [ak9 g,ak9 (show -128<=O.n from r)];have hh:=qL (L:=[]) (h0:=h) (y:={ fG O.kind with n:=O.n }) b1 b4 (v.lin.aj e4) (iA.none f) e4;exact hh
  ·exact ⟨by rw [al9 (show ¬ -128<=O.n from r),fe9]; rfl,e4⟩
 have F:O.kind≠5:=by simpa using q
 refine ao ?_ ?_<;>intro q
 ·have q:O.kind=6:=by simpa using q
  rw [Oa q];refine ay b1 ((H,l,c),(O.e.num:Int),()) (ak ?_);refine cG j rfl (by simp [encI]) ?_;intro f b4 d z4;have b4:br f i.size 55 (encI H l c { fG O.kind with e:=O.e }):=b4;have e4:=e3.st d ad;have b1:=b1.aj d (by simp; omega);refine ay b1 ((H,l,c),(O.e.num:Int),()) (ak ?_);refine aG (vT (c:=c) (v.lin.aj e4).vw (by have:=v.lin.many; omega) v.lin.names) ?_;rintro _ M ⟨rfl,k⟩;refine ⟨(oW none O.e.af,()),rfl,ak ?_⟩;have e6:=e4.trans k;refine ao ?_ ?_<;>intro r
  ·have r:oW none O.e.af=false:=by simpa using r
   exact ⟨by rw [r]; rfl,e6⟩
  have r:oW none O.e.af=true:=by simpa using r
  rw [r];have b1:=b1.aj k ai;have b4:=b4.aj k ai;have hh:=qL (L:=[]) (h0:=h) (y:={ fG O.kind with e:=O.e }) b1 b4 (v.lin.aj e6) (v.lin.aj e6).vw e6;exact hh
 have G:O.kind≠6:=by simpa using q
 refine ao ?_ ?_<;>intro q
 ·have q:O.kind=7:=by simpa using q
  rw [Rn q];refine ay b1 (O.n,()) (ak ?_);refine cG j rfl (by simp [encI]) ?_;intro f b4 d z4;have b4:br f i.size 55 (encI none 0 0 { fG O.kind with n:=O.n }):=b4;have e4:=e3.st d ad;have b1:=b1.aj d (by simp; omega);refine ay b1 (O.n,()) (ak ?_);refine aI ?_ ?_<;>intro r
  ·refine ay b1 (O.n,()) (ak ?_);refine ao ?_ ?_<;>intro g
   ·have g:¬ O.n<=1048576:=by simpa using g
    exact ⟨by rw [al9 g,fe9]; rfl,e4⟩
   have g:O.n<=1048576:=by simpa using g
   rw [ak9 g,ak9 (show 0<=O.n from r)];have hh:=qL (L:=[]) (h0:=h) (y:={ fG O.kind with n:=O.n }) b1 b4 (v.lin.aj e4) (iA.none f) e4;exact hh
  ·exact ⟨by rw [al9 (show ¬ 0<=O.n from r),fe9]; rfl,e4⟩
 have I:O.kind≠7:=by simpa using q
 exact ⟨by rw [KF A C D E F G I]; rfl,e3⟩
section
variable {α:Type}
def vE (en:α->Xab) (D:List (Xaa × α)):List (Xaa × Xab):=D.map λp=>(p.1,en p.2)
def gE (D:List (Xaa × α)) (s:Xaa):Option α:=(D.find? λp=>decide (s=p.1)).map (·.2)
def pE (D:List (Xaa × α)) (s:Xaa) (v:α):List (Xaa × α):=if (gE D s).isSome then D.map λp=>if s=p.1 then (p.1,v) else p else D++[(s,v)]
def oi (en:α->Xab) (D:List (Xaa × α)) (s:Xaa):look (vE en D) s=(gE D s).map en:=by
 unfold look gE vE
 induction D with
 | nil=>rfl
 | cons p D a =>
  by_cases h:s=p.1
  ·simp [h]
  ·simp only [List.map_cons,List.find?_cons,decide_eq_false h];exact a
def JK (en:α->Xab) (D:List (Xaa × α)) (s:Xaa) (v:α):lG (vE en D) s (en v)=vE en (pE D s v):=by
 unfold lG pE;rw [oi];cases h:gE D s with
 | none=>simp [vE]
 | some q =>
  simp only [Option.map_some,Option.isSome_some,if_true,vE,List.map_map];refine cm9 λp a=>?_
  simp only [Function.comp];split <;> simp_all
def yJ (D:List (Xaa × α)) (s:Xaa) (v:α):(pE D s v).length=if (gE D s).isSome then D.length else D.length+1:=by
 unfold pE;split <;> simp
def yN (D:List (Xaa × α)) (s t:Xaa) (v:α):gE (D++[(s,v)]) t=(gE D t).or (if t=s then some v else none):=by
 unfold gE;rw [List.find?_append];cases h:D.find? (λp=>decide (t=p.1)) with
 | some q=>simp
 | none =>
  simp only [Option.none_or,Option.map_none,List.find?_cons,List.find?_nil]
  by_cases e:t=s
  ·simp [e]
  ·simp [e]
def IZ (D:List (Xaa × α)) (s t:Xaa) (v:α) (d:(gE D s).isSome):gE (D.map λp=>if s=p.1 then (p.1,v) else p) t=if t=s then some v else gE D t:=by
 unfold gE at *
 induction D with
 | nil=>simp at d
 | cons p D f =>
  by_cases h:s=p.1
  ·by_cases e:t=s
   ·simp [h,e]
   ·have e2:¬ t=p.1:=λk=>e (k.trans h.symm)
    have g:∀ l:List (Xaa × α),(List.find? (λp=>decide (t=p.1)) (List.map (λp=>if s=p.1 then (p.1,v) else p) l)).map (·.2)=(List.find? (λp=>decide (t=p.1)) l).map (·.2):=by
     intro l
     induction l with
     | nil=>rfl
     | cons q l a =>
      by_cases b:s=q.1
      ·have:¬ t=q.1:=λk=>e (k.trans b.symm)
       simp only [List.map_cons,List.find?_cons,if_pos b,decide_eq_false this];exact a
      ·simp only [List.map_cons,List.find?_cons,if_neg b]
       by_cases ht:t=q.1
       ·simp [ht]
       ·simp only [decide_eq_false ht];exact a
    simp only [List.map_cons,List.find?_cons,if_pos h,decide_eq_false e2,if_neg e];exact g D
  ·have c:(Option.map (λx=>x.2) (List.find? (λp=>decide (s=p.1)) D)).isSome:=by
    simpa [List.find?_cons,decide_eq_false h] using d
   simp only [List.map_cons,List.find?_cons,if_neg h]
   by_cases ht:t=p.1
   ·have:¬ t=s:=λk=>h (k.symm.trans ht)
    simp [ht,if_neg (ht▸this)]
   ·simp only [decide_eq_false ht];exact f c
def RE (D:List (Xaa × α)) (s:Xaa) (v:α) (t:Xaa):gE (pE D s v) t=if t=s then some v else gE D t:=by
 unfold pE;split
 ·rename_i h;exact IZ D s t v h
 ·rename_i h;rw [yN]
  by_cases e:t=s
  ·subst e
   have:gE D t=none:=by simpa using h
   rw [this]; simp
  ·simp [e]
def dW (f:Xaa->Option α) (s:Xaa) (v:α):Xaa->Option α:=λt=>if t=s then some v else f t
def eu (en:α->Xab) (h:Hp) (g:Nat) (f:Xaa->Option α) (n:Nat):Prop:=∃ D:List (Xaa × α),fq h g (vE en D)/\(∀ s,gE D s=f s)/\D.length=n
def eu.aj {en:α->Xab} {ws:List Nat} {h h':Hp} {g:Nat} {f:Xaa->Option α} {n:Nat} (m:eu en h g f n) (k:Ch ws h h') (a:g∉ws):eu en h' g f n:=by
 obtain ⟨D,m,r⟩:=m;exact ⟨D,m.aj k a,r⟩
def eu.lt {en:α->Xab} {h:Hp} {g:Nat} {f:Xaa->Option α} {n:Nat} (m:eu en h g f n):g<h.size:=by
 obtain ⟨D,m,r⟩:=m;exact m.lt
def eu.new {en:α->Xab} {h:Hp} {g:Nat} (m:fq h g []):eu en h g (λ_=>none) 0:=⟨[],m,λs=>rfl,rfl⟩
def eu.lG {en:α->Xab} {h':Hp} {g:Nat} {f:Xaa->Option α} {n:Nat} {D:List (Xaa × α)} (a:∀ s,gE D s=f s) (hn:D.length=n) {s:Xaa} {v:α} (m:fq h' g (Sx.lG (vE en D) s (en v))):eu en h' g (dW f s v) (if (f s).isSome then n else n+1):=by
 rw [JK] at m;refine ⟨_,m,λt=>?_,?_⟩
 ·rw [RE,a t]; rfl
 ·rw [yJ,a s,hn]
end
def eB (b:Bool):Xab:=.bool b
def Wq:Tryz.prog.underlying 152=some (.map 9 4):=av
def xB:Tryz.prog.underlying 9=some .string:=av
def QW:(Tryz.prog.info? 4).bind (·.zero)=some (.bool false):=av
def C6 (h:Hp) (g:Nat) (D:List Xaa):Prop:=∃ n,eu eB h g (λs=>if hQ D s then some true else none) n
def C6.aj {ws:List Nat} {h h':Hp} {g:Nat} {D:List Xaa} (m:C6 h g D) (k:Ch ws h h') (a:g∉ws):C6 h' g D:=by
 obtain ⟨n,m⟩:=m;exact ⟨n,m.aj k a⟩
def C6.lt {h:Hp} {g:Nat} {D:List Xaa} (m:C6 h g D):g<h.size:=by
 obtain ⟨n,m⟩:=m;exact m.lt
section
variable {L:Lp} {K:Xab->Hp->Prop} {h:Hp} {g:Nat} {D:List Xaa}
def Rq (m:C6 h g D) (s:Xaa) {k:Bool->T} (hk:k (hQ D s) L K h):T.dP Xaz (Instr.lookup 152 (.map (some g)) (.string s) false) false [(false,[.bool])] k L K h:=by
 obtain ⟨n,b,m,a,hn⟩:=m;refine kD Wq xB QW m s false _ ?_;refine ⟨(hQ D s,()),?_,hk⟩;simp only [Bool.false_eq_true,if_false];rw [oi,a s];dsimp only
 all_goals (cases hQ D s <;> rfl)
def dB (m:C6 h g D) {s:Xaa} (a:s.size<=maxLen) {k:T} (hk:∀ h',C6 h' g (s::D)->Ch [g] h h'->h'.size=h.size->k L K h') :
  T.fI Xaz (Instr.mapUpdate 152 (.map (some g)) (.string s) (.bool true)) k L K h:=by
 obtain ⟨n,i,m,b,hn⟩:=m;refine ic Wq xB m a _ _ ?_;intro h' c c' d
 have:=eu.lG (en:=eB) b hn (v:=true) c
 have f:dW (λt=>if hQ D t then some true else none) s true=λt=>if hQ (s::D) t then some true else none:=by
  funext t
  unfold dW hQ
  by_cases h1:t=s
  ·rw [ag9 h1,ag9];simp [h1]
  ·rw [ac9 h1]
   have:¬ s=t:=λe=>h1 e.symm
   rw [List.any_cons,al9 this,fa9]
 rw [f] at this;exact hk h' ⟨_,this⟩ c' d
def ZZ {t:TypeId} {k:Option Nat->T} (hk:∀ h',C6 h' h.size []->Ext h h'->h'.size=h.size+1->k (some h.size) L K h'):T.dP Xaz (Instr.makeMap t none) false [(false,[.map 0 0])] k L K h:=by
 refine nP _ ?_;intro h' m e z;exact ⟨(some h.size,()),rfl,hk h' ⟨0,eu.new m⟩ e z⟩
end
structure Ge (h:Hp) (p:Xac) (l:Nat) (us:List cB):Prop where
 len:l=us.length
 many:us.length<=2^60
 cells:∀ i,(hi:i<us.length)->∃ a q m c,p=some a/\aH h (a.add (i*10)) 0 (encI q m c us[i])/\jj h q m us[i]
def Ge.aj {h h':Hp} {p:Xac} {l:Nat} {us:List cB} (v:Ge h p l us) (k:Ext h h'):Ge h' p l us :=
 ⟨v.len,v.many,λi hi=>by
  obtain ⟨a,q,m,c,b,hc,hv⟩:=v.cells i hi;exact ⟨a,q,m,c,b,aP k ai _ _ hc,hv.aj k⟩⟩
def X8 (p:Xac) (l c:Nat) (x:tI):List Xab:=[.string x.1,.slice p l c,.int .u32 x.2.num]
structure vQ (h:Hp) (p:Xac) (l:Nat) (us:List tI):Prop where
 len:l=us.length
 many:us.length<=2^60
 cells:∀ i,(hi:i<us.length)->∃ a q m c,p=some a/\aH h (a.add (i*3)) 0 (X8 q m c us[i])/\nL h q m us[i].2/\us[i].1.size<=maxLen
def vQ.aj {h h':Hp} {p:Xac} {l:Nat} {us:List tI} (v:vQ h p l us) (k:Ext h h'):vQ h' p l us :=
 ⟨v.len,v.many,λi hi=>by
  obtain ⟨a,q,m,c,b,hc,hv,d⟩:=v.cells i hi;exact ⟨a,q,m,c,b,aP k ai _ _ hc,hv.aj k,d⟩⟩
structure Z7 (h:Hp) (p:Xac) (l:Nat) (us:List Xaa):Prop where
 len:l=us.length
 many:us.length<=2^60
 cells:∀ i,(hi:i<us.length)->∃ a,p=some a/\aH h (a.add (i*1)) 0 [.string us[i]]/\us[i].size<=maxLen
def Z7.aj {h h':Hp} {l:Nat} {us:List Xaa} (v:Z7 h H l us) (k:Ext h h'):Z7 h' H l us :=
 ⟨v.len,v.many,λi hi=>by
  obtain ⟨a,b,hc,c⟩:=v.cells i hi;exact ⟨a,b,aP k ai _ _ hc,c⟩⟩
structure bC where
 p:Xac
 l:Nat
 c:Nat
def bC.v (s:bC):Xab:=.slice s.p s.l s.c
structure vp (h:Hp) (a b c d:bC) (u:cm):Prop where
 text:Ge h a.p a.l u.text
 data:Ge h b.p b.l u.data
 bi:vQ h c.p c.l u.bi
 aT:Z7 h d.p d.l u.aT
def vp.aj {h h':Hp} {a b c d:bC} {u:cm} (v:vp h a b c d u) (k:Ext h h'):vp h' a b c d u:=⟨v.text.aj k,v.data.aj k,v.bi.aj k,v.aT.aj k⟩
def GH (a b c d:bC):Xab:=.agg #[a.v,b.v,c.v,d.v]
def SP:Tryz.prog.underlying 43=some (.slice 46):=av
def slZ:(Tryz.prog.info? 46).map (λi=>(i.zero,i.size,i.bytes))=some (some (.slice none 0 0),1,24):=av
def RU (a:Xac) (b c:Nat) (d:Xac) (e f:Nat):Instr.fill (λj=>some (j*1,1)) ((Array.range (2*1)).map ((Value.slice none 0 0).cells[· % (Value.slice none 0 0).cells.size]!)) [(0,.slice a b c),(1,.slice d e f)]=some ([.slice a b c,.slice d e f]:List Xab).toArray:=av
def Aq (u:cm) (k:Nat):List cB:=if k=0 then u.text else u.data
def wu (u:cm) (k:Nat):List Xaa:=if k=0 then [] else if k=1 then dc [] u.text else dc (dc [] u.text) u.data
def BT (u:cm) (k:Nat):Bool:=if k=0 then xS u else if k=1 then (fv 1 (dc [] u.text) u.data && (iy (dc (dc [] u.text) u.data) u.bi && dl u.names dZ u.aT)) else (iy (dc (dc [] u.text) u.data) u.bi && dl u.names dZ u.aT)
def Mw (u:cm) {k:Nat} (hk:k<2):BT u k=(fv k (wu u k) (Aq u k) && BT u (k+1)):=by
 have:k=0\/k=1:=ad
 rcases this with rfl | rfl
 ·simp [BT,wu,Aq,xS,Bool.and_assoc]
 ·simp [BT,wu,Aq]
def Nk (u:cm) {k:Nat} (hk:k<2):wu u (k+1)=dc (wu u k) (Aq u k):=by
 have:k=0\/k=1:=ad
 rcases this with rfl | rfl <;> rfl
def HX (D:List Xaa) (l:List cB) {i:Nat} (hi:i<l.length):dc D (l.take (i+1))=vM (dc D (l.take i)) l[i]:=by
 unfold dc;rw [af9 hi,ck9] <;> rfl
def Hx (D:List Xaa) (l:List tI) {i:Nat} (hi:i<l.length):aU D (l.take (i+1))=l[i].1::aU D (l.take i):=by
 unfold aU;rw [af9 hi,ck9] <;> rfl
def Fb (sec:Nat) (D:List Xaa) (l:List cB) {i:Nat} (hi:i<l.length):fv sec D (l.drop i)=(zu sec D l[i] && fv sec (vM D l[i]) (l.drop (i+1))):=by
 rw [ax9 hi,fv]
def HJ (D:List Xaa) (l:List tI) {i:Nat} (hi:i<l.length):iy D (l.drop i)=(Er D l[i] && iy (l[i].1::D) (l.drop (i+1))):=by
 rw [ax9 hi,iy]
def pB (l:List Xaa) (i:Nat):Xaa:=if i=0 then dZ else l.getD (i-1) dZ
def xu (D l:List Xaa) {i:Nat} (hi:i<l.length):dl D (pB l i) (l.drop i)=(UZ D (pB l i) l[i] && dl D (pB l (i+1)) (l.drop (i+1))):=by
 rw [ax9 hi,dl]
 congr 2
 unfold pB;rw [ac9 ad,Nat.add_sub_cancel,cg9,ad9 hi] <;> rfl
def Ib (h:Hp) (g:Nat) (D:List Xaa):Prop:=C6 h g D/\∀ s,s∈D->cD s.data.toList=true
def Ib.aj {ws:List Nat} {h h':Hp} {g:Nat} {D:List Xaa} (m:Ib h g D) (k:Ch ws h h') (a:g∉ws):Ib h' g D:=⟨m.1.aj k a,m.2⟩
def GF {s:Xaa} (h:cD s.data.toList=true):iW dZ s:=by
 unfold cD at h;simp only [Bool.and_eq_true,decide_eq_true_eq] at h;have h2:=h.1.1.1.1;show (dZ.data.toList:List UInt8)<s.data.toList
 have:(dZ.data.toList:List UInt8)=[]:=rfl
 rw [this];cases b:s.data.toList with
 | nil=>rw [b] at h2; simp at h2
 | cons a l=>exact List.Lex.nil
def xo {D:List Xaa} {s:Xaa} (h:hQ D s=true):s∈D:=by
 unfold hQ at h;simp only [List.any_eq_true,decide_eq_true_eq] at h;obtain ⟨y,a,rfl⟩:=h;exact a
def TV {h:Hp} (t:zY h) {l c k:Nat} (v:jj h H l O) (hk:k<2) :
  HC Xaz 54 #[xx H l c O,vI (k:Int)] h λw h'=>w=FL (cI O k)/\Ext h h':=by
 have:k=0\/k=1:=ad
 rcases this with rfl | rfl
 ·exact RR t v
 ·exact Oo t v
variable {Z a b c:bC} {d:cm}
def xE {h:Hp} (t:zY h) (v:vp h Z a b c d):HC Xaz 30 #[GH Z a b c] h λw h'=>w=vI (fC d:Nat)/\Ext h h':=by
 refine aX (args:=[GH Z a b c]) mixed Tryz.func30 av (Ap Z.p Z.l Z.c a.p a.l a.c b.p b.l b.c c.p c.l c.c) ?_;unfold xY aR aY bz aK bj cY ja bg dp bY aE bm bZ aS;refine bn ?_;intro Q b1 e1 z1;have b1:br Q h.size 70 [Z.v,a.v,b.v,c.v]:=b1;have m1:=v.text.many;have m2:=v.data.many;have m3:=v.bi.many;have m4:=v.aT.many;have n1:=v.text.len;have n2:=v.data.len;have n3:=v.bi.len;have n4:=v.aT.len;have s1:=e1.size;simp only [aw];refine ay b1 ((Z.p,Z.l,Z.c),()) (ak ?_);refine ay b1 ((a.p,a.l,a.c),()) (ak ?_);rw [wrap_i64 ad ad];unfold fC xj;refine ao ?_ ?_<;>intro q
 ·have q:=ai9 q;exact ⟨by rw [ak9 (show 8192<d.text.length+d.data.length from ad)]; rfl,e1⟩
 have q:=aw9 q;rw [al9 (show ¬ 8192<d.text.length+d.data.length from ad),fa9];refine ay b1 ((b.p,b.l,b.c),()) (ak ?_);refine ao ?_ ?_<;>intro q
 ·have q:=ai9 q;exact ⟨by rw [ak9 (show 8192<d.bi.length from ad)]; rfl,e1⟩
 have q:=aw9 q;rw [al9 (show ¬ 8192<d.bi.length from ad),ac9 ai];refine ZZ ?_;intro g2 m e2 z2;have b2:=b1.aj e2 ai;refine ay b2 ((Z.p,Z.l,Z.c),()) (ak ?_);refine ay b2 ((a.p,a.l,a.c),()) (ak ?_);refine oB SP slZ ad ad (RU Z.p Z.l Z.c a.p a.l a.c) ?_;intro g3 b3 e3 z3;have m:=m.aj e3 (by have:=m.lt; simp);have e03:=(e1.trans e2).trans e3;have b3':=b2.aj e3 ai;have s2:=e2.size;clear b1 b2;have S:∀ k,k<2->∃ s:bC,([Z.v,a.v]:List Xab).drop k=s.v::([Z.v,a.v]:List Xab).drop (k+1)/\Ge h s.p s.l (Aq d k):=by
  intro k hk
  have:k=0\/k=1:=ad
  rcases this with rfl | rfl
  ·exact ⟨Z,rfl,v.text⟩
  ·exact ⟨a,rfl,v.data⟩
 have s3:=e3.size;have b3:br g3 g2.size 46 [Z.v,a.v]:=b3;generalize hU:xS d=U;refine aM (cs:=fV) (λy w h'=>∃ k:Nat,y.2.1=(k:Int)/\k<=2/\w=2-k/\Ext h h'/\br h' h.size 70 [Z.v,a.v,b.v,c.v]/\br h' g2.size 46 [Z.v,a.v]/\Ib h' Q.size (wu d k)/\U=BT d k) ((0:Int),(0:Int),()) 2 rfl
  ⟨0,rfl,ad,ad,e03,b3',b3,⟨m,by simp [wu]⟩,hU.symm⟩ ?_
 rintro ⟨V,n22,⟨⟩⟩ w h4 ⟨k,hk,hk2,rfl,e4,b1,b2,m,f⟩;simp only at hk;subst hk;refine ak ?_;refine aI ?_ ?_<;>intro q
 ·have hk:k<2:=ad
  obtain ⟨sl,hsl,vs⟩:=S k hk;refine bM rfl ?_;rw [aw];refine aZ b2 ((sl.p,sl.l,sl.c),()) (by rw [show 0+(k:Int).toNat*1=k from ad,hsl]; rfl) ?_;refine ak ?_;have lk:=vs.len;have mk:=vs.many;generalize hl:Aq d k=l at vs lk mk;have j:U=(fv k (dc (wu d k) (l.take 0)) (l.drop 0) && BT d (k+1)):=by
   rw [f,Mw d hk,hl] <;> rfl
  refine aM (cs:=fV) (λy w h'=>∃ i:Nat,y.2.1=(i:Int)/\i<=l.length/\w=l.length-i/\Ext h h'/\br h' h.size 70 [Z.v,a.v,b.v,c.v]/\br h' g2.size 46 [Z.v,a.v]/\Ib h' Q.size (dc (wu d k) (l.take i))/\U=(fv k (dc (wu d k) (l.take i)) (l.drop i) && BT d (k+1))) (V,(0:Int),()) l.length rfl
   ⟨0,rfl,ad,ad,e4,b1,b2,m,j⟩ ?_
  clear f j m b1 b2 e4;rintro ⟨z,n28,⟨⟩⟩ w W ⟨i,hi,K,rfl,B,b1,b2,m,f⟩;simp only at hi;subst hi;refine ak ?_;refine aI ?_ ?_<;>intro q2
  ·have g:i<l.length:=ad
   obtain ⟨aa,pp,L,H,rfl',hc,I⟩:=(vs.aj B).cells i g;rw [Fb k _ l g] at f;have hnt:=HX (wu d k) l g;generalize l[i]=x at hc I f hnt;refine eS (aF rfl' ?_);rw [cg i];refine ar (x.kind,x.name,x.inst.op,x.inst.a,x.inst.b,x.inst.n,x.inst.form,(pp,L,H),(x.e.num:Int),x.n,()) hc (ak ?_);refine bn ?_;intro h6 b6 C z6;refine bJ b6 ?_;intro h7 F k7 z7;have F:br h7 W.size 55 (encI pp L H x):=F;have o:Ext W h7:=C.st k7 (am9 _);have e7:=B.trans o;simp only [aw];refine ay F (x.kind,x.name,x.inst.op,x.inst.a,x.inst.b,x.inst.n,x.inst.form,(pp,L,H),(x.e.num:Int),x.n,()) (ak ?_);refine aG (TV (c:=H) (t.aj e7 ai) (I.aj o) hk) ?_;rintro _ h8 ⟨rfl,M⟩;refine ⟨((if cI x k then 0 else 31:Int),()),rfl,ak ?_⟩;have e58:=o.trans M;have e08:=B.trans e58;have b1:=b1.aj e58 ai;have b2:=b2.aj e58 ai;have m:=m.aj e58 ai;have b8:=F.aj M ai;refine ao ?_ ?_<;>intro r
   ·have r:cI x k=false:=by
     cases hr:cI x k with
     | false=>rfl
     | true=>rw [hr] at r; simp at r
    exact ⟨by rw [f,zu,r]; rfl,e08⟩
   have r:cI x k=true:=by
    cases hr:cI x k with
    | true=>rfl
    | false=>rw [hr] at r; simp at r
   have hno:∀ D,zu k D x=!(decide (x.kind=1) && hQ D x.name):=λD=>by rw [zu,r]; rfl
   rw [hno] at f;refine ay b8 (x.kind,()) (ak ?_);refine ao ?_ ?_<;>intro A
   ·have A:x.kind=1:=by simpa using A
    rw [ak9 A,bl9] at f;have J:cD x.name.data.toList=true:=by
     rw [Fm A,bm9] at r;exact r.1
    refine ay b8 (x.name,()) (ak ?_);refine Rq m.1 x.name ?_;refine ao ?_ ?_<;>intro X
    ·exact ⟨by rw [f,X]; rfl,e08⟩
    rw [X] at f;refine ay b8 (x.kind,()) (ak ?_);refine bU (by simpa using A) ?_;refine ay b8 (x.name,()) (ak ?_);refine dB m.1 I.name ?_;intro h9 m9 R z9;have N:Ext h h9:=e08.st R ad;have s5:=B.size;have G:vM (dc (wu d k) (l.take i)) x=x.name::dc (wu d k) (l.take i):=by unfold vM; rw [ag9 A]
    refine aC (cs:=fV) (z,((i+1:Nat):Int),()) (l.length-(i+1)) rfl ad (by rw [wrap_i64 ad ad]; rfl) ?_;refine ⟨i+1,rfl,ad,rfl,N,b1.aj R (by simp; omega),b2.aj R (by simp; omega),by rw [hnt,G]; exact ⟨m9,λs hs=>(bd9.1 hs).elim (λe=>by rw [e]; exact J) (m.2 s)⟩,by rw [f,hnt]; rfl⟩
   ·have A:¬ x.kind=1:=by simpa using A
    rw [al9 A] at f;refine ay b8 (x.kind,()) (ak ?_);refine bX (by simpa using A) ?_;have G:vM (dc (wu d k) (l.take i)) x=dc (wu d k) (l.take i):=by unfold vM; rw [ac9 A]
    refine aC (cs:=fV) (z,((i+1:Nat):Int),()) (l.length-(i+1)) rfl ad (by rw [wrap_i64 ad ad]; rfl) ?_;refine ⟨i+1,rfl,ad,rfl,e08,b1,b2,by rw [hnt,G]; exact m,by rw [f,hnt]; rfl⟩
  ·have g:i=l.length:=ad
   subst g;rw [bj9] at m f;rw [dg9,fv,bl9] at f;refine aC (cs:=fV) (z,((k+1:Nat):Int),()) (2-(k+1)) rfl ad (by rw [wrap_i64 ad ad]; rfl) ?_;refine ⟨k+1,rfl,ad,rfl,B,b1,b2,by rw [Nk d hk,hl]; exact m,f⟩
 ·have hk:k=2:=ad
  subst hk;have f:U=(iy (dc (dc [] d.text) d.data) d.bi && dl d.names dZ d.aT):=f;have m:Ib h4 Q.size (dc (dc [] d.text) d.data):=m;generalize hD:dc (dc [] d.text) d.data=D at f m;have hN:d.names=aU D d.bi:=by rw [<- hD]; rfl
  rw [hN] at f;refine ay b1 ((b.p,b.l,b.c),()) (ak ?_);have j:U=(iy (aU D (d.bi.take 0)) (d.bi.drop 0) && dl (aU D d.bi) dZ d.aT):=f;refine aM (cs:=fV) (λy w h'=>∃ i:Nat,y.2.1=(i:Int)/\i<=d.bi.length/\w=d.bi.length-i/\Ext h h'/\br h' h.size 70 [Z.v,a.v,b.v,c.v]/\Ib h' Q.size (aU D (d.bi.take i))/\U=(iy (aU D (d.bi.take i)) (d.bi.drop i) && dl (aU D d.bi) dZ d.aT)) (V,(0:Int),()) d.bi.length rfl
   ⟨0,rfl,ad,ad,e4,b1,m,j⟩ ?_
  clear f j m b1 b2 e4;rintro ⟨z,n28,⟨⟩⟩ w W ⟨i,hi,K,rfl,B,b1,m,f⟩;simp only at hi;subst hi;refine ak ?_;have s5:=B.size;refine ao ?_ ?_<;>intro q2
  ·have q2:=ai9 q2;have g:i<d.bi.length:=ad
   obtain ⟨aa,pp,L,H,rfl',hc,I,vn⟩:=(v.bi.aj B).cells i g;rw [HJ _ _ g] at f;have hnt:=Hx D d.bi g;generalize d.bi[i]=x at hc I vn f hnt;refine eS (aF rfl' ?_);rw [cg i];refine ar (x.1,(pp,L,H),(x.2.num:Int),()) hc (ak ?_);refine bn ?_;intro h6 b6 C z6;refine bJ b6 ?_;intro h7 F k7 z7;have F:br h7 W.size 116 (X8 pp L H x):=F;have o:Ext W h7:=C.st k7 (am9 _);have e7:=B.trans o;simp only [aw];have b1:=b1.aj o ai;have m:=m.aj o ai;unfold Er at f;refine ay F (x.1,()) (ak ?_);refine Rq m.1 x.1 ?_;refine ao ?_ ?_<;>intro r
   ·exact ⟨by rw [f,r]; rfl,e7⟩
   rw [r] at f;refine ay F (x.1,()) (ak ?_);refine aJ (wI x.1 h7 (by have:maxLen=9223372036854775807:=rfl; omega)) ?_;refine ao ?_ ?_<;>intro r
   ·have r:cD x.1.data.toList=false:=by simpa using r
    exact ⟨by rw [f,r]; rfl,e7⟩
   have J:cD x.1.data.toList=true:=by simpa using r
   rw [J] at f;refine ay F ((pp,L,H),(x.2.num:Int),()) (ak ?_);refine aG (vT (c:=H) (I.aj o).vw (by have:=I.many; omega) I.names) ?_;rintro _ h8 ⟨rfl,M⟩;refine ⟨(oW none x.2.af,()),rfl,ak ?_⟩;have e08:=e7.trans M;have b1:=b1.aj M ai;have m:=m.aj M ai;have b8:=F.aj M ai;refine ao ?_ ?_<;>intro r
   ·have r:oW none x.2.af=false:=by simpa using r
    exact ⟨by rw [f,r]; rfl,e08⟩
   have r:oW none x.2.af=true:=by simpa using r
   rw [r] at f;refine ay b8 (x.1,()) (ak ?_);refine dB m.1 vn ?_;intro h9 m9 R z9;have N:Ext h h9:=e08.st R ad;refine aC (cs:=fV) (z,((i+1:Nat):Int),()) (d.bi.length-(i+1)) rfl ad (by rw [wrap_i64 ad ad]; rfl) ?_;refine ⟨i+1,rfl,ad,rfl,N,b1.aj R (by simp; omega),by rw [hnt]; exact ⟨m9,λs hs=>(bd9.1 hs).elim (λe=>by rw [e]; exact J) (m.2 s)⟩,by rw [f,hnt]; rfl⟩
  have q2:=aw9 q2;have g:i=d.bi.length:=ad
  subst g;rw [bj9] at m f;rw [dg9,iy,bl9] at f;generalize hE:aU D d.bi=E at m f;refine ay b1 ((c.p,c.l,c.c),()) (ak ?_);have j:U=dl E (pB d.aT 0) (d.aT.drop 0):=f;refine aM (cs:=fV) (λy w h'=>∃ i:Nat,y.2.1=(i:Int)/\i<=d.aT.length/\w=d.aT.length-i/\Ext h h'/\br h' h.size 70 [Z.v,a.v,b.v,c.v]/\Ib h' Q.size E/\U=dl E (pB d.aT i) (d.aT.drop i)) (z,(0:Int),()) d.aT.length rfl
   ⟨0,rfl,ad,ad,B,b1,m,j⟩ ?_
  clear f j m b1 B s5;rintro ⟨Y,n32,⟨⟩⟩ w h6 ⟨i,hi,K,rfl,C,b1,m,f⟩;simp only at hi;subst hi;refine ak ?_;refine aI ?_ ?_<;>intro q3
  ·have g:i<d.aT.length:=ad
   obtain ⟨aa,rfl',hc,I⟩:=(v.aT.aj C).cells i g;rw [xu _ _ g] at f;unfold UZ at f;refine eS (aF rfl' ?_);rw [cg i];refine ar (d.aT[i],()) hc (ak ?_);refine Rq m.1 _ ?_;refine ao ?_ ?_<;>intro r
   ·have r:hQ E d.aT[i]=false:=by simpa using r
    exact ⟨by rw [f,r]; rfl,C⟩
   have r:hQ E d.aT[i]=true:=by simpa using r
   rw [r,bl9] at f;refine aI ?_ ?_<;>intro X
   ·refine ay b1 ((c.p,c.l,c.c),()) (ak ?_);rw [wrap_i64 ad ad];obtain ⟨ab,O,hc',va'⟩:=(v.aT.aj C).cells (i-1) ad;refine eS (aF O ?_);rw [show Int.toNat ((i:Int)-1)=i-1 from ad];refine ar (d.aT[i-1],()) hc' (ak ?_);have hla:pB d.aT i=d.aT[i-1]:=by
     unfold pB;rw [ac9 ad,cg9,ad9 ad] <;> rfl
    rw [leB];rw [hla] at f;refine ao ?_ ?_<;>intro P
    ·have P:decide (iW d.aT[i-1] d.aT[i])=false:=by simpa using P
     exact ⟨by rw [f,P]; rfl,C⟩
    ·have P:decide (iW d.aT[i-1] d.aT[i])=true:=by simpa using P
     rw [P,bl9] at f;refine aC (cs:=fV) (Y,((i+1:Nat):Int),()) (d.aT.length-(i+1)) rfl ad (by rw [wrap_i64 ad ad]; rfl) ?_;exact ⟨i+1,rfl,ad,rfl,C,b1,m,f⟩
   ·have hi0:i=0:=ad
    subst hi0;have hg:decide (iW (pB d.aT 0) d.aT[0])=true:=ak9 (GF (m.2 _ (xo r)));rw [hg,bl9] at f;refine aC (cs:=fV) (Y,((0+1:Nat):Int),()) (d.aT.length-(0+1)) rfl ad (by rw [wrap_i64 ad ad]; rfl) ?_;exact ⟨0+1,rfl,ad,rfl,C,b1,m,f⟩
  ·have g:i=d.aT.length:=ad
   subst g;rw [dg9] at f;exact ⟨by rw [f]; rfl,C⟩
def Rm (l:List UInt8):List (List Xab):=l.map λb=>[.int .u8 (b.toNat:Int)]
def JG (l:List UInt8):(Rm l).length=l.length:=by simp [Rm]
def Q6 (l:List UInt8):(Rm l).flatten=l.map λb=>.int .u8 (b.toNat:Int):=by
 induction l with
 | nil=>rfl
 | cons a l c =>
  have:Rm (a::l)=[.int .u8 (a.toNat:Int)]::Rm l:=rfl
  rw [this,er9,c] <;> rfl
def byZ:(Tryz.prog.info? 5).map (λi=>(i.zero,i.size,i.bytes))=some (some (.int .u8 0),1,1):=av
def SL.cj {h:Hp} {b:Nat} {e:TypeId} {sz l c:Nat} {xs:List (List Xab)} (s:SL h b e sz H l c xs):∀ i,i∈ax H->b<=i/\i<h.size:=by
 intro i hi;cases H with
 | none=>simp [ax] at hi
 | some a =>
  obtain ⟨g,f,rest,rfl,j,_,d,_⟩:=s.2.2;simp [ax] at hi;exact ⟨ad,by rw [hi]; exact d.lt⟩
def yj {P:Program} {h:Hp} (a:Xax) (l:List UInt8) (cap:Nat) (K:Xab->Hp->Prop) (hc:aH h a 0 (l.map B')) (hk:K (.string ⟨l.toArray⟩) h):aQ P (Conv.bytesToString (.slice (some a) l.length cap)) h K:=by
 unfold Conv.bytesToString;simp only;rw [an];refine dK ai hc _ ?_;rw [an,<- Array.forIn_toList]
 have b:∀ (l:List UInt8) (s:Xaa) (K':Xaa->Hp->Prop),K' ⟨s.data++l.toArray⟩ h->aQ P (forIn (l.map B') s λc r=>match c with
   | .int .u8 n=>(pure (ForInStep.yield (r.push (UInt8.ofNat n.toNat))):Sem (ForInStep Xaa))
   | _ => stuck "bytesToString: byte expected") h K' := by
  intro l
  induction l with
  | nil =>
   intro s K' hk;have e:(⟨s.data++([]:List UInt8).toArray⟩:Xaa)=s:=ai
   rw [e] at hk;exact hk
  | cons c l d =>
   intro s K' hk;rw [bq9,List.forIn_cons];rw [an];show aQ P (forIn (List.map B' l) (s.push (UInt8.ofNat ((c.toNat:Nat):Int).toNat)) _) h K';have e1:UInt8.ofNat ((c.toNat:Nat):Int).toNat=c:=ai
   rw [e1];refine d (s.push c) K' ?_
   have:(⟨(s.push c).data++l.toArray⟩:Xaa)=⟨s.data++(c::l).toArray⟩:=by
    congr 1
    apply ca9.1
    simp
   rw [this]; exact hk
 refine b l ByteArray.empty _ ?_;have e:(⟨ByteArray.empty.data++l.toArray⟩:Xaa)=⟨l.toArray⟩:=by
  congr 1
  apply ca9.1
  simp
 rw [e];exact hk
abbrev St:=Except (Nat × Nat) Bt
def neK {k c:Nat} (h:k≠c):(((k:Nat):Int)==(c:Int))=false:=by
 simp only [beq_eq_false_iff_ne,ne_eq];omega
def iz:List Xab:=[vI (0:Int),.string ⟨#[]⟩,vI (0:Int),vI (0:Int),vI (0:Int),.int .i32 (0:Int),vI (0:Int),.slice none 0 0,.int .u32 (0:Int),vI (0:Int)]
structure Ls {α:Type} (e:TypeId) (sz:Nat) (enc:bC->α->List Xab) (tm:α->dr) (ok:α->Prop) (h:Hp) (b:Nat) (p:Xac) (l c:Nat) (us:List (bC × α)):Prop where
 sl:SL h b e sz p l c (us.map λu=>enc u.1 u.2)
 own:∀ u,u∈us->SL h b 64 2 u.1.p u.1.l u.1.c ((tm u.2).map cT)
 ok:∀ u,u∈us->ok u.2
section
variable {α:Type} {e:TypeId} {sz:Nat} {enc:bC->α->List Xab} {tm:α->dr} {ok:α->Prop} {h h':Hp} {b b':Nat} {p:Xac} {l c:Nat} {us:List (bC × α)}
end
abbrev ptr (g:Nat):Xab:=.pointer (some ⟨g,0,none⟩)
def Wr:Tryz.prog.underlying 46=some (.slice 55):=av
def ZU:Tryz.prog.underlying 67=some (.slice 116):=av
def KN:Tryz.prog.underlying 68=some (.slice 9):=av
def aaF:(Tryz.prog.info? 55).map (λi=>(i.zero,i.size,i.bytes))=some (some (.agg iz.toArray),10,104):=av
def YU:(Tryz.prog.info? 9).map (λi=>(i.zero,i.size,i.bytes))=some (some (.string ⟨#[]⟩),1,16):=av
def SL.ye {h:Hp} {b:Nat} {e:TypeId} {sz l c:Nat} {xs:List (List Xab)} (s:SL h b e sz H l c xs):∀ i,i∈ax H->∃ xs,br h i e xs:=by
 intro i hi;cases H with
 | none=>simp [ax] at hi
 | some a =>
  obtain ⟨g,f,rest,rfl,j,_,d,_⟩:=s.2.2;simp [ax] at hi;subst hi;exact ⟨_,d⟩
def SL.lB {ws:List Nat} {h h':Hp} {b:Nat} {e d:TypeId} {sz l c:Nat} {xs:List (List Xab)} (s:SL h b e sz H l c xs) (k:Ch ws h h') (g:∀ i,i∈ws->∃ ys,br h i d ys) (j:e≠d):SL h' b e sz H l c xs:=by
 refine Sx.SL.bf s k (λi hi m=>?_);obtain ⟨ys,f⟩:=SL.ye s i hi;obtain ⟨zs,a⟩:=g i m;unfold br at f a;rw [f] at a;simp only [Option.some.injEq,Obj.cells.injEq] at a;exact j a.2.1
section
variable {h0 h:Hp} {g gm:Nat} {bp:Xac} {bl bc:Nat} {full:Bt} {st:St} {D:List Xaa}
end
def mG:bC:=⟨none,0,0⟩
abbrev Xw:=Ls 55 10 (λs x=>encI s.p s.l s.c x) (λx:cB=>x.e.af) (λ_=>True)
def CN:Tryz.prog.underlying 46=some (.slice 55):=av
def GN:(Tryz.prog.info? 55).map (λi=>(i.zero,i.size,i.bytes))=some (some (.agg iz.toArray),10,104):=av
def uN (u:bC × cB):List Xab:=encI u.1.p u.1.l u.1.c u.2
def HF {a b:Nat} (h:(((a:Nat):Int)==((b:Nat):Int))=true):a=b:=by
 have:=eq_of_beq h
 omega
def HQ {a b:Nat} (h:(((a:Nat):Int)==((b:Nat):Int))=false):¬ a=b:=by
 rintro rfl;simp at h
variable {U:Lp} {e:Bool}
def LQ {K:Xab->Hp->Prop} {h:Hp} {t u:T} (a:e=false->u U K h) (ht:e=true->t U K h):(cond e t u) U K h:=ao ht a
theorem fj {h:Hp} {a:Xax}:∀ (b:List Xab) (o i:Nat),aH h a (o+i) b->aH h (a.add o) i b
 | [],_,_,_=>trivial
 | v::b,o,i,hc=>⟨by rw [add_add]; exact hc.1,fj b o (i+1) hc.2⟩
def sr (s t:Xaa):(ByteArray.toList s==ByteArray.toList t)=decide (s=t):=by
 rw [ByteArray.toList_eq,ByteArray.toList_eq]
 by_cases h:s=t
 ·rw [ak9 h,h]; simp
 ·rw [al9 h]
  have:¬ s.data.toList=t.data.toList:=λe=>h (AX e)
  simpa using this
def T5 (x y:Operand) (i j:Ins) (h:Hp) (K:Xab->Hp->Prop) (hk:K (.bool (decide (i=j))) h) :
  aQ Xaz (Sx.vr (BinOp.eql) 49 x y (.agg (qa i).toArray) (.agg (qa j).toArray)) h K:=by
 refine G7 V1 av av av K ?_;have c:(wJ Xaz 49).all (IB (qa i).toArray (qa j).toArray)=(i.op==j.op && (i.a==j.a && (i.b==j.b && (i.n==j.n && (i.form==j.form && true))))):=by
  rw [<- df9]
  kernel_rfl
 rw [c,di9]
 have:(i.op==j.op && (i.a==j.a && (i.b==j.b && (i.n==j.n && i.form==j.form))))=decide (i=j):=by
  rcases i with ⟨d,e,f,g,k⟩
  rcases j with ⟨l,m,c3,o,c5⟩
  simp only [dz,Ins.mk.injEq]
  by_cases h1:d=l <;> by_cases h2:e=m <;> by_cases p:f=c3 <;> by_cases q:g=o <;> by_cases r:k=c5 <;> simp [h1,h2,p,q,r]
 rw [this];exact hk
structure xZ (h:Hp) (p:Xac) (l:Nat) (us:List cm):Prop where
 len:l=us.length
 many:us.length<=2^60
 cells:∀ i,(hi:i<us.length)->∃ a sa sb sc sd,p=some a/\aH h (a.add (i*4)) 0 [bC.v sa,bC.v sb,bC.v sc,bC.v sd]/\vp h sa sb sc sd us[i]
def xZ.aj {h h':Hp} {p:Xac} {l:Nat} {us:List cm} (v:xZ h p l us) (k:Ext h h'):xZ h' p l us :=
 ⟨v.len,v.many,λi hi=>by
  obtain ⟨a,sa,sb,sc,sd,b,hc,hv⟩:=v.cells i hi;exact ⟨a,sa,sb,sc,sd,b,aP k ai _ _ hc,hv.aj k⟩⟩
def Db (u:cm):Bool:=decide (600<u.text.length) || decide (300<u.data.length) || decide (100<u.bi.length)
def LC (u:cm):Nat:=u.text.length+u.data.length+u.bi.length
def jq (us:List cm):Nat:=(us.map LC).sum
def vu (us:List cm):Bool:=(us.take 65).any Db || decide (900<jq (us.take 65))
def Ot {α:Type} (f:α->Bool) (l:List α) {i n:Nat} (hi:i<l.length) (hn:i<n) (h:f l[i]=true):(l.take n).any f=true:=by
 rw [ed9];exact ⟨l[i],List.mem_take_iff_getElem.2 ⟨i,ad,rfl⟩,h⟩
def IN (us:List cm) {i:Nat} (hi:i<us.length):jq (us.take (i+1))=jq (us.take i)+LC us[i]:=by
 unfold jq;rw [af9 hi,ao9,List.sum_append]
 simp
def OB {h:Hp} {l c:Nat} {us:List cm} (v:xZ h H l us):ug Xaz 23 [.slice H l c] h (.bool (vu us)):=by
 refine eW mixed Tryz.func23 av (ql H l c) ?_;unfold kS aR aY bz aK bY fR aS cH;have hl:=v.len;have hm:=v.many;refine aM (cs:=UG) (λy m h'=>∃ i:Nat,y.1=false/\y.2.1=((jq (us.take i):Nat):Int)/\y.2.2.1=(i:Int)/\m=l-i/\i<=l/\i<=65/\h'=h/\(us.take i).any Db=false/\jq (us.take i)<=i*1000) (false,(0:Int),(0:Int),()) l rfl
  ⟨0,rfl,rfl,rfl,rfl,ad,ad,rfl,rfl,by simp [jq]⟩ ?_
 rintro ⟨A,B,C,⟨⟩⟩ m h1 ⟨i,e,f,j,rfl,hi,o,rfl,q,D⟩;simp only at e f j;subst e f j;refine ak ?_;have d:(l<=i\/65<=i)->(T.ret (.bool (decide (((jq (us.take i):Nat):Int)>(900:Int))))) [Jl (cs:=UG) (λy m h'=>∃ i:Nat,y.1=false/\y.2.1=((jq (us.take i):Nat):Int)/\y.2.2.1=(i:Int)/\m=l-i/\i<=l/\i<=65/\h'=h1/\(us.take i).any Db=false/\jq (us.take i)<=i*1000) (l-i)] (λv' h'=>v'=.bool (vu us)/\h'=h1) h1:=by
  intro E
  have:us.take i=us.take 65:=by
   by_cases k:i=65
   ·rw [k]
   ·rw [bo9 ad,bo9 ad]
  refine ⟨?_,rfl⟩;unfold vu;rw [<- this,q,fa9]
  congr 1
  by_cases g:900<jq (us.take i)
  ·rw [ak9 g,ak9 ad]
  ·rw [al9 g,al9 ad]
 refine LQ ?_ ?_<;>intro r
 ·have r:=aw9 r;exact d ad
 have r:=ai9 r;refine LQ ?_ ?_<;>intro w
 ·have w:=aw9 w;exact d ad
 have w:=ai9 w;clear d;have b:i<us.length:=ad
 obtain ⟨a,sa,sb,sc,sd,rfl,hc,hv⟩:=v.cells i b;have na:=hv.text.len;have nb:=hv.data.len;have nc:=hv.bi.len;have s:aH h1 (a.add (i*4)) 0 [bC.v sa]:=⟨hc.1,trivial⟩
 have t:aH h1 ((a.add (i*4)).add 1) 0 [bC.v sb]:=fj _ 1 0 ⟨hc.2.1,trivial⟩;have u:aH h1 ((a.add (i*4)).add 2) 0 [bC.v sc]:=fj _ 2 0 ⟨hc.2.2.1,trivial⟩;have rC:Db us[i]=true->(T.ret (.bool true)) [Jl (cs:=UG) (λy m h'=>∃ i:Nat,y.1=false/\y.2.1=((jq (us.take i):Nat):Int)/\y.2.2.1=(i:Int)/\m=l-i/\i<=l/\i<=65/\h'=h1/\(us.take i).any Db=false/\jq (us.take i)<=i*1000) (l-i)] (λv' h'=>v'=.bool (vu us)/\h'=h1) h1:=by
  intro z;refine ⟨?_,rfl⟩;unfold vu;rw [Ot Db us b ad z] <;> rfl
 refine bM rfl ?_;refine ar ((sa.p,sa.l,sa.c),()) s (ak ?_);refine ao (λg=>?_) (λg1=>?_)
 ·have g:=ai9 g;refine rC ?_;unfold Db;rw [ak9 ad] <;> rfl
 have g1:=aw9 g1;refine bM rfl ?_;refine ar ((sb.p,sb.l,sb.c),()) t (ak ?_);refine ao (λg=>?_) (λg2=>?_)
 ·have g:=ai9 g;refine rC ?_;unfold Db;rw [ak9 (show 300<us[i].data.length from ad)]
  simp
 have g2:=aw9 g2;refine bM rfl ?_;refine ar ((sc.p,sc.l,sc.c),()) u (ak ?_);refine ao (λg=>?_) (λg3=>?_)
 ·have g:=ai9 g;refine rC ?_;unfold Db;rw [ak9 (show 100<us[i].bi.length from ad)]
  simp
 have g3:=aw9 g3;refine bM rfl ?_;refine ar ((sa.p,sa.l,sa.c),()) s (ak ?_);refine bM rfl ?_;refine ar ((sb.p,sb.l,sb.c),()) t (ak ?_);refine bM rfl ?_;refine ar ((sc.p,sc.l,sc.c),()) u (ak ?_);rw [wrap_i64 (x:=((jq (us.take i):Nat):Int)+(sa.l:Int)) ad ad,wrap_i64 (x:=((jq (us.take i):Nat):Int)+(sa.l:Int)+(sb.l:Int)) ad ad,wrap_i64 (x:=((jq (us.take i):Nat):Int)+(sa.l:Int)+(sb.l:Int)+(sc.l:Int)) ad ad,wrap_i64 (x:=(i:Int)+1) ad ad];have hst:=IN us b;have n:LC us[i]=sa.l+sb.l+sc.l:=by unfold LC; omega
 refine aC (cs:=UG) (false,((jq (us.take (i+1)):Nat):Int),((i+1:Nat):Int),()) (l-(i+1)) rfl ad ?_ ?_
 ·show [Value.bool false,Value.int .i64 (((jq (us.take i):Nat):Int)+(sa.l:Int)+(sb.l:Int)+(sc.l:Int)),Value.int .i64 ((i:Int)+1)]=[Value.bool false,Value.int .i64 ((jq (us.take (i+1)):Nat):Int),Value.int .i64 ((i+1:Nat):Int)];rw [hst,n]
  congr 3
  omega
 ·refine ⟨i+1,rfl,rfl,rfl,rfl,ad,ad,rfl,?_,ad⟩;rw [af9 b,List.any_append,q,fa9];unfold Db;simp only [List.any_cons,List.any_nil,Bool.or_false,Bool.or_eq_false_iff,decide_eq_false_iff_not];omega
def Vu:Array (Nat × Xab):=#[(0,.agg #[.string ⟨#[110,111,112]⟩,.int .u8 (0:Int),vI (1:Int)]),(1,.agg #[.string ⟨#[104,97,108,116]⟩,.int .u8 (1:Int),vI (1:Int)]),(2,.agg #[.string ⟨#[114,101,116]⟩,.int .u8 (2:Int),vI (1:Int)]),(3,.agg #[.string ⟨#[112,114,105,110,116]⟩,.int .u8 (3:Int),vI (2:Int)]),(4,.agg #[.string ⟨#[105,110]⟩,.int .u8 (4:Int),vI (2:Int)]),(5,.agg #[.string ⟨#[112,117,115,104]⟩,.int .u8 (5:Int),vI (2:Int)]),(6,.agg #[.string ⟨#[112,111,112]⟩,.int .u8 (6:Int),vI (2:Int)]),(7,.agg #[.string ⟨#[106,114]⟩,.int .u8 (7:Int),vI (2:Int)]),(8,.agg #[.string ⟨#[110,101,103]⟩,.int .u8 (8:Int),vI (2:Int)]),(9,.agg #[.string ⟨#[110,111,116]⟩,.int .u8 (9:Int),vI (2:Int)]),(10,.agg #[.string ⟨#[122,116,117,114,110]⟩,.int .u8 (10:Int),vI (3:Int)]),(11,.agg #[.string ⟨#[122,99,111,110,106]⟩,.int .u8 (11:Int),vI (3:Int)]),(12,.agg #[.string ⟨#[109,111,118]⟩,.int .u8 (16:Int),vI (4:Int)]),(13,.agg #[.string ⟨#[97,100,100]⟩,.int .u8 (17:Int),vI (4:Int)]),(14,.agg #[.string ⟨#[115,117,98]⟩,.int .u8 (18:Int),vI (4:Int)]),(15,.agg #[.string ⟨#[109,117,108]⟩,.int .u8 (19:Int),vI (4:Int)]),(16,.agg #[.string ⟨#[100,105,118]⟩,.int .u8 (20:Int),vI (4:Int)]),(17,.agg #[.string ⟨#[97,110,100]⟩,.int .u8 (21:Int),vI (4:Int)]),(18,.agg #[.string ⟨#[111,114]⟩,.int .u8 (22:Int),vI (4:Int)]),(19,.agg #[.string ⟨#[120,111,114]⟩,.int .u8 (23:Int),vI (4:Int)]),(20,.agg #[.string ⟨#[115,104,108]⟩,.int .u8 (24:Int),vI (4:Int)]),(21,.agg #[.string ⟨#[115,104,114]⟩,.int .u8 (25:Int),vI (4:Int)]),(22,.agg #[.string ⟨#[108,116]⟩,.int .u8 (26:Int),vI (4:Int)]),(23,.agg #[.string ⟨#[101,113]⟩,.int .u8 (27:Int),vI (4:Int)]),(24,.agg #[.string ⟨#[108,100,98]⟩,.int .u8 (28:Int),vI (4:Int)]),(25,.agg #[.string ⟨#[108,100,119]⟩,.int .u8 (29:Int),vI (4:Int)]),(26,.agg #[.string ⟨#[108,100,109]⟩,.int .u8 (30:Int),vI (4:Int)]),(27,.agg #[.string ⟨#[115,116,109]⟩,.int .u8 (31:Int),vI (4:Int)]),(28,.agg #[.string ⟨#[122,109,111,118]⟩,.int .u8 (32:Int),vI (5:Int)]),(29,.agg #[.string ⟨#[122,97,100,100]⟩,.int .u8 (33:Int),vI (5:Int)]),(30,.agg #[.string ⟨#[122,115,117,98]⟩,.int .u8 (34:Int),vI (5:Int)]),(31,.agg #[.string ⟨#[122,109,117,108]⟩,.int .u8 (35:Int),vI (5:Int)]),(32,.agg #[.string ⟨#[122,114,101]⟩,.int .u8 (36:Int),vI (6:Int)]),(33,.agg #[.string ⟨#[122,105,109]⟩,.int .u8 (37:Int),vI (6:Int)]),(34,.agg #[.string ⟨#[122,115,101,116]⟩,.int .u8 (38:Int),vI (7:Int)]),(35,.agg #[.string ⟨#[108,105,115]⟩,.int .u8 (48:Int),vI (8:Int)]),(36,.agg #[.string ⟨#[116,114,97,112]⟩,.int .u8 (49:Int),vI (9:Int)]),(37,.agg #[.string ⟨#[108,105]⟩,.int .u8 (50:Int),vI (10:Int)]),(38,.agg #[.string ⟨#[108,100,112]⟩,.int .u8 (51:Int),vI (11:Int)]),(39,.agg #[.string ⟨#[106,109,112]⟩,.int .u8 (64:Int),vI (12:Int)]),(40,.agg #[.string ⟨#[99,97,108,108]⟩,.int .u8 (67:Int),vI (12:Int)]),(41,.agg #[.string ⟨#[106,122]⟩,.int .u8 (70:Int),vI (13:Int)]),(42,.agg #[.string ⟨#[106,110,122]⟩,.int .u8 (73:Int),vI (13:Int)])]
def wL (k:Nat):Xaa:=match Vu[k]? with | some (_,.agg #[.string s,_,_])=>s | _=>⟨#[]⟩
def xJ (k:Nat):Int:=match Vu[k]? with | some (_,.agg #[_,.int _ b,_])=>b | _=>0
def aaz:Tryz.prog.underlying 141=some (.slice 144):=av
def opZ:(Tryz.prog.info? 144).map (λi=>(i.zero,i.size,i.bytes))=some (some (.agg #[.string ⟨#[]⟩,.int .u8 0,vI 0]),3,32):=av
def UY:Instr.fill (λj=>some (j*3,3)) ((Array.range (43*3)).map ((Value.agg #[.string ⟨#[]⟩,.int .u8 0,vI 0]).cells[· % (Value.agg #[.string ⟨#[]⟩,.int .u8 0,vI 0]).cells.size]!)) Vu.toList=some (mJ wL xJ).toArray:=av
def Xz (h:Hp):HC Xaz 49 #[] h λv h'=>v=.slice (some ⟨h.size,0,none⟩) 43 43/\br h' h.size 144 (mJ wL xJ)/\Ext h h':=by
 refine aX (args:=[]) mixed Tryz.func49 av r8 ?_;show (T.dP Xaz (Instr.buildSlice 141 43 Vu) false [(false,[.slice 0])] <| λ(p0:Xac) (a b:Nat)=>T.ret (.slice p0 a b)) [] _ h;refine oB aaz opZ ad ad UY ?_;intro h1 c e1 z1;exact ⟨rfl,c,e1⟩
def N1 {nm:Nat->Xaa} {by_:Nat->Int} {k:Nat} (hk:k<43):(mJ nm by_)[k*3+2]?=some (vI (px.getD k 0:Nat)):=by
 unfold mJ;rw [xG _ 3 ai _ _ _ ad];simp [hk]
def pF (h:Hp) (op:Int) (f:Sm op):HC Xaz 26 #[vI op] h λw h'=>w=vI (dA op:Nat)/\Ext h h':=by
 refine aX (args:=[vI op]) mixed Tryz.func26 av (pP op) ?_;unfold kW cv bY;refine aG (Xz h) ?_;rintro _ h1 ⟨rfl,d,e1⟩;refine ⟨((some ⟨h.size,0,none⟩,43,43),()),rfl,ak ?_⟩;have c:op<1\/43<op->dA op=0:=by
  intro g
  by_cases h0:dA op=0
  ·exact h0
  ·have:=Jv op h0
   omega
 refine ao ?_ ?_<;>intro q
 ·have q:=ai9 q;rw [c (.inl q)];exact ⟨rfl,e1⟩
 have q:=aw9 q;refine ao ?_ ?_<;>intro r
 ·have r:op>((43:Nat):Int):=ai9 r;rw [c (.inr ad)];exact ⟨rfl,e1⟩
 have r:¬ op>((43:Nat):Int):=aw9 r;obtain ⟨k,hk⟩:∃ k:Nat,op=(k:Int)+1:=⟨(op-1).toNat,ad⟩
 rw [wrap_i64 ad ad,show op-1=(k:Int) from ad];have a:k<43:=ad
 refine eS ?_;refine aF rfl ?_;rw [cg k,aw,aw];have e:dA op=px.getD k 0:=by
  unfold dA;rw [ac9 ad,show (op-1).toNat=k from ad]
 refine aZ d (((px.getD k 0:Nat):Int),()) ?_ ?_
 ·show List.take 1 (List.drop (0+k*3+2) (mJ wL xJ))=[vI ((px.getD k 0:Nat):Int)]
  have:=N1 (nm:=wL) (by_:=xJ) a
  rw [by9];obtain ⟨b,hv⟩:=bc9.1 this;rw [ax9 b,List.take_succ_cons,List.take_zero,hv]
 ·rw [e];exact ⟨rfl,e1⟩
def Ed (h:Hp) (op:Int) (a:Sm op):HC Xaz 125 #[vI op] h λw h'=>w=.bool (uB op)/\Ext h h':=by
 refine aX (args:=[vI op]) mixed Tryz.func125 av (pT op) ?_;unfold kQ cY fR;have hc:=jb op;refine aG (pF h op a) ?_;rintro _ h1 ⟨rfl,e1⟩;refine ⟨(((dA op:Nat):Int),()),rfl,ak ?_⟩;refine ao ?_ ?_<;>intro q
 ·have q:dA op=12:=HF q;exact ⟨by unfold uB; rw [q]; rfl,e1⟩
 have q:¬ dA op=12:=HQ q;refine aG (pF h1 op a) ?_;rintro _ h2 ⟨rfl,e2⟩;refine ⟨(((dA op:Nat):Int),()),rfl,?_⟩;refine ⟨?_,e1.trans e2⟩
 congr 1
 unfold uB
 by_cases g:dA op=13
 ·rw [g]; rfl
 ·rw [al9 ad];exact neK (c:=13) g
def L8 (h:Hp) (op:Int) (e:Sm op):HC Xaz 127 #[vI op] h λw h'=>w=.bool (Iw op)/\Ext h h':=by
 refine aX (args:=[vI op]) mixed Tryz.func127 av (rf op) ?_;unfold lQ cY fR;have hc:=jb op;refine aG (pF h op e) ?_;rintro _ h1 ⟨rfl,e1⟩;refine ⟨(((dA op:Nat):Int),()),rfl,ak ?_⟩;refine ao (λq=>?_) (λa=>?_)
 ·have q:dA op=10:=HF q;exact ⟨by unfold Iw; rw [q]; rfl,e1⟩
 have a:¬ dA op=10:=HQ a;refine ao (λq=>?_) (λb=>?_)
 ·have q:dA op=11:=HF q;exact ⟨by unfold Iw; rw [q]; rfl,e1⟩
 have b:¬ dA op=11:=HQ b;refine ao (λq=>?_) (λd=>?_)
 ·have q:dA op=12:=HF q;exact ⟨by unfold Iw; rw [q]; rfl,e1⟩
 have d:¬ dA op=12:=HQ d;refine ⟨?_,e1⟩
 congr 1
 unfold Iw
 by_cases g:dA op=13
 ·rw [g]; rfl
 ·rw [al9 ad];exact neK (c:=13) g
def Uh (h:Hp) (n w:Int):ug Xaz 151 [.int .i32 n,vI w] h (.bool ((decide (w=1) || decide (w=2) || decide (w=4)) && nU n w)):=by
 refine eW mixed Tryz.func151 av (qH n w) ?_;unfold mi nU cC fR;refine ao (λq=>?_) (λa=>?_)
 ·have q:w=1:=by simpa using q
  rw [ag9 q,q];refine ao (λr=>⟨?_,rfl⟩) (λr=>⟨?_,rfl⟩)
  ·have r:=ai9 r;rw [ak9 (show -128<=n from r)]
   simp
  ·have r:=aw9 r;rw [al9 (show ¬ -128<=n from r)]
   simp
 have a:¬ w=1:=by simpa using a
 rw [ac9 a];refine ao (λq=>?_) (λb=>?_)
 ·have q:w=2:=by simpa using q
  rw [ag9 q,q];refine ao (λr=>⟨?_,rfl⟩) (λr=>⟨?_,rfl⟩)
  ·have r:=ai9 r;rw [ak9 (show -32768<=n from r)]
   simp
  ·have r:=aw9 r;rw [al9 (show ¬ -32768<=n from r)]
   simp
 have b:¬ w=2:=by simpa using b
 rw [ac9 b];refine ao (λq=>?_) (λc=>?_)
 ·have q:w=4:=by simpa using q
  rw [q];exact ⟨rfl,rfl⟩
 ·have c:¬ w=4:=by simpa using c
  rw [al9 a,al9 b,al9 c];exact ⟨rfl,rfl⟩
def aA (s:Nat):Nat:=if s=2\/s=8\/s=10\/s=11\/s=13\/s=4\/s=6 then 8 else if s=3\/s=5\/s=7 then 4 else 0
def bB (s:Nat):Nat:=if s=4\/s=7 then 8 else if s=5\/s=6 then 4 else 0
def Q0 {s:Nat} (c:1<=s/\s<=13) (a b n:Int):cS s a b n=true↔(0<=a/\0<=b/\(a<(aA s:Int)\/(aA s=0/\a=0))/\(b<(bB s:Int)\/(bB s=0/\b=0))/\(s=7->0<=n/\n<=7)):=by
 have:s=1\/s=2\/s=3\/s=4\/s=5\/s=6\/s=7\/s=8\/s=9\/s=10\/s=11\/s=12\/s=13:=ad
 unfold cS x5 aA bB;rcases this with rfl | rfl | rfl | rfl | rfl | rfl | rfl | rfl | rfl | rfl | rfl | rfl | rfl <;> simp <;> omega
def Nv (h:Hp) (op a b n form:Int) (e:Sm op) (g:dA op≠0):HC Xaz 150 #[dF op a b n form] h λw h'=>w=.bool (cS (dA op) a b n)/\Ext h h':=by
 refine aX (args:=[dF op a b n form]) mixed Tryz.func150 av (mw op a b n form) ?_;unfold iE cY cC aS;have hc:1<=dA op/\dA op<=13:=by have:=jb op; omega
 refine bn ?_;intro h1 d e1 z1;refine ay d (op,()) (ak ?_);refine aG (pF h1 op e) ?_;rintro _ h2 ⟨rfl,e2⟩;refine ⟨(((dA op:Nat):Int),()),rfl,ak ?_⟩;have b2:=d.aj e2 ai;have e02:=e1.trans e2;have hiff:=Q0 hc a b n;generalize dA op=s at *;generalize cS s a b n=R at *;refine fO (cs:=fV) (λy h'=>y=(((aA s:Nat):Int),((bB s:Nat):Int),())/\h2=h') ?_ ?_
 ·have:s=1\/s=2\/s=3\/s=4\/s=5\/s=6\/s=7\/s=8\/s=9\/s=10\/s=11\/s=12\/s=13:=ad
  rcases this with rfl | rfl | rfl | rfl | rfl | rfl | rfl | rfl | rfl | rfl | rfl | rfl | rfl
  all_goals (repeat (first | refine bU rfl ?_ | refine bX rfl ?_))
  all_goals exact dE (cs:=fV) (((aA _:Nat):Int),((bB _:Nat):Int),()) rfl rfl ⟨rfl,rfl⟩
 rintro ⟨A,B,⟨⟩⟩ _ ⟨f,rfl⟩;cases f;refine ak ?_;simp only [aw];have c:∀ b:Bool,(b=true↔R=true)->(T.ret (.bool b)) [] (λw h'=>w=.bool R/\Ext h h') h2:=by
  intro b i;refine ⟨?_,e02⟩;cases b <;> cases R <;> simp_all
 repeat' (first
  | (refine aZ b2 (a,()) rfl ?_; refine ak ?_)
  | (refine aZ b2 (b,()) rfl ?_; refine ak ?_)
  | (refine aZ b2 (n,()) rfl ?_; refine ak ?_)
  | refine c _ ?_
  | refine ao (λq=>?_) (λq=>?_))
 all_goals (rw [hiff]; simp only [decide_eq_true_eq,decide_eq_false_iff_not,bne_iff_ne,ne_eq,bne_eq_false_iff_eq,Bool.false_eq_true,false_iff,true_iff] at *; omega)
def xN (n w:Int):Bool:=(decide (w=1) || decide (w=2) || decide (w=4)) && nU n w
def Gu (n w:Int):Prop:=(w=1/\-128<=n/\n<=127)\/(w=2/\-32768<=n/\n<=32767)\/w=4
def KL (n w:Int):xN n w=true↔Gu n w:=by
 unfold xN nU Gu
 by_cases h1:w=1
 ·subst h1; simp
 ·by_cases h2:w=2
  ·subst h2; simp
  ·by_cases a:w=4
   ·subst a; simp
   ·simp [h1,h2,a]
def Xq (n w:Int):xN n w=false↔¬ Gu n w:=by
 rw [<- KL]
 simp
def bt {i:Ins} (h0:dA i.op≠0) (l:cS (dA i.op) i.a i.b i.n=true) (P:Prop) (m:P↔((dA i.op=12\/dA i.op=13->Gu i.n i.form)/\(dA i.op≠12/\dA i.op≠13->i.form=0)/\(dA i.op=8->-128<=i.n/\i.n<=127)/\(dA i.op=9->0<=i.n/\i.n<=255)/\(dA i.op=11->0<=i.n/\i.n<=4095) /\
  (dA i.op<7->i.n=0))):(P->iF i=0)/\(¬ P->iF i=13):=by
 obtain ⟨op,a,b,n,form⟩:=i;simp only at *;have hc:=jb op;have c:(!uB op && decide (form≠0) || !nR (dA op) n form)=true↔¬ P:=by
  rw [m];unfold uB nR nU Gu
  have:dA op=1\/dA op=2\/dA op=3\/dA op=4\/dA op=5\/dA op=6\/dA op=7\/dA op=8\/dA op=9\/dA op=10\/dA op=11\/dA op=12\/dA op=13:=ad
  rcases this with h | h | h | h | h | h | h | h | h | h | h | h | h <;> rw [h]
  all_goals (
   by_cases f:form=1
   ·subst f; simp; try omega
   ·by_cases g:form=2
    ·subst g; simp; try omega
    ·by_cases j:form=4
     ·subst j; simp; try omega
     ·by_cases k:form=0
      ·subst k; simp; try omega
      ·simp [f,g,j,k])
 unfold iF;simp only;rw [ac9 h0,l,ac9 ai];refine ⟨λd=>?_,λd=>?_⟩
 ·rw [ac9 (λe=>c.1 e d)]
 ·rw [ag9 (c.2 d)]
def Nx (h:Hp) (op a b n form:Int) (g:Sm op):HC Xaz 126 #[dF op a b n form] h λw h'=>w=vI (iF ⟨op,a,b,n,form⟩)/\Ext h h':=by
 refine aX (args:=[dF op a b n form]) mixed Tryz.func126 av (pa op a b n form) ?_;unfold ld bj cY;refine bn ?_;intro h1 j e1 z1;refine ay j (op,()) (ak ?_);refine aG (pF h1 op g) ?_;rintro _ h2 ⟨rfl,e2⟩;refine ⟨(((dA op:Nat):Int),()),rfl,ak ?_⟩;have b2:=j.aj e2 ai;have e02:=e1.trans e2;refine ao ?_ ?_<;>intro q
 ·have q:dA op=0:=HF q;exact ⟨by unfold iF; simp only; rw [ag9 q],e02⟩
 have q:¬ dA op=0:=HQ q;refine ay b2 (op,a,b,n,form,()) (ak ?_);refine iQ (Nv h2 op a b n form g q) ?_;intro h3 k;have b3:=b2.aj k ai;have e03:=e02.trans k;refine ao ?_ ?_<;>intro r
 ·have r:cS (dA op) a b n=false:=by simpa using r
  exact ⟨by unfold iF; simp only; rw [ac9 q,r,ag9 rfl],e03⟩
 have r:cS (dA op) a b n=true:=by simpa using r
 have hc:=jb op;obtain ⟨e,c⟩:=bt (i:=⟨op,a,b,n,form⟩) q r _ Iff.rfl;simp only at e c;generalize iF ⟨op,a,b,n,form⟩=C at *;generalize dA op=s at *;clear r;have l:((s=12\/s=13->Gu n form)/\(s≠12/\s≠13->form=0)/\(s=8->-128<=n/\n<=127)/\(s=9->0<=n/\n<=255)/\(s=11->0<=n/\n<=4095)/\(s<7->n=0))->(T.ret (vI (0:Int))) [] (λw h'=>w=vI C/\Ext h h') h3:=λf=>⟨by rw [e f],e03⟩
 have d:¬ ((s=12\/s=13->Gu n form)/\(s≠12/\s≠13->form=0)/\(s=8->-128<=n/\n<=127)/\(s=9->0<=n/\n<=255)/\(s=11->0<=n/\n<=4095)/\(s<7->n=0))->(T.ret (vI (13:Int))) [] (λw h'=>w=vI C/\Ext h h') h3:=λf=>⟨by rw [c f],e03⟩
 clear e c;simp only [aw]
 repeat' (first
  | (refine aZ b3 (n,()) rfl ?_; refine ak ?_)
  | (refine aZ b3 (form,()) rfl ?_; refine ak ?_)
  | refine l ?_
  | refine d ?_
  | refine aJ (b:=xN n form) (Uh h3 n form) ?_
  | refine ao (λq=>?_) (λq=>?_))
 all_goals (
  clear l d;simp only [decide_eq_true_eq,decide_eq_false_iff_not,bne_iff_ne,ne_eq,bne_eq_false_iff_eq,beq_iff_eq,beq_eq_false_iff_ne,Bool.not_eq_true',Bool.not_eq_false',KL,Xq,Gu] at *;omega)
def pf (x:cB) (a b c d:Bool):Bool:=(!a || z1 x) && ((!b || z2 x) && ((!c || z3 x) && (!d || z4 x)))
def XU (s:Xaa):(ByteArray.toList s==([]:List UInt8))=decide (s=dZ):=by
 have:=sr s dZ
 rw [show ByteArray.toList dZ=[] by rw [ByteArray.toList_eq]; rfl] at this;exact this
def Tq (n m:Nat) (i:Ins) (h:Hp) (K:Xab->Hp->Prop) (hk:K (.bool (decide (i=Va))) h) :
  aQ Xaz (Sx.vr (BinOp.eql) 49 (Operand.tmp n) (Operand.tmp m) (.agg #[vI i.op,vI i.a,vI i.b,.int .i32 i.n,vI i.form]) (.agg #[vI (0:Int),vI (0:Int),vI (0:Int),.int .i32 (0:Int),vI (0:Int)])) h K :=
 T5 _ _ i Va h K hk
def TX {h:Hp} {l c:Nat} (v:iA h H l O.e.af) (d f g i:Bool) :
  HC Xaz 124 #[xx H l c O,.bool d,.bool f,.bool g,.bool i] h λw h'=>w=.bool (pf O d f g i)/\Ext h h':=by
 refine aX (args:=[xx H l c O,.bool d,.bool f,.bool g,.bool i]) mixed Tryz.func124 av (q8 O.kind O.name O.inst.op O.inst.a O.inst.b O.inst.n O.inst.form H l c O.e.num O.n d f g i) ?_;unfold lY aE cC;have hl:=v.len;have j:SQ O.e=(decide (l=0) && decide (O.e.num=0)):=by
  unfold SQ
  congr 1
  rw [hl]
  simp
 refine bn ?_;intro h1 bx e1 k;have bx:br h1 h.size 55 (encI H l c O):=bx;simp only [aw];unfold pf z1 z2 z3 z4;rw [j]
 repeat' (first
  | (refine aZ bx (O.n,()) rfl ?_; refine ak ?_)
  | (refine aZ bx (O.name,()) rfl ?_; refine ak ?_)
  | (refine aZ bx ((H,l,c),()) rfl ?_; refine ak ?_)
  | (refine aZ bx ((O.e.num:Int),()) rfl ?_; refine ak ?_)
  | (refine aZ bx (O.inst.op,O.inst.a,O.inst.b,O.inst.n,O.inst.form,()) rfl ?_; refine ak ?_)
  | refine pL (λm o=>Tq _ _ O.inst h1 m o) ?_
  | refine ⟨as9 Value.bool ?_,e1⟩
  | refine ao (λq=>?_) (λq=>?_))
 all_goals (
  try simp only [XU] at *
  simp_all [dz])
 all_goals omega
def Vw (g:Nat) (i j l m:Bool) (k:Bool->T):T :=
 T.ah ⟨g,0,none⟩ [.int .i64,.string,.int .i64,.int .i64,.int .i64,.int .i32,.int .i64,.slice 64,.int .u32,.int .i64] <| λ(n:Int) (o:Xaa) (p n8 q a b:Int) (c:Xac) (d e:Nat) (f h:Int) =>
  cv 124 [.agg #[vI n,.string o,vI p,vI n8,vI q,.int .i32 a,vI b,.slice c d e,aE f,vI h],.bool i,.bool j,.bool l,.bool m] false [cH] k
def iN {K:Xab->Hp->Prop} {h:Hp} {g l c:Nat} {d f i:Bool} {k:Bool->T} (bx:br h g 55 (encI H l c O)) (v:iA h H l O.e.af) (hk:∀ h',Ext h h'->k (pf O e d f i) U K h'):Vw g e d f i k U K h:=by
 unfold Vw cv aE cH;refine ay bx (O.kind,O.name,O.inst.op,O.inst.a,O.inst.b,O.inst.n,O.inst.form,(H,l,c),(O.e.num:Int),O.n,()) (ak ?_);exact iQ (TX v e d f i) hk
def Ej (h:Hp) (n:Int):ug Xaz 128 [vI n] h (.bool (wv n)):=by
 refine eW mixed Tryz.func128 av (qk n) ?_;unfold la bY cC fR aS cH;refine aM (cs:=iv) (λy m h'=>∃ k:Nat,y=(false,((2^k:Nat):Int),())/\m=9-k/\k<=9/\h'=h/\(∀ j,j<k->¬ n=((2^j:Nat):Int))) (false,(1:Int),()) 9 rfl
  ⟨0,rfl,rfl,ad,rfl,λj a=>ad⟩ ?_
 rintro ⟨o,p,⟨⟩⟩ m h1 ⟨k,e,s,hk,rfl,a⟩;cases e;refine ak ?_;refine aI ?_ ?_<;>intro q
 ·have b:k<=8:=by
   by_cases g:k=9
   ·subst g;exact absurd q bH
   ·omega
  refine ao ?_ ?_<;>intro r
  ·have r:n=((2^k:Nat):Int):=by simpa using r
   refine ⟨?_,rfl⟩
   have:k=0\/k=1\/k=2\/k=3\/k=4\/k=5\/k=6\/k=7\/k=8:=ad
   rcases this with rfl | rfl | rfl | rfl | rfl | rfl | rfl | rfl | rfl <;> (rw [r]; rfl)
  ·have r:¬ n=((2^k:Nat):Int):=by simpa using r
   have d:2^k<=2^8:=Nat.pow_le_pow_right ad b;have f:((2^k:Nat):Int)<=256:=by exact_mod_cast d
   have i:(0:Int)<=((2^k:Nat):Int):=Int.natCast_nonneg _;rw [wrap_i64 ad ad];have h2:(2:Int)*((2^k:Nat):Int)=((2^(k+1):Nat):Int):=by rw [Nat.pow_succ]; omega
   rw [h2];refine aC (cs:=iv) (false,((2^(k+1):Nat):Int),()) (9-(k+1)) rfl ad rfl ⟨k+1,rfl,rfl,ad,rfl,λj l=>?_⟩
   by_cases g:j=k
   ·subst g; exact r
   ·exact a j ad
 ·have c:k=9:=by
   by_cases g:k=9
   ·exact g
   ·have d:2^k<=2^8:=Nat.pow_le_pow_right ad ad;omega
  subst c;refine ⟨?_,rfl⟩;have a0:=a 0 ad;have a1:=a 1 ad;have a2:=a 2 ad;have a3:=a 3 ad;have a4:=a 4 ad;have a5:=a 5 ad;have a6:=a 6 ad;have a7:=a 7 ad;have a8:=a 8 ad;unfold wv;simp only [Nat.reducePow] at a0 a1 a2 a3 a4 a5 a6 a7 a8;rw [al9 ad,al9 ad,al9 ad,al9 ad,al9 ad,al9 ad,al9 ad,al9 ad,al9 ad] <;> rfl
def Ox {h:Hp} {l c:Nat} (v:jj h H l O):HC Xaz 96 #[xx H l c O,vI (0:Int)] h λw h'=>w=FL (cI O 0)/\Ext h h':=by
 refine aX (args:=[xx H l c O,vI (0:Int)]) mixed Tryz.func96 av (nO O.kind O.name O.inst.op O.inst.a O.inst.b O.inst.n O.inst.form H l c O.e.num O.n) ?_;unfold jd bj cY aE cH;have U:maxLen=9223372036854775807:=rfl;refine bn ?_;intro h1 f e1 V;have f:br h1 h.size 55 (encI H l c O):=f;have v1:=v.aj e1;simp only [aw];refine fO (cs:=qd) (λy h'=>y.1=cI O 0/\Ext h h') ?_ ?_
 rotate_left
 ·rintro ⟨R,⟨⟩⟩ h' ⟨C,F⟩;simp only at C;subst C;refine ak ?_;cases hr:cI O 0
  ·exact ⟨rfl,F⟩
  ·exact ⟨rfl,F⟩
 have d:∀ (b:Bool) (h':Hp),b=cI O 0->Ext h h'->T.again 0 [.bool b] [λW h'=>∃ y:qu (flat [(false,[.bool])]),W=parts [(false,[.bool])] (et _ y)/\(y.1=cI O 0/\Ext h h')] (λw h'=>w=FL (cI O 0)/\Ext h h') h':=by
  rintro b h' rfl F;exact dE (cs:=qd) (J:=λy h'=>y.1=cI O 0/\Ext h h') (cI O 0,()) rfl rfl ⟨rfl,F⟩
 refine ay f (O.kind,()) (ak ?_)
 by_cases i:O.kind=1
 ·refine bU (by rw [i]; rfl) ?_;have hit:cI O 0=(cD O.name.data.toList && z2 O && z3 O && z4 O):=by unfold cI; rw [ag9 i]
  refine ay f (O.name,()) (ak ?_);refine aJ (ui O.name h1 (by have:=v.name; omega)) ?_;refine ao (λq=>?_) (λq=>d _ _ (by rw [hit,q]; rfl) e1);refine iN f v1.lin.vw ?_;intro h2 e2;exact d _ _ (by rw [hit,q]; unfold pf; simp [Bool.and_assoc]) (e1.trans e2)
 refine bX (by simpa using i) ?_
 by_cases k:O.kind=2
 ·refine bU (by rw [k]; rfl) ?_;have hit:cI O 0=(AZ O.inst O.e && z1 O && z4 O):=by unfold cI; rw [ac9 i,ag9 k]; simp
  refine ay f (O.inst.op,O.inst.a,O.inst.b,O.inst.n,O.inst.form,()) (ak ?_);refine bn ?_;intro h2 R e2 X;refine bJ R ?_;intro h3 D j Y;have D:br h3 h1.size 49 (qa O.inst):=D;have m:Ext h1 h3:=e2.st j (am9 _);have b13:=f.aj m ai;rw [aw];refine ay D (O.inst.form,()) (ak ?_);refine fO (cs:=[]) (λ_ h'=>br h' h1.size 49 (qa { O.inst with form:=if uB O.inst.op then 1 else O.inst.form })/\Ext h1 h') ?_ ?_
  ·refine ay D (O.inst.op,()) (ak ?_);refine iQ (Ed h3 O.inst.op v.op) ?_;intro h4 L;have b4:=D.aj L ai;refine ao ?_ ?_<;>intro q
   ·refine cG b4 rfl (by simp [qa]) ?_;intro M I t z5;exact dE (cs:=[]) () rfl rfl ⟨by rw [ag9 q]; exact I,(m.trans L).st t (by have:=m.size; omega)⟩
   ·exact dE (cs:=[]) () rfl rfl ⟨by rw [ac9 (by rw [q]; decide)]; exact b4,m.trans L⟩
  rintro _ M ⟨I,N⟩;refine ak ?_;have b15:=f.aj N ai;have v5:=v1.aj N;refine fO (cs:=qd) (λy h'=>y.1=(decide (O.inst.form=0) && decide (iF { O.inst with form:=if uB O.inst.op then 1 else O.inst.form }=0) && (z1 O && z4 O))/\Ext M h') ?_ ?_
  ·refine ao ?_ ?_<;>intro q
   ·have q:O.inst.form=0:=by simpa using q
    refine ay I (O.inst.op,O.inst.a,O.inst.b,O.inst.n,((if uB O.inst.op then (1:Int) else O.inst.form):Int),()) (ak ?_);refine aG (Nx M O.inst.op O.inst.a O.inst.b O.inst.n (if uB O.inst.op then 1 else O.inst.form) v.op) ?_;rintro _ S ⟨rfl,o⟩;refine ⟨(iF { O.inst with form:=if uB O.inst.op then 1 else O.inst.form },()),rfl,ak ?_⟩;refine ao ?_ ?_<;>intro r
    ·have r:iF { O.inst with form:=if uB O.inst.op then 1 else O.inst.form }=0:=by simpa using r
     refine iN (b15.aj o ai) (v5.aj o).lin.vw ?_;intro Z A;exact dE (cs:=qd) (pf O true false false true,()) rfl rfl ⟨by rw [ak9 q,ak9 r]; rfl,o.trans A⟩
    ·have r:¬ iF { O.inst with form:=if uB O.inst.op then 1 else O.inst.form }=0:=by simpa using r
     exact dE (cs:=qd) (false,()) rfl rfl ⟨by rw [ak9 q,al9 r]; rfl,o⟩
   ·have q:¬ O.inst.form=0:=by simpa using q
    exact dE (cs:=qd) (false,()) rfl rfl ⟨by rw [al9 q]; rfl,Ch.refl _ _⟩
  rintro ⟨b10,⟨⟩⟩ S ⟨C,o⟩;simp only at C;subst C;refine ak ?_;have b6:=I.aj o ai;have b16:=b15.aj o ai;have v6:=v5.aj o;refine ay b6 (O.inst.op,()) (ak ?_);refine iQ (L8 S O.inst.op v.op) ?_;intro Z A;have b7:=b6.aj A ai;have b17:=b16.aj A ai;have v7:=v6.aj A;have e07:=((e1.trans N).trans o).trans A;have hchk:Iw O.inst.op=true->(decide (O.inst.form=0) && decide (iF { O.inst with form:=if uB O.inst.op then 1 else O.inst.form }=0) && (z1 O && z4 O) && (decide (O.inst.n=0) && oW none O.e.af))=cI O 0:=by
   intro s;rw [hit];unfold AZ;rw [ag9 s]
   by_cases B:O.inst.form=0
   ·rw [ak9 B,B]
    by_cases c0:iF { O.inst with form:=if uB O.inst.op then 1 else 0 }=0
    ·have hs:=(Gx c0).1;simp only at hs;rw [ak9 c0,ak9 hs];simp only [Bool.true_and]
     ac_rfl
    ·rw [al9 c0]
     simp
   ·rw [al9 B]
    simp
  have u:Iw O.inst.op=false->(decide (O.inst.form=0) && decide (iF { O.inst with form:=if uB O.inst.op then 1 else O.inst.form }=0) && (z1 O && z4 O) && z3 O)=cI O 0:=by
   intro s;rw [hit];unfold AZ;rw [ac9 (show ¬ (Iw O.inst.op=true) by rw [s]; decide)];have P:uB O.inst.op=false:=by
    unfold Iw at s;unfold uB;rw [decide_eq_false_iff_not] at s ⊢;omega
   rw [ac9 (show ¬ (uB O.inst.op=true) by rw [P]; decide)]
   by_cases B:O.inst.form=0
   ·rw [ak9 B];have hi:({ O.inst with form:=O.inst.form }:Ins)=O.inst:=rfl;rw [hi]
    by_cases c0:iF O.inst=0
    ·have hs:=(Gx c0).1;rw [ak9 c0,ak9 hs];unfold z3;simp only [Bool.true_and]
     ac_rfl
    ·rw [al9 c0]
     simp
   ·rw [al9 B]
    simp
  generalize (decide (O.inst.form=0) && decide (iF { O.inst with form:=if uB O.inst.op then 1 else O.inst.form }=0) && (z1 O && z4 O))=G at *;refine ao ?_ ?_<;>intro s
  ·have hchk:=hchk s;refine ao (λg=>?_) (λg=>d _ _ (by rw [<- hchk,g]; rfl) e07);refine ay b7 (O.inst.n,()) (ak ?_);refine ao ?_ ?_<;>intro r
   ·have r:O.inst.n=0:=by simpa using r
    refine ay b17 ((H,l,c),(O.e.num:Int),()) (ak ?_);refine aG (vC (c:=c) v7.lin.vw (by have:=v.lin.many; omega) v.lin.names) ?_;rintro _ h8 ⟨rfl,Q⟩;refine ⟨(oW none O.e.af,()),rfl,?_⟩;exact d _ _ (by rw [<- hchk,g,ak9 r]; simp) (e07.trans Q)
   ·have r:¬ O.inst.n=0:=by simpa using r
    exact d _ _ (by rw [<- hchk,al9 r]; simp) e07
  ·have hchk:=u s;refine ao (λg=>?_) (λg=>d _ _ (by rw [<- hchk,g]; rfl) e07);refine iN b17 v7.lin.vw ?_;intro h8 Q;exact d _ _ (by rw [<- hchk,g]; unfold pf; simp) (e07.trans Q)
 refine bX (by simpa using k) ?_
 by_cases j:O.kind=3
 ·refine bU (by rw [j]; rfl) ?_;have hit:cI O 0=(wv O.n && z1 O && z2 O && z3 O):=by unfold cI; rw [ac9 i,ac9 k,ag9 j]
  refine ay f (O.n,()) (ak ?_);refine aJ (Ej h1 O.n) ?_;refine ao (λq=>?_) (λq=>d _ _ (by rw [hit,q]; rfl) e1);refine iN f v1.lin.vw ?_;intro h2 e2;exact d _ _ (by rw [hit,q]; unfold pf; simp [Bool.and_assoc]) (e1.trans e2)
 refine bX (by simpa using j) ?_
 by_cases z:O.kind=4
 ·refine bU (by rw [z]; rfl) ?_;have hit:cI O 0=(z1 O && z2 O && z3 O && z4 O):=by unfold cI; rw [ac9 i,ac9 k,ac9 j,ag9 z]; simp
  refine iN f v1.lin.vw ?_;intro h2 e2;exact d _ _ (by rw [hit]; unfold pf; simp [Bool.and_assoc]) (e1.trans e2)
 refine bX (by simpa using z) ?_
 by_cases t:O.kind=5
 ·refine bU (by rw [t]; rfl) ?_;exact d _ _ (by unfold cI; rw [ac9 i,ac9 k,ac9 j,ac9 z,ag9 t]; simp) e1
 refine bX (by simpa using t) ?_
 by_cases E:O.kind=6
 ·refine bU (by rw [E]; rfl) ?_;exact d _ _ (by unfold cI; rw [ac9 i,ac9 k,ac9 j,ac9 z,ac9 t,ag9 E]; simp) e1
 refine bX (by simpa using E) ?_
 by_cases K:O.kind=7
 ·refine bU (by rw [K]; rfl) ?_;exact d _ _ (by unfold cI; rw [ac9 i,ac9 k,ac9 j,ac9 z,ac9 t,ac9 E,ag9 K]; simp) e1
 refine bX (by simpa using K) ?_;exact d _ _ (by unfold cI; rw [ac9 i,ac9 k,ac9 j,ac9 z,ac9 t,ac9 E,ac9 K]) e1
def Q4 {h:Hp} {l c:Nat} (v:jj h H l O):HC Xaz 96 #[xx H l c O,vI (1:Int)] h λw h'=>w=FL (cI O 1)/\Ext h h':=by
 refine aX (args:=[xx H l c O,vI (1:Int)]) mixed Tryz.func96 av (mQ O.kind O.name O.inst.op O.inst.a O.inst.b O.inst.n O.inst.form H l c O.e.num O.n) ?_;unfold je bj aE cH;have K:maxLen=9223372036854775807:=rfl;refine bn ?_;intro h1 f e1 L;have f:br h1 h.size 55 (encI H l c O):=f;have v1:=v.aj e1;simp only [aw];refine fO (cs:=qd) (λy h'=>y.1=cI O 1/\Ext h h') ?_ ?_
 rotate_left
 ·rintro ⟨G,⟨⟩⟩ h' ⟨s,z⟩;simp only at s;subst s;refine ak ?_;cases V:cI O 1
  ·exact ⟨rfl,z⟩
  ·exact ⟨rfl,z⟩
 have d:∀ (b:Bool) (h':Hp),b=cI O 1->Ext h h'->T.again 0 [.bool b] [λM h'=>∃ y:qu (flat [(false,[.bool])]),M=parts [(false,[.bool])] (et _ y)/\(y.1=cI O 1/\Ext h h')] (λw h'=>w=FL (cI O 1)/\Ext h h') h':=by
  rintro b h' rfl z;exact dE (cs:=qd) (J:=λy h'=>y.1=cI O 1/\Ext h h') (cI O 1,()) rfl rfl ⟨rfl,z⟩
 refine ay f (O.kind,()) (ak ?_)
 by_cases g:O.kind=1
 ·refine bU (by rw [g]; rfl) ?_;have hit:cI O 1=(cD O.name.data.toList && z2 O && z3 O && z4 O):=by unfold cI; rw [ag9 g]
  refine ay f (O.name,()) (ak ?_);refine aJ (ui O.name h1 (by have:=v.name; omega)) ?_;refine ao (λq=>?_) (λq=>d _ _ (by rw [hit,q]; rfl) e1);refine iN f v1.lin.vw ?_;intro h2 e2;exact d _ _ (by rw [hit,q]; unfold pf; simp [Bool.and_assoc]) (e1.trans e2)
 refine bX (by simpa using g) ?_
 by_cases j:O.kind=2
 ·refine bU (by rw [j]; rfl) ?_;have hit:cI O 1=(false):=by unfold cI; rw [ac9 g,ag9 j]; simp
  refine ay f (O.inst.op,O.inst.a,O.inst.b,O.inst.n,O.inst.form,()) (ak ?_);refine bn ?_;intro h2 G e2 N;refine bJ G ?_;intro h3 t i P;have t:br h3 h1.size 49 (qa O.inst):=t;have k:Ext h1 h3:=e2.st i (am9 _);have b13:=f.aj k ai;rw [aw];refine ay t (O.inst.form,()) (ak ?_);refine fO (cs:=[]) (λ_ h'=>br h' h1.size 49 (qa { O.inst with form:=if uB O.inst.op then 1 else O.inst.form })/\Ext h1 h') ?_ ?_
  ·refine ay t (O.inst.op,()) (ak ?_);refine iQ (Ed h3 O.inst.op v.op) ?_;intro W D;have b4:=t.aj D ai;refine ao ?_ ?_<;>intro q
   ·refine cG b4 rfl (by simp [qa]) ?_;intro I E m X;exact dE (cs:=[]) () rfl rfl ⟨by rw [ag9 q]; exact E,(k.trans D).st m (by have:=k.size; omega)⟩
   ·exact dE (cs:=[]) () rfl rfl ⟨by rw [ac9 (by rw [q]; decide)]; exact b4,k.trans D⟩
  rintro _ I ⟨E,F⟩;refine ak ?_;have b15:=f.aj F ai;have v5:=v1.aj F;refine fO (cs:=qd) (λy h'=>y.1=false/\Ext I h') (dE (cs:=qd) (false,()) rfl rfl ⟨rfl,Ch.refl _ _⟩) ?_;rintro ⟨Q,⟨⟩⟩ R ⟨s,A⟩;simp only at s;subst s;refine ak ?_;have b6:=E.aj A ai;have b16:=b15.aj A ai;have v6:=v5.aj A;refine ay b6 (O.inst.op,()) (ak ?_);refine iQ (L8 R O.inst.op v.op) ?_;intro Y B;have b7:=b6.aj B ai;have b17:=b16.aj B ai;have v7:=v6.aj B;have e07:=((e1.trans F).trans A).trans B;refine ao ?_ ?_<;>intro S
  ·exact bX rfl (d _ _ (by rw [hit]) e07)
  ·exact bX rfl (d _ _ (by rw [hit]) e07)
 refine bX (by simpa using j) ?_
 by_cases i:O.kind=3
 ·refine bU (by rw [i]; rfl) ?_;have hit:cI O 1=(wv O.n && z1 O && z2 O && z3 O):=by unfold cI; rw [ac9 g,ac9 j,ag9 i]
  refine ay f (O.n,()) (ak ?_);refine aJ (Ej h1 O.n) ?_;refine ao (λq=>?_) (λq=>d _ _ (by rw [hit,q]; rfl) e1);refine iN f v1.lin.vw ?_;intro h2 e2;exact d _ _ (by rw [hit,q]; unfold pf; simp [Bool.and_assoc]) (e1.trans e2)
 refine bX (by simpa using i) ?_
 by_cases o:O.kind=4
 ·refine bU (by rw [o]; rfl) ?_;exact d _ _ (by unfold cI; rw [ac9 g,ac9 j,ac9 i,ag9 o]; simp) e1
 refine bX (by simpa using o) ?_
 by_cases m:O.kind=5
 ·refine bU (by rw [m]; rfl) ?_;have hit:cI O 1=(decide (-128<=O.n) && decide (O.n<=255) && z1 O && z2 O && z3 O):=by unfold cI; rw [ac9 g,ac9 j,ac9 i,ac9 o,ag9 m]; simp
  refine ay f (O.n,()) (ak ?_);refine ao (λq=>?_) (λq=>d _ _ (by rw [hit,show decide (-128<=O.n)=false from q]; rfl) e1);refine ay f (O.n,()) (ak ?_);refine ao (λr=>?_) (λr=>d _ _ (by rw [hit,r]; simp) e1);refine iN f v1.lin.vw ?_;intro h2 e2;exact d _ _ (by rw [hit,r,show decide (-128<=O.n)=true from q]; unfold pf; simp [Bool.and_assoc]) (e1.trans e2)
 refine bX (by simpa using m) ?_
 by_cases u:O.kind=6
 ·refine bU (by rw [u]; rfl) ?_;have hit:cI O 1=(oW none O.e.af && z1 O && z2 O && z4 O):=by unfold cI; rw [ac9 g,ac9 j,ac9 i,ac9 o,ac9 m,ag9 u]; simp
  refine ay f ((H,l,c),(O.e.num:Int),()) (ak ?_);refine aG (vC (c:=c) v1.lin.vw (by have:=v.lin.many; omega) v.lin.names) ?_;rintro _ h2 ⟨rfl,e2⟩;refine ⟨(oW none O.e.af,()),rfl,ak ?_⟩;refine ao (λq=>?_) (λq=>d _ _ (by rw [hit,q]; rfl) (e1.trans e2));refine iN (f.aj e2 ai) (v1.aj e2).lin.vw ?_;intro h3 U;exact d _ _ (by rw [hit,q]; unfold pf; simp [Bool.and_assoc]) ((e1.trans e2).trans U)
 refine bX (by simpa using u) ?_
 by_cases C:O.kind=7
 ·refine bU (by rw [C]; rfl) ?_;have hit:cI O 1=(decide (0<=O.n) && decide (O.n<=1048576) && z1 O && z2 O && z3 O):=by unfold cI; rw [ac9 g,ac9 j,ac9 i,ac9 o,ac9 m,ac9 u,ag9 C]; simp
  refine ay f (O.n,()) (ak ?_);refine ao (λq=>?_) (λq=>d _ _ (by rw [hit,show decide (0<=O.n)=false from q]; rfl) e1);refine ay f (O.n,()) (ak ?_);refine ao (λr=>?_) (λr=>d _ _ (by rw [hit,r]; simp) e1);refine iN f v1.lin.vw ?_;intro h2 e2;exact d _ _ (by rw [hit,r,show decide (0<=O.n)=true from q]; unfold pf; simp [Bool.and_assoc]) (e1.trans e2)
 refine bX (by simpa using C) ?_;exact d _ _ (by unfold cI; rw [ac9 g,ac9 j,ac9 i,ac9 o,ac9 m,ac9 u,ac9 C]) e1
def D4 {h:Hp} {l c k:Nat} (v:jj h H l O) (hk:k<2):HC Xaz 96 #[xx H l c O,vI (k:Int)] h λw h'=>w=FL (cI O k)/\Ext h h':=by
 have:k=0\/k=1:=ad
 rcases this with rfl | rfl
 ·exact Ox v
 ·exact Q4 v
def Y0 (s:Xaa):List Xab:=[.string s]
abbrev SN (h:Hp) (b:Nat) (p:Xac) (l c:Nat) (xs:List Xaa):Prop:=SL h b 9 1 p l c (xs.map Y0)
def SN.len {h:Hp} {b l c:Nat} {xs:List Xaa} (s:SN h b H l c xs):l=xs.length:=by
 have:=s.1
 rwa [ab9] at this
def SN.cell {h:Hp} {b l c:Nat} {xs:List Xaa} (s:SN h b H l c xs) {i:Nat} (hi:i<xs.length):∃ a,H=some a/\aH h (a.add (i*1)) 0 [.string xs[i]]:=by
 obtain ⟨a,d,hc⟩:=SL.cells s (i:=i) (by rw [ab9]; exact hi);refine ⟨a,d,?_⟩;rw [aj9] at hc;exact hc
def Z1 (D:List Xaa) (s:Xaa) (i:Nat) (hi:i<D.length):hQ (D.take (i+1)) s=(hQ (D.take i) s || decide (D[i]=s)):=by
 unfold hQ;rw [af9 hi,List.any_append]
 simp
def EY {h:Hp} {b l c:Nat} {xs:List Xaa} (v:SN h b H l c xs) (hl:xs.length<=2^61) (s:Xaa):ug Xaz 52 [.slice H l c,.string s] h (.bool (hQ xs s)):=by
 refine eW mixed Tryz.func52 av (j0 H l c s) ?_;unfold iR aR aY bz aK cC fR aS cH;have n:=SN.len v;refine aM (cs:=iv) (λy m h'=>∃ i:Nat,y.2.1=(i:Int)/\m=xs.length-i/\i<=xs.length/\h'=h/\hQ (xs.take i) s=false) (false,(0:Int),()) xs.length rfl
  ⟨0,rfl,rfl,ad,rfl,rfl⟩ ?_
 rintro ⟨e,j,⟨⟩⟩ m h' ⟨i,hi,rfl,f,rfl,hn⟩;simp only at hi;subst hi;refine ak ?_;refine aI ?_ ?_<;>intro q
 ·have d:i<xs.length:=ad
  obtain ⟨a,g,hc⟩:=SN.cell v d;refine bM g ?_;rw [cg i];refine ar (xs[i],()) hc (ak ?_);have hs:=Z1 xs s i d;rw [sr];refine ao ?_ ?_<;>intro r
  ·have r:=ai9 r;refine ⟨as9 Value.bool ?_,rfl⟩;unfold hQ;exact (ed9.2 ⟨_,ah9 d,ak9 r⟩).symm
  ·rw [hn,r] at hs;refine aC (cs:=iv) (e,((i+1:Nat):Int),()) (xs.length-(i+1)) rfl ad (by rw [wrap_i64 ad ad]; rfl) ?_;exact ⟨i+1,rfl,rfl,ad,rfl,hs⟩
 ·have:i=xs.length:=ad
  subst this;rw [bj9] at hn;exact ⟨by rw [hn],rfl⟩
def eM (l:List cB):List Xaa:=(l.filter λx=>decide (x.kind=1)).map (·.name)
def yn (l:List cB) (i:Nat) (hi:i<l.length):eM (l.take (i+1))=eM (l.take i)++if l[i].kind=1 then [l[i].name] else []:=by
 unfold eM;rw [af9 hi,List.filter_append,ao9]
 congr 1
 by_cases hk:l[i].kind=1 <;> simp [hk]
def SN.push {K:Xab->Hp->Prop} {h:Hp} {b l c:Nat} {xs:List Xaa} (v:SN h b H l c xs) (x:Xaa) (hl:xs.length<=2^40) (a:b<=h.size) {k:Xac->Nat->Nat->T}
  (hk:∀ p' c' h',SN h' b p' (l+1) c' (xs++[x])->Ch (ax H) h h'->k p' (l+1) c' U K h') :
  T.dP Xaz (Instr.buildSlice 68 1 #[(0,.string x)]) false [(false,[.slice 0])] (λq m d=>T.dP Xaz (Builtin.append_ #[68,68] 68 #[.slice H l c,.slice q m d]) false [(false,[.slice 0])] k) U K h:=by
 have n:=SN.len v;refine eZ (vs:=[.string x]) KN YU rfl ad ad av rfl rfl v a ad ad ?_;intro p' c' h' e ch _;refine hk p' c' h' ?_ ch;unfold SN;rw [ao9];exact e
def SN.ext {h a b':Hp} {b l c:Nat} {xs:List Xaa} (e:Ext h a) (v:SN a b H l c xs) (d:h.size<=b) (k:Ch (ax H) a b'):Ext h b' :=
 Ch.trans e k (λi hi hl=>by have:=(Ob.SL.cj v i hi).1; omega)
def Ei {h:Hp} {l c:Nat} {us:List cB} (v:Ge h H l us) (t:us.length<=2^20) :
  HC Xaz 129 #[.slice H l c] h λw h'=>∃ p' l' c',w=.slice p' l' c'/\SN h' h.size p' l' c' (eM us)/\Ext h h':=by
 refine aX (args:=[.slice H l c]) mixed Tryz.func129 av (oC H l c) ?_;unfold j4 aR aY bz aK bg bm aS fH;have n:=v.len;refine aM (cs:=kX) (λy m h'=>∃ i:Nat,y.2.1=(i:Int)/\m=us.length-i/\i<=us.length/\Ext h h'/\(eM (us.take i)).length<=i/\SN h' h.size y.1.1 y.1.2.1 y.1.2.2 (eM (us.take i))) ((none,0,0),(0:Int),()) us.length rfl
  ⟨0,rfl,rfl,ad,Ch.refl _ _,by simp [eM],SL.nil _ _ _ _⟩ ?_
 rintro ⟨⟨d,b,e⟩,u,⟨⟩⟩ m h1 ⟨i,hi,rfl,f,e1,g,s⟩;simp only at hi s;subst hi;refine ak ?_;have hz:=e1.size;refine aI ?_ ?_<;>intro q
 ·have a:i<us.length:=ad
  obtain ⟨z,pp,A,B,rfl',hc,j⟩:=(v.aj e1).cells i a;have ht:=yn us i a;generalize us[i]=x at hc j ht;refine eS (aF rfl' ?_);rw [cg i];refine ar (x.kind,()) ⟨hc.1,trivial⟩ (ak ?_);refine ao ?_ ?_<;>intro r
  ·have r:x.kind=1:=by simpa using r
   rw [ag9 r] at ht;refine eS (aF rfl' ?_);refine ar (x.name,()) ⟨by rw [add_add]; exact hc.2.1,trivial⟩ ?_;refine ak ?_;refine SN.push s x.name ad ad ?_;intro p' c' h2 k o;refine aC (cs:=kX) ((p',b+1,c'),((i+1:Nat):Int),()) (us.length-(i+1)) rfl ad (by rw [wrap_i64 ad ad]; rfl) ?_;exact ⟨i+1,rfl,rfl,ad,SN.ext e1 s (am9 _) o,by rw [ht,ae9]; simp; omega,by rw [ht]; exact k⟩
  ·have r:¬ x.kind=1:=by simpa using r
   rw [ac9 r,cb9] at ht;refine aC (cs:=kX) ((d,b,e),((i+1:Nat):Int),()) (us.length-(i+1)) rfl ad (by rw [wrap_i64 ad ad]; rfl) ?_;exact ⟨i+1,rfl,rfl,ad,e1,by rw [ht]; omega,by rw [ht]; exact s⟩
 ·have:i=us.length:=ad
  subst this;rw [bj9] at s;exact ⟨d,b,e,rfl,s,e1⟩
def Uj {K:Xab->Hp->Prop} {h:Hp} {k:Xac->Nat->Nat->T} {b b' l c:Nat} {xs:List Xaa} (s:SN h b H l c xs) {m d:Nat} {us:List Xaa} (v:SN h b' Y m d us)
  (hl:l+m<=2^40) (E:b<=h.size)
  (hk:∀ p' c' h',SN h' b p' (l+m) c' (xs++us)->Ch (ax H) h h'->k p' (l+m) c' U K h') :
  T.dP Xaz (Builtin.append_ #[68,68] 68 #[.slice H l c,.slice Y m d]) false [(false,[.slice 0])] k U K h:=by
 obtain ⟨i,hi,F,e,o⟩:=oz YU;refine dt ?_;cases Y with
 | none =>
  have h1:us=[]:=by
   have:=v.2.2.2
   simpa using this
  have h0:m=0:=by have:=SN.len v; rw [h1] at this; exact this
  have G:d=0:=v.2.2.1;subst h0 h1 G;have r:l<=c:=by
   cases H with
   | none =>
    have h2:=s.2.2.2;have h3:=s.1;rw [h2] at h3;simp at h3;omega
   | some a =>
    obtain ⟨g,u,rest,rfl,w,j,_⟩:=s.2.2;exact j.1
  simp [Builtin.append_,an,az KN,bT hi,cJ hi,Builtin.lenOf,Builtin.firstCells,r];have f:∃ p' l' c',Value.slice H l c=.slice p' l' c'/\k p' l' c' U K h:=⟨H,l,c,rfl,by simpa using hk H c h (by simpa using s) (Ch.refl _ _)⟩
  cases H with
  | none=>exact f
  | some a=>exact f
 | some a =>
  have hc:aH h a 0 (us.map Y0).flatten:=by
   obtain ⟨g,u,rest,rfl,w,j,n,M⟩:=v.2.2;refine n.cells _ ?_;rw [dy9,eg9]
  have A:(us.map Y0).flatten.all df=true:=by
   rw [bn9];intro x I;obtain ⟨y,B,C⟩:=fx9.1 I;obtain ⟨z,_,rfl⟩:=ap9.1 B;rw [an9.1 C] <;> rfl
  refine mI KN hi F (by rw [e]; rfl) (by rw [e]; exact s) (ys:=us.map Y0) (by rw [ab9]; exact SN.len v) (λy B=>?_) hc A (by rw [o]; omega) ad E ?_
  ·obtain ⟨t,_,rfl⟩:=ap9.1 B;rw [e] <;> rfl
  ·intro p' c' h' D k' J;rw [e,<- ao9] at D;exact ⟨_,_,_,rfl,hk p' c' h' D k'⟩
def gf (u:cm):List Xaa:=eM u.text++eM u.data++u.bi.map (·.1)
def wR (l:List cB):(eM l).length<=l.length:=by
 unfold eM;rw [ab9];exact dr9 _ _
def Fs {h:Hp} (v:vp h Z a b c d) (h1:d.text.length<=2^20) (h2:d.data.length<=2^20) (R:d.bi.length<=2^20) :
  HC Xaz 98 #[GH Z a b c] h λw h'=>∃ p' l' c',w=.slice p' l' c'/\SN h' h.size p' l' c' (gf d)/\Ext h h':=by
 refine aX (args:=[GH Z a b c]) mixed Tryz.func98 av (rZ Z.p Z.l Z.c a.p a.l a.c b.p b.l b.c c.p c.l c.c) ?_;unfold mU aR aY bz aK cv bg aS fH;refine bn ?_;intro n g e1 z1;have g:br n h.size 70 [Z.v,a.v,b.v,c.v]:=g;simp only [aw];refine ay g ((Z.p,Z.l,Z.c),()) (ak ?_);refine ay g ((a.p,a.l,a.c),()) (ak ?_);refine aG (Ei (c:=Z.c) (v.text.aj e1) h1) ?_;rintro _ S ⟨p8,t,l10,rfl,H,e2⟩;refine ⟨((p8,t,l10),()),rfl,ak ?_⟩;have b2:=g.aj e2 ai;refine ⟨⟨b2.cells _ rfl,trivial⟩,?_⟩;refine aG (Ei (c:=a.c) (v.data.aj (e1.trans e2)) h2) ?_;rintro _ J ⟨x,j,z,rfl,k,o⟩;refine ⟨((x,j,z),()),rfl,ak ?_⟩;have b3:=b2.aj o ai;have q1:=e1.size;have q2:=e2.size;have q3:=o.size;refine ⟨⟨b3.cells _ rfl,trivial⟩,?_⟩;have e:SN J n.size p8 t l10 (eM d.text):=H.aj o ai;have n8:=SN.len H;have n11:=SN.len k;have k8:=wR d.text;have k11:=wR d.data;have e03:=(e1.trans e2).trans o;refine Uj e k ad ad ?_;intro A B U C D;have e4:=SN.ext e03 e ad D;have K:h.size∉ax p8:=λhi=>by have:=(Ob.SL.cj e _ hi).1; omega
 have b4:=b3.aj D K;refine ⟨⟨b4.cells _ rfl,b4.cells _ rfl,trivial⟩,?_⟩;have nc:=v.bi.len;have L:∀ i,i<d.bi.length->eM d.text++eM d.data++(d.bi.take (i+1)).map (·.1)=(eM d.text++eM d.data++(d.bi.take i).map (·.1))++[(d.bi.getD i (dZ,Hw)).1]:=by
  intro i hi;rw [af9 hi,ao9,<- az9,cg9,ad9 hi] <;> rfl
 refine aM (cs:=kX) (λy m h'=>∃ i:Nat,y.2.1=(i:Int)/\m=d.bi.length-i/\i<=d.bi.length/\(Ext h h'/\n.size<=h'.size)/\br h' h.size 70 [Z.v,a.v,b.v,c.v]/\SN h' n.size y.1.1 y.1.2.1 y.1.2.2 (eM d.text++eM d.data++(d.bi.take i).map (·.1))) ((A,t+j,B),(0:Int),()) d.bi.length rfl
  ⟨0,rfl,rfl,ad,⟨e4,by have:=D.size; omega⟩,b4,by simpa using C⟩ ?_
 rintro ⟨⟨p1,I,M⟩,V,⟨⟩⟩ m W ⟨i,hi,rfl,N,⟨r,O⟩,E,s⟩;simp only at hi s;subst hi;refine ak ?_;have hz:=r.size;refine ay E ((b.p,b.l,b.c),()) (ak ?_);refine aI ?_ ?_<;>intro q
 ·have f:i<d.bi.length:=ad
  refine ay E ((b.p,b.l,b.c),()) (ak ?_);obtain ⟨X,pp,Y,cc,rfl',hc,va,vn⟩:=(v.bi.aj r).cells i f;refine eS (aF rfl' ?_);rw [cg i];refine ar (d.bi[i].1,()) ⟨hc.1,trivial⟩ (ak ?_);have ns:=SN.len s;have P:(d.bi.getD i (dZ,Hw)).1=d.bi[i].1:=by
   rw [cg9,ad9 f] <;> rfl
  refine SN.push s _ (by simp only [List.length_append,List.length_map,List.length_take]; omega) O ?_;intro p' c' h2 Q F;have G:h.size∉ax p1:=λhi=>by have:=(Ob.SL.cj s _ hi).1; omega
  refine aC (cs:=kX) ((p',I+1,c'),((i+1:Nat):Int),()) (d.bi.length-(i+1)) rfl ad (by rw [wrap_i64 ad ad]; rfl) ?_;exact ⟨i+1,rfl,rfl,ad,⟨SN.ext r s ad F,by have:=F.size; omega⟩,E.aj F G,by rw [L i f,P]; exact Q⟩
 ·have:i=d.bi.length:=ad
  subst this;rw [bj9] at s;exact ⟨p1,I,M,rfl,Sx.SL.mono s ad,r⟩
end Go.Sx.Ob
