/- Contracts over heaps, part 5. Condition: as each statement says. -/
import Derived.Test.YtmdncdaladplkaaGreatDoorP4
import Derived.Test.YtmdncdaladplkaaGreatDoorBtF
set_option linter.all false
set_option maxRecDepth 100000
set_option maxHeartbeats 4000000
namespace Go.Sx.Lk
open Go.Proofs Go.Sx.Ob
variable {es:List cV} {ga:Nat}
def Lx (u:Nat):(Lib.decDigits u).foldl (λa b=>a*10+(b.toNat-48)) 0=u:=by
 induction u using Nat.strongRecOn with
 | ind u c =>
  rw [Lib.decDigits];split
  ·next h =>
   have h1:(UInt8.ofNat (48+u)).toNat=48+u:=by rw [UInt8.toNat_ofNat']; omega
   simp only [List.foldl_cons,List.foldl_nil,h1];omega
  ·next h =>
   have h1:(UInt8.ofNat (48+u % 10)).toNat=48+u % 10:=by rw [UInt8.toNat_ofNat']; omega
   rw [ck9,c (u / 10) ad];simp only [List.foldl_cons,List.foldl_nil,h1];omega
def oZ (n:Nat):mj n=⟨(Lib.decDigits n).toArray⟩:=by
 unfold mj;rw [Lib.itoa_nonneg]
def uq {m n:Nat} (h:mj m=mj n):m=n:=by
 rw [oZ,oZ] at h;have h1:Lib.decDigits m=Lib.decDigits n:=by
  have:=as9 (λb:Xaa=>b.data.toList) h
  simpa using this
 rw [<- Lx m,h1,Lx]
def ep (a b:Xaa):(a++b).data.toList=a.data.toList++b.data.toList:=by
 rw [ByteArray.data_append,Array.toList_append]
variable {Y:Xaa}
def xP {b c:Xaa} (h:Y++b=Y++c):b=c:=by
 have h1:=as9 (λb:Xaa=>b.data.toList) h;simp only [ep] at h1;have h2:=List.append_cancel_left h1;cases b; cases c;simp only at h2
 congr 1
 exact Array.ext' h2
variable {H:LW}
def word_inj {L:List Lb} {E:List Ky} (i0:WI H L E) {k k':Ky} (hk:k∈L.map AE\/k∈E) (d:k'∈L.map AE\/k'∈E) (h:H.word k=H.word k'):k=k':=by
 have c:∀ a b:Xaa,(⟨#[76]⟩:Xaa)++a≠(⟨#[69]⟩:Xaa)++b:=by
  intro a b e;have h1:=as9 (λb:Xaa=>b.data.toList) e;simp only [ep] at h1;simp at h1
 have l:∀ {k:Ky},k∈L.map AE\/k∈E->H.num k=none->∃ i,H.tA k=some i/\∃ hi:i<E.length,E[i]=k:=by
  intro k hk hn;rw [i0.num] at hn
  have:=pR.1 hn
  have hk:k∈E:=hk.elim (λh=>absurd h this) id;obtain ⟨i,hi⟩:=CQ hk;exact ⟨i,by rw [i0.tA]; exact hi,kb hi⟩
 unfold LW.word at h;cases h1:H.num k with
 | some i =>
  cases h2:H.num k' with
  | some j =>
   rw [h1,h2] at h
   have:=uq (xP h)
   subst this;rw [i0.num] at h1 h2;obtain ⟨a,m⟩:=kb h1;obtain ⟨b,n⟩:=kb h2;rw [<- m,<- n]
  | none =>
   rw [h1,h2] at h;exact absurd h (c _ _)
 | none =>
  obtain ⟨i,o,hi,f⟩:=l hk h1;cases h2:H.num k' with
  | some j =>
   rw [h1,h2] at h;exact absurd h.symm (c _ _)
  | none =>
   obtain ⟨j,p,q,g⟩:=l d h2;rw [h1,h2] at h;simp only [o,p,Option.getD_some] at h
   have:=uq (xP h)
   subst this;rw [<- f,<- g]
def D2 (b:RO H) (k:Ky):(H.word k).size<=maxLen:=by
 have a:2000<=maxLen:=bH
 unfold LW.word;cases h:H.num k with
 | some n =>
  have:=mS (n:=n) (by have:=b.n _ _ h; omega)
  show (_++_:Xaa).size<=_;rw [en9]
  have:(⟨#[76]⟩:Xaa).size=1:=rfl
  omega
 | none =>
  have h1:(H.tA k).getD 0<=2^60:=by
   cases h2:H.tA k with
   | none=>simp
   | some i=>have:=b.e _ _ h2; simp; omega
  have:=mS h1
  show (_++_:Xaa).size<=_;rw [en9]
  have:(⟨#[69]⟩:Xaa).size=1:=rfl
  omega
variable {V:bK}
def BP {u:Nat} (h:H.bad u V=none):∀ t,t∈V.af->∃ k,H.own u t.1=some k:=by
 unfold LW.bad at h;rw [Option.map_eq_none_iff,List.find?_eq_none] at h;intro t ht
 have:=h t ht
 cases a:H.own u t.1 with
 | none=>rw [a] at this; simp at this
 | some k=>exact ⟨k,rfl⟩
def EL {u:Nat} (h:H.bad u V=none):∀ t,t∈(H.lin u V).af->∃ p k,p∈V.af/\H.own u p.1=some k/\t.1=H.word k:=by
 intro t ht;have hb:=BP h;rcases qC ht with ⟨p,b,c,a⟩ | ⟨p,y,v,b,a,hv,c⟩
 ·obtain ⟨k,hk⟩:=hb p b;rw [c] at hk;rw [hk] at a;cases a
 ·obtain ⟨k,hk⟩:=hb p b;rw [hk] at a;simp only [Option.map_some,Option.some.injEq] at a;subst a;refine ⟨p,k,b,hk,?_⟩;rw [<- c]
  have:v=(H.word k,1):=by simpa [nk] using hv
  rw [this]
def AH {u:Nat} (h:H.bad u V=none):(H.lin u V).af.length<=V.af.length:=by
 have a:Nf (H.lin u V).af:=eQ _ _;have h1:((H.lin u V).af.map (·.1)).Nodup:=cs9.2 (a.1.imp λh=>ko h);have h2:=kJ ((H.lin u V).af.map (·.1)) (V.af.map λt=>H.word ((H.own u t.1).getD (0,dZ))) h1 (λs b=>by
  obtain ⟨t,ht,rfl⟩:=ap9.1 b;obtain ⟨p,k,c,hk,d⟩:=EL h t ht;rw [d];refine ap9.2 ⟨p,c,?_⟩;rw [hk];rfl)
 rwa [ab9,ab9] at h2
def Q5 (b:RO H) {u:Nat} (h:H.bad u V=none):∀ t,t∈(H.lin u V).af->t.1.size<=maxLen:=by
 intro t ht;obtain ⟨p,k,_,_,a⟩:=EL h t ht;rw [a];exact D2 b k
variable {c:cm}
def yy {n:Nat} (h:tg H n c=none):(∀ x,x∈c.text->H.bad n x.e=none)/\(∀ x,x∈c.data->H.bad n x.e=none)/\∀ e,e∈c.bi->H.bad n e.2=none:=by
 unfold tg at h;rw [Option.or_eq_none_iff,Option.or_eq_none_iff] at h;obtain ⟨h1,h2,a⟩:=h;unfold LW.Ak at h1 h2;rw [db9] at h1 h2 a;exact ⟨h1,h2,a⟩
theorem kz {w:LW}:∀ (us:List cm) (n:Nat),fX w n us=none->∀ i,(hi:i<us.length)->tg w (n+i) us[i]=none
 | [],n,h,i,hi=>absurd hi ai
 | u::us,n,h,i,hi=>by
  rw [fX] at h;cases a:tg w n u with
  | some s=>rw [a] at h; cases h
  | none =>
   rw [a] at h
   match i with
   | 0=>simpa using a
   | i+1 =>
    have:=kz us (n+1) h i (by simpa using hi)
    rw [show n+1+i=n+(i+1) from ad] at this;simpa using this
theorem xr:∀ (us:List cm) (n:Nat) (q:Nat × tI),q∈eK n us->∃ i,∃ hi:i<us.length,q.1=n+i/\q.2∈us[i].bi
 | [],n,q,h=>by simp [eK] at h
 | u::us,n,q,h=>by
  rw [eK,ar9] at h;rcases h with h | h
  ·obtain ⟨e,a,rfl⟩:=ap9.1 h;exact ⟨0,ai,rfl,a⟩
  ·obtain ⟨i,hi,h1,h2⟩:=xr us (n+1) q h;exact ⟨i+1,by simpa using hi,ad,by simpa using h2⟩
def AI {us:List cm} (h:fX H 0 us=none) {q:Nat × tI} (a:q∈eK 0 us):H.bad q.1 q.2.2=none:=by
 obtain ⟨i,hi,h1,h2⟩:=xr us 0 q a
 have:=(yy (kz us 0 h i hi)).2.2 _ h2
 rw [h1];exact this
theorem K8:∀ (us:List cm) (n:Nat),(∀ u,u∈us->u.bi.length<=8192)->(eK n us).length<=us.length*8192
 | [],n,h=>by simp [eK]
 | u::us,n,h=>by
  rw [eK,ae9,ab9,cn9];have h1:=K8 us (n+1) (λv hv=>h v (by simp [hv]));have h2:=h u ai;omega
theorem yu:∀ (us:List cm) (n:Nat),(∀ u,u∈us->(u.bi.map (·.1)).Nodup)->((eK n us).map jN).Nodup
 | [],n,h=>by simp [eK]
 | u::us,n,h=>by
  rw [eK,ao9,ct9];refine ⟨?_,yu us (n+1) (λv hv=>h v (by simp [hv])),?_⟩
  ·have:(u.bi.map λe=>(n,e)).map jN=(u.bi.map (·.1)).map λs=>(n,s):=by rw [bg9,bg9]; rfl
   rw [this,ei9,cs9];exact (ei9.1 (h u ai)).imp λh e=>h (du9 e).2
  ·intro a c b d e;obtain ⟨q,f,rfl⟩:=ap9.1 c;obtain ⟨r,g,rfl⟩:=ap9.1 d;obtain ⟨x,_,rfl⟩:=ap9.1 f;obtain ⟨i,_,h1,_⟩:=xr us (n+1) r g
   have:n=r.1:=(du9 e).1
   omega
theorem Dh:∀ (us:List cm) (n:Nat),((eK n us).map λq=>q.2.2.af.length).sum<=((us.flatMap cR).flatMap (·.af)).length
 | [],n=>by simp [eK]
 | u::us,n=>by
  rw [eK,ao9,List.sum_append,cf9,ej9,ae9];have h1:=Dh us (n+1);have h2:((u.bi.map λe=>(n,e)).map λq=>q.2.2.af.length).sum<=((cR u).flatMap (·.af)).length:=by
   unfold cR;rw [ej9,ae9,bg9]
   have:∀ l:List tI,(l.map ((λq:Nat × tI=>q.2.2.af.length) ∘ λe=>(n,e))).sum=((l.map (·.2)).flatMap (·.af)).length:=by
    intro l
    induction l with
    | nil=>rfl
    | cons e l a=>rw [bq9,cu9,bq9,cf9,ae9,a]; rfl
   rw [this];omega
  omega
structure F0 (us:List cm):Prop where
 right:∀ u,u∈us->fC u=0
 many:us.length<=64
def F0.bi {us:List cm} (r:F0 us) {u:cm} (a:u∈us):u.bi.length<=8192/\u.text.length+u.data.length<=8192:=by
 have h:=(Bp (r.right u a)).1;unfold xj at h;rw [Bool.or_eq_false_iff] at h;have h1:=aw9 h.1;have h2:=aw9 h.2;omega
def F0.eqs {us:List cm} (r:F0 us):(eK 0 us).length<=2^19:=by
 have h1:=K8 us 0 (λu a=>(r.bi a).1);have h2:=r.many;omega
theorem sZ (n sec:Nat):∀ (l:List cB) (i:Nat),(ri n sec i l).length<=l.length
 | [],i=>by simp [ri]
 | x::l,i=>by
  have:=sZ n sec l (i+1)
  rw [ri,ae9,cn9];split <;> simp <;> omega
theorem Dy:∀ (us:List cm) (n:Nat),(∀ u,u∈us->u.text.length+u.data.length<=8192)->(cr n us).length<=us.length*8192
 | [],n,h=>by simp [cr]
 | u::us,n,h=>by
  rw [cr,ae9,cn9];have h1:=Dy us (n+1) (λv hv=>h v (by simp [hv]));have h2:=h u ai;have h3:=sZ n 0 u.text 0;have h4:=sZ n 1 u.data 0;unfold H5;rw [ae9];omega
def F0.eM {us:List cm} (r:F0 us):(cr 0 us).length<=2^19:=by
 have h1:=Dy us 0 (λu a=>(r.bi a).2);have h2:=r.many;omega
def F0.Lf {us:List cm} (r:F0 us) {w:LW} (i0:WI w (cr 0 us) ((eK 0 us).map jN)):RO w :=
 i0.Lf (by have:=r.eM; omega) (by rw [ab9]; have:=r.eqs; omega)
def WX {us:List cm} (r:F0 us) (sm:IJ us) (i0:WI H (cr 0 us) ((eK 0 us).map jN)) (m:fX H 0 us=none) (h:es.map fQ=oO H us):vl es:=by
 have lb:=r.Lf i0;have hn:Sx.aU es=(eK 0 us).map λq=>H.word (jN q):=by
  have:=as9 (List.map (·.1)) h
  unfold oO at this;rw [bg9,bg9] at this;exact this
 have hl:es.length=(eK 0 us).length:=by
  have:=as9 List.length h
  unfold oO at this;simpa using this
 have c:∀ e,e∈es->∃ q,q∈eK 0 us/\e.name=H.word (jN q)/\e.x=H.lin q.1 q.2.2:=by
  intro e d;have h1:fQ e∈oO H us:=by rw [<- h]; exact ay9 d
  unfold oO at h1;obtain ⟨q,f,h2⟩:=ap9.1 h1;exact ⟨q,f,(du9 h2).1.symm,(du9 h2).2.symm⟩
 have g:(es.flatMap (·.x.af)).length<=2^20:=by
  have n:∀ l:List cV,(l.flatMap (·.x.af)).length=((l.map fQ).map (·.2.af.length)).sum:=by
   intro l
   induction l with
   | nil=>rfl
   | cons e l i=>rw [cf9,ae9,bq9,bq9,cu9,i]; rfl
  rw [n,h];unfold oO;rw [bg9];have o:∀ l:List (Nat × tI),(∀ q,q∈l->H.bad q.1 q.2.2=none)->(l.map ((λp:Xaa × bK=>p.2.af.length) ∘ λq=>(H.word (q.1,q.2.1),H.lin q.1 q.2.2))).sum<=(l.map λq=>q.2.2.af.length).sum:=by
   intro l hl
   induction l with
   | nil=>simp
   | cons q l i =>
    rw [bq9,bq9,cu9,cu9];have h1:=i (λp s=>hl p (by simp [s]));have h2:=AH (hl q ai);have h3:((λp:Xaa × bK=>p.2.af.length) ∘ λq:Nat × tI=>(H.word (q.1,q.2.1),H.lin q.1 q.2.2)) q=(H.lin q.1 q.2.2).af.length:=rfl;omega
  have h1:=o (eK 0 us) (λq f=>AI m f);have h2:=Dh us 0;have h3:=sm.af;omega
 refine ⟨⟨?_,?_,?_,?_,?_⟩,g⟩
 ·rw [hn];have h1:=yu us 0 (λu y=>by
   have:=yr (r.right u y)
   unfold gf at this;rw [ct9] at this;exact this.2.1)
  rw [ei9,cs9] at h1 ⊢;refine List.Pairwise.imp_of_mem ?_ h1;intro a b z j k e;exact k (word_inj i0 (.inr (ay9 z)) (.inr (ay9 j)) e)
 ·have:=r.eqs; omega
 ·intro e d;obtain ⟨q,_,h1,_⟩:=c e d;rw [h1];exact D2 lb _
 ·intro e d
  have:=iP (λe:cV=>e.x.af) d
  omega
 ·intro e d t ht;obtain ⟨q,f,_,h2⟩:=c e d;rw [h2] at ht;exact Q5 lb (AI m f) t ht
def NQ {ms:List cV} (o:vl es) (hc:∀ v,¬ lK (dG es) v) (g:ms.map (λm=>(m.name,m.x))=es.map (λe=>(e.name,fy es e.name))) (hl:es.length<=2^19) :
  EqsOk ms/\(∀ e,e∈ms->e.x.af.length<=2^20)/\(ms.flatMap (·.x.af)).length<=2^39/\ms.length<=2^20:=by
 have hn:Sx.aU ms=Sx.aU es:=by
  have:=as9 (List.map (·.1)) g
  rw [bg9,bg9] at this;exact this
 have i:ms.length=es.length:=by
  have:=as9 List.length g
  simpa using this
 have a:∀ e,e∈ms->e.name∈Sx.aU es/\e.x=fy es e.name:=by
  intro e b;have h1:(e.name,e.x)∈es.map (λe=>(e.name,fy es e.name)):=by rw [<- g]; exact ay9 (f:=λm:cV=>(m.name,m.x)) b
  obtain ⟨q,j,h2⟩:=ap9.1 h1;have h3:=(du9 h2).1;exact ⟨by rw [<- h3]; exact ay9 j,by rw [<- (du9 h2).2,h3]⟩
 have c:∀ e,e∈ms->e.x.af.length<=2^20:=λe b=>by rw [(a e b).2]; exact o.F3 hc (a e b).1
 refine ⟨⟨by rw [hn]; exact o.nodup,ad,λe b=>?_,λe b=>by have:=c e b; omega,λe b t ht=>?_⟩,c,?_,ad⟩
 ·exact o.names _ (a e b).1
 ·rw [(a e b).2] at ht;exact o.Ov hc (a e b).1 t ht
 ·have k:∀ l:List cV,(∀ e,e∈l->e.x.af.length<=2^20)->(l.flatMap (·.x.af)).length<=l.length*2^20:=by
   intro l h
   induction l with
   | nil=>simp
   | cons e l n =>
    rw [cf9,ae9,cn9];have h1:=n (λd p=>h d (by simp [p]));have h2:=h e ai;omega
  have:=k ms c
  omega
def XH (n:Int):Instr.fill (λj=>some (j*1,1)) ((Array.range (1*1)).map ((Value.int .u8 0).cells[· % (Value.int .u8 0).cells.size]!)) [(0,.int .u8 n)]=some ([.int .u8 n]:List Xab).toArray:=av
def vV (n:Nat):Xaa:=⟨[UInt8.ofNat (48+n % 10)].toArray⟩
def eO (n:Nat):Xaa:=⟨(Lib.decDigits n).toArray⟩
def By {n:Nat} (h:n<10):eO n=vV n:=by
 unfold eO vV;rw [Lib.decDigits_one h,eb9 h]
def Na {n:Nat} (h:¬ n<10) (s:Xaa):eO n++s=eO (n / 10)++(vV n++s):=by
 unfold eO vV
 conv=>lhs; rw [Lib.decDigits,dif_neg h]
 apply zy;rw [ep,ep,ep];simp [List.append_assoc]
variable {a:Lp} {Z:Xab->Hp->Prop}
def zj {h:Hp} {n:Nat} (hn:n<=2^60) {k:Xaa->T} (hk:∀ h',Ext h h'->k (vV n) a Z h') :
  T.dP Xaz (Instr.buildSlice 204 1 #[(0,.int .u8 (IntKind.wrap .u8 (IntKind.wrap .i64 ((48:Int)+(Int.tmod (n:Int) (10:Int))))))]) false [(false,[.slice 0])] (λb c d =>
   T.dP Xaz (convert 204 9 (.slice b c d)) false [(false,[.string])] k) a Z h:=by
 have hw:=XT n;rw [hw];refine oB SC byZ ad ad (XH _) ?_;intro h1 e f z1;have g:SL h1 h.size 5 1 (some ⟨h.size,0,none⟩) 1 1 (Rm [UInt8.ofNat (48+n % 10)]):=⟨rfl,by simp [Rm],h.size,[],[],rfl,am9 _,ad,by simpa [Rm] using e,ai⟩
 exact Qp g ai (hk h1 f)
def Au (s:Xaa):((ByteArray.toList s)==([]:List UInt8))=decide (s.data.toList=[]):=by
 rw [ByteArray.toList_eq];cases h:s.data.toList <;> simp
variable {O:Hp}
def uu {n:Nat} (hn:n<=2^60):HC Xaz 73 #[vI (n:Int)] O λw h'=>w=.string (eO n)/\Ext O h':=by
 refine aX (args:=[vI (n:Int)]) mixed Tryz.func73 av (nW n) ?_;unfold jt bZ aS;have c:∀ m,(vV m).size=1:=λm=>rfl
 have a:∀ m s,¬ (vV m++s).data.toList=[]:=λm s g=>by rw [ep] at g; simp [vV] at g
 refine aM (cs:=WN) (λy k h'=>∃ (m:Nat) (s:Xaa),y.1=(m:Int)/\y.2.1=s/\k=2*m+(if s.data.toList=[] then 1 else 0)/\m<=n/\s.size+m<=n+1/\Ext O h'/\((s=⟨#[]⟩/\m=n)\/(¬ s.data.toList=[]/\eO n=(if m=0 then ⟨#[]⟩ else eO m)++s))) ((n:Int),(⟨#[]⟩:Xaa),()) _ rfl
  ⟨n,⟨#[]⟩,rfl,rfl,rfl,am9 _,by show 0+n<=n+1; omega,Ch.refl _ _,.inl ⟨rfl,rfl⟩⟩ ?_
 rintro ⟨x,(s:Xaa),⟨⟩⟩ k h1 ⟨m,A,hi,d,rfl,p,t,i,b⟩;simp only at hi d;subst hi d;refine ak ?_;have e:IntKind.wrap .i64 (Int.tdiv (m:Int) 10)=((m / 10:Nat):Int):=by
  have:Int.tdiv (m:Int) 10=((m / 10:Nat):Int):=by rw [Int.tdiv_eq_ediv_of_nonneg ad]; omega
  rw [this,wrap_i64 ad ad]
 have j:∀ s:Xaa,(vV m++s).size=1+s.size:=λs=>by rw [en9,c]
 refine aI ?_ ?_<;>intro q
 ·have l:¬ m=0:=ad
  refine cX bH ?_;refine zj ad ?_;intro h2 o;refine cX (by show ((((vV m).size+s.size:Nat)):Int)<=_; rw [c]; omega) (cX bH ?_);have u:eO n=eO m++s:=by
   rcases b with ⟨rfl,rfl⟩ | ⟨_,b⟩
   ·apply zy;rw [ep]
    simp
   ·rw [b,ac9 l]
  refine aC (cs:=WN) (((m / 10:Nat):Int),vV m++s,()) (2*(m / 10)+0) rfl ad (as9 (λz=>[Value.int .i64 z,.string (vV m++s)]) e) ⟨m / 10,vV m++s,rfl,rfl,by rw [ac9 (a m s)],ad,by rw [j]; omega,i.trans o,.inr ⟨a m s,?_⟩⟩;rw [u]
  by_cases f:m<10
  ·rw [By f,ag9 ad];apply zy;rw [ep,ep,ep]
   simp
  ·rw [Na f,ac9 ad]
 ·have l:m=0:=ad
  subst l;rw [Au];refine aI ?_ ?_<;>intro r
  ·rcases b with ⟨rfl,h0⟩ | ⟨g,_⟩
   ·subst h0;refine cX bH ?_;refine zj ad ?_;intro h2 o;refine cX bH (cX bH ?_);refine aC (cs:=WN) (((0:Nat):Int),vV 0++⟨#[]⟩,()) 0 rfl ai rfl ⟨0,vV 0++⟨#[]⟩,rfl,rfl,by rw [ac9 (a 0 _)],ad,bH,i.trans o,.inr ⟨a 0 _,?_⟩⟩;rw [By ad,ag9 rfl];apply zy;rw [ep,ep]
    simp
   ·exact absurd r g
  ·rcases b with ⟨rfl,_⟩ | ⟨_,b⟩
   ·exact absurd rfl r
   ·refine ⟨?_,i⟩;rw [b,ag9 rfl]
    congr 1
def nD (us:List cm) (n:Nat) (x:bK):Option Xaa:=(x.af.find? λt=>(j9 us n t.1).isNone).map (·.1)
def ei (us:List cm) (n:Nat) (x:bK):Xaa:=(nD us n x).getD ⟨#[]⟩
def S9 (o:Option Nat):decide (UB o<0)=o.isNone:=by
 cases o with
 | none=>rfl
 | some k=>exact al9 (by show ¬ ((k:Int)<0); omega)
variable {U b:Xac}
def HU {l c:Nat} {us:List cm} (v:xZ O U l us) (sz:NY us) {n:Nat} (hn:n<us.length) {m d:Nat} (u:iA O b m V.af) (C:V.af.length<=2^60) :
  HC Xaz 99 #[.slice U l c,vI (n:Int),iD b m d V] O λw h'=>w=.string (ei us n V)/\Ext O h':=by
 refine aX (args:=[.slice U l c,vI (n:Int),.agg #[.slice b m d,.int .u32 V.num]]) mixed Tryz.func99 av (oH U l c n b m d V.num) ?_;unfold jY aR aY bz aK cY aE bZ aS;have hll:=u.len;refine bn ?_;intro h1 D E z1;refine aM (cs:=IA) (λy k h'=>∃ i:Nat,y.2.1=(i:Int)/\k=V.af.length-i/\i<=V.af.length/\Ext O h'/\Ext h1 h'/\∀ j,j<i->(o:j<V.af.length)->(j9 us n V.af[j].1).isNone=false) ((⟨#[]⟩:Xaa),(0:Int),()) V.af.length rfl
  ⟨0,rfl,rfl,ad,E,Ch.refl _ _,λj o=>absurd o ad⟩ ?_
 rintro ⟨F,H,⟨⟩⟩ k h2 ⟨i,hi,rfl,G,f,z,s⟩;simp only at hi;subst hi;refine ak ?_;have b2:=D.aj z ai;refine ay b2 ((b,m,d),()) (ak ?_);refine aI ?_ ?_<;>intro g
 ·have A:i<V.af.length:=ad
  refine ay b2 ((b,m,d),()) (ak ?_);obtain ⟨a,rfl,hc⟩:=(u.aj f ai).cells i A;refine bM rfl ?_;rw [cg i];refine ar (V.af[i].1,()) ⟨hc.1,trivial⟩ (ak ?_);refine aG (Hk (c:=c) (v.aj f) sz hn V.af[i].1) ?_;rintro _ I ⟨rfl,B⟩;refine ⟨(UB (j9 us n V.af[i].1),()),rfl,ak ?_⟩;rw [S9];refine ao ?_ ?_<;>intro r
  ·refine ay (b2.aj B ai) ((some a,m,d),()) (ak ?_);refine bM rfl ?_;refine ar (V.af[i].1,()) ⟨(aP B ai _ _ hc).1,trivial⟩ ?_;refine ⟨?_,f.trans B⟩;unfold ei nD;rw [mF (λt:Xaa × Nat=>(j9 us n t.1).isNone) V.af i A (λj o=>s j o ad) r] <;> rfl
  ·refine aC (cs:=IA) (F,((i+1:Nat):Int),()) (V.af.length-(i+1)) rfl ad (by rw [wrap_i64 ad ad]; rfl) ?_;exact ⟨i+1,rfl,rfl,ad,f.trans B,z.trans B,λj o C=>by
    by_cases e:j=i
    ·subst e; exact r
    ·exact s j ad C⟩
 ·have:i=V.af.length:=ad
  subst this;refine ⟨?_,f⟩;unfold ei nD;rw [pz (λt:Xaa × Nat=>(j9 us n t.1).isNone) V.af λj o=>s j o o] <;> rfl
variable {d i:TypeId}
def D6 {P:Program} {h:Hp} {k:Xac->Nat->Nat->T} {e:TypeId} {z:Xab} {sz by':Nat} (ht:P.underlying d=some (.slice e)) (r:(P.info? e).map (λf=>(f.zero,f.size,f.bytes))=some (some z,sz,by'))
  (w:z.cells.size=sz) {j:Nat} {l c:Nat} {xs:List (List Xab)} (s:SL h j e sz U l c xs) {m n:Nat} {ys:List (List Xab)} (u:(b=none/\ys=[])\/∃ g,b=some g/\aH h g 0 ys.flatten) (E:m=ys.length) (x:∀ y,y∈ys->y.length=sz) (A:ys.flatten.all df=true)
  (B:(2*(l+m)+1024)*by'<=2^48) (C:l+m<=2^48) (F:j<=h.size)
  (hk:∀ p' c' h',SL h' j e sz p' (l+m) c' (xs++ys)->Ch (ax U) h h'->k p' (l+m) c' a Z h') :
  T.dP P (Builtin.append_ #[d,d] i #[.slice U l c,.slice b m n]) false [(false,[.slice 0])] k a Z h:=by
 obtain ⟨f,hi,G,rfl,rfl⟩:=oz r;refine dt ?_;rcases u with ⟨rfl,rfl⟩ | ⟨g,rfl,hc⟩
 ·have h0:m=0:=E;subst h0;have D:l<=c:=SL.I8 s;simp [Builtin.append_,an,az ht,bT hi,cJ hi,Builtin.lenOf,Builtin.firstCells,D];have o:∃ p' l' c',Value.slice U l c=.slice p' l' c'/\k p' l' c' a Z h:=⟨U,l,c,rfl,by simpa using hk U c h (by simpa using s) (Ch.refl _ _)⟩
  cases U with
  | none=>exact o
  | some g=>exact o
 ·exact mI (P:=P) (K:=λv h'=>∃ U l c,v=.slice U l c/\k U l c a Z h') (ty:=i) (ys:=ys) ht hi G w s E x hc A B C F λp' c' h' H k' _=>⟨p',_,c',rfl,hk p' c' h' H k'⟩
def r7 (us:List cm) (n:Nat) (l:List bK):Xaa:=((l.map (ei us n)).find? λs=>!decide (s.data.toList=[])).getD ⟨#[]⟩
def KG {us:List cm} {n:Nat} {l:List bK} {i:Nat} (hi:i<l.length) (h:∀ j,(a:j<i)->(ei us n (l[j]'ad)).data.toList=[]) (b:¬ (ei us n l[i]).data.toList=[]):r7 us n l=ei us n l[i]:=by
 unfold r7;rw [mF (λs:Xaa=>!decide (s.data.toList=[])) (l.map (ei us n)) i (by rw [ab9]; exact hi) (λj a=>by rw [aj9]; simp [h j a]) (by rw [aj9]; simpa using b)];rw [aj9] <;> rfl
def Mq {us:List cm} {n:Nat} {l:List bK} (h:∀ j,(a:j<l.length)->(ei us n l[j]).data.toList=[]):r7 us n l=⟨#[]⟩:=by
 unfold r7;rw [pz (λs:Xaa=>!decide (s.data.toList=[])) (l.map (ei us n)) λj a=>by
  rw [ab9] at a;rw [aj9];simp [h j a]]
 rfl
def Ff {l c:Nat} {us:List cm} (v:xZ O U l us) (sz:NY us) {n:Nat} (hn:n<us.length) :
  HC Xaz 71 #[.slice U l c,vI (n:Int)] O λw h'=>w=.string (r7 us n (cR us[n]))/\Ext O h':=by
 refine aX (args:=[.slice U l c,vI (n:Int)]) mixed Tryz.func71 av (lH U l c n) ?_;unfold iq aR aY bz aK fo bg aE bm bZ aS;have hll:=v.len;have hmany:=sz.many;obtain ⟨a,sa,sb,sc,sd,rfl,hc,va⟩:=v.cells n hn;have hm:=ah9 hn;generalize us[n]=u at hc va hm;refine bM rfl ?_;rw [cg n];refine ar ((sa.p,sa.l,sa.c),(sb.p,sb.l,sb.c),(sc.p,sc.l,sc.c),(sd.p,sd.l,sd.c),()) hc (ak ?_);refine bn ?_;intro h1 b1 e1 z1;refine bJ b1 ?_;intro h2 G k2 z2;have G:br h2 O.size 70 [sa.v,sb.v,sc.v,sd.v]:=G;have e2:Ext O h2:=bS e1 k2;refine ay G ((sa.p,sa.l,sa.c),()) (ak ?_);rw [aw];refine ay G ((sb.p,sb.l,sb.c),()) (ak ?_);have va2:=va.aj e2;obtain ⟨D,K,L,iwt⟩:=E6 va2.text;obtain ⟨E,M,N,iwd⟩:=E6 va2.data;have hlt:D.length=u.text.length:=by rw [<- K,ab9]
 have hld:E.length=u.data.length:=by rw [<- M,ab9]
 have h1t:=sz.text u hm;have h1d:=sz.data u hm;have h1e:=sz.bi u hm;have hlvt:=L.len;have hlvd:=N.len;refine TN (z:=.agg iz.toArray) (sz:=10) (by':=104) CN GN ?_;intro h3 s3 X;have z3:=X.size;have z2':=e2.size;have b3:=G.aj X ai;refine ⟨⟨b3.cells _ rfl,b3.cells _ rfl,trivial⟩,?_⟩;have F:∀ {O h':Hp} {q:Xac} {us:List (bC × cB)},Ext O h'->((q=none/\us.map uN=[])\/∃ a,q=some a/\aH O a 0 (us.map uN).flatten)->((q=none/\us.map uN=[])\/∃ a,q=some a/\aH h' a 0 (us.map uN).flatten):=by
  rintro O h' q us e (x | ⟨a,ha,hc⟩)
  ·exact .inl x
  ·exact .inr ⟨a,ha,aP e ai _ _ hc⟩
 refine D6 (z:=.agg iz.toArray) (sz:=10) (by':=104) CN GN rfl s3 (F X L.src) (by simpa using hlvt) (pQ D) (qB D) ad ad ad ?_;intro p4 c4 h4 s4 k4;have Y:Ext h2 h4:=Ch.trans X k4 (λj b hl=>by simp [ax] at b; omega);have b4:=G.aj Y ai;have z4:=Y.size;rw [cw9] at s4;refine ⟨⟨b4.cells _ rfl,trivial⟩,?_⟩;refine D6 (z:=.agg iz.toArray) (sz:=10) (by':=104) CN GN rfl s4 (F Y N.src) (by simpa using hlvd) (pQ E) (qB E) ad ad ad ?_;intro p5 c5 h5 s5 k5;have Z:Ext h2 h5:=Ch.trans Y k5 (λj b hl=>by have:=(s4.cj b).1; omega);have b5:=G.aj Z ai;rw [<- ao9] at s5;refine ⟨⟨b5.cells _ rfl,trivial⟩,?_⟩;have e05:=e2.trans Z;have hI:∀ w,w∈D++E->jj h5 w.1.p w.1.l w.2:=λw Q=>by
  rcases ar9.1 Q with Q | Q
  ·exact (iwt w Q).aj Z
  ·exact (iwd w Q).aj Z
 have hE:(D++E).map (λw=>w.2.e)=u.text.map (·.e)++u.data.map (·.e):=by
  rw [ao9,<- K,<- M,bg9,bg9] <;> rfl
 have f:cR u=(D++E).map (λw=>w.2.e)++u.bi.map (·.2):=by rw [hE]; rfl
 have hwl:(D++E).length=sa.l+sb.l:=by rw [ae9]; omega
 generalize D++E=W at s5 hI f hwl;clear hE;refine aM (cs:=IA) (λy k h'=>∃ i:Nat,y.2.1=(i:Int)/\k=W.length-i/\i<=W.length/\Ext h5 h'/\∀ j,j<i->(b:j<W.length)->(ei us n W[j].2.e).data.toList=[]) ((⟨#[]⟩:Xaa),(0:Int),()) W.length rfl
  ⟨0,rfl,rfl,ad,Ch.refl _ _,λj b=>absurd b ad⟩ ?_
 rintro ⟨R,n32,⟨⟩⟩ k h6 ⟨i,hi,rfl,hle,I,B⟩;simp only at hi;subst hi;refine ak ?_;have s6:=s5.bf I ai;have e06:=e05.trans I;have b6:=b5.aj I ai;refine aI ?_ ?_<;>intro g
 ·have o:i<W.length:=ad
  obtain ⟨a6,rfl,H⟩:=SL.cells s6 (i:=i) (by rw [ab9]; exact o);rw [aj9] at H;have hiw:=(hI _ (ah9 o)).aj I;refine bM rfl ?_;rw [cg i];refine ar ((W[i].1.p,W[i].1.l,W[i].1.c),(W[i].2.e.num:Int),()) ⟨by rw [add_add]; exact H.2.2.2.2.2.2.2.1,by rw [add_add]; exact H.2.2.2.2.2.2.2.2.1,trivial⟩ ?_;refine ak ?_;refine aG (HU (c:=c) (d:=W[i].1.c) (v.aj e06) sz hn hiw.lin.vw hiw.lin.many) ?_;rintro _ h7 ⟨rfl,J⟩;refine ⟨(ei us n W[i].2.e,()),rfl,ak ?_⟩;rw [Au];refine ao ?_ ?_<;>intro r
  ·have r:¬ (ei us n W[i].2.e).data.toList=[]:=by simpa using r
   refine ⟨?_,e06.trans J⟩;rw [f,KG (i:=i) (by rw [ae9,ab9]; omega) (λj b=>by
    rw [br9 (by rw [ab9]; omega),aj9];exact B j b ad) (by
    rw [br9 (by rw [ab9]; omega),aj9];exact r)]
   rw [br9 (by rw [ab9]; omega),aj9]
  ·have r:(ei us n W[i].2.e).data.toList=[]:=by simpa using r
   refine aC (cs:=IA) (R,((i+1:Nat):Int),()) (W.length-(i+1)) rfl ad (by rw [wrap_i64 ad ad]; rfl) ?_;exact ⟨i+1,rfl,rfl,ad,I.trans J,λj b hx=>by
    by_cases e:j=i
    ·subst e; exact r
    ·exact B j ad hx⟩
 ·have hiW:i=W.length:=ad
  subst hiW;have veq:=va.bi;have hlq:=veq.len;refine aM (cs:=IA) (λy k h'=>∃ i:Nat,y.2.1=(i:Int)/\k=u.bi.length-i/\i<=u.bi.length/\Ext h5 h'/\∀ j,j<i->(b:j<u.bi.length)->(ei us n u.bi[j].2).data.toList=[]) (R,(0:Int),()) u.bi.length rfl
   ⟨0,rfl,rfl,ad,I,λj b=>absurd b ad⟩ ?_
  rintro ⟨s33,n34,⟨⟩⟩ k h7 ⟨i,hi,rfl,hle,J,s⟩;simp only at hi;subst hi;refine ak ?_;have b7:=b5.aj J ai;have e07:=e05.trans J;rw [aw];refine ay b7 ((sc.p,sc.l,sc.c),()) (ak ?_);refine aI ?_ ?_<;>intro g
  ·have o:i<u.bi.length:=ad
   refine ay b7 ((sc.p,sc.l,sc.c),()) (ak ?_);obtain ⟨aq,q,m,d,haq,S,V,_⟩:=(veq.aj e07).cells i o;refine bM haq ?_;rw [cg i];refine ar ((q,m,d),(u.bi[i].2.num:Int),()) ⟨by rw [add_add]; exact S.2.1,by rw [add_add]; exact S.2.2.1,trivial⟩ ?_;refine ak ?_;refine aG (HU (c:=c) (d:=d) (v.aj e07) sz hn V.vw V.many) ?_;rintro _ h8 ⟨rfl,e8⟩;refine ⟨(ei us n u.bi[i].2,()),rfl,ak ?_⟩;rw [Au];have t:(W.map λw=>w.2.e).length=W.length:=ab9 _;refine ao ?_ ?_<;>intro r
   ·have r:¬ (ei us n u.bi[i].2).data.toList=[]:=by simpa using r
    refine ⟨?_,e07.trans e8⟩;have A:∀ j (b:j<u.bi.length),((W.map λw=>w.2.e)++u.bi.map (·.2))[W.length+j]'(by rw [ae9,ab9,ab9]; omega)=u.bi[j].2:=λj b=>by
     rw [ch9 (by rw [t]; omega)];simp [t]
    rw [f,KG (i:=W.length+i) (by rw [ae9,ab9,ab9]; omega) (λj b=>by
     by_cases C:j<W.length
     ·rw [br9 (by rw [t]; omega),aj9];exact B j ad C
     ·have:=A (j-W.length) ad
      simp only [show W.length+(j-W.length)=j from ad] at this;rw [this];exact s _ ad _) (by rw [A i o]; exact r),A i o]
   ·have r:(ei us n u.bi[i].2).data.toList=[]:=by simpa using r
    refine aC (cs:=IA) (s33,((i+1:Nat):Int),()) (u.bi.length-(i+1)) rfl ad (by rw [wrap_i64 ad ad]; rfl) ?_;exact ⟨i+1,rfl,rfl,ad,J.trans e8,λj b hx=>by
     by_cases e:j=i
     ·subst e; exact r
     ·exact s j ad hx⟩
  ·have hie:i=u.bi.length:=ad
   subst hie;refine ⟨?_,e07⟩;rw [f,Mq λj b=>by
    rw [ae9,ab9,ab9] at b
    by_cases C:j<W.length
    ·rw [br9 (by rw [ab9]; omega),aj9];exact B j C C
    ·rw [ch9 (by rw [ab9]; omega),aj9];exact s _ (by simp; omega) _]
theorem kR {α:Type} (f:Nat->Option α) (x:α):∀ (n i:Nat),i<n->(∀ j,j<i->f j=none)->f i=some x->(List.range n).findSome? f=some x
 | 0,i,hi,_,_=>absurd hi ad
 | n+1,i,hi,h0,a=>by
  rw [List.range_succ,fm9]
  by_cases h:i<n
  ·rw [kR f x n i h h0 a] <;> rfl
  ·have:i=n:=ad
   subst this;have hn:(List.range i).findSome? f=none:=by
    rw [db9];intro j b;exact h0 j (ef9.1 b)
   rw [hn];simp [a]
def kH {α:Type} (f:Nat->Option α) (n:Nat) (h:∀ j,j<n->f j=none):(List.range n).findSome? f=none:=by
 rw [db9];intro j a;exact h j (ef9.1 a)
def zU (us:List cm) (i:Nat):Option (Nat × Xaa):=us[i]?.bind λu=>(u.aT.find? λs=>(us.take i).any λv=>hQ v.aT s).map λs=>(i,s)
def Gg (us:List cm):Option (Nat × Xaa):=(List.range us.length).findSome? (zU us)
def CJ (us:List cm) (i:Nat):Option (Nat × Xaa):=us[i]?.bind λu=>if (r7 us i (cR u)).data.toList=[] then none else some (i,r7 us i (cR u))
def Qu (us:List cm):Option (Nat × Xaa):=(List.range us.length).findSome? (CJ us)
def gg (us:List cm):Fl :=
 if us.length=0 then ⟨25,0,dZ⟩
 else if 64<us.length then ⟨4,0,dZ⟩
 else match us.findIdx? λu=>decide (fC u≠0) with
 | some n=>⟨31,n,dZ⟩
 | none=>match Gg us with
  | some q=>⟨22,q.1,q.2⟩
  | none=>match Qu us with
   | some q=>⟨23,q.1,q.2⟩
   | none=>⟨0,0,dZ⟩
def SS (f:Fl):Xab:=.agg #[vI (f.r6:Int),vI (f.unit:Int),.string f.name]
variable {e f:Int}
def ue {h0 h:Hp} {g:Nat} (bx:br h g 91 [vI e,vI f,.string Y]) (e0:Ext h0 h) (m:h0.size<=g) (c:Fl) (hk:∀ h',Ext h0 h'->Z (SS c) h') :
  T.aD ⟨g,0,none⟩ [vI (c.r6:Int),vI (c.unit:Int),.string c.name] (T.ah ⟨g,0,none⟩ [.int .i64,.int .i64,.string] λ(i j:Int) (k:Xaa)=>T.ret (.agg #[vI i,vI j,.string k])) a Z h:=by
 refine bJ bx ?_;intro h2 d l z2;have d:br h2 g 91 [vI (c.r6:Int),vI (c.unit:Int),.string c.name]:=d;refine ay d ((c.r6:Int),(c.unit:Int),c.name,()) ?_;exact hk h2 (bS e0 l)
def NY.of {us:List cm} (a:us.length<=64) (c:∀ u,u∈us->fC u=0):NY us:=by
 have r:F0 us:=⟨c,a⟩
 refine ⟨ad,λu b=>?_,λu b=>?_,λu b=>?_⟩ <;> have:=r.bi b <;> omega
def Kl {l c:Nat} {us:List cm} (v:xZ O U l us):HC Xaz 43 #[.slice U l c] O λw h'=>w=SS (gg us)/\Ext O h':=by
 refine aX (args:=[.slice U l c]) mixed Tryz.func43 av (nr U l c) ?_;unfold ji aR aY bz aK bj cY fo bZ aS;have hll:=v.len;refine bn ?_;intro h1 N L z1;refine ao ?_ ?_<;>intro g
 ·have g:l=0:=by have:(l:Int)=0:=(by simpa using g); omega
  refine ue N L (am9 _) ⟨25,0,dZ⟩ λh' m=>⟨?_,m⟩
  unfold gg;rw [ag9 ad]
 have n:¬ us.length=0:=by
  intro hh
  have:l=0:=ad
  subst this;cases g
 refine ao ?_ ?_<;>intro g64
 ·have g64:=ai9 g64;refine ue N L (am9 _) ⟨4,0,dZ⟩ λh' m=>⟨?_,m⟩
  unfold gg;rw [ac9 n,ag9 ad]
 have g64:=aw9 g64;have A:¬ 64<us.length:=ad
 refine aM (cs:=cz) (λy k h'=>∃ i:Nat,y.1=(i:Int)/\k=us.length-i/\i<=us.length/\Ext h1 h'/\∀ j,j<i->(d:j<us.length)->fC us[j]=0) ((0:Int),()) us.length rfl
  ⟨0,rfl,rfl,ad,Ch.refl _ _,λj d=>absurd d ad⟩ ?_
 rintro ⟨n2,⟨⟩⟩ k h2 ⟨i,hi,rfl,hle,e2,hr⟩;simp only at hi;subst hi;refine ak ?_;have b2:=N.aj e2 ai;have e02:=L.trans e2;refine ao ?_ ?_<;>intro q
 ·have q:=ai9 q;have P:i<us.length:=ad
  obtain ⟨a,sa,sb,sc,sd,rfl,hc,va⟩:=(v.aj e02).cells i P;refine bM rfl ?_;rw [cg i];refine ar ((sa.p,sa.l,sa.c),(sb.p,sb.l,sb.c),(sc.p,sc.l,sc.c),(sd.p,sd.l,sd.c),()) hc (ak ?_);refine aG (M4 va) ?_;rintro _ h3 ⟨rfl,M⟩;refine ⟨(((fC us[i]:Nat):Int),()),rfl,ak ?_⟩;refine ao ?_ ?_<;>intro r
  ·have r:¬ fC us[i]=0:=by
    intro hh;rw [hh] at r;cases r
   refine ue (b2.aj M ai) (e02.trans M) (am9 _) ⟨31,i,dZ⟩ λh' m=>⟨?_,m⟩
   unfold gg;rw [ac9 n,ac9 A,show us.findIdx? (λu=>decide (fC u≠0))=some i from by
    rw [bf9];exact ⟨P,ak9 r,λj d=>by simp [hr j d ad]⟩]
  ·have r:fC us[i]=0:=by
    have:((fC us[i]:Nat):Int)=0:=by simpa using r
    omega
   refine aC (cs:=cz) (((i+1:Nat):Int),()) (us.length-(i+1)) rfl ad (by rw [wrap_i64 ad ad]; rfl) ?_;exact ⟨i+1,rfl,rfl,ad,e2.trans M,λj d Q=>by
    by_cases e:j=i
    ·subst e; exact r
    ·exact hr j ad Q⟩
 have q:=aw9 q;have hR:∀ u,u∈us->fC u=0:=λu hu=>by
  obtain ⟨j,d,rfl⟩:=bh9 hu;exact hr j ad d
 have sz:=NY.of ad hR;have F:us.findIdx? (λu=>decide (fC u≠0))=none:=by
  rw [bz9];intro u hu;rw [hR u hu];decide
 clear hr;refine aM (cs:=cz) (λy k h'=>∃ i:Nat,y.1=(i:Int)/\k=us.length-i/\i<=us.length/\Ext h1 h'/\∀ j,j<i->zU us j=none) ((0:Int),()) us.length rfl
  ⟨0,rfl,rfl,ad,e2,λj d=>absurd d ad⟩ ?_
 rintro ⟨n3,⟨⟩⟩ k h3 ⟨i3,hi,rfl,hle3,M,G⟩;simp only at hi;subst hi;refine ak ?_;have hw3:=gK i3;refine ao ?_ ?_<;>intro q3
 ·have q3:=ai9 q3;have o:i3<us.length:=ad
  have t:us[i3]?=some us[i3]:=ad9 o;obtain ⟨a3,sa,sb,sc,sd,rfl,R,B⟩:=v.cells i3 o;generalize us[i3]=u at t R B;have hgm:=B.aT.many;have hgl:=B.aT.len;refine aM (cs:=cz) (λy k h'=>∃ i:Nat,y.1=(i:Int)/\k=u.aT.length-i/\i<=u.aT.length/\Ext h1 h'/\∀ j,j<i->(d:j<u.aT.length)->((us.take i3).any λv=>hQ v.aT u.aT[j])=false) ((0:Int),()) u.aT.length rfl
   ⟨0,rfl,rfl,ad,M,λj d=>absurd d ad⟩ ?_
  rintro ⟨n4,⟨⟩⟩ k h4 ⟨b,hi,rfl,S,H,I⟩;simp only at hi;subst hi;refine ak ?_;have hw4:=gK b;have e04:=L.trans H;have C:∀ {h':Hp},Ext O h'->aH h' ((a3.add (i3*4)).add 3) 0 [.slice sd.p sd.l sd.c]:=λe=>⟨by rw [add_add]; exact (aP e ai _ _ R).2.2.2.1,trivial⟩
  refine bM rfl ?_;rw [cg i3];refine ar ((sd.p,sd.l,sd.c),()) (C e04) (ak ?_);refine aI ?_ ?_<;>intro q4
  ·have f:b<u.aT.length:=ad
   have hsg:u.aT[b]?=some u.aT[b]:=ad9 f;obtain ⟨ag,V,W,_⟩:=B.aT.cells b f;refine aM (cs:=cz) (λy k h'=>∃ i:Nat,y.1=(i:Int)/\k=i3-i/\i<=i3/\Ext h1 h'/\∀ j,j<i->(d:j<us.length)->hQ us[j].aT u.aT[b]=false) ((0:Int),()) i3 rfl
    ⟨0,rfl,rfl,ad,H,λj d=>absurd d ad⟩ ?_
   rintro ⟨n9,⟨⟩⟩ k h5 ⟨x,hi,rfl,hle5,E,X⟩;simp only at hi;subst hi;refine ak ?_;have hw5:=gK x;have e05:=L.trans E;have b5:=N.aj E ai;refine aI ?_ ?_<;>intro q5
   ·have Y:x<us.length:=ad
    obtain ⟨a5,ta,tb,tc,td,ha5,hc5,J⟩:=(v.aj e05).cells x Y;refine bM ha5 ?_;rw [cg x];refine ar ((td.p,td.l,td.c),()) ⟨by rw [add_add]; exact hc5.2.2.2.1,trivial⟩ ?_;refine ak ?_;refine bM rfl ?_;refine ar ((sd.p,sd.l,sd.c),()) (C e05) (ak ?_);refine bM V ?_;rw [cg b];refine ar (u.aT[b],()) (aP e05 ai _ _ W) (ak ?_);refine aJ (LZ J.aT.len (λj d=>by
     obtain ⟨a,ha,hc,_⟩:=J.aT.cells j d;exact ⟨a,ha,hc⟩) (by have:=J.aT.many; omega) u.aT[b]) ?_
    refine ⟨⟨C e05,trivial⟩,?_⟩;refine ao ?_ ?_<;>intro r
    ·refine bM rfl ?_;refine ar ((sd.p,sd.l,sd.c),()) (C e05) (ak ?_);refine bM V ?_;refine ar (u.aT[b],()) (aP e05 ai _ _ W) (ak ?_);refine ue b5 e05 (am9 _) ⟨22,i3,u.aT[b]⟩ λh' m=>⟨?_,m⟩
     have hda:zU us i3=some (i3,u.aT[b]):=by
      unfold zU;rw [t,do9,mF (λs=>(us.take i3).any λv=>hQ v.aT s) u.aT b f (λj d=>I j d ad) (by
       rw [ed9];exact ⟨us[x],List.mem_take_iff_getElem.2 ⟨x,ad,rfl⟩,r⟩)]
      rfl
     unfold gg Gg;rw [ac9 n,ac9 A,F,kR _ _ _ i3 o G hda]
    ·refine aC (cs:=cz) (((x+1:Nat):Int),()) (i3-(x+1)) rfl ad (as9 (λz=>[Value.int .i64 z]) hw5) ⟨x+1,rfl,rfl,ad,E,λj d Q=>?_⟩
     by_cases e:j=x
     ·subst e; exact r
     ·exact X j ad Q
   ·have:x=i3:=ad
    subst this;refine aC (cs:=cz) (((b+1:Nat):Int),()) (u.aT.length-(b+1)) rfl ad (as9 (λz=>[Value.int .i64 z]) hw4) ⟨b+1,rfl,rfl,ad,E,λj d Q=>?_⟩
    by_cases e:j=b
    ·subst e;rw [List.any_eq_false];intro w hw;obtain ⟨j5,hj5,rfl⟩:=List.mem_take_iff_getElem.1 hw;rw [X j5 ad ad]
     simp
    ·exact I j ad Q
  ·have:b=u.aT.length:=ad
   subst this;refine aC (cs:=cz) (((i3+1:Nat):Int),()) (us.length-(i3+1)) rfl ad (as9 (λz=>[Value.int .i64 z]) hw3) ⟨i3+1,rfl,rfl,ad,H,λj d=>?_⟩
   by_cases e:j=i3
   ·subst e;unfold zU;rw [t,do9,pz _ u.aT λj d=>I j d d] <;> rfl
   ·exact G j ad
 have q3:=aw9 q3;have Z:Gg us=none:=kH _ _ λj d=>G j ad
 refine aM (cs:=cz) (λy k h'=>∃ i:Nat,y.1=(i:Int)/\k=us.length-i/\i<=us.length/\Ext h1 h'/\∀ j,j<i->CJ us j=none) ((0:Int),()) us.length rfl
  ⟨0,rfl,rfl,ad,M,λj d=>absurd d ad⟩ ?_
 rintro ⟨n4,⟨⟩⟩ k h4 ⟨b,hi,rfl,S,H,K⟩;simp only at hi;subst hi;refine ak ?_;have hw4:=gK b;have e04:=L.trans H;have b4:=N.aj H ai;refine aI ?_ ?_<;>intro q4
 ·have f:b<us.length:=ad
  have t:us[b]?=some us[b]:=ad9 f;refine aG (Ff (c:=c) (v.aj e04) sz f) ?_;rintro _ h5 ⟨rfl,E⟩;refine ⟨(r7 us b (cR us[b]),()),rfl,ak ?_⟩;rw [Au];have D:CJ us b=if (r7 us b (cR us[b])).data.toList=[] then none else some (b,r7 us b (cR us[b])):=by
   unfold CJ;rw [t,do9]
  refine ao ?_ ?_<;>intro r
  ·have r:¬ (r7 us b (cR us[b])).data.toList=[]:=by simpa using r
   rw [ac9 r] at D;refine ue (b4.aj E ai) (e04.trans E) (am9 _) ⟨23,b,r7 us b (cR us[b])⟩ λh' m=>⟨?_,m⟩
   unfold gg Qu;rw [ac9 n,ac9 A,F,Z,kR _ _ _ b f K D]
  ·have r:(r7 us b (cR us[b])).data.toList=[]:=by simpa using r
   rw [ag9 r] at D;refine aC (cs:=cz) (((b+1:Nat):Int),()) (us.length-(b+1)) rfl ad (as9 (λz=>[Value.int .i64 z]) hw4) ⟨b+1,rfl,rfl,ad,H.trans E,λj d=>?_⟩
   by_cases e:j=b
   ·subst e; exact D
   ·exact K j ad
 ·refine ue b4 e04 (am9 _) ⟨0,0,dZ⟩ λh' m=>⟨?_,m⟩
  unfold gg Qu;rw [ac9 n,ac9 A,F,Z,kH _ _ λj d=>K j ad]
theorem RS (n:Nat):∀ (l:List Xaa) (w:LW) (s:Xaa),(l.foldl (wW n) w).gl s=if hQ l s=true then some n else w.gl s
 | [],w,s=>by simp [hQ]
 | a::l,w,s=>by
  rw [bt9,RS n l (wW n w a) s];have h1:hQ (a::l) s=(decide (a=s) || hQ l s):=by unfold hQ; rw [List.any_cons]
  have h2:(wW n w a).gl s=if a=s then some n else w.gl s:=by
   show dW w.gl a n s=_;unfold dW
   by_cases h:s=a
   ·rw [ag9 h,ag9 h.symm]
   ·rw [ac9 h,ac9 λe=>h e.symm]
  rw [h1,h2]
  by_cases b:a=s <;> by_cases hl:hQ l s=true <;> simp [b,hl]
def Tl (us:List cm) (s:Xaa):Option Nat:=us.findIdx? λu=>hQ u.aT s
def RC (us:List cm) (s:Xaa):(Tl us s).isSome=us.any λu=>hQ u.aT s:=by
 unfold Tl;rw [List.findIdx?_isSome]
theorem GJ (us:List cm):∀ (k n:Nat) (w:LW),us.length-n=k->n<=us.length->(∀ s,w.gl s=Tl (us.take n) s)->(∀ j,j<n->zU us j=none) ->
  match lV n (us.drop n) w with
  | .error q=>Gg us=some q
  | .ok w'=>Gg us=none/\∀ s,w'.gl s=Tl us s
 | 0,n,w,hk,hn,c,d=>by
  have:n=us.length:=ad
  subst this;rw [dg9];rw [bj9] at c;exact ⟨kH _ _ d,c⟩
 | k+1,n,w,hk,hn,c,d=>by
  have a:n<us.length:=ad
  rw [ax9 a];unfold lV;have f:us[n]?=some us[n]:=ad9 a;have o:(λg=>(w.gl g).isSome)=λg=>(us.take n).any λv=>hQ v.aT g:=by
   funext g
   rw [c,RC]
  have b:zU us n=(us[n].aT.find? λg=>(w.gl g).isSome).map λs=>(n,s):=by
   unfold zU;rw [f,do9,o]
  cases h:us[n].aT.find? λg=>(w.gl g).isSome with
  | some g =>
   rw [h] at b;exact kR _ _ _ n a d b
  | none =>
   rw [h] at b;refine GJ us k (n+1) (HM n us[n] w) ad a (λs=>?_) (λj t=>?_)
   ·unfold HM;rw [RS,af9 a];unfold Tl;rw [ee9];have h0:=c s;unfold Tl at h0;rw [<- h0]
    by_cases hi:hQ us[n].aT s=true
    ·rw [ag9 hi];have p:s∈us[n].aT:=by
      unfold hQ at hi;obtain ⟨x,i,l⟩:=ed9.1 hi;rw [<- ai9 l]; exact i
     have:=List.find?_eq_none.1 h s p
     have m:w.gl s=none:=by
      cases r:w.gl s with
      | none=>rfl
      | some q=>rw [r] at this; exact absurd rfl this
     rw [m];simp [List.findIdx?_cons,hi,List.length_take];omega
    ·rw [ac9 hi];cases w.gl s <;> simp [List.findIdx?_cons,hi]
   ·by_cases e:j=n
    ·subst e; exact b
    ·exact d j ad
theorem yZ (s:Xaa) (n:Nat):∀ (us:List cm) (m:Nat),(n,s)∈(cr m us).map AE↔∃ u,m<=n/\us[n-m]?=some u/\(s∈eM u.text\/s∈eM u.data)
 | [],m=>by simp [cr]
 | u::us,m=>by
  rw [cr,ao9,ar9,yZ s n us (m+1)];unfold H5;rw [ao9,ya,ya,ar9,ap9,ap9];constructor
  ·rintro ((⟨x,b,c⟩ | ⟨x,b,c⟩) | ⟨v,h1,h2,a⟩)
   ·cases c;exact ⟨u,am9 _,ai,.inl b⟩
   ·cases c;exact ⟨u,am9 _,ai,.inr b⟩
   ·refine ⟨v,ad,?_,a⟩;rw [show n-m=(n-(m+1))+1 from ad];exact h2
  ·rintro ⟨v,h1,h2,a⟩
   by_cases e:n=m
   ·subst e;rw [fg9] at h2;cases h2;rcases a with a | a
    ·exact .inl (.inl ⟨s,a,rfl⟩)
    ·exact .inl (.inr ⟨s,a,rfl⟩)
   ·refine .inr ⟨v,ad,?_,a⟩;rw [show n-m=(n-(m+1))+1 from ad] at h2;exact h2
theorem Bj (s:Xaa) (n:Nat):∀ (us:List cm) (m:Nat),(n,s)∈(eK m us).map jN↔∃ u,m<=n/\us[n-m]?=some u/\s∈u.bi.map (·.1)
 | [],m=>by simp [eK]
 | u::us,m=>by
  rw [eK,ao9,ar9,Bj s n us (m+1),bg9];constructor
  ·rintro (h | ⟨v,h1,h2,a⟩)
   ·obtain ⟨e,c,b⟩:=ap9.1 h;cases b;exact ⟨u,am9 _,ai,ap9.2 ⟨e,c,rfl⟩⟩
   ·refine ⟨v,ad,?_,a⟩;rw [show n-m=(n-(m+1))+1 from ad];exact h2
  ·rintro ⟨v,h1,h2,a⟩
   by_cases e:n=m
   ·subst e;rw [fg9] at h2;cases h2;obtain ⟨x,d,rfl⟩:=ap9.1 a;exact .inl (ap9.2 ⟨x,d,rfl⟩)
   ·refine .inr ⟨v,ad,?_,a⟩;rw [show n-m=(n-(m+1))+1 from ad] at h2;exact h2
def zI (l:List Ky) (k:Ky):(oG l k).isSome=true↔k∈l:=by
 constructor
 ·intro h;apply ey9;intro hk;rw [pR.2 hk] at h;cases h
 ·intro h;obtain ⟨i,hi⟩:=CQ h;rw [hi] <;> rfl
def T0 {us:List cm} (i0:WI H (cr 0 us) ((eK 0 us).map jN)) {n:Nat} {u:cm} (a:us[n]?=some u) (s:Xaa):H.has (n,s)=true↔s∈gf u:=by
 unfold LW.has;rw [i0.num,i0.tA,Bool.or_eq_true,zI,zI,yZ,Bj];unfold gf;rw [ar9,ar9];simp only [Nat.sub_zero,Nat.zero_le,true_and];constructor
 ·rintro (⟨v,hv,h⟩ | ⟨v,hv,h⟩)
  ·rw [a] at hv; cases hv; exact .inl h
  ·rw [a] at hv; cases hv; exact .inr h
 ·rintro (h | h)
  ·exact .inl ⟨u,a,h⟩
  ·exact .inr ⟨u,a,h⟩
def O7 {us:List cm} (i0:WI H (cr 0 us) ((eK 0 us).map jN)) (a:∀ s,H.gl s=Tl us s) {n:Nat} (hn:n<us.length) (s:Xaa):H.own n s=(j9 us n s).map λo=>(o,s):=by
 have hu:=ad9 hn;have h1:=T0 i0 hu s;have h2:hQ (gf us[n]) s=true↔s∈gf us[n]:=by
  unfold hQ;rw [ed9];constructor
  ·rintro ⟨x,b,c⟩;rw [<- ai9 c]; exact b
  ·intro h;exact ⟨s,h,ak9 rfl⟩
 unfold LW.own j9;rw [hu,ez9,a s]
 by_cases h:s∈gf us[n]
 ·rw [ag9 (h1.2 h),ag9 (by rw [h2.2 h])] <;> rfl
 ·rw [ac9 λx=>h (h1.1 x),ac9 λx=>h (h2.1 (bb9 x))] <;> rfl
theorem Ee (n sec:Nat) (x:cB):∀ (l:List cB) (i:Nat),ri n sec i (l++[x])=ri n sec i l++if x.kind=1 then [⟨n,sec,i+l.length,x.name⟩] else []
 | [],i=>by simp [ri]
 | y::l,i=>by
  simp only [List.cons_append,ri,List.length_cons];rw [Ee n sec x l (i+1),show i+1+l.length=i+(l.length+1) from ad,az9]
structure Fy (h:Hp) (g:Nat) (su lb st sd:bC) (L:List Lb):Prop where
 box:br h g 45 [su.v,lb.v,st.v,sd.v]
 rF:SL h (g+1) 178 4 lb.p lb.l lb.c (L.map RF)
def Fy.aj {h h':Hp} {g:Nat} {su lb st sd:bC} {L:List Lb} (s:Fy h g su lb st sd L) (e:Ext h h'):Fy h' g su lb st sd L:=⟨s.box.aj e ai,s.rF.bf e ai⟩
def Xp:Tryz.prog.underlying 42=some (.slice 178):=av
def ZB:(Tryz.prog.info? 178).map (λi=>(i.zero,i.size,i.bytes))=some (some (.agg #[vI 0,vI 0,vI 0,.string ⟨#[]⟩]),4,40):=av
def Gl {h0:Hp} {g:Nat} {su lb st sd:bC} {L:List Lb} (N:h0.size<=g) (e0:Ext h0 O) (s:Fy O g su lb st sd L) {l c:Nat} {xs:List cB} (v:Ge h0 U l xs) (P:L.length+xs.length<=2^40) (n sec:Nat) :
  HC Xaz 44 #[.pointer (some ⟨g,0,none⟩),vI (n:Int),vI (sec:Int),.slice U l c] O λw h'=>w=.tuple #[]/\Ext h0 h'/\O.size<=h'.size/\∃ f,Fy h' g su f st sd (L++ri n sec 0 xs):=by
 refine aX (args:=[.pointer (some ⟨g,0,none⟩),vI (n:Int),vI (sec:Int),.slice U l c]) mixed Tryz.func44 av (jn (some ⟨g,0,none⟩) n sec U l c) ?_;unfold fE aR aY bz aK bg bR aS;have hll:=v.len;refine aM (cs:=cz) (λy k h'=>∃ (i:Nat) (f:bC),y.1=(i:Int)/\k=xs.length-i/\i<=xs.length/\Ext h0 h'/\O.size<=h'.size/\Fy h' g su f st sd (L++ri n sec 0 (xs.take i))) ((0:Int),()) xs.length rfl
  ⟨0,lb,rfl,rfl,ad,e0,am9 _,by simpa [ri] using s⟩ ?_
 rintro ⟨Q,⟨⟩⟩ k h1 ⟨i,b,hi,rfl,I,t,z1,d⟩;simp only at hi;subst hi;refine ak ?_;have hw:=gK i;refine aI ?_ ?_<;>intro q
 ·have u:i<xs.length:=ad
  have B:xs.take (i+1)=xs.take i++[xs[i]]:=af9 u;have hsn:=Ee n sec xs[i] (xs.take i) 0;rw [<- B,au9,cp9 ad,by9] at hsn;obtain ⟨a,pp,R,S,rfl,hc,_⟩:=v.cells i u;generalize xs[i]=x at hc hsn;refine bM rfl ?_;rw [cg i];refine ar (x.kind,()) ⟨(aP t ai _ _ hc).1,trivial⟩ (ak ?_);refine ao ?_ ?_<;>intro r
  ·have r:x.kind=1:=by simpa using r
   rw [ag9 r] at hsn;refine aF rfl ?_;rw [aw];refine ay d.box ((b.p,b.l,b.c),()) (ak ?_);have m:∀ {h':Hp},Ext h0 h'->aH h' ((a.add (i*10)).add 1) 0 [.string x.name]:=λe=>⟨by rw [add_add]; exact (aP e ai _ _ hc).2.1,trivial⟩
   refine bM rfl ?_;refine ar (x.name,()) (m t) (ak ?_);have C:b.l=(L++ri n sec 0 (xs.take i)).length:=by have:=d.rF.1; rwa [ab9] at this
   have hla:=sZ n sec (xs.take i) 0;rw [ae9] at C;rw [au9] at hla;have hgs:=d.box.lt;refine gz (vs:=RF ⟨n,sec,i,x.name⟩) Xp ZB rfl ad ad (Px _ _ _ _) rfl rfl d.rF ad ad ad (λh' e=>⟨m (t.trans e),(d.box.aj e ai).cells _ rfl,trivial⟩) ?_;intro p' c' h2 F D J;have A:∀ j,j∈ax b.p->h0.size<=j/\g<j:=λj o=>by have:=(d.rF.cj o).1; omega
   have G:Ext h0 h2:=Ch.trans t D (λj o hl=>by have:=A j o; omega);have b2:=d.box.aj D (λo=>by have:=A _ o; omega);have z2:=D.size;refine ⟨⟨m G,trivial⟩,aF rfl ?_⟩;rw [aw];refine bJ b2 ?_;intro h3 E H z3;have E:br h3 g 45 [su.v,(⟨p',b.l+1,c'⟩:bC).v,st.v,sd.v]:=E;have K:Ext h0 h3:=bS G H;refine aC (cs:=cz) (((i+1:Nat):Int),()) (xs.length-(i+1)) rfl ad (as9 (λz=>[Value.int .i64 z]) hw) ⟨i+1,⟨p',b.l+1,c'⟩,rfl,rfl,ad,K,ad,E,?_⟩;rw [hsn,<- az9,ao9];exact F.bf H (λj o M=>by have:=(F.cj o).1; simp at M; omega)
  ·have r:¬ x.kind=1:=by simpa using r
   rw [ac9 r,cb9] at hsn;refine aC (cs:=cz) (((i+1:Nat):Int),()) (xs.length-(i+1)) rfl ad (as9 (λz=>[Value.int .i64 z]) hw) ⟨i+1,b,rfl,rfl,ad,t,z1,by rw [hsn]; exact d⟩
 ·have:i=xs.length:=ad
  subst this;rw [bj9] at d;exact ⟨rfl,t,z1,b,d⟩
def IV (u:Nat):Lib.nDigits u<=u+1:=by
 induction u using Nat.strongRecOn with
 | _ u a =>
  rw [Lib.nDigits];split
  ·omega
  ·have:=a (u / 10) ad
   omega
def DW (n:Nat):(eO n).size<=n+1:=by
 have:(eO n).size=(Lib.decDigits n).length:=rfl
 rw [this,Lib.decDigits_length];exact IV n
def XQ (L:List Lb) (o:Nat) (s:Xaa):Option Nat:=L.findIdx? λx=>decide (x.u=o) && decide (x.n=s)
def zn (L:List Lb) (o:Nat) (s:Xaa):Xaa:=match XQ L o s with
 | some i=>⟨#[76]⟩++eO i
 | none=>((⟨#[69]⟩++eO o)++⟨#[95]⟩)++s
def dS (us:List cm) (L:List Lb) (n:Nat) (s:Xaa):Xaa:=zn L ((j9 us n s).getD 0) s
def Vo {us:List cm} {n o:Nat} (h:j9 us n Y=some o):o<us.length:=by
 unfold j9 at h;split at h
 ·rename_i a;cases h;cases b:us[n]? with
  | none=>rw [b] at a; cases a
  | some u=>exact (bc9.1 b).1
 ·rw [bf9] at h;exact h.1
def WL {L:List Lb} {o i:Nat} (hi:i<L.length) (h:∀ j,(a:j<i)->¬ ((L[j]'ad).u=o/\(L[j]'ad).n=Y)) (h1:L[i].u=o) (h2:L[i].n=Y):XQ L o Y=some i:=by
 unfold XQ;rw [bf9];refine ⟨hi,by simp [h1,h2],λj a=>?_⟩
 have:=h j a
 simpa using this
def Od {L:List Lb} {o:Nat} (h:∀ j,(a:j<L.length)->¬ (L[j].u=o/\L[j].n=Y)):XQ L o Y=none:=by
 unfold XQ;rw [bz9];intro x b;obtain ⟨j,a,rfl⟩:=bh9 b
 have:=h j a
 simpa using this
def Lc {g:Nat} {su lb st sd:bC} {L:List Lb} (s:Fy O g su lb st sd L) {us:List cm} (v:xZ O su.p su.l us) (sz:NY us) {n:Nat} (hn:n<us.length) (M:L.length<=2^40) {a:Xaa} {o:Nat} (A:j9 us n a=some o) (N:a.size<=2^60) :
  HC Xaz 45 #[.pointer (some ⟨g,0,none⟩),vI (n:Int),.string a] O λw h'=>w=.string (dS us L n a)/\Ext O h':=by
 refine aX (args:=[.pointer (some ⟨g,0,none⟩),vI (n:Int),.string a]) mixed Tryz.func45 av (jH (some ⟨g,0,none⟩) n a) ?_;unfold fN aR aY bz aK cY fo bZ aS;have hol:=Vo A;have hmany:=sz.many;refine aF rfl ?_;refine ay s.box ((su.p,su.l,su.c),()) (ak ?_);refine aG (Hk (c:=su.c) v sz hn a) ?_;rintro _ h1 ⟨rfl,B⟩;rw [A];refine ⟨((o:Int),()),rfl,ak ?_⟩;have s1:=s.aj B;have C:dS us L n a=zn L o a:=by unfold dS; rw [A]; rfl
 rw [C];have H:lb.l=L.length:=by have:=s.rF.1; rwa [ab9] at this
 refine aM (cs:=IA) (λy k h'=>∃ i:Nat,y.2.1=(i:Int)/\k=L.length-i/\i<=L.length/\h'=h1/\∀ j,j<i->(d:j<L.length)->¬ (L[j].u=o/\L[j].n=a)) ((⟨#[]⟩:Xaa),(0:Int),()) L.length rfl
  ⟨0,rfl,rfl,ad,rfl,λj d=>absurd d ad⟩ ?_
 rintro ⟨D,P,⟨⟩⟩ k h2 ⟨i,hi,rfl,I,rfl,f⟩;simp only at hi;subst hi;refine ak ?_;have hw:=gK i;refine aF rfl ?_;rw [aw];refine ay s1.box ((lb.p,lb.l,lb.c),()) (ak ?_);refine aI ?_ ?_<;>intro q
 ·have m:i<L.length:=ad
  refine aF rfl ?_;rw [aw];refine ay s1.box ((lb.p,lb.l,lb.c),()) (ak ?_);obtain ⟨Q,x,hc⟩:=SL.cells s1.rF (i:=i) (by rw [ab9]; exact m);rw [aj9] at hc;refine bM x ?_;rw [cg i];refine ar ((L[i].u:Int),()) ⟨hc.1,trivial⟩ (ak ?_);have b:¬ (L[i].u=o/\L[i].n=a)->T.again 0 [.string D,vI (IntKind.wrap .i64 ((i:Int)+1))] [Jl (λ(y:qu (flat [(false,[TypeDesc.string]),(false,[TypeDesc.int .i64])])) k h'=>∃ i:Nat,y.2.1=(i:Int)/\k=L.length-i/\i<=L.length/\h'=h2/\∀ j,j<i->(d:j<L.length)->¬ (L[j].u=o/\L[j].n=a)) (L.length-i)] (λw h'=>w=.string (zn L o a)/\Ext O h') h2:=by
   intro E;refine aC (cs:=IA) (D,((i+1:Nat):Int),()) (L.length-(i+1)) rfl ad (as9 (λz=>[Value.string D,Value.int .i64 z]) hw) ⟨i+1,rfl,rfl,ad,rfl,λj d J=>?_⟩
   by_cases e:j=i
   ·subst e; exact E
   ·exact f j ad J
  refine ao ?_ ?_<;>intro r
  ·have r:L[i].u=o:=by
    have:((L[i].u:Nat):Int)=(o:Int):=by simpa using r
    omega
   refine aF rfl ?_;rw [aw];refine ay s1.box ((lb.p,lb.l,lb.c),()) (ak ?_);refine bM x ?_;refine ar (L[i].n,()) ⟨by rw [add_add]; exact hc.2.2.2.1,trivial⟩ ?_;refine ak ?_;rw [sr];refine aI ?_ ?_<;>intro t
   ·refine aG (uu (n:=i) ad) ?_;rintro _ K ⟨rfl,F⟩;refine ⟨(eO i,()),rfl,ak ?_⟩
    have:=DW i
    refine cX ad ?_;refine ⟨?_,B.trans F⟩;unfold zn;rw [WL m (λj d=>f j d ad) r t]
   ·exact b λG=>t G.2
  ·refine b λG=>?_
   rw [G.1] at r;simp at r
 ·have:i=L.length:=ad
  subst this;refine aG (uu (n:=o) ad) ?_;rintro _ K ⟨rfl,F⟩;refine ⟨(eO o,()),rfl,ak ?_⟩;have hd:=DW o;have h1:(⟨#[69]⟩++eO o:Xaa).size=1+(eO o).size:=en9 ..;have h2:((⟨#[69]⟩++eO o)++⟨#[95]⟩:Xaa).size=(⟨#[69]⟩++eO o:Xaa).size+1:=en9 ..;refine cX ad (cX (by rw [h1]; omega) (cX (by rw [h2,h1]; omega) ?_));refine ⟨?_,B.trans F⟩;unfold zn;rw [Od λj d=>f j d d]
def we (f:Xaa->Xaa) (s:Xaa):Option bK:=some (nk (f s))
def jo (us:List cm) (L:List Lb) (n:Nat) (x:bK):bK:=dB (we (dS us L n)) x
def U9 (s:Xaa):Nf (nk s).af:=⟨by simp [nk],by simp [nk]⟩
def LO {f:Xaa->Xaa}:∀ s y,we f s=some y->Nf y.af:=by
 intro s y a;cases a;exact U9 _
def Xn (f:Xaa->Xaa) {t:Xaa × Nat} (h:t.2≠0/\t.2<4294967296):Kw (we f) t=⟨[(f t.1,t.2)],0⟩:=by
 unfold Kw we wA nk fA;simp only [List.filterMap_cons,List.filterMap_nil,Nat.one_mul,Nat.zero_mul,Nat.zero_mod];rw [eb9 h.2,ac9 h.1]
def GW {g:Nat} {su lb st sd:bC} {L:List Lb} (s:Fy O g su lb st sd L) {us:List cm} (v:xZ O su.p su.l us) (sz:NY us) {n:Nat} (hn:n<us.length) (hL:L.length<=2^40) {m d:Nat} (u:iA O U m V.af)
  (W:Nf V.af) (J:V.num<4294967296) (hlx:V.af.length<=2^30) (ho:∀ t,t∈V.af->∃ o,j9 us n t.1=some o) (hs:∀ t,t∈V.af->t.1.size<=2^60) :
  HC Xaz 46 #[.pointer (some ⟨g,0,none⟩),vI (n:Int),iD U m d V] O λw h'=>Ext O h'/\∃ p' l' c',w=iD p' l' c' (jo us L n V)/\SL h' O.size 64 2 p' l' c' ((jo us L n V).af.map cT):=by
 refine aX (args:=[.pointer (some ⟨g,0,none⟩),vI (n:Int),.agg #[.slice U m d,.int .u32 V.num]]) mixed Tryz.func46 av (jm (some ⟨g,0,none⟩) n U m d V.num) ?_;unfold fB aR aY bz aK fo cv bg aE bm aS;have hmm:=u.len;refine bn ?_;intro h1 b1 e1 z1;refine bn ?_;intro h2 b2 e2 z2;have b1:=b1.aj e2 ai;rw [aw];refine ay b1 ((V.num:Int),()) (ak ?_);refine bn ?_;intro h3 b3 e3 z3;refine bJ b3 ?_;intro h4 P k4 z4;have P:br h4 h2.size 53 [.slice none 0 0,.int .u32 (V.num:Int)]:=P;have B:Ext h2 h4:=bS e3 k4;have b1:=b1.aj B ai;have b2:=b2.aj B ai;have e04:=(e1.trans e2).trans B;have hb4:=P.lt;have hz04:=e04.size;refine aM (cs:=cz) (λy w h'=>∃ (i:Nat) (U:Xac) (m d:Nat),y.1=(i:Int)/\i<=V.af.length/\w=V.af.length-i/\Ch [h2.size] h4 h'/\br h' h2.size 53 [.slice U m d,.int .u32 (((V.af.take i).foldl (gI (we (dS us L n))) ⟨[],V.num⟩).num:Int)] /\
  SL h' h4.size 64 2 U m d (((V.af.take i).foldl (gI (we (dS us L n))) ⟨[],V.num⟩).af.map cT)) ((0:Int),()) V.af.length rfl ⟨0,none,0,0,rfl,ad,ad,Ch.refl _ _,P,SL.nil _ _ _ _⟩ ?_
 rintro ⟨n8,⟨⟩⟩ w h5 ⟨i,D,E,F,hi,hile,rfl,K,G,H⟩;simp only at hi;subst hi;refine ak ?_;have b15:=b1.aj K (by simp; omega);have hz5:=K.size;have f:Ext O h5:=bS e04 K;have u5:=u.aj f ai;refine ay b15 ((U,m,d),()) (ak ?_);have hw:=gK i;have hacc:=De (of:=we (dS us L n)) LO W J i;have X:((V.af.take i).foldl (gI (we (dS us L n))) ⟨[],V.num⟩).af.length<=V.af.length:=by
  rw [hacc]
  have:=Bm (eQ (we (dS us L n)) ⟨V.af.take i,V.num⟩) (S:=V.af.map λt=>dS us L n t.1) (λt ht=>by
   obtain ⟨u',Y,O | ⟨y,w,hy,hw,he⟩⟩:=Bl ht
   ·cases O.1
   ·cases hy;simp [nk] at hw;subst hw;rw [<- he];exact ap9.2 ⟨u',cy9 Y,rfl⟩)
  rwa [ab9] at this
 refine aI ?_ ?_<;>intro g1
 ·have b:i<V.af.length:=ad
  have c:(V.af.take (i+1)).foldl (gI (we (dS us L n))) ⟨[],V.num⟩=gI (we (dS us L n)) ((V.af.take i).foldl (gI (we (dS us L n))) ⟨[],V.num⟩) V.af[i]:=by
   rw [af9 b,ck9] <;> rfl
  obtain ⟨a,rfl,hc⟩:=u5.cells i b;have htm:=ah9 b;generalize V.af[i]=t at hc c htm;generalize hA:(V.af.take i).foldl (gI (we (dS us L n))) ⟨[],V.num⟩=A at G H X c hacc;obtain ⟨c1,c2⟩:=de hc;obtain ⟨o,Z⟩:=ho t htm;refine ay G ((D,E,F),(A.num:Int),()) (ak ?_);refine ay b15 ((some a,m,d),()) (ak ?_);refine bM rfl ?_;rw [cg i];refine ar (t.1,()) c1 (ak ?_);refine ay b15 ((some a,m,d),()) (ak ?_);refine bM rfl ?_;refine ar ((t.2:Int),()) c2 (ak ?_);refine aG (Lc (s.aj f) (v.aj f) sz hn hL Z (hs t htm)) ?_;rintro _ h6 ⟨rfl,e6⟩;refine ⟨(dS us L n t.1,()),rfl,ak ?_⟩;have C:∀ {h':Hp},Ext h5 h'->aH h' (a.add (i*2)) 0 [.string t.1]/\aH h' ((a.add (i*2)).add 1) 0 [.int .u32 (t.2:Int)]/\aH h' ⟨O.size,0,none⟩ 0 [.slice (some a) m d]/\aH h' ⟨h2.size,0,none⟩ 0 [.slice D E F,.int .u32 (A.num:Int)]:=λe =>
   ⟨aP e ai _ _ c1,aP e ai _ _ c2,(b15.aj e ai).cells _ rfl,(G.aj e ai).cells _ rfl⟩
  obtain ⟨Q,M,r,R⟩:=C e6;refine ⟨⟨M,r,r,R,trivial⟩,?_⟩;refine oB JO uY ad ad (JE _ _) ?_;intro h7 I e7 z7;obtain ⟨Q,M,r,R⟩:=C (e6.trans e7);refine ⟨⟨M,r,Q,r,R,trivial⟩,?_⟩;have e57:=e6.trans e7;have z57:=e57.size;refine aG (G' (x:=A) (y:=⟨[(dS us L n t.1,t.2)],0⟩) (d:=1) (H.bf e57 ai).Mp (Y' I) (λj k=>by have:=(H.cj k).2; omega) (λj k=>by simp [ax] at k; have:=I.lt; omega) (by show A.af.length+1<=_; omega)) ?_;rintro _ h8 ⟨e8,p',l',c',rfl,s8⟩;refine ⟨((p',l',c'),((kB A ⟨[(dS us L n t.1,t.2)],0⟩).num:Int),()),rfl,ak ?_⟩;have e58:=e57.trans e8;obtain ⟨Q,M,r,R⟩:=C e58;refine ⟨⟨M,r,Q,r,trivial⟩,?_⟩;refine bJ (G.aj e58 ai) ?_;intro h9 b9 k9 z9;have b9:br h9 h2.size 53 [.slice p' l' c',.int .u32 ((kB A ⟨[(dS us L n t.1,t.2)],0⟩).num:Int)]:=b9;have N:gI (we (dS us L n)) A t=kB A ⟨[(dS us L n t.1,t.2)],0⟩:=by
   unfold gI;rw [Xn _ (W.2 t htm)]
  rw [N] at c;refine aC (cs:=cz) (((i+1:Nat):Int),()) (V.af.length-(i+1)) rfl ad (as9 (λz=>[Value.int .i64 z]) hw) ⟨i+1,p',l',c',rfl,ad,rfl,Ch.trans (Ch.trans K e58 ai) k9 (λj k _=>k),by rw [c]; exact b9,?_⟩;rw [c];exact (s8.bf k9 (λj k=>by have:=(s8.cj k).1; simp; omega)).mono ad
 ·have hi:i=V.af.length:=ad
  subst hi;rw [bj9,F1 LO W J] at G H;refine ay G ((D,E,F),((jo us L n V).num:Int),()) (ak ?_);refine bJ (b2.aj K (by simp; omega)) ?_;intro h7 I k7 z7;have I:br h7 h1.size 53 [.slice D E F,.int .u32 ((jo us L n V).num:Int)]:=I;refine ay I ((D,E,F),((jo us L n V).num:Int),()) ?_;exact ⟨bS f k7,D,E,F,rfl,(H.bf k7 (λj k=>by have:=(H.cj k).1; simp; omega)).mono ad⟩
structure RZ (us:List cm) (n:Nat) (x:bK):Prop where
 nf:Nf x.af
 num:x.num<4294967296
 len:x.af.length<=2^30
 own:∀ t,t∈x.af->∃ o,j9 us n t.1=some o
 sz:∀ t,t∈x.af->t.1.size<=2^60
def Me (us:List cm) (L:List Lb) (n:Nat) (x:bK):Nf (jo us L n x).af:=eQ _ _
def GO {us:List cm} {L:List Lb} {n:Nat} (h:V.num<4294967296):(jo us L n V).num<4294967296:=uy _ _ _ h
def Hv {us:List cm} {L:List Lb} {n:Nat} {t:Xaa × Nat} (ht:t∈(jo us L n V).af):∃ u,u∈V.af/\t.1=dS us L n u.1:=by
 obtain ⟨c,a,h | ⟨y,w,d,b,e⟩⟩:=Bl ht
 ·cases h.1
 ·cases d;simp [nk] at b;subst b;exact ⟨c,a,e.symm⟩
def yp (us:List cm) (L:List Lb) (es:List cV) (n:Nat) (x:cB):cB:={ x with e:=dB (cF es) (jo us L n x.e) }
structure aax (h0 h':Hp) (p:Xac) (l c:Nat) (ws:List (bC × cB)):Prop where
 out:SL h' h0.size 55 10 p l c (ws.map uN)
 fF:∀ w,w∈ws->iA h' w.1.p w.1.l w.2.e.af
 low:∀ w,w∈ws->w.2.e.af≠[]->∀ i,i∈ax w.1.p->i<h'.size/\i∉ax p
def Mz {a:Xax} {v:Xab} (hc:iB O a=some v):a.block<O.size:=by
 unfold iB at hc;cases b:O[a.block]? with
 | none=>simp [b] at hc
 | some o=>exact eY b
def Tk {l:Nat} {us:dr} (v:iA O U l us) (h0:us≠[]):∀ i,i∈ax U->i<O.size:=by
 intro i hi;cases us with
 | nil=>exact absurd rfl h0
 | cons u us =>
  obtain ⟨a,rfl,hc⟩:=v.cells 0 ai
  have:i=a.block:=by simpa [ax] using hi
  subst this
  have:=Mz hc.1
  rwa [fw,fw] at this
def ML {ws:List Nat} {h':Hp} {l:Nat} {us:dr} (v:iA O U l us) (k:Ch ws O h') (a:us≠[]->∀ i,i∈ax U->i∉ws):iA h' U l us:=by
 by_cases h0:us=[]
 ·subst h0;exact ⟨v.len,λi hi=>absurd hi ai⟩
 ·exact v.aj k (a h0)
def Eh {g:Nat} {su lb st sd:bC} {L:List Lb} (s:Fy O g su lb st sd L) {us:List cm} (v:xZ O su.p su.l us) (sz:NY us) {n:Nat} (hn:n<us.length) (hL:L.length<=2^40) {l c:Nat} {xs:List cB} (vi:Ge O U l xs)
  (hxl:xs.length<=2^20) (hxs:∀ x,x∈xs->RZ us n x.e)
  {m d:Nat} (ve:vQ O b m es) (hb:∀ e,e∈es->∀ i,i∈ax e.p->i<O.size) (hm:es.length<=2^40) {S:List Xaa} (hS:S.length<=2^30) (R:∀ e,e∈es->uO S e.x) (hSw:∀ x,x∈xs->∀ t,t∈x.e.af->dS us L n t.1∈S) :
  HC Xaz 48 #[.pointer (some ⟨g,0,none⟩),vI (n:Int),.slice U l c,.slice b m d] O λw h'=>Ext O h'/\∃ p' l' c' ws,w=.slice p' l' c'/\Xw h' O.size p' l' c' ws/\ws.map (·.2)=xs.map (yp us L es n):=by
 refine aX (args:=[.pointer (some ⟨g,0,none⟩),vI (n:Int),.slice U l c,.slice b m d]) mixed Tryz.func48 av (iT (some ⟨g,0,none⟩) n U l c b m d) ?_;unfold fp aR aY bz aK cv bg aE aS;obtain ⟨N,V,vd,hit⟩:=E6 vi;have hl0:N.length=xs.length:=by rw [<- V,ab9]
 have hll:=vd.len;refine rk (e:=55) (z:=.agg iz.toArray) (sz:=10) (by':=104) CN GN rfl vd.src (by simpa using hll) (pQ N) (qB N) ad ad ?_;intro p1 c1 h1 s1 e1;have B:∀ w,w∈N->w.2.e.af≠[]->∀ i,i∈ax w.1.p->i<O.size:=λw E h0=>Tk (hit w E).lin.vw h0
 refine aM (cs:=cz) (λy k h'=>∃ (i:Nat) (ws:List (bC × cB)),y.1=(i:Int)/\k=xs.length-i/\i<=xs.length/\Ext O h'/\aax O h' p1 l c1 ws/\ws.length=xs.length/\(∀ j w,j<i->ws[j]?=some w->SL h' O.size 64 2 w.1.p w.1.l w.1.c (w.2.e.af.map cT))/\∀ j x w,xs[j]?=some x->ws[j]?=some w->w.2=if j<i then yp us L es n x else x) ((0:Int),()) xs.length rfl
  ⟨0,N,rfl,rfl,ad,e1,⟨s1,λw E=>(hit w E).lin.vw.aj e1 ai,λw E h0 i hi=>⟨by have:=B w E h0 i hi; have:=e1.size; omega,λW=>by have:=(s1.cj W).1; have:=B w E h0 i hi; omega⟩⟩,hl0,λj w u=>absurd u ad,λj x w hx E=>by
   rw [ac9 ad]
   have:(N.map (·.2))[j]?=some w.2:=by rw [cl9,E]; rfl
   rw [V,hx] at this;exact (bb9 this).symm⟩ ?_
 rintro ⟨n10,⟨⟩⟩ k h2 ⟨i,ws,hi,rfl,hle,Q,F,X,G,u⟩;simp only at hi;subst hi;refine ak ?_;have hwi:=gK i;refine aI ?_ ?_<;>intro r
 ·have Y:i<xs.length:=ad
  have A:i<ws.length:=ad
  obtain ⟨a,rfl,hc⟩:=SL.cells F.out (i:=i) (by rw [ab9]; exact A);rw [aj9] at hc;have H:xs[i]?=some xs[i]:=ad9 Y;have C:ws[i]?=some ws[i]:=ad9 A;have hwx:=u i _ _ H C;rw [ac9 ad] at hwx;have hxm:=ah9 Y;have hwm:=ah9 A;have vw:=F.fF _ hwm;have lw:=F.low _ hwm;generalize ws[i]=w at hc C hwx hwm vw lw;generalize xs[i]=x at H hwx hxm;subst hwx;have hsw:=hxs w.2 hxm;refine bM rfl ?_;rw [cg i];refine ar ((w.1.p,w.1.l,w.1.c),(w.2.e.num:Int),()) ⟨by rw [add_add]; exact hc.2.2.2.2.2.2.2.1,by rw [add_add]; exact hc.2.2.2.2.2.2.2.2.1,trivial⟩ ?_;refine ak ?_;have z2:=Q.size;refine aG (GW (d:=w.1.c) (s.aj Q) (v.aj Q) sz hn hL vw hsw.nf hsw.num hsw.len hsw.own hsw.sz) ?_;rintro _ h3 ⟨e3,p3,l3,c3,rfl,s3⟩;refine ⟨((p3,l3,c3),((jo us L n w.2.e).num:Int),()),rfl,ak ?_⟩;have z3:=e3.size;refine aG (LA (c:=c3) (d:=d) s3.Mp (ve.aj (Q.trans e3)) (λj u=>(s3.cj u).2) (λe Z j u=>by have:=hb e Z j u; omega) hm (Me _ _ _ _) (GO hsw.num) (λe Z=>(R e Z).nf) hS (λt ht=>by
   obtain ⟨u',hu',he'⟩:=Hv ht;rw [he'];exact hSw w.2 hxm u' hu') λe Z=>(R e Z).fF) ?_
  rintro _ h4 ⟨e4,p4,l4,c4,rfl,s4⟩;refine ⟨((p4,l4,c4),((dB (cF es) (jo us L n w.2.e)).num:Int),()),rfl,ak ?_⟩;have z4:=e4.size;have e24:=e3.trans e4;refine bM rfl ?_;have so:=F.out.bf e24 ai;refine SL.part (P:=Xaz) so (i:=i) (by rw [ab9]; exact A) (vs:=[.slice p4 l4 c4,.int .u32 ((dB (cF es) (jo us L n w.2.e)).num:Int)]) (o:=7) ai (by simp [df]) rfl ?_;intro h6 s6 k6 z6;have hse:(ws.map uN).set i (iw ((ws.map uN)[i]'(by rw [ab9]; exact A)) 7 [.slice p4 l4 c4,.int .u32 ((dB (cF es) (jo us L n w.2.e)).num:Int)])=(ws.set i (⟨p4,l4,c4⟩,yp us L es n w.2)).map uN:=by
   rw [fh9]
   congr 1
   rw [aj9]
   have:ws[i]=w:=(bc9.1 C).2
   rw [this] <;> rfl
  rw [hse] at s6;have I:∀ j,j∈ax (some a)->O.size<=j/\j<h2.size:=λj u=>F.out.cj u
  have e6:Ext O h6:=Ch.trans (Q.trans e24) k6 (λj u hl=>by have:=I j u; omega);refine aC (cs:=cz) (((i+1:Nat):Int),()) (xs.length-(i+1)) rfl ad (as9 (λz=>[Value.int .i64 z]) hwi) ⟨i+1,_,rfl,rfl,ad,e6,⟨s6,λw' f=>?_,λw' f h0' j J=>?_⟩,by rw [cv9]; exact X,λj w' J f=>?_,λj x' w' K f=>?_⟩
  ·rcases dk9 f with f | rfl
   ·exact ML ((F.fF w' f).aj e24 ai) k6 (λh0 j u=>(F.low w' f h0 j u).2)
   ·exact (s4.bf k6 (λj u W=>by have:=(s4.cj u).1; have:=I j W; omega)).Mp
  ·rcases dk9 f with f | rfl
   ·obtain ⟨h1,h2⟩:=F.low w' f h0' j J;exact ⟨ad,h2⟩
   ·obtain ⟨h1,h2⟩:=s4.cj J;exact ⟨ad,λW=>by have:=I j W; omega⟩
  ·have hbx:∀ b,b∈ax (some a)->∃ ys,br h4 b 55 ys:=SL.ye so
   by_cases D:i=j
   ·subst D;rw [eu9 A] at f;cases f;exact (SL.lB s4 k6 hbx bH).mono ad
   ·rw [dt9 D] at f;exact SL.lB ((G j w' ad f).bf e24 ai) k6 hbx bH
  ·by_cases D:i=j
   ·subst D;rw [eu9 A] at f;cases f;rw [H] at K;cases K;rw [ag9 ad]
   ·rw [dt9 D] at f;have h2:=u j x' w' K f;rw [h2]
    by_cases hj2:j<i
    ·rw [ag9 hj2,ag9 ad]
    ·rw [ac9 hj2,ac9 ad]
 ·have:i=xs.length:=ad
  subst this;refine ⟨Q,p1,l,c1,ws,rfl,⟨F.out,λw E=>?_,λ_ _=>trivial⟩,?_⟩
  ·obtain ⟨j,hj1,rfl⟩:=bh9 E;exact G j _ ad (ad9 hj1)
  apply fy9
  ·rw [ab9,ab9,X]
  ·intro j h1' M;rw [aj9,aj9];rw [ab9] at h1' M
   have:=u j _ _ (ad9 M) (ad9 h1')
   rw [this,ag9 M]
def ZT:Tryz.prog.underlying 43=some (.slice 46):=av
def aaO:(Tryz.prog.info? 46).map (λi=>(i.zero,i.size,i.bytes))=some (some (.slice none 0 0),1,24):=av
def Vf (p:Xac) (l c:Nat):Instr.fill (λj=>some (j*1,1)) ((Array.range (1*1)).map ((Value.slice none 0 0).cells[· % (Value.slice none 0 0).cells.size]!)) [(0,.slice p l c)]=some ([.slice p l c]:List Xab).toArray:=av
structure wY (h:Hp) (b:Nat) (st:bC) (tw:List (bC × List (bC × cB))):Prop where
 sl:SL h b 46 1 st.p st.l st.c (tw.map λx=>[x.1.v])
 fF:∀ x,x∈tw->Xw h b x.1.p x.1.l x.1.c x.2
def P6 {W:List Nat} {h':Hp} {b l c:Nat} {ws:List (bC × cB)} (s:Xw O b U l c ws) (k:Ch W O h') (a:∀ i,i∈W->∃ ys,br O i d ys) (h1:55≠d) (h2:64≠d):Xw h' b U l c ws :=
 ⟨SL.lB s.sl k a h1,λu e=>SL.lB (s.own u e) k a h2,s.ok⟩
def Gj {b b' l c:Nat} {ws:List (bC × cB)} (s:Xw O b U l c ws) (a:b'<=b):Xw O b' U l c ws:=⟨s.sl.mono a,λu d=>(s.own u d).mono a,s.ok⟩
def wY.aj {W:List Nat} {h':Hp} {b:Nat} {st:bC} {tw:List (bC × List (bC × cB))} (s:wY O b st tw) (k:Ch W O h') {e':TypeId} (a:∀ i,i∈W->∃ ys,br O i e' ys) (c:∀ i,i∈ax st.p->i∉W) (h1:55≠e') (h2:64≠e'):wY h' b st tw :=
 ⟨s.sl.bf k c,λx d=>P6 (s.fF x d) k a h1 h2⟩
def wY.ext {h':Hp} {b:Nat} {st:bC} {tw:List (bC × List (bC × cB))} (s:wY O b st tw) (k:Ext O h'):wY h' b st tw:=s.aj (e':=0) k ai ai bH bH
def wY.nil (h:Hp) (b:Nat):wY h b mG []:=⟨SL.nil _ _ _ _,ai⟩
def wY.push {h:Hp} {b:Nat} {st:bC} {tw:List (bC × List (bC × cB))} (s:wY h b st tw) {x:bC × List (bC × cB)} (i:Xw h b x.1.p x.1.l x.1.c x.2) (j:b<=h.size) (hl:tw.length<=2^20) {l:List (Xax × List Xab)} (f:∀ h',Ext h h'->T.Cv h' l) {k:Xac->Nat->Nat->T}
  (hk:∀ p' c' h',wY h' b ⟨p',st.l+1,c'⟩ (tw++[x])->Ch (ax st.p) h h'->(p'=st.p\/∃ d,p'=some d/\h.size<=d.block)->k p' (st.l+1) c' a Z h') :
  T.dP Xaz (Instr.buildSlice 43 1 #[(0,.slice x.1.p x.1.l x.1.c)]) false [(false,[.slice 0])] (λq m n=>T.bG l (T.dP Xaz (Builtin.append_ #[43,43] 43 #[.slice st.p st.l st.c,.slice q m n]) false [(false,[.slice 0])] k)) a Z h:=by
 have o:st.l=tw.length:=by have:=s.sl.1; rwa [ab9] at this
 refine gz (vs:=[x.1.v]) ZT aaO rfl ad ad (Vf _ _ _) rfl rfl s.sl j ad ad f ?_;intro p' c' h' r k' g;refine hk p' c' h' ⟨by rw [ao9]; exact r,λy e=>?_⟩ k' g;have hbx:=SL.ye s.sl;rcases ar9.1 e with e | e
 ·exact P6 (s.fF y e) k' hbx bH bH
 ·rw [an9.1 e];exact P6 i k' hbx bH bH
def Aa (us:List cm) (L:List Lb) (es:List cV) (F:cm->List cB) (i:Nat) (tw:List (bC × List (bC × cB))):Prop :=
 tw.length=i/\∀ n u x,us[n]?=some u->tw[n]?=some x->x.2.map (·.2)=(F u).map (yp us L es n)
def Aa.push {us:List cm} {L:List Lb} {F:cm->List cB} {i:Nat} {tw:List (bC × List (bC × cB))} (t:Aa us L es F i tw) (d:us[i]?=some c) {x:bC × List (bC × cB)} (e:x.2.map (·.2)=(F c).map (yp us L es i)):Aa us L es F (i+1) (tw++[x]):=by
 obtain ⟨h1,h2⟩:=t;refine ⟨by rw [ae9,h1]; rfl,λn v y hv a=>?_⟩
 by_cases hn:n<tw.length
 ·rw [bw9 hn] at a;exact h2 n v y hv a
 ·rw [bp9 ad] at a;have b:n=tw.length:=by
   have:=(bc9.1 a).1
   simp at this;omega
  subst b;rw [fg9] at a;cases a;rw [h1] at hv ⊢;rw [d] at hv;cases hv;exact e
structure Ye (us:List cm) (L:List Lb) (S:List Xaa) (n:Nat) (u:cm):Prop where
 text:∀ x,x∈u.text->RZ us n x.e/\∀ t,t∈x.e.af->dS us L n t.1∈S
 data:∀ x,x∈u.data->RZ us n x.e/\∀ t,t∈x.e.af->dS us L n t.1∈S
def DJ {h:Hp} {b:List Xab} {cs:List ez} {I:qu (flat cs)->Nat->Hp->Prop} {n:Nat} (y:qu (flat cs)) (m:Nat) (c:m<n) (d:b=parts cs (et _ y)) (e:I y m h):T.again a.length b (a++[Jl I n]) Z h :=
 aC y m (by rw [bp9 (am9 _),fg9]; rfl) c d e
def UJ {h0 h:Hp} {g lv:Nat} {su lb:bC} {LB:List Lb} {us:List cm} {J M:Nat} {S:List Xaa} (hlv:lv=a.length) (hga:ga<g) (h0g:h0.size<=ga) (e0:Ext h0 h) (b1:br h ga 91 [vI e,vI f,.string Y])
  (pr:Fy h g su lb mG mG LB) (v:xZ h0 su.p su.l us) (sz:NY us) (hL:LB.length<=2^40) (ve:vQ h U J es) (hq:∀ i,i∈ax U->g<i) (hb:∀ m,m∈es->∀ i,i∈ax m.p->g<i/\i<h.size) (hm:es.length<=2^40) (hS:S.length<=2^30) (hes:∀ m,m∈es->uO S m.x)
  (hW:∀ n u,us[n]?=some u->Ye us LB S n u)
  (hk:∀ h' st sd tw dw,Ext h0 h'->Fy h' g su lb st sd LB->wY h' h.size st tw->wY h' h.size sd dw->Aa us LB es (·.text) us.length tw->Aa us LB es (·.data) us.length dw->Z (.tuple #[.pointer (some ⟨g,0,none⟩),SS ⟨0,0,dZ⟩]) h') :
  Sn lv su.p su.l ⟨ga,0,none⟩ ⟨g,0,none⟩ U J M a Z h:=by
 subst hlv;unfold Sn aR aY bz aK cv bg bR bZ aS;have hll:=v.len;have hmany:=sz.many;have hgs:=pr.box.lt;refine aM (cs:=cz) (λy k h'=>∃ (i:Nat) (st sd:bC) (tw dw:List (bC × List (bC × cB))),y.1=(i:Int)/\k=us.length-i/\i<=us.length/\Ext h0 h'/\Ch [g] h h'/\br h' g 45 [su.v,lb.v,st.v,sd.v]/\wY h' h.size st tw/\wY h' h.size sd dw/\(∀ j,j∈ax st.p->j∉ax sd.p) /\
  Aa us LB es (·.text) i tw/\Aa us LB es (·.data) i dw) ((0:Int),()) us.length rfl
  ⟨0,mG,mG,[],[],rfl,rfl,ad,e0,Ch.refl _ _,pr.box,wY.nil _ _,wY.nil _ _,by simp [mG,ax],⟨rfl,λn u x _ w=>by simp at w⟩,⟨rfl,λn u x _ w=>by simp at w⟩⟩ ?_
 rintro ⟨n21,⟨⟩⟩ k h1 ⟨i,st,sd,tw,dw,hi,rfl,hle,e1,k1,b7,t1,d1,hdj,it,id⟩;simp only at hi;subst hi;refine ak ?_;have hw:=gK i;have z1:=k1.size;refine aI ?_ ?_<;>intro q
 ·have A:i<us.length:=ad
  have E:us[i]?=some us[i]:=ad9 A;obtain ⟨au,sa,sb,sc,sd',hau,N,va⟩:=v.cells i A;have hum:=ah9 A;generalize us[i]=u at E N va hum;have uw:=hW i u E;have prk:∀ {h':Hp} {st' sd2:bC},Ch [g] h h'->br h' g 45 [su.v,lb.v,st'.v,sd2.v]->Fy h' g su lb st' sd2 LB:=λk bx=>⟨bx,pr.rF.bf k (λj o r=>by have:=(pr.rF.cj o).1; simp at r; omega)⟩
  have vek:∀ {h':Hp},Ch [g] h h'->vQ h' U J es:=λk=>ve.om k (λj o r=>by have:=hq j o; simp at r; omega) (λm he _ j o r=>by have:=(hb m he j o).1; simp at r; omega)
  have O:∀ {h':Hp},Ext h0 h'->aH h' (au.add (i*4)) 0 [.slice sa.p sa.l sa.c]:=λm=>⟨(aP m ai _ _ N).1,trivial⟩
  have P:∀ {h':Hp},Ext h0 h'->aH h' ((au.add (i*4)).add 1) 0 [.slice sb.p sb.l sb.c]:=λm=>⟨by rw [add_add]; exact (aP m ai _ _ N).2.1,trivial⟩
  rw [aw];refine ay b7 ((st.p,st.l,st.c),()) (ak ?_);refine bM hau ?_;rw [cg i];refine ar ((sa.p,sa.l,sa.c),()) (O e1) (ak ?_);refine aG (Eh (c:=sa.c) (d:=M) (prk k1 b7) (v.aj e1) sz A hL (va.aj e1).text (sz.text u hum) (λx w=>(uw.text x w).1) (vek k1) (λm he j o=>by have:=(hb m he j o).2; omega) hm hS hes (λx w=>(uw.text x w).2)) ?_;rintro _ h2 ⟨Q,p2,l2,c2,w2,rfl,o2,hm2⟩;refine ⟨((p2,l2,c2),()),rfl,ak ?_⟩;have z2:=Q.size;have e02:=e1.trans Q;have b72:=b7.aj Q ai;refine ⟨⟨b72.cells _ rfl,trivial⟩,?_⟩;refine wY.push (x:=(⟨p2,l2,c2⟩,w2)) (t1.ext Q) (Gj o2 z1) ad (by rw [it.1]; omega) (by exact λh' m=>⟨O (e02.trans m),(b72.aj m ai).cells _ rfl,trivial⟩) ?_;intro p3 c3 h3 t3 k3 hp3;have B:∀ j,j∈ax st.p->h.size<=j/\j<h1.size:=λj o=>t1.sl.cj o
  have e03:Ext h0 h3:=Ch.trans e02 k3 (λj o hl=>by have:=B j o; have:=e0.size; omega);have kg3:Ch [g] h h3:=Ch.trans (Ch.trans k1 Q ai) k3 (λj o hl=>by have:=B j o; omega);have b73:=b72.aj k3 (λo=>by have:=B _ o; omega);have d3:wY h3 h.size sd dw:=(d1.ext Q).aj (e':=46) k3 (SL.ye (t1.ext Q).sl) (λj o r=>hdj j r o) bH bH;have z3:=k3.size;refine ⟨⟨O e03,trivial⟩,?_⟩;rw [aw];refine bJ b73 ?_;intro h4 C k4 z4;have C:br h4 g 45 [su.v,lb.v,(⟨p3,st.l+1,c3⟩:bC).v,sd.v]:=C;have hg0:∀ j,j∈[g]->h0.size<=j:=λj o=>by simp at o; omega
  have F:Ext h0 h4:=Ch.trans e03 k4 (λj o hl=>by have:=hg0 j o; omega);have V:Ch [g] h h4:=Ch.trans kg3 k4 (λj o _=>o);have G:∀ {r:Hp} {xs:List Xab},br r g 45 xs->∀ j,j∈[g]->∃ ys,br r j 45 ys:=λbx j o=>by
   rw [an9] at o;subst o;exact ⟨_,bx⟩
  have H:∀ {r:Hp} {s:bC} {t:List (bC × List (bC × cB))},wY r h.size s t->∀ j,j∈ax s.p->j∉[g]:=λt j o r=>by have:=(t.sl.cj o).1; simp at r; omega
  have t4:=t3.aj (e':=45) k4 (G b73) (H t3) bH bH;have d4:=d3.aj (e':=45) k4 (G b73) (H d3) bH bH;have I:∀ j,j∈ax p3->j∉ax sd.p:=λj o r=>by
   rcases hp3 with h | ⟨a',h,h'⟩
   ·rw [h] at o; exact hdj j o r
   ·rw [h] at o;simp [ax] at o
    have:=(d1.sl.cj r).2
    omega
  refine ay C ((sd.p,sd.l,sd.c),()) (ak ?_);refine bM hau ?_;refine ar ((sb.p,sb.l,sb.c),()) (P F) (ak ?_);refine aG (Eh (c:=sb.c) (d:=M) (prk V C) (v.aj F) sz A hL (va.aj F).data (sz.data u hum) (λx w=>(uw.data x w).1) (vek V) (λm he j o=>by have:=(hb m he j o).2; omega) hm hS hes (λx w=>(uw.data x w).2)) ?_;rintro _ h5 ⟨W,p5,l5,c5,w5,rfl,o5,hm5⟩;refine ⟨((p5,l5,c5),()),rfl,ak ?_⟩;have z5:=W.size;have e05:=F.trans W;have b75:=C.aj W ai;refine ⟨⟨b75.cells _ rfl,trivial⟩,?_⟩;refine wY.push (x:=(⟨p5,l5,c5⟩,w5)) (d4.ext W) (Gj o5 ad) ad (by rw [id.1]; omega) (by exact λh' m=>⟨P (e05.trans m),(b75.aj m ai).cells _ rfl,trivial⟩) ?_;intro p6 c6 h6 d6 k6 hp6;have D:∀ j,j∈ax sd.p->h.size<=j/\j<h1.size:=λj o=>d1.sl.cj o
  have e06:Ext h0 h6:=Ch.trans e05 k6 (λj o hl=>by have:=D j o; have:=e0.size; omega);have kg6:Ch [g] h h6:=Ch.trans (Ch.trans V W ai) k6 (λj o hl=>by have:=D j o; omega);have b76:=b75.aj k6 (λo=>by have:=D _ o; omega);have t6:wY h6 h.size ⟨p3,st.l+1,c3⟩ (tw++[(⟨p2,l2,c2⟩,w2)]):=(t4.ext W).aj (e':=46) k6 (SL.ye (d4.ext W).sl) I bH bH;refine ⟨⟨P e06,trivial⟩,?_⟩;refine bJ b76 ?_;intro h7 X k7 z7;have X:br h7 g 45 [su.v,lb.v,(⟨p3,st.l+1,c3⟩:bC).v,(⟨p6,sd.l+1,c6⟩:bC).v]:=X;have e07:Ext h0 h7:=Ch.trans e06 k7 (λj o hl=>by have:=hg0 j o; omega);refine DJ (cs:=cz) (((i+1:Nat):Int),()) (us.length-(i+1)) ad (as9 (λY=>[Value.int .i64 Y]) hw) ⟨i+1,⟨p3,st.l+1,c3⟩,⟨p6,sd.l+1,c6⟩,_,_,rfl,rfl,ad,e07,Ch.trans kg6 k7 (λj o _=>o),X,
   t6.aj (e':=45) k7 (G b76) (H t6) bH bH,d6.aj (e':=45) k7 (G b76) (H d6) bH bH,λj o r=>?_,it.push E hm2,id.push E hm5⟩
  rcases hp6 with h | ⟨a',h,h'⟩
  ·rw [h] at r; exact I j o r
  ·rw [h] at r;simp [ax] at r
   have:=(t4.sl.cj o).2
   omega
 ·have:i=us.length:=ad
  subst this;have b1':=b1.aj k1 (by simp; omega);refine bJ b1' ?_;intro h2 b2 k2 z2;have b2:br h2 ga 91 [vI 0,vI 0,.string dZ]:=b2;refine ay b2 ((0:Int),(0:Int),dZ,()) ?_;have hba:∀ j,j∈[ga]->∃ ys,br h1 j 91 ys:=λj o=>by
   rw [an9] at o;subst o;exact ⟨_,b1'⟩
  have hna:∀ {s:bC} {t:List (bC × List (bC × cB))},wY h1 h.size s t->∀ j,j∈ax s.p->j∉[ga]:=λt j o r=>by have:=(t.sl.cj o).1; simp at r; omega
  refine hk h2 st sd tw dw (bS e1 k2) ⟨b7.aj k2 (by simp; omega),?_⟩ (t1.aj (e':=91) k2 hba (hna t1) bH bH) (d1.aj (e':=91) k2 hba (hna d1) bH bH) it id;refine pr.rF.bf (Ch.trans (ws:=[g,ga]) (Ch.mono k1 ai) k2 ai) (λj o r=>by have:=(pr.rF.cj o).1; simp at r; omega)
def rS (us:List cm):List Nat:=us.flatMap λu=>List.range u.bi.length
theorem tQ:∀ (us:List cm) (n:Nat),(eK n us).length=(rS us).length
 | [],n=>rfl
 | u::us,n=>by
  unfold rS;rw [eK,cf9,ae9,ae9,ab9,dx9,tQ us (n+1)] <;> rfl
def TA {h0 h:Hp} {lv d l:Nat} {us:List cm} {D I i0:Nat} {q:Nat × tI} (J:lv=a.length) (h0g:h0.size<=ga) (e0:Ext h0 h) (b1:br h ga 91 [vI e,vI f,.string Y]) (v:xZ h U l us) (M:us.length<=2^20)
  (E:SL h d 3 1 b D I ((rS us).map N7)) (hle:(eK 0 us).length<=2^40) (V:(eK 0 us)[i0]?=some q) (hk:∀ h',Ext h0 h'->Z (.tuple #[.pointer none,SS ⟨24,q.1,q.2.1⟩]) h'):QY lv U l ⟨ga,0,none⟩ b D i0 a Z h:=by
 subst J;unfold QY aR aY aK bY bR aS;have hll:=v.len;have hi0:i0<(eK 0 us).length:=(bc9.1 V).1;have hkl:=tQ us 0;refine aM (cs:=fV) (λf k h'=>∃ (u r:Nat),f.1=(u:Int)/\f.2.1=(r:Int)/\k=us.length-u/\h'=h/\u<=us.length/\(eK u (us.drop u))[r]?=some q/\(rS (us.drop u))[r]?=(rS us)[i0]?/\r<=i0) ((0:Int),(i0:Int),()) us.length rfl
  ⟨0,i0,rfl,rfl,rfl,rfl,ad,V,rfl,am9 _⟩ ?_
 rintro ⟨n21,n22,⟨⟩⟩ k h' ⟨u,r,W,X,rfl,rfl,hul,m,n,hri⟩;simp only at W X;subst W X;refine ak ?_;have A:u<us.length:=by
  by_cases h:u<us.length
  ·exact h
  ·rw [ce9 ad] at m;simp [eK] at m
 rw [ax9 A] at m n;have n:(List.range us[u].bi.length++rS (us.drop (u+1)))[r]?=(rS us)[i0]?:=n;have m:(us[u].bi.map (λj=>(u,j))++eK (u+1) (us.drop (u+1)))[r]?=some q:=m;obtain ⟨au,sa,sb,sc,sd,rfl,F,N⟩:=v.cells u A;generalize us[u]=w at n m F N;have hlq:=N.bi.len;have t:aH h' ((au.add (u*4)).add 2) 0 [.slice sc.p sc.l sc.c]:=⟨by rw [add_add]; exact F.2.2.1,trivial⟩
 refine bM rfl ?_;rw [cg u];refine ar ((sc.p,sc.l,sc.c),()) t (ak ?_);refine aI ?_ ?_<;>intro g
 ·have G:w.bi.length<=r:=ad
  refine bM rfl ?_;refine ar ((sc.p,sc.l,sc.c),()) t (ak ?_);have hw1:=gK u;have O:IntKind.wrap .i64 ((r:Int)-(sc.l:Int))=((r-w.bi.length:Nat):Int):=by rw [wrap_i64 ad ad]; omega
  rw [bp9 (by rw [ab9]; exact G),ab9] at m;rw [bp9 (by rw [dx9]; exact G),dx9] at n;exact DJ (cs:=fV) (((u+1:Nat):Int),((r-w.bi.length:Nat):Int),()) (us.length-(u+1)) ad (by rw [hw1,O]; rfl) ⟨u+1,r-w.bi.length,rfl,rfl,rfl,rfl,ad,m,n,ad⟩
 ·have s:r<w.bi.length:=ad
  rw [bw9 (by rw [ab9]; exact s),cl9,ad9 s] at m;rw [bw9 (by rw [dx9]; exact s),dp9 s] at n;have P:(u,w.bi[r])=q:=bb9 m;subst P;refine bM rfl ?_;refine ar ((sc.p,sc.l,sc.c),()) t (ak ?_);have B:i0<(rS us).length:=ad
  obtain ⟨a12,H,o⟩:=SL.cells E (i:=i0) (by rw [ab9]; exact B);rw [aj9] at o;have Q:(rS us)[i0]=r:=by
   rw [ad9 B] at n;exact (bb9 n).symm
  rw [Q] at o;have hl13:D=(rS us).length:=by have:=E.1; rwa [ab9] at this
  refine bM H ?_;rw [cg i0];refine ar ((r:Int),()) o (ak ?_);obtain ⟨aq,pq,mq,cq,R,C,_,_⟩:=N.bi.cells r s;refine bM R ?_;rw [cg r];refine ar (w.bi[r].1,()) ⟨C.1,trivial⟩ (ak ?_);refine ⟨⟨⟨C.1,trivial⟩,o,t,trivial⟩,?_⟩;refine bJ b1 ?_;intro h2 S k2 z2;have S:br h2 ga 91 [vI 24,vI (u:Int),.string w.bi[r].1]:=S;refine ay S ((24:Int),(u:Int),w.bi[r].1,()) ?_;exact hk h2 (bS e0 k2)
structure Zf (h:Hp) (b:Nat) (p:Xac) (l c:Nat) (q:Xac) (m d:Nat) (ms:List cV) (ks:List Nat):Prop where
 out:SL h b 116 3 p l c (ms.map Bg)
 num:SL h b 3 1 q m d (ks.map N7)
 fF:∀ e,e∈ms->SL h b 64 2 e.p e.l e.c (e.x.af.map cT)
def Zf.ext {h':Hp} {a l c m d:Nat} {ms:List cV} {ks:List Nat} (s:Zf O a U l c b m d ms ks) (e:Ext O h'):Zf h' a U l c b m d ms ks :=
 ⟨s.out.bf e ai,s.num.bf e ai,λx f=>(s.fF x f).bf e ai⟩
def dR (us:List cm) (L:List Lb) (l:List cm):List (Xaa × bK):=(eK 0 l).map λq=>(dS us L q.1 q.2.1,jo us L q.1 q.2.2)
def My (l:List cm) (u:cm):rS (l++[u])=rS l++List.range u.bi.length:=by
 unfold rS;rw [ej9]
 simp
def TZ (us:List cm) (L:List Lb) (l:List cm) (u:cm):dR us L (l++[u])=dR us L l++u.bi.map λe=>(dS us L l.length e.1,jo us L l.length e.2):=by
 unfold dR;rw [te,ao9,bg9];simp only [Nat.zero_add] <;> rfl
def EqW (us:List cm) (n:Nat) (u:cm):Prop:=∀ e,e∈u.bi->RZ us n e.2/\(∃ o,j9 us n e.1=some o)/\e.1.size<=2^60
def pC (n:Nat):mj n=eO n:=oZ n
def HD (n:Nat):∀ c,c∈Lib.decDigits n->c≠95:=by
 intro c hc e;rw [Lib.decDigits_eq] at hc;obtain ⟨t,_,rfl⟩:=ap9.1 hc;unfold Lib.dg at e;have h1:=as9 UInt8.toNat e;have h2:(UInt8.ofNat (48+n / 10^(Lib.nDigits n-1-t) % 10)).toNat=48+n / 10^(Lib.nDigits n-1-t) % 10:=by
  rw [UInt8.toNat_ofNat'];omega
 rw [h2] at h1;have a:(95:UInt8).toNat=95:=rfl;omega
theorem VH:∀ {a b s t:List UInt8},(∀ c,c∈a->c≠95)->(∀ c,c∈b->c≠95)->a++95::s=b++95::t->a=b/\s=t
 | [],[],s,t,_,_,h=>by simpa using h
 | [],c::b,s,t,_,e,h=>by
  simp only [List.nil_append,List.cons_append,List.cons.injEq] at h;exact absurd h.1.symm (e c ai)
 | c::a,[],s,t,f,_,h=>by
  simp only [List.nil_append,List.cons_append,List.cons.injEq] at h;exact absurd h.1 (f c ai)
 | c::a,d::b,s,t,f,e,h=>by
  simp only [List.cons_append,List.cons.injEq] at h;obtain ⟨h1,h2⟩:=VH (λx g=>f x (aq9 _ g)) (λx g=>e x (aq9 _ g)) h.2;exact ⟨by rw [h.1,h1],h2⟩
def Fq (L:List Lb) (o:Nat) (s:Xaa):XQ L o s=oG (L.map AE) (o,s):=by
 unfold XQ oG;rw [fn9]
 congr 1
 funext x
 show _=decide (AE x=(o,s));unfold AE;rw [ek9]
 simp
def SY (L:List Lb) (k:Ky):Xaa:=zn L k.1 k.2
def Uf {L:List Lb} {k k':Ky} (h:SY L k=SY L k'):k=k':=by
 have d:∀ a b:Xaa,(⟨#[76]⟩:Xaa)++a≠(⟨#[69]⟩:Xaa)++b:=by
  intro a b e;have h1:=as9 (λb:Xaa=>b.data.toList) e;simp only [ep] at h1;simp at h1
 have has:∀ a b c:Xaa,((⟨#[69]⟩++a)++⟨#[95]⟩)++b=(⟨#[69]⟩:Xaa)++(a++(⟨#[95]⟩++b)):=by
  intro a b c;simp only [ByteArray.append_assoc]
 obtain ⟨o,s⟩:=k;obtain ⟨o',s'⟩:=k';unfold SY zn at h;rw [Fq,Fq] at h;cases h1:oG (L.map AE) (o,s) with
 | some i =>
  cases h2:oG (L.map AE) (o',s') with
  | some j =>
   rw [h1,h2] at h;have h:(⟨#[76]⟩:Xaa)++eO i=⟨#[76]⟩++eO j:=h;rw [<- pC,<- pC] at h
   have:=uq (xP h)
   subst this;obtain ⟨a,g⟩:=kb h1;obtain ⟨b,l⟩:=kb h2;rw [<- g,<- l]
  | none =>
   rw [h1,h2] at h;have h:(⟨#[76]⟩:Xaa)++eO i=((⟨#[69]⟩++eO o')++⟨#[95]⟩)++s':=h;rw [has _ _ ⟨#[]⟩] at h;exact absurd h (d _ _)
 | none =>
  cases h2:oG (L.map AE) (o',s') with
  | some j =>
   rw [h1,h2] at h;have h:((⟨#[69]⟩++eO o)++⟨#[95]⟩)++s=(⟨#[76]⟩:Xaa)++eO j:=h;rw [has _ _ ⟨#[]⟩] at h;exact absurd h.symm (d _ _)
  | none =>
   rw [h1,h2] at h;have h:((⟨#[69]⟩++eO o)++⟨#[95]⟩)++s=((⟨#[69]⟩++eO o')++⟨#[95]⟩)++s':=h;rw [has _ _ ⟨#[]⟩,has _ _ ⟨#[]⟩] at h;have h:=xP h;have h3:=as9 (λb:Xaa=>b.data.toList) h;simp only [ep] at h3;have m:Lib.decDigits o++95::s.data.toList=Lib.decDigits o'++95::s'.data.toList:=by
    have e:∀ n:Nat,(eO n).data.toList=Lib.decDigits n:=λn=>by unfold eO; simp
    rw [e,e] at h3;simpa using h3
   obtain ⟨p,f⟩:=VH (HD o) (HD o') m;have q:o=o':=by
    apply uq;rw [pC,pC];unfold eO;rw [p]
   subst q
   congr 1
   cases s; cases s';simp only at f
   congr 1
   exact Array.ext' f
structure pH (us:List cm) (w:LW):Prop where
 right:∀ u,u∈us->fC u=0
 wi:WI w (cr 0 us) ((eK 0 us).map jN)
 gl:∀ s,w.gl s=Tl us s
def Wx (us:List cm) (k:Ky):Prop:=k∈(cr 0 us).map AE\/k∈(eK 0 us).map jN
def PY {us:List cm} {n:Nat} (b:us[n]?=some c) (a:Y∈gf c):Wx us (n,Y):=by
 unfold gf at a;rw [ar9,ar9] at a;rcases a with a | a
 ·exact .inl ((yZ Y n us 0).2 ⟨c,dw9 _,by rw [gb9]; exact b,a⟩)
 ·exact .inr ((Bj Y n us 0).2 ⟨c,dw9 _,by rw [gb9]; exact b,a⟩)
def Ou {u:cm} (h:fC u=0):∀ x,x∈u.aT->x∈gf u:=by
 have h1:=(Bp h).2;rw [yW] at h1;unfold yT at h1;simp only [Bool.and_eq_true,decide_eq_true_eq] at h1;exact λx a=>((zq _ _ _ h1.2.2.2.2).1 x a).1
def xo {l:List Xaa} :hQ l Y=true↔Y∈l:=by
 unfold hQ;rw [ed9];constructor
 ·rintro ⟨x,a,b⟩;rw [<- ai9 b]; exact a
 ·intro h;exact ⟨Y,h,ak9 rfl⟩
def FR {us:List cm} (d:∀ u,u∈us->fC u=0) {n o:Nat} (h:j9 us n Y=some o):Wx us (o,Y):=by
 unfold j9 at h;split at h
 ·rename_i a;cases h;cases b:us[n]? with
  | none=>rw [b] at a; cases a
  | some u =>
   rw [b] at a;exact PY b (xo.1 (bb9 a))
 ·rw [bf9] at h;obtain ⟨c,h1,_⟩:=h;exact PY (ad9 c) (Ou (d _ (ah9 c)) Y (xo.1 h1))
def Ez {us:List cm} {n:Nat} (a:us[n]?=some c) (b:Y∈gf c):j9 us n Y=some n:=by
 unfold j9;rw [a,ez9,ag9 (by rw [xo.2 b])]
def PT {us:List cm} (i0:WI H (cr 0 us) ((eK 0 us).map jN)) {k:Ky} (hk:Wx us k) (hn:k∉(eK 0 us).map jN):H.word k=SY (cr 0 us) k:=by
 have hk:k∈(cr 0 us).map AE:=hk.elim id λh=>absurd h hn
 obtain ⟨i,hi⟩:=CQ hk;unfold LW.word SY zn;rw [Fq,i0.num];show (match oG ((cr 0 us).map AE) k with | some n=>(⟨#[76]⟩:Xaa)++mj n | none=>_)=match oG ((cr 0 us).map AE) (k.1,k.2) with | some i=>(⟨#[76]⟩:Xaa)++eO i | none=>_
 rw [hi];show (⟨#[76]⟩:Xaa)++mj i=⟨#[76]⟩++eO i;rw [pC]
def ZQ (f:Xaa->Nat) (s:Xaa):kg f (nk s)=f s % 4294967296:=by
 unfold kg nk;show (0+(1*f s+0)) % 4294967296=_
 congr 1
 omega
def pH.own {us:List cm} {w:LW} (A:pH us w) {n:Nat} (hn:n<us.length) (s:Xaa):w.own n s=(j9 us n s).map λo=>(o,s):=O7 A.wi A.gl hn s
def pH.rel {us:List cm} (A:pH us H) {n:Nat} (hn:n<us.length) (c:H.bad n V=none):Ao (Wx us) H.word (SY (cr 0 us)) (H.lin n V) (jo us (cr 0 us) n V):=by
 intro f g a;unfold LW.lin jo;rw [gu,gu];refine qv λt ht=>?_
 obtain ⟨k,hk⟩:=BP c t ht;rw [A.own hn] at hk;obtain ⟨o,b,rfl⟩:=ev9.1 hk;have hky:=FR A.right b;unfold Ke we dS;simp only [A.own hn,b,Option.map_some,Option.getD_some];rw [ZQ,ZQ,a _ hky] <;> rfl
def Az {us:List cm} {q:Nat × tI} (a:q∈eK 0 us):∃ u,us[q.1]?=some u/\q.2∈u.bi:=by
 obtain ⟨i,hi,h1,h2⟩:=xr us 0 q a;rw [by9] at h1;exact ⟨us[i],by rw [h1]; exact ad9 hi,h2⟩
def pH.two {us:List cm} (A:pH us H) (d:fX H 0 us=none):xf (eK 0 us) jN (Wx us) H.word (SY (cr 0 us)) (λq=>H.lin q.1 q.2.2) λq=>jo us (cr 0 us) q.1 q.2.2 where
 nd:=yu us 0 λu b=>by
  have:=yr (A.right u b)
  unfold gf at this;rw [ct9] at this;exact this.2.1
 SW:=λq a=>.inr (ay9 a)
 ia:=λk k' hk c h=>word_inj A.wi hk c h
 ib:=λk k' _ _ h=>Uf h
 Vz:=λk hk hn=>PT A.wi hk hn
 rel:=λq a=>by
  obtain ⟨u,b,_⟩:=Az a;exact A.rel (bc9.1 b).1 (AI d a)
 fa:=λq _=>eQ _ _
 fb:=λq _=>eQ _ _
def Jb (w:LW) (us:List cm):oO w us=wD (eK 0 us) jN w.word λq=>w.lin q.1 q.2.2:=rfl
def Of (us:List cm):dR us (cr 0 us) us=wD (eK 0 us) jN (SY (cr 0 us)) λq=>jo us (cr 0 us) q.1 q.2.2:=by
 unfold dR wD;refine cm9 λq a=>?_
 obtain ⟨u,b,c⟩:=Az a
 have:j9 us q.1 q.2.1=some q.1:=Ez b (by
  unfold gf;exact bi9 _ (ay9 c))
 unfold dS;rw [this] <;> rfl
def pH.YX {us:List cm} {w:LW} (A:pH us w) (a:fX w 0 us=none):mR (oO w us)=dU (fl (dR us (cr 0 us) us)):=by
 rw [Jb,Of];exact (A.two a).YX
def pH.put {us:List cm} (A:pH us H) (c:fX H 0 us=none) (hc:mR (oO H us)=none) {n:Nat} (hn:n<us.length) (a:H.bad n V=none) (b:V.num<4294967296) {ms:List cV} (d:ms.map fQ=(dR us (cr 0 us) us).map λy=>(y.1,fy (fl (dR us (cr 0 us) us)) y.1)) :
  oM (jF (oO H us)) (H.lin n V)=dB (cF ms) (jo us (cr 0 us) n V):=by
 have h1:cF ms=cF (fl (jF (dR us (cr 0 us) us))):=HT (by rw [qY,d]; rfl);rw [h1];show _=oM (jF (dR us (cr 0 us) us)) _;rw [Of];rw [Jb] at hc ⊢;exact (A.two c).same hc (A.rel hn a) (jB b) (jB b)
def G1 {fs:List cV} (h:es.map fQ=fs.map fQ):dU es=dU fs:=by
 unfold dU;have a:∀ (gs:List cV),(gs.findIdx? λe=>@decide (lK (dG gs) e.name) (Classical.propDecidable _))=(gs.map fQ).findIdx? λq=>@decide (lK (dG gs) q.1) (Classical.propDecidable _):=by
  intro gs;rw [fn9] <;> rfl
 rw [a,a,h,CM h]
def Uz {J0:List Xab->Hp->Prop} {h0 h:Hp} {g:Nat} {su lb:bC} {LB:List Lb} {us:List cm} {S:List Xaa} (hga:ga<g) (h0g:h0.size<=ga) (e0:Ext h0 h) (b1:br h ga 91 [vI e,vI f,.string Y])
  (pr:Fy h g su lb mG mG LB) (v:xZ h0 su.p su.l us) (sz:NY us) (hL:LB.length<=2^40) (hE:∀ n u,us[n]?=some u->EqW us n u) (hW:∀ n u,us[n]?=some u->Ye us LB S n u) (hnd:((dR us LB us).map (·.1)).Nodup) (hlen:(eK 0 us).length<=2^20) (hS:S.length<=2^30)
  (hSd:∀ y,y∈dR us LB us->∀ t,t∈y.2.af->t.1∈S)
  (hk1:∀ h' i q,dU (fl (dR us LB us))=some i->(eK 0 us)[i]?=some q->Ext h0 h'->Z (.tuple #[.pointer none,SS ⟨24,q.1,q.2.1⟩]) h')
  (hk0:∀ h' b' st sd tw dw ms,dU (fl (dR us LB us))=none->ms.map fQ=(dR us LB us).map (λy=>(y.1,fy (fl (dR us LB us)) y.1))->Ext h0 h'->Fy h' g su lb st sd LB->wY h' b' st tw->wY h' b' sd dw->Aa us LB ms (·.text) us.length tw->Aa us LB ms (·.data) us.length dw->Z (.tuple #[.pointer (some ⟨g,0,none⟩),SS ⟨0,0,dZ⟩]) h') :
  PD su.p su.l ⟨ga,0,none⟩ ⟨g,0,none⟩ [J0] Z h:=by
 unfold PD aR aY bz aK fo cv bg aE bm bZ aS fH;have hll:=v.len;have hmany:=sz.many;have hgs:=pr.box.lt;have hz0:=e0.size;refine aM (cs:=A9) (λy k h'=>∃ (i:Nat) (ms:List cV) (ks:List Nat),y.2.2.1=(i:Int)/\k=us.length-i/\i<=us.length/\Ext h h'/\Zf h' h.size y.1.1 y.1.2.1 y.1.2.2 y.2.1.1 y.2.1.2.1 y.2.1.2.2 ms ks/\ms.map fQ=dR us LB (us.take i)/\ks=rS (us.take i))
  ((none,0,0),(none,0,0),(0:Int),()) us.length rfl ⟨0,[],[],rfl,rfl,ad,Ch.refl _ _,⟨SL.nil _ _ _ _,SL.nil _ _ _ _,ai⟩,rfl,rfl⟩ ?_
 rintro ⟨⟨p9,l10,l11⟩,⟨p12,l13,l14⟩,n15,⟨⟩⟩ k h1 ⟨i,ms,ks,hi,rfl,hle,e1,N,A,rfl⟩;simp only at hi N;subst hi;refine ak ?_;refine aI ?_ ?_<;>intro q
 ·have F:i<us.length:=ad
  have hug:us[i]?=some us[i]:=ad9 F;have P:us.take (i+1)=us.take i++[us[i]]:=af9 F;have hti:(us.take i).length=i:=by rw [au9]; omega
  have hwt:=gK i;obtain ⟨au,sa,sb,sc,sd,hau,hcu,va⟩:=v.cells i F;have hum:=ah9 F;generalize us[i]=u at hug P hcu va hum;have ew:=hE i u hug;have hlq:=va.bi.len;have hue:=sz.bi u hum;refine aM (cs:=A9) (λy k h'=>∃ (j:Nat) (ms:List cV) (ks:List Nat),y.2.2.1=(j:Int)/\k=u.bi.length-j/\j<=u.bi.length/\Ext h h'/\Zf h' h.size y.1.1 y.1.2.1 y.1.2.2 y.2.1.1 y.2.1.2.1 y.2.1.2.2 ms ks /\
   ms.map fQ=dR us LB (us.take i)++(u.bi.take j).map (λs=>(dS us LB i s.1,jo us LB i s.2))/\ks=rS (us.take i)++List.range j) ((p9,l10,l11),(p12,l13,l14),(0:Int),()) u.bi.length rfl ⟨0,ms,_,rfl,rfl,ad,e1,N,by simpa using A,ai⟩ ?_
  rintro ⟨⟨p16,G,l18⟩,⟨Q,H,R⟩,n22,⟨⟩⟩ k h2 ⟨j,I,ks2,hj,rfl,hlj,C,U,D,rfl⟩;simp only at hj U;subst hj;refine ak ?_;have e02:=e0.trans C;have z2:=C.size;have hwj:=gK j;have hcq:aH h2 ((au.add (i*4)).add 2) 0 [.slice sc.p sc.l sc.c]:=⟨by rw [add_add]; exact (aP e02 ai _ _ hcu).2.2.1,trivial⟩
  have hkl:=tQ (us.take i) 0;have hsum1:(eK 0 (us.take i)).length<=(eK 0 us).length:=by
   have:=te
   rw [tQ,tQ];unfold rS
   conv=>rhs; rw [<- cc9 i us]
   rw [ej9,ae9];omega
  refine bM hau ?_;rw [cg i];refine ar ((sc.p,sc.l,sc.c),()) hcq (ak ?_);refine aI ?_ ?_<;>intro r
  ·have V:j<u.bi.length:=ad
   have htj:u.bi.take (j+1)=u.bi.take j++[u.bi[j]]:=af9 V;refine bM hau ?_;refine ar ((sc.p,sc.l,sc.c),()) hcq (ak ?_);obtain ⟨aq,pq,mq,cq,haq,hce,O,_⟩:=(va.bi.aj e02).cells j V;have hem:=ah9 V;generalize u.bi[j]=s at htj hce O hem;obtain ⟨M,⟨o,hoo⟩,hsn⟩:=ew s hem;refine bM haq ?_;rw [cg j];refine ar (s.1,(pq,mq,cq),(s.2.num:Int),()) hce (ak ?_);refine bn ?_;intro h3 b3 e3 z3;refine bJ b3 ?_;intro h4 b4 k4 z4;have b4:br h4 h2.size 116 [.string s.1,.slice pq mq cq,.int .u32 (s.2.num:Int)]:=b4;have W:Ext h2 h4:=bS e3 k4;refine ay b4 (s.1,()) (ak ?_);rw [aw];refine ay b4 ((pq,mq,cq),(s.2.num:Int),()) (ak ?_);have e04:=e02.trans W;have prk:∀ {h':Hp},Ext h h'->Fy h' g su lb mG mG LB:=λs=>pr.aj s
   refine aG (Lc (prk (C.trans W)) (v.aj e04) sz F hL hoo hsn) ?_;rintro _ h5 ⟨rfl,e5⟩;refine ⟨(dS us LB i s.1,()),rfl,ak ?_⟩;have b45:=b4.aj e5 ai;refine ⟨⟨b45.cells _ rfl,trivial⟩,?_⟩;have e25:=W.trans e5;refine aG (GW (d:=cq) (prk (C.trans e25)) (v.aj (e02.trans e25)) sz F hL (O.vw.aj e25 ai) M.nf M.num M.len M.own M.sz) ?_;rintro _ h6 ⟨e6,p6,l6,c6,rfl,s6⟩;refine ⟨((p6,l6,c6),((jo us LB i s.2).num:Int),()),rfl,ak ?_⟩;have b46:=b45.aj e6 ai;refine ⟨⟨b46.cells _ rfl,trivial⟩,?_⟩;have e26:=e25.trans e6;have o6:=U.ext e26;have z26:=e26.size;have z25:=e25.size;have hl17:G=I.length:=by have:=U.out.1; rwa [ab9] at this
   have hl20:H=(rS (us.take i)++List.range j).length:=by have:=U.num.1; rwa [ab9] at this
   rw [ae9,dx9] at hl20;have hm2:I.length=(eK 0 (us.take i)).length+j:=by
    have:=as9 List.length D
    rw [ab9,ae9,ab9,au9,cp9 hlj] at this;unfold dR at this
    rwa [ab9] at this
   refine gz (vs:=Bg ⟨dS us LB i s.1,p6,l6,c6,jo us LB i s.2⟩) DV NC rfl ad ad (JA _ _ _ _ _) rfl rfl o6.out ad ad ad (λh' x=>⟨(b46.aj x ai).cells _ rfl,(b46.aj x ai).cells _ rfl,trivial⟩) ?_;intro p7 c7 h7 s7 k7 hp7;have hbx7:=SL.ye o6.out;have hnb:h2.size∉ax p16:=λhh=>by have:=(U.out.cj hh).2; omega
   have b47:=b46.aj k7 hnb;refine ⟨⟨b47.cells _ rfl,b47.cells _ rfl,trivial⟩,?_⟩;have n7:SL h7 h.size 3 1 Q H R ((rS (us.take i)++List.range j).map N7):=SL.lB o6.num k7 hbx7 bH;have i7:∀ x,x∈I++[⟨dS us LB i s.1,p6,l6,c6,jo us LB i s.2⟩]->SL h7 h.size 64 2 x.p x.l x.c (x.x.af.map cT):=λx L=>by
    rcases ar9.1 L with L | L
    ·exact SL.lB (o6.fF x L) k7 hbx7 bH
    ·rw [an9.1 L];exact SL.lB (s6.mono ad) k7 hbx7 bH
   have z7:=k7.size;refine eZ (vs:=N7 j) vJ UW rfl ad ad (F5 _) rfl rfl n7 ad ad ad ?_;intro p8 c8 h8 s8 k8 hp8;have hbx8:=SL.ye n7;have e7:Ext h h7:=Ch.trans (C.trans e26) k7 (λq hq hl=>by have:=(U.out.cj hq).1; omega);have e8:Ext h h8:=Ch.trans e7 k8 (λq hq hl=>by have:=(n7.cj hq).1; omega);refine aC (cs:=A9) ((p7,G+1,c7),(p8,H+1,c8),((j+1:Nat):Int),()) (u.bi.length-(j+1)) rfl ad (as9 (λY=>[Value.slice p7 (G+1) c7,.slice p8 (H+1) c8,Value.int .i64 Y]) hwj)
    ⟨j+1,I++[⟨dS us LB i s.1,p6,l6,c6,jo us LB i s.2⟩],_,rfl,rfl,ad,e8,⟨?_,?_,λx L=>SL.lB (i7 x L) k8 hbx8 bH⟩,?_,rfl⟩
   ·have:SL h7 h.size 116 3 p7 (G+1) c7 ((I++[(⟨dS us LB i s.1,p6,l6,c6,jo us LB i s.2⟩:cV)]).map Bg):=by rw [ao9]; exact s7
    exact SL.lB this k8 hbx8 bH
   ·rw [List.range_succ,<- az9,ao9];exact s8
   ·rw [htj,ao9,ao9,D,az9] <;> rfl
  ·have:j=u.bi.length:=ad
   subst this;rw [bj9] at D;refine aC (cs:=A9) ((p16,G,l18),(Q,H,R),((i+1:Nat):Int),()) (us.length-(i+1)) rfl ad (as9 (λY=>[Value.slice p16 G l18,.slice Q H R,Value.int .i64 Y]) hwt)
    ⟨i+1,I,_,rfl,rfl,ad,C,U,?_,?_⟩
   ·rw [D,P,TZ,hti]
   ·rw [P,My]
 ·have:i=us.length:=ad
  subst this;rw [bj9] at A N;have z1:=e1.size;have e01:=e0.trans e1;have pr1:=pr.aj e1;have b11:=b1.aj e1 ai;have hkm:ms.map fQ=(fl (dR us LB us)).map fQ:=by rw [A,qY]
  have hml:ms.length=(eK 0 us).length:=by
   have:=as9 List.length A
   rw [ab9] at this;rw [this];unfold dR;rw [ab9]
  have hnm:(aU ms).Nodup:=by
   have:aU ms=(dR us LB us).map (·.1):=by
    rw [<- A,bg9] <;> rfl
   rw [this];exact hnd
  have hmem:∀ s,s∈ms->fQ s∈dR us LB us:=λs J=>by
   rw [<- A];exact ap9.2 ⟨s,J,rfl⟩
  have E:∀ s,s∈ms->uO S s.x:=λs J=>by
   have h1:=hmem s J;have h2:=hSd _ h1;unfold dR at h1;obtain ⟨q,hq,hqe⟩:=ap9.1 h1;have L:s.x=jo us LB q.1 q.2.2:=(as9 (·.2) hqe).symm;obtain ⟨n,hn,hn1,hn2⟩:=xr us 0 q hq;have hqn:q.1=n:=ad
   have hew:=hE n us[n] (ad9 hn) q.2 hn2;exact ⟨by rw [L]; exact Me _ _ _ _,by rw [L]; exact GO hew.1.num,h2⟩
  have ve:vQ h1 p9 l10 ms:=⟨by have:=N.out.1; rwa [ab9] at this,λi hi=>by
   obtain ⟨e,ha,hc⟩:=SL.cells N.out (i:=i) (by rw [ab9]; exact hi);rw [aj9] at hc;exact ⟨e,ha,hc⟩,λs J=>(N.fF s J).Mp⟩
  refine aG (Ng (c:=l11) (B:=h.size) z1 ve (λs J i hi=>(N.fF s J).cj hi) hnm ad hS E) ?_;rintro w h2 ⟨C,hw⟩;rw [G1 hkm] at hw;cases hf:dU (fl (dR us LB us)) with
  | some i0 =>
   rw [hf] at hw;subst hw;refine ⟨((none,0,0),(i0:Int),(24:Int),()),rfl,ak ?_⟩;refine bU rfl ?_;have hi0:i0<(eK 0 us).length:=by
    have h1:=hf;unfold dU at h1;rw [bf9] at h1;obtain ⟨h2,_⟩:=h1
    have:(fl (dR us LB us)).length=(eK 0 us).length:=by unfold fl dR; rw [ab9,ab9]
    omega
   exact TA (lv:=2) (i0:=i0) rfl h0g (e01.trans C) (b11.aj C ai) (v.aj (e01.trans C)) hmany (N.num.bf C ai) ad (ad9 hi0) λh' e'=>hk1 h' i0 _ hf (ad9 hi0) e'
  | none =>
   rw [hf] at hw;obtain ⟨p',l',c',ns,rfl,on⟩:=hw;refine ⟨((p',l',c'),(0:Int),(0:Int),()),rfl,ak ?_⟩;refine bX rfl ?_;have hin:∀ m,m∈ns->∃ s,s∈ms/\m.name=s.name/\m.x=VT (cF ms) ms.length s.x:=λm hm=>by
    obtain ⟨j,hj,rfl⟩:=bh9 hm;have hj':j<ms.length:=by rw [<- on.len]; exact hj
    obtain ⟨h1,h2⟩:=on.eq j ms[j] ns[j] (ad9 hj') (ad9 hj);exact ⟨ms[j],ah9 hj',h1,h2⟩
   have vn:vQ h2 p' l' ns:=⟨by have:=on.out.1; rwa [ab9] at this,λi hi=>by
    obtain ⟨e,ha,hc⟩:=SL.cells on.out (i:=i) (by rw [ab9]; exact hi);rw [aj9] at hc;exact ⟨e,ha,hc⟩,on.fF⟩
   have hkn:ns.map fQ=(dR us LB us).map (λy=>(y.1,fy (fl (dR us LB us)) y.1)):=by
    rw [<- A,bg9,A];apply fy9
    ·rw [ab9,ab9,on.len]
    ·intro j h1' X;rw [ab9] at h1' X;rw [aj9,aj9];obtain ⟨h1,h2⟩:=on.eq j ms[j] ns[j] (ad9 X) (ad9 h1');have h3:=Uk hnm (λs J=>(E s J).num) (ah9 X);unfold fQ;rw [h1,h2,h3];show _=(ms[j].name,fy (fl (dR us LB us)) ms[j].name);rw [LD hkm]
   have z2:=C.size;refine UJ (lv:=2) (S:=S) rfl hga h0g (e01.trans C) (b11.aj C ai) (pr1.aj C) (v.aj (Ch.refl _ _)) sz hL vn (λi hi=>by have:=(on.out.cj hi).1; omega) (λs J i hi=>by have:=(on.low s J i hi).1; omega) (by rw [on.len]; omega) hS (λs J=>by
    obtain ⟨d,hd,_,L⟩:=hin s J;rw [L];exact uO.it E (E d hd) _) hW ?_
   intro h' st sd tw dw e' pr' t' d' i1 i2;exact hk0 h' _ st sd tw dw ns hf hkn e' pr' t' d' i1 i2
theorem Bw (u:cm):∀ (l:List cm) (n:Nat),cr n (l++[u])=cr n l++H5 (n+l.length) u
 | [],n=>by simp [cr]
 | y::l,n=>by
  simp only [List.cons_append,cr,List.length_cons];rw [Bw u l (n+1),show n+1+l.length=n+(l.length+1) from ad,az9]
def Ci (us:List cm) (i:Nat):(cr 0 (us.take i)).length<=(cr 0 us).length:=by
 have c:∀ (a b:List cm) (n:Nat),(cr n a).length<=(cr n (a++b)).length:=by
  intro a
  induction a with
  | nil=>intro b n; simp [cr]
  | cons u a d =>
   intro b n;simp only [List.cons_append,cr,List.length_append]
   have:=d b (n+1)
   omega
 have:=c (us.take i) (us.drop i) 0
 rwa [cc9] at this
structure Qf (us:List cm) (S:List Xaa):Prop where
 sz:NY us
 eM:(cr 0 us).length<=2^39
 bi:∀ n u,us[n]?=some u->EqW us n u
 items:∀ n u,us[n]?=some u->Ye us (cr 0 us) S n u
 nd:((dR us (cr 0 us) us).map (·.1)).Nodup
 len:(eK 0 us).length<=2^20
 names:S.length<=2^30
 fF:∀ y,y∈dR us (cr 0 us) us->∀ t,t∈y.2.af->t.1∈S
def Ep (us:List cm) (su:bC) (w:Xab) (h':Hp):Prop :=
 if (gg us).r6≠0 then w=.tuple #[.pointer none,SS (gg us)]
 else (∃ i q,dU (fl (dR us (cr 0 us) us))=some i/\(eK 0 us)[i]?=some q/\w=.tuple #[.pointer none,SS ⟨24,q.1,q.2.1⟩]) \/
  ∃ g b' lb st sd tw dw ms,dU (fl (dR us (cr 0 us) us))=none/\w=.tuple #[.pointer (some ⟨g,0,none⟩),SS ⟨0,0,dZ⟩]/\ms.map fQ=(dR us (cr 0 us) us).map (λy=>(y.1,fy (fl (dR us (cr 0 us) us)) y.1)) /\
   Fy h' g su lb st sd (cr 0 us)/\wY h' b' st tw/\wY h' b' sd dw/\Aa us (cr 0 us) ms (·.text) us.length tw/\Aa us (cr 0 us) ms (·.data) us.length dw
def Dq {su:bC} {us:List cm} {S:List Xaa} (v:xZ O su.p su.l us) (M:(gg us).r6=0->Qf us S):HC Xaz 24 #[.slice su.p su.l su.c] O λw h'=>Ext O h'/\Ep us su w h':=by
 refine aX (args:=[.slice su.p su.l su.c]) mixed Tryz.func24 av (oY su.p su.l su.c) ?_;unfold lf aR aY bz aK cv bR bm bZ aS;have hll:=v.len;refine bn ?_;intro h1 N I z1;refine aG (Kl (c:=su.c) (v.aj I)) ?_;rintro _ h2 ⟨rfl,r⟩;refine ⟨(((gg us).r6:Int),((gg us).unit:Int),(gg us).name,()),rfl,ak ?_⟩;have b12:=N.aj r ai;have e02:=I.trans r;refine bn ?_;intro h3 P Q z3;refine bJ P ?_;intro h4 f R z4;have f:br h4 h2.size 91 [vI ((gg us).r6:Int),vI ((gg us).unit:Int),.string (gg us).name]:=f;have j:Ext h2 h4:=bS Q R;have e04:=e02.trans j;have b14:=b12.aj j ai;have z2:=r.size;refine ay f (((gg us).r6:Int),()) (ak ?_);refine ao ?_ ?_<;>intro g
 ·have g:(gg us).r6≠0:=by
   intro U;rw [U] at g;cases g
  refine ay f (((gg us).r6:Int),((gg us).unit:Int),(gg us).name,()) (ak ?_);refine ⟨⟨f.cells _ rfl,trivial⟩,?_⟩;refine bJ b14 ?_;intro s a V W;have a:br s O.size 91 [vI ((gg us).r6:Int),vI ((gg us).unit:Int),.string (gg us).name]:=a;refine ay a (((gg us).r6:Int),((gg us).unit:Int),(gg us).name,()) ?_;refine ⟨bS e04 V,?_⟩;unfold Ep;rw [ag9 g] <;> rfl
 ·have g:(gg us).r6=0:=by
   have:(((gg us).r6:Nat):Int)=0:=by simpa using g
   omega
  have C:=M g;refine bn ?_;intro s a X W;have a:br s h4.size 45 [su.v,mG.v,mG.v,mG.v]:=a;have v4:=v.aj e04;have hmany:=C.sz.many;refine aM (cs:=cz) (λy k h'=>∃ (i:Nat) (lb:bC),y.1=(i:Int)/\k=us.length-i/\i<=us.length/\Ext h4 h'/\Fy h' h4.size su lb mG mG (cr 0 (us.take i))) ((0:Int),()) us.length rfl
   ⟨0,mG,rfl,rfl,ad,X,⟨a,SL.nil _ _ _ _⟩⟩ ?_
  rintro ⟨n8,⟨⟩⟩ k h6 ⟨i,lb,hi,rfl,Y,o,pr⟩;simp only at hi;subst hi;refine ak ?_;have hw:=gK i;refine aI ?_ ?_<;>intro q
  ·have b:i<us.length:=ad
   have m:us.take (i+1)=us.take i++[us[i]]:=af9 b;have t:(us.take i).length=i:=by rw [au9]; omega
   obtain ⟨J,sa,sb,sc,sd,n,d,x⟩:=v4.cells i b;have hum:=ah9 b;generalize us[i]=u at m d x hum;have h1t:=C.sz.text u hum;have h1d:=C.sz.data u hum;have hlt:=Ci us i;have hlb:=C.eM;have hl1:=sZ i 0 u.text 0;have K:∀ {h':Hp},Ext h4 h'->aH h' (J.add (i*4)) 0 [.slice sa.p sa.l sa.c]/\aH h' ((J.add (i*4)).add 1) 0 [.slice sb.p sb.l sb.c]:=λe=>⟨⟨(aP e ai _ _ d).1,trivial⟩,⟨by rw [add_add]; exact (aP e ai _ _ d).2.1,trivial⟩⟩
   refine bM n ?_;rw [cg i];refine ar ((sa.p,sa.l,sa.c),()) (K o).1 (ak ?_);refine aG (Gl (c:=sa.c) (am9 _) o pr x.text ad i 0) ?_;rintro _ h7 ⟨rfl,L,z7,Z,A⟩;refine ⟨(),rfl,ak ?_⟩;refine bM n ?_;refine ar ((sb.p,sb.l,sb.c),()) (K L).2 (ak ?_);refine aG (Gl (c:=sb.c) (am9 _) L A x.data (by rw [ae9]; omega) i 1) ?_;rintro _ h8 ⟨rfl,e8,z8,B,D⟩;refine ⟨(),rfl,ak ?_⟩;refine aC (cs:=cz) (((i+1:Nat):Int),()) (us.length-(i+1)) rfl ad (as9 (λz=>[Value.int .i64 z]) hw) ⟨i+1,B,rfl,rfl,ad,e8,?_⟩;rw [m,Bw,t,by9];unfold H5;rw [<- az9];exact D
  ·have:i=us.length:=ad
   subst this;rw [bj9] at pr;have e06:=e04.trans o;refine Uz (h0:=O) (S:=S) (by have:=e04.size; omega) (am9 _) e06 (b14.aj o ai) pr v C.sz (by have:=C.eM; omega) C.bi C.items C.nd C.len C.names C.fF (λh' i q E hq F=>⟨F,?_⟩) (λh' b' st sd tw dw ms E G F H t' d' i1 i2=>⟨F,?_⟩)
   ·unfold Ep;rw [ac9 ad];exact .inl ⟨i,q,E,hq,rfl⟩
   ·unfold Ep;rw [ac9 ad];exact .inr ⟨_,b',lb,st,sd,tw,dw,ms,E,rfl,G,H,t',d',i1,i2⟩
def MC {us:List cm} (A:pH us H) {n:Nat} (hn:n<us.length) (x:bK):H.bad n x=nD us n x:=by
 unfold LW.bad nD
 have:(λt:Xaa × Nat=>(H.own n t.1).isNone)=λt=>(j9 us n t.1).isNone:=by
  funext t
  rw [A.own hn]
  all_goals (cases j9 us n t.1 <;> rfl)
 rw [this]
def yM (w:LW) (n:Nat) (u:cm):tg w n u=(cR u).findSome? (w.bad n):=by
 unfold tg LW.Ak cR;rw [fm9,fm9,List.findSome?_map,List.findSome?_map,List.findSome?_map,Option.or_assoc] <;> rfl
theorem Gk {us:List cm} {n:Nat}:∀ (l:List bK),(∀ x,x∈l->∀ t,t∈x.af->¬ t.1.data.toList=[])->((r7 us n l).data.toList=[]↔l.findSome? (nD us n)=none)/\∀ s,l.findSome? (nD us n)=some s->r7 us n l=s
 | [],_=>by
  refine ⟨⟨λ_=>rfl,λ_=>rfl⟩,λs c=>by cases c⟩
 | x::l,h=>by
  obtain ⟨d,f⟩:=Gk l λy g=>h y (aq9 _ g)
  have hx:=h x ai;have b:r7 us n (x::l)=if (ei us n x).data.toList=[] then r7 us n l else ei us n x:=by
   unfold r7;rw [bq9,fj9]
   by_cases e:(ei us n x).data.toList=[]
   ·rw [ag9 e];simp [e]
   ·rw [ac9 e];simp [e]
  rw [List.findSome?_cons];cases a:nD us n x with
  | none =>
   have:ei us n x=⟨#[]⟩:=by unfold ei; rw [a]; rfl
   rw [b,ag9 (by rw [this])];exact ⟨d,f⟩
  | some s =>
   have h1:ei us n x=s:=by unfold ei; rw [a]; rfl
   have h2:¬ s.data.toList=[]:=by
    unfold nD at a;obtain ⟨t,ht,rfl⟩:=ev9.1 a;exact hx t (List.mem_of_find?_eq_some ht)
   rw [b,ac9 (by rw [h1]; exact h2),h1];refine ⟨⟨λk=>absurd k h2,λk=>by cases k⟩,λr i=>by cases i; rfl⟩
def XL {us:List cm} (A:pH us H) (a:∀ u,u∈us->∀ x,x∈cR u->∀ t,t∈x.af->¬ t.1.data.toList=[]) {n:Nat} (hn:n<us.length):CJ us n=(tg H n us[n]).map λs=>(n,s):=by
 have c:H.bad n=nD us n:=funext λx=>MC A hn x
 obtain ⟨h1,h2⟩:=Gk (us:=us) (n:=n) (cR us[n]) (a _ (ah9 hn));unfold CJ;rw [ad9 hn,do9,yM,c];cases b:(cR us[n]).findSome? (nD us n) with
 | none=>rw [ag9 (h1.2 b)]; rfl
 | some s =>
  rw [b] at h1;have h2:=h2 s b;rw [ac9 (λk=>by cases h1.1 k),h2] <;> rfl
theorem KO {us:List cm} {w:LW} (A:pH us w) (b:∀ u,u∈us->∀ x,x∈cR u->∀ t,t∈x.af->¬ t.1.data.toList=[]):∀ (k n:Nat),us.length-n=k->n<=us.length->(∀ j,j<n->CJ us j=none)->Qu us=fX w n (us.drop n)
 | 0,n,hk,hn,c=>by
  have:n=us.length:=ad
  subst this;rw [dg9];exact kH _ _ c
 | k+1,n,hk,hn,c=>by
  have a:n<us.length:=ad
  rw [B2 w us n a];have hu:=XL A b a;cases d:tg w n us[n] with
  | some s =>
   rw [d] at hu;exact kR _ _ _ n a c hu
  | none =>
   rw [d] at hu;refine KO A b k (n+1) ad a λj f=>?_
   by_cases e:j=n
   ·subst e; exact hu
   ·exact c j ad
def Tp (g:Good V):∀ t,t∈V.af->¬ t.1.data.toList=[]:=by
 intro t ht e;have h:=g.K9 t ht;rw [e] at h;cases h
def T3 (g:Good V):∀ t,t∈V.af->t.1.size<=32:=by
 intro t ht;have h:=g.K9 t ht;unfold cD at h;simp only [Bool.and_eq_true] at h
 have:=ai9 h.1.1.1.2
 simpa using this
def F7 (us:List cm):Except Fl LP->Prop
 | .error f=>f.r6≠0/\(gg us=f\/((gg us).r6=0/\(us.length<=64/\∃ w,pH us w/\fX w 0 us=none)/\∃ i q,dU (fl (dR us (cr 0 us) us))=some i/\(eK 0 us)[i]?=some q/\f=⟨24,q.1,q.2.1⟩))
 | .ok P=>(gg us).r6=0/\us.length<=64/\P.us=us/\P.D=oO P.w us/\pH us P.w/\fX P.w 0 us=none/\mR (oO P.w us)=none/\dU (fl (dR us (cr 0 us) us))=none
def Vs {D:List (Xaa × bK)} {i:Nat} (h:mR D=some i):i<D.length:=by
 unfold mR at h;rw [bf9] at h;exact h.1
def BQ {us:List cm} (sm:∀ u,u∈us->∀ x,x∈cR u->x.num<4294967296/\∀ t,t∈x.af->t.2<4294967296):F7 us (nB us):=by
 unfold nB
 by_cases h0:us.length=0
 ·rw [ag9 h0];refine ⟨ai,.inl ?_⟩;unfold gg;rw [ag9 h0]
 rw [ac9 h0]
 by_cases b:64<us.length
 ·rw [ag9 b];refine ⟨ai,.inl ?_⟩;unfold gg;rw [ac9 h0,ag9 b]
 rw [ac9 b];have a:gg us=match us.findIdx? λu=>decide (fC u≠0) with
  | some n=>⟨31,n,dZ⟩
  | none=>match Gg us with
   | some q=>⟨22,q.1,q.2⟩
   | none=>match Qu us with
    | some q=>⟨23,q.1,q.2⟩
    | none=>⟨0,0,dZ⟩:=by
  unfold gg;rw [ac9 h0,ac9 b] <;> rfl
 cases e:us.findIdx? λu=>decide (fC u≠0) with
 | some n =>
  rw [e] at a;exact ⟨ai,.inl a⟩
 | none =>
  rw [e] at a;have f:∀ u,u∈us->fC u=0:=by
   intro u hu;rw [bz9] at e
   have:=aw9 (e u hu)
   omega
  have i0:=VM f;have g:∀ s,(oD 0 us VI).gl s=none:=by
   have p:∀ (n sec:Nat) (l:List cB) (i:Nat) (w:LW),(js n sec i l w).gl=w.gl:=by
    intro n sec l
    induction l with
    | nil=>intro i w; rfl
    | cons x l d =>
     intro i w;rw [js,d];unfold kf;split <;> rfl
   have y:∀ (n:Nat) (l:List tI) (w:LW),(l.foldl (wF n) w).gl=w.gl:=by
    intro n l
    induction l with
    | nil=>intro w; rfl
    | cons x l d=>intro w; rw [bt9,d]; rfl
   have z:∀ (l:List cm) (n:Nat) (w:LW),(oD n l w).gl=w.gl:=by
    intro l
    induction l with
    | nil=>intro n w; rfl
    | cons u l d =>
     intro n w;rw [oD,d];unfold HP;rw [y,p,p]
   intro s;rw [z] <;> rfl
  have hm:=GJ us us.length 0 (oD 0 us VI) ad (dw9 _) (λs=>by rw [g]; rfl) (λj h=>absurd h ad);rw [List.drop_zero] at hm;simp only;cases k:lV 0 us (oD 0 us VI) with
  | error q =>
   rw [k] at hm;have hm:Gg us=some q:=hm;rw [hm] at a;exact ⟨ai,.inl a⟩
  | ok w =>
   rw [k] at hm;obtain ⟨B,C⟩:Gg us=none/\∀ s,w.gl s=Tl us s:=hm
   rw [B] at a;have A:pH us w:=⟨f,i0.meet k,C⟩
   have m:∀ u,u∈us->∀ x,x∈cR u->∀ t,t∈x.af->¬ t.1.data.toList=[]:=λu hu x D=>Tp (Cl (f u hu) (sm u hu) x D)
   have hu:=KO A m us.length 0 ad (dw9 _) (λj h=>absurd h ad);rw [List.drop_zero] at hu;rw [hu] at a;cases c:fX w 0 us with
   | some q =>
    rw [c] at a;simp only [c];exact ⟨ai,.inl a⟩
   | none =>
    rw [c] at a;have r:(gg us).r6=0:=by rw [a]
    have hcy:=A.YX c;cases hc:mR (oO w us) with
    | some i =>
     have hi:=Vs hc;have hi:i<(eK 0 us).length:=by unfold oO at hi; rwa [ab9] at hi
     simp only [c,hc];refine ⟨ai,.inr ⟨r,⟨ad,w,A,c⟩,i,(eK 0 us)[i],by rw [<- hcy,hc],ad9 hi,?_⟩⟩;have o:((eK 0 us).map λq=>(q.1,q.2.1)).getD i (0,dZ)=((eK 0 us)[i].1,(eK 0 us)[i].2.1):=by
      rw [cg9,cl9,ad9 hi] <;> rfl
     rw [o]
    | none =>
     simp only [c,hc];exact ⟨r,ad,rfl,rfl,A,c,hc,by rw [<- hcy,hc]⟩
def FD (us:List cm):List Xaa:=((cr 0 us).map AE++(eK 0 us).map jN).map (SY (cr 0 us))
def HK {us:List cm} (sm:IJ us) (j:us.length<=64) (A:pH us H) (D:fX H 0 us=none):Qf us (FD us):=by
 have r:F0 us:=⟨A.right,j⟩
 have F:∀ u,u∈us->∀ x,x∈cR u->Good x:=λu b=>Cl (A.right u b) (sm.num u b)
 have l:∀ n u,us[n]?=some u->∀ x,x∈cR u->H.bad n x=none:=by
  intro n u b x c;have hn:=(bc9.1 b).1;have h1:=kz us 0 D n hn;have h:us[n]=u:=(bc9.1 b).2;rw [by9,h,yM,db9] at h1;exact h1 x c
 have i:∀ n u,us[n]?=some u->∀ x,x∈cR u->∀ t,t∈x.af->∃ o,j9 us n t.1=some o:=by
  intro n u b x c t ht;obtain ⟨k,hk⟩:=BP (l n u b x c) t ht;rw [A.own (bc9.1 b).1] at hk;obtain ⟨o,B,_⟩:=ev9.1 hk;exact ⟨o,B⟩
 have d:∀ n u,us[n]?=some u->∀ x,x∈cR u->RZ us n x:=by
  intro n u b x c;have hm:=cr9 b;have g:=F u hm x c;refine ⟨g.nf,g.num,?_,i n u b x c,λt ht=>?_⟩
  ·have:=sm.len hm c
   omega
  ·have:=T3 g t ht
   omega
 have C:∀ n u,us[n]?=some u->∀ x,x∈cR u->∀ t,t∈x.af->dS us (cr 0 us) n t.1∈FD us:=by
  intro n u b x c t ht;obtain ⟨o,B⟩:=i n u b x c t ht;unfold dS;rw [B,Option.getD_some];exact ay9 (f:=SY (cr 0 us)) (a:=(o,t.1)) (ar9.2 (FR A.right B))
 have m:∀ u:cm,∀ x,x∈u.text->x.e∈cR u:=λu x c=>be9 _ (be9 _ (ay9 c))
 have s:∀ u:cm,∀ x,x∈u.data->x.e∈cR u:=λu x c=>be9 _ (bi9 _ (ay9 c))
 have z:∀ u:cm,∀ e,e∈u.bi->e.2∈cR u:=λu e h=>bi9 _ (ay9 h)
 refine ⟨NY.of j A.right,?_,λn u b e h=>⟨d n u b _ (z u e h),?_,?_⟩,λn u b=>⟨λx c=>⟨d n u b _ (m u x c),C n u b _ (m u x c)⟩,λx c=>⟨d n u b _ (s u x c),C n u b _ (s u x c)⟩⟩,?_,?_,?_,?_⟩
 ·have:=r.eM; omega
 ·exact ⟨n,Ez b (bi9 _ (ay9 h))⟩
 ·have h1:=(Bp (A.right u (cr9 b))).2;unfold xS at h1;simp only [Bool.and_eq_true] at h1;have h2:=(vH h1.1.2 e h).1;unfold cD at h2;simp only [Bool.and_eq_true] at h2;have h3:=ai9 h2.1.1.1.2;have J:e.1.size<=32:=by simpa using h3
  omega
 ·rw [Of];exact (A.two D).symm.XC
 ·have:=r.eqs; omega
 ·unfold FD;rw [ab9,ae9,ab9,ab9];have h1:=r.eM;have h2:=r.eqs;omega
 ·intro y E t ht;unfold dR at E;obtain ⟨q,G,rfl⟩:=ap9.1 E;obtain ⟨u,b,h⟩:=Az G;obtain ⟨p,I,e⟩:=Hv ht;rw [e];exact C q.1 u b _ (z u q.2 h) p I
theorem iK {h:Hp} {a:Xax}:∀ (n:Nat) (b:List Xab) (i:Nat),aH h a i b->aH h a (i+n) (b.drop n)
 | 0,b,i,hc=>hc
 | n+1,[],i,hc=>trivial
 | n+1,v::b,i,hc=>by
  have:=iK n b (i+1) hc.2
  rw [show i+1+n=i+(n+1) from ad] at this;exact this
theorem jL {h:Hp} {a:Xax}:∀ (b:List Xab) (o i:Nat),aH h a (o+i) b->aH h (a.add o) i b
 | [],_,_,_=>trivial
 | v::b,o,i,h1=>⟨by have:=h1.1; rw [add_add]; exact this,jL b o (i+1) h1.2⟩
theorem fk {h:Hp} {a:Xax}:∀ (n:Nat) (b:List Xab) (i:Nat),aH h a i b->aH h a i (b.take n)
 | 0,b,i,hc=>trivial
 | n+1,[],i,hc=>trivial
 | n+1,v::b,i,hc=>⟨hc.1,fk n b (i+1) hc.2⟩
def _root_.Go.Sx.sM.tG {h':Hp} {a n l c m f sz:Nat} {ms:List cV} {xs:List (List Xab)} (o:sM O a U l c ms) (t:SL O n d sz b m f xs) (k:Ch (ax b) O h') (h1:d≠116) (h2:d≠64):sM h' a U l c ms :=
 ⟨o.out.bf k (λi hi g=>xc t o.out h1 i g hi),λm g=>(o.fF m g).bf k (λi hi j=>xc t (o.fF m g) h2 i j hi),o.ap,o.dj⟩
def sJ (of:Xaa->Option bK) (x:cB):cB:={ x with e:=dB of x.e }
structure N4 (h:Hp) (b:Nat) (p:Xac) (l c:Nat) (ms:List cV):Prop where
 own:sM h b p l c ms
 ok:EqsOk ms
 het:∀ e,e∈ms->e.x.af.length<=2^20
 YC:(ms.flatMap (·.x.af)).length<=2^39
 len:ms.length<=2^20
def N4.ext {h':Hp} {b l c:Nat} {ms:List cV} (s:N4 O b U l c ms) (k:Ext O h'):N4 h' b U l c ms:=⟨s.own.aj k ai,s.ok,s.het,s.YC,s.len⟩
def N4.tG {h h':Hp} {b a:Nat} {p q:Xac} {l c m d sz:Nat} {e:TypeId} {ms:List cV} {xs:List (List Xab)} (o:N4 h b p l c ms) (t:SL h a e sz q m d xs) (k:Ch (ax q) h h') (h1:e≠116) (h2:e≠64):N4 h' b p l c ms :=
 ⟨o.own.tG t k h1 h2,o.ok,o.het,o.YC,o.len⟩
def KP (ws:List (bC × cB)):Prop:=∀ u,u∈ws->u.2.e.af.length<=2^20/\u.2.e.num<4294967296/\∀ t,t∈u.2.e.af->t.1.size<=maxLen
def Vt {L:Lp} {K:Xab->Hp->Prop} {h:Hp} {b N Q:Nat} {S:Nat->lM} {w:Xac} {x n X:Nat} {k:T} {ms:List cV} (R:X=L.length) (s:mK h b N S) {j:Nat} (C:j<N) (t:N4 h Q w x n ms) (ok:KP (S j).ws) (Y:(S j).ws.length<=2^20)
  (hk:∀ h' f J,mK h' b N f->(∀ i,i≠j->f i=S i)->(f j).s=(S j).s->(f j).ws.map (·.2)=(S j).ws.map (λu=>sJ (cF ms) u.2)->Ch (ax (S j).s.p) h h'->N4 h' Q w x n ms->k (L++[J]) K h') :
  Ww (S j).s.p (S j).s.l w x n X k L K h:=by
 subst R;unfold Ww aR aY bz aK cv aE aS;have U:(S j).s.l=(S j).ws.length:=by have:=(s.sec j C).out.1; rwa [ab9] at this
 generalize D:(S j).ws=ws at *;generalize hl:(S j).s.l=l at *;subst U;refine aM (cs:=cz) (λy Z h'=>∃ (i:Nat) (f:Nat->lM),y.1=(i:Int)/\i<=ws.length/\Z=ws.length-i/\mK h' b N f/\(∀ i,i≠j->f i=S i)/\(f j).s=(S j).s/\(f j).ws.length=ws.length/\(∀ m,(B:m<ws.length)->(E:m<(f j).ws.length)->if m<i then (f j).ws[m].2=sJ (cF ms) ws[m].2 else (f j).ws[m]=ws[m])/\Ch (ax (S j).s.p) h h'/\N4 h' Q w x n ms) ((0:Int),()) ws.length rfl
  ⟨0,S,rfl,ad,ad,s,λ_ _=>rfl,rfl,by rw [D],λm B E=>by rw [ac9 ad]; simp only [D],Ch.refl _ _,t⟩ ?_
 clear s t;rintro ⟨n58,⟨⟩⟩ Z h1 ⟨i,f,hi,hil,rfl,s,so,A,sl,V,k1,t⟩;simp only at hi;subst hi;refine ak ?_;refine aI ?_ ?_<;>intro q
 ·have F:i<ws.length:=ad
  have g:i<(f j).ws.length:=ad
  have sj:=s.sec j C;have hwi:=V i F g;rw [ac9 ad] at hwi;have okw:=ok ws[i] (ah9 F);have hin:=sj.fF _ (ah9 g);obtain ⟨a,G,hc⟩:=sj.out.cells (i:=i) (by simpa using g);rw [aj9,hwi] at hc;rw [hwi] at hin;rw [A] at G;generalize hu:ws[i]=u at okw hin hc;refine bM G ?_;rw [cg i];refine ar ((u.1.p,u.1.l,u.1.c),(u.2.e.num:Int),()) (fk 2 [_,_,_] 0 (jL _ 7 0 (iK 7 _ 0 hc))) (ak ?_);refine aG (PC (c:=u.1.c) (d:=n) (ym hin) (EE t.own) t.ok t.het t.YC t.len okw.1 okw.2.2) ?_;rintro _ h2 ⟨⟨p',l',c',rfl,s2⟩,W⟩;rw [zC (eQ _ _) (jB okw.2.1)] at s2 ⊢;refine ⟨((p',l',c'),((dB (cF ms) u.2.e).num:Int),()),rfl,ak ?_⟩;refine bM G ?_;have s':=s.ext W;have sj':=s'.sec j C;have so2:=sj'.out;refine SL.part (P:=Xaz) so2 (i:=i) (by rw [ab9]; exact g) (o:=7) ai (by simp [df]) (by rw [A]; exact G) ?_;intro h3 s3 O z3;have H:((f j).ws.map uN).set i (iw (((f j).ws.map uN)[i]'(by rw [ab9]; exact g)) 7 [.slice p' l' c',.int .u32 ((dB (cF ms) u.2.e).num:Int)])=((f j).ws.set i (⟨p',l',c'⟩,sJ (cF ms) u.2)).map uN:=by
   rw [fh9,aj9,hwi,hu] <;> rfl
  rw [H] at s3;have sp:=s'.put C g (q:=(⟨p',l',c'⟩,sJ (cF ms) u.2)) (s2.mono (by have:=s.sec j C; exact show b<=h1.size from (by have:=(sj.out.cj (i:=a.block) (by rw [A,G]; simp [ax])); omega))) s3 O;have hw:=gK i;rw [hw];rw [A] at O;refine aC (cs:=cz) (((i+1:Nat):Int),()) (ws.length-(i+1)) (by rw [bp9 (am9 _),fg9]; rfl) ad rfl ?_;refine ⟨i+1,_,rfl,ad,rfl,sp,λm B=>?_,?_,?_,λm B E=>?_,(k1.trans (W.mono ai) (λi hi _=>hi)).trans O (λi hi _=>hi),(t.ext W).tG so2 (by rw [A]; exact O) bH bH⟩
  ·unfold my;rw [ac9 B];exact so m B
  ·unfold my;rw [ag9 rfl];exact A
  ·unfold my;rw [ag9 rfl,cv9];exact sl
  ·have e1:(my f j ⟨(f j).s,(f j).ws.set i (⟨p',l',c'⟩,sJ (cF ms) u.2)⟩ j).ws=(f j).ws.set i (⟨p',l',c'⟩,sJ (cF ms) u.2):=by
    unfold my;rw [ag9 rfl]
   simp only [e1]
   by_cases I:m=i
   ·subst I;rw [ag9 ad,List.getElem_set_self,hu]
   ·have r:m<(f j).ws.length:=ad
    have:=V m B r
    rw [List.getElem_set_ne (Ne.symm I)]
    by_cases z:m<i
    ·rw [ag9 z] at this;rw [ag9 ad];exact this
    ·rw [ac9 z] at this;rw [ac9 ad];exact this
 ·have hi:i=ws.length:=ad
  subst hi;refine hk h1 f _ s so A ?_ k1 t;refine fy9 (by rw [ab9,ab9]; exact sl) λm M r=>?_
  rw [ab9] at M r
  have:=V m r M
  rw [ag9 r] at this;rw [aj9,aj9];exact this
structure r5 (h:Hp) (B:Nat) (w:LW) (usl lb:bC) (sp:Int) (N M:Nat) (S:Nat->lM):Prop where
 box:SR h (B+3) usl lb B (B+1) (B+2) sp
 maps:LM h B (B+1) (B+2) w
 rF:SL h (B+4) 157 4 lb.p lb.l lb.c (w.lb.map RF)
 un:SL h (B+4) 70 4 usl.p usl.l usl.c (oh S N)
 yP:mK h (B+4) M S
section
variable {h h':Hp} {B N M:Nat} {w:LW} {usl lb:bC} {sp:Int} {S:Nat->lM}
def r5.om {ws:List Nat} (s:r5 h B w usl lb sp N M S) (k:Ch ws h h') (b:∀ i,i∈ws->i<B):r5 h' B w usl lb sp N M S :=
 ⟨s.box.aj k (λa=>by have:=b _ a; omega),s.maps.aj k (λa=>by have:=b _ a; omega) (λa=>by have:=b _ a; omega) (λa=>by have:=b _ a; omega),
  s.rF.bf k (λi hi a=>by have:=(s.rF.cj hi).1; have:=b _ a; omega),s.un.bf k (λi hi a=>by have:=(s.un.cj hi).1; have:=b _ a; omega),s.yP.om k (λi hi=>by have:=b _ hi; omega)⟩
def r5.ext (s:r5 h B w usl lb sp N M S) (k:Ext h h'):r5 h' B w usl lb sp N M S:=s.om k ai
def r5.lt (s:r5 h B w usl lb sp N M S):B+4<=h.size:=by have:=s.box.lt; omega
def r5.tG {c sz:Nat} {e:TypeId} {q:Xac} {m d:Nat} {xs:List (List Xab)} (s:r5 h B w usl lb sp N M S) (t:SL h c e sz q m d xs) (k:Ch (ax q) h h') (j:B+4<=c) (h1:e≠157) (h2:e≠70) (f:e≠55) (g:e≠64):r5 h' B w usl lb sp N M S:=by
 have b:∀ i,i∈ax q->B+4<=i:=λi hi=>by have:=(t.cj hi).1; omega
 exact ⟨s.box.aj k (λa=>by have:=b _ a; omega),s.maps.aj k (λa=>by have:=b _ a; omega) (λa=>by have:=b _ a; omega) (λa=>by have:=b _ a; omega),
  s.rF.bf k (λi hi a=>xc t s.rF h1 i a hi),s.un.bf k (λi hi a=>xc t s.un h2 i a hi),s.yP.tG t k f g⟩
def r5.aaI {S':Nat->lM} {j:Nat} (s:r5 h B w usl lb sp N M S) (d:j<M) (e:mK h' (B+4) M S') (c:∀ i,(S' i).s=(S i).s) (k:Ch (ax (S j).s.p) h h'):r5 h' B w usl lb sp N M S':=by
 have t:=(s.yP.sec j d).out;have b:∀ i,i∈ax (S j).s.p->B+4<=i:=λi hi=>(t.cj hi).1
 have f:oh S' N=oh S N:=by
  unfold oh;apply cm9;intro i _;unfold zo;rw [c,c]
 exact ⟨s.box.aj k (λa=>by have:=b _ a; omega),s.maps.aj k (λa=>by have:=b _ a; omega) (λa=>by have:=b _ a; omega) (λa=>by have:=b _ a; omega),
  s.rF.bf k (λi hi a=>xc t s.rF bH i a hi),by rw [f]; exact s.un.bf k (λi hi a=>xc t s.un bH i a hi),e⟩
end
def EA (of:Xaa->Option bK) (S a:Nat->lM) (m:Nat):Prop:=∀ k,(a k).s=(S k).s/\if k<m then (a k).ws.map (·.2)=(S k).ws.map (λu=>sJ of u.2) else a k=S k
def EA.step {of:Xaa->Option bK} {S c e:Nat->lM} {m:Nat} (d:EA of S c m) (h1:∀ i,i≠m->e i=c i) (h2:(e m).s=(c m).s) (g:(e m).ws.map (·.2)=(c m).ws.map (λu=>sJ of u.2)):EA of S e (m+1):=by
 intro k;obtain ⟨f,a⟩:=d k
 by_cases hk:k=m
 ·subst hk;rw [ac9 ad] at a;rw [ag9 ad];exact ⟨h2.trans f,by rw [g,a]⟩
 ·rw [h1 k hk];refine ⟨f,?_⟩
  by_cases b:k<m
  ·rw [ag9 b] at a;rw [ag9 ad];exact a
  ·rw [ac9 b] at a;rw [ac9 ad];exact a
def Un {J0 J1:List Xab->Hp->Prop} {h0 h:Hp} {A B N R:Nat} {usl lb:bC} {sp:Int} {S:Nat->lM} {f g:Nat} {ms:List cV}
  (hA:h0.size<=A) (hAB:A<B) (e0:Ext h0 h) (r:br h A 77 [vI 0,vI 0,.string ⟨#[]⟩]) (s:r5 h B H usl lb sp N (2*N) S) (t:N4 h R U f g ms) (hN:N<=2^20)
  (ok:∀ j,j<2*N->KP (S j).ws/\(S j).ws.length<=2^20)
  (hk:∀ h' u,Ext h0 h'->r5 h' B H usl lb sp N (2*N) u->EA (cF ms) S u (2*N)->Z (.tuple #[ptr (B+3),.agg #[vI 0,vI 0,.string ⟨#[]⟩]]) h') :
  Xj ⟨A,0,none⟩ ⟨B+3,0,none⟩ U f g [J0,J1] Z h:=by
 unfold Xj aR aY bz aK bg bR bm bZ aS;refine ay s.box ((usl.p,usl.l,usl.c),()) (ak ?_);have X:usl.l=N:=by have:=s.un.1; rwa [km] at this
 rw [X];refine aM (cs:=cz) (λy G h'=>∃ (n:Nat) (u:Nat->lM),y.1=(n:Int)/\n<=N/\G=N-n/\Ext h0 h'/\br h' A 77 [vI 0,vI 0,.string ⟨#[]⟩]/\r5 h' B H usl lb sp N (2*N) u/\EA (cF ms) S u (2*n)/\N4 h' R U f g ms) ((0:Int),()) N rfl
  ⟨0,S,rfl,ad,ad,e0,r,s,λk=>⟨rfl,by rw [ac9 ad]⟩,t⟩ ?_
 clear s t r e0;rintro ⟨n29,⟨⟩⟩ G h1 ⟨n,z,hn,hnN,rfl,Y,r,s,d,t⟩;simp only at hn;subst hn;refine ak ?_;refine aI ?_ ?_<;>intro q
 ·have hlt:n<N:=ad
  obtain ⟨a,ha,hc⟩:=s.un.cells (i:=n) (by rw [km]; exact hlt);rw [Eo] at hc;refine bM ha ?_;rw [cg n];generalize C:(z (2*n)).s=e;generalize D:(z (2*n+1)).s=b;have hc:aH h1 (a.add (n*4)) 0 [e.v,b.v,mG.v,mG.v]:=by rw [<- C,<- D]; exact hc
  refine ar ((e.p,e.l,e.c),(b.p,b.l,b.c),(none,0,0),(none,0,0),()) hc (ak ?_);refine bn ?_;intro h2 m e2 z2;refine bJ m ?_;intro h3 I k3 z3;have I:br h3 h1.size 70 [e.v,b.v,mG.v,mG.v]:=I;have M:Ext h1 h3:=bS e2 k3;refine ay I ((e.p,e.l,e.c),()) (ak ?_);rw [aw];refine ay I ((b.p,b.l,b.c),()) (ak ?_);refine oB SP slZ ad ad (RU e.p e.l e.c b.p b.l b.c) ?_;intro h4 b4 e4 z4;have b4:br h4 h3.size 46 [e.v,b.v]:=b4;have e14:=M.trans e4;have O:∀ k,k<2->([e.v,b.v]:List Xab).drop k=(S (2*n+k)).s.v::([e.v,b.v]:List Xab).drop (k+1):=by
   intro k hk;have h0:∀ k,(z k).s=(S k).s:=λk=>(d k).1
   have:k=0\/k=1:=ad
   rcases this with rfl | rfl
   ·rw [<- h0]; show [e.v,b.v]=(z (2*n)).s.v::[b.v]; rw [C]
   ·rw [<- h0]; show [b.v]=(z (2*n+1)).s.v::[]; rw [D]
  have hb3:∀ j,j<2*N->h3.size∉ax (S j).s.p:=by
   intro j F V;rw [<- (d j).1] at V
   have:=((s.yP.sec j F).out.cj V).2
   have:=M.size
   omega
  refine aM (cs:=cz) (λy G h'=>∃ (j:Nat) (u:Nat->lM),y.1=(j:Int)/\j<=2/\G=2-j/\Ext h0 h'/\br h' A 77 [vI 0,vI 0,.string ⟨#[]⟩]/\r5 h' B H usl lb sp N (2*N) u/\EA (cF ms) S u (2*n+j)/\N4 h' R U f g ms/\br h' h3.size 46 [e.v,b.v]) ((0:Int),()) 2 rfl
   ⟨0,z,rfl,ad,ad,Y.trans e14,r.aj e14 ai,s.ext e14,d,t.ext e14,b4⟩ ?_
  clear s t r d C D hc ha I;rintro ⟨n53,⟨⟩⟩ G h5 ⟨j,P,F,Q,rfl,e5,r,s,d,t,b5⟩;simp only at F;subst F;refine ak ?_;refine aI ?_ ?_<;>intro q
  ·have Q:j<2:=ad
   refine bM rfl ?_;rw [cg j,aw];have hsj:=(d (2*n+j)).1;have E:P (2*n+j)=S (2*n+j):=by
    have:=(d (2*n+j)).2
    rwa [ac9 ad] at this
   refine aZ b5 (((S (2*n+j)).s.p,(S (2*n+j)).s.l,(S (2*n+j)).s.c),()) (by
    have:=O j Q
    rw [show 0+j*1=j from ad,this];rfl) ?_
   refine ak ?_;rw [<- E];have o:2*n+j<2*N:=ad
   have okj:=ok _ o;rw [<- E] at okj;have key:=λ(L:Lp) (hL:4=L.length)=>@Vt L Z h5 (B+4) (2*N) R P U f g 4 (T.again 3 [vI (IntKind.wrap .i64 ((j:Int)+(1:Int)))]) ms hL s.yP (2*n+j) o t okj.1 okj.2
   refine key _ ?_ ?_
   ·rfl
   clear key;intro h6 S3 J s6 so ss sw W sv6;have hw:=gK j;rw [hw];have hss:∀ i,(S3 i).s=(P i).s:=by
    intro i
    by_cases hi:i=2*n+j
    ·rw [hi]; exact ss
    ·rw [so i hi]
   have x:∀ i,i∈ax (P (2*n+j)).s.p->B+4<=i:=λi hi=>((s.yP.sec _ o).out.cj hi).1
   have z0:=Y.size;refine aC (cs:=cz) (((j+1:Nat):Int),()) (2-(j+1)) rfl ad rfl ?_;refine ⟨j+1,S3,rfl,ad,rfl,Ch.trans e5 W (λi hi hl=>by have:=x i hi; omega),r.aj W (λV=>by have:=x _ V; omega),s.aaI o s6 hss W,d.step so ss sw,sv6,b5.aj W (by rw [E]; exact hb3 _ o)⟩
  ·have F:j=2:=ad
   subst F;have hw:=gK n;rw [hw];refine aC (cs:=cz) (((n+1:Nat):Int),()) (N-(n+1)) rfl ad rfl ?_;exact ⟨n+1,P,rfl,ad,rfl,e5,r,s,d,t⟩
 ·have hn:n=N:=ad
  subst hn;refine bJ r ?_;intro h2 m k2 z2;have m:br h2 A 77 [vI 0,vI 0,.string ⟨#[]⟩]:=m;refine ay m ((0:Int),(0:Int),(⟨#[]⟩:Xaa),()) ?_;exact hk h2 z (bS Y k2) (s.om k2 (by simp; omega)) d
def GR (k:Ky):List Xab:=[vI (k.1:Int),.string k.2]
def XW:Tryz.prog.underlying 112=some (.slice 121):=av
def kyZ:(Tryz.prog.info? 121).map (λi=>(i.zero,i.size,i.bytes))=some (some (.agg #[vI 0,.string ⟨#[]⟩]),2,24):=av
def WO (n:Int) (s:Xaa):Instr.fill (λj=>some (j*2,2)) ((Array.range (1*2)).map ((Value.agg #[vI 0,.string ⟨#[]⟩]).cells[· % (Value.agg #[vI 0,.string ⟨#[]⟩]).cells.size]!)) [(0,.agg #[vI n,.string s])]=some ([vI n,.string s]:List Xab).toArray:=av
def Ds {b x sz:Nat} {p:Xac} {l c:Nat} {xs:List (List Xab)} {ys:List Xab} (s:SL O b d sz p l c xs) (t:br O x i ys) (f:d≠i):x∉ax p:=λg=>by
 obtain ⟨zs,a⟩:=SL.ye s x g;unfold br at a t;rw [a] at t;simp only [Option.some.injEq,Obj.cells.injEq] at t;exact f t.2.1
def KS (r6 unit:Nat) (s:Xaa):Xab:=.tuple #[.pointer none,.agg #[vI (r6:Int),vI (unit:Int),.string s]]
def Cg (h h':Hp):Prop:=∀ x e xs,e≠116->e≠121->br h x e xs->br h' x e xs
def Cg.ext {h' h2:Hp} (k:Cg O h') (e:Ext h' h2):Cg O h2:=λx t xs h1 h2 b=>(k x t xs h1 h2 b).aj e ai
abbrev RY:List ez:=[(false,[.pointer 0]),(false,[.slice 0]),(false,[.slice 0]),(false,[.int .i64])]
structure Eu (h:Hp) (b:Nat) (e k:bC) (D:List (Xaa × bK)) (ks:List Ky):Prop where
 eq:∃ ms,sM h b e.p e.l e.c ms/\ms.map fQ=D
 ky:SL h b 121 2 k.p k.l k.c (ks.map GR)
variable {g h:bC}
def Eu.ext {h':Hp} {b:Nat} {D:List (Xaa × bK)} {ks:List Ky} (s:Eu O b g h D ks) (x:Ext O h'):Eu h' b g h D ks:=by
 obtain ⟨⟨ms,o,a⟩,y⟩:=s;exact ⟨⟨ms,o.aj x ai,a⟩,y.aj x ai⟩
def UA {L:Lp} {K:Xab->Hp->Prop} {h0 h:Hp} {A B N M n:Nat} {w:LW} {usl lb:bC} {sp:Int} {S:Nat->lM} {p52:Xac} {l53:Nat} {es:List tI} {O P:bC} {D:List (Xaa × bK)} {ks:List Ky}
  {k:Xac->Xac->Nat->Nat->Xac->Nat->Nat->T} {F:Xac}
  (hL:2=L.length) (pw:eU h0) (hA:h0.size<=A) (hAB:A<B) (e0:Ext h0 h) (ba:br h A 77 [vI 0,vI 0,.string ⟨#[]⟩]) (s:r5 h B w usl lb sp N M S) (Lf:RO w) (es0:Eu h (B+4) O P D ks)
  (v:Ob.vQ h0 p52 l53 es) (ge:∀ e,e∈es->GU e.2) (hl:es.length<=2^20) (hD:D.length<=2^20) (hks:ks.length<=2^20)
  (hbad:∀ h' q,Ext h0 h'->(es.findSome? λe=>w.bad n e.2)=some q->K (KS 23 n q) h')
  (hk:∀ h' f g J,Ext h0 h'->br h' A 77 [vI 0,vI 0,.string ⟨#[]⟩]->r5 h' B w usl lb sp N M S->Eu h' (B+4) f g (D++es.map λe=>(w.word (n,e.1),w.lin n e.2)) (ks++es.map λe=>(n,e.1)) ->
   Cg h h'->(es.findSome? λe=>w.bad n e.2)=none->k F f.p f.l f.c g.p g.l g.c (L++[J]) K h') :
  XN ⟨A,0,none⟩ ⟨B+3,0,none⟩ (n:Int) p52 l53 F O.p O.l O.c P.p P.l P.c k L K h:=by
 unfold XN aR aY bz aK fo cv bg aE bm bZ aS cH fH;have hl53:=v.len
 refine aM (cs:=RY) (λy m' h'=>∃ (i:Nat) (f g:bC),y.1=F/\y.2.1=(f.p,f.l,f.c)/\y.2.2.1=(g.p,g.l,g.c)/\y.2.2.2.1=(i:Int)/\i<=es.length/\m'=es.length-i/\Ext h0 h'/\br h' A 77 [vI 0,vI 0,.string ⟨#[]⟩]/\r5 h' B w usl lb sp N M S /\
   Eu h' (B+4) f g (D++(es.take i).map λe=>(w.word (n,e.1),w.lin n e.2)) (ks++(es.take i).map λe=>(n,e.1))/\Cg h h'/\∀ j,(d:j<i)->(V:j<es.length)->w.bad n es[j].2=none)
  (F,(O.p,O.l,O.c),(P.p,P.l,P.c),(0:Int),()) es.length rfl ⟨0,O,P,rfl,rfl,rfl,rfl,ad,ad,e0,ba,s,by simpa using es0,λx e xs _ _ b=>b,by intro j d; omega⟩ ?_
 clear e0 ba s es0;rintro ⟨p55,⟨p56,l57,l58⟩,⟨p59,l60,l61⟩,n62,⟨⟩⟩ m' h1 ⟨i,o,G,hy1,hy2,hy3,hy4,hil,rfl,W,ba,s,X,ke,Y⟩;simp only [Prod.mk.injEq] at hy1 hy2 hy3 hy4;obtain ⟨rfl,rfl,rfl⟩:=hy2;obtain ⟨rfl,rfl,rfl⟩:=hy3;subst hy1 hy4;refine ak ?_;refine aI ?_ ?_<;>intro q
 ·have H:i<es.length:=ad
  obtain ⟨aa,pp,ll,cc,haa,hc0,va0,hsz⟩:=v.cells i H;have gxi:=ge es[i] (ah9 H);have Z:es.take (i+1)=es.take i++[es[i]]:=af9 H;have hfs:∀ q,w.bad n es[i].2=some q->(es.findSome? λe=>w.bad n e.2)=some q:=by
   intro q hq;have hsp:es=es.take i++es[i]::es.drop (i+1):=by rw [<- ax9 H,cc9]
   have hnone:((es.take i).findSome? λe=>w.bad n e.2)=none:=by
    rw [db9];intro x V;obtain ⟨j,d,rfl⟩:=bh9 V;rw [au9] at d;rw [List.getElem_take];exact Y j ad ad
   generalize hz:es[i]=z at hsp hq;rw [hsp,fm9,hnone,List.findSome?_cons,hq] <;> rfl
  have hnx:w.bad n es[i].2=none->∀ j,(d:j<i+1)->(V:j<es.length)->w.bad n es[j].2=none:=by
   intro hn j d V
   by_cases hji:j=i
   ·subst hji; exact hn
   ·exact Y j ad V
  generalize es[i]=x at hc0 va0 hsz gxi Z hfs hnx;refine bM haa ?_;rw [cg i];refine ar (x.1,(pp,ll,cc),(x.2.num:Int),()) (aP W ai _ _ hc0) (ak ?_);refine bn ?_;intro h2 b2' e2 z2;refine bJ b2' ?_;intro h3 b3 k3 z3;have b3:br h3 h1.size 116 [.string x.1,.slice pp ll cc,.int .u32 (x.2.num:Int)]:=b3;have u:Ext h1 h3:=bS e2 k3;have e03:=W.trans u;have s3:=s.ext u;rw [aw];refine ay b3 ((pp,ll,cc),(x.2.num:Int),()) (ak ?_);refine aG (zm (c:=cc) (pw.aj e03 ai) s3.box s3.maps Lf n (va0.aj e03).vw gxi) ?_;rintro _ h4 ⟨e4,hq⟩;have z1:=W.size;have l1:=s.lt;have q3:=b3.lt;cases hb:w.bad n x.2 with
  | some t =>
   rw [hb] at hq;subst hq;refine ⟨((none,0,0),(0:Int),t,false,()),rfl,ak ?_⟩;refine bn ?_;intro h5 b5' e5 z5;refine bJ b5' ?_;intro h6 b6 k6 z6;refine bU rfl ?_;have r:Ext h4 h6:=bS e5 k6;have e16:=(u.trans e4).trans r;refine bJ (ba.aj e16 ai) ?_;intro h7 b7 k7 z7;have b7:br h7 A 77 [vI 23,vI (n:Int),.string t]:=b7;refine ay b7 ((23:Int),(n:Int),t,()) ?_;exact hbad h7 t (bS (W.trans e16) k7) (hfs t hb)
  | none =>
   rw [hb] at hq;obtain ⟨Q,R,U,rfl,s7⟩:=hq;refine ⟨((Q,R,U),((w.lin n x.2).num:Int),(⟨#[]⟩:Xaa),true,()),rfl,ak ?_⟩;refine bn ?_;intro h5 b5' e5 z5;refine bJ b5' ?_;intro h6 b6 k6 z6;have b6:br h6 h4.size 53 [.slice Q R U,.int .u32 ((w.lin n x.2).num:Int)]:=b6;have r:Ext h4 h6:=bS e5 k6;have e16:=(u.trans e4).trans r;refine bX rfl ?_;have b36:=b3.aj (e4.trans r) ai;refine ay b36 (x.1,()) (ak ?_);refine ay b6 ((Q,R,U),((w.lin n x.2).num:Int),()) (ak ?_);have s6:=s.ext e16;refine aG (DH (pw.aj (W.trans e16) ai) s6.box s6.maps Lf n x.1) ?_;rintro _ h8 ⟨rfl,e8⟩;refine ⟨(w.word (n,x.1),()),rfl,ak ?_⟩;have e18:=e16.trans e8;have b68:=b6.aj e8 ai;have b38:=b36.aj e8 ai;have hst:∀ h',Ext h8 h'->T.Cv h' [(⟨h4.size,0,none⟩,[.slice Q R U,.int .u32 ((w.lin n x.2).num:Int)]),(⟨h1.size,0,none⟩,[.string x.1])]:=λh' e=>⟨(b68.aj e ai).cells _ rfl,(b38.aj e ai).cells _ rfl,trivial⟩
   refine ⟨hst h8 (Ch.refl _ _),?_⟩;obtain ⟨⟨ms,o1,hms⟩,y1⟩:=X;have o8:=o1.aj e18 ai;have y8:=y1.aj e18 ai;have hml:ms.length=D.length+i:=by
    have:=as9 List.length hms
    rw [ab9,ae9,ab9,au9,cp9 hil] at this;exact this
   have hel:o.l=ms.length:=by have:=o1.out.1; rwa [ab9] at this
   have hkl:G.l=ks.length+i:=by
    have:=y1.1
    rw [ab9,ae9,ab9,au9,cp9 hil] at this;exact this
   have z18:=e18.size;have z4:=e4.size;have z46:=r.size;have z8:=e8.size;have z13:=u.size;refine gz (vs:=Bg ⟨w.word (n,x.1),Q,R,U,w.lin n x.2⟩) DV NC rfl ad ad (JA _ Q R U _) rfl rfl o8.out ad ad ad hst ?_;intro p9 c9 h9 s9 I hp9;have C:∀ j,h1.size<=j->j∉ax o.p:=λj d hm=>by have:=(o1.out.cj hm).2; omega
   have b69:=b68.aj I (C _ ad);have b39:=b38.aj I (C _ ad);refine ⟨⟨b69.cells _ rfl,b39.cells _ rfl,trivial⟩,?_⟩;have s79:SL h8 (B+4) 64 2 Q R U ((w.lin n x.2).af.map cT):=(s7.aj (r.trans e8) ai).mono ad;have o9:sM h9 (B+4) p9 (o.l+1) c9 (ms++[⟨w.word (n,x.1),Q,R,U,w.lin n x.2⟩]):=by
    refine o8.push s79 (λj d=>?_) (by rw [ao9]; exact s9) I (λj d=>?_)
    ·have hj3:=(s7.cj d).1;refine ⟨λy hy m hm=>?_,C _ ad⟩
     have:=((o1.fF y hy).cj hm).2
     omega
    ·rcases hp9 with rfl | ⟨a,rfl,ha⟩
     ·exact .inl d
     ·simp [ax] at d;subst d;exact .inr ha
   have y9:=y8.bf I (λj d hm=>xc o8.out y8 bH j hm d);have g9:=(s.ext e18).tG o8.out I (am9 _) bH bH bH bH;have ba8:=ba.aj e18 ai;have ba9:=ba8.aj I (Ds o8.out ba8 bH);have z9:=I.size;have ke8:Cg h h8:=ke.ext e18;have ke9:Cg h h9:=λx e xs h1 h2 b=>by
    have b8:=ke8 x e xs h1 h2 b;exact b8.aj I (Ds o8.out b8 (Ne.symm h1))
   have e09:Ext h0 h9:=Ch.trans (W.trans e18) I (λj d hl=>by have:=(o8.out.cj d).1; omega);refine ay b39 (x.1,()) (ak ?_);refine eZ (vs:=GR (n,x.1)) XW kyZ rfl ad ad (WO _ _) rfl rfl y9 ad ad ad ?_;intro p10 c10 h10 s10 E hp10;have hw:=gK i;rw [hw];refine aC (cs:=RY) (p55,(p9,o.l+1,c9),(p10,G.l+1,c10),((i+1:Nat):Int),()) (es.length-(i+1)) (by rw [bp9 ad,<- hL,fg9]; rfl) ad rfl ?_;refine ⟨i+1,⟨p9,o.l+1,c9⟩,⟨p10,G.l+1,c10⟩,rfl,rfl,rfl,rfl,ad,rfl,Ch.trans e09 E (λj d hl=>by have:=(y9.cj d).1; omega),ba9.aj E (Ds y9 ba9 bH),
    g9.tG y9 E (am9 _) bH bH bH bH,⟨⟨_,o9.tG y9 E bH bH,?_⟩,?_⟩,?_,hnx hb⟩
   ·rw [Z,ao9,hms,ao9,<- az9] <;> rfl
   ·have he:(ks++(es.take (i+1)).map λe=>(n,e.1)).map GR=(ks++(es.take i).map λe=>(n,e.1)).map GR++[GR (n,x.1)]:=by
     rw [Z]
     simp
    rw [he];exact s10
   ·intro x e xs h1 h2 b;have b9:=ke9 x e xs h1 h2 b;exact b9.aj E (Ds y9 b9 (Ne.symm h2))
 ·have hi:i=es.length:=ad
  subst hi;rw [bo9 (am9 _)] at X;refine hk h1 o G _ W ba s X ke ?_;rw [db9];intro x V;obtain ⟨j,d,rfl⟩:=bh9 V;exact Y j d d
def XE:Tryz.prog.underlying 32=some (.slice 70):=av
def aab:(Tryz.prog.info? 70).map (λi=>(i.zero,i.size,i.bytes))=some (some (.agg #[.slice none 0 0,.slice none 0 0,.slice none 0 0,.slice none 0 0]),4,96):=av
def Yi (a:Xac) (b c:Nat) (d:Xac) (e f:Nat) (g:Xac) (h c3:Nat) (i:Xac) (k l:Nat):Instr.fill (λj=>some (j*4,4)) ((Array.range (1*4)).map ((Value.agg #[.slice none 0 0,.slice none 0 0,.slice none 0 0,.slice none 0 0]).cells[· % (Value.agg #[.slice none 0 0,.slice none 0 0,.slice none 0 0,.slice none 0 0]).cells.size]!)) [(0,.agg #[.slice a b c,.slice d e f,.slice g h c3,.slice i k l])]=some ([.slice a b c,.slice d e f,.slice g h c3,.slice i k l]:List Xab).toArray:=av
def Ba {S:Nat->lM} {k n:Nat} {x:lM} (hk:2*n<=k):oh (my S k x) n=oh S n:=by
 unfold oh;apply cm9;intro i hi;have hi:i<n:=ef9.1 hi;unfold zo my;rw [ac9 ad,ac9 ad]
section
variable {h h':Hp} {B N M:Nat} {w:LW} {usl lb:bC} {sp:Int} {S:Nat->lM}
def r5.add (s:r5 h B w usl lb sp N M S) (e:Ext h h') (a:2*N<=M) {x:lM} (b:oa h' h.size x):r5 h' B w usl lb sp N (M+1) (my S M x):=by
 have s':=s.ext e;exact ⟨s'.box,s'.maps,s'.rF,by rw [Ba a]; exact s'.un,s.yP.add e s.lt b⟩
end
section
variable {h h':Hp} {B N M:Nat} {w:LW} {usl lb:bC} {sp:Int} {S:Nat->lM}
def r5.HW {x:Nat} {xs:List Xab} (s:r5 h B w usl lb sp N M S) (b:br h x 70 xs) (o:B+4<=x) (a:x∉ax usl.p) (k:Ch [x] h h'):r5 h' B w usl lb sp N M S:=by
 have c:∀ {g sz:Nat} {e:TypeId} {q:Xac} {m d:Nat} {ys:List (List Xab)},SL h g e sz q m d ys->e≠70->SL h' g e sz q m d ys:=λt n=>t.bf k (λi hi f=>by
  have:i=x:=by simpa using f
  subst this;exact Ds t b n hi)
 exact ⟨s.box.aj k (by simp; omega),s.maps.aj k (by simp; omega) (by simp; omega) (by simp; omega),c s.rF bH,s.un.bf k (λi hi f=>by
  have:i=x:=by simpa using f
  subst this;exact a hi),⟨λj l=>⟨c (s.yP.sec j l).out bH,λu a=>c ((s.yP.sec j l).fF u a) bH⟩,s.yP.ap⟩⟩
def Eu.HW {x b:Nat} {xs:List Xab} {e k:bC} {D:List (Xaa × bK)} {ks:List Ky} (s:Eu h b e k D ks) (bx:br h x 70 xs) (c:Ch [x] h h'):Eu h' b e k D ks:=by
 have f:∀ {g sz:Nat} {e:TypeId} {q:Xac} {m d:Nat} {ys:List (List Xab)},SL h g e sz q m d ys->e≠70->SL h' g e sz q m d ys:=λt j=>t.bf c (λi hi a=>by
  have:i=x:=by simpa using a
  subst this;exact Ds t bx j hi)
 obtain ⟨⟨ms,o,a⟩,y⟩:=s;exact ⟨⟨ms,⟨f o.out bH,λm a=>f (o.fF m a) bH,o.ap,o.dj⟩,a⟩,f y bH⟩
def Eu.lB {b f sz:Nat} {q:Xac} {m d:Nat} {ys:List (List Xab)} {e k:bC} {D:List (Xaa × bK)} {ks:List Ky} (s:Eu h b e k D ks) (t:SL h f 70 sz q m d ys) (c:Ch (ax q) h h'):Eu h' b e k D ks:=by
 obtain ⟨⟨ms,o,a⟩,y⟩:=s;exact ⟨⟨ms,o.tG t c bH bH,a⟩,y.bf c (λi hi a=>xc t y bH i a hi)⟩
def Eu.V7 {b x:Nat} {e k:bC} {D:List (Xaa × bK)} {ks:List Ky} (s:Eu h b e k D ks) (d:x<b) (c:Ch [x] h h'):Eu h' b e k D ks:=by
 obtain ⟨⟨ms,o,a⟩,y⟩:=s;exact ⟨⟨ms,o.aj c (λi hi=>by have:i=x:=(by simpa using hi); omega),a⟩,y.bf c (λi hi a=>by
  have:i=x:=by simpa using a
  have:=(y.cj hi).1
  omega)⟩
end
def S8 {L:Lp} {K:Xab->Hp->Prop} {h0 h:Hp} {A B n:Nat} {w:LW} {usl lb:bC} {sp:Nat} {S:Nat->lM} {u:cm} {a d F W el kl:bC} {D:List (Xaa × bK)} {ks:List Ky} {p13:Xac} {I:qu (flat RY)->Nat->Hp->Prop} {m:Nat}
  (hL:2=L.length) (hJ:L[1]?=some (Jl I m)) (pw:eU h0) (tb0:zY h0) (hA:h0.size<=A) (hAB:A<B) (e0:Ext h0 h) (ba:br h A 77 [vI 0,vI 0,.string ⟨#[]⟩]) (s:r5 h B w usl lb (sp:Int) n (2*n) S) (Lf:RO w) (es0:Eu h (B+4) el kl D ks)
  (v:vp h0 a d F W u) (ge:∀ x,x∈cR u->GU x) (hr:fC u=0) (hl1:u.text.length<=2^20) (hl2:u.data.length<=2^20) (hl3:u.bi.length<=2^20) (hD:D.length<=2^20) (hks:ks.length<=2^20) (hn:n<=2^20) (hsp:sp<=2^40)
  (G:∀ h' q,Ext h0 h'->tg w n u=some q->K (KS 23 n q) h')
  (hk:∀ h' P Q usl' S',Ext h0 h'->br h' A 77 [vI 0,vI 0,.string ⟨#[]⟩]->r5 h' B w usl' lb ((sp+kO u.text:Nat):Int) (n+1) (2*(n+1)) S'->Eu h' (B+4) P Q (D++u.bi.map λe=>(w.word (n,e.1),w.lin n e.2)) (ks++u.bi.map λe=>(n,e.1)) ->
   tg w n u=none->(∀ k,k<2*n->S' k=S k)->(S' (2*n)).ws.map (·.2)=u.text.map (w.fG n)->(S' (2*n+1)).ws.map (·.2)=u.data.map (w.fG n) ->
   ∃ m',m'<m/\I (p13,(P.p,P.l,P.c),(Q.p,Q.l,Q.c),((n+1:Nat):Int),()) m' h') :
  W5 ⟨A,0,none⟩ ⟨B+3,0,none⟩ p13 el.p el.l el.c kl.p kl.l kl.c (n:Int) a.p a.l a.c d.p d.l d.c F.p F.l F.c W.p W.l W.c L K h:=by
 unfold W5 aY cY cv bg bY bm cH;have l0:=s.lt;have zA:=e0.size;refine bn ?_;intro h1 b1' e1 z1;refine bJ b1' ?_;intro h2 b2 k2 z2;have b2:br h2 h.size 70 [a.v,d.v,F.v,W.v]:=b2;have e02:Ext h h2:=bS e1 k2;refine bn ?_;intro h3 b3 e3 z3;have b23:=b2.aj e3 ai;refine ay b23 ((a.p,a.l,a.c),()) (ak ?_);have e03:=e02.trans e3;have s3:=s.ext e03;have E3:=e0.trans e03;refine aG (AM (c:=a.c) (pw.aj E3 ai) s3.box s3.maps Lf n (v.aj E3).text hl1 (λx hx=>ge _ (by unfold cR; simp only [List.mem_append]; exact .inl (.inl (ay9 hx))))) ?_;rintro _ h4 ⟨E,H⟩;have z03:=e03.size;have z4:=E.size;have q3:=b3.lt;cases hb:w.Ak n u.text with
 | some t =>
  rw [hb] at H;subst H;refine ⟨((none,0,0),t,false,()),rfl,ak ?_⟩;refine bJ (b3.aj E ai) ?_;intro h5 b5 X z5;refine bU rfl ?_;have e35:Ext h3 h5\/True:=.inr trivial;have ba5:=((ba.aj (e03.trans E) ai).aj X (by simp; omega))
  refine bJ ba5 ?_;intro h6 b6 k6 z6;have b6:br h6 A 77 [vI 23,vI (n:Int),.string t]:=b6;refine ay b6 ((23:Int),(n:Int),t,()) ?_;refine G h6 t ?_ (by unfold tg; rw [hb]; rfl);exact Ch.trans (bS (E3.trans E) X) k6 (λi hi hl=>by simp at hi; omega)
 | none =>
  rw [hb] at H;obtain ⟨Y,Z,B4,w4,rfl,lc4,hB4,hw4⟩:=H;refine ⟨((Y,a.l,Z),(⟨#[]⟩:Xaa),true,()),rfl,ak ?_⟩;refine bJ (b3.aj E ai) ?_;intro h5 b5 X z5;have b5:br h5 h2.size 70 [.slice Y a.l Z,.slice none 0 0,.slice none 0 0,.slice none 0 0]:=b5;refine bX rfl ?_;have x4:oa h4 h3.size ⟨⟨Y,a.l,Z⟩,w4⟩:=⟨lc4.out,λy hy=>(lc4.fF y hy).mono hB4⟩
  have s4:=s3.add E (am9 _) x4;have hu2:h2.size∉ax usl.p:=λj=>by have:=(s.un.cj j).2; have:=e02.size; omega
  have l2:=e02.size;have s5:=s4.HW (b3.aj E ai) ad hu2 X;have ba5:=(ba.aj (e03.trans E) ai).aj X (by simp; omega);have q2:=b2.lt;have b25:=(b23.aj E ai).aj X (by simp; omega);have E5:Ext h0 h5:=bS (E3.trans E) X;have es5:Eu h5 (B+4) el kl D ks:=((es0.ext (e03.trans E))).HW (b3.aj E ai) X;rw [aw];refine ay b25 ((d.p,d.l,d.c),()) (ak ?_);refine aG (AM (c:=d.c) (pw.aj E5 ai) s5.box s5.maps Lf n (v.aj E5).data hl2 (λx hx=>ge _ (by unfold cR; simp only [List.mem_append]; exact .inl (.inr (ay9 hx))))) ?_;rintro _ h6 ⟨R,H⟩;have b56:=b5.aj R ai;have z6:=R.size;cases M:w.Ak n u.data with
  | some t =>
   rw [M] at H;subst H;refine ⟨((none,0,0),t,false,()),rfl,ak ?_⟩;rw [aw];refine bJ b56 ?_;intro h7 b7 k7 z7;refine bU rfl ?_;have ba7:=(ba5.aj R ai).aj k7 (by simp; omega);refine bJ ba7 ?_;intro h8 b8 k8 z8;have b8:br h8 A 77 [vI 23,vI (n:Int),.string t]:=b8;refine ay b8 ((23:Int),(n:Int),t,()) ?_;refine G h8 t ?_ (by unfold tg; rw [hb,M]; rfl);exact Ch.trans (bS (E5.trans R) k7) k8 (λi hi hl=>by simp at hi; omega)
  | none =>
   rw [M] at H;obtain ⟨p6,c6,B6,w6,rfl,lc6,hB6,hw6⟩:=H;refine ⟨((p6,d.l,c6),(⟨#[]⟩:Xaa),true,()),rfl,ak ?_⟩;rw [aw];refine bJ b56 ?_;intro h7 b7 k7 z7;have b7:br h7 h2.size 70 [.slice Y a.l Z,.slice p6 d.l c6,.slice none 0 0,.slice none 0 0]:=b7;refine bX rfl ?_;have x6:oa h6 h5.size ⟨⟨p6,d.l,c6⟩,w6⟩:=⟨lc6.out,λy hy=>(lc6.fF y hy).mono hB6⟩
   have s6:=s5.add R ad x6;have s7:=s6.HW b56 ad hu2 k7;have es7:=(es5.ext R).HW b56 k7;have ba7:=(ba5.aj R ai).aj k7 (by simp; omega);have b27:=(b25.aj R ai).aj k7 (by simp; omega);have E7:Ext h0 h7:=bS (E5.trans R) k7;have WM:=b27;rw [aw];refine ay b27 ((F.p,F.l,F.c),()) (ak ?_);refine UA hL pw hA hAB E7 ba7 s7 Lf es7 v.bi (λe he=>ge _ (by unfold cR; simp only [List.mem_append]; exact .inr (ay9 he))) hl3 hD hks (λh' q e H=>G h' q e (by unfold tg; rw [hb,M]; exact H)) ?_;intro h8 U V J E8 ba8 r es8 ke8 hb3;have b78:=ke8 _ _ _ bH bH b7;have b28:=ke8 _ _ _ bH bH b27;generalize N:my (my S (2*n) ⟨⟨Y,a.l,Z⟩,w4⟩) (2*n+1) ⟨⟨p6,d.l,c6⟩,w6⟩=S2 at r;refine ay r.box ((usl.p,usl.l,usl.c),()) (ak ?_);refine ay b78 ((Y,a.l,Z),(p6,d.l,c6),(none,0,0),(none,0,0),()) (ak ?_);have hul:usl.l=n:=by have:=s.un.1; rwa [km] at this
   have z8':=E8.size;have l8:=r.lt;refine gz (vs:=[.slice Y a.l Z,.slice p6 d.l c6,.slice none 0 0,.slice none 0 0]) XE aab rfl ad ad (Yi Y a.l Z p6 d.l c6 none 0 0 none 0 0) rfl rfl r.un ad ad ad (λh' e=>⟨(r.box.aj e ai).cells _ rfl,trivial⟩) ?_;intro p9 c9 h9 s9 O hp9;have b79:=b78.aj O hu2;have hu1:h.size∉ax usl.p:=λj=>by have:=(s.un.cj j).2; omega
   have b29:=b28.aj O hu1;refine ⟨⟨b79.cells _ rfl,trivial⟩,?_⟩;have b:∀ i,i∈ax usl.p->B+4<=i:=λi hi=>(r.un.cj hi).1
   have bx9:=r.box.aj O (λj=>by have:=b _ j; omega);have ba9:=ba8.aj O (λj=>by have:=b _ j; omega);have es9:=es8.lB r.un O;have E9:Ext h0 h9:=Ch.trans E8 O (λi hi hl=>by have:=b _ hi; omega);have m9:=r.maps.aj O (λj=>by have:=b _ j; omega) (λj=>by have:=b _ j; omega) (λj=>by have:=b _ j; omega);have lb9:=r.rF.bf O (λi hi j=>xc r.un r.rF bH i j hi);have se9:=r.yP.tG r.un O bH bH;have z9:=O.size;refine bJ bx9 ?_;intro h10 z f z10;have z:SR h10 (B+3) ⟨p9,usl.l+1,c9⟩ lb B (B+1) (B+2) (sp:Int):=z;have es10:=es9.V7 ad f;have ba10:=ba9.aj f (by simp; omega);have m10:=m9.aj f ai ai ai;have lb10:=lb9.bf f (λi hi=>by have:=(lb9.cj hi).1; simp; omega);have se10:=se9.om f ai;have un10:=s9.bf f (λi hi=>by have:=(s9.cj hi).1; simp; omega);have E10:Ext h0 h10:=bS E9 f;have b210:=b29.aj f (by simp; omega);rw [aw];refine ay z ((sp:Int),()) (ak ?_);refine ay b210 ((a.p,a.l,a.c),(d.p,d.l,d.c),(F.p,F.l,F.c),(W.p,W.l,W.c),()) (ak ?_);refine aG (MD (tb0.aj E10 ai) (v.aj E10)) ?_;rintro _ h11 ⟨rfl,g⟩;rw [ag9 hr];refine ⟨(((kO u.text:Nat):Int),()),rfl,ak ?_⟩;have bx11:=z.aj g ai;refine ⟨⟨bx11.cells _ rfl,trivial⟩,?_⟩;have hsl:=A6 u.text;refine bJ bx11 ?_;intro h12 C o z12;have hw1:IntKind.wrap .i64 ((sp:Int)+((kO u.text:Nat):Int))=((sp+kO u.text:Nat):Int):=by rw [wrap_i64 ad ad]; omega
   rw [hw1] at C;have C:SR h12 (B+3) ⟨p9,usl.l+1,c9⟩ lb B (B+1) (B+2) ((sp+kO u.text:Nat):Int):=C;have hw:=gK n;rw [hw];have un11:=un10.aj g ai;have lb11:=lb10.aj g ai;obtain ⟨m',hm',hI⟩:=hk h12 U V ⟨p9,usl.l+1,c9⟩ S2 (bS (E10.trans g) o) ((ba10.aj g ai).aj o (by simp; omega))
    ⟨C,(m10.aj g ai ai ai).aj o ai ai ai,lb11.bf o (λi hi=>by have:=(lb11.cj hi).1; simp; omega),by
     have:=un11.bf o (λi hi=>by have:=(un11.cj hi).1; simp; omega)
     rw [<- N,JY];rw [<- N,Ba ad,Ba ad] at this;exact this,(se10.ext g).om o ai⟩
    ((es10.ext g).V7 ad o) (by unfold tg; rw [hb,M]; exact hb3) (λk hk=>by rw [<- N]; unfold my; rw [ac9 ad,ac9 ad]) (by rw [<- N]; unfold my; rw [ac9 ad,ag9 rfl]; exact hw4) (by rw [<- N]; unfold my; rw [ag9 rfl]; exact hw6)
   exact aC (cs:=RY) (p13,(U.p,U.l,U.c),(V.p,V.l,V.c),((n+1:Nat):Int),()) m' (by rw [bw9 ad]; exact hJ) hm' rfl hI
def nG (us:List cm):Nat:=(us.map λu=>kO u.text).sum
structure P2 (x:lM):Prop where
 len:x.ws.length<=2^30
 Zv:∀ u,u∈x.ws->u.2.e.af.length<=2^40
 sz:∀ u,u∈x.ws->∀ t,t∈u.2.e.af->t.1.size<=maxLen
def Pr (h0:Hp) (us:List cm) (v:Xab) (h':Hp):Prop:=Ext h0 h'/\match nB us with
 | .error f=>v=KS f.r6 f.unit f.name
 | .ok P=>∃ B usl lb S,h0.size<=B/\v=.tuple #[ptr (B+3),.agg #[vI 0,vI 0,.string ⟨#[]⟩]]/\r5 h' B P.w usl lb ((nG us:Nat):Int) us.length (2*us.length) S /\
   (∀ n,(hn:n<us.length)->(S (2*n)).ws.map (·.2)=us[n].text.map (P.fG n)/\(S (2*n+1)).ws.map (·.2)=us[n].data.map (P.fG n))/\∀ k,k<2*us.length->P2 (S k)
def Rk {ms:List cV} (ok:EqsOk ms) (het:∀ e,e∈ms->e.x.af.length<=2^20) (hl:V.af.length<=2^20) (d:∀ t,t∈V.af->t.1.size<=maxLen):(dB (cF ms) V).af.length<=2^40/\∀ t,t∈(dB (cF ms) V).af->t.1.size<=maxLen:=by
 have c:∀ s y,cF ms s=some y->∃ e,e∈ms/\y=e.x:=by
  intro s y a;unfold cF at a;split at a
  ·next g =>
   obtain ⟨e,b,_,i⟩:=lj ((dY ms s).1 g);exact ⟨e,b,by cases a; exact i⟩
  ·cases a
 refine ⟨?_,λt ht=>?_⟩
 ·have hnf:=eQ (cF ms) V;have h1:((dB (cF ms) V).af.map (·.1)).Nodup:=cs9.2 (hnf.1.imp λh=>ko h);have h2:=kJ _ ((V.af.flatMap (tv (cF ms))).map (·.1)) h1 (λs d=>by
   obtain ⟨t,ht,rfl⟩:=ap9.1 d;obtain ⟨p,f,e⟩:=F9 ht;exact ap9.2 ⟨p,f,e⟩)
  rw [ab9,ab9] at h2;have h3:=rA (of:=cF ms) (B:=2^20) bH (λs y a=>by
   obtain ⟨e,b,rfl⟩:=c s y a;exact het e b) V.af
  exact cd9 h2 (cd9 h3 (cd9 (cz9 _ hl) bH))
 ·rcases qC ht with ⟨p,f,b,_⟩ | ⟨p,y,u,_,a,j,b⟩
  ·rw [<- b]; exact d p f
  ·obtain ⟨e,k,rfl⟩:=c _ _ a;rw [<- b]; exact ok.ts e k u j
def aaa {x:bK} (g:Good x) (h:x.af.length<=2^20):GU x :=
 ⟨g.nf,g.num,h,λt ht=>by
  have:=BV (g.K9 t ht)
  have a:2000<=maxLen:=bH
  omega⟩
def IJ.qz {us:List cm} (s:IJ us) (r:F0 us) (a:c∈us) {x:bK} (b:x∈cR c):GU x :=
 aaa (Cl (r.right c a) (s.num c a) x b) (s.len a b)
def G0 {us:List cm} (s:IJ us) (r:F0 us) (lb:RO H) {u:cm} (f:u∈us) {n:Nat} (i:tg H n u=none) {l:List cB} (hl:l=u.text\/l=u.data) {ws:List (bC × cB)} (h:ws.map (·.2)=l.map (H.fG n)):KP ws/\ws.length<=2^20:=by
 have hb':=yy i;have h2:=(r.bi f).2;refine ⟨λy c=>?_,?_⟩
 ·have h1:y.2∈l.map (H.fG n):=by rw [<- h]; exact ay9 c
  obtain ⟨x,b,j⟩:=ap9.1 h1;have a:H.bad n x.e=none:=by
   rcases hl with rfl | rfl
   ·exact hb'.1 x b
   ·exact hb'.2.1 x b
  have d:x.e∈cR u:=by
   unfold cR;simp only [List.mem_append];rcases hl with rfl | rfl
   ·exact .inl (.inl (ay9 b))
   ·exact .inl (.inr (ay9 b))
  have g:=s.qz r f d;have c:y.2.e=H.lin n x.e:=by rw [<- j]; rfl
  rw [c];exact ⟨cd9 (AH a) g.len,jB g.num,Q5 lb a⟩
 ·have:=as9 List.length h
  rw [ab9,ab9] at this;rcases hl with rfl | rfl <;> omega
def ON {D:List (Xaa × bK)} {es:List cV} (h:es.map fQ=D) {i:Nat} (hi:i<es.length) (h1:lK (dG es) es[i].name) (h2:∀ j,(a:j<i)->¬ lK (dG es) es[j].name):mR D=some i:=by
 classical
 have b:dG (fl D)=dG es:=CM (by rw [qY,h]);have hl:D.length=es.length:=by rw [<- h,ab9]
 have hn:∀ j,(a:j<es.length)->(D[j]'ad).1=es[j].name:=by
  intro j a;subst h;rw [aj9] <;> rfl
 unfold mR;rw [bf9];refine ⟨ad,?_,λj a=>?_⟩
 ·refine ak9 ?_;rw [b,hn i hi];exact h1
 ·intro hd;have hd:=ai9 hd;rw [b,hn j ad] at hd;exact h2 j a hd
def On {D:List (Xaa × bK)} {es:List cV} (h:es.map fQ=D) (h2:∀ v,¬ lK (dG es) v):mR D=none:=by
 have a:dG (fl D)=dG es:=CM (by rw [qY,h]);unfold mR;rw [bz9];intro x b;rw [decide_eq_false_iff_not,a];exact h2 _
def QA {D:List (Xaa × bK)} {es ms:List cV} (h:es.map fQ=D) (a:ms.map (λm=>(m.name,m.x))=es.map (λe=>(e.name,fy es e.name))):cF ms=cF (fl (jF D)):=by
 refine HT ?_;rw [qY];show ms.map (λm=>(m.name,m.x))=_;rw [a];unfold jF;have b:fy (fl D)=fy es:=LD (by rw [qY,h]);rw [b,<- h,bg9] <;> rfl
def Tt {Z J1:List Xab->Hp->Prop} {h0 h:Hp} {A B:Nat} {w:LW} {usl lb:bC} {S:Nat->lM} {us:List cm} {m t:bC}
  (hA:h0.size<=A) (L:A<B) (e0:Ext h0 h) (U:br h A 77 [vI 0,vI 0,.string ⟨#[]⟩]) (s:r5 h B w usl lb ((nG us:Nat):Int) us.length (2*us.length) S)
  (M:Eu h (B+4) m t (oO w us) ((eK 0 us).map jN)) (r:F0 us) (sm:IJ us) (i0:WI w (cr 0 us) ((eK 0 us).map jN)) (V:fX w 0 us=none)
  (W:∀ n,(hn:n<us.length)->(S (2*n)).ws.map (·.2)=us[n].text.map (w.fG n)/\(S (2*n+1)).ws.map (·.2)=us[n].data.map (w.fG n))
  (x:nB us=match mR (oO w us) with
    | some i=>.error ⟨24,((eK 0 us).map λq=>(q.1,q.2.1)).getD i (0,dZ) |>.1,((eK 0 us).map λq=>(q.1,q.2.1)).getD i (0,dZ) |>.2⟩
    | none=>.ok ⟨w,us,oO w us⟩) :
  Yh ⟨A,0,none⟩ ⟨B+3,0,none⟩ m.p m.l m.c t.p t.l t.c [Z,J1] (Pr h0 us) h:=by
 unfold Yh aR aK cv aS;obtain ⟨⟨es,o,b⟩,y⟩:=M;have eo:=WX r sm i0 V b;have hl:es.length=(eK 0 us).length:=by
  have:=as9 List.length b
  unfold oO at this;simpa using this
 have hl2:=r.eqs;refine aG (HH (c:=m.c) (EE o) eo (λi hi=>(o.out.cj hi).2) ad) ?_;rintro _ h1 ⟨N,g⟩;rcases N with ⟨i,hi,O,z,rfl⟩ | ⟨C,p',l',c',ms,rfl,P,D⟩
 ·refine ⟨((none,0,0),(i:Int),(24:Int),()),rfl,ak ?_⟩;refine bU rfl ?_;have y1:=y.aj g ai;have hkl:t.l=(eK 0 us).length:=by have:=y.1; rwa [ab9,ab9] at this
  have E:i<(eK 0 us).length:=ad
  obtain ⟨a,X,hc⟩:=y1.cells (i:=i) (by rw [ab9,ab9]; exact E);rw [aj9,aj9] at hc;generalize N:(eK 0 us)[i]=q at hc;have hc:aH h1 (a.add (i*2)) 0 [vI (q.1:Int),.string q.2.1]:=hc;refine bM X ?_;rw [cg i];refine ar ((q.1:Int),()) (fk 1 _ 0 hc) (ak ?_);refine bM X ?_;have F:aH h1 ((a.add (i*2)).add 1) 0 [.string q.2.1]:=jL _ 1 0 (iK 1 _ 0 hc);refine ar (q.2.1,()) F (ak ?_);refine ⟨⟨F,fk 1 _ 0 hc,trivial⟩,?_⟩;refine bJ (U.aj g ai) ?_;intro h2 Q G z2;have Q:br h2 A 77 [vI 24,vI (q.1:Int),.string q.2.1]:=Q;refine ay Q ((24:Int),(q.1:Int),q.2.1,()) ?_;refine ⟨bS (e0.trans g) G,?_⟩;rw [x,ON b hi O z];have hg:((eK 0 us).map λq=>(q.1,q.2.1)).getD i (0,dZ)=(q.1,q.2.1):=by
   rw [cg9,cl9,ad9 E,N] <;> rfl
  simp only [hg] <;> rfl
 ·refine ⟨((p',l',c'),(0:Int),(0:Int),()),rfl,ak ?_⟩;refine bX rfl ?_;obtain ⟨R,G,k3,k4⟩:=NQ eo C D ad;have hmany:=r.many;have e:∀ j,j<2*us.length->KP (S j).ws/\(S j).ws.length<=2^20:=by
   intro j hj;have hn:j / 2<us.length:=ad
   have hbn:=kz us 0 V (j / 2) hn;rw [by9] at hbn;have hSn:=W (j / 2) hn
   by_cases h2:j % 2=0
   ·have:j=2*(j / 2):=ad
    rw [this];exact G0 sm r (r.Lf i0) (ah9 hn) hbn (.inl rfl) hSn.1
   ·have:j=2*(j / 2)+1:=ad
    rw [this];exact G0 sm r (r.Lf i0) (ah9 hn) hbn (.inr rfl) hSn.2
  refine Un hA L (e0.trans g) (U.aj g ai) (s.ext g) ⟨P,R,G,k3,k4⟩ ad e ?_
  ·intro h' J E' s' d;refine ⟨E',?_⟩;rw [x,On b C];refine ⟨B,usl,lb,J,ad,rfl,s',λn hn=>?_,λk hk=>?_⟩
   rotate_left
   ·have hd:=(d k).2;rw [ag9 hk] at hd;obtain ⟨K,q2⟩:=e k hk;have Y:(J k).ws.length=(S k).ws.length:=by
     have:=as9 List.length hd
     rwa [ab9,ab9] at this
    have f:∀ u,u∈(J k).ws->∃ v,v∈(S k).ws/\u.2=sJ (cF ms) v.2:=by
     intro u H;have h1:u.2∈(S k).ws.map (λu=>sJ (cF ms) u.2):=by rw [<- hd]; exact ay9 H
     obtain ⟨v,hv,I⟩:=ap9.1 h1;exact ⟨v,hv,I.symm⟩
    refine ⟨ad,λu H=>?_,λu H=>?_⟩
    ·obtain ⟨v,hv,I⟩:=f u H;rw [I];exact (Rk R G (K v hv).1 (K v hv).2.2).1
    ·obtain ⟨v,hv,I⟩:=f u H;rw [I];exact (Rk R G (K v hv).1 (K v hv).2.2).2
   have hSn:=W n hn;have hlo:=QA b D;have hd:∀ (k:Nat) (l:List cB),k<2*us.length->(S k).ws.map (·.2)=l.map (w.fG n)->(J k).ws.map (·.2)=l.map ((⟨w,us,oO w us⟩:LP).fG n):=by
    intro k l hk hl
    have:=(d k).2
    rw [ag9 hk] at this;rw [this,show (S k).ws.map (λu=>sJ (cF ms) u.2)=((S k).ws.map (·.2)).map (sJ (cF ms)) by rw [bg9]; rfl,hl,bg9,hlo] <;> rfl
   exact ⟨hd _ _ ad hSn.1,hd _ _ ad hSn.2⟩
def Q2 (w:LW) (us:List cm) (u:cm):oO w (us++[u])=oO w us++u.bi.map λe=>(w.word (us.length,e.1),w.lin us.length e.2):=by
 unfold oO;rw [te,ao9,bg9,by9] <;> rfl
def Nq (us:List cm) (u:cm):(eK 0 (us++[u])).map jN=(eK 0 us).map jN++u.bi.map λe=>(us.length,e.1):=by
 rw [te,ao9,bg9,by9] <;> rfl
def JM (us:List cm) (u:cm):nG (us++[u])=nG us+kO u.text:=by
 unfold nG
 simp
theorem H9:∀ us:List cm,nG us<=wH us
 | []=>by simp [nG,wH]
 | u::us=>by
  have h1:=H9 us;have h2:=A6 u.text;unfold nG wH at *;simp only [List.map_cons,List.sum_cons];omega
def JD (us:List cm) (n:Nat):nG (us.take n)<=nG us:=by
 have h:us=us.take n++us.drop n:=(cc9 n us).symm
 conv=>rhs; rw [h]
 unfold nG;rw [ao9,List.sum_append];omega
def PN (us:List cm) (n:Nat):(eK 0 (us.take n)).length<=(eK 0 us).length:=by
 have e:∀ (a b:List cm) (k:Nat),eK k (a++b)=eK k a++eK (k+a.length) b:=by
  intro a
  induction a with
  | nil=>intro b k; simp [eK]
  | cons x a c =>
   intro b k;rw [fc9,eK,eK,c,az9,cn9,show k+1+a.length=k+(a.length+1) from ad]
 have h:=e (us.take n) (us.drop n) 0;rw [cc9] at h;rw [h,ae9];omega
def To {J0:List Xab->Hp->Prop} {h0 h:Hp} {A B:Nat} {lb:bC} {us:List cm} {pp:Xac} {Z cc:Nat}
  (pw:eU h0) (K:zY h0) (hA:h0.size<=A) (m:A<B) (e0:Ext h0 h) (o:br h A 77 [vI 0,vI 0,.string ⟨#[]⟩]) (s:Gi h B mG lb 0 H)
  (v:xZ h0 pp Z us) (r:F0 us) (sm:IJ us) (i0:WI H (cr 0 us) ((eK 0 us).map jN))
  (f:nB us=match fX H 0 us with
   | some q=>.error ⟨23,q.1,q.2⟩
   | none=>match mR (oO H us) with
    | some i=>.error ⟨24,((eK 0 us).map λq=>(q.1,q.2.1)).getD i (0,dZ) |>.1,((eK 0 us).map λq=>(q.1,q.2.1)).getD i (0,dZ) |>.2⟩
    | none=>.ok ⟨H,us,oO H us⟩) :
  X' ⟨A,0,none⟩ ⟨B+3,0,none⟩ none pp Z cc [J0] (Pr h0 us) h:=by
 unfold X' aR bz aK bm aS fH;have hll:=v.len;have hmany:=r.many;have hlwb:=r.Lf i0;have s0:r5 h B H mG lb ((0:Nat):Int) 0 (2*0) (λ_=>ZM):=⟨s.box,s.maps,s.rF,SL.nil _ _ _ _,mK.nil _ _ _⟩
 refine aM (cs:=RY) (λy m' h'=>∃ (n:Nat) (usl t z:bC) (S:Nat->lM),y.1=none/\y.2.1=(t.p,t.l,t.c)/\y.2.2.1=(z.p,z.l,z.c)/\y.2.2.2.1=(n:Int)/\n<=us.length/\m'=us.length-n/\Ext h0 h'/\br h' A 77 [vI 0,vI 0,.string ⟨#[]⟩]/\r5 h' B H usl lb ((nG (us.take n):Nat):Int) n (2*n) S /\
   Eu h' (B+4) t z (oO H (us.take n)) ((eK 0 (us.take n)).map jN)/\fX H 0 us=fX H n (us.drop n)/\∀ j,(hj:j<n)->(J:j<us.length)->(S (2*j)).ws.map (·.2)=us[j].text.map (H.fG j)/\(S (2*j+1)).ws.map (·.2)=us[j].data.map (H.fG j))
  (none,(none,0,0),(none,0,0),(0:Int),()) us.length rfl
  ⟨0,mG,mG,mG,λ_=>ZM,rfl,rfl,rfl,rfl,ad,ad,e0,o,by simpa [nG] using s0,⟨⟨[],⟨SL.nil _ _ _ _,ai,List.Pairwise.nil,ai⟩,rfl⟩,SL.nil _ _ _ _⟩,rfl,by intro j hj; omega⟩ ?_
 clear e0 o s s0;rintro ⟨p13,⟨p14,l15,l16⟩,⟨p17,l18,l19⟩,n20,⟨⟩⟩ m' h1 ⟨n,usl,t,z,S,C,D,F,G,hnl,rfl,L,o,s,g,b,hS⟩;simp only [Prod.mk.injEq] at C D F G;obtain ⟨rfl,rfl,rfl⟩:=D;obtain ⟨rfl,rfl,rfl⟩:=F;subst C G;refine ak ?_;refine aI ?_ ?_<;>intro q
 ·have d:n<us.length:=ad
  obtain ⟨a,M,N,O,P,ha,hc,hu⟩:=v.cells n d;have hmem:=ah9 d;have k:us.take (n+1)=us.take n++[us[n]]:=af9 d;have Q:(us.take n).length=n:=by rw [au9]; omega
  rw [B2 H us n d] at b;have hre:=r.bi hmem;have hrr:=r.right _ hmem;have hgood:=λx J=>sm.qz r hmem (x:=x) J
  have hsu:=JD us n;have hsu2:=H9 us;have hit:=sm.items;have hek:=PN us n;have hek2:=r.eqs;generalize R:us[n]=u at hc hu k b hre hrr hgood;refine bM ha ?_;rw [cg n];refine ar ((M.p,M.l,M.c),(N.p,N.l,N.c),(O.p,O.l,O.c),(P.p,P.l,P.c),()) (aP L ai _ _ hc) (ak ?_);refine S8 rfl rfl pw K hA m L o s hlwb g hu hgood hrr ad ad ad (by unfold oO; rw [ab9]; omega) (by rw [ab9]; omega) ad ad ?_ ?_
  ·intro h' q E hq;refine ⟨E,?_⟩;rw [hq] at b;rw [f,b]
  ·intro h' U V I S' E W s' X hb e h1 h2;rw [hb] at b;refine ⟨us.length-(n+1),ad,n+1,I,U,V,S',rfl,rfl,rfl,rfl,ad,rfl,E,W,?_,?_,b,λj hj J=>?_⟩
   ·rw [k,JM];exact s'
   ·rw [k,Q2,Nq,Q];exact X
   ·by_cases Y:j=n
    ·subst Y;rw [R];exact ⟨h1,h2⟩
    ·rw [e _ ad,e _ ad];exact hS j ad J
 ·have hn:n=us.length:=ad
  subst hn;rw [dl9 (am9 _)] at b;rw [bo9 (am9 _)] at s g;have b:fX H 0 us=none:=b;rw [b] at f;exact Tt hA m L o s g r sm i0 b (λn hn=>hS n hn hn) f
def Uq (pw:eU O) (E:zY O) {l c:Nat} {us:List cm} (v:xZ O U l us) (sm:IJ us):HC Xaz 21 #[.slice U l c] O (Pr O us):=by
 refine aX (args:=[.slice U l c]) mixed Tryz.func21 av (Bd U l c) ?_;unfold zT aR aY bz aK cY cv dp bm bZ aS cH;have hll:=v.len;have hmany:=v.many;refine bn ?_;intro h1 R S z1;refine ao ?_ ?_<;>intro q
 ·have q:l=0:=by
   have:=ai9 q
   omega
  refine bJ R ?_;intro h2 d Y z2;have d:br h2 O.size 77 [vI 25,vI 0,.string ⟨#[]⟩]:=d;refine ay d ((25:Int),(0:Int),(⟨#[]⟩:Xaa),()) ?_;refine ⟨bS S Y,?_⟩;unfold nB;rw [ag9 ad] <;> rfl
 have g:¬ us.length=0:=by
  have:=aw9 q
  omega
 refine ao ?_ ?_<;>intro q
 ·have q:=ai9 q;refine bJ R ?_;intro h2 d Y z2;have d:br h2 O.size 77 [vI 4,vI 0,.string ⟨#[]⟩]:=d;refine ay d ((4:Int),(0:Int),(⟨#[]⟩:Xaa),()) ?_;refine ⟨bS S Y,?_⟩;unfold nB;rw [ac9 g,ag9 ad] <;> rfl
 have e:¬ 64<us.length:=by
  have:=aw9 q
  omega
 have F:∀ n,us.findIdx? (λu=>decide (fC u≠0))=some n->nB us=.error ⟨31,n,dZ⟩:=by
  intro n hn;unfold nB;rw [ac9 g,ac9 e,hn]
 refine aM (cs:=[(false,[.pointer 0]),(false,[.int .i64])]) (λy m' h'=>∃ n:Nat,y.1=none/\y.2.1=(n:Int)/\n<=us.length/\m'=us.length-n/\Ext O h'/\br h' O.size 77 [vI 0,vI 0,.string ⟨#[]⟩]/\∀ j,(k:j<n)->(hx:j<us.length)->fC us[j]=0) (none,(0:Int),()) us.length rfl
  ⟨0,rfl,rfl,ad,ad,S,R,by intro j k; omega⟩ ?_
 clear S R;rintro ⟨p2,n3,⟨⟩⟩ m' h2 ⟨n,G,H,hnl,rfl,I,d,m⟩;simp only at G H;subst G H;refine ak ?_;refine aI ?_ ?_<;>intro q
 ·have J:n<us.length:=ad
  obtain ⟨a,o,s,t,x,ha,hc,K⟩:=v.cells n J;refine bM ha ?_;rw [cg n];refine ar ((o.p,o.l,o.c),(s.p,s.l,s.c),(t.p,t.l,t.c),(x.p,x.l,x.c),()) (aP I ai _ _ hc) (ak ?_);refine bn ?_;intro h3 Z e3 z3;refine bJ Z ?_;intro h4 b4 k4 z4;have b4:br h4 h2.size 70 [o.v,s.v,t.v,x.v]:=b4;have L:Ext h2 h4:=bS e3 k4;have e04:=I.trans L;refine ay b4 ((o.p,o.l,o.c),(s.p,s.l,s.c),(t.p,t.l,t.c),(x.p,x.l,x.c),()) (ak ?_);refine aG (xE (E.aj e04 ai) (K.aj e04)) ?_;rintro _ h5 ⟨rfl,C⟩;refine ⟨(((fC us[n]:Nat):Int),()),rfl,ak ?_⟩;have b5:=d.aj (L.trans C) ai;have e05:=e04.trans C;refine ao ?_ ?_<;>intro q
  ·have hne:fC us[n]≠0:=by
    intro h0;rw [h0] at q;exact absurd q bH
   refine bJ b5 ?_;intro h6 D k6 z6;have D:br h6 O.size 77 [vI 31,vI (n:Int),.string ⟨#[]⟩]:=D;refine ay D ((31:Int),(n:Int),(⟨#[]⟩:Xaa),()) ?_;refine ⟨bS e05 k6,?_⟩;rw [F n (by
    rw [bf9];exact ⟨J,ak9 hne,λj k=>by rw [m j k ad]; decide⟩)]
   rfl
  ·have hz:fC us[n]=0:=by
    have hb:(((fC us[n]:Nat):Int) != 0)=false:=q
    by_cases h0:fC us[n]=0
    ·exact h0
    ·have:(((fC us[n]:Nat):Int) != 0)=true:=by
      rw [bne_iff_ne];omega
     rw [this] at hb;cases hb
   have hw:=gK n;rw [hw];refine aC (cs:=[(false,[.pointer 0]),(false,[.int .i64])]) (none,((n+1:Nat):Int),()) (us.length-(n+1)) rfl ad rfl ⟨n+1,rfl,rfl,ad,rfl,e05,b5,λj k hx=>?_⟩
   by_cases hjn:j=n
   ·subst hjn; exact hz
   ·exact m j ad hx
 ·have hn:n=us.length:=ad
  subst hn;have r:F0 us:=⟨λu K=>by
   obtain ⟨j,k,rfl⟩:=bh9 K;exact m j k k,ad⟩
  have M:us.findIdx? (λu=>decide (fC u≠0))=none:=by
   rw [bz9];intro u K;rw [r.right u K];decide
  have q2:=d.lt;refine EQ (kv:=FY) (en:=eI) ?_;intro h3 m3 e3 z3;refine EQ (kv:=FY) (en:=eI) ?_;intro h4 m4 e4 z4;refine zX (en:=eI) ?_;intro h5 m5 C z5;refine bn ?_;intro h6 D V z6;have e26:=((e3.trans e4).trans C).trans V;have N:h4.size=h2.size+2:=ad
  have P:h5.size=h2.size+3:=ad
  rw [z3] at m4;rw [N] at m5;rw [P,z3,N] at D;rw [P];have p6:Gi h6 h2.size mG mG 0 VI:=⟨D,⟨((m3.aj e4 ai).aj C ai).aj V ai,(m4.aj C ai).aj V ai,m5.aj V ai⟩,SL.nil _ _ _ _⟩
  have v2:=v.aj I;have hit:=sm.items;refine aG (I0 (c:=c) rfl e26 p6 v2 (by show 0+wH us<=_; omega) ad rfl) ?_;rintro _ h7 ⟨rfl,lb7,p7,e7⟩;refine ⟨(),rfl,ak ?_⟩;refine aG (Mu (c:=c) rfl e7 p7 v2 ad) ?_;rintro _ h8 ⟨W,X⟩;have b28:=d.aj W ai;have z8:=W.size;have w0:=VM r.right;cases Q:lV 0 us (oD 0 us VI) with
  | error q =>
   rw [Q] at X;subst X;refine ⟨((22:Int),(q.1:Int),q.2,true,()),rfl,ak ?_⟩;refine bn ?_;intro h9 z e9 z9;refine bJ z ?_;intro h10 f A z10;have f:br h10 h8.size 77 [vI 22,vI (q.1:Int),.string q.2]:=f;have b:Ext h8 h10:=bS e9 A;refine bU rfl ?_;refine ay f ((22:Int),(q.1:Int),q.2,()) ?_;refine ⟨⟨f.cells _ rfl,trivial⟩,?_⟩;refine bJ (b28.aj b ai) ?_;intro h11 B k11 z11;have B:br h11 O.size 77 [vI 22,vI (q.1:Int),.string q.2]:=B;refine ay B ((22:Int),(q.1:Int),q.2,()) ?_;refine ⟨bS ((I.trans W).trans b) k11,?_⟩;unfold nB;rw [ac9 g,ac9 e,M];simp only [Q] <;> rfl
  | ok w =>
   rw [Q] at X;obtain ⟨rfl,p8⟩:=X;refine ⟨((0:Int),(0:Int),(⟨#[]⟩:Xaa),false,()),rfl,ak ?_⟩;refine bn ?_;intro h9 z e9 z9;refine bJ z ?_;intro h10 f A z10;have b:Ext h8 h10:=bS e9 A;refine bX rfl ?_;have e010:=(I.trans W).trans b;refine To (cc:=c) pw E (am9 _) q2 e010 (b28.aj b ai) (p8.aj b) v r sm (w0.meet Q) ?_;unfold nB;rw [ac9 g,ac9 e,M];simp only [Q];cases fX w 0 us with
   | some q=>rfl
   | none =>
    cases mR (oO w us) with
    | some i=>rfl
    | none=>rfl
end Go.Sx.Lk
