/- Contracts over heaps, part 4. Condition: as each statement says. -/
import Derived.Test.YtlpcncdglfjnoaaGreatDoorP3
import Derived.Test.YtlpcncdglfjnoaaGreatDoorBtG
set_option linter.all false
set_option maxRecDepth 100000
set_option maxHeartbeats 4000000
namespace Go.Sx.Lk
open Go.Proofs Go.Sx.Ob
theorem zj {h:Hp} {a:Xax}:∀ (b us:List Xab) (i:Nat),aI h a i b->aI h a (i+b.length) us->aI h a i (b++us)
 | [],us,i,_,h2=>by simpa using h2
 | v::b,us,i,h1,h2=>⟨h1.1,zj b us (i+1) h1.2 (by rw [Z1] at h2; rw [show i+1+b.length=i+(b.length+1) from ad]; exact h2)⟩
theorem Ax {h:Hp} {a:Xax}:∀ (b:List Xab) (o i:Nat),aI h (a.add o) i b->aI h a (o+i) b
 | [],_,_,_=>trivial
 | v::b,o,i,h1=>⟨by have:=h1.1; rw [add_add] at this; exact this,Ax b o (i+1) h1.2⟩
theorem jr {h:Hp} {a:Xax} {sz:Nat}:∀ (b:List (List Xab)) (k:Nat),(∀ x,x∈b->x.length=sz)->(∀ i,(hi:i<b.length)->aI h (a.add ((k+i)*sz)) 0 b[i])->aI h a (k*sz) b.flatten
 | [],_,_,_=>trivial
 | x::b,k,hl,hc=>by
  rw [bj9];refine zj _ _ _ ?_ ?_
  ·have:=hc 0 aj
   rw [cc9] at this;exact Ax _ _ 0 this
  ·rw [hl x aj,<- Nat.succ_mul];exact jr b (k+1) (fun y c=>hl y (by simp [c])) (fun i hi=>by
    have:=hc (i+1) (by simpa using hi)
    rw [show k+1+i=k+(i+1) from ad];exact this)
structure VF (h:Hp) (p:Xac) (l:Nat) (ws:List (cd × cH)):Prop where
 len:l=ws.length
 cells:∀ i,(hi:i<ws.length)->∃ a,p=some a/\aI h (a.add (i*10)) 0 (oc ws[i])
theorem zo {α β:Type} (R:α->β->Prop):∀ (us:List α),(∀ i,(hi:i<us.length)->∃ b,R us[i] b)->∃ a:List β,a.length=us.length/\∀ i,(hi:i<us.length)->(d:i<a.length)->R us[i] a[i]
 | [],_=>⟨[],rfl,fun i hi=>by simp at hi⟩
 | u::us,h=>by
  obtain ⟨b,d⟩:=h 0 aj;obtain ⟨a,hl,e⟩:=zo R us (fun i hi=>h (i+1) (by simpa using hi));refine ⟨b::a,by simp [hl],fun i hi c=>?_⟩
  match i with
  | 0=>exact d
  | i+1=>exact e i (by simpa using hi) (by simpa using c)
variable {H:Hp} {I:Xac} {O:Nat}
def Eh {us:List cH} (v:zV H I O us):∃ ws:List (cd × cH),ws.map (·.2)=us/\VF H I O ws/\∀ u,u∈ws->nu H u.1.p u.1.l u.2:=by
 have d:∀ i,(hi:i<(List.range us.length).length)->∃ s:cd,∀ o:(List.range us.length)[i]<us.length,∃ a,I=some a/\aI H (a.add ((List.range us.length)[i]*10)) 0 (Ob.encI s.p s.l s.c us[(List.range us.length)[i]])/\nu H s.p s.l us[(List.range us.length)[i]]:=by
  intro i hi;have f:i<us.length:=by simpa using hi
  obtain ⟨a,q,m,c,e,hc,hv⟩:=v.cells i f;refine ⟨⟨q,m,c⟩,fun o=>⟨a,e,?_,?_⟩⟩
  ·simp only [List.getElem_range]; exact hc
  ·simp only [List.getElem_range]; exact hv
 obtain ⟨g,k,r⟩:=zo (fun (j:Nat) (s:cd)=>∀ o:j<us.length,∃ a,I=some a/\aI H (a.add (j*10)) 0 (Ob.encI s.p s.l s.c us[j])/\nu H s.p s.l us[j]) (List.range us.length) d;rw [as9] at k;have n:(g.zip us).map (·.2)=us:=by rw [List.map_snd_zip ad]
 have b:(g.zip us).length=us.length:=by rw [List.length_zip]; omega
 refine ⟨g.zip us,n,⟨by rw [b]; exact v.len,fun i hi=>?_⟩,fun u t=>?_⟩
 ·rw [b] at hi;have h1:=r i (by simpa using hi) ad;simp only [List.getElem_range] at h1;obtain ⟨a,e,hc,_⟩:=h1 hi;refine ⟨a,e,?_⟩;rw [List.getElem_zip];exact hc
 ·obtain ⟨i,hi,rfl⟩:=Zt t;rw [b] at hi;have h1:=r i (by simpa using hi) ad;simp only [List.getElem_range] at h1;obtain ⟨a,e,_,hv⟩:=h1 hi;rw [List.getElem_zip];exact hv
def qo (ws:List (cd × cH)):(ws.map oc).flatten.all da=true:=by
 rw [Zx];intro v hv;obtain ⟨x,a,hv⟩:=bn9.1 hv;obtain ⟨t,_,rfl⟩:=Y9.1 a;simp only [oc,Ob.encI,List.mem_cons,List.not_mem_nil,or_false] at hv;rcases hv with rfl | rfl | rfl | rfl | rfl | rfl | rfl | rfl | rfl | rfl <;> rfl
def pJ (ws:List (cd × cH)):∀ y,y∈ws.map oc->y.length=10:=by
 intro y a;obtain ⟨u,_,rfl⟩:=Y9.1 a;rfl
def VF.src {ws:List (cd × cH)} (v:VF H I O ws):(I=none/\ws.map oc=[])\/∃ a,I=some a/\aI H a 0 (ws.map oc).flatten:=by
 cases I with
 | none =>
  left
  refine ⟨rfl,?_⟩;cases ws with
  | nil=>rfl
  | cons u us =>
   obtain ⟨a,b,_⟩:=v.cells 0 aj;cases b
 | some a =>
  refine .inr ⟨a,rfl,?_⟩
  have:=jr (h:=H) (a:=a) (sz:=10) (ws.map oc) 0 (pJ ws) (fun i hi=>by
   rw [YY] at hi;obtain ⟨a',b,hc⟩:=v.cells i hi;cases b;rw [Y7,ZH];exact hc)
  rwa [cx9] at this
def DB {c:Nat} {ws:List (cd × cH)} (v:VF H I O ws) (hl:ws.length<=2^30) :
  HC Xaz 53 #[.slice I O c] H fun w h'=>(∃ p' c',w=.slice p' O c'/\SL h' H.size 64 10 p' O c' (ws.map oc))/\Ext H h':=by
 refine bi (args:=[.slice I O c]) mixed Tryz.func53 aw (gM I O c) ?_;unfold eJ aT aS;have hll:=v.len;cases I with
 | none =>
  rcases v.src with ⟨_,h2⟩ | ⟨a,b,_⟩
  ·refine cL rfl ?_
   have:ws=[]:=by simpa using h2
   subst this;subst hll;exact ⟨⟨none,0,rfl,SL.nil _ _ _ _⟩,Ch.refl _ _⟩
  ·cases b
 | some a =>
  refine cC rfl ?_;refine nt (e:=64) (z:=.agg iz.toArray) (sz:=10) (by':=104) yS CM rfl v.src (by simpa using hll) (pJ ws) (qo ws) ad ad ?_;intro p' c' h' f g;exact ⟨⟨p',c',rfl,f⟩,g⟩
structure YJ (h:Hp) (b B:Nat) (p:Xac) (l c:Nat) (ws:List (cd × cH)):Prop where
 out:SL h b 64 10 p l c (ws.map oc)
 lt:∀ i,i∈aF p->i<B
 fI:∀ u,u∈ws->SL h B 66 2 u.1.p u.1.l u.1.c (u.2.e.ah.map dh)
def _root_.Go.Sx.Ob.LW.zR (w:LW) (u:Nat) (us:List cH):Option Xaa:=us.findSome? fun x=>w.bad u x.e
def _root_.Go.Sx.Ob.LW.fN (w:LW) (u:Nat) (x:cH):cH:={ x with e:=w.lin u x.e }
def VJ (w:LW) (u:Nat) (us:List cH) (l:Nat) (h:Hp) (v:Xab) (h':Hp):Prop :=
 Ext h h'/\match w.zR u us with
 | some s=>v=.tuple #[.slice none 0 0,.string s,.bool false]
 | none=>∃ p c B ws,v=.tuple #[.slice p l c,.string ⟨#[]⟩,.bool true]/\YJ h' h.size B p l c ws/\h.size<=B/\ws.map (·.2)=us.map (w.fN u)
theorem J9 (w:LW) (u:Nat):∀ (us:List cH) (i:Nat) (hi:i<us.length) (s:Xaa),(∀ j,(b:j<i)->w.bad u (us[j]'ad).e=none)->w.bad u us[i].e=some s->w.zR u us=some s
 | [],i,hi,_,_,_=>by simp at hi
 | a::l,0,hi,s,_,h=>by unfold Ob.LW.zR; simp at h; simp [h]
 | a::l,i+1,hi,s,h0,h=>by
  have c:w.bad u a.e=none:=h0 0 ad;have ih:=J9 w u l i (by simpa using hi) s (fun j b=>h0 (j+1) ad) (by simpa using h);unfold Ob.LW.zR at ih ⊢;rw [List.findSome?_cons,c];exact ih
def Mf (w:LW) (u:Nat) (us:List cH) (h:∀ j,(a:j<us.length)->w.bad u us[j].e=none):w.zR u us=none:=by
 unfold Ob.LW.zR;rw [Z4];intro x b;obtain ⟨j,a,rfl⟩:=Zt b;exact h j a
section
variable {h:Hp} {g gN gE gG:Nat} {us lb:cd} {sp:Int} {w:LW}
def Ar (pw:iV h) (b:Qm h g us lb gN gE gG sp) (m:LM h gN gE gG w) (lb':Qq w) (u:Nat) {p:Xac} {l c:Nat} {d:List cH} (v:zV h p l d) (hn:d.length<=2^20) (gx:∀ x,x∈d->FT x.e) :
  HC Xaz 45 #[ptr g,vI (u:Int),.slice p l c] h (VJ w u d l h):=by
 refine bi (args:=[ptr g,vI (u:Int),.slice p l c]) mixed Tryz.func45 aw (oz (some ⟨g,0,none⟩) u p l c) ?_;unfold jG aY bj bn ay bz ax bK aS cm aK cr dp;have hll:=v.len;obtain ⟨ws,I,vd,hit⟩:=Eh v;have hwl:ws.length=d.length:=by rw [<- I,YY]
 refine aJ (DB (c:=c) vd ad) ?_;rintro _ h1 ⟨⟨p3,c3,rfl,s3⟩,e1⟩;refine ⟨((p3,l,c3),()),rfl,ak ?_⟩;have k:∀ i,i∈aF p3->h.size<=i/\i<h1.size:=fun i hi=>s3.cj hi
 refine aU (cs:=V7) (fun y m' h'=>∃ (i:Nat) (f:List (cd × cH)),y.2.2.2.1=(i:Int)/\i<=l/\m'=l-i/\Ch (aF p3) h1 h'/\f.length=l/\SL h' h.size 64 10 p3 l c3 (f.map oc) /\
   (∀ j,(r:j<i)->(hv:j<f.length)->SL h' h1.size 66 2 f[j].1.p f[j].1.l f[j].1.c (f[j].2.e.ah.map dh))/\f.map (·.2)=(d.take i).map (w.fN u)++d.drop i/\∀ j,(r:j<i)->(V:j<d.length)->w.bad u d[j].e=none)
  ((none,0,0),(⟨#[]⟩:Xaa),false,(0:Int),()) l rfl ⟨0,ws,rfl,ad,ad,Ch.refl _ _,ad,s3,by intro j r; omega,by simpa using I,by intro j r; omega⟩ ?_
 rintro ⟨p6,s9,b10,n11,⟨⟩⟩ m' h2 ⟨i,f,hi,hil,rfl,k2,hvl,s2,own,eA,B⟩;simp only at hi;subst hi;refine ak ?_;have C:Ext h h2:=Ch.trans e1 k2 (fun i hi hl=>by have:=k i hi; omega);have z1:=e1.size;have z2:=k2.size;refine aP ?_ ?_<;>intro q
 ·have t:i<d.length:=ad
  obtain ⟨aa,pp,ll,W,ha,J,K⟩:=v.cells i t;have gxi:=gx d[i] (Y5 t);have L:d.take (i+1)=d.take i++[d[i]]:=Y2 t;have D:d.drop i=d[i]::d.drop (i+1):=Zj t;generalize M:d[i]=x at J K L gxi D;refine bP ha ?_;rw [cB i];refine av (x.kind,x.name,x.inst.op,x.inst.a,x.inst.b,x.inst.n,x.inst.form,(pp,ll,W),(x.e.num:Int),x.n,()) (aX C aj _ _ J) (ak ?_);refine bG ?_;intro h3 b3 e3 z3;refine bQ b3 ?_;intro h4 X k4 z4;have X:bF h4 h2.size 64 (Ob.encI pp ll W x):=X;have E:Ext h2 h4:=bZ e3 k4;have e04:=C.trans E;rw [aC];refine az X ((pp,ll,W),(x.e.num:Int),()) (ak ?_);refine aJ (y6 (c:=W) (pw.ai e04 aj) (b.ai e04 aj) (m.ai e04 aj aj aj) lb' u (K.ai e04).lin.vw gxi) ?_;rintro _ h5 ⟨e5,Y⟩;have z4':=X.lt;have z5:=e5.size;cases Z:w.bad u x.e with
  | some s =>
   rw [Z] at Y;subst Y;refine ⟨((none,0,0),(0:Int),s,false,()),rfl,ak ?_⟩;refine bG ?_;intro h6 b6 e6 z6;refine bQ b6 ?_;intro h7 b7 k7 z7;refine cL rfl ?_;refine ⟨bZ ((e04.trans e5).trans e6) k7,?_⟩;rw [J9 w u d i t s (fun j r=>B j r ad) (by rw [M]; exact Z)]
  | none =>
   rw [Z] at Y;obtain ⟨F,G,H,rfl,s7⟩:=Y;refine ⟨((F,G,H),((w.lin u x.e).num:Int),(⟨#[]⟩:Xaa),true,()),rfl,ak ?_⟩;refine bG ?_;intro h6 b6 e6 z6;refine bQ b6 ?_;intro h7 b7 k7 z7;have b7:bF h7 h5.size 60 [.slice F G H,.int .u32 ((w.lin u x.e).num:Int)]:=b7;have N:Ext h5 h7:=bZ e6 k7;have e27:=(E.trans e5).trans N;refine cC rfl ?_;refine az b7 ((F,G,H),((w.lin u x.e).num:Int),()) (ak ?_);have s27:=s2.ai e27 aj;have z:i<f.length:=ad
   obtain ⟨a3,O⟩:∃ a3,p3=some a3:=by
    cases hp3:p3 with
    | some a=>exact ⟨a,rfl⟩
    | none =>
     rw [hp3] at s27;have h1:=s27.2.2.2;have h2:f=[]:=by simpa using h1
     rw [h2] at z;simp at z
   refine bP O ?_;refine SL.part (P:=Xaz) s27 (i:=i) (by rw [YY]; exact z) (o:=7) aj (by simp [da]) O ?_;intro h8 s8 k8 z8;have hvi:f[i].2=x:=by
    have h1:(f.map (·.2))[i]?=some f[i].2:=by rw [ZL,YZ z]; rfl
    rw [eA,ZB (by rw [YY,Zi]; omega),D] at h1;rw [YY,Zi,show i-min i d.length=0 from ad] at h1;simpa using h1.symm
   have Q:(f.map oc).set i (gK ((f.map oc)[i]'(by rw [YY]; exact z)) 7 [.slice F G H,.int .u32 ((w.lin u x.e).num:Int)])=(f.set i (⟨F,G,H⟩,w.fN u x)).map oc:=by
    rw [ce9,Y7]
    congr 1
    rcases hvv:f[i] with ⟨⟨v1,v2,v3⟩,v4⟩
    have:v4=x:=by rw [<- hvi,hvv]
    subst this;rfl
   rw [Q] at s8;have z7':h2.size<=h7.size:=e27.size;have hw:=iC i;rw [hw];refine aG (cs:=V7) (p6,s9,b10,((i+1:Nat):Int),()) (l-(i+1)) rfl ad rfl
    ⟨i+1,f.set i (⟨F,G,H⟩,w.fN u x),rfl,ad,rfl,Ch.trans (k2.trans (e27.mono aj) (fun i hi _=>hi)) k8 (fun i hi _=>hi),by rw [Z7]; exact hvl,s8,fun j r R=>?_,?_,fun j r hjx=>?_⟩
   ·have S:∀ x,h1.size<=x->x∉aF p3:=fun x h1 h2=>by have:=k x h2; omega
    by_cases A:j=i
    ·subst A;simp only [List.getElem_set_self]
     have:SL h7 h1.size 66 2 F G H ((w.fN u x).e.ah.map dh):=Sx.SL.mono (s7.ai N aj) (by have:=E.size; omega)
     exact this.br k8 (fun x V=>S x (this.cj V).1)
    ·have U:j<i:=ad
     rw [Z7] at R;simp only [List.getElem_set_ne (Ne.symm A)]
     have:=(own j U R).ai e27 aj
     exact this.br k8 (fun x V=>S x (this.cj V).1)
   ·rw [ce9,eA,L,Za,D];have hl1:((d.take i).map (w.fN u)).length=i:=by rw [YY,Zi]; omega
    rw [List.set_append_right _ _ ad,hl1,cd9,List.set_cons_zero]
    simp
   ·by_cases A:j=i
    ·subst A;rw [M]; exact Z
    ·exact B j ad hjx
 ·have hi:i=l:=ad
  subst hi;refine ⟨C,?_⟩;rw [Mf w u d (fun j r=>B j ad r)];refine ⟨p3,c3,h1.size,f,rfl,⟨s2,fun i hi=>(k i hi).2,fun u hu=>?_⟩,z1,?_⟩
  ·obtain ⟨j,r,rfl⟩:=Zt hu;exact own j ad r
  ·rw [eA,Zu ad,ar9 ad,Z2]
end
def j2 (n sec i:Nat) (x:cH) (w:LW):LW :=
 if x.kind=1 then { w with num:=zI w.num (n,x.name) w.lb.length,nn:=if (w.num (n,x.name)).isSome then w.nn else w.nn+1,lb:=w.lb++[⟨n,sec,i,x.name⟩] } else w
def jo (n sec:Nat):Nat->List cH->LW->LW
 | _,[],w=>w
 | i,x::l,w=>jo n sec (i+1) l (j2 n sec i x w)
def wx (n:Nat) (w:LW) (e:oh):LW:={ w with uV:=zI w.uV (n,e.1) w.ne,ne:=if (w.uV (n,e.1)).isSome then w.ne else w.ne+1 }
def GM (n:Nat) (u:bU) (w:LW):LW:=u.bf.foldl (wx n) (jo n 1 0 u.data (jo n 0 0 u.text w))
def oy:Nat->List bU->LW->LW
 | _,[],w=>w
 | n,u::us,w=>oy (n+1) us (GM n u w)
theorem CW (n sec:Nat) (x:cH):∀ (l:List cH) (i:Nat) (w:LW),jo n sec i (l++[x]) w=j2 n sec (i+l.length) x (jo n sec i l w)
 | [],i,w=>rfl
 | y::l,i,w=>by
  simp only [List.cons_append,jo,List.length_cons];rw [CW n sec x l (i+1) _,show i+1+l.length=i+(l.length+1) from ad]
theorem CR (u:bU):∀ (l:List bU) (n:Nat) (w:LW),oy n (l++[u]) w=GM (n+l.length) u (oy n l w)
 | [],n,w=>rfl
 | y::l,n,w=>by
  simp only [List.cons_append,oy,List.length_cons];rw [CR u l (n+1) _,show n+1+l.length=n+(l.length+1) from ad]
def HF (n sec i:Nat) (x:cH) (w:LW):(j2 n sec i x w).lb.length<=w.lb.length+1:=by
 unfold j2;split
 ·simp
 ·omega
theorem mV (n sec:Nat):∀ (l:List cH) (i:Nat) (w:LW),(jo n sec i l w).lb.length<=w.lb.length+l.length
 | [],i,w=>by simp [jo]
 | x::l,i,w=>by
  have h1:=mV n sec l (i+1) (j2 n sec i x w);have h2:=HF n sec i x w;simp only [jo,List.length_cons];omega
theorem OM (n:Nat):∀ (l:List oh) (w:LW),(l.foldl (wx n) w).lb=w.lb
 | [],w=>rfl
 | e::l,w=>by rw [ZD,OM n l]; rfl
def NU (n:Nat) (u:bU) (w:LW):(GM n u w).lb.length<=w.lb.length+(u.text.length+u.data.length):=by
 unfold GM;rw [OM];have h1:=mV n 1 u.data 0 (jo n 0 0 u.text w);have h2:=mV n 0 u.text 0 w;omega
def uu (us:List bU):Nat:=(us.map fun u=>u.text.length+u.data.length+u.bf.length+u.aQ.length).sum
theorem GY:∀ (l:List bU) (n:Nat) (w:LW),(oy n l w).lb.length<=w.lb.length+uu l
 | [],n,w=>by simp [oy,uu]
 | u::l,n,w=>by
  have h1:=GY l (n+1) (GM n u w);have h2:=NU n u w;simp only [oy,uu,List.map_cons,List.sum_cons] at *;omega
def LU (us:List bU) (i:Nat) (hi:i<us.length):uu (us.take i)+(us[i].text.length+us[i].data.length+us[i].bf.length+us[i].aQ.length)+uu (us.drop (i+1))=uu us:=by
 have:us=us.take i++us[i]::us.drop (i+1):=by rw [<- Zj hi,ZG]
 conv=>rhs; rw [this]
 unfold uu;rw [Za,List.sum_append,ZF,ZX];omega
structure Fk (h:Hp) (B:Nat) (us lb:cd) (sp:Int) (w:LW):Prop where
 box:Qm h (B+3) us lb B (B+1) (B+2) sp
 maps:LM h B (B+1) (B+2) w
 qu:SL h (B+4) 76 4 lb.p lb.l lb.c (w.lb.map nS)
def Fk.ai {h h':Hp} {B:Nat} {us lb:cd} {sp:Int} {w:LW} (s:Fk h B us lb sp w) (e:Ext h h'):Fk h' B us lb sp w :=
 ⟨s.box.ai e aj,s.maps.ai e aj aj aj,s.qu.ai e aj⟩
def Fk.lt {h:Hp} {B:Nat} {us lb:cd} {sp:Int} {w:LW} (s:Fk h B us lb sp w):B+4<=h.size:=by have:=s.box.lt; omega
def Ts:Tryz.prog.underlying 43=some (.slice 76):=aw
def We:(Tryz.prog.info? 76).map (fun i=>(i.zero,i.size,i.bytes))=some (some (.agg #[vI 0,vI 0,vI 0,.string ⟨#[]⟩]),4,40):=aw
def NL (a b c:Int) (s:Xaa):Instr.fill (fun j=>some (j*4,4)) ((Array.range (1*4)).map ((Value.agg #[vI 0,vI 0,vI 0,.string ⟨#[]⟩]).cells[· % (Value.agg #[vI 0,vI 0,vI 0,.string ⟨#[]⟩]).cells.size]!)) [(0,.agg #[vI a,vI b,vI c,.string s])]=some ([vI a,vI b,vI c,.string s]:List Xab).toArray:=aw
section
variable {h0:Hp} {B:Nat} {us:cd} {sp:Int}
def HQ {h:Hp} {lb:cd} {w:LW} (hB:h0.size=B) (e0:Ext h0 h) (s:Fk h B us lb sp w) {p:Xac} {l c:Nat} {yz:List bU} (v:wh h0 p l yz) (hlen:w.lb.length+uu yz<=2^30) (hnu:yz.length<=2^20) (hwl:lb.l=w.lb.length) :
  HC Xaz 43 #[ptr (B+3),.slice p l c] h fun x h'=>x=.tuple #[]/\∃ f,Fk h' B us f sp (oy 0 yz w)/\Ext h0 h':=by
 refine bi (args:=[ptr (B+3),.slice p l c]) mixed Tryz.func43 aw (oH (some ⟨B+3,0,none⟩) p l c) ?_;unfold jO aY bj bn ay aT bX ax bK aS cm aK;have hll:=v.len;refine aU (cs:=cn) (fun y I h'=>∃ (n:Nat) (f:cd),y.1=(n:Int)/\n<=l/\I=l-n/\Ext h0 h'/\Fk h' B us f sp (oy 0 (yz.take n) w)) ((0:Int),()) l rfl ⟨0,lb,rfl,ad,ad,e0,s⟩ ?_;clear s e0;rintro ⟨n2,⟨⟩⟩ I h1 ⟨n,lb1,hn,hnl,rfl,e1,s1⟩;simp only at hn;subst hn;refine ak ?_;refine aP ?_ ?_<;>intro q
 ·have S:n<yz.length:=ad
  obtain ⟨a,m,o,F,td,ha,hc,hu⟩:=v.cells n S;have htk:yz.take (n+1)=yz.take n++[yz[n]]:=Y2 S;have hL:=LU yz n S;have hwn:=GY (yz.take n) 0 w;generalize yz[n]=u at hc hu htk hL;generalize hw1:oy 0 (yz.take n) w=M at *;refine bP ha ?_;rw [cB n];refine av ((m.p,m.l,m.c),(o.p,o.l,o.c),(F.p,F.l,F.c),(td.p,td.l,td.c),()) (aX e1 aj _ _ hc) (ak ?_);refine bG ?_;intro h2 b2 e2 z2;refine bQ b2 ?_;intro h3 U k3 z3;have U:bF h3 h1.size 30 [m.v,o.v,F.v,td.v]:=U;have e13:Ext h1 h3:=bZ e2 k3;refine az U ((m.p,m.l,m.c),()) (ak ?_);rw [aC];refine az U ((o.p,o.l,o.c),()) (ak ?_);refine mF KH Xu ad ad (Kx m.p m.l m.c o.p o.l o.c) ?_;intro h4 b4 e4 z4;have b4:bF h4 h3.size 26 [m.v,o.v]:=b4;have e14:=e13.trans e4;have b34:=U.ai e4 aj;have l1:=s1.lt;have q3:=U.lt;have hsec:∀ k,k<2->∃ s:cd,([m.v,o.v]:List Xab).drop k=s.v::([m.v,o.v]:List Xab).drop (k+1)/\zV h0 s.p s.l (Aa u k):=by
   intro k hk
   have:k=0\/k=1:=ad
   rcases this with rfl | rfl
   ·exact ⟨m,rfl,hu.text⟩
   ·exact ⟨o,rfl,hu.data⟩
  let J:Nat->LW:=fun k=>if k=0 then M else if k=1 then jo n 0 0 u.text M else jo n 1 0 u.data (jo n 0 0 u.text M)
  have hwS:∀ k,k<2->J (k+1)=jo n k 0 (Aa u k) (J k):=by
   intro k hk
   have:k=0\/k=1:=ad
   rcases this with rfl | rfl <;> rfl
  have hwSl:∀ k,k<=2->(J k).lb.length<=M.lb.length+(if k=0 then 0 else if k=1 then u.text.length else u.text.length+u.data.length):=by
   intro k hk
   have:k=0\/k=1\/k=2:=ad
   rcases this with rfl | rfl | rfl
   ·simp [J]
   ·exact mV n 0 u.text 0 M
   ·have h1:=mV n 0 u.text 0 M;have h2:=mV n 1 u.data 0 (jo n 0 0 u.text M);show (jo n 1 0 u.data (jo n 0 0 u.text M)).lb.length<=M.lb.length+(u.text.length+u.data.length);omega
  refine aU (cs:=cn) (fun y I h'=>∃ (k:Nat) (f:cd),y.1=(k:Int)/\k<=2/\I=2-k/\Ext h0 h'/\Fk h' B us f sp (J k)/\(h1.size∉aF f.p/\h3.size∉aF f.p)/\bF h' h1.size 30 [m.v,o.v,F.v,td.v]/\bF h' h3.size 26 [m.v,o.v]) ((0:Int),()) 2 rfl
   ⟨0,lb1,rfl,ad,ad,e1.trans e14,s1.ai e14,⟨fun hm=>by have:=(s1.qu.cj hm).2; omega,fun hm=>by have:=(s1.qu.cj hm).2; omega⟩,b34,b4⟩ ?_
  clear b4 b34 e4 e14 U z4;rintro ⟨n26,⟨⟩⟩ I h5 ⟨k,lb2,hk,hk2,rfl,e5,s5,d2,V,Q⟩;simp only at hk;subst hk;refine ak ?_;refine aP ?_ ?_<;>intro q
  ·have hk:k<2:=ad
   obtain ⟨sl,hsl,vs⟩:=hsec k hk;have hwk:=hwS k hk;have hwkl:=hwSl k ad;have W:(Aa u k).length+(if k=0 then 0 else if k=1 then u.text.length else u.text.length+u.data.length)<=u.text.length+u.data.length:=by
    have:k=0\/k=1:=ad
    rcases this with rfl | rfl
    ·simp [Aa]
    ·simp [Aa]; omega
   refine bP rfl ?_;rw [aC];refine bm Q ((sl.p,sl.l,sl.c),()) (by rw [show 0+(k:Int).toNat*1=k from ad,hsl]; rfl) ?_;refine ak ?_;generalize hxs:Aa u k=G at vs hwk W;generalize hwkk:J k=X at *;have lk:=vs.len;refine aU (cs:=cn) (fun y I h'=>∃ (i:Nat) (f:cd),y.1=(i:Int)/\i<=sl.l/\I=sl.l-i/\Ext h0 h'/\Fk h' B us f sp (jo n k 0 (G.take i) X)/\(h1.size∉aF f.p/\h3.size∉aF f.p)/\bF h' h1.size 30 [m.v,o.v,F.v,td.v]/\bF h' h3.size 26 [m.v,o.v]) ((0:Int),()) sl.l rfl
    ⟨0,lb2,rfl,ad,ad,e5,s5,d2,V,Q⟩ ?_
   clear e5 s5 V Q;rintro ⟨n31,⟨⟩⟩ I Y ⟨i,d,hi,hil,rfl,R,N,d3,V,Q⟩;simp only at hi;subst hi;refine ak ?_;refine aP ?_ ?_<;>intro q
   ·have K:i<G.length:=ad
    obtain ⟨aa,pp,ll,cc,Z,L,va0⟩:=vs.cells i K;have htk2:G.take (i+1)=G.take i++[G[i]]:=Y2 K;have hli:(jo n k 0 (G.take i) X).lb.length<=X.lb.length+i:=by
     have:=mV n k (G.take i) 0 X
     rw [Zi] at this;omega
    have C:jo n k 0 (G.take (i+1)) X=j2 n k i G[i] (jo n k 0 (G.take i) X):=by
     rw [htk2,CW,Zi,ZH,ZQ ad]
    generalize G[i]=x at L va0 C;generalize hwi:jo n k 0 (G.take i) X=wi at *;refine bP Z ?_;rw [cB i];refine av (x.kind,x.name,x.inst.op,x.inst.a,x.inst.b,x.inst.n,x.inst.form,(pp,ll,cc),(x.e.num:Int),x.n,()) (aX R aj _ _ L) (ak ?_);refine bG ?_;intro h7 b7 e7 z7;refine bQ b7 ?_;intro h8 H k8 z8;have H:bF h8 Y.size 64 (Ob.encI pp ll cc x):=H;have t:Ext Y h8:=bZ e7 k8;have bu8:=V.ai t aj;have bs8:=Q.ai t aj;have s8:=N.ai t;have hw:=iC i;have l6:=N.lt;have q6:=H.lt;refine az H (x.kind,()) (ak ?_);refine ao ?_ ?_<;>intro r
    ·have r:x.kind=1:=by simpa using r
     have hp:j2 n k i x wi={ wi with num:=zI wi.num (n,x.name) wi.lb.length,nn:=if (wi.num (n,x.name)).isSome then wi.nn else wi.nn+1,lb:=wi.lb++[⟨n,k,i,x.name⟩] }:=by unfold j2; rw [Y8 r]
     refine aH rfl ?_;rw [aC];refine az s8.box (some B,()) (ak ?_);rw [aC];refine az H (x.name,()) (ak ?_);refine aH rfl ?_;rw [aC];refine az s8.box ((d.p,d.l,d.c),()) (ak ?_);have hlb3:d.l=wi.lb.length:=by rw [s8.qu.1,YY]
     refine To s8.maps.n n x.name (w:=wi.lb.length) ad ?_;intro h9 m9 E z9;have x9:=s8.box.ai E aj;have me9:=s8.maps.e.ai E aj;have mg9:=s8.maps.g.ai E aj;have ls9:=s8.qu.br E (fun j O=>by have:=(s8.qu.cj O).1; simp; omega);have b9:=H.ai E (by simp; omega);refine aH rfl ?_;rw [aC];refine az x9 ((d.p,d.l,d.c),()) (ak ?_);refine az b9 (x.name,()) (ak ?_);refine gn (e:=76) (z:=.agg #[vI 0,vI 0,vI 0,.string ⟨#[]⟩]) (sz:=4) (by':=40) Ts We rfl ad ad (NL _ _ _ _) rfl rfl ls9 ad ad ad (fun h' e=>⟨(b9.ai e aj).cells _ rfl,(x9.ai e aj).cells _ rfl,trivial⟩) ?_;intro p' c' h10 s10 A hp10;have P:∀ j,j<B+4->j∉aF d.p:=fun j h1 h2=>by have:=(s8.qu.cj h2).1; omega
     have nin2:∀ j,Y.size<=j->j∉aF d.p:=fun j h1 h2=>by have:=(N.qu.cj h2).2; omega
     have b10:=b9.ai A (nin2 _ ad);have x10:=x9.ai A (P _ ad);refine ⟨⟨b10.cells _ rfl,trivial⟩,?_⟩;refine aH rfl ?_;rw [aC];refine bQ x10 ?_;intro h11 x11 D z11;have x11:Qm h11 (B+3) us ⟨p',d.l+1,c'⟩ B (B+1) (B+2) sp:=x11;rw [hw];have e611:Ext h0 h11:=Ch.trans (Ch.trans (bZ (R.trans t) E) A (fun j O hl=>by have:=(s8.qu.cj O).1; omega)) D (fun j O hl=>by simp at O; omega);have q56:h1.size<h3.size:=q3;have q36:h3.size<Y.size:=Q.lt;have d4:h1.size∉aF p'/\h3.size∉aF p':=by
      rcases hp10 with rfl | ⟨a',rfl,ha'⟩
      ·exact d3
      ·simp only [aF,List.mem_singleton]; omega
     refine aG (cs:=cn) (((i+1:Nat):Int),()) (sl.l-(i+1)) rfl ad rfl ⟨i+1,⟨p',d.l+1,c'⟩,rfl,ad,rfl,e611,?_,d4,?_,?_⟩
     ·rw [C,hp];refine ⟨x11,⟨(m9.ai A (P _ ad)).ai D aj,(me9.ai A (P _ ad)).ai D aj,(mg9.ai A (P _ ad)).ai D aj⟩,?_⟩;show SL h11 (B+4) 76 4 p' (d.l+1) c' ((wi.lb++[(⟨n,k,i,x.name⟩:Lb)]).map nS);rw [Za];exact s10.br D (fun j O=>by have:=(s10.cj O).1; simp; omega)
     ·exact ((bu8.ai E (by simp; omega)).ai A d3.1).ai D (by simp; omega)
     ·exact ((bs8.ai E (by simp; omega)).ai A d3.2).ai D (by simp; omega)
    ·have r:¬ x.kind=1:=by simpa using r
     have hp:j2 n k i x wi=wi:=by unfold j2; rw [Y1 r]
     rw [hw];refine aG (cs:=cn) (((i+1:Nat):Int),()) (sl.l-(i+1)) rfl ad rfl ⟨i+1,d,rfl,ad,rfl,R.trans t,by rw [C,hp]; exact s8,d3,bu8,bs8⟩
   ·have hi:i=G.length:=ad
    subst hi;rw [Zu (Zc _)] at N;have hw:=iC k;rw [hw];refine aG (cs:=cn) (((k+1:Nat):Int),()) (2-(k+1)) rfl ad rfl ⟨k+1,d,rfl,ad,rfl,R,by rw [hwk]; exact N,d3,V,Q⟩
  ·have hk:k=2:=ad
   subst hk;clear Q;rw [aC];refine az V ((F.p,F.l,F.c),()) (ak ?_);have ve:=hu.bf;have le:=ve.len;have hw2:J 2=jo n 1 0 u.data (jo n 0 0 u.text M):=rfl;have hne:∀ (i:Nat),(hi:i<u.bf.length)->(u.bf.take (i+1)).foldl (wx n) (J 2)=wx n ((u.bf.take i).foldl (wx n) (J 2)) (u.bf[i]'ad):=by
    intro i hi;rw [Y2 hi,ZW] <;> rfl
   refine aU (cs:=cn) (fun y I h'=>∃ (i:Nat),y.1=(i:Int)/\i<=F.l/\I=F.l-i/\Ext h0 h'/\Fk h' B us lb2 sp ((u.bf.take i).foldl (wx n) (J 2))) ((0:Int),()) F.l rfl
    ⟨0,rfl,ad,ad,e5,s5⟩ ?_
   clear e5 s5 V;rintro ⟨n30,⟨⟩⟩ I Y ⟨i,hi,hil,rfl,R,N⟩;simp only at hi;subst hi;refine ak ?_;refine aP ?_ ?_<;>intro q
   ·have K:i<u.bf.length:=ad
    obtain ⟨aa,pp,ll,cc,Z,L,va0,hsz⟩:=ve.cells i K;have hne:=hne i K;generalize u.bf[i]=x at L va0 hsz hne;generalize hwi:(u.bf.take i).foldl (wx n) (J 2)=wi at *;refine bP Z ?_;rw [cB i];refine av (x.1,(pp,ll,cc),(x.2.num:Int),()) (aX R aj _ _ L) (ak ?_);refine bG ?_;intro h7 b7 e7 z7;refine bQ b7 ?_;intro h8 H k8 z8;have H:bF h8 Y.size 88 [.string x.1,.slice pp ll cc,.int .u32 (x.2.num:Int)]:=H;have t:Ext Y h8:=bZ e7 k8;have s8:=N.ai t;have l6:=N.lt;have q6:=H.lt;refine aH rfl ?_;rw [aC];refine az s8.box (some (B+1),()) (ak ?_);refine az H (x.1,()) (ak ?_);refine aH rfl ?_;rw [aC];refine az s8.box (some (B+1),()) (ak ?_);refine Wo s8.maps.e ?_;refine ⟨⟨H.cells _ rfl,s8.box.cells _ rfl,trivial⟩,?_⟩;refine To s8.maps.e n x.1 (w:=wi.ne) rfl ?_;intro h9 m9 E z9;have hw:=iC i;rw [hw];refine aG (cs:=cn) (((i+1:Nat):Int),()) (F.l-(i+1)) rfl ad rfl ⟨i+1,rfl,ad,rfl,bZ (R.trans t) E,?_⟩;rw [hne];exact ⟨s8.box.ai E aj,⟨s8.maps.n.ai E aj,m9,s8.maps.g.ai E aj⟩,s8.qu.br E (fun j O=>by have:=(s8.qu.cj O).1; simp; omega)⟩
   ·have hi:i=u.bf.length:=ad
    subst hi;rw [Zu (Zc _)] at N;have hw:=iC n;rw [hw];refine aG (cs:=cn) (((n+1:Nat):Int),()) (l-(n+1)) rfl ad rfl ⟨n+1,lb2,rfl,ad,rfl,R,?_⟩;rw [htk,CR,Zi,ZH,ZQ ad,hw1];exact N
 ·have hn:n=yz.length:=ad
  subst hn;rw [Zu (Zc _)] at s1;exact ⟨rfl,lb1,s1,e1⟩
end
def wL (n:Nat) (w:LW) (s:Xaa):LW:={ w with gl:=dW w.gl s n,ng:=if (w.gl s).isSome then w.ng else w.ng+1 }
def GG (n:Nat) (u:bU) (w:LW):LW:=u.aQ.foldl (wL n) w
def lx:Nat->List bU->LW->Except (Nat × Xaa) LW
 | _,[],w=>.ok w
 | n,u::us,w=>match u.aQ.find? fun g=>(w.gl g).isSome with
  | some g=>.error (n,g)
  | none=>lx (n+1) us (GG n u w)
theorem Px (n:Nat):∀ (l:List Xaa) (w:LW),(l.foldl (wL n) w).lb=w.lb/\(l.foldl (wL n) w).num=w.num/\(l.foldl (wL n) w).nn=w.nn/\(l.foldl (wL n) w).uV=w.uV/\(l.foldl (wL n) w).ne=w.ne
 | [],w=>⟨rfl,rfl,rfl,rfl,rfl⟩
 | e::l,w=>by rw [ZD]; exact Px n l _
section
variable {h0:Hp} {B:Nat} {us lb:cd} {sp:Int}
def KO {h:Hp} {w:LW} (hB:h0.size=B) (e0:Ext h0 h) (s:Fk h B us lb sp w) {p:Xac} {l c:Nat} {yz:List bU} (v:wh h0 p l yz) (hnu:yz.length<=2^20) :
  HC Xaz 44 #[ptr (B+3),.slice p l c] h fun x h'=>Ext h0 h'/\match lx 0 yz w with
   | .error q=>x=.tuple #[.agg #[vI 22,vI (q.1:Int),.string q.2],.bool true]
   | .ok w'=>x=.tuple #[.agg #[vI 0,vI 0,.string ⟨#[]⟩],.bool false]/\Fk h' B us lb sp w':=by
 refine bi (args:=[ptr (B+3),.slice p l c]) mixed Tryz.func44 aw (pe (some ⟨B+3,0,none⟩) p l c) ?_;unfold kK aY bj bn ay bX bK aS cm aK cr;have hll:=v.len;generalize o:lx 0 yz w=M;refine bG ?_;intro h1 b1 X z1;have l0:=s.lt;refine aU (cs:=ic) (fun y z h'=>∃ (n:Nat) (w':LW),y.2.1=(n:Int)/\n<=l/\z=l-n/\Ext h0 h'/\Fk h' B us lb sp w'/\bF h' h.size 37 [vI 0,vI 0,.string ⟨#[]⟩]/\lx n (yz.drop n) w'=M) (false,(0:Int),()) l rfl
  ⟨0,w,rfl,ad,ad,e0.trans X,s.ai X,b1,o⟩ ?_
 have z0:=e0.size;have Q:∀ i,i∈aF lb.p->i<h.size:=fun i hi=>(s.qu.cj hi).2
 clear o s b1;rintro ⟨b3,n4,⟨⟩⟩ z h2 ⟨n,w,hn,hnl,rfl,R,s,b1,o⟩;simp only at hn;subst hn;refine ak ?_;have q1:=b1.lt;refine aP ?_ ?_<;>intro q
 ·have G:n<yz.length:=ad
  obtain ⟨a,L,N,O,b,ha,hc,Y⟩:=v.cells n G;rw [Zj G] at o;generalize yz[n]=u at hc Y o;refine bP ha ?_;rw [cB n];refine av ((L.p,L.l,L.c),(N.p,N.l,N.c),(O.p,O.l,O.c),(b.p,b.l,b.c),()) (aX R aj _ _ hc) (ak ?_);refine bG ?_;intro Z d e3 z3;refine bQ d ?_;intro h4 H k4 z4;have H:bF h4 h2.size 30 [L.v,N.v,O.v,b.v]:=H;have A:Ext h2 h4:=bZ e3 k4;have e04:=R.trans A;have s4:=s.ai A;have b14:=b1.ai A aj;have vg:=Y.aQ;have lg:=vg.len;have mg:=vg.many;have q4:=H.lt;have l2:=s.lt;rw [aC];refine az H ((b.p,b.l,b.c),()) (ak ?_);refine aU (cs:=ic) (fun y z h'=>∃ (i:Nat),y.2.1=(i:Int)/\i<=b.l/\z=b.l-i/\h'=h4/\∀ j,(f:j<i)->(hx:j<u.aQ.length)->(w.gl u.aQ[j]).isSome=false) (b3,(0:Int),()) b.l rfl
   ⟨0,rfl,ad,ad,rfl,by intro j f; omega⟩ ?_
  rintro ⟨I,n23,⟨⟩⟩ z h5 ⟨i,hi,hil,rfl,rfl,C⟩;simp only at hi;subst hi;refine ak ?_;refine aP ?_ ?_<;>intro q
  ·have k:i<u.aQ.length:=ad
   obtain ⟨aa,D,t,E⟩:=vg.cells i k;refine bP D ?_;rw [cB i];refine av (u.aQ[i],()) (aX e04 aj _ _ t) (ak ?_);refine aH rfl ?_;rw [aC];refine az s4.box (some (B+2),()) (ak ?_);refine Er s4.maps.g u.aQ[i] ?_;refine ao ?_ ?_<;>intro r
   ·refine bQ b14 ?_;intro h6 S k6 z6;have S:bF h6 h.size 37 [vI 22,vI (n:Int),.string u.aQ[i]]:=S;refine az S ((22:Int),(n:Int),u.aQ[i],()) ?_;have hf:M=.error (n,u.aQ[i]):=by
     rw [<- o,lx,lY _ u.aQ i k (fun j f=>C j f ad) r]
    subst hf;exact ⟨bZ e04 k6,rfl⟩
   ·have hw:=iC i;rw [hw];refine aG (cs:=ic) (I,((i+1:Nat):Int),()) (b.l-(i+1)) rfl ad rfl ⟨i+1,rfl,ad,rfl,rfl,fun j f hx=>?_⟩
    by_cases U:j=i
    ·subst U; exact r
    ·exact C j ad hx
  ·have hi:i=u.aQ.length:=ad
   subst hi;have V:lx (n+1) (yz.drop (n+1)) (GG n u w)=M:=by
    rw [<- o,lx,pj _ u.aQ (fun j f=>C j f f)]
   refine az H ((b.p,b.l,b.c),()) (ak ?_);refine aU (cs:=cn) (fun y z h'=>∃ (i:Nat),y.1=(i:Int)/\i<=b.l/\z=b.l-i/\Ext h0 h'/\Fk h' B us lb sp ((u.aQ.take i).foldl (wL n) w)/\bF h' h.size 37 [vI 0,vI 0,.string ⟨#[]⟩]) ((0:Int),()) b.l rfl
    ⟨0,rfl,ad,ad,e04,s4,b14⟩ ?_
   clear s4 b14;rintro ⟨n27,⟨⟩⟩ z h6 ⟨i,hi,hil',rfl,W,m,J⟩;simp only at hi;subst hi;refine ak ?_;refine aP ?_ ?_<;>intro q
   ·have k:i<u.aQ.length:=ad
    obtain ⟨aa,D,t,E⟩:=vg.cells i k;have K:(u.aQ.take (i+1)).foldl (wL n) w=wL n ((u.aQ.take i).foldl (wL n) w) u.aQ[i]:=by
     rw [Y2 k,ZW] <;> rfl
    generalize u.aQ[i]=x at t E K;generalize (u.aQ.take i).foldl (wL n) w=wi at *;refine bP D ?_;rw [cB i];refine av (x,()) (aX W aj _ _ t) (ak ?_);refine aH rfl ?_;rw [aC];refine az m.box (some (B+2),()) (ak ?_);have l6:=m.lt;refine sy m.maps.g E (w:=n) rfl ?_;intro h7 m7 F z7;have hw:=iC i;rw [hw];refine aG (cs:=cn) (((i+1:Nat):Int),()) (b.l-(i+1)) rfl ad rfl ⟨i+1,rfl,ad,rfl,bZ W F,?_,J.ai F (by simp; omega)⟩;rw [K];exact ⟨m.box.ai F aj,⟨m.maps.n.ai F aj,m.maps.e.ai F aj,m7⟩,m.qu.br F (fun j f=>by have:=(m.qu.cj f).1; simp; omega)⟩
   ·have hi:i=u.aQ.length:=ad
    subst hi;rw [Zu (Zc _)] at m;have hw:=iC n;rw [hw];exact aG (cs:=ic) (I,((n+1:Nat):Int),()) (l-(n+1)) rfl ad rfl ⟨n+1,_,rfl,ad,rfl,W,m,J,V⟩
 ·have hn:n=yz.length:=ad
  subst hn;rw [ar9 (Zc _)] at o;subst o;refine bQ b1 ?_;intro Z d P z3;have d:bF Z h.size 37 [vI 0,vI 0,.string ⟨#[]⟩]:=d;refine az d ((0:Int),(0:Int),(⟨#[]⟩:Xaa),()) ?_;refine ⟨bZ R P,rfl,?_⟩;exact ⟨s.box.ai P (by simp; omega),s.maps.ai P (by simp; omega) (by simp; omega) (by simp; omega),s.qu.br P (fun j f=>by have:=Q j f; simp; omega)⟩
end
end Go.Sx.Lk
namespace Go.Sx.Ob
open Go.Proofs
def VP (x:cH):Bool:=decide (x.kind=2) && um x.inst.op
def kq (l:List cH):Nat:=(l.filter VP).length
def IM (l:List cH) (i:Nat) (hi:i<l.length):kq (l.take (i+1))=kq (l.take i)+if VP l[i]=true then 1 else 0:=by
 unfold kq;rw [Y2 hi,List.filter_append,Y0]
 congr 1
 by_cases hk:VP l[i]=true <;> simp [hk]
def AB (l:List cH):kq l<=l.length:=ao9 _ _
def KX {h:Hp} (t:Cw h) {a b c d:cd} {u:bU} (v:jU h a b c d u):HC Xaz 48 #[qp a b c d] h fun w h'=>w=vI ((if fA u=0 then kq u.text else 0:Nat):Int)/\Ext h h':=by
 refine bi (args:=[qp a b c d]) mixed Tryz.func48 aw (zT a.p a.l a.c b.p b.l b.c c.p c.l c.c d.p d.l d.c) ?_;unfold xy aY bj bn ay bd dl ax aS cm aK;refine bG ?_;intro h1 b1 k z1;have b1:bF h1 h.size 30 [a.v,b.v,c.v,d.v]:=b1;refine az b1 ((a.p,a.l,a.c),(b.p,b.l,b.c),(c.p,c.l,c.c),(d.p,d.l,d.c),()) (ak ?_);refine aJ (xp (t.ai k aj) (v.ai k)) ?_;rintro _ h2 ⟨rfl,z⟩;refine ⟨((fA u:Int),()),rfl,ak ?_⟩;have e02:=k.trans z;refine ao ?_ ?_<;>intro r
 ·have r:¬ fA u=0:=by simpa using r
  rw [Y1 r];exact ⟨rfl,e02⟩
 have r:fA u=0:=by simpa using r
 rw [Y8 r];have b2:=b1.ai z aj;refine az b2 ((a.p,a.l,a.c),()) (ak ?_);have n:=v.text.len;have m1:=v.text.many;refine aU (cs:=gk) (fun y m h'=>∃ i:Nat,y.2.1=(i:Int)/\y.1=(kq (u.text.take i):Int)/\m=u.text.length-i/\i<=u.text.length/\Ext h h') ((0:Int),(0:Int),()) u.text.length rfl
  ⟨0,rfl,rfl,rfl,ad,e02⟩ ?_
 rintro ⟨I,J,⟨⟩⟩ m g ⟨i,hi,hn,rfl,D,eg⟩;simp only at hi hn;subst hi hn;refine ak ?_;refine aP ?_ ?_<;>intro q
 ·have f:i<u.text.length:=ad
  obtain ⟨K,pp,A,B,rfl',hc,o⟩:=(v.text.ai eg).cells i f;have ht:=IM u.text i f;have E:kq (u.text.take i)<=i:=by have:=AB (u.text.take i); rw [Zi] at this; omega
  generalize u.text[i]=x at hc o ht;refine dO (aH rfl' ?_);rw [cB i];refine av (x.kind,x.name,x.inst.op,x.inst.a,x.inst.b,x.inst.n,x.inst.form,(pp,A,B),(x.e.num:Int),x.n,()) hc (ak ?_);refine bG ?_;intro L c1 F M;refine bQ c1 ?_;intro g2 j G N;have j:bF g2 g.size 64 (encI pp A B x):=j;have H:Ext g g2:=bZ F G;have eg2:=eg.trans H;refine az j (x.kind,()) (ak ?_);refine ao ?_ ?_<;>intro r
  ·have r:x.kind=2:=by simpa using r
   rw [aC];refine az j (x.inst.op,()) (ak ?_);refine aJ (Gz (t.ai eg2 aj) x.inst.op o.op.1 o.op.2) ?_;rintro _ O ⟨rfl,C⟩;refine ⟨(um x.inst.op,()),rfl,ak ?_⟩;refine ao ?_ ?_<;>intro s
   ·rw [Y8 (by unfold VP; rw [Y4 r,s]; rfl)] at ht;refine aG (cs:=gk) (((kq (u.text.take i)+1:Nat):Int),((i+1:Nat):Int),()) (u.text.length-(i+1)) rfl ad (by rw [wrap_i64 ad ad,wrap_i64 ad ad]; rfl) ?_;exact ⟨i+1,rfl,by rw [ht],rfl,ad,eg2.trans C⟩
   ·rw [Y1 (by unfold VP; rw [Y4 r,s]; decide)] at ht;refine aG (cs:=gk) ((kq (u.text.take i):Int),((i+1:Nat):Int),()) (u.text.length-(i+1)) rfl ad (by rw [wrap_i64 ad ad]; rfl) ?_;exact ⟨i+1,rfl,by rw [ht]; rfl,rfl,ad,eg2.trans C⟩
  ·have r:¬ x.kind=2:=by simpa using r
   rw [Y1 (by unfold VP; rw [Y6 r]; simp)] at ht;refine aG (cs:=gk) ((kq (u.text.take i):Int),((i+1:Nat):Int),()) (u.text.length-(i+1)) rfl ad (by rw [wrap_i64 ad ad]; rfl) ?_;exact ⟨i+1,rfl,by rw [ht]; rfl,rfl,ad,eg2⟩
 ·have:i=u.text.length:=ad
  subst this;rw [ZA];exact ⟨rfl,eg⟩
end Go.Sx.Ob
namespace Go.Sx.Lk
open Go.Proofs Go.Sx.Ob
variable {fs:List cX}
structure kZ where
 s:cd
 ws:List (cd × cH)
def WX:kZ:=⟨lZ,[]⟩
structure nX (h:Hp) (b:Nat) (x:kZ):Prop where
 out:SL h b 64 10 x.s.p x.s.l x.s.c (x.ws.map oc)
 fI:∀ u,u∈x.ws->SL h b 66 2 u.1.p u.1.l u.1.c (u.2.e.ah.map dh)
variable {I:Hp} {H O V:Nat}
def nX.ai {h':Hp} {x:kZ} {ws:List Nat} (s:nX I H x) (k:Ch ws I h') (h1:∀ i,i∈aF x.s.p->i∉ws) (h2:∀ u,u∈x.ws->∀ i,i∈aF u.1.p->i∉ws):nX h' H x :=
 ⟨s.out.br k h1,fun u a=>(s.fI u a).br k (h2 u a)⟩
def nX.ext {h':Hp} {x:kZ} (s:nX I H x) (k:Ext I h'):nX h' H x:=s.ai k aj aj
def nX.mono {h:Hp} {b b':Nat} {x:kZ} (s:nX h b x) (a:b'<=b):nX h b' x:=⟨s.out.mono a,fun u c=>(s.fI u c).mono a⟩
structure mh (h:Hp) (b N:Nat) (S:Nat->kZ):Prop where
 sec:∀ k,k<N->nX h b (S k)
 ap:∀ k j,k<N->j<N->k≠j->∀ x,x∈aF (S k).s.p->x∉aF (S j).s.p
def mh.ext {h h':Hp} {b N:Nat} {S:Nat->kZ} (s:mh h b N S) (k:Ext h h'):mh h' b N S:=⟨fun j a=>(s.sec j a).ext k,s.ap⟩
def mh.iy {h':Hp} {S:Nat->kZ} {ws:List Nat} (s:mh I H O S) (k:Ch ws I h') (d:∀ i,i∈ws->i<H):mh h' H O S :=
 ⟨fun j a=>(s.sec j a).ai k (fun i hi c=>by have:=((s.sec j a).out.cj hi).1; have:=d i c; omega) (fun u e i hi c=>by have:=(((s.sec j a).fI u e).cj hi).1; have:=d i c; omega),s.ap⟩
variable {U:Xac}
def mh.tu {h':Hp} {S:Nat->kZ} {b2:Nat} {e:TypeId} {sz c:Nat} {f:List (List Xab)} (s:mh I H O S) (t:SL I b2 e sz U V c f) (k:Ch (aF U) I h') (h1:e≠64) (h2:e≠66):mh h' H O S :=
 ⟨fun j a=>(s.sec j a).ai k (fun i hi d=>qz t (s.sec j a).out h1 i d hi) (fun u g i hi d=>qz t ((s.sec j a).fI u g) h2 i d hi),s.ap⟩
def lP (S:Nat->kZ) (k:Nat) (x:kZ):Nat->kZ:=fun j=>if j=k then x else S j
def mh.nil (h:Hp) (b:Nat) (S:Nat->kZ):mh h b 0 S:=⟨fun k hk=>absurd hk ad,fun k j hk=>absurd hk ad⟩
variable {Y:Nat->kZ}
def mh.add {h':Hp} (s:mh I H O Y) (e:Ext I h') (l:H<=I.size) {x:kZ} (g:nX h' I.size x):mh h' H (O+1) (lP Y O x):=by
 have s':=s.ext e;refine ⟨fun k hk=>?_,fun k j hk m i y d a=>?_⟩
 ·unfold lP
  by_cases c:k=O
  ·rw [Y8 c]; exact g.mono l
  ·rw [Y1 c]; exact s'.sec k ad
 ·unfold lP at d a
  by_cases c:k=O <;> by_cases f:j=O
  ·omega
  ·rw [Y8 c] at d;rw [Y1 f] at a;have h1:=(g.out.cj d).1;have h2:=((s.sec j ad).out.cj a).2;omega
  ·rw [Y1 c] at d;rw [Y8 f] at a;have h1:=(g.out.cj a).1;have h2:=((s.sec k ad).out.cj d).2;omega
  ·rw [Y1 c] at d;rw [Y1 f] at a;exact s.ap k j ad ad i y d a
def mh.put {h':Hp} (s:mh I H O Y) (hk:V<O) {i:Nat} (hi:i<(Y V).ws.length) {q:cd × cH} (A:SL I H 66 2 q.1.p q.1.l q.1.c (q.2.e.ah.map dh))
  (B:SL h' H 64 10 (Y V).s.p (Y V).s.l (Y V).s.c (((Y V).ws.set i q).map oc)) (c:Ch (aF (Y V).s.p) I h'):mh h' H O (lP Y V ⟨(Y V).s,(Y V).ws.set i q⟩):=by
 have d:∀ {p:Xac} {l c:Nat} {ts:dz},SL I H 66 2 p l c (ts.map dh)->SL h' H 66 2 p l c (ts.map dh):=fun t=>t.br c (fun x r f=>qz t (s.sec V hk).out bY x r f)
 refine ⟨fun j g=>?_,fun j m g f w y z n=>?_⟩
 ·unfold lP
  by_cases a:j=V
  ·rw [Y8 a];refine ⟨B,fun u o=>?_⟩;rcases af9 o with o | rfl
   ·exact d ((s.sec V hk).fI u o)
   ·exact d A
  ·rw [Y1 a];exact ⟨(s.sec j g).out.br c (fun x r f=>s.ap j V g hk a x r f),fun u o=>d ((s.sec j g).fI u o)⟩
 ·have C:∀ j,(lP Y V ⟨(Y V).s,(Y V).ws.set i q⟩ j).s=(Y j).s:=by
   intro j;unfold lP
   by_cases a:j=V
   ·rw [Y8 a,a]
   ·rw [Y1 a]
  rw [C] at z n;exact s.ap j m g f w y z n
def za (S:Nat->kZ) (n:Nat):List Xab:=[(S (2*n)).s.v,(S (2*n+1)).s.v,lZ.v,lZ.v]
def nZ (S:Nat->kZ) (n:Nat):List (List Xab):=(List.range n).map (za S)
def IC (S:Nat->kZ) (n:Nat) (a b:kZ):nZ (lP (lP S (2*n) a) (2*n+1) b) (n+1)=nZ S n++[[a.s.v,b.s.v,lZ.v,lZ.v]]:=by
 unfold nZ;rw [List.range_succ,Za]
 congr 1
 ·apply ZR;intro i hi;have hi:i<n:=ap9.1 hi;unfold za lP;rw [Y1 ad,Y1 ad,Y1 ad,Y1 ad]
 ·show [za _ n]=_;unfold za lP;rw [Y1 ad,Y8 rfl,Y8 rfl]
def ma (S:Nat->kZ) (n:Nat):(nZ S n).length=n:=by unfold nZ; simp
def Dz (S:Nat->kZ) (n i:Nat) (hi:i<(nZ S n).length):(nZ S n)[i]=za S i:=by
 have:i<n:=by simpa [ma] using hi
 show ((List.range n).map (za S))[i]'(by simpa using this)=_;rw [Y7,List.getElem_range]
def fG (D:List (Xaa × cE)):List cX:=D.map fun q=>⟨q.1,none,0,0,q.2⟩
def fL (e:cX):Xaa × cE:=(e.name,e.x)
def qO (D:List (Xaa × cE)):(fG D).map fL=D:=by
 unfold fG;rw [Zs];exact List.map_id _
def LA {es:List cX} (h:es.map fL=fs.map fL):bh es=bh fs:=by
 have:=Zg (List.map (·.1)) h
 rw [Zs,Zs] at this;exact this
def JG {es:List cX} (h:es.map fL=fs.map fL) (s:Xaa):kX es s=kX fs s:=by
 unfold kX;have a:∀ l:List cX,l.findIdx? (fun e=>decide (e.name=s))=(l.map fL).findIdx? fun q=>decide (q.1=s):=by
  intro l;rw [ck9] <;> rfl
 rw [a,a,h]
def DY {es:List cX} (h:es.map fL=fs.map fL):cG es=cG fs:=by
 funext s
 unfold cG;rw [JG h]
def DX {es:List cX} (h:es.map fL=fs.map fL):dH es=dH fs:=by
 funext s
 unfold dH;rw [JG h];cases kX fs s with
 | none=>rfl
 | some k =>
  have a:es[k]?.map (·.x)=fs[k]?.map (·.x):=by
   have h1:(es.map fL)[k]?=(fs.map fL)[k]?:=by rw [h]
   rw [ZL,ZL] at h1;have h2:=Zg (Option.map (·.2)) h1;rw [Option.map_map,Option.map_map] at h2;exact h2
  show (es[k]?.map (·.x)).getD vQ=(fs[k]?.map (·.x)).getD vQ;rw [a]
def Kd {es:List cX} (h:es.map fL=fs.map fL):fx es=fx fs:=by
 funext s
 unfold fx;rw [DY h,DX h,LA h]
def B7 {es:List cX} (h:es.map fL=fs.map fL):dJ es=dJ fs:=by
 unfold dJ;rw [DY h,DX h]
def nV (D:List (Xaa × cE)):List (Xaa × cE):=D.map fun q=>(q.1,fx (fG D) q.1)
def xk (D:List (Xaa × cE)) (x:cE):cE:=dC (cF (fG D)) x
def GR {es:List cX} (h:es.map fL=fs.map fL):cF es=cF fs:=by
 funext s
 unfold cF;rw [DY h,DX h]
def eR:Nat->List bU->List (Nat × oh)
 | _,[]=>[]
 | n,u::us=>u.bf.map (fun e=>(n,e))++eR (n+1) us
theorem sS (u:bU):∀ (l:List bU) (n:Nat),eR n (l++[u])=eR n l++u.bf.map fun e=>(n+l.length,e)
 | [],n=>by simp [eR]
 | y::l,n=>by
  simp only [List.cons_append,eR,List.length_cons];rw [sS u l (n+1),show n+1+l.length=n+(l.length+1) from ad,Zp]
def xm (w:LW) (us:List bU):List (Xaa × cE):=(eR 0 us).map fun q=>(w.word (q.1,q.2.1),w.lin q.1 q.2.2)
def sV (w:LW) (n:Nat) (u:bU):Option Xaa:=(w.zR n u.text).or ((w.zR n u.data).or (u.bf.findSome? fun e=>w.bad n e.2))
def gC (w:LW):Nat->List bU->Option (Nat × Xaa)
 | _,[]=>none
 | n,u::us=>match sV w n u with
  | some s=>some (n,s)
  | none=>gC w (n+1) us
def Bp (w:LW) (us:List bU) (n:Nat) (hn:n<us.length):gC w n (us.drop n)=match sV w n us[n] with
  | some s=>some (n,s)
  | none=>gC w (n+1) (us.drop (n+1)):=by
 rw [Zj hn,gC]
noncomputable def ov (D:List (Xaa × cE)):Option Nat:=by
 classical
 exact D.findIdx? fun q=>decide (kV (dJ (fG D)) q.1)
structure Fl where
 vD:Nat
 unit:Nat
 name:Xaa
structure LP where
 w:LW
 us:List bU
 D:List (Xaa × cE)
def LP.fN (P:LP) (n:Nat) (x:cH):cH:={ x with e:=xk (nV P.D) (P.w.lin n x.e) }
noncomputable def ry (us:List bU):Except Fl LP :=
 if us.length=0 then .error ⟨25,0,dV⟩
 else if 64<us.length then .error ⟨4,0,dV⟩
 else match us.findIdx? fun u=>decide (fA u≠0) with
 | some n=>.error ⟨31,n,dV⟩
 | none=>match lx 0 us (oy 0 us Tj) with
  | .error q=>.error ⟨22,q.1,q.2⟩
  | .ok w=>match gC w 0 us with
   | some q=>.error ⟨23,q.1,q.2⟩
   | none=>match ov (xm w us) with
    | some i=>.error ⟨24,((eR 0 us).map fun q=>(q.1,q.2.1)).getD i (0,dV) |>.1,((eR 0 us).map fun q=>(q.1,q.2.1)).getD i (0,dV) |>.2⟩
    | none=>.ok ⟨w,us,xm w us⟩
def cO (u:bU):List cE:=u.text.map (·.e)++u.data.map (·.e)++u.bf.map (·.2)
def Hi {x:cE} (h:Ql x=true):Good x:=by
 unfold Ql at h;simp only [Bool.and_eq_true,decide_eq_true_eq] at h;obtain ⟨t,n⟩:=x;obtain ⟨rfl,rfl⟩:=h;exact ⟨⟨List.Pairwise.nil,aj⟩,aj,bY⟩
def G' {x:cH} (h:cI x H=true) (hc:∀ t,t∈x.e.ah->t.2<4294967296) (hn:x.e.num<4294967296):Good x.e:=by
 have z:z3 x=true->Good x.e:=Hi;unfold cI at h
 repeat' split at h
 all_goals try simp only [Bool.and_eq_true] at h
 ·exact z h.1.2
 ·have h1:=h.1.1.2;unfold Az at h1;simp only [Bool.and_eq_true] at h1;have h2:=h1.2;split at h2
  ·simp only [Bool.and_eq_true] at h2;exact EL h2.2 hc hn
  ·simp only [Bool.and_eq_true] at h2;exact Hi h2.2
 ·exact z h.2
 ·exact z h.1.2
 ·exact z h.2
 ·exact EL h.1.1.1.2 hc hn
 ·exact z h.2
 ·cases h
theorem tf {sec:Nat}:∀ {l:List cH} {D:List Xaa},fq sec D l=true->∀ x,x∈l->cI x sec=true
 | [],_,_,x,a=>by simp at a
 | y::l,D,h,x,a=>by
  unfold fq at h;rw [Zz] at h;rcases Zo.1 a with rfl | a
  ·have:=h.1
   unfold zf at this;rw [Zz] at this;exact this.1
  ·exact tf h.2 x a
theorem vr:∀ {l:List oh} {D:List Xaa},ig D l=true->∀ e,e∈l->dr e.1.data.toList=true/\oR none e.2.ah=true
 | [],_,_,x,a=>by simp at a
 | y::l,D,h,x,a=>by
  unfold ig at h;rw [Zz] at h;rcases Zo.1 a with rfl | a
  ·have:=h.1
   unfold DA at this;simp only [Bool.and_eq_true] at this;exact ⟨this.1.2,this.2⟩
  ·exact vr h.2 x a
variable {Z:bU}
def BG (h:fA Z=0) (hc:∀ x,x∈cO Z->x.num<4294967296/\∀ t,t∈x.ah->t.2<4294967296):∀ x,x∈cO Z->Good x:=by
 have h1:=(AY h).2;unfold xE at h1;simp only [Bool.and_eq_true] at h1;obtain ⟨⟨⟨h1,h2⟩,c⟩,d⟩:=h1;intro x a;have hcx:=hc x a;unfold cO at a;rcases Zb.1 a with a | a
 ·rcases Zb.1 a with a | a
  ·obtain ⟨y,b,rfl⟩:=Y9.1 a;exact G' (tf h1 y b) hcx.2 hcx.1
  ·obtain ⟨y,b,rfl⟩:=Y9.1 a;exact G' (tf h2 y b) hcx.2 hcx.1
 ·obtain ⟨y,b,rfl⟩:=Y9.1 a;exact EL (vr c y b).2 hcx.2 hcx.1
structure IJ (us:List bU):Prop where
 many:us.length<=2^20
 items:uu us<=2^20
 num:∀ u,u∈us->∀ x,x∈cO u->x.num<4294967296/\∀ t,t∈x.ah->t.2<4294967296
 ah:((us.flatMap cO).flatMap (·.ah)).length<=2^20
variable {a:cE}
def IJ.len {us:List bU} (s:IJ us) (b:Z∈us) (c:a∈cO Z):a.ah.length<=2^20:=by
 have h1:a∈us.flatMap cO:=cs9.2 ⟨Z,b,c⟩;exact ZK (iJ (·.ah) h1) s.ah
def Jd (of:Xaa->Option cE) (t:Xaa × Nat):cE:=match of t.1 with
 | none=>⟨[t],0⟩
 | some y=>DM y t.2
def gy (of:Xaa->Option cE) (o:cE) (t:Xaa × Nat):cE:=yP o (Jd of t)
variable {b:dz}
def J4 (l:dz) {k:dz} (hk:Nf k) (hc:∀ s,cf k s % 4294967296=cf b s % 4294967296):Lv (Fg l) k=Fg (l++b) :=
 (Sl (Bc l) hk).RZ (Bc _) fun s=>by
  have h1:=hc s;have h2:=Sb (Fg l) k s;have h3:=BN l s;have h4:=BN (l++b) s;rw [Ll] at h4;omega
theorem CZ {of:Xaa->Option cE} (a:∀ s y,of s=some y->Nf y.ah):∀ (ts l:dz) (n:Nat),n<4294967296->(∀ t,t∈ts->t.2≠0/\t.2<4294967296) ->
  ts.foldl (gy of) ⟨Fg l,n⟩=⟨Fg (l++ts.flatMap (tg of)),ts.foldl (gX of) n⟩
 | [],l,n,_,_=>aj
 | t::ts,l,n,hn,b=>by
  have h1:gy of ⟨Fg l,n⟩ t=⟨Fg (l++tg of t),gX of n t⟩/\gX of n t<4294967296:=by
   have ht0:=b t aj;unfold gy Jd tg gX yP;cases c:of t.1 with
   | none =>
    refine ⟨?_,hn⟩;simp only [Nat.add_zero];rw [bm9 hn]
    congr 1
    exact J4 l ⟨aj,by simpa using ht0⟩ fun s=>rfl
   | some y =>
    refine ⟨?_,cu9 _ bY⟩;unfold DM;simp only;rw [cw9 y.num t.2]
    congr 1
    refine J4 l (KN (a _ _ c)) fun s=>?_
    rw [LV]
    have:=EC t.2 y.ah s
    rw [<- this]
    congr 2
    exact ZR fun p _=>by rw [cw9]
  rw [ZD,h1.1,CZ a ts _ _ h1.2 (fun u d=>b u (Ze _ d)),Zp,ZN,ZD]
def Wi:Fg []=[]:=F1 Nf.nil
def EY {of:Xaa->Option cE} (a:∀ s y,of s=some y->Nf y.ah) {x:cE} (b:Nf x.ah) (hn:x.num<4294967296):x.ah.foldl (gy of) ⟨[],x.num⟩=dC of x:=by
 have:=CZ a x.ah [] x.num hn b.2
 rw [Z8,Wi] at this;exact this
def Cz {of:Xaa->Option cE} (a:∀ s y,of s=some y->Nf y.ah) {x:cE} (b:Nf x.ah) (hn:x.num<4294967296) (i:Nat):(x.ah.take i).foldl (gy of) ⟨[],x.num⟩=dC of ⟨x.ah.take i,x.num⟩ :=
 EY (x:=⟨x.ah.take i,x.num⟩) a ⟨b.1.sublist (List.take_sublist _ _),fun t c=>b.2 t (Z0 c)⟩ hn
def AU {of:Xaa->Option cE} {t:Xaa × Nat} (e:t∈(dC of a).ah):∃ u,u∈a.ah/\((of u.1=none/\t.1=u.1)\/∃ y w,of u.1=some y/\w∈y.ah/\w.1=t.1):=by
 obtain ⟨p,f,c⟩:=E6 e;obtain ⟨u,g,b⟩:=cs9.1 f;refine ⟨u,g,?_⟩;unfold tg at b;cases d:of u.1 with
 | none =>
  rw [d] at b;simp only [List.mem_singleton] at b;exact Or.inl ⟨rfl,by rw [<- c,b]⟩
 | some y =>
  rw [d] at b;obtain ⟨w,h,rfl⟩:=Y9.1 b;exact Or.inr ⟨y,w,rfl,h,c⟩
def AV (h:Nf b) {S:List Xaa} (c:∀ t,t∈b->t.1∈S):b.length<=S.length:=by
 have:=mj (b.map (·.1)) S (Z3.2 (h.1.imp fun h=>kW h)) (fun s a=>by
  obtain ⟨t,d,rfl⟩:=Y9.1 a;exact c t d)
 rwa [YY] at this
def R0:Option Nat->Int
 | none=>-1
 | some k=>(k:Int)
def UR {es:List cX} {s:Xaa} {i:Nat} (hi:i<es.length) (h:∀ j,(a:j<i)->(es[j]'ad).name≠s) (b:es[i].name=s):kX es s=some i:=by
 unfold kX;rw [Zr];exact ⟨hi,Y4 b,fun j a=>by simpa using h j a⟩
def Gn {es:List cX} (v:rW I U H es) (hl:es.length<=2^60) (s:Xaa):xL Xaz 115 [.slice U H O,.string s] I (vI (R0 (kX es s))):=by
 refine fh mixed Tryz.func115 aw (o7 U H O s) ?_;unfold kN aY bj bn ay aK;have n:=v.len;refine aU (cs:=gk) (fun y m h'=>∃ i:Nat,y.2.1=(i:Int)/\m=es.length-i/\i<=es.length/\h'=I/\∀ j,j<i->(b:j<es.length)->es[j].name≠s) ((0:Int),(0:Int),()) es.length rfl
  ⟨0,rfl,rfl,ad,rfl,fun j b=>absurd b ad⟩ ?_
 rintro ⟨g,w,⟨⟩⟩ m h' ⟨i,hi,rfl,k,rfl,hn⟩;simp only at hi;subst hi;refine ak ?_;refine aP ?_ ?_<;>intro q
 ·have f:i<es.length:=ad
  obtain ⟨a,o,hc⟩:=v.cells i f;refine bP o ?_;rw [cB i];refine av (es[i].name,()) ⟨hc.1,trivial⟩ (ak ?_);rw [oL];refine aP ?_ ?_<;>intro r
  ·refine ⟨Zg (Value.int .i64) ?_,rfl⟩;rw [UR f (fun j b=>hn j b ad) r] <;> rfl
  ·refine aG (cs:=gk) (g,((i+1:Nat):Int),()) (es.length-(i+1)) rfl ad (by rw [wrap_i64 ad ad]; rfl) ?_;exact ⟨i+1,rfl,rfl,ad,rfl,fun j b t=>by
    by_cases e:j=i
    ·subst e; exact r
    ·exact hn j ad t⟩
 ·have:i=es.length:=ad
  subst this;refine ⟨Zg (Value.int .i64) ?_,rfl⟩;rw [G7 fun d u=>by
   obtain ⟨j,b,rfl⟩:=Zt u;exact hn j b b]
  rfl
end Go.Sx.Lk
namespace Go.Sx
open Go.Proofs
def Yq (a b:Xaa):Op.bytesLess (ByteArray.toList a) (ByteArray.toList b)=decide (iP a b):=by
 rw [ByteArray.toList_eq,ByteArray.toList_eq,Proofs.bytesLess_eq] <;> rfl
def UK (h:Hp) (a:Nat) (x y:dz) (N:Int) (i j:Nat) (h':Hp):Prop :=
 i<=x.length/\j<=y.length/\Ch [a] h h'/\∃ O p l c f,bF h' a 60 [.slice p l c,.int .u32 N]/\SL h' h.size 66 2 p l c (O.map dh)/\Lv x y=O++fP f (x.drop i) (y.drop j)/\(x.length-i)+(y.length-j)<=f/\O.length<=i+j
def MU (f:Nat):fP f [] []=[]:=by cases f <;> rfl
variable {H:Nat} {O:Xaa × Nat} {I U:dz}
def Ud {y:dz} (h:y=[]\/∃ q r,y=q::r/\iP O.1 q.1):fP (H+1) (O::I) y=O::fP H I y:=by
 rcases h with rfl | ⟨q,r,rfl,h⟩
 ·rfl
 ·show (if iP O.1 q.1 then _ else _)=_;rw [Y8 h]
def UB {y:dz} (h:I=[]\/∃ p r,I=p::r/\iP O.1 p.1):fP (H+1) I (O::y)=O::fP H I y:=by
 rcases h with rfl | ⟨p,r,rfl,h⟩
 ·rfl
 ·show (if iP p.1 O.1 then _ else if iP O.1 p.1 then _ else _)=_;rw [Y1 (Da h),Y8 h]
def QK {q:Xaa × Nat} {y:dz} (h1:¬ iP O.1 q.1) (h2:¬ iP q.1 O.1):fP (H+1) (O::I) (q::y)=if (O.2+q.2) % 4294967296=0 then fP H I y else (O.1,(O.2+q.2) % 4294967296)::fP H I y:=by
 show (if iP O.1 q.1 then _ else if iP q.1 O.1 then _ else _)=_;rw [Y1 h1,Y1 h2]
def Xz:dz->dz->Bool
 | [],_=>false
 | _::_,[]=>true
 | p::_,q::_=>decide (iP p.1 q.1)
def F7 (h:Xz I U=true):∃ p r,I=p::r/\(U=[]\/∃ q s,U=q::s/\iP p.1 q.1):=by
 cases I with
 | nil=>cases h
 | cons p r =>
  cases U with
  | nil=>exact ⟨p,r,rfl,.inl rfl⟩
  | cons q s=>exact ⟨p,r,rfl,.inr ⟨q,s,rfl,Y3 h⟩⟩
def DG (h:Xz I U=false):I=[]\/∃ p r q s,I=p::r/\U=q::s/\¬ iP p.1 q.1:=by
 cases I with
 | nil=>exact .inl rfl
 | cons p r =>
  cases U with
  | nil=>cases h
  | cons q s=>exact .inr ⟨p,r,q,s,rfl,rfl,Zf h⟩
def Ah {α:Type} {l r:List α} {p:α} (h:l.drop H=p::r):H<l.length:=by
 rcases ZP H l.length with h1 | h1
 ·exact h1
 ·rw [ZO h1] at h; cases h
def F9 {h:Hp} {p q:Xac} {c m d:Nat} {x y:cE} (v:ik h p H x.ah) (u:ik h q m y.ah) (hp:∀ i,i∈aF p->i<h.size) (hq:∀ i,i∈aF q->i<h.size)
  (hl:x.ah.length+y.ah.length<=2^40) :
  HC Xaz 92 #[gF p H c x,gF q m d y] h fun w h'=>Ext h h'/\∃ p' l' c',w=gF p' l' c' (yP x y)/\SL h' h.size 66 2 p' l' c' ((yP x y).ah.map dh):=by
 refine bi (args:=[.agg #[.slice p H c,.int .u32 x.num],.agg #[.slice q m d,.int .u32 y.num]]) mixed Tryz.func92 aw (rJ p H c x.num q m d y.num) ?_;unfold mT aY bj bn ay aT ax aS aK cr;have hll:=v.len;have hmm:=u.len;refine bG ?_;intro h1 b1 N z1;refine bG ?_;intro h2 b2 B z2;refine bG ?_;intro W b3 e3 z3;have b1:=(b1.ai B aj).ai e3 aj;have b2:=b2.ai e3 aj;rw [aC,aC];refine az b1 ((x.num:Int),()) (ak ?_);refine az b2 ((y.num:Int),()) (ak ?_);refine bG ?_;intro h4 b4 e4 z4;refine bQ b4 ?_;intro h5 b5 k5 z5;rw [J3] at b5;have b5:bF h5 W.size 60 [.slice none 0 0,.int .u32 (((x.num+y.num) % 4294967296:Nat):Int)]:=b5;have P:Ext W h5:=bZ e4 k5;have b1:=b1.ai P aj;have b2:=b2.ai P aj;have b3:=b3.ai P aj;have e05:=((N.trans B).trans e3).trans P;have hz5:=e05.size;refine aU (cs:=gk) (fun z w h'=>∃ i j:Nat,z.1=(i:Int)/\z.2.1=(j:Int)/\w=(x.ah.length-i)+(y.ah.length-j)/\UK h5 W.size x.ah y.ah (((x.num+y.num) % 4294967296:Nat):Int) i j h')
  ((0:Int),(0:Int),()) (x.ah.length+y.ah.length) rfl ⟨0,0,rfl,rfl,rfl,cm9 _,cm9 _,Ch.refl _ _,[],none,0,0,x.ah.length+y.ah.length,b5,SL.nil _ _ _ _,rfl,ad,aj⟩ ?_
 rintro ⟨n1,n2,⟨⟩⟩ w h6 ⟨i,j,hi,I,rfl,hil,hjl,X,O,C,lo,co,f,D,Y,hO,hf,hOl⟩;simp only at hi I;subst hi I;refine ak ?_;have hb5:=b5.lt;have hz6:=X.size;have b1:=b1.ai X (by simp; omega);have b2:=b2.ai X (by simp; omega);have b3:=b3.ai X (by simp; omega);have Z:Ext h h6:=bZ e05 X;have v6:=v.ai Z aj;have u6:=u.ai Z aj;have hlo:lo=O.length:=by rw [Y.1,YY]
 have hwi:=iC i;have hwj:=iC j;have n:∀ i,i∈aF C->h5.size<=i:=fun i hi=>(Y.cj hi).1
 have hpm:∀ (k:Nat) (a:Xax) (w:dz) (vs:List Xab),(some a=p\/some a=q)->aI h6 (a.add (k*2)) 0 vs->∀ h',Ch (aF C) h6 h'->aI h' (a.add (k*2)) 0 vs:=fun k a w vs s hc h' kk=>aX kk (by
  rw [fv];intro hm;have h1:=n _ hm;rcases s with s | s
  ·have:=hp a.block (by rw [<- s]; simp [aF]); omega
  ·have:=hq a.block (by rw [<- s]; simp [aF]); omega) _ _ hc
 have push:∀ (t:Xaa × Nat) (i' j':Nat) (r:Hp) (J:Xac) (K:Nat),i'<=x.ah.length->j'<=y.ah.length->i+j+1<=i'+j'->fP f (x.ah.drop i) (y.ah.drop j)=t::fP (f-1) (x.ah.drop i') (y.ah.drop j')->(x.ah.length-i')+(y.ah.length-j')<=f-1 ->
   SL r h5.size 66 2 J (lo+1) K (O.map dh++[dh t])->Ch (aF C) h6 r->∀ h8,bF h8 W.size 60 [.slice J (lo+1) K,.int .u32 (((x.num+y.num) % 4294967296:Nat):Int)]->Ch [W.size] r h8->UK h5 W.size x.ah y.ah (((x.num+y.num) % 4294967296:Nat):Int) i' j' h8:=by
  intro t i' j' r J K hi' hj' hij L hf' Q o h8 b8 R;refine ⟨hi',hj',Ch.trans (Ch.trans X o (fun j I hl=>by have:=n j I; omega)) R (fun j I _=>I),O++[t],J,lo+1,K,f-1,b8,?_,?_,hf',by simp; omega⟩
  ·rw [Za];exact Q.br R (fun j I=>by have:=(Q.cj I).1; simp; omega)
  ·rw [hO,L]; simp
 refine fJ (cs:=px) (fun z h'=>z.1=(decide (i<x.ah.length) || decide (j<y.ah.length))/\h6=h') ?_ ?_
 ·refine az b1 ((p,H,c),()) (ak ?_);refine aP ?_ ?_<;>intro g1
  ·refine dE (cs:=px) (true,()) rfl rfl ⟨?_,rfl⟩;rw [Y4 (show i<x.ah.length from ad)] <;> rfl
  ·refine az b2 ((q,m,d),()) (ak ?_);refine dE (cs:=px) (decide ((j:Int)<(m:Int)),()) rfl rfl ⟨?_,rfl⟩;rw [Y6 (show ¬ i<x.ah.length from ad),bu9];show decide ((j:Int)<(m:Int))=decide (j<y.ah.length);rw [cr9];omega
 rintro ⟨b10,⟨⟩⟩ h6' ⟨S,rfl⟩;simp only at S;subst S;refine ak ?_;refine ao ?_ ?_<;>intro g1
 ·simp only [Bool.or_eq_true,decide_eq_true_eq] at g1;obtain ⟨M,rfl⟩:∃ M,f=M+1:=⟨f-1,ad⟩
  refine fJ (cs:=px) (fun z h'=>z.1=Xz (x.ah.drop i) (y.ah.drop j)/\h6=h') ?_ ?_
  ·refine az b2 ((q,m,d),()) (ak ?_);refine ao ?_ ?_<;>intro g2
   ·have g2:(j:Int)=(m:Int):=by simpa using g2
    refine dE (cs:=px) (true,()) rfl rfl ⟨?_,rfl⟩;rw [show y.ah.drop j=[] from ZO ad,Zj (l:=x.ah) (i:=i) ad] <;> rfl
   ·have g2:¬ (j:Int)=(m:Int):=by simpa using g2
    have hjlt:j<y.ah.length:=ad
    refine az b1 ((p,H,c),()) (ak ?_);refine aP ?_ ?_<;>intro g3
    ·have hilt:i<x.ah.length:=ad
     have b:x.ah.drop i=x.ah[i]::x.ah.drop (i+1):=Zj hilt;have g:y.ah.drop j=y.ah[j]::y.ah.drop (j+1):=Zj hjlt;obtain ⟨a,s,hc⟩:=v6.cells i hilt;obtain ⟨a',E,F⟩:=u6.cells j hjlt;subst s E;refine az b1 ((some a,H,c),()) (ak ?_);refine bP rfl ?_;rw [cB i];refine av (x.ah[i].1,()) (dk hc).1 (ak ?_);refine az b2 ((some a',m,d),()) (ak ?_);refine bP rfl ?_;rw [cB j];refine av (y.ah[j].1,()) (dk F).1 (ak ?_);rw [Yq];refine dE (cs:=px) (decide (iP x.ah[i].1 y.ah[j].1),()) rfl rfl ⟨?_,rfl⟩;rw [b,g] <;> rfl
    ·refine dE (cs:=px) (false,()) rfl rfl ⟨?_,rfl⟩;rw [show x.ah.drop i=[] from ZO ad] <;> rfl
  rintro ⟨b11,⟨⟩⟩ h6' ⟨U,rfl⟩;simp only at U;subst U;refine ak ?_;refine ao ?_ ?_<;>intro g2
  ·obtain ⟨pp,rr,A,hor⟩:=F7 g2;have hilt:=Ah A;have b:x.ah.drop i=x.ah[i]::x.ah.drop (i+1):=Zj hilt;rw [b] at A;cases A;have L:fP (M+1) (x.ah.drop i) (y.ah.drop j)=x.ah[i]::fP (M+1-1) (x.ah.drop (i+1)) (y.ah.drop j):=by
    rw [b];exact Ud hor
   obtain ⟨a,s,hc⟩:=v6.cells i hilt;subst s;refine az D ((C,lo,co),()) (ak ?_);refine az b1 ((some a,H,c),()) (ak ?_);refine bP rfl ?_;rw [cB i];refine av (x.ah[i].1,(x.ah[i].2:Int),()) hc (ak ?_);refine gn (vs:=dh x.ah[i]) uH rp rfl ad ad aw rfl rfl Y ad ad ad (fun h' e=>⟨(b1.ai e aj).cells _ rfl,(D.ai e aj).cells _ rfl,trivial⟩) ?_;intro J K r Q o hp7;have b17:=b1.ai o (fun G=>by have:=n _ G; omega);have b67:=D.ai o (fun G=>by have:=n _ G; omega);refine ⟨⟨hpm i a x.ah _ (.inl rfl) hc r o,b17.cells _ rfl,trivial⟩,?_⟩;refine bQ b67 ?_;intro h8 b8 R z8;refine aG (cs:=gk) (((i+1:Nat):Int),(j:Int),()) ((x.ah.length-(i+1))+(y.ah.length-j)) rfl ad (by rw [hwi]; rfl) ⟨i+1,j,rfl,rfl,rfl,?_⟩;exact push _ (i+1) j r J K ad hjl ad L ad Q o h8 b8 R
  ·have g2:=DG g2;refine fJ (cs:=px) (fun z h'=>z.1=Xz (y.ah.drop j) (x.ah.drop i)/\h6=h') ?_ ?_
   ·refine az b1 ((p,H,c),()) (ak ?_);refine ao ?_ ?_<;>intro g3
    ·have g3:(i:Int)=(H:Int):=by simpa using g3
     refine dE (cs:=px) (true,()) rfl rfl ⟨?_,rfl⟩;rw [show x.ah.drop i=[] from ZO ad,Zj (l:=y.ah) (i:=j) ad] <;> rfl
    ·have g3:¬ (i:Int)=(H:Int):=by simpa using g3
     have hilt:i<x.ah.length:=ad
     have hjlt:j<y.ah.length:=by
      rcases ZP j y.ah.length with h | h
      ·exact h
      ·rcases g2 with g2 | ⟨_,_,_,_,_,g2,_⟩
       ·have:=List.drop_eq_nil_iff.1 g2; omega
       ·rw [ZO h] at g2; cases g2
     have b:x.ah.drop i=x.ah[i]::x.ah.drop (i+1):=Zj hilt;have g:y.ah.drop j=y.ah[j]::y.ah.drop (j+1):=Zj hjlt;obtain ⟨a,s,hc⟩:=v6.cells i hilt;obtain ⟨a',E,F⟩:=u6.cells j hjlt;subst s E;refine az b2 ((some a',m,d),()) (ak ?_);refine bP rfl ?_;rw [cB j];refine av (y.ah[j].1,()) (dk F).1 (ak ?_);refine az b1 ((some a,H,c),()) (ak ?_);refine bP rfl ?_;rw [cB i];refine av (x.ah[i].1,()) (dk hc).1 (ak ?_);rw [Yq];refine dE (cs:=px) (decide (iP y.ah[j].1 x.ah[i].1),()) rfl rfl ⟨?_,rfl⟩;rw [b,g] <;> rfl
   rintro ⟨b12,⟨⟩⟩ h6' ⟨V,rfl⟩;simp only at V;subst V;refine ak ?_;refine ao ?_ ?_<;>intro g3
   ·obtain ⟨pp,rr,A,hor⟩:=F7 g3;have hjlt:=Ah A;have g:y.ah.drop j=y.ah[j]::y.ah.drop (j+1):=Zj hjlt;rw [g] at A;cases A;have L:fP (M+1) (x.ah.drop i) (y.ah.drop j)=y.ah[j]::fP (M+1-1) (x.ah.drop i) (y.ah.drop (j+1)):=by
     rw [g];exact UB hor
    obtain ⟨a,s,hc⟩:=u6.cells j hjlt;subst s;refine az D ((C,lo,co),()) (ak ?_);refine az b2 ((some a,m,d),()) (ak ?_);refine bP rfl ?_;rw [cB j];refine av (y.ah[j].1,(y.ah[j].2:Int),()) hc (ak ?_);refine gn (vs:=dh y.ah[j]) uH rp rfl ad ad aw rfl rfl Y ad ad ad (fun h' e=>⟨(b2.ai e aj).cells _ rfl,(D.ai e aj).cells _ rfl,trivial⟩) ?_;intro J K r Q o hp7;have b27:=b2.ai o (fun G=>by have:=n _ G; omega);have b67:=D.ai o (fun G=>by have:=n _ G; omega);refine ⟨⟨hpm j a y.ah _ (.inr rfl) hc r o,b27.cells _ rfl,trivial⟩,?_⟩;refine bQ b67 ?_;intro h8 b8 R z8;refine aG (cs:=gk) ((i:Int),((j+1:Nat):Int),()) ((x.ah.length-i)+(y.ah.length-(j+1))) rfl ad (by rw [hwj]; rfl) ⟨i,j+1,rfl,rfl,rfl,?_⟩;exact push _ i (j+1) r J K hil ad ad L ad Q o h8 b8 R
   ·have g3:=DG g3;have hb:i<x.ah.length/\j<y.ah.length:=by
     rcases g2 with g2 | ⟨_,_,_,_,N,B,_⟩
     ·have h1:=List.drop_eq_nil_iff.1 g2;rcases g3 with g3 | ⟨_,_,_,_,_,B,_⟩
      ·have h2:=List.drop_eq_nil_iff.1 g3; omega
      ·rw [g2] at B; cases B
     ·exact ⟨Ah N,Ah B⟩
    obtain ⟨hilt,hjlt⟩:=hb;have b:x.ah.drop i=x.ah[i]::x.ah.drop (i+1):=Zj hilt;have g:y.ah.drop j=y.ah[j]::y.ah.drop (j+1):=Zj hjlt;have n1:¬ iP x.ah[i].1 y.ah[j].1:=by
     rcases g2 with g2 | ⟨_,_,_,_,N,B,hn⟩
     ·rw [b] at g2; cases g2
     ·rw [b] at N; rw [g] at B; cases N; cases B; exact hn
    have n2:¬ iP y.ah[j].1 x.ah[i].1:=by
     rcases g3 with g3 | ⟨_,_,_,_,N,B,hn⟩
     ·rw [g] at g3; cases g3
     ·rw [g] at N; rw [b] at B; cases N; cases B; exact hn
    have L:fP (M+1) (x.ah.drop i) (y.ah.drop j)=if (x.ah[i].2+y.ah[j].2) % 4294967296=0 then fP M (x.ah.drop (i+1)) (y.ah.drop (j+1)) else (x.ah[i].1,(x.ah[i].2+y.ah[j].2) % 4294967296)::fP M (x.ah.drop (i+1)) (y.ah.drop (j+1)):=by
     rw [b,g];exact QK n1 n2
    obtain ⟨a,s,hc⟩:=v6.cells i hilt;obtain ⟨a',E,F⟩:=u6.cells j hjlt;subst s E;refine az b1 ((some a,H,c),()) (ak ?_);refine bP rfl ?_;rw [cB i];refine av ((x.ah[i].2:Int),()) (dk hc).2 (ak ?_);refine az b2 ((some a',m,d),()) (ak ?_);refine bP rfl ?_;rw [cB j];refine av ((y.ah[j].2:Int),()) (dk F).2 (ak ?_);rw [J3];refine fJ (cs:=[]) (fun z h'=>UK h5 W.size x.ah y.ah (((x.num+y.num) % 4294967296:Nat):Int) (i+1) (j+1) h') ?_ ?_
    ·refine ao ?_ ?_<;>intro g4
     ·have g4:¬ (x.ah[i].2+y.ah[j].2) % 4294967296=0:=by
       have:¬ (((x.ah[i].2+y.ah[j].2) % 4294967296:Nat):Int)=0:=by simpa using g4
       omega
      rw [Y1 g4] at L;refine az D ((C,lo,co),()) (ak ?_);refine az b1 ((some a,H,c),()) (ak ?_);refine bP rfl ?_;refine av (x.ah[i].1,()) (dk hc).1 (ak ?_);refine gn (vs:=dh (x.ah[i].1,(x.ah[i].2+y.ah[j].2) % 4294967296)) uH rp rfl ad ad aw rfl rfl Y ad ad ad (fun h' e=>⟨aX e aj _ _ (dk hc).1,(b1.ai e aj).cells _ rfl,(D.ai e aj).cells _ rfl,trivial⟩) ?_;intro J K r Q o hp7;have b17:=b1.ai o (fun G=>by have:=n _ G; omega);have b67:=D.ai o (fun G=>by have:=n _ G; omega);refine ⟨⟨hpm i a x.ah _ (.inl rfl) (dk hc).1 r o,b17.cells _ rfl,trivial⟩,?_⟩;refine bQ b67 ?_;intro h8 b8 R z8;exact dE (cs:=[]) () rfl rfl (push _ (i+1) (j+1) r J K ad ad ad L ad Q o h8 b8 R)
     ·have g4:(x.ah[i].2+y.ah[j].2) % 4294967296=0:=by
       have:(((x.ah[i].2+y.ah[j].2) % 4294967296:Nat):Int)=0:=by simpa using g4
       omega
      rw [Y8 g4] at L;exact dE (cs:=[]) () rfl rfl ⟨ad,ad,X,O,C,lo,co,M,D,Y,by rw [hO,L],ad,ad⟩
    ·rintro ⟨⟩ r I7;exact aG (cs:=gk) (((i+1:Nat):Int),((j+1:Nat):Int),()) ((x.ah.length-(i+1))+(y.ah.length-(j+1))) rfl ad (by rw [hwi,hwj]; rfl) ⟨i+1,j+1,rfl,rfl,rfl,I7⟩
 ·simp only [Bool.or_eq_false_iff,decide_eq_false_iff_not] at g1;rw [ZO ad,ZO ad,MU,Z2] at hO;refine az D ((C,lo,co),(((x.num+y.num) % 4294967296:Nat):Int),()) (ak ?_);refine bQ b3 ?_;intro r b7 o z7;have b7:bF r h2.size 60 [.slice C lo co,.int .u32 (((x.num+y.num) % 4294967296:Nat):Int)]:=b7;refine az b7 ((C,lo,co),(((x.num+y.num) % 4294967296:Nat):Int),()) ?_;refine ⟨bZ Z o,C,lo,co,rfl,?_⟩;show SL r h.size 66 2 C lo co ((Lv x.ah y.ah).map dh);rw [hO];exact (Y.br o (fun j I=>by have:=n j I; simp; omega)).mono ad
end Go.Sx
namespace Go.Sx.Lk
open Go.Proofs Go.Sx.Ob
def Tg (q:Nat) (p b:Xax) (r:Int):T :=
  T.af p [.slice 66,.int .u32] <| fun (c:Xac) (d e:Nat) (f:Int) =>
  T.af b [.slice 66,.int .u32] <| fun (g:Xac) (h j:Nat) (k:Int) =>
  bz 92 [.agg #[.slice c d e,ax f],.agg #[.slice g h j,ax k]] false [(true,[.slice 66,.int .u32])] <| fun (l:Xac) (m n:Nat) (o:Int) =>
  T.ar p [.slice l m n,ax o] <|
  T.again q [vI (bC (r+(1:Int)))]
variable {V:Lp} {Y:Xab->Hp->Prop} {I Z:Xac} {d:Int}
def Hd {h:Hp} {lv b c e c5 f m:Nat} {o y:cE} (g:bF h b 60 [.slice I e c5,.int .u32 o.num]) (k:bF h c 60 [.slice Z f m,.int .u32 y.num])
  (r:ik h I e o.ah) (s:ik h Z f y.ah) (t:∀ i,i∈aF I->i<h.size) (u:∀ i,i∈aF Z->i<h.size) (hl:o.ah.length+y.ah.length<=2^40)
  (hk:∀ p' l' c' h',Ch [b] h h'->bF h' b 60 [.slice p' l' c',.int .u32 (yP o y).num]->SL h' h.size 66 2 p' l' c' ((yP o y).ah.map dh)->T.again lv [vI (IntKind.wrap .i64 (d+(1:Int)))] V Y h') :
  Tg lv ⟨b,0,none⟩ ⟨c,0,none⟩ d V Y h:=by
 unfold Tg bz bC ax;refine az g ((I,e,c5),(o.num:Int),()) (ak ?_);refine az k ((Z,f,m),(y.num:Int),()) (ak ?_);refine aJ (F9 r s t u hl) ?_;rintro _ h1 ⟨n,p',l',c',rfl,p⟩;refine ⟨((p',l',c'),((yP o y).num:Int),()),rfl,ak ?_⟩;refine bQ (g.ai n aj) ?_;intro h2 b2 q z2;have b2:bF h2 b 60 [.slice p' l' c',.int .u32 ((yP o y).num:Int)]:=b2;have hg:=g.lt;exact hk p' l' c' h2 (Ch.trans (Ch.mono n aj) q (fun j l hl=>l)) b2 (p.br q (fun j l=>by have:=(p.cj l).1; simp; omega))
variable {H:Hp}
def Wn {g:Nat} {s:Xaa} {n:Nat} (b:bF H g 66 [.string s,.int .u32 n]):ik H (some ⟨g,0,none⟩) 1 [(s,n)] :=
 ⟨rfl,fun i hi=>by
  have:i=0:=by simpa using hi
  subst this;exact ⟨_,rfl,by rw [aC]; exact b.cells _ rfl⟩⟩
def CJ {es:List cX} {s:Xaa} {k:Nat} (h:kX es s=some k):∃ hk:k<es.length,cF es s=some es[k].x:=by
 have h0:=h;unfold kX at h;rw [Zr] at h;obtain ⟨hk,_⟩:=h;refine ⟨hk,?_⟩;unfold cF cG dH;rw [h0];simp [hk]
def C1 {es:List cX} {s:Xaa} (h:kX es s=none):cF es s=none:=by
 unfold cF cG;rw [h,Y1 aj]
variable {U:cE}
def GQ {es:List cX} {s:Xaa} (h:cF es s=some U):∃ e,e∈es/\U=e.x:=by
 cases b:kX es s with
 | none=>rw [C1 b] at h; cases h
 | some k =>
  obtain ⟨hk,h1⟩:=CJ b;rw [h1] at h;exact ⟨_,Y5 hk,(Zl h).symm⟩
def JU {es:List cX} {S:List Xaa} (b:∀ t,t∈U.ah->t.1∈S) (c:∀ e,e∈es->∀ t,t∈e.x.ah->t.1∈S):∀ t,t∈(dC (cF es) U).ah->t.1∈S:=by
 intro t f;obtain ⟨u,g,h | ⟨y,w,j,k,l⟩⟩:=AU f
 ·rw [h.2]; exact b u g
 ·obtain ⟨e,d,rfl⟩:=GQ j;rw [<- l]; exact c e d w k
def Kb {l c m d:Nat} {es:List cX} (v:ik H I l U.ah) (u:rW H Z m es) (hp:∀ i,i∈aF I->i<H.size) (hb:∀ e,e∈es->∀ i,i∈aF e.p->i<H.size)
  (hm:es.length<=2^40) (hx:Nf U.ah) (hn:U.num<4294967296) (R:∀ e,e∈es->Nf e.x.ah) {S:List Xaa} (hS:S.length<=2^30) (V:∀ t,t∈U.ah->t.1∈S) (X:∀ e,e∈es->∀ t,t∈e.x.ah->t.1∈S) :
  HC Xaz 94 #[gF I l c U,.slice Z m d] H fun w h'=>Ext H h'/\∃ p' l' c',w=gF p' l' c' (dC (cF es) U)/\SL h' H.size 66 2 p' l' c' ((dC (cF es) U).ah.map dh):=by
 refine bi (args:=[.agg #[.slice I l c,.int .u32 U.num],.slice Z m d]) mixed Tryz.func94 aw (qZ I l c U.num Z m d) ?_;unfold ly aY bj bn ay dl bz aT ax aS aK;have hll:=v.len;have hmm:=u.len;have Y:∀ s y,cF es s=some y->Nf y.ah:=fun s y hy=>by
  obtain ⟨e,he,rfl⟩:=GQ hy;exact R e he
 have hlx:=AV hx V;refine bG ?_;intro h1 b1 e1 z1;refine bG ?_;intro h2 b2 e2 z2;have b1:=b1.ai e2 aj;rw [aC];refine az b1 ((U.num:Int),()) (ak ?_);refine bG ?_;intro h3 b3 e3 z3;refine bQ b3 ?_;intro h4 b4 k4 z4;have b4:bF h4 h2.size 60 [.slice none 0 0,.int .u32 (U.num:Int)]:=b4;have E:Ext h2 h4:=bZ e3 k4;have b1:=b1.ai E aj;have b2:=b2.ai E aj;have e04:=(e1.trans e2).trans E;have hb4:=b4.lt;have hz04:=e04.size;refine aU (cs:=cn) (fun y w h'=>∃ (i:Nat) (Z:Xac) (m d:Nat),y.1=(i:Int)/\i<=U.ah.length/\w=U.ah.length-i/\Ch [h2.size] h4 h'/\bF h' h2.size 60 [.slice Z m d,.int .u32 (((U.ah.take i).foldl (gy (cF es)) ⟨[],U.num⟩).num:Int)] /\
  SL h' h4.size 66 2 Z m d (((U.ah.take i).foldl (gy (cF es)) ⟨[],U.num⟩).ah.map dh)) ((0:Int),()) U.ah.length rfl ⟨0,none,0,0,rfl,ad,ad,Ch.refl _ _,b4,SL.nil _ _ _ _⟩ ?_
 rintro ⟨n8,⟨⟩⟩ w h5 ⟨i,q5,m5,d5,hi,hile,rfl,k5,b5,C⟩;simp only at hi;subst hi;refine ak ?_;have b15:=b1.ai k5 (by simp; omega);have hz5:=k5.size;have F:Ext H h5:=bZ e04 k5;have v5:=v.ai F aj;have u5:=u.ai F;refine az b15 ((I,l,c),()) (ak ?_);have hw:=iC i;have hacc:=Cz Y hx hn i;have hal:((U.ah.take i).foldl (gy (cF es)) ⟨[],U.num⟩).ah.length<=S.length:=by
  rw [hacc];exact AV (ft _ _) (JU (fun t ht=>V t (Z0 ht)) X)
 refine aP ?_ ?_<;>intro g1
 ·have n:i<U.ah.length:=ad
  have G:(U.ah.take (i+1)).foldl (gy (cF es)) ⟨[],U.num⟩=gy (cF es) ((U.ah.take i).foldl (gy (cF es)) ⟨[],U.num⟩) U.ah[i]:=by
   rw [Y2 n,ZW] <;> rfl
  obtain ⟨a,rfl,hc⟩:=v5.cells i n;have htm:=Y5 n;generalize U.ah[i]=t at hc G htm;generalize hA:(U.ah.take i).foldl (gy (cF es)) ⟨[],U.num⟩=A at b5 C hal G hacc;obtain ⟨c1,c2⟩:=dk hc;have hab:=hp a.block (by simp [aF]);refine az b15 ((some a,l,c),()) (ak ?_);refine bP rfl ?_;rw [cB i];refine av (t.1,()) c1 (ak ?_);refine nw (Gn u5 ad t.1) ?_;refine az b15 ((some a,l,c),()) (ak ?_);refine bP rfl ?_;refine av (t.1,(t.2:Int),()) hc (ak ?_);refine mF Ir rp ad ad (Ig _ _) ?_;intro P b6 e6 z6;refine bG ?_;intro h7 b7 e7 z7;refine bQ b7 ?_;intro h8 b8 k8 z8;have b8:bF h8 P.size 60 [.slice (some ⟨h5.size,0,none⟩) 1 1,.int .u32 ((0:Nat):Int)]:=b8;have b:Ext h5 h8:=bZ (e6.trans e7) k8;have b68:=b6.ai (bZ e7 k8:Ext P h8) aj;have b58:=b5.ai b aj;have b18:=b15.ai b aj;have s8:=C.br b (fun j f=>aj)
  have r:∀ y:cE,Jd (cF es) t=y->∀ p' l' c' h',Ext h5 h8->∀ h9,Ch [P.size] h8 h9->Ch [h2.size] h9 h'->bF h' h2.size 60 [.slice p' l' c',.int .u32 (yP A y).num] ->
    SL h' h9.size 66 2 p' l' c' ((yP A y).ah.map dh)->Ch [h2.size] h4 h'/\bF h' h2.size 60 [.slice p' l' c',.int .u32 (((U.ah.take (i+1)).foldl (gy (cF es)) ⟨[],U.num⟩).num:Int)] /\
     SL h' h4.size 66 2 p' l' c' (((U.ah.take (i+1)).foldl (gy (cF es)) ⟨[],U.num⟩).ah.map dh):=by
   intro y hy p' l' c' h' _ h9 Q k9 b9 s9;rw [G];unfold gy;rw [hy]
   have:=b.size
   have:=Q.size
   exact ⟨Ch.trans (Ch.trans (Ch.trans k5 b aj) Q (fun j f hl=>by simp at f; omega)) k9 (fun j f _=>f),b9,s9.mono ad⟩
  refine aP ?_ ?_<;>intro g2
  ·cases g:kX es t.1 with
   | none=>rw [g] at g2; exact absurd g2 (by unfold R0; decide)
   | some k =>
    obtain ⟨hk,hlo⟩:=CJ g;obtain ⟨ae,rfl,J⟩:=(u5.ai b).cells k hk;have hem:=Y5 hk;have vy:=(u5.ai b).fI _ hem;generalize es[k]=e at J hem vy hlo;have hble:=hb e hem;have hyl:=AV (R e hem) (X e hem);refine dA ⟨by show (0:Int)<=(k:Int); omega,by show (k:Int)<_; omega⟩ (aH rfl ?_);rw [show Int.toNat (R0 (some k))=k from Int.toNat_natCast k];refine av ((e.p,e.l,e.c),(e.x.num:Int),()) ⟨by rw [add_add]; exact J.2.1,by rw [add_add]; exact J.2.2.1,trivial⟩ ?_;refine ak ?_;refine az b18 ((some a,l,c),()) (ak ?_);refine bP rfl ?_;refine av ((t.2:Int),()) (aX b aj _ _ c2) (ak ?_)
    have:=b.size
    refine aJ (It vy ad (fun j f=>by have:=hble j f; omega) t.2) ?_;rintro _ h9 ⟨Q,p9,l9,c9,rfl,s9⟩;refine ⟨((p9,l9,c9),((DM e.x t.2).num:Int),()),rfl,ak ?_⟩;refine ⟨⟨(b18.ai Q aj).cells _ rfl,trivial⟩,?_⟩;refine bQ (b8.ai Q aj) ?_;intro h10 K k10 z10;have K:bF h10 P.size 60 [.slice p9 l9 c9,.int .u32 ((DM e.x t.2).num:Int)]:=K;have D:Ch [P.size] h8 h10:=Ch.trans (Ch.mono Q aj) k10 (fun j f hl=>f);have B:Ext h5 h10:=bZ b D;refine Hd (lv:=0) (o:=A) (y:=DM e.x t.2) (b5.ai B aj) K (C.br B (fun j f=>aj)).Qk (s9.br k10 (fun j f=>by have:=(s9.cj f).1; simp; omega)).Qk
     (fun j f=>by have:=(C.cj f).2; have:=B.size; omega) (fun j f=>by have:=(s9.cj f).2; omega) (by have:=Ci t.2 e.x.ah; show A.ah.length+(fO t.2 e.x.ah).length<=_; omega) ?_
    intro p' l' c' L M N O;obtain ⟨r1,r2,r3⟩:=r (DM e.x t.2) (by unfold Jd; rw [hlo]) p' l' c' L b h10 D M N O;exact aG (cs:=cn) (((i+1:Nat):Int),()) (U.ah.length-(i+1)) rfl ad (Zg (fun z=>[Value.int .i64 z]) hw) ⟨i+1,p',l',c',rfl,ad,rfl,r1,r2,r3⟩
  ·have g:kX es t.1=none:=by
    cases g:kX es t.1 with
    | none=>rfl
    | some k=>rw [g] at g2; exact absurd (show (0:Int)<=((k:Nat):Int) from ad) g2
   refine Hd (lv:=0) (o:=A) (y:=⟨[t],0⟩) b58 b8 s8.Qk (Wn b68) (fun j f=>by have:=(C.cj f).2; have:=b.size; omega) (fun j f=>by simp [aF] at f; have:=b.size; have:=b68.lt; omega) (by show A.ah.length+1<=_; omega) ?_;intro p' l' c' L M N O;obtain ⟨r1,r2,r3⟩:=r ⟨[t],0⟩ (by unfold Jd; rw [C1 g]) p' l' c' L b h8 ((Ch.refl [P.size] h8)) M N O;exact aG (cs:=cn) (((i+1:Nat):Int),()) (U.ah.length-(i+1)) rfl ad (Zg (fun z=>[Value.int .i64 z]) hw) ⟨i+1,p',l',c',rfl,ad,rfl,r1,r2,r3⟩
 ·have hi:i=U.ah.length:=ad
  subst hi;rw [ZA,EY Y hx hn] at b5 C;refine az b5 ((q5,m5,d5),((dC (cF es) U).num:Int),()) (ak ?_);refine bQ (b2.ai k5 (by simp; omega)) ?_;intro h7 b7 k7 z7;have b7:bF h7 h1.size 60 [.slice q5 m5 d5,.int .u32 ((dC (cF es) U).num:Int)]:=b7;refine az b7 ((q5,m5,d5),((dC (cF es) U).num:Int),()) ?_;exact ⟨bZ F k7,q5,m5,d5,rfl,(C.br k7 (fun j f=>by have:=(C.cj f).1; simp; omega)).mono ad⟩
def wv {es:List cX} {s:Xaa} {j:Nat} (h:kX es s=some j):∃ e,es[j]?=some e/\e.name=s:=by
 unfold kX at h;rw [Zr] at h;obtain ⟨b,h1,_⟩:=h;exact ⟨es[j],YZ b,by simpa using h1⟩
def Sw {es:List cX} (hn:(bh es).Nodup) {i j:Nat} {d e:cX} (hi:es[i]?=some d) (b:es[j]?=some e) (h:d.name=e.name):i=j:=by
 obtain ⟨h1,rfl⟩:=Zn.1 hi;obtain ⟨h2,rfl⟩:=Zn.1 b;refine (List.getElem_inj (h₀:=by unfold bh; rw [YY]; exact h1) (h₁:=by unfold bh; rw [YY]; exact h2) hn).1 ?_;unfold bh;rw [Y7,Y7];exact h
def Kp {es:List cX} (hn:(bh es).Nodup) {k j:Nat} {e:cX} (f:es[k]?=some e) {t:Xaa × Nat} (g:t∈e.x.ah) (c:kX es t.1=some j):∃ d,es[j]?=some d/\dJ es e.name d.name:=by
 obtain ⟨d,h,b⟩:=wv c;refine ⟨d,h,?_,?_⟩
 ·rw [lX,rf hn (ZU f)];exact ⟨t,g,b.symm⟩
 ·unfold cG;rw [b,c] <;> rfl
def RS {es:List cX} (hn:(bh es).Nodup) {k:Nat} {e:cX} (f:es[k]?=some e) {z:Xaa} (h:dJ es e.name z):∃ t,t∈e.x.ah/\∃ j d,kX es t.1=some j/\es[j]?=some d/\d.name=z:=by
 obtain ⟨h1,h2⟩:=h;rw [lX,rf hn (ZU f)] at h1;obtain ⟨t,g,rfl⟩:=h1;unfold cG at h2;obtain ⟨j,c⟩:=ZZ.1 h2;obtain ⟨d,l,b⟩:=wv c;exact ⟨t,g,j,d,c,l,b⟩
structure qK (es:List cX) (i0:Nat) (a:Xaa) (kc i:Nat) (W:List Nat) (sn:List Bool):Prop where
 len:sn.length=es.length
 TK:∀ w,w∈W->∃ e,es[w]?=some e/\qU (dJ es) a e.name
 src:sn[i0]?≠some true
 cl:∀ k e,es[k]?=some e->(k=i0\/sn[k]?=some true)->k∉W->∀ m t,e.x.ah[m]?=some t->(k=kc->m<i)->∀ j,kX es t.1=some j->j≠i0/\sn[j]?=some true
variable {es:List cX} {i0 kc i:Nat} {a:Xaa} {W:List Nat} {sn:List Bool}
def qK.start {e:cX} (b:es[i0]?=some e) (f:e.name=a):qK es i0 a es.length 0 [i0] (List.replicate es.length false):=by
 have c:∀ k:Nat,(List.replicate es.length false)[k]?≠some true:=by
  intro k h
  have:=ZU h
  rw [List.mem_replicate] at this;cases this.2
 refine ⟨aj,fun w d=>?_,c i0,fun k e b h hk=>?_⟩
 ·rw [Zh] at d;subst d;exact ⟨e,b,by rw [f]; exact .refl _⟩
 ·rcases h with h | h
  ·subst h; simp at hk
  ·exact absurd h (c k)
def qK.pop (s:qK es i0 a es.length 0 (W++[kc]) sn):qK es i0 a kc 0 W sn/\∃ e,es[kc]?=some e/\qU (dJ es) a e.name:=by
 refine ⟨⟨s.len,fun w d=>s.TK w (by simp [d]),s.src,fun k e c h hk m t f g j l=>?_⟩,s.TK kc aj⟩
 by_cases b:k=kc
 ·exact absurd (g b) ad
 ·refine s.cl k e c h (by simp [hk,b]) m t f (fun n=>?_) j l;obtain ⟨hl,_⟩:=Zn.1 c;omega
def qK.skip (s:qK es i0 a kc i W sn) {e:cX} (n:es[kc]?=some e) {t:Xaa × Nat} (o:e.x.ah[i]?=some t) (h:∀ j,kX es t.1=some j->j≠i0/\sn[j]?=some true):qK es i0 a kc (i+1) W sn:=by
 refine ⟨s.len,s.TK,s.src,fun k d c p hk m u f q j l=>?_⟩
 by_cases hc:k=kc/\m=i
 ·obtain ⟨rfl,rfl⟩:=hc;rw [n] at c;cases c;rw [o] at f;cases f;exact h j l
 ·refine s.cl k d c p hk m u f (fun b=>?_) j l
  have:=q b
  have:m≠i:=fun g=>hc ⟨b,g⟩
  omega
def qK.push (s:qK es i0 a kc i W sn) (hn:(bh es).Nodup) {e:cX} (B:es[kc]?=some e) (G:qU (dJ es) a e.name) {t:Xaa × Nat} (C:e.x.ah[i]?=some t) {j:Nat} (D:kX es t.1=some j) (h0:j≠i0) :
  qK es i0 a kc (i+1) (W++[j]) (sn.set j true):=by
 obtain ⟨d,E,n⟩:=Kp hn B (ZU C) D;obtain ⟨o,_⟩:=Zn.1 E;have c:(sn.set j true)[j]?=some true:=by rw [bl9 (by rw [s.len]; exact o)]
 have p:∀ x:Nat,sn[x]?=some true->(sn.set j true)[x]?=some true:=by
  intro x q
  by_cases g:j=x
  ·subst g; exact c
  ·rw [aa9 g]; exact q
 refine ⟨by rw [Z7]; exact s.len,fun w l=>?_,by rw [aa9 h0]; exact s.src,fun k f r F hk m u y H I b=>?_⟩
 ·rw [Zb,Zh] at l;rcases l with l | rfl
  ·exact s.TK w l
  ·exact ⟨d,E,G.trans (.one n)⟩
 ·rw [Zb,Zh] at hk;have z:j≠k:=fun e=>hk (Or.inr e.symm)
  rw [aa9 z] at F
  by_cases hc:k=kc/\m=i
  ·obtain ⟨rfl,rfl⟩:=hc;rw [B] at r;cases r;rw [C] at y;cases y;rw [D] at b;cases b;exact ⟨h0,c⟩
  ·obtain ⟨h1,h2⟩:=s.cl k f r F (fun q=>hk (Or.inl q)) m u y (fun h=>by
    have:=H h
    have:m≠i:=fun A=>hc ⟨h,A⟩
    omega) I b
   exact ⟨h1,p _ h2⟩
def qK.done (s:qK es i0 a kc i W sn) {e:cX} (g:es[kc]?=some e) (hi:e.x.ah.length<=i):qK es i0 a es.length 0 W sn:=by
 refine ⟨s.len,s.TK,s.src,fun k d b h hk m u f n j l=>s.cl k d b h hk m u f (fun c=>?_) j l⟩;subst c;rw [g] at b;cases b;obtain ⟨hl,_⟩:=Zn.1 f;omega
def qK.no (s:qK es i0 a es.length 0 [] sn) (hn:(bh es).Nodup) {e:cX} (b:es[i0]?=some e) (o:e.name=a):¬ kV (dJ es) a:=by
 have c:∀ k e,es[k]?=some e->(k=i0\/sn[k]?=some true)->∀ z,dJ es e.name z->∃ j d,es[j]?=some d/\d.name=z/\j≠i0/\sn[j]?=some true:=by
  intro k e b h z q;obtain ⟨t,u,j,d,w,f,g⟩:=RS hn b q;obtain ⟨m,x⟩:=List.getElem?_of_mem u;obtain ⟨A,_⟩:=Zn.1 b;obtain ⟨h1,h2⟩:=s.cl k e b h aj m t x (fun D=>ad) j w;exact ⟨j,d,f,g,h1,h2⟩
 have l:∀ y z,qU (dJ es) y z->z=a->(∃ j d,es[j]?=some d/\d.name=y/\j≠i0/\sn[j]?=some true)->False:=by
  intro y z r
  induction r with
  | refl y =>
   rintro rfl ⟨j,d,f,n,h1,_⟩;exact h1 (Sw hn f b (n.trans o.symm))
  | head B r C =>
   rintro rfl ⟨j,d,f,rfl,h1,h2⟩;exact C rfl (c j d f (Or.inr h2) _ B)
 rintro ⟨y,p,r⟩;rw [<- o] at p;exact l y a r rfl (c i0 e b (Or.inl rfl) y p)
def RV (hn:(bh es).Nodup) {e:cX} (f:es[kc]?=some e) (g:qU (dJ es) a e.name) {t:Xaa × Nat} (h:t∈e.x.ah) {d:cX} (j:es[i0]?=some d) (k:d.name=a) (l:kX es t.1=some i0):kV (dJ es) a:=by
 obtain ⟨m,c,b⟩:=Kp hn f h l;rw [j] at c;cases c;rw [k] at b;cases g with
 | refl _=>exact ⟨_,b,.refl _⟩
 | head h1 h2=>exact ⟨_,h1,h2.trans (.one b)⟩
def UE:Tryz.prog.underlying 204=some (.slice 4):=aw
def Xd:(Tryz.prog.info? 4).map (fun i=>(i.zero,i.size,i.bytes))=some (some (.bool false),1,1):=aw
def En:Tryz.prog.underlying 126=some (.slice 3):=aw
def Sq:(Tryz.prog.info? 3).map (fun i=>(i.zero,i.size,i.bytes))=some (some (vI 0),1,8):=aw
def Th (b:Bool):List Xab:=[.bool b]
def Mr (n:Nat):List Xab:=[vI (n:Int)]
def OF {α:Type} (f:α->Xab) (l:List α):(l.map fun x=>[f x]).flatten=l.map f:=by
 induction l with
 | nil=>rfl
 | cons a l b=>rw [ZF,bj9,b]; rfl
variable {e:TypeId}
def Xa {g sz:Nat} {cells:List Xab} (xs:List (List Xab)) (b:bF H g e cells) (hc:cells=xs.flatten) (hl:∀ x,x∈xs->x.length=sz) (hn:xs.length<9223372036854775808):SL H g e sz (some ⟨g,0,none⟩) xs.length xs.length xs:=by
 subst hc;exact ⟨rfl,hl,g,[],[],rfl,Zc _,⟨Zc _,hn⟩,by simpa using b,aj⟩
def E2 (n:Int):Instr.fill (fun j=>some (j*1,1)) ((Array.range (1*1)).map ((Value.int .i64 0).cells[· % (Value.int .i64 0).cells.size]!)) [(0,vI n)]=some ([vI n]:List Xab).toArray:=aw
def N5 {h:Hp} {n:Nat} (hn:n<=2^40) {k:Xac->Nat->Nat->T} (hk:∀ h',SL h' h.size 4 1 (some ⟨h.size,0,none⟩) n n ((List.replicate n false).map Th)->Ext h h'->h'.size=h.size+1->k (some ⟨h.size,0,none⟩) n n V Y h') :
  T.eN Xaz (Instr.makeSlice 204 (vI (n:Int)) (vI (n:Int))) false [(false,[.slice 0])] k V Y h:=by
 obtain ⟨q,d,e,f,g⟩:=jV Xd;refine df (lU (l:=n) (c:=n) UE d e (Zc _) (by rw [g]; omega) ad ?_);intro j m o p;refine ⟨_,_,_,rfl,hk j ?_ o p⟩;have hc:(List.range (n*q.size)).map ((Value.bool false).cells[· % (Value.bool false).cells.size]!)=((List.replicate n false).map Th).flatten:=by
  rw [f,Nat.mul_one];show _=((List.replicate n false).map fun b=>[Value.bool b]).flatten;rw [OF];apply ca9
  ·simp
  ·intro i h1 h2;rw [Y7,Y7,List.getElem_replicate];show (#[Value.bool false]:Array Xab)[((List.range n)[i]'(by simpa using h1)) % 1]! = _;rw [Nat.mod_one] <;> rfl
 have:=Xa ((List.replicate n false).map Th) m hc (fun x r=>by obtain ⟨b,_,rfl⟩:=Y9.1 r; rfl) (by simp; omega)
 rw [YY,List.length_replicate] at this;exact this
def nF (sn:List Bool):Nat:=sn.count false
theorem Oo:∀ (sn:List Bool) (j:Nat),sn[j]?=some false->nF (sn.set j true)+1=nF sn
 | [],j,h=>by simp at h
 | b::l,0,h=>by
  simp at h;subst h;simp [nF]
 | b::l,j+1,h=>by
  have ih:=Oo l j (by simpa using h);unfold nF at ih ⊢;rw [List.set_cons_succ,List.count_cons,List.count_cons];omega
def QF (sn:List Bool) (j:Nat):(sn.map Th).set j [.bool true]=(sn.set j true).map Th:=by rw [ce9]; rfl
def MX (p:Xac) (c:Nat):(if c=0 then p else Option.map (fun a=>Addr.add a 0) p)=p:=by
 split
 ·rfl
 ·cases p with
  | none=>rfl
  | some a=>show some (a.add 0)=some a; rw [add_zero']
open Classical in
def Rb {l c:Nat} {es:List cX} (v:rW H I l es) (hn:(bh es).Nodup) (hl:es.length<=2^40) (ht:∀ e,e∈es->e.x.ah.length<=2^40) {i0:Nat} {e0:cX} (F:es[i0]?=some e0) :
  HC Xaz 114 #[.slice I l c,vI (i0:Int),vI (i0:Int)] H fun w h'=>Ext H h'/\w=.bool (decide (kV (dJ es) e0.name)):=by
 refine bi (args:=[.slice I l c,vI (i0:Int),vI (i0:Int)]) mixed Tryz.func114 aw (qP I l c i0 i0) ?_;unfold lF aY bj bn ay dl aT bC bH dZ aK cr dp;obtain rfl:=v.len;obtain ⟨hi0,_⟩:=Zn.1 F;refine N5 hl ?_;intro h1 sB1 e1 z1;refine mF En Sq ad ad (E2 _) ?_;intro h2 b2 e2 z2;have sW2:SL h2 h1.size 3 1 (some ⟨h1.size,0,none⟩) 1 1 ([i0].map Mr):=Xa [[vI (i0:Int)]] b2 rfl aj aj;have sB2:=sB1.br e2 aj;have e02:=e1.trans e2;refine aU (cs:=[(false,[.bool]),(false,[.slice 0])]) (fun y m h'=>∃ (W:List Nat) (sn:List Bool),m=nF sn+W.length/\m<=es.length+1/\Ext H h'/\h1.size<=h'.size/\SL h' H.size 4 1 (some ⟨H.size,0,none⟩) es.length es.length (sn.map Th)/\SL h' h1.size 3 1 y.2.1.1 y.2.1.2.1 y.2.1.2.2 (W.map Mr)/\qK es i0 e0.name es.length 0 W sn)
  (false,(some ⟨h1.size,0,none⟩,1,1),()) _ rfl ⟨[i0],List.replicate es.length false,rfl,by simp [nF],e02,ad,sB2,sW2,qK.start F rfl⟩ ?_
 rintro ⟨b9,⟨p10,R,l12⟩,⟨⟩⟩ m h3 ⟨W,sn,rfl,hM,e3,z3,sB3,s,I3⟩;simp only at s;refine ak ?_;have u:R=W.length:=by have:=s.1; rwa [YY] at this
 have hWn:∀ w,w∈W->w<es.length:=fun w hw=>by
  obtain ⟨e,E,_⟩:=I3.TK w hw;exact (Zn.1 E).1
 refine aP ?_ ?_<;>intro g1
 ·rcases List.eq_nil_or_concat W with rfl | ⟨r,kc,rfl⟩
  ·simp at u; omega
  ·rw [List.concat_eq_append] at u s I3 hWn hM;have hM':nF sn+(r.length+1)<=es.length+1:=by simpa using hM
   have u:R=r.length+1:=by simpa using u
   subst u;obtain ⟨I4,e,E,hr⟩:=I3.pop;have hkc:=(Zn.1 E).1;have hem:=ZU E;have hw1:IntKind.wrap .i64 (((r.length+1:Nat):Int)-1)=(r.length:Int):=by rw [wrap_i64 ad ad]; omega
   obtain ⟨a,rfl,hc⟩:=SL.cells s (i:=r.length) aj;have hc:aI h3 (a.add (r.length*1)) 0 [vI (kc:Int)]:=by simpa [Mr] using hc
   rw [hw1,show Int.toNat (r.length:Int)=r.length from ad];refine bP rfl ?_;refine av ((kc:Int),()) hc (ak ?_);have hcap:r.length+1<=l12:=by
    obtain ⟨g,pre,rest,_,_,hlc,_⟩:=s.2.2;exact hlc.1
   refine dA ⟨ad,ad,ad⟩ ?_;rw [MX,cy9,cy9];have sW4:=SL.take s (k:=r.length) ad;rw [<- List.map_take,bp9] at sW4;have hte:=ht e hem;refine aU (cs:=R6) (fun y m h'=>∃ (W:List Nat) (b:List Bool) (i:Nat),y.2.2.1=(i:Int)/\i<=e.x.ah.length/\m=e.x.ah.length-i/\nF b+W.length+1=nF sn+(r.length+1)/\Ext H h'/\h1.size<=h'.size /\
    SL h' H.size 4 1 (some ⟨H.size,0,none⟩) es.length es.length (b.map Th)/\SL h' h1.size 3 1 y.2.1.1 y.2.1.2.1 y.2.1.2.2 (W.map Mr)/\qK es i0 e0.name kc i W b)
    (b9,(some a,r.length,l12),(0:Int),()) _ rfl ⟨r,sn,0,rfl,ad,rfl,ad,e3,z3,sB3,sW4,I4⟩ ?_
   rintro ⟨n,⟨A,l17,B⟩,n19,⟨⟩⟩ m5 h5 ⟨W,b,i,hi,hile,rfl,S,Q,z5,C,o,U⟩;simp only at hi o;subst hi;refine ak ?_;have V:l17=W.length:=by have:=o.1; rwa [YY] at this
   subst V;have v5:=v.ai Q;obtain ⟨ae,rfl,X⟩:=v5.cells kc hkc;have hek:es[kc]=e:=(Zn.1 E).2;rw [hek] at X;have vt:=v5.fI e hem;have hll:=vt.len;have hw:=iC i;have Y:aI h5 ((ae.add (kc*3)).add 1) 0 [.slice e.p e.l e.c]:=⟨by rw [add_add]; exact X.2.1,trivial⟩
   refine bP rfl ?_;rw [cB kc];refine av ((e.p,e.l,e.c),()) Y (ak ?_);refine aP ?_ ?_<;>intro g2
   ·have K:i<e.x.ah.length:=ad
    refine bP rfl ?_;refine av ((e.p,e.l,e.c),()) Y (ak ?_);obtain ⟨at',hp',Z⟩:=vt.cells i K;have G:e.x.ah[i]?=some e.x.ah[i]:=YZ K;have htm:=Y5 K;generalize e.x.ah[i]=t at Z G htm;refine dO (aH hp' ?_);rw [cB i];refine av (t.1,()) ⟨Z.1,trivial⟩ (ak ?_);refine nw (Gn v5 ad t.1) ?_;refine ao ?_ ?_<;>intro D
    ·have D:R0 (kX es t.1)=(i0:Int):=by simpa using D
     have L:kX es t.1=some i0:=by
      cases f:kX es t.1 with
      | none=>rw [f] at D; exact absurd D (by show ¬ ((-1:Int)=_); omega)
      | some j =>
       rw [f] at D
       have:(j:Int)=i0:=D
       rw [show j=i0 from ad]
     refine ⟨Q,?_⟩;rw [Y4 (RV hn E hr htm F rfl L)]
    ·have D:¬ R0 (kX es t.1)=(i0:Int):=by simpa using D
     cases f:kX es t.1 with
     | none =>
      refine cC (by show decide ((-1:Int)>=0)=false; decide) ?_;refine aG (cs:=R6) (n,(A,W.length,B),((i+1:Nat):Int),()) (e.x.ah.length-(i+1)) rfl ad (Zg (fun z=>[Value.bool n,.slice A W.length B,Value.int .i64 z]) hw)
       ⟨W,b,i+1,rfl,ad,rfl,S,Q,z5,C,o,U.skip E G (fun j L=>by rw [f] at L; cases L)⟩
     | some j =>
      rw [f] at D;have hj0:j≠i0:=fun hh=>D (by rw [hh]; rfl)
      obtain ⟨d,hd,_⟩:=wv f;have hjl:=(Zn.1 hd).1;refine cL (Y4 (show (0:Int)<=((j:Nat):Int) from ad)) ?_;have M:j<b.length:=by rw [U.len]; exact hjl
      obtain ⟨ab,N,hcb⟩:=SL.cells C (i:=j) (by rw [YY]; exact M);rw [Y7] at hcb;refine dA ⟨by show (0:Int)<=(j:Int); omega,by show (j:Int)<_; omega⟩ (aH N ?_);rw [show Int.toNat (R0 (some j))=j from Int.toNat_natCast j];refine av (b[j],()) hcb (ak ?_);have J:b[j]?=some b[j]:=YZ M;cases hb:b[j] with
      | true =>
       rw [hb] at J;refine cC rfl ?_;refine aG (cs:=R6) (n,(A,W.length,B),((i+1:Nat):Int),()) (e.x.ah.length-(i+1)) rfl ad (Zg (fun z=>[Value.bool n,.slice A W.length B,Value.int .i64 z]) hw)
        ⟨W,b,i+1,rfl,ad,rfl,S,Q,z5,C,o,U.skip E G (fun j' L=>by rw [f] at L; cases L; exact ⟨hj0,J⟩)⟩
      | false =>
       rw [hb] at J;refine cL rfl ?_;refine dA ⟨by show (0:Int)<=(j:Int); omega,by show (j:Int)<_; omega⟩ (aH N ?_);refine SL.store (P:=Xaz) C (i:=j) (by rw [YY]; exact M) (vs:=[.bool true]) rfl rfl N ?_;intro h6 sB6 k6 z6;rw [QF] at sB6;have O:∀ q,q∈aF (some (⟨H.size,0,none⟩:Xax))->q=H.size:=fun q f=>by simpa [aF] using f
       have sW6:=o.br k6 (fun q f hm=>by have:=(o.cj f).1; have:=O q hm; omega);have e6:Ext H h6:=Ch.trans Q k6 (fun q f hl=>by have:=O q f; omega);refine kg (vs:=Mr j) En Sq rfl ad ad (E2 _) rfl rfl sW6 ad ad ad ?_;intro p' c' h7 sW7 k7 hp7;have e7:Ext H h7:=Ch.trans e6 k7 (fun q f hl=>by have:=(sW6.cj f).1; omega);have sB7:=sB6.br k7 (fun q f hm=>by have:=O q f; have:=(sW6.cj hm).1; omega);have hnf:=Oo b j J;refine aG (cs:=R6) (n,(p',W.length+1,c'),((i+1:Nat):Int),()) (e.x.ah.length-(i+1)) rfl ad (Zg (fun z=>[Value.bool n,.slice p' (W.length+1) c',Value.int .i64 z]) hw)
        ⟨W++[j],b.set j true,i+1,rfl,ad,rfl,by rw [Y0]; show nF (b.set j true)+(W.length+1)+1=_; omega,e7,by have:=k7.size; omega,sB7,by rw [Za]; exact sW7,U.push hn E hr G f hj0⟩
   ·refine aG (cs:=[(false,[.bool]),(false,[.slice 0])]) (n,(A,W.length,B),()) (nF b+W.length) rfl (by rw [List.concat_eq_append,Y0]; show nF b+W.length<nF sn+(r.length+1); omega) rfl ⟨W,b,rfl,ad,Q,z5,C,o,U.done E ad⟩
 ·have hW:W=[]:=ax9.1 ad;subst hW;refine ⟨e3,?_⟩;rw [Y6 (I3.no hn F rfl)]
noncomputable def U0 (es:List cX) (i:Nat):Bool:=by
 classical
 exact decide (∃ e,es[i]?=some e/\kV (dJ es) e.name)
def DL {es:List cX} {i:Nat} {e:cX} (c:es[i]?=some e) {d:Decidable (kV (dJ es) e.name)}:decide (kV (dJ es) e.name)=U0 es i:=by
 unfold U0;refine cr9.2 ⟨fun h=>⟨e,c,h⟩,?_⟩;rintro ⟨f,b,h⟩;rw [c] at b;cases b;exact h
noncomputable def mP (es:List cX) (n:Nat):List Nat:=(List.range n).filter (U0 es)
def HY (es:List cX) (i:Nat):mP es (i+1)=mP es i++if U0 es i=true then [i] else []:=by
 unfold mP;rw [List.range_succ,List.filter_append]
 congr 1
 by_cases h:U0 es i=true <;> simp [h]
def KY (es:List cX) (i:Nat):(mP es i).length<=i:=by
 unfold mP
 have:=ao9 (U0 es) (List.range i)
 simpa using this
def Pg {l c:Nat} {es:List cX} (v:rW H I l es) (hn:(bh es).Nodup) (hl:es.length<=2^40) (o:∀ e,e∈es->e.x.ah.length<=2^40) :
  HC Xaz 93 #[.slice I l c] H fun w h'=>Ext H h'/\∃ p' l' c',w=.slice p' l' c'/\SL h' H.size 3 1 p' l' c' ((mP es es.length).map Mr):=by
 refine bi (args:=[.slice I l c]) mixed Tryz.func93 aw (qi I l c) ?_;unfold kI bj bn bd aT aS aK dp;have hll:=v.len;refine aU (cs:=uC) (fun y m h'=>∃ i:Nat,y.2.1=(i:Int)/\m=es.length-i/\i<=es.length/\Ext H h'/\SL h' H.size 3 1 y.1.1 y.1.2.1 y.1.2.2 ((mP es i).map Mr)) ((none,0,0),(0:Int),()) es.length rfl
  ⟨0,rfl,rfl,ad,Ch.refl _ _,SL.nil _ _ _ _⟩ ?_
 rintro ⟨⟨k,b,c1⟩,D,⟨⟩⟩ m h1 ⟨i,hi,rfl,s,d,f⟩;simp only at hi f;subst hi;refine ak ?_;have t:b=(mP es i).length:=by have:=f.1; rwa [YY] at this
 have hbl:=KY es i;refine aP ?_ ?_<;>intro q
 ·have n:i<es.length:=ad
  have hw:=iC i;have he:=YZ n;have hbs:=HY es i;refine aJ (Rb (c:=c) (v.ai d) hn hl o he) ?_;rintro _ h2 ⟨g,rfl⟩;rw [DL he];refine ⟨(U0 es i,()),rfl,ak ?_⟩;have s2:=f.br g aj;refine ao ?_ ?_<;>intro r
  ·rw [Y8 r] at hbs
   have:=(d.trans g).size
   refine kg (vs:=Mr i) En Sq rfl ad ad (E2 _) rfl rfl s2 ad ad ad ?_;intro p' c' F u A B;refine aG (cs:=uC) ((p',b+1,c'),((i+1:Nat):Int),()) (es.length-(i+1)) rfl ad (Zg (fun z=>[Value.slice p' (b+1) c',Value.int .i64 z]) hw) ?_;exact ⟨i+1,rfl,rfl,ad,Ch.trans (d.trans g) A (fun j C hl=>by have:=(s2.cj C).1; omega),by rw [hbs,Za]; exact u⟩
  ·rw [Y1 (by rw [r]; simp),Z2] at hbs;refine aG (cs:=uC) ((k,b,c1),((i+1:Nat):Int),()) (es.length-(i+1)) rfl ad (Zg (fun z=>[Value.slice k b c1,Value.int .i64 z]) hw) ?_;exact ⟨i+1,rfl,rfl,ad,d.trans g,by rw [hbs]; exact s2⟩
 ·have:i=es.length:=ad
  subst this;exact ⟨d,k,b,c1,rfl,f⟩
noncomputable def dU (es:List cX):Option Nat:=by
 classical
 exact es.findIdx? fun e=>decide (kV (dJ es) e.name)
def IP {es:List cX} {i:Nat} {r:List Nat} (h:mP es es.length=i::r):i<es.length/\dU es=some i:=by
 unfold mP at h;obtain ⟨b,f,h1,h2,g,_⟩:=List.filter_eq_cons_iff.1 h;have e:es.length=b.length+(f.length+1):=by
  have:=Zg List.length h1
  simpa using this
 have c:b.length=i:=by
  have:=Zg (fun l:List Nat=>l[b.length]?) h1
  simp only [List.getElem?_append_right (Nat.le_refl _),Nat.sub_self,List.getElem?_cons_zero] at this;rw [am9 ad] at this;exact Zl this
 subst c;have d:b.length<es.length:=ad
 refine ⟨d,?_⟩;unfold dU;rw [Zr];refine ⟨d,?_,fun j k=>?_⟩
 ·rw [DL (YZ d)];exact g
 ·rw [DL (YZ ad)];refine h2 j ?_
  have:=Zg (fun l:List Nat=>l[j]?) h1
  simp only [List.getElem?_append_left k] at this;rw [am9 ad] at this;exact ZU this.symm
def Lg {es:List cX} (h:mP es es.length=[]):dU es=none:=by
 unfold mP at h;unfold dU;rw [ZJ];intro e b;obtain ⟨i,hi⟩:=List.getElem?_of_mem b;rw [DL hi]
 have:=List.filter_eq_nil_iff.1 h i (ap9.2 (Zn.1 hi).1)
 simpa using this
def Tu (of:Xaa->Option cE):Nat->cE->cE
 | 0,x=>x
 | t+1,x=>dC of (Tu of t x)
theorem uj (of:Xaa->Option cE):∀ (l:dz) (n:Nat),n<4294967296->l.foldl (gX of) n<4294967296
 | [],n,h=>h
 | t::l,n,h=>by
  rw [ZD];refine uj of l _ ?_;unfold gX;split
  ·exact h
  ·exact cu9 _ bY
structure uB (S:List Xaa) (x:cE):Prop where
 nf:Nf x.ah
 num:x.num<4294967296
 fI:∀ t,t∈x.ah->t.1∈S
def uB.put {S:List Xaa} {es:List cX} (b:∀ e,e∈es->uB S e.x) (h:uB S U):uB S (dC (cF es) U) :=
 ⟨ft _ _,uj _ _ _ h.num,JU h.fI fun e c=>(b e c).fI⟩
theorem uB.it {S:List Xaa} {es:List cX} (b:∀ e,e∈es->uB S e.x) {x:cE} (h:uB S x):∀ t,uB S (Tu (cF es) t x)
 | 0=>h
 | t+1=>(uB.it b h t).put b
structure Ru (B:Nat) (h0 h':Hp) (p:Xac) (l c:Nat) (es ms:List cX) (f:Nat->Nat):Prop where
 out:SL h' h0.size 88 3 p l c (ms.map AN)
 len:ms.length=es.length
 eq:∀ j e m,es[j]?=some e->ms[j]?=some m->m.name=e.name/\m.x=Tu (cF es) (f j) e.x
 fI:∀ m,m∈ms->ik h' m.p m.l m.x.ah
 low:∀ m,m∈ms->∀ i,i∈aF m.p->(B<=i/\i<h'.size)/\i∉aF p
def QP (ms:List cX) (i:Nat) (m:cX):(ms.map AN).set i (AN m)=(ms.set i m).map AN:=by rw [ce9]
def Rl {l:Nat} {es:List cX} (v:rW H I l es):(I=none/\es.map AN=[])\/∃ a,I=some a/\aI H a 0 (es.map AN).flatten:=by
 cases I with
 | none =>
  refine .inl ⟨rfl,?_⟩;cases es with
  | nil=>rfl
  | cons e es =>
   obtain ⟨a,b,_⟩:=v.cells 0 aj;cases b
 | some a =>
  refine .inr ⟨a,rfl,?_⟩
  have:=jr (h:=H) (a:=a) (sz:=3) (es.map AN) 0 (fun x c=>by obtain ⟨e,_,rfl⟩:=Y9.1 c; rfl) (fun i hi=>by
   obtain ⟨a',b,hc⟩:=v.cells i (by simpa using hi);cases b;rw [Y7,ZH];exact hc)
  rwa [cx9] at this
def Ly (e:cX):(AN e).all da=true:=by unfold AN; simp [da]
def Ia (es:List cX):(es.map AN).flatten.all da=true:=by
 rw [Zx];intro x c;obtain ⟨l,hl,b⟩:=bn9.1 c;obtain ⟨e,_,rfl⟩:=Y9.1 hl;exact Zx.1 (Ly e) x b
def Lz {l c:Nat} {es:List cX} {B:Nat} (hB:B<=H.size) (v:rW H I l es) (hb:∀ e,e∈es->∀ i,i∈aF e.p->B<=i/\i<H.size) (hn:(bh es).Nodup) (hl:es.length<=2^30) {S:List Xaa} (hS:S.length<=2^30) (u:∀ e,e∈es->uB S e.x) :
  HC Xaz 64 #[.slice I l c] H fun w h'=>Ext H h'/\match dU es with
   | some i=>w=.tuple #[.slice none 0 0,vI (i:Int),vI 24]
   | none=>∃ p' l' c' ms,w=.tuple #[.slice p' l' c',vI 0,vI 0]/\Ru B H h' p' l' c' es ms (fun _=>es.length):=by
 refine bi (args:=[.slice I l c]) mixed Tryz.func64 aw (oN I l c) ?_;unfold jI aY bj bn ay bz aT iW ax bK aS aK;have hll:=v.len;have hlt:∀ e,e∈es->e.x.ah.length<=2^40:=fun e A=>by have:=AV (u e A).nf (u e A).fI; omega
 refine aJ (Pg (c:=c) v hn ad hlt) ?_;rintro _ h1 ⟨X,p1,l1,c1,rfl,s1⟩;refine ⟨((p1,l1,c1),()),rfl,ak ?_⟩;have M:l1=(mP es es.length).length:=by have:=s1.1; rwa [YY] at this
 refine aP ?_ ?_<;>intro g
 ·cases C:mP es es.length with
  | nil=>rw [C] at M; simp at M; omega
  | cons i r =>
   obtain ⟨hi,hf⟩:=IP C;obtain ⟨a,rfl,hc⟩:=SL.cells s1 (i:=0) (by rw [YY,C]; simp);have hc:aI h1 a 0 [vI (i:Int)]:=by
    rw [Y7,cx9,add_zero'] at hc;simp only [C,List.getElem_cons_zero] at hc;exact hc
   refine bP rfl ?_;refine av ((i:Int),()) hc (ak ?_);refine ⟨⟨hc,trivial⟩,X,?_⟩;rw [hf]
 ·have hbn:mP es es.length=[]:=ax9.1 ad;rw [Lg hbn];refine nt (ys:=es.map AN) C9 GH rfl (Rl (v.ai X)) (by rw [YY]; exact hll) (fun y hy=>by obtain ⟨e,_,rfl⟩:=Y9.1 hy; rfl) (Ia es) ad ad ?_;intro Y Z h2 s2 e2;have z1:=X.size;have e02:=X.trans e2;have o0:Ru B H h2 Y l Z es es fun _=>0:=⟨s2.mono z1,rfl,fun j e m A E=>by rw [A] at E; cases E; exact ⟨rfl,rfl⟩,fun m E=>(v.fI m E).ai e02 aj,fun m E i hi=>by
   have h1:=hb m E i hi
   have:=e02.size
   exact ⟨⟨h1.1,ad⟩,fun N=>by have:=(s2.cj N).1; omega⟩⟩
  refine aU (cs:=cn) (fun y m h'=>∃ (t:Nat) (ms:List cX),y.1=(t:Int)/\m=es.length-t/\t<=es.length/\Ext H h'/\Ru B H h' Y l Z es ms fun _=>t) ((0:Int),()) es.length rfl ⟨0,es,rfl,rfl,ad,e02,o0⟩ ?_;rintro ⟨n10,⟨⟩⟩ m3 h3 ⟨t,ms,hi,rfl,hle,e3,o3⟩;simp only at hi;subst hi;refine ak ?_;refine aP ?_ ?_<;>intro q
  ·have hwt:=iC t;refine aU (cs:=cn) (fun y m h'=>∃ (i:Nat) (ms:List cX),y.1=(i:Int)/\m=es.length-i/\i<=es.length/\Ext H h'/\Ru B H h' Y l Z es ms fun j=>if j<i then t+1 else t) ((0:Int),()) es.length rfl ⟨0,ms,rfl,rfl,ad,e3,by simpa using o3⟩ ?_;rintro ⟨n11,⟨⟩⟩ m4 h4 ⟨i,f,hi,rfl,hle4,e4,k⟩;simp only at hi;subst hi;refine ak ?_;refine aP ?_ ?_<;>intro r
   ·have D:i<es.length:=ad
    have n:i<f.length:=by rw [k.len]; exact D
    have hwi:=iC i;obtain ⟨a,rfl,hc⟩:=SL.cells k.out (i:=i) (by rw [YY]; exact n);rw [Y7] at hc;obtain ⟨F,O⟩:=k.eq i es[i] f[i] (YZ D) (YZ n);have hmm:=Y5 n;have hemm:=Y5 D;have vm:=k.fI _ hmm;have lm:=k.low _ hmm;rw [Y1 ad] at O;have Q:f[i]?=some f[i]:=YZ n;have R:es[i]?=some es[i]:=YZ D;generalize f[i]=m at hc F O hmm vm lm Q;generalize es[i]=e at F O hemm R;have G:uB S m.x:=by rw [O]; exact uB.it u (u e hemm) t
    refine bP rfl ?_;rw [cB i];refine av ((m.p,m.l,m.c),(m.x.num:Int),()) ⟨by rw [add_add]; exact hc.2.1,by rw [add_add]; exact hc.2.2.1,trivial⟩ ?_;refine ak ?_;have z4:=e4.size;refine aJ (Kb (c:=m.c) (d:=c) vm (v.ai e4) (fun j s=>(lm j s).1.2) (fun e A j s=>by have:=hb e A j s; omega) ad G.nf G.num (fun e A=>(u e A).nf) hS G.fI fun e A=>(u e A).fI) ?_;rintro _ h5 ⟨e5,p5,l5,c5,rfl,s5⟩;refine ⟨((p5,l5,c5),((dC (cF es) m.x).num:Int),()),rfl,ak ?_⟩;have z5:=e5.size;refine bP rfl ?_;have so:=k.out.br e5 aj;refine SL.part (P:=Xaz) so (i:=i) (by rw [YY]; exact n) (vs:=[.slice p5 l5 c5,.int .u32 ((dC (cF es) m.x).num:Int)]) (o:=1) aj (by simp [da]) rfl ?_;intro h6 s6 k6 z6;have hse:(f.map AN).set i (gK ((f.map AN)[i]'(by rw [YY]; exact n)) 1 [.slice p5 l5 c5,.int .u32 ((dC (cF es) m.x).num:Int)])=(f.set i ⟨m.name,p5,l5,c5,dC (cF es) m.x⟩).map AN:=by
     rw [<- QP]
     congr 1
     rw [Y7]
     have:f[i]=m:=(Zn.1 Q).2
     rw [this] <;> rfl
    rw [hse] at s6;have J:∀ j,j∈aF (some a)->H.size<=j/\j<h4.size:=fun j s=>k.out.cj s
    have e6:Ext H h6:=Ch.trans (e4.trans e5) k6 (fun j s hl=>by have:=J j s; omega);refine aG (cs:=cn) (((i+1:Nat):Int),()) (es.length-(i+1)) rfl ad (Zg (fun z=>[Value.int .i64 z]) hwi) ⟨i+1,_,rfl,rfl,ad,e6,⟨s6,by rw [Z7]; exact k.len,fun j e' L K b=>?_,fun L b=>?_,fun L b j s=>?_⟩⟩
    ·by_cases U:i=j
     ·subst U;rw [bl9 n] at b;cases b;rw [R] at K;cases K;refine ⟨F,?_⟩;rw [Y8 ad];show dC (cF es) m.x=dC (cF es) (Tu (cF es) t e.x);rw [O]
     ·rw [aa9 U] at b;obtain ⟨h1,h2⟩:=k.eq j e' L K b;refine ⟨h1,h2.trans ?_⟩
      by_cases V:j<i
      ·rw [Y8 V,Y8 ad]
      ·rw [Y1 V,Y1 ad]
    ·rcases af9 b with b | rfl
     ·exact ((k.fI L b).ai e5 aj).ai k6 (fun j s=>(k.low L b j s).2)
     ·exact (s5.br k6 (fun j s N=>by have:=(s5.cj s).1; have:=J j N; omega)).Qk
    ·rcases af9 b with b | rfl
     ·obtain ⟨h1,h2⟩:=k.low L b j s;exact ⟨⟨h1.1,ad⟩,h2⟩
     ·obtain ⟨h1,h2⟩:=s5.cj s;exact ⟨⟨ad,ad⟩,fun N=>by have:=J j N; omega⟩
   ·have:i=es.length:=ad
    subst this;refine aG (cs:=cn) (((t+1:Nat):Int),()) (es.length-(t+1)) rfl ad (Zg (fun z=>[Value.int .i64 z]) hwt) ⟨t+1,f,rfl,rfl,ad,e4,⟨k.out,k.len,fun j e m A E=>?_,k.fI,k.low⟩⟩;obtain ⟨h1,h2⟩:=k.eq j e m A E;rw [Y8 (Zn.1 A).1] at h2;exact ⟨h1,h2⟩
  ·have:t=es.length:=ad
   subst this;exact ⟨e3,Y,l,Z,ms,rfl,o3⟩
theorem sH (s:Xaa):∀ l:dz,hQ (fun r=>if r=s then 1 else 0) l=cf l s
 | []=>rfl
 | p::l=>by
  rw [fy,fp,sH s l]
  congr 1
  split <;> simp
theorem pU:∀ l:dz,hQ (fun _=>0) l=0
 | []=>rfl
 | p::l=>by rw [fy,pU l]; simp
def JO {y:cE} (g:Nf U.ah) (j:Nf y.ah) (nx:U.num<4294967296) (k:y.num<4294967296) (h:∀ f,j3 f U=j3 f y):U=y:=by
 have h0:=h fun _=>0
 unfold j3 at h0;rw [pU,pU] at h0;have hn:U.num=y.num:=ad
 have e:U.ah=y.ah:=g.RZ j fun s=>by
  have h1:=h fun r=>if r=s then 1 else 0
  unfold j3 at h1;rw [sH,sH] at h1;omega
 obtain ⟨a,b⟩:=U;obtain ⟨c,d⟩:=y;simp only at hn e;rw [hn,e]
def IS (of:Xaa->Option cE) (f:Xaa->Nat) (s:Xaa):Nat:=match of s with
 | none=>f s
 | some y=>j3 f y
def gh (of:Xaa->Option cE) (f:Xaa->Nat) (x:cE):j3 f (dC of x)=j3 (IS of f) x:=Ni (fun s=>by unfold IS; rfl) x
theorem Be {f g:Xaa->Nat}:∀ {l:dz},(∀ t,t∈l->f t.1=g t.1)->hQ f l=hQ g l
 | [],_=>rfl
 | p::l,h=>by rw [fy,fy,h p aj,Be fun t b=>h t (Ze _ b)]
def qk {f g:Xaa->Nat} {x:cE} (h:∀ t,t∈x.ah->f t.1=g t.1):j3 f x=j3 g x:=by
 unfold j3;rw [Be h]
section
variable {own:Xaa->Bool} {lin:Xaa->cE}
def U9 (own:Xaa->Bool) (lin:Xaa->cE) (t:Nat) (s:Xaa):Option cE:=if own s=true then some (rV own lin t s) else none
def zF (own:Xaa->Bool) (lin:Xaa->cE) (s:Xaa):Option cE:=if own s=true then some (lin s) else none
def tP (t:Nat) (v:Xaa):rV own lin (t+1) v=dC (U9 own lin t) (lin v):=rfl
theorem C6 (b:∀ v,own v=true->(lin v).num<4294967296):∀ (t:Nat) (v:Xaa),own v=true->dC (zF own lin) (rV own lin t v)=rV own lin (t+1) v
 | 0,v,hv=>rfl
 | t+1,v,hv=>by
  rw [tP (t+1) v,tP t v];refine JO (ft _ _) (ft _ _) (uj _ _ _ (uj _ _ _ (b v hv))) (uj _ _ _ (b v hv)) fun f=>?_
  rw [gh,gh,gh];refine qk fun u _=>?_
  generalize u.1=s;unfold IS U9
  by_cases c:own s=true
  ·rw [Y8 c,Y8 c];show j3 (IS (zF own lin) f) (rV own lin t s)=j3 f (rV own lin (t+1) s);rw [<- C6 b t s c,gh]
  ·rw [Y1 c,Y1 c];show (match zF own lin s with | none=>f s | some y=>j3 f y)=f s;unfold zF;rw [Y1 c]
theorem Fy (b:∀ v,own v=true->(lin v).num<4294967296):∀ (t:Nat) (v:Xaa),own v=true->Tu (zF own lin) t (lin v)=rV own lin t v
 | 0,v,hv=>rfl
 | t+1,v,hv=>by
  show dC (zF own lin) (Tu (zF own lin) t (lin v))=_;rw [Fy b t v hv,C6 b t v hv]
end
def RL {es:List cX} (hn:(bh es).Nodup) (c:∀ e,e∈es->e.x.num<4294967296) {e:cX} (j:e∈es):Tu (cF es) es.length e.x=fx es e.name:=by
 have f:cG es e.name=true:=by
  unfold cG;cases g:kX es e.name with
  | some k=>rfl
  | none =>
   unfold kX at g;rw [ZJ] at g
   have:=g e j
   simp at this
 have b:∀ v,cG es v=true->(dH es v).num<4294967296:=by
  intro v hv;unfold cG at hv;obtain ⟨k,hk⟩:=ZZ.1 hv;obtain ⟨d,l,h⟩:=wv hk;rw [<- h,rf hn (ZU l)];exact c d (ZU l)
 have h1:=Fy b es.length e.name f;rw [rf hn j] at h1;have h2:zF (cG es) (dH es)=cF es:=rfl;rw [h2] at h1;rw [h1];unfold fx JH bh;rw [YY]
def zW (K:Ky->Prop) (a b:Ky->Xaa) (x y:cE):Prop:=∀ f g:Xaa->Nat,(∀ k,K k->f (a k)=g (b k))->j3 f x=j3 g y
def zW.symm {K:Ky->Prop} {a b:Ky->Xaa} {x y:cE} (h:zW K a b x y):zW K b a y x:=fun f g c=>(h g f fun k hk=>(c k hk).symm).symm
structure wU {δ:Type} (Q:List δ) (ky:δ->Ky) (K:Ky->Prop) (a b:Ky->Xaa) (xa xb:δ->cE):Prop where
 nd:(Q.map ky).Nodup
 Qo:∀ q,q∈Q->K (ky q)
 ia:∀ k k',K k->K k'->a k=a k'->k=k'
 ib:∀ k k',K k->K k'->b k=b k'->k=k'
 Jr:∀ k,K k->k∉Q.map ky->a k=b k
 rel:∀ q,q∈Q->zW K a b (xa q) (xb q)
 fa:∀ q,q∈Q->Nf (xa q).ah
 fb:∀ q,q∈Q->Nf (xb q).ah
def wU.symm {δ:Type} {Q:List δ} {ky:δ->Ky} {K:Ky->Prop} {a b:Ky->Xaa} {xa xb:δ->cE} (t:wU Q ky K a b xa xb):wU Q ky K b a xb xa :=
 ⟨t.nd,t.Qo,t.ib,t.ia,fun k hk hn=>(t.Jr k hk hn).symm,fun q c=>(t.rel q c).symm,t.fb,t.fa⟩
def wD {δ:Type} (Q:List δ) (ky:δ->Ky) (a:Ky->Xaa) (xa:δ->cE):List (Xaa × cE):=Q.map fun q=>(a (ky q),xa q)
def xo (D:List (Xaa × cE)):Sx.bh (fG D)=D.map (·.1):=by
 have:=Zg (List.map (·.1)) (qO D)
 rw [Zs] at this;exact this
def uf {D:List (Xaa × cE)} {s:Xaa}:cG (fG D) s=true↔s∈D.map (·.1):=by rw [eP,xo]
theorem TJ:∀ {l:dz} {t:Xaa × Nat},Nf l->t∈l->cf l t.1=t.2
 | [],t,_,h=>by simp at h
 | p::l,t,n,h=>by
  rcases Zo.1 h with h | h
  ·subst h;exact n.oi
  ·rw [fp,Y1 (kW (n.head t h)),ZH];exact TJ n.tail h
def Om {l:dz} (n:Nf l) {s:Xaa}:s∈l.map (·.1)↔cf l s % 4294967296≠0:=by
 constructor
 ·intro h;obtain ⟨t,b,rfl⟩:=Y9.1 h;rw [TJ n b]
  have:=n.2 t b
  omega
 ·intro h;apply br9;intro k;exact h (by rw [Ai fun p c e=>k (Y9.2 ⟨p,c,e⟩)])
section
variable {δ:Type} {Q:List δ} {ky:δ->Ky} {K:Ky->Prop} {a b:Ky->Xaa} {xa xb:δ->cE}
def A7:(wD Q ky a xa).map (·.1)=(Q.map ky).map a:=by
 unfold wD;rw [Zs,Zs] <;> rfl
def wU.VQ (t:wU Q ky K a b xa xb):((wD Q ky a xa).map (·.1)).Nodup:=by
 rw [A7];have h:=t.nd;rw [az9] at h ⊢;rw [Z3];refine List.Pairwise.imp_of_mem ?_ h;intro k k' hk c d e;obtain ⟨q,f,rfl⟩:=Y9.1 hk;obtain ⟨r,g,rfl⟩:=Y9.1 c;exact d (t.ia _ _ (t.Qo q f) (t.Qo r g) e)
def wU.own (t:wU Q ky K a b xa xb) {k:Ky} (hk:K k):cG (fG (wD Q ky a xa)) (a k)=true↔k∈Q.map ky:=by
 rw [uf,A7,Y9];constructor
 ·rintro ⟨k',c,e⟩;obtain ⟨q,d,rfl⟩:=Y9.1 c;rw [<- t.ia _ _ (t.Qo q d) hk e];exact c
 ·intro h;exact ⟨k,h,rfl⟩
def wU.lin (t:wU Q ky K a b xa xb) {q:δ} (c:q∈Q):dH (fG (wD Q ky a xa)) (a (ky q))=xa q:=by
 have h2:(⟨a (ky q),none,0,0,xa q⟩:cX)∈fG (wD Q ky a xa):=Y9.2 ⟨(a (ky q),xa q),Y9.2 ⟨q,c,rfl⟩,rfl⟩;exact rf (by rw [xo]; exact t.VQ) h2
def zW.cf {x y:cE} (h:zW K a b x y) {k:Ky} (d:∀ k',K k'->a k'=a k->k'=k) (f:∀ k',K k'->b k'=b k->k'=k):cf x.ah (a k) % 4294967296=cf y.ah (b k) % 4294967296:=by
 have h0:=h (fun _=>0) (fun _=>0) fun _ _=>rfl
 have h1:=h (fun r=>if r=a k then 1 else 0) (fun r=>if r=b k then 1 else 0) fun k' c=>by
  by_cases e:k'=k
  ·subst e
   simp
  ·rw [Y1 fun x=>e (d k' c x),Y1 fun x=>e (f k' c x)]
 unfold j3 at h0 h1;rw [pU,pU] at h0;rw [sH,sH] at h1;omega
def wU.Wp (t:wU Q ky K a b xa xb) {q r:δ} (d:q∈Q) (f:r∈Q) (h:dJ (fG (wD Q ky a xa)) (a (ky q)) (a (ky r))):dJ (fG (wD Q ky b xb)) (b (ky q)) (b (ky r)):=by
 obtain ⟨h1,h2⟩:=h;refine ⟨?_,(t.symm.own (t.Qo r f)).2 (Zm f)⟩;unfold cY at h1 ⊢;rw [t.lin d,Om (t.fa q d)] at h1;rw [t.symm.lin d,Om (t.fb q d)];rw [(t.rel q d).cf (fun k' c e=>t.ia _ _ c (t.Qo r f) e) (fun k' c e=>t.ib _ _ c (t.Qo r f) e)] at h1;exact h1
def wU.Yj (t:wU Q ky K a b xa xb) {s u:Xaa} (h:dJ (fG (wD Q ky a xa)) s u):∃ r,r∈Q/\u=a (ky r):=by
 have h2:=h.2;rw [uf,A7] at h2;obtain ⟨k,hk,rfl⟩:=Y9.1 h2;obtain ⟨r,c,rfl⟩:=Y9.1 hk;exact ⟨r,c,rfl⟩
def wU.TK (t:wU Q ky K a b xa xb) {u v:Xaa} (h:qU (dJ (fG (wD Q ky a xa))) u v):∀ q r,q∈Q->r∈Q->u=a (ky q)->v=a (ky r)->qU (dJ (fG (wD Q ky b xb))) (b (ky q)) (b (ky r)):=by
 induction h with
 | refl u =>
  intro q r c d f g;rw [t.ia _ _ (t.Qo q c) (t.Qo r d) (f.symm.trans g)];exact .refl _
 | head e _ k =>
  intro q r c d f g;subst f;obtain ⟨m,j,rfl⟩:=t.Yj e;exact .head (t.Wp c j e) (k m r j d rfl g)
def wU.WN (t:wU Q ky K a b xa xb) {q:δ} (c:q∈Q) (h:kV (dJ (fG (wD Q ky a xa))) (a (ky q))):kV (dJ (fG (wD Q ky b xb))) (b (ky q)):=by
 obtain ⟨y,h1,h2⟩:=h;obtain ⟨m,d,rfl⟩:=t.Yj h1;exact ⟨_,t.Wp c d h1,t.TK h2 m q d c rfl rfl⟩
def wU.Yz (t:wU Q ky K a b xa xb) {q:δ} (c:q∈Q):kV (dJ (fG (wD Q ky a xa))) (a (ky q))↔kV (dJ (fG (wD Q ky b xb))) (b (ky q)):=⟨t.WN c,t.symm.WN c⟩
def wU.Wc (t:wU Q ky K a b xa xb):ov (wD Q ky a xa)=dU (fG (wD Q ky b xb)):=by
 classical
 unfold ov dU;have h2:∀ D:List (Xaa × cE),∀ P:Xaa->Bool,(fG D).findIdx? (fun e=>P e.name)=D.findIdx? fun y=>P y.1:=by
  intro D P;unfold fG;rw [ck9] <;> rfl
 have h3:=h2 (wD Q ky b xb) (fun s=>decide (kV (dJ (fG (wD Q ky b xb))) s));rw [h3];have c:∀ l:List δ,(∀ q,q∈l->q∈Q)->(l.map fun q=>(a (ky q),xa q)).findIdx? (fun y=>decide (kV (dJ (fG (wD Q ky a xa))) y.1))=(l.map fun q=>(b (ky q),xb q)).findIdx? (fun y=>decide (kV (dJ (fG (wD Q ky b xb))) y.1)):=by
  intro l
  induction l with
  | nil=>intro _; rfl
  | cons q l d =>
   intro hl;rw [ZF,ZF,List.findIdx?_cons,List.findIdx?_cons,d fun r f=>hl r (Ze _ f)];have g:decide (kV (dJ (fG (wD Q ky a xa))) (a (ky q)))=decide (kV (dJ (fG (wD Q ky b xb))) (b (ky q))):=cr9.2 (t.Yz (hl q (bg9 ..)));simp only [g]
 exact c Q fun q h=>h
theorem wU.JH (t:wU Q ky K a b xa xb):∀ (n:Nat) (q:δ),q∈Q->zW K a b (rV (cG (fG (wD Q ky a xa))) (dH (fG (wD Q ky a xa))) n (a (ky q))) (rV (cG (fG (wD Q ky b xb))) (dH (fG (wD Q ky b xb))) n (b (ky q)))
 | 0,q,c=>by
  show zW K a b (dH (fG (wD Q ky a xa)) (a (ky q))) (dH (fG (wD Q ky b xb)) (b (ky q)));rw [t.lin c,t.symm.lin c];exact t.rel q c
 | n+1,q,c=>by
  intro f g d;rw [tP,tP,gh,gh,t.lin c,t.symm.lin c];refine t.rel q c _ _ fun k hk=>?_
  unfold IS U9
  by_cases e:k∈Q.map ky
  ·rw [Y8 ((t.own hk).2 e),Y8 ((t.symm.own hk).2 e)];obtain ⟨r,j,rfl⟩:=Y9.1 e;exact wU.JH t n r j f g d
  ·rw [Y1 fun h=>e ((t.own hk).1 h),Y1 fun h=>e ((t.symm.own hk).1 h)];exact d k hk
def SG {D:List (Xaa × cE)} (s:Xaa):fx (fG D) s=rV (cG (fG D)) (dH (fG D)) D.length s:=by
 unfold fx JH;rw [xo,YY]
def N4 {D:List (Xaa × cE)} (s:Xaa):cG (fG (nV D)) s=cG (fG D) s:=by
 have h:(nV D).map (·.1)=D.map (·.1):=by
  unfold nV;rw [Zs] <;> rfl
 rw [cg9,uf,uf,h]
def wW {D:List (Xaa × cE)} (hn:(D.map (·.1)).Nodup) (s:Xaa):cF (fG (nV D)) s=if cG (fG D) s=true then some (fx (fG D) s) else none:=by
 unfold cF;rw [N4]
 by_cases h:cG (fG D) s=true
 ·rw [Y8 h,Y8 h];rw [uf] at h;obtain ⟨y,c,rfl⟩:=Y9.1 h;have h0:(nV D).map (·.1)=D.map (·.1):=by
   unfold nV;rw [Zs] <;> rfl
  have h2:(⟨y.1,none,0,0,fx (fG D) y.1⟩:cX)∈fG (nV D):=Y9.2 ⟨(y.1,fx (fG D) y.1),Y9.2 ⟨y,c,rfl⟩,rfl⟩;exact Zg some (rf (by rw [xo,h0]; exact hn) h2)
 ·rw [Y1 h,Y1 h]
def wU.put (t:wU Q ky K a b xa xb) {x y:cE} (h:zW K a b x y):zW K a b (xk (nV (wD Q ky a xa)) x) (xk (nV (wD Q ky b xb)) y):=by
 intro f g c;unfold xk;rw [gh,gh];refine h _ _ fun k hk=>?_
 unfold IS;rw [wW t.VQ,wW t.symm.VQ]
 by_cases d:k∈Q.map ky
 ·rw [Y8 ((t.own hk).2 d),Y8 ((t.symm.own hk).2 d)];obtain ⟨r,e,rfl⟩:=Y9.1 d;have j:(wD Q ky a xa).length=Q.length:=by unfold wD; rw [YY]
  have l:(wD Q ky b xb).length=Q.length:=by unfold wD; rw [YY]
  simp only [SG,j,l];exact t.JH Q.length r e f g c
 ·rw [Y1 fun h=>d ((t.own hk).1 h),Y1 fun h=>d ((t.symm.own hk).1 h)];exact c k hk
def JE {D:List (Xaa × cE)} (hn:(D.map (·.1)).Nodup) (hc:∀ v,¬ kV (dJ (fG D)) v) {x:cE}:∀ u,u∈(xk (nV D) x).ah->cG (fG D) u.1=false:=by
 intro u d;unfold xk at d;rcases tU d with ⟨p,f,e,ho⟩ | ⟨p,y,v,f,ho,hv,e⟩
 ·rw [wW hn] at ho;cases c:cG (fG D) u.1 with
  | false=>rfl
  | true=>rw [Y8 c] at ho; cases ho
 ·rw [wW hn] at ho
  by_cases c:cG (fG D) p.1=true
  ·rw [Y8 c] at ho;have ho:=Zl ho;subst ho
   have:=(yj (own:=cG (fG D)) (lin:=dH (fG D)) (names:=Sx.bh (fG D)) (fun s=>eP _ s) hc ((eP _ _).1 c) v hv).1
   rw [<- e];exact this
  ·rw [Y1 c] at ho; cases ho
def PB {D:List (Xaa × cE)} (h:ov D=none):∀ v,¬ kV (dJ (fG D)) v:=by
 classical
 intro v hv;unfold ov at h;rw [ZJ] at h;have c:∃ u,cG (fG D) u=true/\kV (dJ (fG D)) u:=by
  obtain ⟨y,h1,h2⟩:=hv;refine ⟨y,h1.2,?_⟩;have d:qU (dJ (fG D)) v y:=.one h1;cases h2 with
  | refl=>exact ⟨_,h1,.refl _⟩
  | head e r=>exact ⟨_,e,r.trans d⟩
 obtain ⟨u,h1,h2⟩:=c;rw [uf] at h1;obtain ⟨q,f,rfl⟩:=Y9.1 h1
 have:=h q f
 exact absurd h2 (Zf this)
def wU.same (t:wU Q ky K a b xa xb) (hc:ov (wD Q ky a xa)=none) {x y:cE} (h:zW K a b x y) (e:x.num<4294967296) (g:y.num<4294967296):xk (nV (wD Q ky a xa)) x=xk (nV (wD Q ky b xb)) y:=by
 classical
 have ca:=PB hc;have j:∀ v,¬ kV (dJ (fG (wD Q ky b xb))) v:=PB (by
  have h1:=t.Wc;have h2:=t.symm.Wc;rw [hc] at h1
  have:ov (wD Q ky b xb)=dU (fG (wD Q ky b xb)):=by
   unfold ov dU fG;rw [ck9] <;> rfl
  rw [this,<- h1])
 refine JO (ft _ _) (ft _ _) (mW e) (mW g) fun f=>?_
 have l:j3 f (xk (nV (wD Q ky a xa)) x)=j3 (fun s=>if cG (fG (wD Q ky a xa)) s=true then 0 else f s) (xk (nV (wD Q ky a xa)) x):=qk fun u d=>by
  rw [JE t.VQ ca u d] <;> rfl
 have m:j3 f (xk (nV (wD Q ky b xb)) y)=j3 (fun s=>if cG (fG (wD Q ky b xb)) s=true then 0 else f s) (xk (nV (wD Q ky b xb)) y):=qk fun u d=>by
  rw [JE t.symm.VQ j u d] <;> rfl
 rw [l,m];refine t.put h _ _ fun k hk=>?_
 by_cases c:k∈Q.map ky
 ·rw [Y8 ((t.own hk).2 c),Y8 ((t.symm.own hk).2 c)]
 ·rw [Y1 fun h=>c ((t.own hk).1 h),Y1 fun h=>c ((t.symm.own hk).1 h),t.Jr k hk c]
end
def Kq {l c:Nat} {b:List Xaa} (n:l=b.length) (hc:∀ i,(hi:i<b.length)->∃ a,I=some a/\aI H (a.add (i*1)) 0 [.string b[i]]) (hl:b.length<=2^61) (s:Xaa):xL Xaz 38 [.slice I l c,.string s] H (.bool (gz b s)):=by
 refine fh mixed Tryz.func38 aw (jN I l c s) ?_;unfold iL aY bj bn ay bH dZ aK cr;refine aU (cs:=ic) (fun y m h'=>∃ i:Nat,y.2.1=(i:Int)/\m=b.length-i/\i<=b.length/\h'=H/\gz (b.take i) s=false) (false,(0:Int),()) b.length rfl
  ⟨0,rfl,rfl,ad,rfl,rfl⟩ ?_
 rintro ⟨b2,j,⟨⟩⟩ m h' ⟨i,hi,rfl,f,rfl,hn⟩;simp only at hi;subst hi;refine ak ?_;refine aP ?_ ?_<;>intro q
 ·have d:i<b.length:=ad
  obtain ⟨a,g,e⟩:=hc i d;refine bP g ?_;rw [cB i];refine av (b[i],()) e (ak ?_);have hs:=Xe b s i d;rw [oL];refine ao ?_ ?_<;>intro r
  ·have r:=Y3 r;refine ⟨Zg Value.bool ?_,rfl⟩;unfold gz;exact (ay9.2 ⟨_,Y5 d,Y4 r⟩).symm
  ·rw [hn,r] at hs;refine aG (cs:=ic) (b2,((i+1:Nat):Int),()) (b.length-(i+1)) rfl ad (by rw [wrap_i64 ad ad]; rfl) ?_;exact ⟨i+1,rfl,rfl,ad,rfl,hs⟩
 ·have:i=b.length:=ad
  subst this;rw [ZA] at hn;exact ⟨by rw [hn],rfl⟩
def jX (us:List bU) (n:Nat) (s:Xaa):Option Nat :=
 if (us[n]?.map fun u=>gz (fW u) s)=some true then some n else us.findIdx? fun u=>gz u.aQ s
structure Ml (us:List bU):Prop where
 many:us.length<=2^20
 text:∀ u,u∈us->u.text.length<=2^20
 data:∀ u,u∈us->u.data.length<=2^20
 bf:∀ u,u∈us->u.bf.length<=2^20
def Gg {l c:Nat} {us:List bU} (v:wh H I l us) (sz:Ml us) {n:Nat} (hn:n<us.length) (s:Xaa) :
  HC Xaz 69 #[.slice I l c,vI (n:Int),.string s] H fun w h'=>w=vI (R0 (jX us n s))/\Ext H h':=by
 refine bi (args:=[.slice I l c,vI (n:Int),.string s]) mixed Tryz.func69 aw (oA I l c n s) ?_;unfold jP aY bj bn ay bd bz aK;have hll:=v.len;have hmany:=sz.many;have d:us[n]?=some us[n]:=YZ hn;obtain ⟨a,sa,sb,sc,sd,rfl,hc,C⟩:=v.cells n hn;have hm:=Y5 hn;generalize us[n]=u at d hc C hm;refine bP rfl ?_;rw [cB n];refine av ((sa.p,sa.l,sa.c),(sb.p,sb.l,sb.c),(sc.p,sc.l,sc.c),(sd.p,sd.l,sd.c),()) hc (ak ?_);refine aJ (Ov C (sz.text u hm) (sz.data u hm) (sz.bf u hm)) ?_;rintro _ h1 ⟨D,E,c1,rfl,F,o⟩;refine ⟨((D,E,c1),()),rfl,ak ?_⟩;have t:(fW u).length<=2^61:=by
  have h1:=sz.text u hm;have h2:=sz.data u hm;have h3:=sz.bf u hm;unfold fW eO;rw [Y0,Y0,YY,YY,YY];have h4:=ao9 (fun x:cH=>decide (x.kind=1)) u.text;have h5:=ao9 (fun x:cH=>decide (x.kind=1)) u.data;omega
 refine aM (Ea F t s) ?_;refine ao ?_ ?_<;>intro q
 ·refine ⟨?_,o⟩;unfold jX;rw [d,bt9,q,Y8 rfl] <;> rfl
 ·have G:jX us n s=us.findIdx? fun u=>gz u.aQ s:=by
   unfold jX;rw [d,bt9,q,Y1 aj]
  rw [G];refine aU (cs:=gk) (fun y m h'=>∃ i:Nat,y.2.1=(i:Int)/\m=us.length-i/\i<=us.length/\h'=h1/\∀ j,j<i->(b:j<us.length)->gz us[j].aQ s=false) ((0:Int),(0:Int),()) us.length rfl
   ⟨0,rfl,rfl,ad,rfl,fun j b=>absurd b ad⟩ ?_
  rintro ⟨J,O,⟨⟩⟩ m h' ⟨i,hi,rfl,K,rfl,f⟩;simp only at hi;subst hi;refine ak ?_;refine aP ?_ ?_<;>intro q
  ·have k:i<us.length:=ad
   obtain ⟨a',P,Q,R,z,A,B,g⟩:=(v.ai o).cells i k;refine dO (aH A ?_);rw [cB i];refine av ((z.p,z.l,z.c),()) ⟨by rw [add_add]; exact B.2.2.2.1,trivial⟩ ?_;refine ak ?_;refine aM (Kq g.aQ.len (fun j b=>by
    obtain ⟨a,L,hc,_⟩:=g.aQ.cells j b;exact ⟨a,L,hc⟩) (by have:=g.aQ.many; omega) s) ?_
   refine ao ?_ ?_<;>intro r
   ·refine ⟨?_,o⟩;rw [show us.findIdx? (fun u=>gz u.aQ s)=some i from by
     rw [Zr];exact ⟨k,r,fun j b=>by rw [f j b ad]; simp⟩]
    rfl
   ·refine aG (cs:=gk) (J,((i+1:Nat):Int),()) (us.length-(i+1)) rfl ad (by rw [wrap_i64 ad ad]; rfl) ?_;exact ⟨i+1,rfl,rfl,ad,rfl,fun j b M=>by
     by_cases e:j=i
     ·subst e; exact r
     ·exact f j ad M⟩
  ·have:i=us.length:=ad
   subst this;refine ⟨?_,o⟩;rw [show us.findIdx? (fun u=>gz u.aQ s)=none from by
    rw [ZJ];intro u N;obtain ⟨j,b,rfl⟩:=Zt N;exact f j b b]
   rfl
def qV (n sec:Nat):Nat->List cH->List Lb
 | _,[]=>[]
 | i,x::l=>(if x.kind=1 then [⟨n,sec,i,x.name⟩] else [])++qV n sec (i+1) l
def G4 (n:Nat) (u:bU):List Lb:=qV n 0 0 u.text++qV n 1 0 u.data
def cy:Nat->List bU->List Lb
 | _,[]=>[]
 | n,u::us=>G4 n u++cy (n+1) us
def Bs (x:Lb):Ky:=(x.u,x.n)
def kn (q:Nat × oh):Ky:=(q.1,q.2.1)
def oB (l:List Ky) (k:Ky):Option Nat:=l.findIdx? fun x=>decide (x=k)
variable {b:Ky}
def pL {l:List Ky} :oB l b=none↔b∉l:=by
 unfold oB;rw [ZJ];constructor
 ·intro h hk
  have:=h b hk
  simp at this
 ·intro h x c;exact Y6 fun e=>h (e▸c)
def j1 {l:List Ky} {k:Ky} {i:Nat} (h:oB l k=some i):∃ hi:i<l.length,l[i]=k:=by
 unfold oB at h;rw [Zr] at h;obtain ⟨h1,h2,_⟩:=h;exact ⟨h1,Y3 h2⟩
def B8 {l:List Ky} (h:b∈l):∃ i,oB l b=some i:=by
 cases hk:oB l b with
 | some i=>exact ⟨i,rfl⟩
 | none=>exact absurd h (pL.1 hk)
def Dn {l:List Ky} (hn:b∉l):oB (l++[b])=zI (oB l) b l.length:=by
 funext k
 unfold zI
 by_cases hk:k=b
 ·subst hk;rw [Y8 rfl];have h0:=pL.2 hn;unfold oB at h0 ⊢;rw [cq9,h0]
  simp
 ·rw [Y1 hk];unfold oB;rw [cq9]
  have:decide (b=k)=false:=Y6 fun e=>hk e.symm
  simp [List.findIdx?_cons,this]
structure WI (w:LW) (L:List Lb) (E:List Ky):Prop where
 lb:w.lb=L
 num:w.num=oB (L.map Bs)
 uV:w.uV=oB E
 ne:w.ne=E.length
theorem WI.Jr {w:LW} {L:List Lb} {E:List Ky} (i0:WI w L E) {n sec:Nat}:∀ (l:List cH) (i:Nat) {w:LW} {L:List Lb} (i0:WI w L E) (hn:(eO l).Nodup) (b:∀ s,s∈eO l->(n,s)∉L.map Bs),WI (jo n sec i l w) (L++qV n sec i l) E
 | [],i,w,L,i0,hn,b=>by simpa [jo,qV] using i0
 | x::l,i,w,L,i0,hn,b=>by
  rw [uo] at hn b;rw [jo,qV,<- Zp]
  by_cases hk:x.kind=1
  ·simp only [hk,if_true,List.singleton_append,List.nodup_cons,List.mem_cons] at hn b;have hx:=b x.name (.inl rfl);refine WI.Jr i0 l (i+1) ?_ hn.2 (fun s c=>?_)
   ·unfold j2;rw [Y8 hk,Y8 hk];refine ⟨by show w.lb++_=_; rw [i0.lb],?_,i0.uV,i0.ne⟩;show zI w.num (n,x.name) w.lb.length=_;rw [Za,List.map_singleton];show _=oB (L.map Bs++[(n,x.name)]);rw [Dn hx,i0.num,i0.lb,YY]
   ·rw [Y8 hk,Za,Zb];rintro (h | h)
    ·exact b s (.inr c) h
    ·have:(n,s)=(n,x.name):=by simpa [Bs] using h
     have:s=x.name:=(cb9 this).2
     exact hn.1 (this▸c)
  ·simp only [hk,if_false,List.nil_append] at hn b;rw [Y1 hk,Z2];refine WI.Jr i0 l (i+1) ?_ hn b;unfold j2;rw [Y1 hk];exact i0
theorem WI.eqs {L:List Lb} {n:Nat}:∀ (l:List oh) {w:LW} {E:List Ky} (i0:WI w L E) (hn:(l.map (·.1)).Nodup) (b:∀ s,s∈l.map (·.1)->(n,s)∉E),WI (l.foldl (wx n) w) L (E++l.map fun e=>(n,e.1))
 | [],w,E,i0,hn,b=>by simpa using i0
 | x::l,w,E,i0,hn,b=>by
  simp only [List.map_cons,List.nodup_cons,List.mem_cons] at hn b;have hx:=b x.1 (.inl rfl);rw [ZD,ZF,show E++(n,x.1)::l.map (fun e=>(n,e.1))=(E++[(n,x.1)])++l.map fun e=>(n,e.1) from aj];refine WI.eqs l ?_ hn.2 (fun s c=>?_)
  ·refine ⟨i0.lb,i0.num,?_,?_⟩
   ·show zI w.uV (n,x.1) w.ne=_;rw [Dn hx,i0.uV,i0.ne]
   ·show (if (w.uV (n,x.1)).isSome then w.ne else w.ne+1)=_;rw [i0.uV,pL.2 hx,Y0,i0.ne] <;> rfl
  ·rw [Zb];rintro (h | h)
   ·exact b s (.inr c) h
   ·have:(n,s)=(n,x.1):=by simpa using h
    have:s=x.1:=(cb9 this).2
    exact hn.1 (this▸c)
theorem xP (n sec:Nat):∀ (l:List cH) (i:Nat),(qV n sec i l).map Bs=(eO l).map fun s=>(n,s)
 | [],i=>rfl
 | x::l,i=>by
  rw [qV,uo,Za,Za,xP n sec l (i+1)]
  by_cases hk:x.kind=1 <;> simp [hk,Bs]
variable {O:LW} {c:bU}
def WI.YD {L:List Lb} {E:List Ky} {n:Nat} (i0:WI O L E) (hn:(fW c).Nodup) (h1:∀ k,k∈L.map Bs->k.1<n) (h2:∀ k,k∈E->k.1<n):WI (GM n c O) (L++G4 n c) (E++c.bf.map fun e=>(n,e.1)):=by
 unfold fW at hn;rw [ZV,ZV] at hn;obtain ⟨⟨d,f,g⟩,j,o⟩:=hn;unfold GM G4;rw [<- Zp];refine WI.eqs _ (WI.Jr i0 _ _ (WI.Jr i0 _ _ i0 d (fun s b h=>by have:=h1 _ h; simp at this)) f (fun s b h=>?_)) j (fun s b h=>by have:=h2 _ h; simp at this);rw [Za,Zb] at h;rcases h with h | h
 ·have:=h1 _ h; simp at this
 ·rw [xP] at h;obtain ⟨t,l,m⟩:=Y9.1 h
  have:t=s:=(cb9 m).2
  exact g t l s b this
theorem WI.yz:∀ (us:List bU) (n:Nat) {w:LW} {L:List Lb} {E:List Ky} (i0:WI w L E) (hn:∀ u,u∈us->(fW u).Nodup) (h1:∀ k,k∈L.map Bs->k.1<n) (h2:∀ k,k∈E->k.1<n),WI (oy n us w) (L++cy n us) (E++(eR n us).map kn)
 | [],n,w,L,E,i0,hn,h1,h2=>by simpa [oy,cy,eR] using i0
 | u::us,n,w,L,E,i0,hn,h1,h2=>by
  rw [oy,cy,eR,Za,<- Zp,<- Zp];have b:(u.bf.map fun e=>(n,e)).map kn=u.bf.map fun e=>(n,e.1):=by rw [Zs]; rfl
  rw [b];refine WI.yz us (n+1) (WI.YD i0 (hn u aj) h1 h2) (fun v hv=>hn v (by simp [hv])) (fun k hk=>?_) (fun k hk=>?_)
  ·rw [Za,Zb] at hk;rcases hk with hk | hk
   ·have:=h1 _ hk; omega
   ·unfold G4 at hk;rw [Za,xP,xP,<- Za] at hk;obtain ⟨s,_,rfl⟩:=Y9.1 hk;show n<n+1;omega
  ·rcases Zb.1 hk with hk | hk
   ·have:=h2 _ hk; omega
   ·obtain ⟨s,_,rfl⟩:=Y9.1 hk;show n<n+1;omega
def ya (h:fA c=0):(fW c).Nodup:=by
 have h1:=(AY h).2;rw [yE] at h1;unfold yC at h1;simp only [Bool.and_eq_true,decide_eq_true_eq] at h1;exact h1.2.2.2.1
def Tp {us:List bU} (b:∀ u,u∈us->fA u=0):WI (oy 0 us Tj) (cy 0 us) ((eR 0 us).map kn):=by
 have:=WI.yz us 0 (w:=Tj) (L:=[]) (E:=[]) ⟨rfl,rfl,rfl,rfl⟩ (fun u c=>ya (b u c)) aj aj
 simpa using this
def NQ {n:Nat} {u:bU} {w:LW}:(GG n u w).lb=w.lb/\(GG n u w).num=w.num/\(GG n u w).uV=w.uV/\(GG n u w).ne=w.ne:=by
 have h:=Px n u.aQ w;exact ⟨h.1,h.2.1,h.2.2.2.1,h.2.2.2.2⟩
theorem CH:∀ (us:List bU) (n:Nat) (w w':LW),lx n us w=.ok w'->w'.lb=w.lb/\w'.num=w.num/\w'.uV=w.uV/\w'.ne=w.ne
 | [],n,w,w',h=>by
  unfold lx at h;cases h;exact ⟨rfl,rfl,rfl,rfl⟩
 | u::us,n,w,w',h=>by
  rw [lx] at h;split at h
  ·cases h
  ·have h1:=CH us (n+1) _ w' h;have h2:=NQ (n:=n) (u:=u) (w:=w);exact ⟨h1.1.trans h2.1,h1.2.1.trans h2.2.1,h1.2.2.1.trans h2.2.2.1,h1.2.2.2.trans h2.2.2.2⟩
def WI.meet {us:List bU} {n:Nat} {w':LW} {L:List Lb} {E:List Ky} (i0:WI O L E) (h:lx n us O=.ok w'):WI w' L E:=by
 have:=CH us n O w' h
 exact ⟨this.1.trans i0.lb,this.2.1.trans i0.num,this.2.2.1.trans i0.uV,this.2.2.2.trans i0.ne⟩
def WI.Lq {w:LW} {L:List Lb} {E:List Ky} (i0:WI w L E) (h1:L.length<=2^50) (h2:E.length<=2^50):Qq w:=by
 refine ⟨fun k i h=>?_,fun k i h=>?_⟩
 ·rw [i0.num] at h;obtain ⟨hi,_⟩:=j1 h;rw [YY] at hi;omega
 ·rw [i0.uV] at h;obtain ⟨hi,_⟩:=j1 h;omega
def J8 (u:Nat):(Lib.decDigits u).foldl (fun a b=>a*10+(b.toNat-48)) 0=u:=by
 induction u using Nat.strongRecOn with
 | ind u c =>
  rw [Lib.decDigits];split
  ·next h =>
   have h1:(UInt8.ofNat (48+u)).toNat=48+u:=by rw [UInt8.toNat_ofNat']; omega
   simp only [List.foldl_cons,List.foldl_nil,h1];omega
  ·next h =>
   have h1:(UInt8.ofNat (48+u % 10)).toNat=48+u % 10:=by rw [UInt8.toNat_ofNat']; omega
   rw [ZW,c (u / 10) ad];simp only [List.foldl_cons,List.foldl_nil,h1];omega
def xR (n:Nat):om n=⟨(Lib.decDigits n).toArray⟩:=by
 unfold om;rw [Lib.itoa_nonneg]
def ug {m n:Nat} (h:om m=om n):m=n:=by
 rw [xR,xR] at h;have h1:Lib.decDigits m=Lib.decDigits n:=by
  have:=Zg (fun b:Xaa=>b.data.toList) h
  simpa using this
 rw [<- J8 m,h1,J8]
def eX (a b:Xaa):(a++b).data.toList=a.data.toList++b.data.toList:=by
 rw [ByteArray.data_append,Array.toList_append]
def xB {a b c:Xaa} (h:a++b=a++c):b=c:=by
 have h1:=Zg (fun b:Xaa=>b.data.toList) h;simp only [eX] at h1;have h2:=List.append_cancel_left h1;cases b; cases c;simp only at h2
 congr 1
 exact Array.ext' h2
def word_inj {L:List Lb} {E:List Ky} (i0:WI O L E) {k k':Ky} (hk:k∈L.map Bs\/k∈E) (d:k'∈L.map Bs\/k'∈E) (h:O.word k=O.word k'):k=k':=by
 have c:∀ a b:Xaa,(⟨#[76]⟩:Xaa)++a≠(⟨#[69]⟩:Xaa)++b:=by
  intro a b e;have h1:=Zg (fun b:Xaa=>b.data.toList) e;simp only [eX] at h1;simp at h1
 have l:∀ {k:Ky},k∈L.map Bs\/k∈E->O.num k=none->∃ i,O.uV k=some i/\∃ hi:i<E.length,E[i]=k:=by
  intro k hk hn;rw [i0.num] at hn
  have:=pL.1 hn
  have hk:k∈E:=hk.elim (fun h=>absurd h this) id;obtain ⟨i,hi⟩:=B8 hk;exact ⟨i,by rw [i0.uV]; exact hi,j1 hi⟩
 unfold LW.word at h;cases h1:O.num k with
 | some i =>
  cases h2:O.num k' with
  | some j =>
   rw [h1,h2] at h
   have:=ug (xB h)
   subst this;rw [i0.num] at h1 h2;obtain ⟨a,m⟩:=j1 h1;obtain ⟨b,n⟩:=j1 h2;rw [<- m,<- n]
  | none =>
   rw [h1,h2] at h;exact absurd h (c _ _)
 | none =>
  obtain ⟨i,o,hi,f⟩:=l hk h1;cases h2:O.num k' with
  | some j =>
   rw [h1,h2] at h;exact absurd h.symm (c _ _)
  | none =>
   obtain ⟨j,p,q,g⟩:=l d h2;rw [h1,h2] at h;simp only [o,p,Option.getD_some] at h
   have:=ug (xB h)
   subst this;rw [<- f,<- g]
def Dd (b:Qq O) (k:Ky):(O.word k).size<=maxLen:=by
 have c:2000<=maxLen:=bY
 unfold LW.word;cases h:O.num k with
 | some n =>
  have:=mu (n:=n) (by have:=b.n _ _ h; omega)
  show (_++_:Xaa).size<=_;rw [be9]
  have:(⟨#[76]⟩:Xaa).size=1:=rfl
  omega
 | none =>
  have h1:(O.uV k).getD 0<=2^60:=by
   cases h2:O.uV k with
   | none=>simp
   | some i=>have:=b.e _ _ h2; simp; omega
  have:=mu h1
  show (_++_:Xaa).size<=_;rw [be9]
  have:(⟨#[69]⟩:Xaa).size=1:=rfl
  omega
def Bh {u:Nat} (h:O.bad u U=none):∀ t,t∈U.ah->∃ k,O.own u t.1=some k:=by
 unfold LW.bad at h;rw [Option.map_eq_none_iff,List.find?_eq_none] at h;intro t b
 have:=h t b
 cases c:O.own u t.1 with
 | none=>rw [c] at this; simp at this
 | some k=>exact ⟨k,rfl⟩
def Jw {u:Nat} (h:O.bad u U=none):∀ t,t∈(O.lin u U).ah->∃ p k,p∈U.ah/\O.own u p.1=some k/\t.1=O.word k:=by
 intro t e;have hb:=Bh h;rcases tU e with ⟨p,c,d,b⟩ | ⟨p,y,v,c,b,hv,d⟩
 ·obtain ⟨k,hk⟩:=hb p c;rw [d] at hk;rw [hk] at b;cases b
 ·obtain ⟨k,hk⟩:=hb p c;rw [hk] at b;simp only [Option.map_some,Option.some.injEq] at b;subst b;refine ⟨p,k,c,hk,?_⟩;rw [<- d]
  have:v=(O.word k,1):=by simpa [mK] using hv
  rw [this]
def Ao {u:Nat} (h:O.bad u U=none):(O.lin u U).ah.length<=U.ah.length:=by
 have b:Nf (O.lin u U).ah:=ft _ _;have h1:((O.lin u U).ah.map (·.1)).Nodup:=Z3.2 (b.1.imp fun h=>kW h);have h2:=mj ((O.lin u U).ah.map (·.1)) (U.ah.map fun t=>O.word ((O.own u t.1).getD (0,dV))) h1 (fun s c=>by
  obtain ⟨t,d,rfl⟩:=Y9.1 c;obtain ⟨p,k,e,hk,f⟩:=Jw h t d;rw [f];refine Y9.2 ⟨p,e,?_⟩;rw [hk];rfl)
 rwa [YY,YY] at h2
def O1 (b:Qq O) {u:Nat} (h:O.bad u U=none):∀ t,t∈(O.lin u U).ah->t.1.size<=maxLen:=by
 intro t c;obtain ⟨p,k,_,_,d⟩:=Jw h t c;rw [d];exact Dd b k
def CT {n:Nat} (h:sV O n c=none):(∀ x,x∈c.text->O.bad n x.e=none)/\(∀ x,x∈c.data->O.bad n x.e=none)/\∀ e,e∈c.bf->O.bad n e.2=none:=by
 unfold sV at h;rw [Option.or_eq_none_iff,Option.or_eq_none_iff] at h;obtain ⟨h1,h2,b⟩:=h;unfold LW.zR at h1 h2;rw [Z4] at h1 h2 b;exact ⟨h1,h2,b⟩
theorem nC {w:LW}:∀ (us:List bU) (n:Nat),gC w n us=none->∀ i,(hi:i<us.length)->sV w (n+i) us[i]=none
 | [],n,h,i,hi=>absurd hi aj
 | u::us,n,h,i,hi=>by
  rw [gC] at h;cases b:sV w n u with
  | some s=>rw [b] at h; cases h
  | none =>
   rw [b] at h
   match i with
   | 0=>simpa using b
   | i+1 =>
    have:=nC us (n+1) h i (by simpa using hi)
    rw [show n+1+i=n+(i+1) from ad] at this;simpa using this
theorem xd:∀ (us:List bU) (n:Nat) (q:Nat × oh),q∈eR n us->∃ i,∃ hi:i<us.length,q.1=n+i/\q.2∈us[i].bf
 | [],n,q,h=>by simp [eR] at h
 | u::us,n,q,h=>by
  rw [eR,Zb] at h;rcases h with h | h
  ·obtain ⟨e,b,rfl⟩:=Y9.1 h;exact ⟨0,aj,rfl,b⟩
  ·obtain ⟨i,hi,h1,h2⟩:=xd us (n+1) q h;exact ⟨i+1,by simpa using hi,ad,by simpa using h2⟩
def EX {us:List bU} (h:gC O 0 us=none) {q:Nat × oh} (b:q∈eR 0 us):O.bad q.1 q.2.2=none:=by
 obtain ⟨i,hi,h1,h2⟩:=xd us 0 q b
 have:=(CT (nC us 0 h i hi)).2.2 _ h2
 rw [h1];exact this
theorem JQ:∀ (us:List bU) (n:Nat),(∀ u,u∈us->u.bf.length<=8192)->(eR n us).length<=us.length*8192
 | [],n,h=>by simp [eR]
 | u::us,n,h=>by
  rw [eR,Y0,YY,Z1];have h1:=JQ us (n+1) (fun v hv=>h v (by simp [hv]));have h2:=h u aj;omega
theorem yb:∀ (us:List bU) (n:Nat),(∀ u,u∈us->(u.bf.map (·.1)).Nodup)->((eR n us).map kn).Nodup
 | [],n,h=>by simp [eR]
 | u::us,n,h=>by
  rw [eR,Za,ZV];refine ⟨?_,yb us (n+1) (fun v hv=>h v (by simp [hv])),?_⟩
  ·have:(u.bf.map fun e=>(n,e)).map kn=(u.bf.map (·.1)).map fun s=>(n,s):=by rw [Zs,Zs]; rfl
   rw [this,az9,Z3];exact (az9.1 (h u aj)).imp fun h e=>h (cb9 e).2
  ·intro a c b d e;obtain ⟨q,f,rfl⟩:=Y9.1 c;obtain ⟨r,g,rfl⟩:=Y9.1 d;obtain ⟨x,_,rfl⟩:=Y9.1 f;obtain ⟨i,_,h1,_⟩:=xd us (n+1) r g
   have:n=r.1:=(cb9 e).1
   omega
theorem CA:∀ (us:List bU) (n:Nat),((eR n us).map fun q=>q.2.2.ah.length).sum<=((us.flatMap cO).flatMap (·.ah)).length
 | [],n=>by simp [eR]
 | u::us,n=>by
  rw [eR,Za,List.sum_append,ZN,bb9,Y0];have h1:=CA us (n+1);have h2:((u.bf.map fun e=>(n,e)).map fun q=>q.2.2.ah.length).sum<=((cO u).flatMap (·.ah)).length:=by
   unfold cO;rw [bb9,Y0,Zs]
   have:∀ l:List oh,(l.map ((fun q:Nat × oh=>q.2.2.ah.length) ∘ fun e=>(n,e))).sum=((l.map (·.2)).flatMap (·.ah)).length:=by
    intro l
    induction l with
    | nil=>rfl
    | cons e l b=>rw [ZF,ZX,ZF,ZN,Y0,b]; rfl
   rw [this];omega
  omega
structure Hb (us:List bU):Prop where
 right:∀ u,u∈us->fA u=0
 many:us.length<=64
def Hb.bf {us:List bU} (r:Hb us) {u:bU} (b:u∈us):u.bf.length<=8192/\u.text.length+u.data.length<=8192:=by
 have h:=(AY (r.right u b)).1;unfold w7 at h;rw [Bool.or_eq_false_iff] at h;have h1:=Zf h.1;have h2:=Zf h.2;omega
def Hb.eqs {us:List bU} (r:Hb us):(eR 0 us).length<=2^19:=by
 have h1:=JQ us 0 (fun u b=>(r.bf b).1);have h2:=r.many;omega
theorem sR (n sec:Nat):∀ (l:List cH) (i:Nat),(qV n sec i l).length<=l.length
 | [],i=>by simp [qV]
 | x::l,i=>by
  have:=sR n sec l (i+1)
  rw [qV,Y0,Z1];split <;> simp <;> omega
theorem CN:∀ (us:List bU) (n:Nat),(∀ u,u∈us->u.text.length+u.data.length<=8192)->(cy n us).length<=us.length*8192
 | [],n,h=>by simp [cy]
 | u::us,n,h=>by
  rw [cy,Y0,Z1];have h1:=CN us (n+1) (fun v hv=>h v (by simp [hv]));have h2:=h u aj;have h3:=sR n 0 u.text 0;have h4:=sR n 1 u.data 0;unfold G4;rw [Y0];omega
def Hb.eO {us:List bU} (r:Hb us):(cy 0 us).length<=2^19:=by
 have h1:=CN us 0 (fun u b=>(r.bf b).2);have h2:=r.many;omega
def Hb.Lq {us:List bU} (r:Hb us) {w:LW} (i0:WI w (cy 0 us) ((eR 0 us).map kn)):Qq w :=
 i0.Lq (by have:=r.eO; omega) (by rw [YY]; have:=r.eqs; omega)
def Uu {us:List bU} (r:Hb us) (sm:IJ us) (i0:WI O (cy 0 us) ((eR 0 us).map kn)) (n:gC O 0 us=none) {es:List cX} (h:es.map fL=xm O us):uX es:=by
 have lb:=r.Lq i0;have hn:Sx.bh es=(eR 0 us).map fun q=>O.word (kn q):=by
  have:=Zg (List.map (·.1)) h
  unfold xm at this;rw [Zs,Zs] at this;exact this
 have hl:es.length=(eR 0 us).length:=by
  have:=Zg List.length h
  unfold xm at this;simpa using this
 have c:∀ e,e∈es->∃ q,q∈eR 0 us/\e.name=O.word (kn q)/\e.x=O.lin q.1 q.2.2:=by
  intro e d;have h1:fL e∈xm O us:=by rw [<- h]; exact Zm d
  unfold xm at h1;obtain ⟨q,f,h2⟩:=Y9.1 h1;exact ⟨q,f,(cb9 h2).1.symm,(cb9 h2).2.symm⟩
 have g:(es.flatMap (·.x.ah)).length<=2^20:=by
  have s:∀ l:List cX,(l.flatMap (·.x.ah)).length=((l.map fL).map (·.2.ah.length)).sum:=by
   intro l
   induction l with
   | nil=>rfl
   | cons e l j=>rw [ZN,Y0,ZF,ZF,ZX,j]; rfl
  rw [s,h];unfold xm;rw [Zs];have y:∀ l:List (Nat × oh),(∀ q,q∈l->O.bad q.1 q.2.2=none)->(l.map ((fun p:Xaa × cE=>p.2.ah.length) ∘ fun q=>(O.word (q.1,q.2.1),O.lin q.1 q.2.2))).sum<=(l.map fun q=>q.2.2.ah.length).sum:=by
   intro l hl
   induction l with
   | nil=>simp
   | cons q l j =>
    rw [ZF,ZF,ZX,ZX];have h1:=j (fun p z=>hl p (by simp [z]));have h2:=Ao (hl q aj);have h3:((fun p:Xaa × cE=>p.2.ah.length) ∘ fun q:Nat × oh=>(O.word (q.1,q.2.1),O.lin q.1 q.2.2)) q=(O.lin q.1 q.2.2).ah.length:=rfl;omega
  have h1:=y (eR 0 us) (fun q f=>EX n f);have h2:=CA us 0;have h3:=sm.ah;omega
 refine ⟨⟨?_,?_,?_,?_,?_⟩,g⟩
 ·rw [hn];have h1:=yb us 0 (fun u A=>by
   have:=ya (r.right u A)
   unfold fW at this;rw [ZV] at this;exact this.2.1)
  rw [az9,Z3] at h1 ⊢;refine List.Pairwise.imp_of_mem ?_ h1;intro a b B k m e;exact m (word_inj i0 (.inr (Zm B)) (.inr (Zm k)) e)
 ·have:=r.eqs; omega
 ·intro e d;obtain ⟨q,_,h1,_⟩:=c e d;rw [h1];exact Dd lb _
 ·intro e d
  have:=iJ (fun e:cX=>e.x.ah) d
  omega
 ·intro e d t o;obtain ⟨q,f,_,h2⟩:=c e d;rw [h2] at o;exact O1 lb (EX n f) t o
def Md {es ms:List cX} (o:uX es) (hc:∀ v,¬ kV (dJ es) v) (j:ms.map (fun m=>(m.name,m.x))=es.map (fun e=>(e.name,fx es e.name))) (hl:es.length<=2^19) :
  EqsOk ms/\(∀ e,e∈ms->e.x.ah.length<=2^20)/\(ms.flatMap (·.x.ah)).length<=2^39/\ms.length<=2^20:=by
 have hn:Sx.bh ms=Sx.bh es:=by
  have:=Zg (List.map (·.1)) j
  rw [Zs,Zs] at this;exact this
 have n:ms.length=es.length:=by
  have:=Zg List.length j
  simpa using this
 have b:∀ e,e∈ms->e.name∈Sx.bh es/\e.x=fx es e.name:=by
  intro e c;have h1:(e.name,e.x)∈es.map (fun e=>(e.name,fx es e.name)):=by rw [<- j]; exact Zm (f:=fun m:cX=>(m.name,m.x)) c
  obtain ⟨q,p,h2⟩:=Y9.1 h1;have h3:=(cb9 h2).1;exact ⟨by rw [<- h3]; exact Zm p,by rw [<- (cb9 h2).2,h3]⟩
 have g:∀ e,e∈ms->e.x.ah.length<=2^20:=fun e c=>by rw [(b e c).2]; exact o.E0 hc (b e c).1
 refine ⟨⟨by rw [hn]; exact o.nodup,ad,fun e c=>?_,fun e c=>by have:=g e c; omega,fun e c t k=>?_⟩,g,?_,ad⟩
 ·exact o.names _ (b e c).1
 ·rw [(b e c).2] at k;exact o.MM hc (b e c).1 t k
 ·have r:∀ l:List cX,(∀ e,e∈l->e.x.ah.length<=2^20)->(l.flatMap (·.x.ah)).length<=l.length*2^20:=by
   intro l h
   induction l with
   | nil=>simp
   | cons e l s =>
    rw [ZN,Y0,Z1];have h1:=s (fun d u=>h d (by simp [u]));have h2:=h e aj;omega
  have:=r ms g
  omega
def U6 (n:Int):Instr.fill (fun j=>some (j*1,1)) ((Array.range (1*1)).map ((Value.int .u8 0).cells[· % (Value.int .u8 0).cells.size]!)) [(0,.int .u8 n)]=some ([.int .u8 n]:List Xab).toArray:=aw
def vM (n:Nat):Xaa:=⟨[UInt8.ofNat (48+n % 10)].toArray⟩
def gQ (n:Nat):Xaa:=⟨(Lib.decDigits n).toArray⟩
def A5 {n:Nat} (h:n<10):gQ n=vM n:=by
 unfold gQ vM;rw [Lib.decDigits_one h,bm9 h]
def Lw {n:Nat} (h:¬ n<10) (s:Xaa):gQ n++s=gQ (n / 10)++(vM n++s):=by
 unfold gQ vM
 conv=>lhs; rw [Lib.decDigits,dif_neg h]
 apply zi;rw [eX,eX,eX];simp [List.append_assoc]
def yZ {h:Hp} {n:Nat} (hn:n<=2^60) {k:Xaa->T} (hk:∀ h',Ext h h'->k (vM n) V Y h') :
  T.eN Xaz (Instr.buildSlice 182 1 #[(0,.int .u8 (IntKind.wrap .u8 (IntKind.wrap .i64 ((48:Int)+(Int.tmod (n:Int) (10:Int))))))]) false [(false,[.slice 0])] (fun b c d =>
   T.eN Xaz (convert 182 9 (.slice b c d)) false [(false,[.string])] k) V Y h:=by
 have hw:=Vh n;rw [hw];refine mF Qe YP ad ad (U6 _) ?_;intro h1 b1 e z1;have f:SL h1 h.size 5 1 (some ⟨h.size,0,none⟩) 1 1 (Pe [UInt8.ofNat (48+n % 10)]):=⟨rfl,by simp [Pe],h.size,[],[],rfl,Zc _,ad,by simpa [Pe] using b1,aj⟩
 exact Ot f aj (hk h1 e)
def Ae (s:Xaa):((ByteArray.toList s)==([]:List UInt8))=decide (s.data.toList=[]):=by
 rw [ByteArray.toList_eq];cases h:s.data.toList <;> simp
def yx {n:Nat} (hn:n<=2^60):HC Xaz 91 #[vI (n:Int)] H fun w h'=>w=.string (gQ n)/\Ext H h':=by
 refine bi (args:=[vI (n:Int)]) mixed Tryz.func91 aw (nO n) ?_;unfold jq aT bX bC cm aK;have d:∀ m,(vM m).size=1:=fun m=>rfl
 have b:∀ m s,¬ (vM m++s).data.toList=[]:=fun m s j=>by rw [eX] at j; simp [vM] at j
 refine aU (cs:=Um) (fun y k h'=>∃ (m:Nat) (s:Xaa),y.1=(m:Int)/\y.2.1=s/\k=2*m+(if s.data.toList=[] then 1 else 0)/\m<=n/\s.size+m<=n+1/\Ext H h'/\((s=⟨#[]⟩/\m=n)\/(¬ s.data.toList=[]/\gQ n=(if m=0 then ⟨#[]⟩ else gQ m)++s))) ((n:Int),(⟨#[]⟩:Xaa),()) _ rfl
  ⟨n,⟨#[]⟩,rfl,rfl,rfl,Zc _,by show 0+n<=n+1; omega,Ch.refl _ _,.inl ⟨rfl,rfl⟩⟩ ?_
 rintro ⟨B,(s:Xaa),⟨⟩⟩ k h1 ⟨m,C,hi,e,rfl,u,x,l,c⟩;simp only at hi e;subst hi e;refine ak ?_;have f:IntKind.wrap .i64 (Int.tdiv (m:Int) 10)=((m / 10:Nat):Int):=by
  have:Int.tdiv (m:Int) 10=((m / 10:Nat):Int):=by rw [Int.tdiv_eq_ediv_of_nonneg ad]; omega
  rw [this,wrap_i64 ad ad]
 have o:∀ s:Xaa,(vM m++s).size=1+s.size:=fun s=>by rw [be9,d]
 refine aP ?_ ?_<;>intro q
 ·have p:¬ m=0:=ad
  refine dA bY ?_;refine yZ ad ?_;intro h2 t;refine dA (by show ((((vM m).size+s.size:Nat)):Int)<=_; rw [d]; omega) (dA bY ?_);have A:gQ n=gQ m++s:=by
   rcases c with ⟨rfl,rfl⟩ | ⟨_,c⟩
   ·apply zi;rw [eX]
    simp
   ·rw [c,Y1 p]
  refine aG (cs:=Um) (((m / 10:Nat):Int),vM m++s,()) (2*(m / 10)+0) rfl ad (Zg (fun z=>[Value.int .i64 z,.string (vM m++s)]) f) ⟨m / 10,vM m++s,rfl,rfl,by rw [Y1 (b m s)],ad,by rw [o]; omega,l.trans t,.inr ⟨b m s,?_⟩⟩;rw [A]
  by_cases g:m<10
  ·rw [A5 g,Y8 ad];apply zi;rw [eX,eX,eX]
   simp
  ·rw [Lw g,Y1 ad]
 ·have p:m=0:=ad
  subst p;rw [Ae];refine aP ?_ ?_<;>intro r
  ·rcases c with ⟨rfl,h0⟩ | ⟨j,_⟩
   ·subst h0;refine dA bY ?_;refine yZ ad ?_;intro h2 t;refine dA bY (dA bY ?_);refine aG (cs:=Um) (((0:Nat):Int),vM 0++⟨#[]⟩,()) 0 rfl aj rfl ⟨0,vM 0++⟨#[]⟩,rfl,rfl,by rw [Y1 (b 0 _)],ad,bY,l.trans t,.inr ⟨b 0 _,?_⟩⟩;rw [A5 ad,Y8 rfl];apply zi;rw [eX,eX]
    simp
   ·exact absurd r j
  ·rcases c with ⟨rfl,_⟩ | ⟨_,c⟩
   ·exact absurd rfl r
   ·refine ⟨?_,l⟩;rw [c,Y8 rfl]
    congr 1
def nh (us:List bU) (n:Nat) (x:cE):Option Xaa:=(x.ah.find? fun t=>(jX us n t.1).isNone).map (·.1)
def et (us:List bU) (n:Nat) (x:cE):Xaa:=(nh us n x).getD ⟨#[]⟩
def QB (o:Option Nat):decide (R0 o<0)=o.isNone:=by
 cases o with
 | none=>rfl
 | some k=>exact Y6 (by show ¬ ((k:Int)<0); omega)
def GS {l c:Nat} {us:List bU} (v:wh H I l us) (sz:Ml us) {n:Nat} (hn:n<us.length) {m d:Nat} (u:ik H Z m U.ah) (B:U.ah.length<=2^60) :
  HC Xaz 113 #[.slice I l c,vI (n:Int),gF Z m d U] H fun w h'=>w=.string (et us n U)/\Ext H h':=by
 refine bi (args:=[.slice I l c,vI (n:Int),.agg #[.slice Z m d,.int .u32 U.num]]) mixed Tryz.func113 aw (oC I l c n Z m d U.num) ?_;unfold jL aY bj bn ay dl ax cm aK;have hll:=u.len;refine bG ?_;intro h1 b1 C z1;refine aU (cs:=FK) (fun y k h'=>∃ i:Nat,y.2.1=(i:Int)/\k=U.ah.length-i/\i<=U.ah.length/\Ext H h'/\Ext h1 h'/\∀ j,j<i->(f:j<U.ah.length)->(jX us n U.ah[j].1).isNone=false) ((⟨#[]⟩:Xaa),(0:Int),()) U.ah.length rfl
  ⟨0,rfl,rfl,ad,C,Ch.refl _ _,fun j f=>absurd f ad⟩ ?_
 rintro ⟨D,F,⟨⟩⟩ k h2 ⟨i,hi,rfl,E,b,s,o⟩;simp only at hi;subst hi;refine ak ?_;have b2:=b1.ai s aj;refine az b2 ((Z,m,d),()) (ak ?_);refine aP ?_ ?_<;>intro g
 ·have z:i<U.ah.length:=ad
  refine az b2 ((Z,m,d),()) (ak ?_);obtain ⟨a,rfl,hc⟩:=(u.ai b aj).cells i z;refine bP rfl ?_;rw [cB i];refine av (U.ah[i].1,()) ⟨hc.1,trivial⟩ (ak ?_);refine aJ (Gg (c:=c) (v.ai b) sz hn U.ah[i].1) ?_;rintro _ G ⟨rfl,A⟩;refine ⟨(R0 (jX us n U.ah[i].1),()),rfl,ak ?_⟩;rw [QB];refine ao ?_ ?_<;>intro r
  ·refine az (b2.ai A aj) ((some a,m,d),()) (ak ?_);refine bP rfl ?_;refine av (U.ah[i].1,()) ⟨(aX A aj _ _ hc).1,trivial⟩ ?_;refine ⟨?_,b.trans A⟩;unfold et nh;rw [lY (fun t:Xaa × Nat=>(jX us n t.1).isNone) U.ah i z (fun j f=>o j f ad) r] <;> rfl
  ·refine aG (cs:=FK) (D,((i+1:Nat):Int),()) (U.ah.length-(i+1)) rfl ad (by rw [wrap_i64 ad ad]; rfl) ?_;exact ⟨i+1,rfl,rfl,ad,b.trans A,s.trans A,fun j f B=>by
    by_cases e:j=i
    ·subst e; exact r
    ·exact o j ad B⟩
 ·have:i=U.ah.length:=ad
  subst this;refine ⟨?_,b⟩;unfold et nh;rw [pj (fun t:Xaa × Nat=>(jX us n t.1).isNone) U.ah fun j f=>o j f f] <;> rfl
def Dh {P:Program} {h:Hp} {k:Xac->Nat->Nat->T} {r f:TypeId} {z:Xab} {sz by':Nat} (D:P.underlying e=some (.slice f)) (n:(P.info? f).map (fun i=>(i.zero,i.size,i.bytes))=some (some z,sz,by'))
  (u:z.cells.size=sz) {b:Nat} {l c:Nat} {E:List (List Xab)} (s:SL h b f sz I l c E) {m d:Nat} {g:List (List Xab)} (o:(Z=none/\g=[])\/∃ a,Z=some a/\aI h a 0 g.flatten) (F:m=g.length) (w:∀ y,y∈g->y.length=sz) (x:g.flatten.all da=true)
  (A:(2*(l+m)+1024)*by'<=2^48) (B:l+m<=2^48) (G:b<=h.size)
  (hk:∀ p' c' h',SL h' b f sz p' (l+m) c' (E++g)->Ch (aF I) h h'->k p' (l+m) c' V Y h') :
  T.eN P (Builtin.append_ #[e,e] r #[.slice I l c,.slice Z m d]) false [(false,[.slice 0])] k V Y h:=by
 obtain ⟨i,hi,H,rfl,rfl⟩:=jV n;refine df ?_;rcases o with ⟨rfl,rfl⟩ | ⟨a,rfl,hc⟩
 ·have h0:m=0:=F;subst h0;have C:l<=c:=SL.HT s;simp [Builtin.append_,an,aE D,bR hi,cJ hi,Builtin.lenOf,Builtin.firstCells,C];have j:∃ p' l' c',Value.slice I l c=.slice p' l' c'/\k p' l' c' V Y h:=⟨I,l,c,rfl,by simpa using hk I c h (by simpa using s) (Ch.refl _ _)⟩
  cases I with
  | none=>exact j
  | some a=>exact j
 ·exact je (P:=P) (K:=fun v h'=>∃ I l c,v=.slice I l c/\k I l c V Y h') (ty:=r) (ys:=g) D hi H u s F w hc x A B G fun p' c' h' J k' _=>⟨p',_,c',rfl,hk p' c' h' J k'⟩
def rN (us:List bU) (n:Nat) (l:List cE):Xaa:=((l.map (et us n)).find? fun s=>!decide (s.data.toList=[])).getD ⟨#[]⟩
def Jn {us:List bU} {n:Nat} {l:List cE} {i:Nat} (hi:i<l.length) (h:∀ j,(b:j<i)->(et us n (l[j]'ad)).data.toList=[]) (c:¬ (et us n l[i]).data.toList=[]):rN us n l=et us n l[i]:=by
 unfold rN;rw [lY (fun s:Xaa=>!decide (s.data.toList=[])) (l.map (et us n)) i (by rw [YY]; exact hi) (fun j b=>by rw [Y7]; simp [h j b]) (by rw [Y7]; simpa using c)];rw [Y7] <;> rfl
def KL {us:List bU} {n:Nat} {l:List cE} (h:∀ j,(b:j<l.length)->(et us n l[j]).data.toList=[]):rN us n l=⟨#[]⟩:=by
 unfold rN;rw [pj (fun s:Xaa=>!decide (s.data.toList=[])) (l.map (et us n)) fun j b=>by
  rw [YY] at b;rw [Y7];simp [h j b]]
 rfl
def Eo {l c:Nat} {us:List bU} (v:wh H I l us) (sz:Ml us) {n:Nat} (hn:n<us.length) :
  HC Xaz 90 #[.slice I l c,vI (n:Int)] H fun w h'=>w=.string (rN us n (cO us[n]))/\Ext H h':=by
 refine bi (args:=[.slice I l c,vI (n:Int)]) mixed Tryz.func90 aw (kS I l c n) ?_;unfold hY aY bj bn ay jE aT ax aS cm aK;have hll:=v.len;have hmany:=sz.many;obtain ⟨a,sa,sb,sc,sd,rfl,hc,Z⟩:=v.cells n hn;have hm:=Y5 hn;generalize us[n]=u at hc Z hm;refine bP rfl ?_;rw [cB n];refine av ((sa.p,sa.l,sa.c),(sb.p,sb.l,sb.c),(sc.p,sc.l,sc.c),(sd.p,sd.l,sd.c),()) hc (ak ?_);refine bG ?_;intro h1 b1 e1 z1;refine bQ b1 ?_;intro h2 b2 k2 z2;have b2:bF h2 H.size 30 [sa.v,sb.v,sc.v,sd.v]:=b2;have e2:Ext H h2:=bZ e1 k2;refine az b2 ((sa.p,sa.l,sa.c),()) (ak ?_);rw [aC];refine az b2 ((sb.p,sb.l,sb.c),()) (ak ?_);have va2:=Z.ai e2;obtain ⟨D,L,M,iwt⟩:=Eh va2.text;obtain ⟨E,N,O,iwd⟩:=Eh va2.data;have hlt:D.length=u.text.length:=by rw [<- L,YY]
 have hld:E.length=u.data.length:=by rw [<- N,YY]
 have h1t:=sz.text u hm;have h1d:=sz.data u hm;have h1e:=sz.bf u hm;have hlvt:=M.len;have hlvd:=O.len;refine Ef (z:=.agg iz.toArray) (sz:=10) (by':=104) yS CM ?_;intro h3 s3 V;have z3:=V.size;have z2':=e2.size;have b3:=b2.ai V aj;refine ⟨⟨b3.cells _ rfl,b3.cells _ rfl,trivial⟩,?_⟩;have F:∀ {H h':Hp} {q:Xac} {us:List (cd × cH)},Ext H h'->((q=none/\us.map oc=[])\/∃ a,q=some a/\aI H a 0 (us.map oc).flatten)->((q=none/\us.map oc=[])\/∃ a,q=some a/\aI h' a 0 (us.map oc).flatten):=by
  rintro H h' q us e (x | ⟨a,ha,hc⟩)
  ·exact .inl x
  ·exact .inr ⟨a,ha,aX e aj _ _ hc⟩
 refine Dh (z:=.agg iz.toArray) (sz:=10) (by':=104) yS CM rfl s3 (F V M.src) (by simpa using hlvt) (pJ D) (qo D) ad ad ad ?_;intro p4 c4 h4 s4 k4;have X:Ext h2 h4:=Ch.trans V k4 (fun j b hl=>by simp [aF] at b; omega);have b4:=b2.ai X aj;have z4:=X.size;rw [Z8] at s4;refine ⟨⟨b4.cells _ rfl,trivial⟩,?_⟩;refine Dh (z:=.agg iz.toArray) (sz:=10) (by':=104) yS CM rfl s4 (F X O.src) (by simpa using hlvd) (pJ E) (qo E) ad ad ad ?_;intro p5 c5 h5 s5 k5;have Y:Ext h2 h5:=Ch.trans X k5 (fun j b hl=>by have:=(s4.cj b).1; omega);have b5:=b2.ai Y aj;rw [<- Za] at s5;refine ⟨⟨b5.cells _ rfl,trivial⟩,?_⟩;have e05:=e2.trans Y;have hI:∀ w,w∈D++E->nu h5 w.1.p w.1.l w.2:=fun w Q=>by
  rcases Zb.1 Q with Q | Q
  ·exact (iwt w Q).ai Y
  ·exact (iwd w Q).ai Y
 have hE:(D++E).map (fun w=>w.2.e)=u.text.map (·.e)++u.data.map (·.e):=by
  rw [Za,<- L,<- N,Zs,Zs] <;> rfl
 have f:cO u=(D++E).map (fun w=>w.2.e)++u.bf.map (·.2):=by rw [hE]; rfl
 have hwl:(D++E).length=sa.l+sb.l:=by rw [Y0]; omega
 generalize D++E=W at s5 hI f hwl;clear hE;refine aU (cs:=FK) (fun y k h'=>∃ i:Nat,y.2.1=(i:Int)/\k=W.length-i/\i<=W.length/\Ext h5 h'/\∀ j,j<i->(b:j<W.length)->(et us n W[j].2.e).data.toList=[]) ((⟨#[]⟩:Xaa),(0:Int),()) W.length rfl
  ⟨0,rfl,rfl,ad,Ch.refl _ _,fun j b=>absurd b ad⟩ ?_
 rintro ⟨R,n32,⟨⟩⟩ k h6 ⟨i,hi,rfl,hle,J,B⟩;simp only at hi;subst hi;refine ak ?_;have s6:=s5.br J aj;have e06:=e05.trans J;have b6:=b5.ai J aj;refine aP ?_ ?_<;>intro g
 ·have o:i<W.length:=ad
  obtain ⟨a6,rfl,G⟩:=SL.cells s6 (i:=i) (by rw [YY]; exact o);rw [Y7] at G;have hiw:=(hI _ (Y5 o)).ai J;refine bP rfl ?_;rw [cB i];refine av ((W[i].1.p,W[i].1.l,W[i].1.c),(W[i].2.e.num:Int),()) ⟨by rw [add_add]; exact G.2.2.2.2.2.2.2.1,by rw [add_add]; exact G.2.2.2.2.2.2.2.2.1,trivial⟩ ?_;refine ak ?_;refine aJ (GS (c:=c) (d:=W[i].1.c) (v.ai e06) sz hn hiw.lin.vw hiw.lin.many) ?_;rintro _ h7 ⟨rfl,K⟩;refine ⟨(et us n W[i].2.e,()),rfl,ak ?_⟩;rw [Ae];refine ao ?_ ?_<;>intro r
  ·have r:¬ (et us n W[i].2.e).data.toList=[]:=by simpa using r
   refine ⟨?_,e06.trans K⟩;rw [f,Jn (i:=i) (by rw [Y0,YY]; omega) (fun j b=>by
    rw [al9 (by rw [YY]; omega),Y7];exact B j b ad) (by
    rw [al9 (by rw [YY]; omega),Y7];exact r)]
   rw [al9 (by rw [YY]; omega),Y7]
  ·have r:(et us n W[i].2.e).data.toList=[]:=by simpa using r
   refine aG (cs:=FK) (R,((i+1:Nat):Int),()) (W.length-(i+1)) rfl ad (by rw [wrap_i64 ad ad]; rfl) ?_;exact ⟨i+1,rfl,rfl,ad,J.trans K,fun j b hx=>by
    by_cases e:j=i
    ·subst e; exact r
    ·exact B j ad hx⟩
 ·have hiW:i=W.length:=ad
  subst hiW;have veq:=Z.bf;have hlq:=veq.len;refine aU (cs:=FK) (fun y k h'=>∃ i:Nat,y.2.1=(i:Int)/\k=u.bf.length-i/\i<=u.bf.length/\Ext h5 h'/\∀ j,j<i->(b:j<u.bf.length)->(et us n u.bf[j].2).data.toList=[]) (R,(0:Int),()) u.bf.length rfl
   ⟨0,rfl,rfl,ad,J,fun j b=>absurd b ad⟩ ?_
  rintro ⟨s33,n34,⟨⟩⟩ k h7 ⟨i,hi,rfl,hle,K,s⟩;simp only at hi;subst hi;refine ak ?_;have b7:=b5.ai K aj;have e07:=e05.trans K;rw [aC];refine az b7 ((sc.p,sc.l,sc.c),()) (ak ?_);refine aP ?_ ?_<;>intro g
  ·have o:i<u.bf.length:=ad
   refine az b7 ((sc.p,sc.l,sc.c),()) (ak ?_);obtain ⟨aq,q,m,d,haq,S,U,_⟩:=(veq.ai e07).cells i o;refine bP haq ?_;rw [cB i];refine av ((q,m,d),(u.bf[i].2.num:Int),()) ⟨by rw [add_add]; exact S.2.1,by rw [add_add]; exact S.2.2.1,trivial⟩ ?_;refine ak ?_;refine aJ (GS (c:=c) (d:=d) (v.ai e07) sz hn U.vw U.many) ?_;rintro _ h8 ⟨rfl,e8⟩;refine ⟨(et us n u.bf[i].2,()),rfl,ak ?_⟩;rw [Ae];have t:(W.map fun w=>w.2.e).length=W.length:=YY _;refine ao ?_ ?_<;>intro r
   ·have r:¬ (et us n u.bf[i].2).data.toList=[]:=by simpa using r
    refine ⟨?_,e07.trans e8⟩;have A:∀ j (b:j<u.bf.length),((W.map fun w=>w.2.e)++u.bf.map (·.2))[W.length+j]'(by rw [Y0,YY,YY]; omega)=u.bf[j].2:=fun j b=>by
     rw [bs9 (by rw [t]; omega)];simp [t]
    rw [f,Jn (i:=W.length+i) (by rw [Y0,YY,YY]; omega) (fun j b=>by
     by_cases C:j<W.length
     ·rw [al9 (by rw [t]; omega),Y7];exact B j ad C
     ·have:=A (j-W.length) ad
      simp only [show W.length+(j-W.length)=j from ad] at this;rw [this];exact s _ ad _) (by rw [A i o]; exact r),A i o]
   ·have r:(et us n u.bf[i].2).data.toList=[]:=by simpa using r
    refine aG (cs:=FK) (s33,((i+1:Nat):Int),()) (u.bf.length-(i+1)) rfl ad (by rw [wrap_i64 ad ad]; rfl) ?_;exact ⟨i+1,rfl,rfl,ad,K.trans e8,fun j b hx=>by
     by_cases e:j=i
     ·subst e; exact r
     ·exact s j ad hx⟩
  ·have hie:i=u.bf.length:=ad
   subst hie;refine ⟨?_,e07⟩;rw [f,KL fun j b=>by
    rw [Y0,YY,YY] at b
    by_cases C:j<W.length
    ·rw [al9 (by rw [YY]; omega),Y7];exact B j C C
    ·rw [bs9 (by rw [YY]; omega),Y7];exact s _ (by simp; omega) _]
theorem kx {α:Type} (f:Nat->Option α) (x:α):∀ (n i:Nat),i<n->(∀ j,j<i->f j=none)->f i=some x->(List.range n).findSome? f=some x
 | 0,i,hi,_,_=>absurd hi ad
 | n+1,i,hi,h0,b=>by
  rw [List.range_succ,cj9]
  by_cases h:i<n
  ·rw [kx f x n i h h0 b] <;> rfl
  ·have:i=n:=ad
   subst this;have hn:(List.range i).findSome? f=none:=by
    rw [Z4];intro j c;exact h0 j (ap9.1 c)
   rw [hn];simp [b]
def km {α:Type} (f:Nat->Option α) (n:Nat) (h:∀ j,j<n->f j=none):(List.range n).findSome? f=none:=by
 rw [Z4];intro j b;exact h j (ap9.1 b)
def zE (us:List bU) (i:Nat):Option (Nat × Xaa):=us[i]?.bind fun u=>(u.aQ.find? fun s=>(us.take i).any fun v=>gz v.aQ s).map fun s=>(i,s)
def Fh (us:List bU):Option (Nat × Xaa):=(List.range us.length).findSome? (zE us)
def BY (us:List bU) (i:Nat):Option (Nat × Xaa):=us[i]?.bind fun u=>if (rN us i (cO u)).data.toList=[] then none else some (i,rN us i (cO u))
def Oy (us:List bU):Option (Nat × Xaa):=(List.range us.length).findSome? (BY us)
def gj (us:List bU):Fl :=
 if us.length=0 then ⟨25,0,dV⟩
 else if 64<us.length then ⟨4,0,dV⟩
 else match us.findIdx? fun u=>decide (fA u≠0) with
 | some n=>⟨31,n,dV⟩
 | none=>match Fh us with
  | some q=>⟨22,q.1,q.2⟩
  | none=>match Oy us with
   | some q=>⟨23,q.1,q.2⟩
   | none=>⟨0,0,dV⟩
def Q7 (f:Fl):Xab:=.agg #[vI (f.vD:Int),vI (f.unit:Int),.string f.name]
def tX {h0 h:Hp} {g:Nat} {a:Int} {s:Xaa} (bx:bF h g 54 [vI a,vI d,.string s]) (e0:Ext h0 h) (l:h0.size<=g) (f:Fl) (hk:∀ h',Ext h0 h'->Y (Q7 f) h') :
  T.ar ⟨g,0,none⟩ [vI (f.vD:Int),vI (f.unit:Int),.string f.name] (T.af ⟨g,0,none⟩ [.int .i64,.int .i64,.string] fun (c e:Int) (j:Xaa)=>T.ret (.agg #[vI c,vI e,.string j])) V Y h:=by
 refine bQ bx ?_;intro h2 b2 k z2;have b2:bF h2 g 54 [vI (f.vD:Int),vI (f.unit:Int),.string f.name]:=b2;refine az b2 ((f.vD:Int),(f.unit:Int),f.name,()) ?_;exact hk h2 (bZ e0 k)
def Ml.of {us:List bU} (b:us.length<=64) (d:∀ u,u∈us->fA u=0):Ml us:=by
 have r:Hb us:=⟨d,b⟩
 refine ⟨ad,fun u c=>?_,fun u c=>?_,fun u c=>?_⟩ <;> have:=r.bf c <;> omega
def IY {l c:Nat} {us:List bU} (v:wh H I l us):HC Xaz 60 #[.slice I l c] H fun w h'=>w=Q7 (gj us)/\Ext H h':=by
 refine bi (args:=[.slice I l c]) mixed Tryz.func60 aw (mQ I l c) ?_;unfold jb aY bj bn ay bd dl jE cm aK;have hll:=v.len;refine bG ?_;intro h1 b1 N z1;refine ao ?_ ?_<;>intro g
 ·have g:l=0:=by have:(l:Int)=0:=(by simpa using g); omega
  refine tX b1 N (Zc _) ⟨25,0,dV⟩ fun h' m=>⟨?_,m⟩
  unfold gj;rw [Y8 ad]
 have n:¬ us.length=0:=by
  intro hh
  have:l=0:=ad
  subst this;cases g
 refine ao ?_ ?_<;>intro g64
 ·have g64:=Y3 g64;refine tX b1 N (Zc _) ⟨4,0,dV⟩ fun h' m=>⟨?_,m⟩
  unfold gj;rw [Y1 n,Y8 ad]
 have g64:=Zf g64;have A:¬ 64<us.length:=ad
 refine aU (cs:=cn) (fun y k h'=>∃ i:Nat,y.1=(i:Int)/\k=us.length-i/\i<=us.length/\Ext h1 h'/\∀ j,j<i->(d:j<us.length)->fA us[j]=0) ((0:Int),()) us.length rfl
  ⟨0,rfl,rfl,ad,Ch.refl _ _,fun j d=>absurd d ad⟩ ?_
 rintro ⟨n2,⟨⟩⟩ k h2 ⟨i,hi,rfl,hle,e2,hr⟩;simp only at hi;subst hi;refine ak ?_;have b2:=b1.ai e2 aj;have e02:=N.trans e2;refine ao ?_ ?_<;>intro q
 ·have q:=Y3 q;have P:i<us.length:=ad
  obtain ⟨a,sa,sb,sc,sd,rfl,hc,va⟩:=(v.ai e02).cells i P;refine bP rfl ?_;rw [cB i];refine av ((sa.p,sa.l,sa.c),(sb.p,sb.l,sb.c),(sc.p,sc.l,sc.c),(sd.p,sd.l,sd.c),()) hc (ak ?_);refine aJ (Lm va) ?_;rintro _ h3 ⟨rfl,O⟩;refine ⟨(((fA us[i]:Nat):Int),()),rfl,ak ?_⟩;refine ao ?_ ?_<;>intro r
  ·have r:¬ fA us[i]=0:=by
    intro hh;rw [hh] at r;cases r
   refine tX (b2.ai O aj) (e02.trans O) (Zc _) ⟨31,i,dV⟩ fun h' m=>⟨?_,m⟩
   unfold gj;rw [Y1 n,Y1 A,show us.findIdx? (fun u=>decide (fA u≠0))=some i from by
    rw [Zr];exact ⟨P,Y4 r,fun j d=>by simp [hr j d ad]⟩]
  ·have r:fA us[i]=0:=by
    have:((fA us[i]:Nat):Int)=0:=by simpa using r
    omega
   refine aG (cs:=cn) (((i+1:Nat):Int),()) (us.length-(i+1)) rfl ad (by rw [wrap_i64 ad ad]; rfl) ?_;exact ⟨i+1,rfl,rfl,ad,e2.trans O,fun j d Q=>by
    by_cases e:j=i
    ·subst e; exact r
    ·exact hr j ad Q⟩
 have q:=Zf q;have hR:∀ u,u∈us->fA u=0:=fun u hu=>by
  obtain ⟨j,d,rfl⟩:=Zt hu;exact hr j ad d
 have sz:=Ml.of ad hR;have F:us.findIdx? (fun u=>decide (fA u≠0))=none:=by
  rw [ZJ];intro u hu;rw [hR u hu];decide
 clear hr;refine aU (cs:=cn) (fun y k h'=>∃ i:Nat,y.1=(i:Int)/\k=us.length-i/\i<=us.length/\Ext h1 h'/\∀ j,j<i->zE us j=none) ((0:Int),()) us.length rfl
  ⟨0,rfl,rfl,ad,e2,fun j d=>absurd d ad⟩ ?_
 rintro ⟨n3,⟨⟩⟩ k h3 ⟨i3,hi,rfl,hle3,O,G⟩;simp only at hi;subst hi;refine ak ?_;have hw3:=iC i3;refine ao ?_ ?_<;>intro q3
 ·have q3:=Y3 q3;have o:i3<us.length:=ad
  have t:us[i3]?=some us[i3]:=YZ o;obtain ⟨a3,sa,sb,sc,sd,rfl,R,B⟩:=v.cells i3 o;generalize us[i3]=u at t R B;have hgm:=B.aQ.many;have hgl:=B.aQ.len;refine aU (cs:=cn) (fun y k h'=>∃ i:Nat,y.1=(i:Int)/\k=u.aQ.length-i/\i<=u.aQ.length/\Ext h1 h'/\∀ j,j<i->(d:j<u.aQ.length)->((us.take i3).any fun v=>gz v.aQ u.aQ[j])=false) ((0:Int),()) u.aQ.length rfl
   ⟨0,rfl,rfl,ad,O,fun j d=>absurd d ad⟩ ?_
  rintro ⟨n4,⟨⟩⟩ k h4 ⟨b,hi,rfl,S,J,K⟩;simp only at hi;subst hi;refine ak ?_;have hw4:=iC b;have e04:=N.trans J;have C:∀ {h':Hp},Ext H h'->aI h' ((a3.add (i3*4)).add 3) 0 [.slice sd.p sd.l sd.c]:=fun e=>⟨by rw [add_add]; exact (aX e aj _ _ R).2.2.2.1,trivial⟩
  refine bP rfl ?_;rw [cB i3];refine av ((sd.p,sd.l,sd.c),()) (C e04) (ak ?_);refine aP ?_ ?_<;>intro q4
  ·have f:b<u.aQ.length:=ad
   have hsg:u.aQ[b]?=some u.aQ[b]:=YZ f;obtain ⟨ag,U,V,_⟩:=B.aQ.cells b f;refine aU (cs:=cn) (fun y k h'=>∃ i:Nat,y.1=(i:Int)/\k=i3-i/\i<=i3/\Ext h1 h'/\∀ j,j<i->(d:j<us.length)->gz us[j].aQ u.aQ[b]=false) ((0:Int),()) i3 rfl
    ⟨0,rfl,rfl,ad,J,fun j d=>absurd d ad⟩ ?_
   rintro ⟨n9,⟨⟩⟩ k h5 ⟨x,hi,rfl,hle5,E,X⟩;simp only at hi;subst hi;refine ak ?_;have hw5:=iC x;have e05:=N.trans E;have b5:=b1.ai E aj;refine aP ?_ ?_<;>intro q5
   ·have Y:x<us.length:=ad
    obtain ⟨a5,ta,tb,tc,td,ha5,hc5,L⟩:=(v.ai e05).cells x Y;refine bP ha5 ?_;rw [cB x];refine av ((td.p,td.l,td.c),()) ⟨by rw [add_add]; exact hc5.2.2.2.1,trivial⟩ ?_;refine ak ?_;refine bP rfl ?_;refine av ((sd.p,sd.l,sd.c),()) (C e05) (ak ?_);refine bP U ?_;rw [cB b];refine av (u.aQ[b],()) (aX e05 aj _ _ V) (ak ?_);refine aM (Kq L.aQ.len (fun j d=>by
     obtain ⟨a,ha,hc,_⟩:=L.aQ.cells j d;exact ⟨a,ha,hc⟩) (by have:=L.aQ.many; omega) u.aQ[b]) ?_
    refine ⟨⟨C e05,trivial⟩,?_⟩;refine ao ?_ ?_<;>intro r
    ·refine bP rfl ?_;refine av ((sd.p,sd.l,sd.c),()) (C e05) (ak ?_);refine bP U ?_;refine av (u.aQ[b],()) (aX e05 aj _ _ V) (ak ?_);refine tX b5 e05 (Zc _) ⟨22,i3,u.aQ[b]⟩ fun h' m=>⟨?_,m⟩
     have hda:zE us i3=some (i3,u.aQ[b]):=by
      unfold zE;rw [t,ak9,lY (fun s=>(us.take i3).any fun v=>gz v.aQ s) u.aQ b f (fun j d=>K j d ad) (by
       rw [ay9];exact ⟨us[x],List.mem_take_iff_getElem.2 ⟨x,ad,rfl⟩,r⟩)]
      rfl
     unfold gj Fh;rw [Y1 n,Y1 A,F,kx _ _ _ i3 o G hda]
    ·refine aG (cs:=cn) (((x+1:Nat):Int),()) (i3-(x+1)) rfl ad (Zg (fun z=>[Value.int .i64 z]) hw5) ⟨x+1,rfl,rfl,ad,E,fun j d Q=>?_⟩
     by_cases e:j=x
     ·subst e; exact r
     ·exact X j ad Q
   ·have:x=i3:=ad
    subst this;refine aG (cs:=cn) (((b+1:Nat):Int),()) (u.aQ.length-(b+1)) rfl ad (Zg (fun z=>[Value.int .i64 z]) hw4) ⟨b+1,rfl,rfl,ad,E,fun j d Q=>?_⟩
    by_cases e:j=b
    ·subst e;rw [List.any_eq_false];intro w hw;obtain ⟨j5,hj5,rfl⟩:=List.mem_take_iff_getElem.1 hw;rw [X j5 ad ad]
     simp
    ·exact K j ad Q
  ·have:b=u.aQ.length:=ad
   subst this;refine aG (cs:=cn) (((i3+1:Nat):Int),()) (us.length-(i3+1)) rfl ad (Zg (fun z=>[Value.int .i64 z]) hw3) ⟨i3+1,rfl,rfl,ad,J,fun j d=>?_⟩
   by_cases e:j=i3
   ·subst e;unfold zE;rw [t,ak9,pj _ u.aQ fun j d=>K j d d] <;> rfl
   ·exact G j ad
 have q3:=Zf q3;have Z:Fh us=none:=km _ _ fun j d=>G j ad
 refine aU (cs:=cn) (fun y k h'=>∃ i:Nat,y.1=(i:Int)/\k=us.length-i/\i<=us.length/\Ext h1 h'/\∀ j,j<i->BY us j=none) ((0:Int),()) us.length rfl
  ⟨0,rfl,rfl,ad,O,fun j d=>absurd d ad⟩ ?_
 rintro ⟨n4,⟨⟩⟩ k h4 ⟨b,hi,rfl,S,J,M⟩;simp only at hi;subst hi;refine ak ?_;have hw4:=iC b;have e04:=N.trans J;have b4:=b1.ai J aj;refine aP ?_ ?_<;>intro q4
 ·have f:b<us.length:=ad
  have t:us[b]?=some us[b]:=YZ f;refine aJ (Eo (c:=c) (v.ai e04) sz f) ?_;rintro _ h5 ⟨rfl,E⟩;refine ⟨(rN us b (cO us[b]),()),rfl,ak ?_⟩;rw [Ae];have D:BY us b=if (rN us b (cO us[b])).data.toList=[] then none else some (b,rN us b (cO us[b])):=by
   unfold BY;rw [t,ak9]
  refine ao ?_ ?_<;>intro r
  ·have r:¬ (rN us b (cO us[b])).data.toList=[]:=by simpa using r
   rw [Y1 r] at D;refine tX (b4.ai E aj) (e04.trans E) (Zc _) ⟨23,b,rN us b (cO us[b])⟩ fun h' m=>⟨?_,m⟩
   unfold gj Oy;rw [Y1 n,Y1 A,F,Z,kx _ _ _ b f M D]
  ·have r:(rN us b (cO us[b])).data.toList=[]:=by simpa using r
   rw [Y8 r] at D;refine aG (cs:=cn) (((b+1:Nat):Int),()) (us.length-(b+1)) rfl ad (Zg (fun z=>[Value.int .i64 z]) hw4) ⟨b+1,rfl,rfl,ad,J.trans E,fun j d=>?_⟩
   by_cases e:j=b
   ·subst e; exact D
   ·exact M j ad
 ·refine tX b4 e04 (Zc _) ⟨0,0,dV⟩ fun h' m=>⟨?_,m⟩
  unfold gj Oy;rw [Y1 n,Y1 A,F,Z,km _ _ fun j d=>M j ad]
theorem PH (n:Nat):∀ (l:List Xaa) (w:LW) (s:Xaa),(l.foldl (wL n) w).gl s=if gz l s=true then some n else w.gl s
 | [],w,s=>by simp [gz]
 | a::l,w,s=>by
  rw [ZD,PH n l (wL n w a) s];have h1:gz (a::l) s=(decide (a=s) || gz l s):=by unfold gz; rw [List.any_cons]
  have h2:(wL n w a).gl s=if a=s then some n else w.gl s:=by
   show dW w.gl a n s=_;unfold dW
   by_cases h:s=a
   ·rw [Y8 h,Y8 h.symm]
   ·rw [Y1 h,Y1 fun e=>h e.symm]
  rw [h1,h2]
  by_cases b:a=s <;> by_cases hl:gz l s=true <;> simp [b,hl]
def QN (us:List bU) (s:Xaa):Option Nat:=us.findIdx? fun u=>gz u.aQ s
def Pw (us:List bU) (s:Xaa):(QN us s).isSome=us.any fun u=>gz u.aQ s:=by
 unfold QN;rw [List.findIdx?_isSome]
theorem FJ (us:List bU):∀ (k n:Nat) (w:LW),us.length-n=k->n<=us.length->(∀ s,w.gl s=QN (us.take n) s)->(∀ j,j<n->zE us j=none) ->
  match lx n (us.drop n) w with
  | .error q=>Fh us=some q
  | .ok w'=>Fh us=none/\∀ s,w'.gl s=QN us s
 | 0,n,w,hk,hn,d,f=>by
  have:n=us.length:=ad
  subst this;rw [ai9];rw [ZA] at d;exact ⟨km _ _ f,d⟩
 | k+1,n,w,hk,hn,d,f=>by
  have b:n<us.length:=ad
  rw [Zj b];unfold lx;have h:us[n]?=some us[n]:=YZ b;have r:(fun g=>(w.gl g).isSome)=fun g=>(us.take n).any fun v=>gz v.aQ g:=by
   funext g
   rw [d,Pw]
  have c:zE us n=(us[n].aQ.find? fun g=>(w.gl g).isSome).map fun s=>(n,s):=by
   unfold zE;rw [h,ak9,r]
  cases l:us[n].aQ.find? fun g=>(w.gl g).isSome with
  | some g =>
   rw [l] at c;exact kx _ _ _ n b f c
  | none =>
   rw [l] at c;refine FJ us k (n+1) (GG n us[n] w) ad b (fun s=>?_) (fun j y=>?_)
   ·unfold GG;rw [PH,Y2 b];unfold QN;rw [cq9];have h0:=d s;unfold QN at h0;rw [<- h0]
    by_cases hi:gz us[n].aQ s=true
    ·rw [Y8 hi];have t:s∈us[n].aQ:=by
      unfold gz at hi;obtain ⟨x,m,o⟩:=ay9.1 hi;rw [<- Y3 o]; exact m
     have:=List.find?_eq_none.1 l s t
     have p:w.gl s=none:=by
      cases u:w.gl s with
      | none=>rfl
      | some q=>rw [u] at this; exact absurd rfl this
     rw [p];simp [List.findIdx?_cons,hi,List.length_take];omega
    ·rw [Y1 hi];cases w.gl s <;> simp [List.findIdx?_cons,hi]
   ·by_cases e:j=n
    ·subst e; exact c
    ·exact f j ad
end Go.Sx.Lk
