/- Contracts over heaps, part 2. Condition: as each statement says. -/
import Derived.Test.YtlpcncdglfjnoaaGreatDoorP1
import Derived.Test.YtlpcncdglfjnoaaGreatDoorBtD
import Derived.Test.YtlpcncdglfjnoaaGreatDoorBtE
import Derived.Test.YtlpcncdglfjnoaaGreatDoorBobjShelf
import Derived.Test.YtlpcncdglfjnoaaGreatDoorBShelfB
import Derived.Test.YtlpcncdglfjnoaaGreatDoorBtF
import Derived.LaidEql
import Derived.Stop.Asserts
import Derived.RowKitTokens
import Derived.Lib.ItoaLen
import Derived.Lib.ItoaMem
set_option linter.all false
set_option maxRecDepth 100000
set_option maxHeartbeats 4000000
namespace Go.Sx.Ob
open Go.Proofs
variable {I:Hp} {O d:Xac} {H U V i:Nat}
def Af {us:dz} (v:ik I O H us):(O=none/\us.map dh=[])\/∃ a,O=some a/\aI I a 0 (us.map dh).flatten:=by
 cases O with
 | none =>
  left
  refine ⟨rfl,?_⟩;cases us with
  | nil=>rfl
  | cons u us =>
   obtain ⟨a,b,_⟩:=v.cells 0 aj;cases b
 | some a=>exact .inr ⟨a,rfl,v.flat⟩
def Bm (us:dz):∀ y,y∈us.map dh->y.length=2:=by
 intro y a;obtain ⟨u,_,rfl⟩:=Y9.1 a;rfl
def AD {c:Nat} {x:cE} (v:ik I O H x.ah) (hl:x.ah.length<=2^40) :
  HC Xaz 57 #[gF O H c x] I fun w h'=>(∃ p' l' c',w=gF p' l' c' x/\SL h' I.size 66 2 p' l' c' (x.ah.map dh))/\Ext I h':=by
 refine bi (args:=[gF O H c x]) mixed Tryz.func57 aw (nN O H c x.num) ?_;unfold jw aT ax aS;have hll:=v.len;refine bG ?_;intro h1 b1 F z1;refine bG ?_;intro h2 b2 A z2;have b12:=b1.ai A aj;have e02:=F.trans A;refine az b12 ((O,H,c),()) (ak ?_);rw [aC];refine az b12 ((x.num:Int),()) (ak ?_);have v2:=v.ai e02 aj;refine Ef (e:=66) (z:=.agg #[.string ⟨#[]⟩,.int .u32 0]) (sz:=2) (by':=24) uH rp ?_;intro S B d;have b13:=b12.ai d aj;refine ⟨⟨b13.cells _ rfl,b13.cells _ rfl,trivial⟩,?_⟩;have hz3:=d.size
 have f:∀ (p':Xac) (c':Nat) (h':Hp),SL h' h2.size 66 2 p' H c' (x.ah.map dh)->Ext h2 h'->T.aD [(⟨I.size,0+1,none⟩,[.int .u32 (x.num:Int)])] (T.ar ⟨h1.size,0,none⟩ [.slice p' H c',.int .u32 (x.num:Int)] (T.af ⟨h1.size,0,none⟩ [.slice 66,.int .u32] fun (k:Xac) (m n:Nat) (o:Int) =>
   T.ret (.agg #[.slice k m n,.int .u32 o]))) [] (fun w h'=>(∃ p' l' c',w=gF p' l' c' x/\SL h' I.size 66 2 p' l' c' (x.ah.map dh))/\Ext I h') h':=by
  intro p' c' h' C q;have b1':=b12.ai q aj;refine ⟨⟨b1'.cells _ rfl,trivial⟩,?_⟩;refine bQ (b2.ai q aj) ?_;intro J r D U;have r:bF J h1.size 60 [.slice p' H c',.int .u32 (x.num:Int)]:=r;refine az r ((p',H,c'),(x.num:Int),()) ?_;exact ⟨⟨p',H,c',rfl,(C.br D (fun j s=>by have:=(C.cj s).1; simp; omega)).mono ad⟩,bZ (e02.trans q) D⟩
 obtain ⟨i,hi,K,b,t⟩:=jV rp;rcases Af v2 with ⟨L,g⟩ | ⟨a,M,hc⟩
 ·subst L;have u:H=0:=by
   have:=Zg List.length g
   rw [YY,List.length_nil] at this;omega
  subst u;refine df ?_;simp [Builtin.append_,an,aE uH,bR hi,Builtin.lenOf,Builtin.firstCells,storeCells];exact ⟨_,_,_,rfl,f _ _ _ (by rw [g]; exact B) d⟩
 ·subst M;refine df ?_;refine je (ys:=x.ah.map dh) uH hi K (by rw [b]; rfl) (by rw [b]; exact B) (by rw [YY]; omega) (fun y N=>by rw [b]; exact Bm _ y N) (aX d aj _ _ hc) (AP _) (by rw [t]; omega) ad ad ?_;intro p' c' P E Q R;rw [ZH,Z8] at *;rw [b] at E;exact ⟨p',H,c',rfl,f p' c' P E (Ch.trans d Q fun j s hl=>by simp [aF] at s; omega)⟩
abbrev Ak:=Ls 64 10 (fun s x=>encI s.p s.l s.c x) (fun x:cH=>x.e.ah) (fun _=>True)
abbrev Tw:=Ls 88 3 (fun s (x:oh)=>zX s.p s.l s.c x) (fun x=>x.2.ah) (fun _=>True)
def yS:Tryz.prog.underlying 26=some (.slice 64):=aw
def CM:(Tryz.prog.info? 64).map (fun i=>(i.zero,i.size,i.bytes))=some (some (.agg iz.toArray),10,104):=aw
def Oh (p:Xac) (l c:Nat) (x:cH):(encI p l c x).length=10:=rfl
def oc (u:cd × cH):List Xab:=encI u.1.p u.1.l u.1.c u.2
def MA (us:List (cd × cH)):(us.map oc).flatten.length=us.length*10:=by
 rw [cU (us.map oc) (sz:=10) (fun y a=>by obtain ⟨u,_,rfl⟩:=Y9.1 a; rfl),YY]
def Ed {l:Nat} {us:List cH} (v:zV I O l us) (hn:us.length<=2^20) (ht:∀ x,x∈us->x.e.ah.length<=2^40) :
  HC Xaz 52 #[.slice O l H] I fun w h'=>(∃ p' c' ws,w=.slice p' l c'/\Ak h' I.size p' l c' ws/\ws.map (·.2)=us)/\Ext I h':=by
 refine bi (args:=[.slice O l H]) mixed Tryz.func52 aw (lW O l H) ?_;unfold iw aY bj bn ay bz aT ax aK;have hlen:=v.len;obtain ⟨i0,R,S,U,V⟩:=jV CM;refine df (lU (l:=l) (c:=l) yS R S (Zc _) (by rw [V]; omega) ad ?_);intro h1 b1 W z1;refine ⟨_,_,_,rfl,?_⟩;have r:((List.range (l*i0.size)).map ((Value.agg iz.toArray).cells[· % (Value.agg iz.toArray).cells.size]!)).length=l*10:=by rw [YY,as9,U]
 generalize (List.range (l*i0.size)).map ((Value.agg iz.toArray).cells[· % (Value.agg iz.toArray).cells.size]!)=Z at b1 r;refine aU (cs:=cn) (fun y m h'=>∃ (i:Nat) (ws:List (cd × cH)) (Z:List Xab),y.1=(i:Int)/\i<=l/\m=l-i/\Ext I h'/\h1.size<=h'.size/\ws.map (·.2)=us.take i/\ws.length=i/\Z.length=(l-i)*10/\bF h' I.size 64 ((ws.map oc).flatten++Z)/\∀ u,u∈ws->SL h' h1.size 66 2 u.1.p u.1.l u.1.c (u.2.e.ah.map dh)) ((0:Int),()) l rfl
  ⟨0,[],Z,rfl,ad,ad,W,Zc _,rfl,rfl,by simpa using r,b1,aj⟩ ?_
 clear b1 r;rintro ⟨n4,⟨⟩⟩ m h2 ⟨i,ws,Z,hi,hil,rfl,Y,z2,s,d,N,b2,own⟩;simp only at hi;subst hi;refine ak ?_;refine aP ?_ ?_<;>intro q
 ·have t:i<us.length:=ad
  obtain ⟨aa,pp,g,f,rfl',B,C⟩:=v.cells i t;have D:us.take (i+1)=us.take i++[us[i]]:=Y2 t;have htx:=ht us[i] (Y5 t);generalize us[i]=x at B C D htx;have E:∀ h',Ext I h'->aI h' (aa.add (i*10)) 0 (encI pp g f x):=fun h' e=>aX e aj _ _ B
  have hc:=E h2 Y;refine dO (aH rfl' ?_);rw [cB i];refine av (x.kind,x.name,x.inst.op,x.inst.a,x.inst.b,x.inst.n,x.inst.form,(pp,g,f),(x.e.num:Int),x.n,()) hc (ak ?_);refine bP rfl ?_;rw [aC];have hD:=MA ws;have hZ2:Z=Z.take 10++Z.drop 10:=(ZG 10 Z).symm;have F:(Z.take 10).length=10:=by
   have h1:1<=l-i:=ad
   have h2:=ZT 10 h1;rw [Zi,N,ZQ ad]
  have G:(0+i*10)=((ws.map oc).flatten).length:=by rw [hD,d]; omega
  have hZl:(Z.drop 10).length=(l-(i+1))*10:=by rw [ZI,N,show l-i=(l-(i+1))+1 from ad,Z5]; omega
  refine ct (off:=0+i*10) b2 rfl (by rw [Y0,hD,N,d]; show 0+i*10+10<=_; have:i+(l-i)=l:=ad; rw [<- Z5,this]; have:=ZT 10 (show i+1<=l from ad); omega) ?_;intro h3 z J z3;have z:bF h3 I.size 64 ((ws.map oc).flatten++(encI pp g f x++Z.drop 10)):=by
   have z:bF h3 I.size 64 (gK ((ws.map oc).flatten++Z) (0+i*10) (encI pp g f x)):=z;rw [G,hZ2,rY (by rw [F]; rfl)] at z;simpa using z
  have e3:Ext I h3:=Y.st J (Zc _);have hc3:=E h3 e3;refine dO (aH rfl' ?_);refine av ((pp,g,f),(x.e.num:Int),()) ⟨by rw [add_add]; exact hc3.2.2.2.2.2.2.2.1,by rw [add_add]; exact hc3.2.2.2.2.2.2.2.2.1,trivial⟩ ?_;refine ak ?_;have va3:=C.ai e3;refine aJ (AD (c:=f) va3.lin.vw htx) ?_;rintro _ h4 ⟨⟨K,L,k,rfl,sc⟩,P⟩;refine ⟨((K,L,k),(x.e.num:Int),()),rfl,ak ?_⟩;refine bP rfl ?_;rw [aC];have b4:=z.ai P aj;refine ct (off:=0+i*10+7) b4 rfl ?_ ?_
  ·rw [Y0,hD,Y0,Oh,d];show 0+i*10+7+2<=_;omega
  intro h5 A Q z5;have A:bF h5 I.size 64 (((ws++[((⟨K,L,k⟩:cd),x)]).map oc).flatten++Z.drop 10):=by
   have A:bF h5 I.size 64 (gK ((ws.map oc).flatten++(encI pp g f x++Z.drop 10)) (0+i*10+7) [.slice K L k,.int .u32 (x.e.num:Int)]):=A;rw [show (ws.map oc).flatten++(encI pp g f x++Z.drop 10)=((ws.map oc).flatten++(encI pp g f x).take 7)++([.slice pp g f,.int .u32 (x.e.num:Int)]++([vI x.n]++Z.drop 10)) by simp [encI],
    show 0+i*10+7=((ws.map oc).flatten++(encI pp g f x).take 7).length by rw [Y0,hD,d]; simp [encI],rY (X:=[.slice pp g f,.int .u32 (x.e.num:Int)]) (vs:=[.slice K L k,.int .u32 (x.e.num:Int)]) rfl] at A
   simpa [encI,oc] using A
  have hz3:=W.size;have hz4:=P.size;rw [wrap_i64 ad ad];refine aG (cs:=cn) (((i+1:Nat):Int),()) (l-(i+1)) rfl ad rfl ?_;refine ⟨i+1,ws++[((⟨K,L,k⟩:cd),x)],Z.drop 10,rfl,ad,rfl,(e3.trans P).st Q (Zc _),by have:=J.size; have:=Q.size; omega,by rw [Za,s,D]; rfl,by simp [d],hZl,A,?_⟩;intro u o;rcases Zb.1 o with o | o
  ·have hb:=Ob.SL.cj (own u o);exact SL.tJ (SL.tJ (SL.tJ (own u o) J (fun j M _=>by simp at M; omega)) P aj) Q (fun j M _=>by simp at M; omega)
  ·rw [Zh.1 o];exact Sx.SL.mono (SL.tJ sc Q (fun j M _=>by simp at M; have:=J.size; omega)) (by have:=J.size; omega)
 ·have:i=l:=ad
  subst this;rw [Zu ad] at s;refine ⟨⟨_,_,ws,rfl,⟨?_,fun u o=>Sx.SL.mono (own u o) (by have:=W.size; omega),fun _ _=>trivial⟩,s⟩,Y⟩;have hZ0:Z=[]:=ax9.1 (by rw [N,cd9,cx9]);subst hZ0;refine ⟨by rw [YY]; exact d.symm,fun y hy=>by obtain ⟨u,_,rfl⟩:=Y9.1 hy; rfl,I.size,[],[],rfl,Zc _,⟨Zc _,ad⟩,b2,aj⟩
variable {k:TypeId}
def Ls.iy {α:Type} {sz:Nat} {enc:cd->α->List Xab} {tm:α->dz} {ok:α->Prop} {h':Hp} {us:List (cd × α)} {ws:List Nat} (s:Ls k sz enc tm ok I H O U V us) (a:Ch ws I h') (m:∀ i,i∈ws->i<I.size->i<H\/∃ f g,bF I i f g/\f≠k/\f≠66):Ls k sz enc tm ok h' H O U V us:=by
 have j:∀ {d:TypeId} {z:Nat} {O:Xac} {U V:Nat} {xs:List (List Xab)},SL I H d z O U V xs->(d=k\/d=66)->SL h' H d z O U V xs:=by
  intro d z O U V xs s n;refine Sx.SL.br s a (fun i hi o=>?_);have hb:=Sx.SL.cj s hi;rcases m i o hb.2 with h1 | ⟨f,g,b2,h2,q⟩
  ·omega
  ·obtain ⟨zs,b1⟩:=SL.r6 s i hi;unfold bF at b1 b2;rw [b1] at b2;simp only [Option.some.injEq,Obj.cells.injEq] at b2;rcases n with rfl | rfl
   ·exact h2 b2.2.1.symm
   ·exact q b2.2.1.symm
 exact ⟨j s.sl (.inl rfl),fun u r=>j (s.own u r) (.inr rfl),s.ok⟩
def Dk {b:Nat} (h:(((H:Nat):Int)==((b:Nat):Int))=true):H=b:=by
 have:=eq_of_beq h
 omega
def GN {b:Nat} (h:(((H:Nat):Int)==((b:Nat):Int))=false):¬ H=b:=by
 rintro rfl;simp at h
variable {Z:cH}
def R9 {y:cH} (a:Z.kind=y.kind) (b:Z.name=y.name) (c:Z.inst=y.inst) (d:Z.e=y.e) (f:Z.n=y.n):Z=y:=by
 cases Z;cases y
 simp_all
variable {a:bU}
def SV {y:bU} (b:a.text=y.text) (c:a.data=y.data) (d:a.bf=y.bf) (e:a.aQ=y.aQ):a=y:=by
 cases a;cases y
 simp_all
variable {b:Lp} {c:Xab->Hp->Prop} {l:Bool}
def lR {h:Hp} {t u:T} (a:l=false->u b c h) (d:l=true->t b c h):(cond l t u) b c h:=ao d a
def Tn (l0 c:Nat) (a:Int->T->T):T :=
 cond ((l0:Int) != (c:Int))
 bH
 (T.loop [cr,aK] [.bool false,vI (0:Int)] <| fun (b2:Bool) (b:Int) =>
 bn b l0
  (a b (T.again 0 [.bool b2,vI (bC (b+(1:Int)))]))
  dZ)
def XU {α:Type} {a b:List α} (e:a=b) (h1:H<a.length) (h2:H<b.length):a[H]=b[H]:=by
 subst e;rfl
theorem kO {h:Hp} {a:Xax}:∀ (b:List Xab) (o i:Nat),aI h a (o+i) b->aI h (a.add o) i b
 | [],_,_,_=>trivial
 | v::b,o,i,hc=>⟨by rw [add_add]; exact hc.1,kO b o (i+1) hc.2⟩
def MK {α:Type} (x y:α) (h:Hp) (w:Xab) (h':Hp):Prop:=∃ b:Bool,w=.bool b/\(b=true↔x=y)/\Ext h h'
def A4 {α:Type} {c d:List α} {l0:Nat} (h0:l0=c.length) (h1:H=d.length) (x:c.length<=2^60) {body:Int->T->T} {h:Hp}
  (t:∀ (L:Lp) (h':Hp) (i:Nat) (hi:i<c.length) (f:i<d.length) (k:T),Ext h h'->(c[i]=d[i]->∀ h'',Ext h h''->k L (MK c d h) h'')->(c[i]≠d[i]->∀ h'',Ext h h''->MK c d h (.bool false) h'')->body (i:Int) k L (MK c d h) h') :
  Tn l0 H body [] (MK c d h) h:=by
 subst h0 h1;unfold Tn bn bC bH dZ aK cr;refine ao ?_ ?_<;>intro q
 ·refine ⟨false,rfl,⟨fun h=>(by cases h),fun e=>?_⟩,Ch.refl _ _⟩;rw [e] at q;simp at q
 have q:c.length=d.length:=by
  have:(((c.length:Nat):Int)==((d.length:Nat):Int))=true:=by
   simpa using q
  exact Dk this
 refine aU (cs:=ic) (fun y m h'=>∃ i:Nat,y.1=false/\y.2.1=(i:Int)/\m=c.length-i/\i<=c.length/\Ext h h'/\∀ j,(f:j<i)->(h1:j<c.length)->(h2:j<d.length)->c[j]=d[j]) (false,(0:Int),()) c.length rfl
  ⟨0,rfl,rfl,rfl,ad,Ch.refl _ _,fun j f=>ad⟩ ?_
 rintro ⟨b2,z,⟨⟩⟩ m h1 ⟨i,g,l,rfl,hi,s,f⟩;simp only at g l;subst g l;refine ak ?_;refine aP ?_ ?_<;>intro r
 ·refine t _ h1 i ad ad _ s (fun u h2 n=>?_) (fun o h2 n=>?_)
  ·rw [wrap_i64 ad ad];refine aG (cs:=ic) (false,((i+1:Nat):Int),()) (c.length-(i+1)) rfl ad rfl ?_;refine ⟨i+1,rfl,rfl,rfl,ad,n,fun j w a b=>?_⟩
   by_cases p:j<i
   ·exact f j p a b
   ·have:j=i:=ad
    subst this;exact u
  ·exact ⟨false,rfl,⟨fun h=>(by cases h),fun e=>absurd (XU e ad ad) o⟩,n⟩
 ·refine ⟨true,rfl,⟨fun _=>?_,fun _=>rfl⟩,s⟩;exact ca9 q fun j a b=>f j ad a b
def oL (s t:Xaa):(ByteArray.toList s==ByteArray.toList t)=decide (s=t):=by
 rw [ByteArray.toList_eq,ByteArray.toList_eq]
 by_cases h:s=t
 ·rw [Y4 h,h]; simp
 ·rw [Y6 h]
  have:¬ s.data.toList=t.data.toList:=fun e=>h (DV e)
  simpa using this
def xK (x y:cE):mE x y=true↔x=y:=by
 obtain ⟨a,b⟩:=x;obtain ⟨c,d⟩:=y;unfold mE
 simp
 exact and_comm
variable {Y:List Xaa}
def HV {j:List Xaa} (v:Mg I O H Y) (w:Mg I d V j):HC Xaz 59 #[.slice O H U,.slice d V i] I (MK Y j I):=by
 refine bi (args:=[.slice O H U,.slice d V i]) mixed Tryz.func59 aw (jY O H U d V i) ?_;refine A4 (body:=fun f k=>T.need (((0:Int)<=f)/\(f<(H:Int))) <|
  T.aR O <| fun (o:Xax) =>
  T.af (o.add ((Int.toNat f)*1)) [.string] <| fun (s:Xaa) =>
  T.need (((0:Int)<=f)/\(f<(V:Int))) <|
  T.aR d <| fun (t:Xax) =>
  T.af (t.add ((Int.toNat f)*1)) [.string] <| fun (u:Xaa) =>
  cond (!((ByteArray.toList s)==(ByteArray.toList u)))
  (T.ret (.bool false)) k) v.len w.len v.many ?_
 intro L h' e hi x k g hk hn;have vl:=v.len;have wl:=w.len;obtain ⟨a,rfl,hc,_⟩:=(v.ai g).cells e hi;obtain ⟨b,rfl,y,_⟩:=(w.ai g).cells e x;refine dO ?_;refine aH rfl ?_;refine av (Y[e],()) hc (ak ?_);refine dO ?_;refine aH rfl ?_;refine av (j[e],()) y (ak ?_);rw [oL];refine ao ?_ ?_<;>intro r
 ·exact hn (by simpa using r) h' g
 ·exact hk (by simpa using r) h' g
def FY {j n:List oh} (v:rW I O H j) (w:rW I d V n):HC Xaz 58 #[.slice O H U,.slice d V i] I (MK j n I):=by
 refine bi (args:=[.slice O H U,.slice d V i]) mixed Tryz.func58 aw (nl O H U d V i) ?_;refine A4 (body:=fun g k=>T.need (((0:Int)<=g)/\(g<(H:Int))) <|
  T.aR O <| fun (G:Xax) =>
  T.af (G.add ((Int.toNat g)*3)) [.string] <| fun (J:Xaa) =>
  T.need (((0:Int)<=g)/\(g<(V:Int))) <|
  T.aR d <| fun (K:Xax) =>
  T.af (K.add ((Int.toNat g)*3)) [.string] <| fun (M:Xaa) =>
  cond (!((ByteArray.toList J)==(ByteArray.toList M)))
  (T.ret (.bool false))
  (T.need (((0:Int)<=g)/\(g<(H:Int))) <|
  T.aR O <| fun (Q:Xax) =>
  T.af ((Q.add ((Int.toNat g)*3)).add 1) [.slice 66,.int .u32] <| fun (R:Xac) (l10 t:Nat) (x:Int) =>
  T.need (((0:Int)<=g)/\(g<(V:Int))) <|
  T.aR d <| fun (y:Xax) =>
  T.af ((y.add ((Int.toNat g)*3)).add 1) [.slice 66,.int .u32] <| fun (z:Xac) (A B:Nat) (C:Int) =>
  T.call Xaz 88 [.agg #[.slice R l10 t,.int .u32 x],.agg #[.slice z A B,.int .u32 C]] false [(false,[.bool])] <| fun (D:Bool) =>
  T.aD [((K.add ((Int.toNat g)*3)),[.string M]),((G.add ((Int.toNat g)*3)),[.string J])] <|
  cond (!D)
   (T.ret (.bool false)) k)) v.len w.len v.many ?_
 intro L h' f hi S k o hk hn;have vl:=v.len;have wl:=w.len;obtain ⟨a,W,X,c1,rfl,hc,N,_⟩:=(v.ai o).cells f hi;obtain ⟨b,Y,Z,P,rfl,E,wa,_⟩:=(w.ai o).cells f S;refine dO ?_;refine aH rfl ?_;refine av (j[f].1,()) ⟨hc.1,trivial⟩ (ak ?_);refine dO ?_;refine aH rfl ?_;refine av (n[f].1,()) ⟨E.1,trivial⟩ (ak ?_);rw [oL];refine ao ?_ ?_<;>intro r
 ·have r:¬ j[f].1=n[f].1:=by simpa using r
  exact hn (fun e=>r (by rw [e])) h' o
 have r:j[f].1=n[f].1:=by simpa using r
 refine dO ?_;refine aH rfl ?_;refine av ((W,X,c1),(j[f].2.num:Int),()) (kO _ 1 0 hc.2) (ak ?_);refine dO ?_;refine aH rfl ?_;refine av ((Y,Z,P),(n[f].2.num:Int),()) (kO _ 1 0 E.2) (ak ?_);refine aJ (CF (c:=c1) (d:=P) N.vw wa.vw N.many) ?_;rintro _ h2 ⟨rfl,s⟩;refine ⟨(mE j[f].2 n[f].2,()),rfl,ak ?_⟩;refine ⟨⟨⟨vu E.1 s aj,trivial⟩,⟨vu hc.1 s aj,trivial⟩,trivial⟩,?_⟩;refine ao ?_ ?_<;>intro u
 ·have u:mE j[f].2 n[f].2=false:=by simpa using u
  refine hn (fun e=>?_) h2 (o.trans s);rw [(xK _ _).2 (by rw [e])] at u;cases u
 ·have u:mE j[f].2 n[f].2=true:=by simpa using u
  exact hk (Prod.ext r ((xK _ _).1 u)) h2 (o.trans s)
def JR (x y:Operand) (i j:Ins) (h:Hp) (K:Xab->Hp->Prop) (hk:K (.bool (decide (i=j))) h) :
  aZ Xaz (Sx.jk (BinOp.eql) 62 x y (.agg (pX i).toArray) (.agg (pX j).toArray)) h K:=by
 refine F6 TC aw aw aw K ?_;have c:(Ca Xaz 62).all (HB (pX i).toArray (pX j).toArray)=(i.op==j.op && (i.a==j.a && (i.b==j.b && (i.n==j.n && (i.form==j.form && true))))):=by
  rw [<- aj9]
  kernel_rfl
 rw [c,au9]
 have:(i.op==j.op && (i.a==j.a && (i.b==j.b && (i.n==j.n && i.form==j.form))))=decide (i=j):=by
  rcases i with ⟨d,e,f,g,k⟩
  rcases j with ⟨c1,l,c3,m,c5⟩
  simp only [dB,Ins.mk.injEq]
  by_cases h1:d=c1 <;> by_cases h2:e=l <;> by_cases o:f=c3 <;> by_cases p:g=m <;> by_cases q:k=c5 <;> simp [h1,h2,o,p,q]
 rw [this];exact hk
def GJ {h:Hp} {p q:Xac} {l c m d:Nat} {x y:cH} (v:pV h p l x.e) (w:pV h q m y.e):HC Xaz 51 #[rQ p l c x,rQ q m d y] h (MK x y h):=by
 refine bi (args:=[rQ p l c x,rQ q m d y]) mixed Tryz.func51 aw (mH x.kind x.name x.inst.op x.inst.a x.inst.b x.inst.n x.inst.form p l c x.e.num x.n y.kind y.name y.inst.op y.inst.a y.inst.b y.inst.n y.inst.form q m d y.e.num y.n) ?_;unfold iS bd ei ax bH;refine bG ?_;intro h1 b1 r z1;refine bG ?_;intro h2 b2 o z2;have b1:bF h2 h.size 64 (encI p l c x):=b1.ai o aj;have b2:bF h2 h1.size 64 (encI q m d y):=b2;have e:=r.trans o;have no:∀ h',Ext h h'->x≠y->MK x y h (.bool false) h':=fun h' e hn=>⟨false,rfl,⟨fun h=>(by cases h),fun e=>absurd e hn⟩,e⟩
 simp only [aC];refine az b1 (x.kind,()) (ak ?_);refine az b2 (y.kind,()) (ak ?_);refine lR ?_ ?_<;>intro f
 ·have f:¬ x.kind=y.kind:=by simpa using f
  exact no h2 e (fun e=>f (by rw [e]))
 have f:x.kind=y.kind:=by simpa using f
 refine az b1 (x.name,()) (ak ?_);refine az b2 (y.name,()) (ak ?_);rw [oL];refine lR ?_ ?_<;>intro g
 ·have g:¬ x.name=y.name:=by simpa using g
  exact no h2 e (fun e=>g (by rw [e]))
 have g:x.name=y.name:=by simpa using g
 refine az b1 (x.inst.op,x.inst.a,x.inst.b,x.inst.n,x.inst.form,()) (ak ?_);refine az b2 (y.inst.op,y.inst.a,y.inst.b,y.inst.n,y.inst.form,()) (ak ?_);refine mU (fun s t=>JR _ _ x.inst y.inst h2 s t) ?_;refine lR ?_ ?_<;>intro i
 ·have i:¬ x.inst=y.inst:=by simpa using i
  exact no h2 e (fun e=>i (by rw [e]))
 have i:x.inst=y.inst:=by simpa using i
 refine az b1 ((p,l,c),(x.e.num:Int),()) (ak ?_);refine az b2 ((q,m,d),(y.e.num:Int),()) (ak ?_);refine aJ (CF (c:=c) (d:=d) (v.ai e).vw (w.ai e).vw v.many) ?_;rintro _ u ⟨rfl,j⟩;refine ⟨(mE x.e y.e,()),rfl,ak ?_⟩;refine lR ?_ ?_<;>intro r4
 ·refine no u (e.trans j) (fun e=>?_);rw [(xK _ _).2 (by rw [e])] at r4;cases r4
 have r4:=(xK _ _).1 r4;refine az (b1.ai j aj) (x.n,()) (ak ?_);refine az (b2.ai j aj) (y.n,()) ?_;refine ⟨x.n==y.n,rfl,⟨fun k=>?_,fun e=>by rw [e]; simp⟩,e.trans j⟩;have k:x.n=y.n:=by simpa using k
 exact R9 f g i r4 k
def qG {h:Hp} {p q:Xac} {l c m d:Nat} {f g:List cH} (v:zV h p l f) (w:zV h q m g):HC Xaz 15 #[.slice p l c,.slice q m d] h (MK f g h):=by
 refine bi (args:=[.slice p l c,.slice q m d]) mixed Tryz.func15 aw (lM p l c q m d) ?_;refine A4 (body:=fun j k=>T.need (((0:Int)<=j)/\(j<(l:Int))) <|
  T.aR p <| fun (V:Xax) =>
  T.af (V.add ((Int.toNat j)*10)) [.int .i64,.string,.int .i64,.int .i64,.int .i64,.int .i32,.int .i64,.slice 66,.int .u32,.int .i64] <| fun (W:Int) (X:Xaa) (Y Z n9 r s:Int) (t:Xac) (x y:Nat) (z A:Int) =>
  T.need (((0:Int)<=j)/\(j<(m:Int))) <|
  T.aR q <| fun (B:Xax) =>
  T.af (B.add ((Int.toNat j)*10)) [.int .i64,.string,.int .i64,.int .i64,.int .i64,.int .i32,.int .i64,.slice 66,.int .u32,.int .i64] <| fun (C:Int) (D:Xaa) (E F G H I:Int) (J:Xac) (K M:Nat) (N O:Int) =>
  T.call Xaz 51 [.agg #[vI W,.string X,vI Y,vI Z,vI n9,.int .i32 r,vI s,.slice t x y,.int .u32 z,vI A],.agg #[vI C,.string D,vI E,vI F,vI G,.int .i32 H,vI I,.slice J K M,.int .u32 N,vI O]] false [(false,[.bool])] <| fun (P:Bool) =>
  cond (!P)
  (T.ret (.bool false)) k) v.len w.len v.many ?_
 intro L h' i hi hj k o hk hn;have vl:=v.len;have wl:=w.len;obtain ⟨a,p1,l1,c1,rfl,hc,va⟩:=(v.ai o).cells i hi;obtain ⟨b,q1,m1,R,rfl,hd,wa⟩:=(w.ai o).cells i hj;refine dO ?_;refine aH rfl ?_;refine av (f[i].kind,f[i].name,f[i].inst.op,f[i].inst.a,f[i].inst.b,f[i].inst.n,f[i].inst.form,(p1,l1,c1),(f[i].e.num:Int),f[i].n,()) hc (ak ?_);refine dO ?_;refine aH rfl ?_;refine av (g[i].kind,g[i].name,g[i].inst.op,g[i].inst.a,g[i].inst.b,g[i].inst.n,g[i].inst.form,(q1,m1,R),(g[i].e.num:Int),g[i].n,()) hd (ak ?_);refine aJ (GJ (c:=c1) (d:=R) va.lin wa.lin) ?_;rintro _ h2 ⟨b,rfl,S,U⟩;refine ⟨(b,()),rfl,ak ?_⟩;refine ao ?_ ?_<;>intro u
 ·have u:b=false:=by simpa using u
  refine hn (fun e=>?_) h2 (o.trans U);rw [S.2 e] at u;cases u
 ·have u:b=true:=by simpa using u
  exact hk (S.1 u) h2 (o.trans U)
def FM {h:Hp} {a b c d a' b' c' f:cd} {u v:bU} (x:jU h a b c d u) (y:jU h a' b' c' f v):HC Xaz 24 #[qp a b c d,qp a' b' c' f] h (MK u v h):=by
 refine bi (args:=[qp a b c d,qp a' b' c' f]) mixed Tryz.func24 aw (nj a.p a.l a.c b.p b.l b.c c.p c.l c.c d.p d.l d.c a'.p a'.l a'.c b'.p b'.l b'.c c'.p c'.l c'.c f.p f.l f.c) ?_;unfold iX bd bH;refine bG ?_;intro h1 b1 s z1;refine bG ?_;intro h2 b2 o z2;have b1:bF h2 h.size 30 [a.v,b.v,c.v,d.v]:=b1.ai o aj;have b2:bF h2 h1.size 30 [a'.v,b'.v,c'.v,f.v]:=b2;have e:=s.trans o;have no:∀ h',Ext h h'->u≠v->MK u v h (.bool false) h':=fun h' e hn=>⟨false,rfl,⟨fun h=>(by cases h),fun e=>absurd e hn⟩,e⟩
 simp only [aC];refine az b1 ((a.p,a.l,a.c),()) (ak ?_);refine az b2 ((a'.p,a'.l,a'.c),()) (ak ?_);refine aJ (qG (x.text.ai e) (y.text.ai e)) ?_;rintro _ B ⟨t,rfl,i1,k⟩;refine ⟨(t,()),rfl,ak ?_⟩;have e:=e.trans k;have b1:=b1.ai k aj;have b2:=b2.ai k aj;refine lR ?_ ?_<;>intro g
 ·refine no _ e (fun e=>?_);rw [i1.2 (by rw [e])] at g;cases g
 have i1:=i1.1 g;refine az b1 ((b.p,b.l,b.c),()) (ak ?_);refine az b2 ((b'.p,b'.l,b'.c),()) (ak ?_);refine aJ (qG (x.data.ai e) (y.data.ai e)) ?_;rintro _ C ⟨w,rfl,i2,m⟩;refine ⟨(w,()),rfl,ak ?_⟩;have e:=e.trans m;have b1:=b1.ai m aj;have b2:=b2.ai m aj;refine lR ?_ ?_<;>intro i
 ·refine no _ e (fun e=>?_);rw [i2.2 (by rw [e])] at i;cases i
 have i2:=i2.1 i;refine az b1 ((c.p,c.l,c.c),()) (ak ?_);refine az b2 ((c'.p,c'.l,c'.c),()) (ak ?_);refine aJ (FY (x.bf.ai e) (y.bf.ai e)) ?_;rintro _ D ⟨z,rfl,i3,n⟩;refine ⟨(z,()),rfl,ak ?_⟩;have e:=e.trans n;have b1:=b1.ai n aj;have b2:=b2.ai n aj;refine lR ?_ ?_<;>intro j
 ·refine no _ e (fun e=>?_);rw [i3.2 (by rw [e])] at j;cases j
 have i3:=i3.1 j;refine az b1 ((d.p,d.l,d.c),()) (ak ?_);refine az b2 ((f.p,f.l,f.c),()) (ak ?_);refine aJ (HV (x.aQ.ai e) (y.aQ.ai e)) ?_;rintro _ E ⟨r,rfl,i4,A⟩;refine ⟨(r,()),rfl,?_⟩;refine ⟨r,rfl,⟨fun q=>?_,fun e=>i4.2 (by rw [e])⟩,e.trans A⟩;have i4:=i4.1 q;exact SV i1 i2 i3 i4
structure wh (h:Hp) (p:Xac) (l:Nat) (us:List bU):Prop where
 len:l=us.length
 many:us.length<=2^60
 cells:∀ i,(hi:i<us.length)->∃ a sa sb sc sd,p=some a/\aI h (a.add (i*4)) 0 [cd.v sa,cd.v sb,cd.v sc,cd.v sd]/\jU h sa sb sc sd us[i]
def wh.ai {h h':Hp} {p:Xac} {l:Nat} {us:List bU} (v:wh h p l us) (k:Ext h h'):wh h' p l us :=
 ⟨v.len,v.many,fun i hi=>by
  obtain ⟨a,sa,sb,sc,sd,b,hc,hv⟩:=v.cells i hi;exact ⟨a,sa,sb,sc,sd,b,aX k aj _ _ hc,hv.ai k⟩⟩
def Cu (u:bU):Bool:=decide (600<u.text.length) || decide (300<u.data.length) || decide (100<u.bf.length)
def Kc (u:bU):Nat:=u.text.length+u.data.length+u.bf.length
def jm (us:List bU):Nat:=(us.map Kc).sum
def As (us:List bU):Bool:=(us.take 65).any Cu || decide (900<jm (us.take 65))
def MJ {α:Type} (f:α->Bool) (l:List α) (hi:H<l.length) (hn:H<U) (h:f l[H]=true):(l.take U).any f=true:=by
 rw [ay9];exact ⟨l[H],List.mem_take_iff_getElem.2 ⟨H,ad,rfl⟩,h⟩
def HG (us:List bU) (hi:H<us.length):jm (us.take (H+1))=jm (us.take H)+Kc us[H]:=by
 unfold jm;rw [Y2 hi,Za,List.sum_append]
 simp
def MS {c:Nat} {us:List bU} (v:wh I O H us):xL Xaz 8 [.slice O H c] I (.bool (As us)):=by
 refine fh mixed Tryz.func8 aw (qf O H c) ?_;unfold kz aY bj bn ay bC dZ aK cr;have hl:=v.len;have hm:=v.many;refine aU (cs:=SU) (fun y m h'=>∃ i:Nat,y.1=false/\y.2.1=((jm (us.take i):Nat):Int)/\y.2.2.1=(i:Int)/\m=H-i/\i<=H/\i<=65/\h'=I/\(us.take i).any Cu=false/\jm (us.take i)<=i*1000) (false,(0:Int),(0:Int),()) H rfl
  ⟨0,rfl,rfl,rfl,rfl,ad,ad,rfl,rfl,by simp [jm]⟩ ?_
 rintro ⟨b1,A,B,⟨⟩⟩ m h1 ⟨i,e,f,j,rfl,hi,o,rfl,q,C⟩;simp only at e f j;subst e f j;refine ak ?_;have d:(H<=i\/65<=i)->(T.ret (.bool (decide (((jm (us.take i):Nat):Int)>(900:Int))))) [Jl (cs:=SU) (fun y m h'=>∃ i:Nat,y.1=false/\y.2.1=((jm (us.take i):Nat):Int)/\y.2.2.1=(i:Int)/\m=H-i/\i<=H/\i<=65/\h'=h1/\(us.take i).any Cu=false/\jm (us.take i)<=i*1000) (H-i)] (fun v' h'=>v'=.bool (As us)/\h'=h1) h1:=by
  intro D
  have:us.take i=us.take 65:=by
   by_cases k:i=65
   ·rw [k]
   ·rw [Zu ad,Zu ad]
  refine ⟨?_,rfl⟩;unfold As;rw [<- this,q,bu9]
  congr 1
  by_cases g:900<jm (us.take i)
  ·rw [Y4 g,Y4 ad]
  ·rw [Y6 g,Y6 ad]
 refine lR ?_ ?_<;>intro r
 ·have r:=Zf r;exact d ad
 have r:=Y3 r;refine lR ?_ ?_<;>intro w
 ·have w:=Zf w;exact d ad
 have w:=Y3 w;clear d;have b:i<us.length:=ad
 obtain ⟨a,sa,sb,sc,sd,rfl,hc,hv⟩:=v.cells i b;have na:=hv.text.len;have nb:=hv.data.len;have nc:=hv.bf.len;have s:aI h1 (a.add (i*4)) 0 [cd.v sa]:=⟨hc.1,trivial⟩
 have t:aI h1 ((a.add (i*4)).add 1) 0 [cd.v sb]:=kO _ 1 0 ⟨hc.2.1,trivial⟩;have u:aI h1 ((a.add (i*4)).add 2) 0 [cd.v sc]:=kO _ 2 0 ⟨hc.2.2.1,trivial⟩;have rj:Cu us[i]=true->(T.ret (.bool true)) [Jl (cs:=SU) (fun y m h'=>∃ i:Nat,y.1=false/\y.2.1=((jm (us.take i):Nat):Int)/\y.2.2.1=(i:Int)/\m=H-i/\i<=H/\i<=65/\h'=h1/\(us.take i).any Cu=false/\jm (us.take i)<=i*1000) (H-i)] (fun v' h'=>v'=.bool (As us)/\h'=h1) h1:=by
  intro z;refine ⟨?_,rfl⟩;unfold As;rw [MJ Cu us b ad z] <;> rfl
 refine bP rfl ?_;refine av ((sa.p,sa.l,sa.c),()) s (ak ?_);refine ao (fun g=>?_) (fun g1=>?_)
 ·have g:=Y3 g;refine rj ?_;unfold Cu;rw [Y4 ad] <;> rfl
 have g1:=Zf g1;refine bP rfl ?_;refine av ((sb.p,sb.l,sb.c),()) t (ak ?_);refine ao (fun g=>?_) (fun g2=>?_)
 ·have g:=Y3 g;refine rj ?_;unfold Cu;rw [Y4 (show 300<us[i].data.length from ad)]
  simp
 have g2:=Zf g2;refine bP rfl ?_;refine av ((sc.p,sc.l,sc.c),()) u (ak ?_);refine ao (fun g=>?_) (fun g3=>?_)
 ·have g:=Y3 g;refine rj ?_;unfold Cu;rw [Y4 (show 100<us[i].bf.length from ad)]
  simp
 have g3:=Zf g3;refine bP rfl ?_;refine av ((sa.p,sa.l,sa.c),()) s (ak ?_);refine bP rfl ?_;refine av ((sb.p,sb.l,sb.c),()) t (ak ?_);refine bP rfl ?_;refine av ((sc.p,sc.l,sc.c),()) u (ak ?_);rw [wrap_i64 (x:=((jm (us.take i):Nat):Int)+(sa.l:Int)) ad ad,wrap_i64 (x:=((jm (us.take i):Nat):Int)+(sa.l:Int)+(sb.l:Int)) ad ad,wrap_i64 (x:=((jm (us.take i):Nat):Int)+(sa.l:Int)+(sb.l:Int)+(sc.l:Int)) ad ad,wrap_i64 (x:=(i:Int)+1) ad ad];have hst:=HG us b;have n:Kc us[i]=sa.l+sb.l+sc.l:=by unfold Kc; omega
 refine aG (cs:=SU) (false,((jm (us.take (i+1)):Nat):Int),((i+1:Nat):Int),()) (H-(i+1)) rfl ad ?_ ?_
 ·show [Value.bool false,Value.int .i64 (((jm (us.take i):Nat):Int)+(sa.l:Int)+(sb.l:Int)+(sc.l:Int)),Value.int .i64 ((i:Int)+1)]=[Value.bool false,Value.int .i64 ((jm (us.take (i+1)):Nat):Int),Value.int .i64 ((i+1:Nat):Int)];rw [hst,n]
  congr 3
  omega
 ·refine ⟨i+1,rfl,rfl,rfl,rfl,ad,ad,rfl,?_,ad⟩;rw [Y2 b,List.any_append,q,bu9];unfold Cu;simp only [List.any_cons,List.any_nil,Bool.or_false,Bool.or_eq_false_iff,decide_eq_false_iff_not];omega
def S5:Array (Nat × Xab):=#[(0,.agg #[.string ⟨#[110,111,112]⟩,.int .u8 (0:Int),vI (1:Int)]),(1,.agg #[.string ⟨#[104,97,108,116]⟩,.int .u8 (1:Int),vI (1:Int)]),(2,.agg #[.string ⟨#[114,101,116]⟩,.int .u8 (2:Int),vI (1:Int)]),(3,.agg #[.string ⟨#[112,114,105,110,116]⟩,.int .u8 (3:Int),vI (2:Int)]),(4,.agg #[.string ⟨#[105,110]⟩,.int .u8 (4:Int),vI (2:Int)]),(5,.agg #[.string ⟨#[112,117,115,104]⟩,.int .u8 (5:Int),vI (2:Int)]),(6,.agg #[.string ⟨#[112,111,112]⟩,.int .u8 (6:Int),vI (2:Int)]),(7,.agg #[.string ⟨#[106,114]⟩,.int .u8 (7:Int),vI (2:Int)]),(8,.agg #[.string ⟨#[110,101,103]⟩,.int .u8 (8:Int),vI (2:Int)]),(9,.agg #[.string ⟨#[110,111,116]⟩,.int .u8 (9:Int),vI (2:Int)]),(10,.agg #[.string ⟨#[122,116,117,114,110]⟩,.int .u8 (10:Int),vI (3:Int)]),(11,.agg #[.string ⟨#[122,99,111,110,106]⟩,.int .u8 (11:Int),vI (3:Int)]),(12,.agg #[.string ⟨#[109,111,118]⟩,.int .u8 (16:Int),vI (4:Int)]),(13,.agg #[.string ⟨#[97,100,100]⟩,.int .u8 (17:Int),vI (4:Int)]),(14,.agg #[.string ⟨#[115,117,98]⟩,.int .u8 (18:Int),vI (4:Int)]),(15,.agg #[.string ⟨#[109,117,108]⟩,.int .u8 (19:Int),vI (4:Int)]),(16,.agg #[.string ⟨#[100,105,118]⟩,.int .u8 (20:Int),vI (4:Int)]),(17,.agg #[.string ⟨#[97,110,100]⟩,.int .u8 (21:Int),vI (4:Int)]),(18,.agg #[.string ⟨#[111,114]⟩,.int .u8 (22:Int),vI (4:Int)]),(19,.agg #[.string ⟨#[120,111,114]⟩,.int .u8 (23:Int),vI (4:Int)]),(20,.agg #[.string ⟨#[115,104,108]⟩,.int .u8 (24:Int),vI (4:Int)]),(21,.agg #[.string ⟨#[115,104,114]⟩,.int .u8 (25:Int),vI (4:Int)]),(22,.agg #[.string ⟨#[108,116]⟩,.int .u8 (26:Int),vI (4:Int)]),(23,.agg #[.string ⟨#[101,113]⟩,.int .u8 (27:Int),vI (4:Int)]),(24,.agg #[.string ⟨#[108,100,98]⟩,.int .u8 (28:Int),vI (4:Int)]),(25,.agg #[.string ⟨#[108,100,119]⟩,.int .u8 (29:Int),vI (4:Int)]),(26,.agg #[.string ⟨#[108,100,109]⟩,.int .u8 (30:Int),vI (4:Int)]),(27,.agg #[.string ⟨#[115,116,109]⟩,.int .u8 (31:Int),vI (4:Int)]),(28,.agg #[.string ⟨#[122,109,111,118]⟩,.int .u8 (32:Int),vI (5:Int)]),(29,.agg #[.string ⟨#[122,97,100,100]⟩,.int .u8 (33:Int),vI (5:Int)]),(30,.agg #[.string ⟨#[122,115,117,98]⟩,.int .u8 (34:Int),vI (5:Int)]),(31,.agg #[.string ⟨#[122,109,117,108]⟩,.int .u8 (35:Int),vI (5:Int)]),(32,.agg #[.string ⟨#[122,114,101]⟩,.int .u8 (36:Int),vI (6:Int)]),(33,.agg #[.string ⟨#[122,105,109]⟩,.int .u8 (37:Int),vI (6:Int)]),(34,.agg #[.string ⟨#[122,115,101,116]⟩,.int .u8 (38:Int),vI (7:Int)]),(35,.agg #[.string ⟨#[108,105,115]⟩,.int .u8 (48:Int),vI (8:Int)]),(36,.agg #[.string ⟨#[116,114,97,112]⟩,.int .u8 (49:Int),vI (9:Int)]),(37,.agg #[.string ⟨#[108,105]⟩,.int .u8 (50:Int),vI (10:Int)]),(38,.agg #[.string ⟨#[108,100,112]⟩,.int .u8 (51:Int),vI (11:Int)]),(39,.agg #[.string ⟨#[106,109,112]⟩,.int .u8 (64:Int),vI (12:Int)]),(40,.agg #[.string ⟨#[99,97,108,108]⟩,.int .u8 (67:Int),vI (12:Int)]),(41,.agg #[.string ⟨#[106,122]⟩,.int .u8 (70:Int),vI (13:Int)]),(42,.agg #[.string ⟨#[106,110,122]⟩,.int .u8 (73:Int),vI (13:Int)])]
def wB (k:Nat):Xaa:=match S5[k]? with | some (_,.agg #[.string s,_,_])=>s | _=>⟨#[]⟩
def xv (k:Nat):Int:=match S5[k]? with | some (_,.agg #[_,.int _ b,_])=>b | _=>0
def XJ:Tryz.prog.underlying 186=some (.slice 188):=aw
def YL:(Tryz.prog.info? 188).map (fun i=>(i.zero,i.size,i.bytes))=some (some (.agg #[.string ⟨#[]⟩,.int .u8 0,vI 0]),3,32):=aw
def Sr:Instr.fill (fun j=>some (j*3,3)) ((Array.range (43*3)).map ((Value.agg #[.string ⟨#[]⟩,.int .u8 0,vI 0]).cells[· % (Value.agg #[.string ⟨#[]⟩,.int .u8 0,vI 0]).cells.size]!)) S5.toList=some (mf wB xv).toArray:=aw
def UZ (h:Hp):HC Xaz 117 #[] h fun v h'=>v=.slice (some ⟨h.size,0,none⟩) 43 43/\bF h' h.size 188 (mf wB xv)/\Ext h h':=by
 refine bi (args:=[]) mixed Tryz.func117 aw rO ?_;show (T.eN Xaz (Instr.buildSlice 186 43 S5) false [(false,[.slice 0])] <| fun (p0:Xac) (a b:Nat)=>T.ret (.slice p0 a b)) [] _ h;refine mF XJ YL ad ad Sr ?_;intro h1 b1 c z1;exact ⟨rfl,b1,c⟩
def Mn {nm:Nat->Xaa} {by_:Nat->Int} (hk:H<43):(mf nm by_)[H*3+2]?=some (vI (pf.getD H 0:Nat)):=by
 unfold mf;rw [xt _ 3 aj _ _ _ ad];simp [hk]
def sL (h:Hp) (op:Int) (f:Sm op):HC Xaz 96 #[vI op] h fun w h'=>w=vI (dG op:Nat)/\Ext h h':=by
 refine bi (args:=[vI op]) mixed Tryz.func96 aw (pH op) ?_;unfold kC bz bC;refine aJ (UZ h) ?_;rintro _ h1 ⟨rfl,b1,b⟩;refine ⟨((some ⟨h.size,0,none⟩,43,43),()),rfl,ak ?_⟩;have d:op<1\/43<op->dG op=0:=by
  intro g
  by_cases h0:dG op=0
  ·exact h0
  ·have:=H8 op h0
   omega
 refine ao ?_ ?_<;>intro q
 ·have q:=Y3 q;rw [d (.inl q)];exact ⟨rfl,b⟩
 have q:=Zf q;refine ao ?_ ?_<;>intro r
 ·have r:op>((43:Nat):Int):=Y3 r;rw [d (.inr ad)];exact ⟨rfl,b⟩
 have r:¬ op>((43:Nat):Int):=Zf r;obtain ⟨k,hk⟩:∃ k:Nat,op=(k:Int)+1:=⟨(op-1).toNat,ad⟩
 rw [wrap_i64 ad ad,show op-1=(k:Int) from ad];have a:k<43:=ad
 refine dO ?_;refine aH rfl ?_;rw [cB k,aC,aC];have e:dG op=pf.getD k 0:=by
  unfold dG;rw [Y1 ad,show (op-1).toNat=k from ad]
 refine bm b1 (((pf.getD k 0:Nat):Int),()) ?_ ?_
 ·show List.take 1 (List.drop (0+k*3+2) (mf wB xv))=[vI ((pf.getD k 0:Nat):Int)]
  have:=Mn (nm:=wB) (by_:=xv) a
  rw [ZH];obtain ⟨c,hv⟩:=Zn.1 this;rw [Zj c,List.take_succ_cons,List.take_zero,hv]
 ·rw [e];exact ⟨rfl,b⟩
def Dq (h:Hp) (op:Int) (a:Sm op):HC Xaz 71 #[vI op] h fun w h'=>w=.bool (um op)/\Ext h h':=by
 refine bi (args:=[vI op]) mixed Tryz.func71 aw (pN op) ?_;unfold kw dl dZ;have hc:=iT op;refine aJ (sL h op a) ?_;rintro _ h1 ⟨rfl,b⟩;refine ⟨(((dG op:Nat):Int),()),rfl,ak ?_⟩;refine ao ?_ ?_<;>intro q
 ·have q:dG op=12:=Dk q;exact ⟨by unfold um; rw [q]; rfl,b⟩
 have q:¬ dG op=12:=GN q;refine aJ (sL h1 op a) ?_;rintro _ h2 ⟨rfl,d⟩;refine ⟨(((dG op:Nat):Int),()),rfl,?_⟩;refine ⟨?_,b.trans d⟩
 congr 1
 unfold um
 by_cases g:dG op=13
 ·rw [g]; rfl
 ·rw [Y6 ad];exact Yu (c:=13) g
def Kz (h:Hp) (op:Int) (f:Sm op):HC Xaz 73 #[vI op] h fun w h'=>w=.bool (Hq op)/\Ext h h':=by
 refine bi (args:=[vI op]) mixed Tryz.func73 aw (qT op) ?_;unfold lh dl dZ;have hc:=iT op;refine aJ (sL h op f) ?_;rintro _ h1 ⟨rfl,a⟩;refine ⟨(((dG op:Nat):Int),()),rfl,ak ?_⟩;refine ao (fun q=>?_) (fun b=>?_)
 ·have q:dG op=10:=Dk q;exact ⟨by unfold Hq; rw [q]; rfl,a⟩
 have b:¬ dG op=10:=GN b;refine ao (fun q=>?_) (fun d=>?_)
 ·have q:dG op=11:=Dk q;exact ⟨by unfold Hq; rw [q]; rfl,a⟩
 have d:¬ dG op=11:=GN d;refine ao (fun q=>?_) (fun e=>?_)
 ·have q:dG op=12:=Dk q;exact ⟨by unfold Hq; rw [q]; rfl,a⟩
 have e:¬ dG op=12:=GN e;refine ⟨?_,a⟩
 congr 1
 unfold Hq
 by_cases g:dG op=13
 ·rw [g]; rfl
 ·rw [Y6 ad];exact Yu (c:=13) g
def RH (h:Hp) (n w:Int):xL Xaz 98 [.int .i32 n,vI w] h (.bool ((decide (w=1) || decide (w=2) || decide (w=4)) && nM n w)):=by
 refine fh mixed Tryz.func98 aw (qw n w) ?_;unfold lH nM bH dZ;refine ao (fun q=>?_) (fun a=>?_)
 ·have q:w=1:=by simpa using q
  rw [Y8 q,q];refine ao (fun r=>⟨?_,rfl⟩) (fun r=>⟨?_,rfl⟩)
  ·have r:=Y3 r;rw [Y4 (show -128<=n from r)]
   simp
  ·have r:=Zf r;rw [Y6 (show ¬ -128<=n from r)]
   simp
 have a:¬ w=1:=by simpa using a
 rw [Y1 a];refine ao (fun q=>?_) (fun b=>?_)
 ·have q:w=2:=by simpa using q
  rw [Y8 q,q];refine ao (fun r=>⟨?_,rfl⟩) (fun r=>⟨?_,rfl⟩)
  ·have r:=Y3 r;rw [Y4 (show -32768<=n from r)]
   simp
  ·have r:=Zf r;rw [Y6 (show ¬ -32768<=n from r)]
   simp
 have b:¬ w=2:=by simpa using b
 rw [Y1 b];refine ao (fun q=>?_) (fun c=>?_)
 ·have q:w=4:=by simpa using q
  rw [q];exact ⟨rfl,rfl⟩
 ·have c:¬ w=4:=by simpa using c
  rw [Y6 a,Y6 b,Y6 c];exact ⟨rfl,rfl⟩
def aA (s:Nat):Nat:=if s=2\/s=8\/s=10\/s=11\/s=13\/s=4\/s=6 then 8 else if s=3\/s=5\/s=7 then 4 else 0
def bB (s:Nat):Nat:=if s=4\/s=7 then 8 else if s=5\/s=6 then 4 else 0
def OV (c:1<=H/\H<=13) (a b n:Int):cR H a b n=true↔(0<=a/\0<=b/\(a<(aA H:Int)\/(aA H=0/\a=0))/\(b<(bB H:Int)\/(bB H=0/\b=0))/\(H=7->0<=n/\n<=7)):=by
 have:H=1\/H=2\/H=3\/H=4\/H=5\/H=6\/H=7\/H=8\/H=9\/H=10\/H=11\/H=12\/H=13:=ad
 unfold cR xM aA bB;rcases this with rfl | rfl | rfl | rfl | rfl | rfl | rfl | rfl | rfl | rfl | rfl | rfl | rfl <;> simp <;> omega
def LQ (h:Hp) (op a b n form:Int) (e:Sm op) (i:dG op≠0):HC Xaz 97 #[dI op a b n form] h fun w h'=>w=.bool (cR (dG op) a b n)/\Ext h h':=by
 refine bi (args:=[dI op a b n form]) mixed Tryz.func97 aw (lO op a b n form) ?_;unfold iq dl bH dZ aK;have hc:1<=dG op/\dG op<=13:=by have:=iT op; omega
 refine bG ?_;intro h1 b1 f z1;refine az b1 (op,()) (ak ?_);refine aJ (sL h1 op e) ?_;rintro _ h2 ⟨rfl,d⟩;refine ⟨(((dG op:Nat):Int),()),rfl,ak ?_⟩;have b2:=b1.ai d aj;have e02:=f.trans d;have hiff:=OV hc a b n;generalize dG op=s at *;generalize cR s a b n=R at *;refine fJ (cs:=gk) (fun y h'=>y=(((aA s:Nat):Int),((bB s:Nat):Int),())/\h2=h') ?_ ?_
 ·have:s=1\/s=2\/s=3\/s=4\/s=5\/s=6\/s=7\/s=8\/s=9\/s=10\/s=11\/s=12\/s=13:=ad
  rcases this with rfl | rfl | rfl | rfl | rfl | rfl | rfl | rfl | rfl | rfl | rfl | rfl | rfl
  all_goals (repeat (first | refine cL rfl ?_ | refine cC rfl ?_))
  all_goals exact dE (cs:=gk) (((aA _:Nat):Int),((bB _:Nat):Int),()) rfl rfl ⟨rfl,rfl⟩
 rintro ⟨A,B,⟨⟩⟩ _ ⟨g,rfl⟩;cases g;refine ak ?_;simp only [aC];have c:∀ b:Bool,(b=true↔R=true)->(T.ret (.bool b)) [] (fun w h'=>w=.bool R/\Ext h h') h2:=by
  intro b j;refine ⟨?_,e02⟩;cases b <;> cases R <;> simp_all
 repeat' (first
  | (refine bm b2 (a,()) rfl ?_; refine ak ?_)
  | (refine bm b2 (b,()) rfl ?_; refine ak ?_)
  | (refine bm b2 (n,()) rfl ?_; refine ak ?_)
  | refine c _ ?_
  | refine ao (fun q=>?_) (fun q=>?_))
 all_goals (rw [hiff]; simp only [decide_eq_true_eq,decide_eq_false_iff_not,bne_iff_ne,ne_eq,bne_eq_false_iff_eq,Bool.false_eq_true,false_iff,true_iff] at *; omega)
def xz (n w:Int):Bool:=(decide (w=1) || decide (w=2) || decide (w=4)) && nM n w
def FA (n w:Int):Prop:=(w=1/\-128<=n/\n<=127)\/(w=2/\-32768<=n/\n<=32767)\/w=4
def Js (n w:Int):xz n w=true↔FA n w:=by
 unfold xz nM FA
 by_cases h1:w=1
 ·subst h1; simp
 ·by_cases h2:w=2
  ·subst h2; simp
  ·by_cases a:w=4
   ·subst a; simp
   ·simp [h1,h2,a]
def UQ (n w:Int):xz n w=false↔¬ FA n w:=by
 rw [<- Js]
 simp
def bI {i:Ins} (h0:dG i.op≠0) (l:cR (dG i.op) i.a i.b i.n=true) (P:Prop) (m:P↔((dG i.op=12\/dG i.op=13->FA i.n i.form)/\(dG i.op≠12/\dG i.op≠13->i.form=0)/\(dG i.op=8->-128<=i.n/\i.n<=127)/\(dG i.op=9->0<=i.n/\i.n<=255)/\(dG i.op=11->0<=i.n/\i.n<=4095) /\
  (dG i.op<7->i.n=0))):(P->ir i=0)/\(¬ P->ir i=13):=by
 obtain ⟨op,a,b,n,form⟩:=i;simp only at *;have hc:=iT op;have c:(!um op && decide (form≠0) || !nR (dG op) n form)=true↔¬ P:=by
  rw [m];unfold um nR nM FA
  have:dG op=1\/dG op=2\/dG op=3\/dG op=4\/dG op=5\/dG op=6\/dG op=7\/dG op=8\/dG op=9\/dG op=10\/dG op=11\/dG op=12\/dG op=13:=ad
  rcases this with h | h | h | h | h | h | h | h | h | h | h | h | h <;> rw [h]
  all_goals (
   by_cases f:form=1
   ·subst f; simp; try omega
   ·by_cases g:form=2
    ·subst g; simp; try omega
    ·by_cases j:form=4
     ·subst j; simp; try omega
     ·by_cases k:form=0
      ·subst k; simp; try omega
      ·simp [f,g,j,k])
 unfold ir;simp only;rw [Y1 h0,l,Y1 aj];refine ⟨fun d=>?_,fun d=>?_⟩
 ·rw [Y1 (fun e=>c.1 e d)]
 ·rw [Y8 (c.2 d)]
def LR (h:Hp) (op a b n form:Int) (g:Sm op):HC Xaz 72 #[dI op a b n form] h fun w h'=>w=vI (ir ⟨op,a,b,n,form⟩)/\Ext h h':=by
 refine bi (args:=[dI op a b n form]) mixed Tryz.func72 aw (oV op a b n form) ?_;unfold kG bd dl;refine bG ?_;intro h1 b1 m z1;refine az b1 (op,()) (ak ?_);refine aJ (sL h1 op g) ?_;rintro _ h2 ⟨rfl,j⟩;refine ⟨(((dG op:Nat):Int),()),rfl,ak ?_⟩;have b2:=b1.ai j aj;have e02:=m.trans j;refine ao ?_ ?_<;>intro q
 ·have q:dG op=0:=Dk q;exact ⟨by unfold ir; simp only; rw [Y8 q],e02⟩
 have q:¬ dG op=0:=GN q;refine az b2 (op,a,b,n,form,()) (ak ?_);refine iK (LQ h2 op a b n form g q) ?_;intro h3 k;have b3:=b2.ai k aj;have e03:=e02.trans k;refine ao ?_ ?_<;>intro r
 ·have r:cR (dG op) a b n=false:=by simpa using r
  exact ⟨by unfold ir; simp only; rw [Y1 q,r,Y8 rfl],e03⟩
 have r:cR (dG op) a b n=true:=by simpa using r
 have hc:=iT op;obtain ⟨e,c⟩:=bI (i:=⟨op,a,b,n,form⟩) q r _ Iff.rfl;simp only at e c;generalize ir ⟨op,a,b,n,form⟩=C at *;generalize dG op=s at *;clear r;have l:((s=12\/s=13->FA n form)/\(s≠12/\s≠13->form=0)/\(s=8->-128<=n/\n<=127)/\(s=9->0<=n/\n<=255)/\(s=11->0<=n/\n<=4095)/\(s<7->n=0))->(T.ret (vI (0:Int))) [] (fun w h'=>w=vI C/\Ext h h') h3:=fun f=>⟨by rw [e f],e03⟩
 have d:¬ ((s=12\/s=13->FA n form)/\(s≠12/\s≠13->form=0)/\(s=8->-128<=n/\n<=127)/\(s=9->0<=n/\n<=255)/\(s=11->0<=n/\n<=4095)/\(s<7->n=0))->(T.ret (vI (13:Int))) [] (fun w h'=>w=vI C/\Ext h h') h3:=fun f=>⟨by rw [c f],e03⟩
 clear e c;simp only [aC]
 repeat' (first
  | (refine bm b3 (n,()) rfl ?_; refine ak ?_)
  | (refine bm b3 (form,()) rfl ?_; refine ak ?_)
  | refine l ?_
  | refine d ?_
  | refine aM (b:=xz n form) (RH h3 n form) ?_
  | refine ao (fun q=>?_) (fun q=>?_))
 all_goals (
  clear l d;simp only [decide_eq_true_eq,decide_eq_false_iff_not,bne_iff_ne,ne_eq,bne_eq_false_iff_eq,beq_iff_eq,beq_eq_false_iff_ne,Bool.not_eq_true',Bool.not_eq_false',Js,UQ,FA] at *;omega)
def oY (x:cH) (b1 b2 a b:Bool):Bool:=(!b1 || z1 x) && ((!b2 || z2 x) && ((!a || z3 x) && (!b || z4 x)))
def Vi (s:Xaa):(ByteArray.toList s==([]:List UInt8))=decide (s=dV):=by
 have:=oL s dV
 rw [show ByteArray.toList dV=[] by rw [ByteArray.toList_eq]; rfl] at this;exact this
def QW (n m:Nat) (i:Ins) (h:Hp) (K:Xab->Hp->Prop) (hk:K (.bool (decide (i=SD))) h) :
  aZ Xaz (Sx.jk (BinOp.eql) 62 (Operand.tmp n) (Operand.tmp m) (.agg #[vI i.op,vI i.a,vI i.b,.int .i32 i.n,vI i.form]) (.agg #[vI (0:Int),vI (0:Int),vI (0:Int),.int .i32 (0:Int),vI (0:Int)])) h K :=
 JR _ _ i SD h K hk
def Rn (v:ik I O H Z.e.ah) (b1 b2 d f:Bool) :
  HC Xaz 70 #[rQ O H U Z,.bool b1,.bool b2,.bool d,.bool f] I fun w h'=>w=.bool (oY Z b1 b2 d f)/\Ext I h':=by
 refine bi (args:=[rQ O H U Z,.bool b1,.bool b2,.bool d,.bool f]) mixed Tryz.func70 aw (qQ Z.kind Z.name Z.inst.op Z.inst.a Z.inst.b Z.inst.n Z.inst.form O H U Z.e.num Z.n b1 b2 d f) ?_;unfold lA ei ax bH dZ;have hl:=v.len;have g:Ql Z.e=(decide (H=0) && decide (Z.e.num=0)):=by
  unfold Ql
  congr 1
  rw [hl]
  simp
 refine bG ?_;intro h1 bx i j;have bx:bF h1 I.size 64 (encI O H U Z):=bx;simp only [aC];unfold oY z1 z2 z3 z4;rw [g]
 repeat' (first
  | (refine bm bx (Z.n,()) rfl ?_; refine ak ?_)
  | (refine bm bx (Z.name,()) rfl ?_; refine ak ?_)
  | (refine bm bx ((O,H,U),()) rfl ?_; refine ak ?_)
  | (refine bm bx ((Z.e.num:Int),()) rfl ?_; refine ak ?_)
  | (refine bm bx (Z.inst.op,Z.inst.a,Z.inst.b,Z.inst.n,Z.inst.form,()) rfl ?_; refine ak ?_)
  | refine mU (fun k m=>QW _ _ Z.inst h1 k m) ?_
  | refine ⟨Zg Value.bool ?_,i⟩
  | refine ao (fun q=>?_) (fun q=>?_))
 all_goals (
  try simp only [Vi] at *
  simp_all [dB])
 all_goals omega
def S7 (g:Nat) (b1 b2 i j:Bool) (k:Bool->T):T :=
 T.af ⟨g,0,none⟩ [.int .i64,.string,.int .i64,.int .i64,.int .i64,.int .i32,.int .i64,.slice 66,.int .u32,.int .i64] <| fun (l:Int) (m:Xaa) (n o p a b:Int) (c:Xac) (d e:Nat) (f h:Int) =>
  bz 70 [.agg #[vI l,.string m,vI n,vI o,vI p,.int .i32 a,vI b,.slice c d e,ax f,vI h],.bool b1,.bool b2,.bool i,.bool j] false [cr] k
def iH {h:Hp} {b1 b2 d:Bool} {k:Bool->T} (bx:bF h H 64 (encI O U V Z)) (v:ik h O U Z.e.ah) (hk:∀ h',Ext h h'->k (oY Z b1 b2 l d) b c h'):S7 H b1 b2 l d k b c h:=by
 unfold S7 bz ax cr;refine az bx (Z.kind,Z.name,Z.inst.op,Z.inst.a,Z.inst.b,Z.inst.n,Z.inst.form,(O,U,V),(Z.e.num:Int),Z.n,()) (ak ?_);exact iK (Rn v b1 b2 l d) hk
def Dv (h:Hp) (n:Int):xL Xaz 74 [vI n] h (.bool (we n)):=by
 refine fh mixed Tryz.func74 aw (qe n) ?_;unfold kF bC bH dZ aK cr;refine aU (cs:=ic) (fun y m h'=>∃ k:Nat,y=(false,((2^k:Nat):Int),())/\m=9-k/\k<=9/\h'=h/\(∀ j,j<k->¬ n=((2^j:Nat):Int))) (false,(1:Int),()) 9 rfl
  ⟨0,rfl,rfl,ad,rfl,fun j a=>ad⟩ ?_
 rintro ⟨b1,o,⟨⟩⟩ m h1 ⟨k,e,p,hk,rfl,a⟩;cases e;refine ak ?_;refine aP ?_ ?_<;>intro q
 ·have b:k<=8:=by
   by_cases g:k=9
   ·subst g;exact absurd q bY
   ·omega
  refine ao ?_ ?_<;>intro r
  ·have r:n=((2^k:Nat):Int):=by simpa using r
   refine ⟨?_,rfl⟩
   have:k=0\/k=1\/k=2\/k=3\/k=4\/k=5\/k=6\/k=7\/k=8:=ad
   rcases this with rfl | rfl | rfl | rfl | rfl | rfl | rfl | rfl | rfl <;> (rw [r]; rfl)
  ·have r:¬ n=((2^k:Nat):Int):=by simpa using r
   have d:2^k<=2^8:=Nat.pow_le_pow_right ad b;have f:((2^k:Nat):Int)<=256:=by exact_mod_cast d
   have i:(0:Int)<=((2^k:Nat):Int):=Int.natCast_nonneg _;rw [wrap_i64 ad ad];have h2:(2:Int)*((2^k:Nat):Int)=((2^(k+1):Nat):Int):=by rw [Nat.pow_succ]; omega
   rw [h2];refine aG (cs:=ic) (false,((2^(k+1):Nat):Int),()) (9-(k+1)) rfl ad rfl ⟨k+1,rfl,rfl,ad,rfl,fun j l=>?_⟩
   by_cases g:j=k
   ·subst g; exact r
   ·exact a j ad
 ·have c:k=9:=by
   by_cases g:k=9
   ·exact g
   ·have d:2^k<=2^8:=Nat.pow_le_pow_right ad ad;omega
  subst c;refine ⟨?_,rfl⟩;have a0:=a 0 ad;have a1:=a 1 ad;have a2:=a 2 ad;have a3:=a 3 ad;have a4:=a 4 ad;have a5:=a 5 ad;have a6:=a 6 ad;have a7:=a 7 ad;have a8:=a 8 ad;unfold we;simp only [Nat.reducePow] at a0 a1 a2 a3 a4 a5 a6 a7 a8;rw [Y6 ad,Y6 ad,Y6 ad,Y6 ad,Y6 ad,Y6 ad,Y6 ad,Y6 ad,Y6 ad] <;> rfl
def MN (v:nu I O H Z):HC Xaz 34 #[rQ O H U Z,vI (0:Int)] I fun w h'=>w=EM (cI Z 0)/\Ext I h':=by
 refine bi (args:=[rQ O H U Z,vI (0:Int)]) mixed Tryz.func34 aw (nB Z.kind Z.name Z.inst.op Z.inst.a Z.inst.b Z.inst.n Z.inst.form O H U Z.e.num Z.n) ?_;unfold iY bd dl ax cr;have W:maxLen=9223372036854775807:=rfl;refine bG ?_;intro h1 b1 f X;have b1:bF h1 I.size 64 (encI O H U Z):=b1;have v1:=v.ai f;simp only [aC];refine fJ (cs:=px) (fun y h'=>y.1=cI Z 0/\Ext I h') ?_ ?_
 rotate_left
 ·rintro ⟨b2,⟨⟩⟩ h' ⟨D,K⟩;simp only at D;subst D;refine ak ?_;cases hr:cI Z 0
  ·exact ⟨rfl,K⟩
  ·exact ⟨rfl,K⟩
 have d:∀ (b:Bool) (h':Hp),b=cI Z 0->Ext I h'->T.again 0 [.bool b] [fun Y h'=>∃ y:qX (flat [(false,[.bool])]),Y=parts [(false,[.bool])] (eA _ y)/\(y.1=cI Z 0/\Ext I h')] (fun w h'=>w=EM (cI Z 0)/\Ext I h') h':=by
  rintro b h' rfl K;exact dE (cs:=px) (J:=fun y h'=>y.1=cI Z 0/\Ext I h') (cI Z 0,()) rfl rfl ⟨rfl,K⟩
 refine az b1 (Z.kind,()) (ak ?_)
 by_cases i:Z.kind=1
 ·refine cL (by rw [i]; rfl) ?_;have hit:cI Z 0=(dr Z.name.data.toList && z2 Z && z3 Z && z4 Z):=by unfold cI; rw [Y8 i]
  refine az b1 (Z.name,()) (ak ?_);refine aM (tZ Z.name h1 (by have:=v.name; omega)) ?_;refine ao (fun q=>?_) (fun q=>d _ _ (by rw [hit,q]; rfl) f);refine iH b1 v1.lin.vw ?_;intro h2 u;exact d _ _ (by rw [hit,q]; unfold oY; simp [Bool.and_assoc]) (f.trans u)
 refine cC (by simpa using i) ?_
 by_cases k:Z.kind=2
 ·refine cL (by rw [k]; rfl) ?_;have hit:cI Z 0=(Az Z.inst Z.e && z1 Z && z4 Z):=by unfold cI; rw [Y1 i,Y8 k]; simp
  refine az b1 (Z.inst.op,Z.inst.a,Z.inst.b,Z.inst.n,Z.inst.form,()) (ak ?_);refine bG ?_;intro h2 b2 u z2';refine bQ b2 ?_;intro h3 E j z3';have E:bF h3 h1.size 62 (pX Z.inst):=E;have m:Ext h1 h3:=u.st j (Zc _);have b13:=b1.ai m aj;rw [aC];refine az E (Z.inst.form,()) (ak ?_);refine fJ (cs:=[]) (fun _ h'=>bF h' h1.size 62 (pX { Z.inst with form:=if um Z.inst.op then 1 else Z.inst.form })/\Ext h1 h') ?_ ?_
  ·refine az E (Z.inst.op,()) (ak ?_);refine iK (Dq h3 Z.inst.op v.op) ?_;intro h4 N;have b4:=E.ai N aj;refine ao ?_ ?_<;>intro q
   ·refine ct b4 rfl (by simp [pX]) ?_;intro P L t z5;exact dE (cs:=[]) () rfl rfl ⟨by rw [Y8 q]; exact L,(m.trans N).st t (by have:=m.size; omega)⟩
   ·exact dE (cs:=[]) () rfl rfl ⟨by rw [Y1 (by rw [q]; decide)]; exact b4,m.trans N⟩
  rintro _ P ⟨L,Q⟩;refine ak ?_;have b15:=b1.ai Q aj;have v5:=v1.ai Q;refine fJ (cs:=px) (fun y h'=>y.1=(decide (Z.inst.form=0) && decide (ir { Z.inst with form:=if um Z.inst.op then 1 else Z.inst.form }=0) && (z1 Z && z4 Z))/\Ext P h') ?_ ?_
  ·refine ao ?_ ?_<;>intro q
   ·have q:Z.inst.form=0:=by simpa using q
    refine az L (Z.inst.op,Z.inst.a,Z.inst.b,Z.inst.n,((if um Z.inst.op then (1:Int) else Z.inst.form):Int),()) (ak ?_);refine aJ (LR P Z.inst.op Z.inst.a Z.inst.b Z.inst.n (if um Z.inst.op then 1 else Z.inst.form) v.op) ?_;rintro _ V ⟨rfl,o⟩;refine ⟨(ir { Z.inst with form:=if um Z.inst.op then 1 else Z.inst.form },()),rfl,ak ?_⟩;refine ao ?_ ?_<;>intro r
    ·have r:ir { Z.inst with form:=if um Z.inst.op then 1 else Z.inst.form }=0:=by simpa using r
     refine iH (b15.ai o aj) (v5.ai o).lin.vw ?_;intro h7 B;exact dE (cs:=px) (oY Z true false false true,()) rfl rfl ⟨by rw [Y4 q,Y4 r]; rfl,o.trans B⟩
    ·have r:¬ ir { Z.inst with form:=if um Z.inst.op then 1 else Z.inst.form }=0:=by simpa using r
     exact dE (cs:=px) (false,()) rfl rfl ⟨by rw [Y4 q,Y6 r]; rfl,o⟩
   ·have q:¬ Z.inst.form=0:=by simpa using q
    exact dE (cs:=px) (false,()) rfl rfl ⟨by rw [Y6 q]; rfl,Ch.refl _ _⟩
  rintro ⟨b10,⟨⟩⟩ V ⟨D,o⟩;simp only at D;subst D;refine ak ?_;have b6:=L.ai o aj;have b16:=b15.ai o aj;have v6:=v5.ai o;refine az b6 (Z.inst.op,()) (ak ?_);refine iK (Kz V Z.inst.op v.op) ?_;intro h7 B;have b7:=b6.ai B aj;have b17:=b16.ai B aj;have v7:=v6.ai B;have e07:=((f.trans Q).trans o).trans B;have hchk:Hq Z.inst.op=true->(decide (Z.inst.form=0) && decide (ir { Z.inst with form:=if um Z.inst.op then 1 else Z.inst.form }=0) && (z1 Z && z4 Z) && (decide (Z.inst.n=0) && oR none Z.e.ah))=cI Z 0:=by
   intro s;rw [hit];unfold Az;rw [Y8 s]
   by_cases C:Z.inst.form=0
   ·rw [Y4 C,C]
    by_cases c0:ir { Z.inst with form:=if um Z.inst.op then 1 else 0 }=0
    ·have hs:=(FD c0).1;simp only at hs;rw [Y4 c0,Y4 hs];simp only [Bool.true_and]
     ac_rfl
    ·rw [Y6 c0]
     simp
   ·rw [Y6 C]
    simp
  have z:Hq Z.inst.op=false->(decide (Z.inst.form=0) && decide (ir { Z.inst with form:=if um Z.inst.op then 1 else Z.inst.form }=0) && (z1 Z && z4 Z) && z3 Z)=cI Z 0:=by
   intro s;rw [hit];unfold Az;rw [Y1 (show ¬ (Hq Z.inst.op=true) by rw [s]; decide)];have R:um Z.inst.op=false:=by
    unfold Hq at s;unfold um;rw [decide_eq_false_iff_not] at s ⊢;omega
   rw [Y1 (show ¬ (um Z.inst.op=true) by rw [R]; decide)]
   by_cases C:Z.inst.form=0
   ·rw [Y4 C];have hi:({ Z.inst with form:=Z.inst.form }:Ins)=Z.inst:=rfl;rw [hi]
    by_cases c0:ir Z.inst=0
    ·have hs:=(FD c0).1;rw [Y4 c0,Y4 hs];unfold z3;simp only [Bool.true_and]
     ac_rfl
    ·rw [Y6 c0]
     simp
   ·rw [Y6 C]
    simp
  generalize (decide (Z.inst.form=0) && decide (ir { Z.inst with form:=if um Z.inst.op then 1 else Z.inst.form }=0) && (z1 Z && z4 Z))=G at *;refine ao ?_ ?_<;>intro s
  ·have hchk:=hchk s;refine ao (fun g=>?_) (fun g=>d _ _ (by rw [<- hchk,g]; rfl) e07);refine az b7 (Z.inst.n,()) (ak ?_);refine ao ?_ ?_<;>intro r
   ·have r:Z.inst.n=0:=by simpa using r
    refine az b17 ((O,H,U),(Z.e.num:Int),()) (ak ?_);refine aJ (vh (c:=U) v7.lin.vw (by have:=v.lin.many; omega) v.lin.names) ?_;rintro _ h8 ⟨rfl,S⟩;refine ⟨(oR none Z.e.ah,()),rfl,?_⟩;exact d _ _ (by rw [<- hchk,g,Y4 r]; simp) (e07.trans S)
   ·have r:¬ Z.inst.n=0:=by simpa using r
    exact d _ _ (by rw [<- hchk,Y6 r]; simp) e07
  ·have hchk:=z s;refine ao (fun g=>?_) (fun g=>d _ _ (by rw [<- hchk,g]; rfl) e07);refine iH b17 v7.lin.vw ?_;intro h8 S;exact d _ _ (by rw [<- hchk,g]; unfold oY; simp) (e07.trans S)
 refine cC (by simpa using k) ?_
 by_cases j:Z.kind=3
 ·refine cL (by rw [j]; rfl) ?_;have hit:cI Z 0=(we Z.n && z1 Z && z2 Z && z3 Z):=by unfold cI; rw [Y1 i,Y1 k,Y8 j]
  refine az b1 (Z.n,()) (ak ?_);refine aM (Dv h1 Z.n) ?_;refine ao (fun q=>?_) (fun q=>d _ _ (by rw [hit,q]; rfl) f);refine iH b1 v1.lin.vw ?_;intro h2 u;exact d _ _ (by rw [hit,q]; unfold oY; simp [Bool.and_assoc]) (f.trans u)
 refine cC (by simpa using j) ?_
 by_cases A:Z.kind=4
 ·refine cL (by rw [A]; rfl) ?_;have hit:cI Z 0=(z1 Z && z2 Z && z3 Z && z4 Z):=by unfold cI; rw [Y1 i,Y1 k,Y1 j,Y8 A]; simp
  refine iH b1 v1.lin.vw ?_;intro h2 u;exact d _ _ (by rw [hit]; unfold oY; simp [Bool.and_assoc]) (f.trans u)
 refine cC (by simpa using A) ?_
 by_cases t:Z.kind=5
 ·refine cL (by rw [t]; rfl) ?_;exact d _ _ (by unfold cI; rw [Y1 i,Y1 k,Y1 j,Y1 A,Y8 t]; simp) f
 refine cC (by simpa using t) ?_
 by_cases F:Z.kind=6
 ·refine cL (by rw [F]; rfl) ?_;exact d _ _ (by unfold cI; rw [Y1 i,Y1 k,Y1 j,Y1 A,Y1 t,Y8 F]; simp) f
 refine cC (by simpa using F) ?_
 by_cases M:Z.kind=7
 ·refine cL (by rw [M]; rfl) ?_;exact d _ _ (by unfold cI; rw [Y1 i,Y1 k,Y1 j,Y1 A,Y1 t,Y1 F,Y8 M]; simp) f
 refine cC (by simpa using M) ?_;exact d _ _ (by unfold cI; rw [Y1 i,Y1 k,Y1 j,Y1 A,Y1 t,Y1 F,Y1 M]) f
def O0 (v:nu I O H Z):HC Xaz 34 #[rQ O H U Z,vI (1:Int)] I fun w h'=>w=EM (cI Z 1)/\Ext I h':=by
 refine bi (args:=[rQ O H U Z,vI (1:Int)]) mixed Tryz.func34 aw (mn Z.kind Z.name Z.inst.op Z.inst.a Z.inst.b Z.inst.n Z.inst.form O H U Z.e.num Z.n) ?_;unfold iZ bd ax cr;have L:maxLen=9223372036854775807:=rfl;refine bG ?_;intro h1 b1 f M;have b1:bF h1 I.size 64 (encI O H U Z):=b1;have v1:=v.ai f;simp only [aC];refine fJ (cs:=px) (fun y h'=>y.1=cI Z 1/\Ext I h') ?_ ?_
 rotate_left
 ·rintro ⟨b2,⟨⟩⟩ h' ⟨t,A⟩;simp only at t;subst t;refine ak ?_;cases X:cI Z 1
  ·exact ⟨rfl,A⟩
  ·exact ⟨rfl,A⟩
 have d:∀ (b:Bool) (h':Hp),b=cI Z 1->Ext I h'->T.again 0 [.bool b] [fun N h'=>∃ y:qX (flat [(false,[.bool])]),N=parts [(false,[.bool])] (eA _ y)/\(y.1=cI Z 1/\Ext I h')] (fun w h'=>w=EM (cI Z 1)/\Ext I h') h':=by
  rintro b h' rfl A;exact dE (cs:=px) (J:=fun y h'=>y.1=cI Z 1/\Ext I h') (cI Z 1,()) rfl rfl ⟨rfl,A⟩
 refine az b1 (Z.kind,()) (ak ?_)
 by_cases i:Z.kind=1
 ·refine cL (by rw [i]; rfl) ?_;have hit:cI Z 1=(dr Z.name.data.toList && z2 Z && z3 Z && z4 Z):=by unfold cI; rw [Y8 i]
  refine az b1 (Z.name,()) (ak ?_);refine aM (tZ Z.name h1 (by have:=v.name; omega)) ?_;refine ao (fun q=>?_) (fun q=>d _ _ (by rw [hit,q]; rfl) f);refine iH b1 v1.lin.vw ?_;intro h2 g;exact d _ _ (by rw [hit,q]; unfold oY; simp [Bool.and_assoc]) (f.trans g)
 refine cC (by simpa using i) ?_
 by_cases k:Z.kind=2
 ·refine cL (by rw [k]; rfl) ?_;have hit:cI Z 1=(false):=by unfold cI; rw [Y1 i,Y8 k]; simp
  refine az b1 (Z.inst.op,Z.inst.a,Z.inst.b,Z.inst.n,Z.inst.form,()) (ak ?_);refine bG ?_;intro h2 b2 g P;refine bQ b2 ?_;intro h3 u j Q;have u:bF h3 h1.size 62 (pX Z.inst):=u;have m:Ext h1 h3:=g.st j (Zc _);have b13:=b1.ai m aj;rw [aC];refine az u (Z.inst.form,()) (ak ?_);refine fJ (cs:=[]) (fun _ h'=>bF h' h1.size 62 (pX { Z.inst with form:=if um Z.inst.op then 1 else Z.inst.form })/\Ext h1 h') ?_ ?_
  ·refine az u (Z.inst.op,()) (ak ?_);refine iK (Dq h3 Z.inst.op v.op) ?_;intro Y E;have b4:=u.ai E aj;refine ao ?_ ?_<;>intro q
   ·refine ct b4 rfl (by simp [pX]) ?_;intro K F o z5;exact dE (cs:=[]) () rfl rfl ⟨by rw [Y8 q]; exact F,(m.trans E).st o (by have:=m.size; omega)⟩
   ·exact dE (cs:=[]) () rfl rfl ⟨by rw [Y1 (by rw [q]; decide)]; exact b4,m.trans E⟩
  rintro _ K ⟨F,G⟩;refine ak ?_;have b15:=b1.ai G aj;have v5:=v1.ai G;refine fJ (cs:=px) (fun y h'=>y.1=false/\Ext K h') (dE (cs:=px) (false,()) rfl rfl ⟨rfl,Ch.refl _ _⟩) ?_;rintro ⟨R,⟨⟩⟩ S ⟨t,B⟩;simp only at t;subst t;refine ak ?_;have b6:=F.ai B aj;have b16:=b15.ai B aj;have v6:=v5.ai B;refine az b6 (Z.inst.op,()) (ak ?_);refine iK (Kz S Z.inst.op v.op) ?_;intro h7 C;have b7:=b6.ai C aj;have b17:=b16.ai C aj;have v7:=v6.ai C;have e07:=((f.trans G).trans B).trans C;refine ao ?_ ?_<;>intro V
  ·exact cC rfl (d _ _ (by rw [hit]) e07)
  ·exact cC rfl (d _ _ (by rw [hit]) e07)
 refine cC (by simpa using k) ?_
 by_cases j:Z.kind=3
 ·refine cL (by rw [j]; rfl) ?_;have hit:cI Z 1=(we Z.n && z1 Z && z2 Z && z3 Z):=by unfold cI; rw [Y1 i,Y1 k,Y8 j]
  refine az b1 (Z.n,()) (ak ?_);refine aM (Dv h1 Z.n) ?_;refine ao (fun q=>?_) (fun q=>d _ _ (by rw [hit,q]; rfl) f);refine iH b1 v1.lin.vw ?_;intro h2 g;exact d _ _ (by rw [hit,q]; unfold oY; simp [Bool.and_assoc]) (f.trans g)
 refine cC (by simpa using j) ?_
 by_cases s:Z.kind=4
 ·refine cL (by rw [s]; rfl) ?_;exact d _ _ (by unfold cI; rw [Y1 i,Y1 k,Y1 j,Y8 s]; simp) f
 refine cC (by simpa using s) ?_
 by_cases o:Z.kind=5
 ·refine cL (by rw [o]; rfl) ?_;have hit:cI Z 1=(decide (-128<=Z.n) && decide (Z.n<=255) && z1 Z && z2 Z && z3 Z):=by unfold cI; rw [Y1 i,Y1 k,Y1 j,Y1 s,Y8 o]; simp
  refine az b1 (Z.n,()) (ak ?_);refine ao (fun q=>?_) (fun q=>d _ _ (by rw [hit,show decide (-128<=Z.n)=false from q]; rfl) f);refine az b1 (Z.n,()) (ak ?_);refine ao (fun r=>?_) (fun r=>d _ _ (by rw [hit,r]; simp) f);refine iH b1 v1.lin.vw ?_;intro h2 g;exact d _ _ (by rw [hit,r,show decide (-128<=Z.n)=true from q]; unfold oY; simp [Bool.and_assoc]) (f.trans g)
 refine cC (by simpa using o) ?_
 by_cases z:Z.kind=6
 ·refine cL (by rw [z]; rfl) ?_;have hit:cI Z 1=(oR none Z.e.ah && z1 Z && z2 Z && z4 Z):=by unfold cI; rw [Y1 i,Y1 k,Y1 j,Y1 s,Y1 o,Y8 z]; simp
  refine az b1 ((O,H,U),(Z.e.num:Int),()) (ak ?_);refine aJ (vh (c:=U) v1.lin.vw (by have:=v.lin.many; omega) v.lin.names) ?_;rintro _ h2 ⟨rfl,g⟩;refine ⟨(oR none Z.e.ah,()),rfl,ak ?_⟩;refine ao (fun q=>?_) (fun q=>d _ _ (by rw [hit,q]; rfl) (f.trans g));refine iH (b1.ai g aj) (v1.ai g).lin.vw ?_;intro h3 W;exact d _ _ (by rw [hit,q]; unfold oY; simp [Bool.and_assoc]) ((f.trans g).trans W)
 refine cC (by simpa using z) ?_
 by_cases D:Z.kind=7
 ·refine cL (by rw [D]; rfl) ?_;have hit:cI Z 1=(decide (0<=Z.n) && decide (Z.n<=1048576) && z1 Z && z2 Z && z3 Z):=by unfold cI; rw [Y1 i,Y1 k,Y1 j,Y1 s,Y1 o,Y1 z,Y8 D]; simp
  refine az b1 (Z.n,()) (ak ?_);refine ao (fun q=>?_) (fun q=>d _ _ (by rw [hit,show decide (0<=Z.n)=false from q]; rfl) f);refine az b1 (Z.n,()) (ak ?_);refine ao (fun r=>?_) (fun r=>d _ _ (by rw [hit,r]; simp) f);refine iH b1 v1.lin.vw ?_;intro h2 g;exact d _ _ (by rw [hit,r,show decide (0<=Z.n)=true from q]; unfold oY; simp [Bool.and_assoc]) (f.trans g)
 refine cC (by simpa using D) ?_;exact d _ _ (by unfold cI; rw [Y1 i,Y1 k,Y1 j,Y1 s,Y1 o,Y1 z,Y1 D]) f
def Df {c k:Nat} (v:nu I O H Z) (hk:k<2):HC Xaz 34 #[rQ O H c Z,vI (k:Int)] I fun w h'=>w=EM (cI Z k)/\Ext I h':=by
 have:k=0\/k=1:=ad
 rcases this with rfl | rfl
 ·exact MN v
 ·exact O0 v
def HW (s:Xaa):List Xab:=[.string s]
abbrev SN (h:Hp) (b:Nat) (p:Xac) (l c:Nat) (xs:List Xaa):Prop:=SL h b 9 1 p l c (xs.map HW)
def SN.len (s:SN I H O U V Y):U=Y.length:=by
 have:=s.1
 rwa [YY] at this
def SN.cell (s:SN I H O U V Y) {i:Nat} (hi:i<Y.length):∃ a,O=some a/\aI I (a.add (i*1)) 0 [.string Y[i]]:=by
 obtain ⟨a,d,hc⟩:=SL.cells s (i:=i) (by rw [YY]; exact hi);refine ⟨a,d,?_⟩;rw [Y7] at hc;exact hc
def Xe (D:List Xaa) (s:Xaa) (i:Nat) (hi:i<D.length):gz (D.take (i+1)) s=(gz (D.take i) s || decide (D[i]=s)):=by
 unfold gz;rw [Y2 hi,List.any_append]
 simp
def Ea (v:SN I H O U V Y) (hl:Y.length<=2^61) (s:Xaa):xL Xaz 38 [.slice O U V,.string s] I (.bool (gz Y s)):=by
 refine fh mixed Tryz.func38 aw (jN O U V s) ?_;unfold iL aY bj bn ay bH dZ aK cr;have n:=SN.len v;refine aU (cs:=ic) (fun y m h'=>∃ i:Nat,y.2.1=(i:Int)/\m=Y.length-i/\i<=Y.length/\h'=I/\gz (Y.take i) s=false) (false,(0:Int),()) Y.length rfl
  ⟨0,rfl,rfl,ad,rfl,rfl⟩ ?_
 rintro ⟨b2,g,⟨⟩⟩ m h' ⟨i,hi,rfl,e,rfl,hn⟩;simp only at hi;subst hi;refine ak ?_;refine aP ?_ ?_<;>intro q
 ·have d:i<Y.length:=ad
  obtain ⟨a,f,hc⟩:=SN.cell v d;refine bP f ?_;rw [cB i];refine av (Y[i],()) hc (ak ?_);have hs:=Xe Y s i d;rw [oL];refine ao ?_ ?_<;>intro r
  ·have r:=Y3 r;refine ⟨Zg Value.bool ?_,rfl⟩;unfold gz;exact (ay9.2 ⟨_,Y5 d,Y4 r⟩).symm
  ·rw [hn,r] at hs;refine aG (cs:=ic) (b2,((i+1:Nat):Int),()) (Y.length-(i+1)) rfl ad (by rw [wrap_i64 ad ad]; rfl) ?_;exact ⟨i+1,rfl,rfl,ad,rfl,hs⟩
 ·have:i=Y.length:=ad
  subst this;rw [ZA] at hn;exact ⟨by rw [hn],rfl⟩
def eO (l:List cH):List Xaa:=(l.filter fun x=>decide (x.kind=1)).map (·.name)
def xY (l:List cH) (i:Nat) (hi:i<l.length):eO (l.take (i+1))=eO (l.take i)++if l[i].kind=1 then [l[i].name] else []:=by
 unfold eO;rw [Y2 hi,List.filter_append,Za]
 congr 1
 by_cases hk:l[i].kind=1 <;> simp [hk]
variable {j:Xac->Nat->Nat->T}
def SN.push {h:Hp} (v:SN h H O U V Y) (x:Xaa) (hl:Y.length<=2^40) (a:H<=h.size) 
  (hk:∀ p' c' h',SN h' H p' (U+1) c' (Y++[x])->Ch (aF O) h h'->j p' (U+1) c' b c h') :
  T.eN Xaz (Instr.buildSlice 28 1 #[(0,.string x)]) false [(false,[.slice 0])] (fun q m d=>T.eN Xaz (Builtin.append_ #[28,28] 28 #[.slice O U V,.slice q m d]) false [(false,[.slice 0])] j) b c h:=by
 have n:=SN.len v;refine kg (vs:=[.string x]) y5 QY rfl ad ad aw rfl rfl v a ad ad ?_;intro p' c' h' e ch _;refine hk p' c' h' ?_ ch;unfold SN;rw [Za];exact e
def SN.ext {a b':Hp} (e:Ext I a) (v:SN a H O U V Y) (d:I.size<=H) (k:Ch (aF O) a b'):Ext I b' :=
 Ch.trans e k (fun i hi hl=>by have:=(Ob.SL.cj v i hi).1; omega)
def pP {c:Nat} {us:List cH} (v:zV I O H us) (u:us.length<=2^20) :
  HC Xaz 39 #[.slice O H c] I fun w h'=>∃ p' l' c',w=.slice p' l' c'/\SN h' I.size p' l' c' (eO us)/\Ext I h':=by
 refine bi (args:=[.slice O H c]) mixed Tryz.func39 aw (ox O H c) ?_;unfold jR aY bj bn ay aT aS aK dp;have n:=v.len;refine aU (cs:=uC) (fun y m h'=>∃ i:Nat,y.2.1=(i:Int)/\m=us.length-i/\i<=us.length/\Ext I h'/\(eO (us.take i)).length<=i/\SN h' I.size y.1.1 y.1.2.1 y.1.2.2 (eO (us.take i))) ((none,0,0),(0:Int),()) us.length rfl
  ⟨0,rfl,rfl,ad,Ch.refl _ _,by simp [eO],SL.nil _ _ _ _⟩ ?_
 rintro ⟨⟨e,d,f⟩,z,⟨⟩⟩ m h1 ⟨i,hi,rfl,g,a,j,s⟩;simp only at hi s;subst hi;refine ak ?_;have hz:=a.size;refine aP ?_ ?_<;>intro q
 ·have b:i<us.length:=ad
  obtain ⟨A,pp,B,C,rfl',hc,k⟩:=(v.ai a).cells i b;have ht:=xY us i b;generalize us[i]=x at hc k ht;refine dO (aH rfl' ?_);rw [cB i];refine av (x.kind,()) ⟨hc.1,trivial⟩ (ak ?_);refine ao ?_ ?_<;>intro r
  ·have r:x.kind=1:=by simpa using r
   rw [Y8 r] at ht;refine dO (aH rfl' ?_);refine av (x.name,()) ⟨by rw [add_add]; exact hc.2.1,trivial⟩ ?_;refine ak ?_;refine SN.push s x.name ad ad ?_;intro p' c' h2 o t;refine aG (cs:=uC) ((p',d+1,c'),((i+1:Nat):Int),()) (us.length-(i+1)) rfl ad (by rw [wrap_i64 ad ad]; rfl) ?_;exact ⟨i+1,rfl,rfl,ad,SN.ext a s (Zc _) t,by rw [ht,Y0]; simp; omega,by rw [ht]; exact o⟩
  ·have r:¬ x.kind=1:=by simpa using r
   rw [Y1 r,Z2] at ht;refine aG (cs:=uC) ((e,d,f),((i+1:Nat):Int),()) (us.length-(i+1)) rfl ad (by rw [wrap_i64 ad ad]; rfl) ?_;exact ⟨i+1,rfl,rfl,ad,a,by rw [ht]; omega,by rw [ht]; exact s⟩
 ·have:i=us.length:=ad
  subst this;rw [ZA] at s;exact ⟨e,d,f,rfl,s,a⟩
def RJ {L:Lp} {K:Xab->Hp->Prop} {h:Hp} {k:Xac->Nat->Nat->T} {b b':Nat} {p:Xac} {l c:Nat} {D:List Xaa} (s:SN h b p l c D) {q:Xac} {m d:Nat} {us:List Xaa} (v:SN h b' q m d us)
  (hl:l+m<=2^40) (F:b<=h.size)
  (hk:∀ p' c' h',SN h' b p' (l+m) c' (D++us)->Ch (aF p) h h'->k p' (l+m) c' L K h') :
  T.eN Xaz (Builtin.append_ #[28,28] 28 #[.slice p l c,.slice q m d]) false [(false,[.slice 0])] k L K h:=by
 obtain ⟨i,hi,G,e,o⟩:=jV QY;refine df ?_;cases q with
 | none =>
  have h1:us=[]:=by
   have:=v.2.2.2
   simpa using this
  have h0:m=0:=by have:=SN.len v; rw [h1] at this; exact this
  have H:d=0:=v.2.2.1;subst h0 h1 H;have r:l<=c:=by
   cases p with
   | none =>
    have h2:=s.2.2.2;have h3:=s.1;rw [h2] at h3;simp at h3;omega
   | some a =>
    obtain ⟨g,u,rest,rfl,w,j,_⟩:=s.2.2;exact j.1
  simp [Builtin.append_,an,aE y5,bR hi,cJ hi,Builtin.lenOf,Builtin.firstCells,r];have f:∃ p' l' c',Value.slice p l c=.slice p' l' c'/\k p' l' c' L K h:=⟨p,l,c,rfl,by simpa using hk p c h (by simpa using s) (Ch.refl _ _)⟩
  cases p with
  | none=>exact f
  | some a=>exact f
 | some a =>
  have hc:aI h a 0 (us.map HW).flatten:=by
   obtain ⟨g,u,rest,rfl,w,j,n,M⟩:=v.2.2;refine n.cells _ ?_;rw [bh9,bp9]
  have A:(us.map HW).flatten.all da=true:=by
   rw [Zx];intro x I;obtain ⟨y,B,C⟩:=bn9.1 I;obtain ⟨z,_,rfl⟩:=Y9.1 B;rw [Zh.1 C] <;> rfl
  refine je y5 hi G (by rw [e]; rfl) (by rw [e]; exact s) (ys:=us.map HW) (by rw [YY]; exact SN.len v) (fun y B=>?_) hc A (by rw [o]; omega) ad F ?_
  ·obtain ⟨t,_,rfl⟩:=Y9.1 B;rw [e] <;> rfl
  ·intro p' c' h' E k' J;rw [e,<- Za] at E;exact ⟨_,_,_,rfl,hk p' c' h' E k'⟩
def fW (u:bU):List Xaa:=eO u.text++eO u.data++u.bf.map (·.1)
def wI (l:List cH):(eO l).length<=l.length:=by
 unfold eO;rw [YY];exact ao9 _ _
variable {e f g h m:cd}
def Ov (v:jU I e f g h a) (h1:a.text.length<=2^20) (h2:a.data.length<=2^20) (X:a.bf.length<=2^20) :
  HC Xaz 11 #[qp e f g h] I fun w h'=>∃ p' l' c',w=.slice p' l' c'/\SN h' I.size p' l' c' (fW a)/\Ext I h':=by
 refine bi (args:=[qp e f g h]) mixed Tryz.func11 aw (rM e.p e.l e.c f.p f.l f.c g.p g.l g.c h.p h.l h.c) ?_;unfold mw aY bj bn ay bz aT aK dp;refine bG ?_;intro r b1 t z1;have b1:bF r I.size 30 [e.v,f.v,g.v,h.v]:=b1;simp only [aC];refine az b1 ((e.p,e.l,e.c),()) (ak ?_);refine az b1 ((f.p,f.l,f.c),()) (ak ?_);refine aJ (pP (c:=e.c) (v.text.ai t) h1) ?_;rintro _ Y ⟨p8,B,l10,rfl,M,x⟩;refine ⟨((p8,B,l10),()),rfl,ak ?_⟩;have b2:=b1.ai x aj;refine ⟨⟨b2.cells _ rfl,trivial⟩,?_⟩;refine aJ (pP (c:=f.c) (v.data.ai (t.trans x)) h2) ?_;rintro _ O ⟨C,n,D,rfl,o,z⟩;refine ⟨((C,n,D),()),rfl,ak ?_⟩;have b3:=b2.ai z aj;have q1:=t.size;have q2:=x.size;have q3:=z.size;refine ⟨⟨b3.cells _ rfl,trivial⟩,?_⟩;have j:SN O r.size p8 B l10 (eO a.text):=M.ai z aj;have n8:=SN.len M;have n11:=SN.len o;have k8:=wI a.text;have k11:=wI a.data;have e03:=(t.trans x).trans z;refine RJ j o ad ad ?_;intro E F Z G H;have e4:=SN.ext e03 j ad H;have P:I.size∉aF p8:=fun hi=>by have:=(Ob.SL.cj j _ hi).1; omega
 have b4:=b3.ai H P;refine ⟨⟨b4.cells _ rfl,b4.cells _ rfl,trivial⟩,?_⟩;have nc:=v.bf.len;have Q:∀ i,i<a.bf.length->eO a.text++eO a.data++(a.bf.take (i+1)).map (·.1)=(eO a.text++eO a.data++(a.bf.take i).map (·.1))++[(a.bf.getD i (dV,Gs)).1]:=by
  intro i hi;rw [Y2 hi,Za,<- Zp,ZS,YZ hi] <;> rfl
 refine aU (cs:=uC) (fun y m h'=>∃ i:Nat,y.2.1=(i:Int)/\m=a.bf.length-i/\i<=a.bf.length/\(Ext I h'/\r.size<=h'.size)/\bF h' I.size 30 [e.v,f.v,g.v,h.v]/\SN h' r.size y.1.1 y.1.2.1 y.1.2.2 (eO a.text++eO a.data++(a.bf.take i).map (·.1))) ((E,B+n,F),(0:Int),()) a.bf.length rfl
  ⟨0,rfl,rfl,ad,⟨e4,by have:=H.size; omega⟩,b4,by simpa using G⟩ ?_
 rintro ⟨⟨p1,N,R⟩,n4,⟨⟩⟩ m g5 ⟨i,hi,rfl,S,⟨A,U⟩,J,s⟩;simp only at hi s;subst hi;refine ak ?_;have hz:=A.size;refine az J ((g.p,g.l,g.c),()) (ak ?_);refine aP ?_ ?_<;>intro q
 ·have k:i<a.bf.length:=ad
  refine az J ((g.p,g.l,g.c),()) (ak ?_);obtain ⟨aa,pp,ll,cc,rfl',hc,va,vn⟩:=(v.bf.ai A).cells i k;refine dO (aH rfl' ?_);rw [cB i];refine av (a.bf[i].1,()) ⟨hc.1,trivial⟩ (ak ?_);have ns:=SN.len s;have V:(a.bf.getD i (dV,Gs)).1=a.bf[i].1:=by
   rw [ZS,YZ k] <;> rfl
  refine SN.push s _ (by simp only [List.length_append,List.length_map,List.length_take]; omega) U ?_;intro p' c' h2 W K;have L:I.size∉aF p1:=fun hi=>by have:=(Ob.SL.cj s _ hi).1; omega
  refine aG (cs:=uC) ((p',N+1,c'),((i+1:Nat):Int),()) (a.bf.length-(i+1)) rfl ad (by rw [wrap_i64 ad ad]; rfl) ?_;exact ⟨i+1,rfl,rfl,ad,⟨SN.ext A s ad K,by have:=K.size; omega⟩,J.ai K L,by rw [Q i k,V]; exact W⟩
 ·have:i=a.bf.length:=ad
  subst this;rw [ZA] at s;exact ⟨p1,N,R,rfl,Sx.SL.mono s ad,A⟩
theorem uP {h:Hp} {a:Xax}:∀ (b:List Xaa) (k:Nat),(∀ i,(hi:i<b.length)->aI h (a.add ((k+i)*1)) 0 [.string b[i]])->aI h a k (b.map HW).flatten
 | [],_,_=>trivial
 | x::b,k,hc=>by
  refine ⟨?_,?_⟩
  ·have:=(hc 0 aj).1
   rw [add_add] at this;simpa using this
  ·refine uP b (k+1) fun i hi=>?_
   have:=hc (i+1) (by simpa using hi)
   rw [show k+1+i=k+(i+1) from ad];simpa using this
def Mg.flat {h:Hp} {a:Xax} (v:Mg h (some a) H Y):aI h a 0 (Y.map HW).flatten :=
 uP Y 0 fun i hi=>by
  obtain ⟨b,c,hc,_⟩:=v.cells i hi;cases c;rw [ZH];exact hc
def SJ {h:Hp} (s:SL h H 9 1 O 0 U []) {us:List Xaa} (v:Mg h d V us)
  (hl:us.length<=2^40) (w:H<=h.size)
  (hk:∀ p' c' h',SN h' H p' V c' us->Ch (aF O) h h'->j p' V c' b c h') :
  T.eN Xaz (Builtin.append_ #[28,28] 28 #[.slice O 0 U,.slice d V i]) false [(false,[.slice 0])] j b c h:=by
 obtain ⟨e,hi,A,f,l⟩:=jV QY;have hlen:=v.len;refine df ?_;cases d with
 | none =>
  have h1:us=[]:=by
   cases us with
   | nil=>rfl
   | cons t us=>obtain ⟨a,B,_⟩:=v.cells 0 aj; cases B
  have h0:V=0:=by rw [h1] at hlen; exact hlen
  subst h0 h1;have g:∃ p' l' c',Value.slice O 0 U=.slice p' l' c'/\j p' l' c' b c h:=⟨O,0,U,rfl,hk O U h s (Ch.refl _ _)⟩
  cases O with
  | none =>
   have hc:U=0:=s.2.2.1;subst hc;simp [Builtin.append_,an,aE y5,bR hi,Builtin.lenOf,Builtin.firstCells,storeCells];exact g
  | some a =>
   simp [Builtin.append_,an,aE y5,bR hi,Builtin.lenOf,Builtin.firstCells,storeCells];exact g
 | some a =>
  have n:(us.map HW).flatten.all da=true:=by
   rw [Zx];intro x C;obtain ⟨y,o,r⟩:=bn9.1 C;obtain ⟨z,_,rfl⟩:=Y9.1 o;rw [Zh.1 r] <;> rfl
  refine je y5 hi A (by rw [f]; rfl) (by rw [f]; exact s) (ys:=us.map HW) (by rw [YY]; exact hlen) (fun y o=>?_) v.flat n (by rw [l]; omega) ad w ?_
  ·obtain ⟨t,_,rfl⟩:=Y9.1 o;rw [f] <;> rfl
  ·intro p' c' h' u k' D;rw [f] at u;rw [ZH] at u ⊢;exact ⟨_,_,_,rfl,hk p' c' h' u k'⟩
structure CU (h0:Hp) (a b c d:cd) (h:Hp):Prop where
 b1:bF h h0.size 30 [a.v,b.v,c.v,d.v]
 b2:bF h (h0.size+1) 30 zU
 ext:Ext h0 h
section
variable {h0 h h':Hp} {a b c d:cd}
def CU.ai (s:CU h0 a b c d h) (e:Ext h h'):CU h0 a b c d h':=⟨s.b1.ai e aj,s.b2.ai e aj,s.ext.trans e⟩
def CU.c0 (s:CU h0 a b c d h):aI h ⟨h0.size,0,none⟩ 0 [a.v]:=s.b1.cells _ rfl
def CU.c1 (s:CU h0 a b c d h):aI h (Addr.add ⟨h0.size,0,none⟩ 1) 0 [b.v]:=by rw [aC]; exact s.b1.cells _ rfl
def CU.c3 (s:CU h0 a b c d h):aI h (Addr.add ⟨h0.size,0,none⟩ 3) 0 [d.v]:=by rw [aC]; exact s.b1.cells _ rfl
def CU.sz (s:CU h0 a b c d h):h0.size+2<=h.size:=by have:=s.b2.lt; omega
end
def P1 (m d R:Xax):T :=
   T.loop [aK] [vI (0:Int)] <| fun (a:Int) =>
   T.af (m.add 2) [.slice 88] <| fun (S:Xac) (w U:Nat) =>
   bn a w
   (T.af (d.add 2) [.slice 88] <| fun (e:Xac) (f g:Nat) =>
   T.af (m.add 2) [.slice 88] <| fun (b:Xac) (c h:Nat) =>
   T.need (dF a c) <|
   T.aR b <| fun (n:Xax) =>
   T.af (n.add (ay a 3)) [.string] <| fun (o:Xaa) =>
   T.af (m.add 2) [.slice 88] <| fun (p:Xac) (q i:Nat) =>
   T.need (dF a q) <|
   T.aR p <| fun (r:Xax) =>
   T.af ((r.add (ay a 3)).add 1) [.slice 66,.int .u32] <| fun (j:Xac) (k l:Nat) (s:Int) =>
   bz 57 [.agg #[.slice j k l,ax s]] false [(true,[.slice 66,.int .u32])] <| fun (x:Xac) (t y:Nat) (z:Int) =>
   T.aD [((m.add 2),[.slice p q i]),((n.add (ay a 3)),[.string o]),((m.add 2),[.slice b c h]),((d.add 2),[.slice e f g])] <|
   bX (Instr.buildSlice 27 1 #[(0,.agg #[.string o,.slice x t y,ax z])]) false [dp] <| fun (A:Xac) (B u:Nat) =>
   T.aD [(((r.add (ay a 3)).add 1),[.slice j k l,ax s]),((m.add 2),[.slice p q i]),((n.add (ay a 3)),[.string o]),((m.add 2),[.slice b c h]),((d.add 2),[.slice e f g])] <|
   bX (Builtin.append_ #[27,27] 27 #[.slice e f g,.slice A B u]) false [dp] <| fun (C:Xac) (D E:Nat) =>
   T.aD [(((r.add (ay a 3)).add 1),[.slice j k l,ax s]),((m.add 2),[.slice p q i]),((n.add (ay a 3)),[.string o]),((m.add 2),[.slice b c h])] <|
   T.ar (d.add 2) [.slice C D E] <|
   T.again 0 [vI (bC (a+(1:Int)))])
   (T.af d [.slice 64,.slice 64,.slice 88,.slice 9] <| fun (e:Xac) (f g:Nat) (b:Xac) (c h:Nat) (F:Xac) (G H:Nat) (I:Xac) (i J:Nat) =>
   T.ar R [.slice e f g,.slice b c h,.slice F G H,.slice I i J] <|
   T.af R [.slice 64,.slice 64,.slice 88,.slice 9] <| fun (j:Xac) (k l:Nat) (K:Xac) (L t:Nat) (M:Xac) (N O:Nat) (P:Xac) (u Q:Nat) =>
   T.ret (.agg #[.slice j k l,.slice K L t,.slice M N O,.slice P u Q]))
def Zk (h0 h h':Hp):Prop:=∃ ws,Ch ws h h'/\∀ i,i∈ws->h0.size+2<=i/\∃ a,bF h i 9 a
def fZ {h0 h':Hp} {xs:List Xab} (b:bF I H 30 xs) (z:Zk h0 I h'):bF h' H 30 xs:=by
 obtain ⟨ws,k,a⟩:=z;refine b.ai k (fun c=>?_);obtain ⟨_,d,b2⟩:=a H c;unfold bF at b b2;rw [b] at b2;simp at b2
def cV {h0 h':Hp} {ws:List (cd × cH)} (s:Ak I H O U V ws) (z:Zk h0 I h'):Ak h' H O U V ws:=by
 obtain ⟨e,k,a⟩:=z;refine Ls.iy s k (fun i hi _=>?_);obtain ⟨_,d,b2⟩:=a i hi;exact .inr ⟨9,d,b2,bY,bY⟩
def CU.my {h0 h':Hp} (s:CU h0 e f g h I) (z:Zk h0 I h'):CU h0 e f g h h':=by
 obtain ⟨m,k,j⟩:=z;exact ⟨s.b1.ai k (fun l=>by have:=(j _ l).1; omega),s.b2.ai k (fun l=>by have:=(j _ l).1; omega),Ch.trans s.ext k (fun i hi hl=>by have:=(j i hi).1; omega)⟩
section
variable {L:Lp} {K:Xab->Hp->Prop} {h0 h:Hp}
variable {H:Xac->Nat->Nat->T}
def lK (a:h0.size+2<=h.size) (hk:∀ p h',SL h' (h0.size+2) 9 1 p 0 0 []->Ext h h'->H p 0 0 L K h'):T.eN Xaz (Instr.buildSlice 28 0 #[]) false [(false,[.slice 0])] H L K h :=
 Ef y5 QY fun h' s e=>hk _ h' (Sx.SL.mono s a) e
def fM (a:h0.size+2<=h.size) {p:Xac} {c:Nat} (s:SL h (h0.size+2) 9 1 p 0 c []) {q:Xac} {m d:Nat} {us:List Xaa} (v:Mg h q m us) (hl:us.length<=2^40) 
  (hk:∀ p' c' h',SN h' (h0.size+2) p' m c' us->Zk h0 h h'->H p' m c' L K h'):T.eN Xaz (Builtin.append_ #[28,28] 28 #[.slice p 0 c,.slice q m d]) false [(false,[.slice 0])] H L K h :=
 SJ s v hl a fun p' c' h' b k'=>hk p' c' h' b ⟨_,k',fun i hi=>⟨(Ob.SL.cj s i hi).1,Ob.SL.r6 s i hi⟩⟩
def Ab {a b c d:cd} (s:CU h0 a b c d h) {k:Xax->T} (hk:∀ h' g,bF h' g 30 zU->h0.size+2<=g->Ext h h'->k ⟨g,0,none⟩ L K h'):T.new [.slice none 0 0,.slice none 0 0,.slice none 0 0,.slice none 0 0] 30 k L K h :=
 bG fun h' b e z=>hk h' h.size b s.sz e
end
def DT (u:bU) (h:Hp) (w:Xab) (h':Hp):Prop :=
 (∃ (a b c d:cd) (e wD:List (cd × cH)) (f:List (cd × oh)),w=qp a b c d/\Ak h' h.size a.p a.l a.c e/\Ak h' h.size b.p b.l b.c wD/\Tw h' h.size c.p c.l c.c f/\SN h' h.size d.p d.l d.c u.aQ/\e.map (·.2)=u.text/\wD.map (·.2)=u.data/\f.map (·.2)=u.bf/\HA a b)/\Ext h h'
variable {n:List (cd × cH)}
def L6 {h0 h1:Hp} (v:rW h0 g.p g.l a.bf) (hl:a.bf.length<=2^20) (htl:∀ k,k∈a.bf->k.2.ah.length<=2^40) (s:CU h0 e f g h h1) {B D:cd} {wD:List (cd × cH)} (hg:h0.size+2<=H) (W:bF h1 H 30 [m.v,B.v,lZ.v,D.v])
  (lT:Ak h1 (h0.size+2) m.p m.l m.c n) (lD:Ak h1 (h0.size+2) B.p B.l B.c wD) (lS:SN h1 (h0.size+2) D.p D.l D.c a.aQ) (eT:n.map (·.2)=a.text) (eD:wD.map (·.2)=a.data) (ap:HA m B) :
  P1 ⟨h0.size,0,none⟩ ⟨H,0,none⟩ ⟨h0.size+1,0,none⟩ [] (DT a h0) h1:=by
 unfold P1 bn ay bz bX bC dF ax aK dp;have hll:=v.len;have hgl:=W.lt;have hsz:=s.sz;simp only [aC];refine aU (cs:=cn) (fun x w h'=>∃ (i:Nat) (C:cd) (ws:List (cd × oh)),x.1=(i:Int)/\i<=a.bf.length/\w=a.bf.length-i/\Ch [H] h1 h'/\bF h' H 30 [m.v,B.v,C.v,D.v]/\Tw h' h1.size C.p C.l C.c ws/\ws.map (·.2)=a.bf.take i)
  ((0:Int),()) a.bf.length rfl ⟨0,lZ,[],rfl,ad,ad,Ch.refl _ _,W,Ls.nil _ _,rfl⟩ ?_
 rintro ⟨n25,⟨⟩⟩ w h2 ⟨i,C,ws,P,hile,rfl,G,b2,own,y⟩;simp only at P;subst P;refine ak ?_;have z:Ext h0 h2:=bZ s.ext G;have hz2:=G.size;have ba:=s.b1.ai G (by simp; omega);have bb:=s.b2.ai G (by simp; omega);refine az ba ((g.p,g.l,g.c),()) (ak ?_);refine aP ?_ ?_<;>intro g1
 ·have q:i<a.bf.length:=ad
  refine az b2 ((C.p,C.l,C.c),()) (ak ?_);refine az ba ((g.p,g.l,g.c),()) (ak ?_);obtain ⟨X,pp,Y,Q,ha,J,R,vn0⟩:=v.cells i q;have E:a.bf.take (i+1)=a.bf.take i++[a.bf[i]]:=Y2 q;have htl:=htl a.bf[i] (Y5 q);generalize a.bf[i]=k at J R vn0 E htl;have K:∀ h',Ext h2 h'->aI h' (X.add (i*3)) 0 (zX pp Y Q k):=fun h' x=>aX (z.trans x) aj _ _ J
  have r:∀ h',Ext h2 h'->aI h' (X.add (i*3)) 0 [.string k.1]:=fun h' x=>⟨(K h' x).1,trivial⟩
  have I:∀ h',Ext h2 h'->aI h' ((X.add (i*3)).add 1) 0 [.slice pp Y Q,.int .u32 (k.2.num:Int)]:=fun h' x=>⟨by rw [add_add]; exact (K h' x).2.1,by rw [add_add]; exact (K h' x).2.2.1,trivial⟩
  refine bP ha ?_;rw [cB i];refine av (k.1,()) (r h2 (Ch.refl _ _)) (ak ?_);refine az ba ((g.p,g.l,g.c),()) (ak ?_);refine bP ha ?_;refine av ((pp,Y,Q),(k.2.num:Int),()) (I h2 (Ch.refl _ _)) (ak ?_);refine aJ (AD (x:=k.2) (c:=Q) (R.ai z).vw htl) ?_;rintro _ N ⟨⟨Z,lc,F,rfl,sc⟩,o⟩;refine ⟨((Z,lc,F),(k.2.num:Int),()),rfl,ak ?_⟩;have own3:=own.ai o aj;have st:∀ h',Ext h2 h'->aI h' ⟨h0.size,0+2,none⟩ 0 [.slice g.p g.l g.c]:=fun h' x=>(ba.ai x aj).cells _ rfl
  have S:∀ h',Ext h2 h'->aI h' ⟨H,0+2,none⟩ 0 [.slice C.p C.l C.c]:=fun h' x=>(b2.ai x aj).cells _ rfl
  refine ⟨⟨st N o,r N o,st N o,S N o,trivial⟩,?_⟩;have hwl:ws.length=i:=by have:=Zg List.length y; simp at this; omega
  have hol:=own.len;have hz3:=o.size;refine gn (vs:=zX Z lc F k) TR GH rfl ad ad aw rfl rfl own3.sl ad ad ad (fun h' x=>⟨I h' (o.trans x),st h' (o.trans x),r h' (o.trans x),st h' (o.trans x),S h' (o.trans x),trivial⟩) ?_;intro p5 c5 h5 s5 O hp5;have hbb:=Ob.SL.cj own3.sl;have e25:Ext h0 h5:=Ch.trans (z.trans o) O (fun j t hl=>by have:=(hbb _ t).1; omega);have L:aI h5 (X.add (i*3)) 0 (zX pp Y Q k):=aX e25 aj _ _ J;have ba5:=(ba.ai o aj).ai O (fun t=>by have:=(hbb _ t).1; omega);refine ⟨⟨⟨by rw [add_add]; exact L.2.1,by rw [add_add]; exact L.2.2.1,trivial⟩,ba5.cells _ rfl,⟨L.1,trivial⟩,ba5.cells _ rfl,trivial⟩,?_⟩;have b5:=(b2.ai o aj).ai O (fun t=>by have:=(hbb _ t).1; omega);refine bQ b5 ?_;intro h6 b6 k6 z6;have b6:bF h6 H 30 [m.v,B.v,(⟨p5,C.l+1,c5⟩:cd).v,D.v]:=b6;rw [wrap_i64 ad ad];refine aG (cs:=cn) (((i+1:Nat):Int),()) (a.bf.length-(i+1)) rfl ad rfl ⟨i+1,⟨p5,C.l+1,c5⟩,ws++[((⟨Z,lc,F⟩:cd),k)],rfl,ad,rfl,?_,b6,?_,by rw [Za,y,E]; rfl⟩
  ·exact Ch.trans (Ch.trans (Ch.trans G o aj) O (fun j t hl=>by have:=(hbb _ t).1; omega)) k6 (fun j t _=>t)
  ·have l5:Tw h5 h1.size p5 (C.l+1) c5 (ws++[((⟨Z,lc,F⟩:cd),k)]):=by
    refine ⟨by rw [Za]; exact s5,fun x U=>?_,fun _ _=>trivial⟩;rcases Zb.1 U with U | U
    ·exact SL.jT (own3.own x U) O (Ob.SL.r6 own3.sl) bY
    ·rw [Zh.1 U];exact SL.jT (Sx.SL.mono sc ad) O (Ob.SL.r6 own3.sl) bY
   exact l5.ai k6 (fun j t _=>by simp at t; omega)
 ·have E:a.bf.take i=a.bf:=Zu ad;rw [E] at y;refine az b2 ((m.p,m.l,m.c),(B.p,B.l,B.c),(C.p,C.l,C.c),(D.p,D.l,D.c),()) (ak ?_);refine ct bb rfl (by simp [zU]) ?_;intro N b3 V z3;have b3:bF N (h0.size+1) 30 [m.v,B.v,C.v,D.v]:=b3;refine az b3 ((m.p,m.l,m.c),(B.p,B.l,B.c),(C.p,C.l,C.c),(D.p,D.l,D.c),()) ?_;have hw:∀ (k:TypeId),k≠30->∀ i,i∈[H]->i<h1.size->i<h0.size+2\/∃ e' ys,bF h1 i e' ys/\e'≠k/\e'≠66:=fun k he i hi _=>by
   rw [Zh.1 hi];exact .inr ⟨30,_,W,fun k=>he k.symm,bY⟩
  have M:∀ i,i∈[(⟨h0.size+1,0,none⟩:Xax).block]->i<h2.size->i<h0.size+2:=fun i hi _=>by simp at hi; omega
  have lS2:SN h2 (h0.size+2) D.p D.l D.c a.aQ:=SL.jT lS G (e':=30) (fun i hi=>by rw [Zh.1 hi]; exact ⟨_,W⟩) bY;exact ⟨⟨m,B,C,D,n,wD,ws,rfl,((Ls.iy lT G (hw _ bY)).ai V M).mono ad,((Ls.iy lD G (hw _ bY)).ai V M).mono ad,(own.ai V (fun i hi _=>by simp at hi; omega)).mono ad,Sx.SL.mono (SL.tJ lS2 V M) ad,eT,eD,y,ap⟩,bZ z V⟩
section
variable {L:Lp} {K:Xab->Hp->Prop} {h0 h:Hp}
def dy (b:h0.size+2<=h.size) {p:Xac} {l c:Nat} {us:List cH} (v:zV h p l us) (hn:us.length<=2^20) (d:∀ x,x∈us->x.e.ah.length<=2^40) {k:Xac->Nat->Nat->T}
  (hk:∀ p' c' h' ws,Ak h' (h0.size+2) p' l c' ws->ws.map (·.2)=us->Ext h h'->(∀ i,i∈aF p'->h.size<=i)->k p' l c' L K h'):T.call Xaz 52 [.slice p l c] false [(false,[.slice 64])] k L K h:=by
 refine aJ (Ed v hn d) ?_;rintro _ h' ⟨⟨p',c',ws,rfl,a,f⟩,e⟩;exact ⟨((p',l,c'),()),rfl,hk p' c' h' ws (a.mono b) f e (fun i hi=>(Ob.SL.cj a.sl i hi).1)⟩
end
def iO {h0 h1:Hp} (v:jU h0 e f g h a) (r:a.bf.length<=2^20) (t:∀ j,j∈a.bf->j.2.ah.length<=2^40) (s:CU h0 e f g h h1) (m:bF h1 H 30 zU) (w:h0.size+2<=H) {A B D:cd} {wD:List (cd × cH)}
  (x:Ak h1 (h0.size+2) A.p A.l A.c n) (lD:Ak h1 (h0.size+2) B.p B.l B.c wD) (y:SN h1 (h0.size+2) D.p D.l D.c a.aQ) (z:n.map (·.2)=a.text) (C:wD.map (·.2)=a.data) (ap:HA A B) :
  T.ar ⟨H,0,none⟩ [.slice A.p A.l A.c,.slice B.p B.l B.c,.slice none 0 0,.slice D.p D.l D.c] (P1 ⟨h0.size,0,none⟩ ⟨H,0,none⟩ ⟨h0.size+1,0,none⟩) [] (DT a h0) h1:=by
 refine ct m rfl (by simp [zU]) ?_;intro h9 o k I;have o:bF h9 H 30 [A.v,B.v,lZ.v,D.v]:=o;have q:∀ (j:TypeId),j≠30->∀ i,i∈[(⟨H,0,none⟩:Xax).block]->i<h1.size->i<h0.size+2\/∃ e' E,bF h1 i e' E/\e'≠j/\e'≠66:=fun j F i hi _=>by
  rw [Zh.1 hi];exact .inr ⟨30,_,m,fun j=>F j.symm,bY⟩
 have G:CU h0 e f g h h9:=⟨s.b1.ai k (by simp; omega),s.b2.ai k (by simp; omega),bZ s.ext k⟩
 exact L6 v.bf r t G w o (Ls.iy x k (q _ bY)) (Ls.iy lD k (q _ bY)) (SL.jT y k (e':=30) (fun i hi=>by rw [Zh.1 hi]; exact ⟨_,m⟩) bY) z C ap
def EQ (v:jU I e f g h a) (hT:a.text.length<=2^20) (J:a.data.length<=2^20) (F:a.bf.length<=2^20) (G:a.aQ.length<=2^40)
  (tT:∀ x,x∈a.text->x.e.ah.length<=2^40) (K:∀ x,x∈a.data->x.e.ah.length<=2^40) (H:∀ k,k∈a.bf->k.2.ah.length<=2^40) :
  HC Xaz 23 #[qp e f g h] I (DT a I):=by
 refine bi (args:=[qp e f g h]) mixed Tryz.func23 aw (mZ e.p e.l e.c f.p f.l f.c g.p g.l g.c h.p h.l h.c) ?_;unfold iU aY bj bn ay bz aT ax aS aK;refine bG ?_;intro h1 b1 e1 z1;refine bG ?_;intro h2 b2 e2 z2;rw [z1] at b2;rw [show (⟨h1.size,0,none⟩:Xax)=⟨I.size+1,0,none⟩ by rw [z1]];have s:CU I e f g h h2:=⟨b1.ai e2 aj,b2,e1.trans e2⟩
 refine av ((e.p,e.l,e.c),()) s.c0 (ak ?_);refine av ((f.p,f.l,f.c),()) s.c1 (ak ?_);refine av ((h.p,h.l,h.c),()) s.c3 (ak ?_);refine ⟨?_,?_,?_,trivial⟩
 ·refine dy s.sz (v.text.ai s.ext) hT tT ?_;intro o q h1 wT lT E e1 fT;have s:=s.ai e1;refine ⟨⟨s.c3,s.c1,trivial⟩,?_⟩;refine ⟨?_,?_,?_,trivial⟩
  ·refine dy s.sz (v.data.ai s.ext) J K ?_;intro m n h2 wD lD y e2 z;have ap:HA ⟨o,e.l,q⟩ ⟨m,f.l,n⟩:=fun i hi C=>by
    have h1:=(Ob.SL.cj lT.sl i hi).2;have h2:=z i C;omega
   have s:=s.ai e2;have lT:=lT.ai e2 aj;refine ⟨⟨s.c3,s.c0,trivial⟩,?_⟩;refine ⟨?_,?_,trivial⟩
   ·refine lK s.sz ?_;intro pz h3 sl e3;have s:=s.ai e3;have lT:=lT.ai e3 aj;have lD:=lD.ai e3 aj;refine ⟨⟨s.c3,s.c1,s.c0,trivial⟩,?_⟩;refine ⟨?_,?_,trivial⟩
    ·refine fM s.sz sl (v.aQ.ai s.ext) G ?_;intro r t h4 lS k4;have s:=s.my k4;have lT:=cV lT k4;have lD:=cV lD k4;refine ⟨⟨s.c1,s.c0,trivial⟩,?_⟩;refine Ab s ?_;intro h5 j bx w e5;have s:=s.ai e5;have lT:=lT.ai e5 aj;have lD:=lD.ai e5 aj;have lS:=lS.ai e5 aj;refine ⟨⟨s.c3,s.c1,s.c0,trivial⟩,?_⟩;exact iO (A:=⟨o,e.l,q⟩) (B:=⟨m,f.l,n⟩) (D:=⟨r,h.l,t⟩) v F H s bx w lT lD lS E y ap
    ·refine Ab s ?_;intro h7 j bx w e7;have s:=s.ai e7;have sl:=sl.ai e7 aj;have lT:=lT.ai e7 aj;have lD:=lD.ai e7 aj;refine ⟨⟨s.c3,s.c1,s.c0,trivial⟩,?_⟩;refine fM s.sz sl (v.aQ.ai s.ext) G ?_;intro r t h8 lS k8;have s:=s.my k8;have bx:=fZ bx k8;have lT:=cV lT k8;have lD:=cV lD k8;refine ⟨⟨s.c1,s.c0,trivial⟩,?_⟩;exact iO (A:=⟨o,e.l,q⟩) (B:=⟨m,f.l,n⟩) (D:=⟨r,h.l,t⟩) v F H s bx w lT lD lS E y ap
   ·refine Ab s ?_;intro h10 j bx w e10;have s:=s.ai e10;have lT:=lT.ai e10 aj;have lD:=lD.ai e10 aj;refine ⟨⟨s.c3,s.c1,s.c0,trivial⟩,?_⟩;refine lK s.sz ?_;intro pz h11 sl L;have s:=s.ai L;have bx:=bx.ai L aj;have lT:=lT.ai L aj;have lD:=lD.ai L aj;refine ⟨⟨s.c3,s.c1,s.c0,trivial⟩,?_⟩;refine fM s.sz sl (v.aQ.ai s.ext) G ?_;intro r t h12 lS M;have s:=s.my M;have bx:=fZ bx M;have lT:=cV lT M;have lD:=cV lD M;refine ⟨⟨s.c1,s.c0,trivial⟩,?_⟩;exact iO (A:=⟨o,e.l,q⟩) (B:=⟨m,f.l,n⟩) (D:=⟨r,h.l,t⟩) v F H s bx w lT lD lS E y ap
  ·refine lK s.sz ?_;intro pz h14 sl e14;have s:=s.ai e14;have lT:=lT.ai e14 aj;refine ⟨⟨s.c3,s.c1,s.c0,trivial⟩,?_⟩;refine ⟨?_,?_,trivial⟩
   ·refine dy s.sz (v.data.ai s.ext) J K ?_;intro m n h15 wD lD y e15 z;have ap:HA ⟨o,e.l,q⟩ ⟨m,f.l,n⟩:=fun i hi C=>by
     have h1:=(Ob.SL.cj lT.sl i hi).2;have h2:=z i C;omega
    have s:=s.ai e15;have sl:=sl.ai e15 aj;have lT:=lT.ai e15 aj;refine ⟨⟨s.c3,s.c0,trivial⟩,?_⟩;refine ⟨?_,?_,trivial⟩
    ·refine fM s.sz sl (v.aQ.ai s.ext) G ?_;intro r t h16 lS k16;have s:=s.my k16;have lT:=cV lT k16;have lD:=cV lD k16;refine ⟨⟨s.c1,s.c0,trivial⟩,?_⟩;refine Ab s ?_;intro h17 j bx w N;have s:=s.ai N;have lT:=lT.ai N aj;have lD:=lD.ai N aj;have lS:=lS.ai N aj;refine ⟨⟨s.c3,s.c1,s.c0,trivial⟩,?_⟩;exact iO (A:=⟨o,e.l,q⟩) (B:=⟨m,f.l,n⟩) (D:=⟨r,h.l,t⟩) v F H s bx w lT lD lS E y ap
    ·refine Ab s ?_;intro h19 j bx w O;have s:=s.ai O;have sl:=sl.ai O aj;have lT:=lT.ai O aj;have lD:=lD.ai O aj;refine ⟨⟨s.c3,s.c1,s.c0,trivial⟩,?_⟩;refine fM s.sz sl (v.aQ.ai s.ext) G ?_;intro r t h20 lS P;have s:=s.my P;have bx:=fZ bx P;have lT:=cV lT P;have lD:=cV lD P;refine ⟨⟨s.c1,s.c0,trivial⟩,?_⟩;exact iO (A:=⟨o,e.l,q⟩) (B:=⟨m,f.l,n⟩) (D:=⟨r,h.l,t⟩) v F H s bx w lT lD lS E y ap
   ·refine Ab s ?_;intro h22 j bx w e22;have s:=s.ai e22;have sl:=sl.ai e22 aj;have lT:=lT.ai e22 aj;refine ⟨⟨s.c3,s.c1,s.c0,trivial⟩,?_⟩;refine dy s.sz (v.data.ai s.ext) J K ?_;intro m n h23 wD lD y Q z;have ap:HA ⟨o,e.l,q⟩ ⟨m,f.l,n⟩:=fun i hi C=>by
     have h1:=(Ob.SL.cj lT.sl i hi).2;have h2:=z i C;omega
    have s:=s.ai Q;have bx:=bx.ai Q aj;have sl:=sl.ai Q aj;have lT:=lT.ai Q aj;refine ⟨⟨s.c3,s.c0,trivial⟩,?_⟩;refine fM s.sz sl (v.aQ.ai s.ext) G ?_;intro r t h24 lS R;have s:=s.my R;have bx:=fZ bx R;have lT:=cV lT R;have lD:=cV lD R;refine ⟨⟨s.c1,s.c0,trivial⟩,?_⟩;exact iO (A:=⟨o,e.l,q⟩) (B:=⟨m,f.l,n⟩) (D:=⟨r,h.l,t⟩) v F H s bx w lT lD lS E y ap
  ·refine Ab s ?_;intro h26 j bx w e26;have s:=s.ai e26;have lT:=lT.ai e26 aj;refine ⟨⟨s.c3,s.c1,s.c0,trivial⟩,?_⟩;refine ⟨?_,?_,trivial⟩
   ·refine dy s.sz (v.data.ai s.ext) J K ?_;intro m n h27 wD lD y e27 z;have ap:HA ⟨o,e.l,q⟩ ⟨m,f.l,n⟩:=fun i hi C=>by
     have h1:=(Ob.SL.cj lT.sl i hi).2;have h2:=z i C;omega
    have s:=s.ai e27;have bx:=bx.ai e27 aj;have lT:=lT.ai e27 aj;refine ⟨⟨s.c3,s.c0,trivial⟩,?_⟩;refine lK s.sz ?_;intro pz h28 sl S;have s:=s.ai S;have bx:=bx.ai S aj;have lT:=lT.ai S aj;have lD:=lD.ai S aj;refine ⟨⟨s.c3,s.c1,s.c0,trivial⟩,?_⟩;refine fM s.sz sl (v.aQ.ai s.ext) G ?_;intro r t h29 lS U;have s:=s.my U;have bx:=fZ bx U;have lT:=cV lT U;have lD:=cV lD U;refine ⟨⟨s.c1,s.c0,trivial⟩,?_⟩;exact iO (A:=⟨o,e.l,q⟩) (B:=⟨m,f.l,n⟩) (D:=⟨r,h.l,t⟩) v F H s bx w lT lD lS E y ap
   ·refine lK s.sz ?_;intro pz h31 sl e31;have s:=s.ai e31;have bx:=bx.ai e31 aj;have lT:=lT.ai e31 aj;refine ⟨⟨s.c3,s.c1,s.c0,trivial⟩,?_⟩;refine dy s.sz (v.data.ai s.ext) J K ?_;intro m n h32 wD lD y V z;have ap:HA ⟨o,e.l,q⟩ ⟨m,f.l,n⟩:=fun i hi C=>by
     have h1:=(Ob.SL.cj lT.sl i hi).2;have h2:=z i C;omega
    have s:=s.ai V;have bx:=bx.ai V aj;have sl:=sl.ai V aj;have lT:=lT.ai V aj;refine ⟨⟨s.c3,s.c0,trivial⟩,?_⟩;refine fM s.sz sl (v.aQ.ai s.ext) G ?_;intro r t h33 lS W;have s:=s.my W;have bx:=fZ bx W;have lT:=cV lT W;have lD:=cV lD W;refine ⟨⟨s.c1,s.c0,trivial⟩,?_⟩;exact iO (A:=⟨o,e.l,q⟩) (B:=⟨m,f.l,n⟩) (D:=⟨r,h.l,t⟩) v F H s bx w lT lD lS E y ap
 ·refine lK s.sz ?_;intro pz h35 sl e35;have s:=s.ai e35;refine ⟨⟨s.c3,s.c1,s.c0,trivial⟩,?_⟩;refine ⟨?_,?_,trivial⟩
  ·refine dy s.sz (v.text.ai s.ext) hT tT ?_;intro o q h36 wT lT E e36 fT;have s:=s.ai e36;have sl:=sl.ai e36 aj;refine ⟨⟨s.c3,s.c1,trivial⟩,?_⟩;refine ⟨?_,?_,trivial⟩
   ·refine dy s.sz (v.data.ai s.ext) J K ?_;intro m n h37 wD lD y e37 z;have ap:HA ⟨o,e.l,q⟩ ⟨m,f.l,n⟩:=fun i hi C=>by
     have h1:=(Ob.SL.cj lT.sl i hi).2;have h2:=z i C;omega
    have s:=s.ai e37;have sl:=sl.ai e37 aj;have lT:=lT.ai e37 aj;refine ⟨⟨s.c3,s.c0,trivial⟩,?_⟩;refine ⟨?_,?_,trivial⟩
    ·refine fM s.sz sl (v.aQ.ai s.ext) G ?_;intro r t h38 lS k38;have s:=s.my k38;have lT:=cV lT k38;have lD:=cV lD k38;refine ⟨⟨s.c1,s.c0,trivial⟩,?_⟩;refine Ab s ?_;intro h39 j bx w X;have s:=s.ai X;have lT:=lT.ai X aj;have lD:=lD.ai X aj;have lS:=lS.ai X aj;refine ⟨⟨s.c3,s.c1,s.c0,trivial⟩,?_⟩;exact iO (A:=⟨o,e.l,q⟩) (B:=⟨m,f.l,n⟩) (D:=⟨r,h.l,t⟩) v F H s bx w lT lD lS E y ap
    ·refine Ab s ?_;intro h41 j bx w Y;have s:=s.ai Y;have sl:=sl.ai Y aj;have lT:=lT.ai Y aj;have lD:=lD.ai Y aj;refine ⟨⟨s.c3,s.c1,s.c0,trivial⟩,?_⟩;refine fM s.sz sl (v.aQ.ai s.ext) G ?_;intro r t h42 lS Z;have s:=s.my Z;have bx:=fZ bx Z;have lT:=cV lT Z;have lD:=cV lD Z;refine ⟨⟨s.c1,s.c0,trivial⟩,?_⟩;exact iO (A:=⟨o,e.l,q⟩) (B:=⟨m,f.l,n⟩) (D:=⟨r,h.l,t⟩) v F H s bx w lT lD lS E y ap
   ·refine Ab s ?_;intro h44 j bx w e44;have s:=s.ai e44;have sl:=sl.ai e44 aj;have lT:=lT.ai e44 aj;refine ⟨⟨s.c3,s.c1,s.c0,trivial⟩,?_⟩;refine dy s.sz (v.data.ai s.ext) J K ?_;intro m n h45 wD lD y e45 z;have ap:HA ⟨o,e.l,q⟩ ⟨m,f.l,n⟩:=fun i hi C=>by
     have h1:=(Ob.SL.cj lT.sl i hi).2;have h2:=z i C;omega
    have s:=s.ai e45;have bx:=bx.ai e45 aj;have sl:=sl.ai e45 aj;have lT:=lT.ai e45 aj;refine ⟨⟨s.c3,s.c0,trivial⟩,?_⟩;refine fM s.sz sl (v.aQ.ai s.ext) G ?_;intro r t h46 lS k46;have s:=s.my k46;have bx:=fZ bx k46;have lT:=cV lT k46;have lD:=cV lD k46;refine ⟨⟨s.c1,s.c0,trivial⟩,?_⟩;exact iO (A:=⟨o,e.l,q⟩) (B:=⟨m,f.l,n⟩) (D:=⟨r,h.l,t⟩) v F H s bx w lT lD lS E y ap
  ·refine Ab s ?_;intro h48 j bx w e48;have s:=s.ai e48;have sl:=sl.ai e48 aj;refine ⟨⟨s.c3,s.c1,s.c0,trivial⟩,?_⟩;refine dy s.sz (v.text.ai s.ext) hT tT ?_;intro o q h49 wT lT E e49 fT;have s:=s.ai e49;have bx:=bx.ai e49 aj;have sl:=sl.ai e49 aj;refine ⟨⟨s.c3,s.c1,trivial⟩,?_⟩;refine dy s.sz (v.data.ai s.ext) J K ?_;intro m n h50 wD lD y e50 z;have ap:HA ⟨o,e.l,q⟩ ⟨m,f.l,n⟩:=fun i hi C=>by
    have h1:=(Ob.SL.cj lT.sl i hi).2;have h2:=z i C;omega
   have s:=s.ai e50;have bx:=bx.ai e50 aj;have sl:=sl.ai e50 aj;have lT:=lT.ai e50 aj;refine ⟨⟨s.c3,s.c0,trivial⟩,?_⟩;refine fM s.sz sl (v.aQ.ai s.ext) G ?_;intro r t h51 lS k51;have s:=s.my k51;have bx:=fZ bx k51;have lT:=cV lT k51;have lD:=cV lD k51;refine ⟨⟨s.c1,s.c0,trivial⟩,?_⟩;exact iO (A:=⟨o,e.l,q⟩) (B:=⟨m,f.l,n⟩) (D:=⟨r,h.l,t⟩) v F H s bx w lT lD lS E y ap
 ·refine Ab s ?_;intro h53 j bx w e53;have s:=s.ai e53;refine ⟨⟨s.c3,s.c1,s.c0,trivial⟩,?_⟩;refine ⟨?_,?_,trivial⟩
  ·refine dy s.sz (v.text.ai s.ext) hT tT ?_;intro o q h54 wT lT E e54 fT;have s:=s.ai e54;have bx:=bx.ai e54 aj;refine ⟨⟨s.c3,s.c1,trivial⟩,?_⟩;refine ⟨?_,?_,trivial⟩
   ·refine dy s.sz (v.data.ai s.ext) J K ?_;intro m n h55 wD lD y e55 z;have ap:HA ⟨o,e.l,q⟩ ⟨m,f.l,n⟩:=fun i hi C=>by
     have h1:=(Ob.SL.cj lT.sl i hi).2;have h2:=z i C;omega
    have s:=s.ai e55;have bx:=bx.ai e55 aj;have lT:=lT.ai e55 aj;refine ⟨⟨s.c3,s.c0,trivial⟩,?_⟩;refine lK s.sz ?_;intro pz h56 sl e56;have s:=s.ai e56;have bx:=bx.ai e56 aj;have lT:=lT.ai e56 aj;have lD:=lD.ai e56 aj;refine ⟨⟨s.c3,s.c1,s.c0,trivial⟩,?_⟩;refine fM s.sz sl (v.aQ.ai s.ext) G ?_;intro r t h57 lS k57;have s:=s.my k57;have bx:=fZ bx k57;have lT:=cV lT k57;have lD:=cV lD k57;refine ⟨⟨s.c1,s.c0,trivial⟩,?_⟩;exact iO (A:=⟨o,e.l,q⟩) (B:=⟨m,f.l,n⟩) (D:=⟨r,h.l,t⟩) v F H s bx w lT lD lS E y ap
   ·refine lK s.sz ?_;intro pz h59 sl e59;have s:=s.ai e59;have bx:=bx.ai e59 aj;have lT:=lT.ai e59 aj;refine ⟨⟨s.c3,s.c1,s.c0,trivial⟩,?_⟩;refine dy s.sz (v.data.ai s.ext) J K ?_;intro m n h60 wD lD y e60 z;have ap:HA ⟨o,e.l,q⟩ ⟨m,f.l,n⟩:=fun i hi C=>by
     have h1:=(Ob.SL.cj lT.sl i hi).2;have h2:=z i C;omega
    have s:=s.ai e60;have bx:=bx.ai e60 aj;have sl:=sl.ai e60 aj;have lT:=lT.ai e60 aj;refine ⟨⟨s.c3,s.c0,trivial⟩,?_⟩;refine fM s.sz sl (v.aQ.ai s.ext) G ?_;intro r t h61 lS k61;have s:=s.my k61;have bx:=fZ bx k61;have lT:=cV lT k61;have lD:=cV lD k61;refine ⟨⟨s.c1,s.c0,trivial⟩,?_⟩;exact iO (A:=⟨o,e.l,q⟩) (B:=⟨m,f.l,n⟩) (D:=⟨r,h.l,t⟩) v F H s bx w lT lD lS E y ap
  ·refine lK s.sz ?_;intro pz h63 sl e63;have s:=s.ai e63;have bx:=bx.ai e63 aj;refine ⟨⟨s.c3,s.c1,s.c0,trivial⟩,?_⟩;refine dy s.sz (v.text.ai s.ext) hT tT ?_;intro o q h64 wT lT E e64 fT;have s:=s.ai e64;have bx:=bx.ai e64 aj;have sl:=sl.ai e64 aj;refine ⟨⟨s.c3,s.c1,trivial⟩,?_⟩;refine dy s.sz (v.data.ai s.ext) J K ?_;intro m n h65 wD lD y e65 z;have ap:HA ⟨o,e.l,q⟩ ⟨m,f.l,n⟩:=fun i hi C=>by
    have h1:=(Ob.SL.cj lT.sl i hi).2;have h2:=z i C;omega
   have s:=s.ai e65;have bx:=bx.ai e65 aj;have sl:=sl.ai e65 aj;have lT:=lT.ai e65 aj;refine ⟨⟨s.c3,s.c0,trivial⟩,?_⟩;refine fM s.sz sl (v.aQ.ai s.ext) G ?_;intro r t h66 lS k66;have s:=s.my k66;have bx:=fZ bx k66;have lT:=cV lT k66;have lD:=cV lD k66;refine ⟨⟨s.c1,s.c0,trivial⟩,?_⟩;exact iO (A:=⟨o,e.l,q⟩) (B:=⟨m,f.l,n⟩) (D:=⟨r,h.l,t⟩) v F H s bx w lT lD lS E y ap
def SL.flat {h:Hp} {sz:Nat} {a:Xax} {f:List (List Xab)} (s:SL h H k sz (some a) U V f):aI h a 0 f.flatten:=by
 obtain ⟨g,i,rest,rfl,j,m,d,n⟩:=s.2.2;refine d.cells _ ?_;rw [bh9,bp9]
def iV (h:Hp):Prop:=∃ e f,h[1]?=some (.cells (Lib.pow10Tab.map fun z=>Value.int .u64 z).toArray e f)
def iV.ai {ws:List Nat} {h':Hp} (p:iV I) (k:Ch ws I h') (a:1∉ws):iV h':=by
 obtain ⟨e,f,b⟩:=p;exact ⟨e,f,k.get b a⟩
def Je {W:World} {name:String} (a:Tryz.prog.globalNamed name=some 1) (p:iV W.heap):Lib.TabIs Xaz W name .u64 Lib.pow10Tab:=by
 obtain ⟨e,f,b⟩:=p;unfold Lib.TabIs World.var?;rw [a];show (match W.heap[1]? with | some (.cells cs _ _)=>some cs | _=>none)=_;rw [b]
def Qe:Tryz.prog.underlying 182=some (.slice 5):=aw
def WH:Tryz.prog.underlying 5=some (.int .u8):=aw
def Ws:Tryz.prog.underlying 9=some .string:=aw
def Ot {h:Hp} {d:List UInt8} {k:Xaa->T} (s:SL h H 5 1 O U V (Pe d)) (h0:d≠[]) (hk:k ⟨d.toArray⟩ b c h) :
  T.eN Xaz (convert 182 9 (.slice O U V)) false [(false,[.string])] k b c h:=by
 show aZ Xaz (convert 182 9 (.slice O U V)) h _;unfold convert;rw [an,aE Qe,an,aE Ws];show aZ Xaz (do match <- underlying 5 with
  | .int .u8=>Conv.bytesToString (.slice O U V)
  | .int .i32=>Conv.runesToString (.slice O U V)
  | _ => stuck "Convert: a slice of what to string?") h _
 rw [an,aE WH];cases O with
 | none =>
  have h1:Pe d=[]:=s.2.2.2
  have:d=[]:=by simpa [Pe] using h1
  exact absurd this h0
 | some a =>
  have hl:U=d.length:=by rw [s.1,Ii]
  subst hl;have hf:=SL.flat s;rw [O2] at hf;exact K3 a d V _ hf ⟨(⟨d.toArray⟩,()),rfl,hk⟩
def Vh (n:Nat):IntKind.wrap .u8 (IntKind.wrap .i64 ((48:Int)+(Int.tmod (n:Int) (10:Int))))=((UInt8.ofNat (48+n % 10)).toNat:Int):=by
 have e:Int.tmod (n:Int) 10=((n % 10:Nat):Int):=by
  rw [Int.tmod_eq_emod_of_nonneg ad] <;> rfl
 rw [e,wrap_i64 ad ad,wrap_u8 ad ad]
 simp
 omega
end Go.Sx.Ob
namespace Go.Sx.BB
open Go.Sx Go.Sx.Ob
open Go.Proofs
def Th (b:UInt8):List Xab:=[.int .u8 (b.toNat:Int)]
structure pK where
 p:Xac
 l:Nat
 c:Nat
 q:Xac
 d:Nat
 ts:Bt
def pK.one (e:pK):List Xab:=[.slice e.p e.l e.c]
def pK.two (e:pK):List Xab:=[.slice e.q e.l e.d]
def pK.vz (e:pK):List Nat:=aF e.p++aF e.q
def eW (p:Xac) (k:Nat):aF (p.map fun a=>a.add k)=aF p:=by
 cases p with
 | none=>rfl
 | some a=>simp [aF,fv]
variable {I:Hp}
def K5 {h1 h2:Hp} {gb:Nat} {l:List Nat} (a:Ch (gb::l) I h1) (c:Ch [gb] h1 h2):Ch (gb::l) I h2:=a.trans c (fun i hi _=>by simp at hi; simp [hi])
def dY (b:Nat) (h h':Hp):Prop:=h.size<=h'.size/\∀ i,i<b->i<h.size->h'[i]?=h[i]?
variable {H O:Nat}
def dY.of {ws:List Nat} {h':Hp} (k:Ch ws I h') (a:∀ i,i∈ws->i<I.size->H<=i):dY H I h' :=
 ⟨k.size,fun i hi hl=>k.same i hl fun c=>by have:=a i c hl; omega⟩
def dY.trans {b:Nat} {h h1 h2:Hp} (a:dY b h h1) (c:dY b h1 h2):dY b h h2 :=
 ⟨ZK a.1 c.1,fun i hi hl=>(c.2 i hi (aw9 hl a.1)).trans (a.2 i hi hl)⟩
def YE (i j:Int):Int:=IntKind.wrap .u8 (Int.fdiv (IntKind.wrap .i64 (i+(1:Int))) ((2:Int)^(min (IntKind.u64.wrap (IntKind.i64.wrap (8*j.tmod 3))).toNat IntKind.i64.bits)))
def VN (k j:Nat):List Xab:=[.int .u8 (YE k j)]
def Room (h:Hp) (b:Nat) (p:Xac) (c k m:Nat):Prop :=
 match p with
 | none=>c=0
 | some a=>∃ g o cells,a=⟨g,o,none⟩/\b<=g/\c<9223372036854775808/\bF h g 5 cells/\o+c*1<=cells.length/\∀ j,j<m->(cells.drop (o+j*1)).take 1=VN k j
def Room.TU {p:Xac} {c:Nat} {m:List (List Xab)} (s:SL I H 5 1 p O c m) (k:Nat):Room I H p c k 0:=by
 cases p with
 | none=>exact s.2.2.1
 | some a =>
  obtain ⟨g,e,rest,rfl,f,i,d,n⟩:=s.2.2;have hx:=cU m s.2.1
  have:=s.1
  refine ⟨g,e.length,_,rfl,f,i.2,d,?_,fun j o=>ad⟩;rw [Y0,Y0,hx,n,<- this];omega
def Room.ai {ws:List Nat} {h h':Hp} {b:Nat} {p:Xac} {c k m:Nat} (r:Room h b p c k m) (f:Ch ws h h') (j:∀ i,i∈aF p->i∉ws):Room h' b p c k m:=by
 cases p with
 | none=>exact r
 | some a =>
  obtain ⟨g,o,cells,rfl,e,hc,d,l,n⟩:=r;exact ⟨g,o,cells,rfl,e,hc,d.ai f (j g (by simp [aF])),l,n⟩
def ym {cells vs:List Xab} (hv:vs.length=O) (h:H+O<=cells.length):((gK cells H vs).drop H).take O=vs:=by
 rw [gZ _ _ _ ad,Zp];rw [ac9 (by rw [Zi]; omega),ar9 (by rw [Zi]; omega),Z8,ad9 ad,Zu ad]
def sf {cells vs:List Xab} {o' n:Nat} (h:H+vs.length<=cells.length) (h':o'+n<=H):((gK cells H vs).drop o').take n=(cells.drop o').take n:=by
 rw [gZ _ _ _ ad,Zp];rw [ac9 (by rw [Zi]; omega),ad9 (by rw [ZI,Zi]; omega)];rw [List.drop_take,List.take_take,ZQ ad]
end Go.Sx.BB
namespace Go.Sx.Ob
open Go.Proofs
variable {h1 h2:Hp} {p0:Xac} {l0:Nat}
def yu (lo hi:Nat) (h h':Hp):Prop:=h.size<=h'.size/\∀ i,i<h.size->(i<lo\/hi<=i)->h'[i]?=h[i]?
def yu.refl (lo hi:Nat) (h:Hp):yu lo hi h h:=⟨Zc _,fun _ _ _=>rfl⟩
def yu.step {lo hi:Nat} {h:Hp} {ws:List Nat} (b:yu lo hi h h1) (k:Ch ws h1 h2) (a:∀ i,i∈ws->i<h.size->lo<=i/\i<hi):yu lo hi h h2 :=
 ⟨ZK b.1 k.size,fun i hi c=>(k.same i (aw9 hi b.1) (fun d=>by have:=a i d hi; omega)).trans (b.2 i hi c)⟩
variable {O:TypeId}
def yu.box {lo hi:Nat} {h h':Hp} (b:yu lo hi h h') {g:Nat} {xs:List Xab} (bx:bF h g O xs) (a:g<lo\/hi<=g):bF h' g O xs:=(b.2 g bx.lt a).trans bx
def Hw (b h':Hp):Prop:=∀ g cells,bF b g 66 cells->∃ a,bF h' g 66 a/\a.length=cells.length
def Hw.ai {a:Hp} {ws:List Nat} (s:Hw a h1) (k:Ch ws h1 h2) (d:∀ i,i∈ws->i<h1.size->∃ e c,bF h1 i e c/\e≠66):Hw a h2:=by
 intro g cells b;obtain ⟨c',b',hl⟩:=s g cells b;refine ⟨c',b'.ai k (fun f=>?_),hl⟩;obtain ⟨e,c,b2,h⟩:=d g f b'.lt;unfold bF at b' b2;rw [b'] at b2;simp only [Option.some.injEq,Obj.cells.injEq] at b2;exact h b2.2.1.symm
def Hw.store {c:Hp} {g:Nat} {cells a:List Xab} (s:Hw c h1) (b1:bF h1 g 66 cells) (b2:bF h2 g 66 a) (hl:a.length=cells.length) (k:Ch [g] h1 h2):Hw c h2:=by
 intro d cs b;obtain ⟨c',b',hc⟩:=s d cs b
 by_cases e:d=g
 ·subst e;refine ⟨a,b2,?_⟩;unfold bF at b1 b';rw [b1] at b';simp only [Option.some.injEq,Obj.cells.injEq] at b'
  have:=Zg Array.size b'.1
  simp at this;omega
 ·exact ⟨c',b'.ai k (by simpa using e),hc⟩
variable {I:Lp} {U:T} {a:Xax}
def DJ {K:Xab->Hp->Prop} {d h:Hp} {lo:Nat} {p:Xac} {l c:Nat} {ts:dz} (o:SL d lo 66 2 p l c (ts.map dh)) (q:yu lo d.size h h1) (sh:Hw d h1) {i:Nat} (hi:i<l) (r:p=some a)
  (hk:∀ h2,yu lo d.size h h2->Hw d h2->Ch (aF p) h1 h2->(∀ j,j∈aF p->∃ s,bF h1 j 66 s)->U I K h2):T.ar (a.add (i*2)) [.string ⟨#[115,112,111,105,108,116]⟩,.int .u32 (0:Int)] U I K h1:=by
 subst r;obtain ⟨g,f,rest,rfl,t,u,b,w⟩:=o.2.2;obtain ⟨cells,b1,hl⟩:=sh g _ b;have hx:=cU _ o.2.1;have hlen:=o.1;rw [Y0,Y0,hx,w,<- hlen] at hl;have n:i*2+2<=l*2+(c-l)*2:=by
  have:(i+1)*2<=l*2:=ZT 2 hi
  omega
 rw [aC];refine ct b1 rfl (by rw [hl]; show f.length+i*2+2<=_; omega) ?_;intro h2 b2 m z2;have hlt:=b.lt;exact hk h2 (q.step m (fun j e _=>by simp at e; omega)) (sh.store b1 b2 (gS _ _ _) m) (m.mono (by simp [aF])) (fun j e=>by simp [aF] at e; subst e; exact ⟨_,b1⟩)
def PI:List Xab:=[vI (-9:Int),.string ⟨#[]⟩,vI (0:Int),vI (0:Int),vI (0:Int),.int .i32 (0:Int),vI (0:Int),.slice none 0 0,.int .u32 (0:Int),vI (0:Int)]
def SL.Gi {a b:Hp} {ws:List Nat} {lo sz:Nat} {q:Xac} {l c:Nat} {xs:List (List Xab)} {p:Xac} (s:SL a lo O sz q l c xs) (k:Ch ws a b) (g:∀ i,i∈ws->(i∈aF p\/∃ f,bF a i 66 f)) (d:∀ i,i∈aF p->i∉aF q) (j:O≠66):SL b lo O sz q l c xs :=
 Sx.SL.br s k (fun i hi m=>by
  rcases g i m with h | ⟨f,b2⟩
  ·exact d i h hi
  ·obtain ⟨zs,b1⟩:=SL.r6 s i hi;unfold bF at b1 b2;rw [b1] at b2;simp only [Option.some.injEq,Obj.cells.injEq] at b2;exact j b2.2.1)
def qz {h:Hp} {b b':Nat} {d:TypeId} {sz a:Nat} {p q:Xac} {l c l' c':Nat} {f g:List (List Xab)} (s:SL h b O sz p l c f) (t:SL h b' d a q l' c' g) (j:O≠d):∀ i,i∈aF p->i∉aF q:=fun i h1 h2=>by
 obtain ⟨k,b1⟩:=SL.r6 s i h1;obtain ⟨m,b2⟩:=SL.r6 t i h2;unfold bF at b1 b2;rw [b1] at b2;simp only [Option.some.injEq,Obj.cells.injEq] at b2;exact j b2.2.1
def Mx (g:Xax):T :=
 T.loop [aK] [vI (0:Int)] <| fun (b:Int) =>
 T.af (g.add 2) [.slice 88] <| fun (t:Xac) (j u:Nat) =>
 bn b j
  (T.loop [aK] [vI (0:Int)] <| fun (a:Int) =>
  T.af (g.add 2) [.slice 88] <| fun (h:Xac) (c k:Nat) =>
  T.need (dF b c) <|
  T.aR h <| fun (l:Xax) =>
  T.af ((l.add (ay b 3)).add 1) [.slice 66] <| fun (w:Xac) (i x:Nat) =>
  bn a i
  (T.af (g.add 2) [.slice 88] <| fun (d:Xac) (e m:Nat) =>
  T.need (dF b e) <|
  T.aR d <| fun (f:Xax) =>
  T.af ((f.add (ay b 3)).add 1) [.slice 66] <| fun (n:Xac) (o y:Nat) =>
  T.need (dF a o) <|
  T.aR n <| fun (p:Xax) =>
  T.ar (p.add (ay a 2)) [.string ⟨#[115,112,111,105,108,116]⟩,ax (0:Int)] <|
  T.again 2 [vI (bC (a+(1:Int)))])
  (T.af (g.add 2) [.slice 88] <| fun (d:Xac) (e m:Nat) =>
  T.need (dF b e) <|
  T.aR d <| fun (f:Xax) =>
  T.ar (f.add (ay b 3)) [.string ⟨#[115,112,111,105,108,116]⟩,aS,ax (0:Int)] <|
  T.again 1 [vI (bC (b+(1:Int)))]))
  (T.loop [aK] [vI (0:Int)] <| fun (a:Int) =>
  T.af (g.add 3) [.slice 9] <| fun (h:Xac) (c k:Nat) =>
  bn a c
  (T.af (g.add 3) [.slice 9] <| fun (q:Xac) (r i:Nat) =>
  T.need (dF a r) <|
  T.aR q <| fun (s:Xax) =>
  T.ar (s.add (ay a 1)) [.string ⟨#[115,112,111,105,108,116]⟩] <|
  T.again 2 [vI (bC (a+(1:Int)))])
  (bK #[]))
def Ja (lo hi:Nat) (h:Hp) (w:Xab) (h':Hp):Prop:=w=.tuple #[]/\yu lo hi h h'
variable {H b:List Xaa}
def SN.put {K:Xab->Hp->Prop} {h:Hp} {b:Nat} {p:Xac} {l c:Nat} (v:SN h b p l c H) {i:Nat} (hi:i<H.length) (x:Xaa) (d:p=some a) 
  (hk:∀ h',SN h' b p l c (H.set i x)->Ch (aF p) h h'->h'.size=h.size->U I K h'):T.ar (a.add (i*1)) [.string x] U I K h:=by
 refine SL.store (P:=Xaz) v (i:=i) (vs:=HW x) (by rw [YY]; exact hi) rfl rfl d ?_;intro h' e ch z;refine hk h' ?_ ch z;unfold SN;rw [ce9];exact e
def Hh (zs:List Xaa) (j:Nat) (a:0<j) (hl:j<zs.length):(zs.set j (zs[j-1]'ad)).eraseIdx (j-1)=zs.eraseIdx j:=by
 apply Z9;intro k;rw [List.getElem?_eraseIdx,List.getElem?_eraseIdx]
 by_cases h1:k<j-1
 ·rw [Y8 h1,Y8 ad,aa9 ad]
 ·rw [Y1 h1]
  by_cases h2:k<j
  ·have:k=j-1:=ad
   subst this;rw [Y8 h2,show j-1+1=j from ad,bl9 hl,YZ ad]
  ·rw [Y1 h2,aa9 ad]
def R3 (zs:List Xaa) (j:Nat) (hl:j<zs.length) (x s:Xaa):gz (zs.set j x) s=(gz (zs.eraseIdx j) s || decide (x=s)):=by
 unfold gz;rw [List.set_eq_take_append_cons_drop,Y8 hl,List.eraseIdx_eq_take_drop_succ];simp only [List.any_append,List.any_cons]
 all_goals (cases List.any (zs.take j) (fun t=>decide (t=s)) <;> cases List.any (zs.drop (j+1)) (fun t=>decide (t=s)) <;> cases decide (x=s) <;> rfl)
def qD {D:List Xaa} {s:Xaa}:gz D s=true↔s∈D:=by
 unfold gz;rw [ay9];constructor
 ·rintro ⟨t,a,e⟩;rw [<- Y3 e];exact a
 ·intro b;exact ⟨s,b,Y4 rfl⟩
def Aw (l:List Xaa) (x:Xaa):(l++[x]).Nodup↔l.Nodup/\x∉l:=by
 rw [ZV];constructor
 ·rintro ⟨a,_,c⟩;exact ⟨a,fun d=>c x d x aj rfl⟩
 ·rintro ⟨a,b⟩;refine ⟨a,aj,fun y f z g e=>?_⟩;rw [Zh.1 g] at e;exact b (e▸f)
def ul {h : Hp} {b : Nat} {p : Xac} {l c : Nat} (v : SN h b p l c H) (hm : H.length <= 2 ^ 30) :
    HC Xaz 37 #[.slice p l c] h fun w h' => ∃ p' c' d, w = .slice p' (d : List Xaa).length c' /\ d.length <= H.length /\ (d.length = H.length ↔ H.Nodup) /\ Ext h h' := by
  refine bi (args := [.slice p l c]) mixed Tryz.func37 aw (oJ p l c) ?_;unfold jQ aY bj bn ay bd aT bC aS aK dp;have n := SN.len v
  refine aU (cs := uC) (fun y m h' => ∃ (i : Nat) (d : List Xaa), y.2.1 = (i : Int) /\ m = H.length - i /\ i <= H.length /\ Ext h h' /\ SN h' h.size y.1.1 y.1.2.1 y.1.2.2 d /\ d.length <= i /\ (∀ s, gz d s = gz (H.take i) s) /\ (d.length = i ↔ (H.take i).Nodup)) ((none, 0, 0), (0 : Int), ()) H.length rfl
    ⟨0, [], rfl, rfl, ad, Ch.refl _ _, SL.nil _ _ _ _, aj, fun s => rfl, aj⟩ ?_
  rintro ⟨⟨V, A, W⟩, n4, ⟨⟩⟩ m h1 ⟨i, d, hi, rfl, Y, E, s, N, B, C⟩;simp only at hi s;subst hi;refine ak ?_;have hz := E.size;have ny := SN.len s;refine aP (fun q => ?_) (fun q => ?_)
  · have F : i < H.length :=ad
    have L : ∀ {g}, Ext h g -> ∃ a, p = some a /\ aI g (a.add (i * 1)) 0 [.string H[i]] := by
      intro g e;obtain ⟨a, u, hc⟩ := SN.cell v F;exact ⟨a, u, aX e aj _ _ hc⟩
    have f : H.take (i + 1) = H.take i ++ [H[i]] := Y2 F;generalize Z : H[i] = x at L f;obtain ⟨a, u, hc⟩ := L E;refine bP u ?_;rw [cB i];refine av (x, ()) hc (ak ?_);refine aM (Ea s ad x) ?_;rw [B];have z : gz (H.take i) x = true ↔ x ∈ H.take i := qD;refine ao (fun r => ?_) (fun r => ?_)
    · have r2 := z.1 r
      refine aG (cs := uC) ((V, A, W), ((i + 1 : Nat) : Int), ()) (H.length - (i + 1)) rfl ad (by rw [wrap_i64 ad ad]; rfl) ?_;refine ⟨i + 1, d, rfl, rfl, ad, E, s, ad, fun t => ?_, ?_⟩
      · rw [B, f]
        by_cases e : x = t
        · subst e
          rw [r];exact (qD.2 (Zb.2 (.inl r2))).symm
        · unfold gz
          rw [List.any_append];simp [e]
      · rw [f, Aw]
        exact ⟨fun k => ad, fun k => absurd r2 k.2⟩
    · have r2 : x ∉ H.take i := fun k => by rw [z.2 k] at r; cases r
      refine bP u ?_;refine av (x, ()) hc (ak ?_);refine SN.push s x ad hz ?_;intro p' c' h2 s2 k2;have e2 := SN.ext E s (Zc _) k2
      refine aU (cs := cn) (fun y m h' => ∃ (j : Nat) (zs : List Xaa), y.1 = (j : Int) /\ m = j /\ j <= d.length /\ zs.length = d.length + 1 /\ zs.eraseIdx j = d /\ Ext h h' /\ SN h' h.size p' (A + 1) c' zs) ((A : Int), ()) d.length rfl
        ⟨d.length, d ++ [x], by rw [ny], rfl, ad, aj, by rw [List.eraseIdx_append_of_length_le ad]; simp, e2, s2⟩ ?_
      rintro ⟨n16, ⟨⟩⟩ m h3 ⟨j, zs, X, rfl, hjl, G, I, M, D⟩;simp only at X;subst X;refine ak ?_
      have O : ∃ a2, p' = some a2 := by
        obtain ⟨a2, h2, _⟩ := SN.cell D (i := 0) ad;exact ⟨a2, h2⟩
      obtain ⟨a2, o⟩ := O
      have last : (T.need (((0 : Int) <= (i : Int)) /\ ((i : Int) < (l : Int))) <|
         T.aR p fun (P : Xax) =>
         T.af (P.add ((Int.toNat (i : Int)) * 1)) [.string] <| fun (Q : Xaa) =>
         T.need (((0 : Int) <= (m : Int)) /\ ((m : Int) < ((A + 1 : Nat) : Int))) <|
         T.aR p' fun (R : Xax) =>
         T.ar (R.add ((Int.toNat (m : Int)) * 1)) [.string Q] <|
         T.again 0 [.slice p' (A + 1) c', vI (IntKind.wrap .i64 ((i : Int) + (1 : Int)))])
         ([] ++ [Jl (cs := uC) (fun y m h' => ∃ (i : Nat) (d : List Xaa), y.2.1 = (i : Int) /\ m = H.length - i /\ i <= H.length /\ Ext h h' /\ SN h' h.size y.1.1 y.1.2.1 y.1.2.2 d /\ d.length <= i /\ (∀ s, gz d s = gz (H.take i) s) /\ (d.length = i ↔ (H.take i).Nodup)) (H.length - i)] ++
          [Jl (cs := cn) (fun y m h' => ∃ (j : Nat) (zs : List Xaa), y.1 = (j : Int) /\ m = j /\ j <= d.length /\ zs.length = d.length + 1 /\ zs.eraseIdx j = d /\ Ext h h' /\ SN h' h.size p' (A + 1) c' zs) m])
         (fun w h' => ∃ p' c' d, w = .slice p' (d : List Xaa).length c' /\ d.length <= H.length /\ (d.length = H.length ↔ H.Nodup) /\ Ext h h') h3 := by
        obtain ⟨a, u, hc⟩ := L M;refine bP u ?_;rw [cB i];refine av (x, ()) hc (ak ?_);refine bP o ?_;rw [cB m];refine SN.put D ad x o ?_;intro h4 S U z4;refine aG (cs := uC) ((p', A + 1, c'), ((i + 1 : Nat) : Int), ()) (H.length - (i + 1)) rfl ad (by rw [wrap_i64 ad ad]; rfl) ?_;refine ⟨i + 1, zs.set m x, rfl, rfl, ad, SN.ext M D (Zc _) U, S, by rw [Z7]; omega, fun t => ?_, ?_⟩
        · rw [R3 zs m ad, I, B, f]
          unfold gz;rw [List.any_append]
          simp
        · rw [Z7, f, Aw, <- C, G]
          exact ⟨fun k => ⟨ad, r2⟩, fun k => ad⟩
      refine ao (fun q2 => ?_) (fun q2 => last);have q2 := Y3 q2;rw [wrap_i64 ad ad];obtain ⟨a3, J, K⟩ := SN.cell D (i := m - 1) ad;refine bP J ?_;rw [show Int.toNat ((m : Int) - 1) = m - 1 from ad];refine av (zs[m - 1]'ad, ()) K (ak ?_);obtain ⟨a, u, hc⟩ := L M;refine bP u ?_;refine av (x, ()) hc (ak ?_);refine ao (fun q3 => ?_) (fun q3 => ?_)
      · refine bP J ?_
        refine av (zs[m - 1]'ad, ()) K (ak ?_);refine bP o ?_;rw [cB m];refine SN.put D ad _ o ?_;intro h4 S U z4;refine aG (cs := cn) (((m - 1 : Nat) : Int), ()) (m - 1) rfl ad (by rw [show (m : Int) - 1 = ((m - 1 : Nat) : Int) from ad]; rfl) ?_;exact ⟨m - 1, _, rfl, rfl, ad, by rw [Z7]; exact G, by rw [Hh zs m ad ad]; exact I, SN.ext M D (Zc _) U, S⟩
      · have := last
        rw [cB i] at this;exact this
  · have : i = H.length :=ad
    subst this;rw [ZA] at C;exact ⟨V, W, d, by rw [ny], N, C, E⟩
def GX (e:oh):Bool:=dr e.1.data.toList && oR none e.2.ah
def yC (u:bU):Bool:=u.text.all (fun x=>cI x 0) && (u.data.all (fun x=>cI x 1) && (u.bf.all GX && (decide (fW u).Nodup && dq (fW u) dV u.aQ)))
def uo (x:cH) (l:List cH):eO (x::l)=(if x.kind=1 then [x.name] else [])++eO l:=by
 unfold eO
 by_cases h:x.kind=1 <;> simp [h]
def Gk (D:List Xaa) (x:cH) (s:Xaa):s∈vB D x↔s∈D\/s∈(if x.kind=1 then [x.name] else []):=by
 unfold vB;split <;> simp [or_comm]
theorem sF (sec:Nat):∀ (l:List cH) (D:List Xaa),fq sec D l=true↔(∀ x,x∈l->cI x sec=true)/\(∀ s,s∈eO l->s∉D)/\(eO l).Nodup
 | [],D=>by simp [fq,eO]
 | x::l,D=>by
  rw [fq,Zz,sF sec l,uo];unfold zf;rw [Zz,ZV]
  by_cases h:x.kind=1
  ·simp only [h,decide_true,Bool.true_and,if_true,Bool.not_eq_true',List.mem_cons,List.mem_append,List.mem_singleton,List.not_mem_nil,or_false];have i:gz D x.name=false↔x.name∉D:=by
    rw [<- Bool.not_eq_true,qD]
   rw [i];have j:∀ s,s∈vB D x↔s=x.name\/s∈D:=fun s=>by
    rw [Gk,Y8 h];simp [or_comm]
   simp only [j];constructor
   ·rintro ⟨⟨a,b⟩,c,d,e⟩;refine ⟨?_,?_,?_,e,?_⟩
    ·rintro y (rfl | f)
     ·exact a
     ·exact c y f
    ·rintro s (rfl | g)
     ·exact b
     ·exact fun k=>d s g (.inr k)
    ·simp
    ·intro y f z n m;exact d z n (.inl (m▸f))
   ·rintro ⟨a,b,c,d,e⟩;refine ⟨⟨a x (.inl rfl),b _ (.inl rfl)⟩,fun y f=>a y (.inr f),fun s g k=>?_,d⟩;rcases k with rfl | k
    ·exact e _ rfl _ g rfl
    ·exact b s (.inr g) k
  ·have j:vB D x=D:=by unfold vB; rw [Y1 h]
   simp only [h,decide_false,Bool.false_and,if_false,Bool.not_false,and_true,List.mem_cons,List.nil_append,j];constructor
   ·rintro ⟨a,c,d,e⟩;refine ⟨?_,d,aj,e,aj⟩;rintro y (rfl | f)
    ·exact a
    ·exact c y f
   ·rintro ⟨a,b,_,d,_⟩;exact ⟨a x (.inl rfl),fun y f=>a y (.inr f),b,d⟩
theorem BI:∀ (l:List oh) (D:List Xaa),ig D l=true↔(∀ x,x∈l->GX x=true)/\(∀ s,s∈l.map (·.1)->s∉D)/\(l.map (·.1)).Nodup
 | [],D=>by simp [ig]
 | x::l,D=>by
  rw [ig,Zz,BI l,ZF,bc9];have g:DA D x=true↔x.1∉D/\GX x=true:=by
   unfold DA GX;rw [Zz,Zz,Zz,Bool.not_eq_true',<- Bool.not_eq_true,qD,and_assoc]
  rw [g];simp only [List.mem_cons];constructor
  ·rintro ⟨⟨a,b⟩,c,d,e⟩;refine ⟨?_,?_,?_,e⟩
   ·rintro y (rfl | h)
    ·exact b
    ·exact c y h
   ·rintro s (rfl | f)
    ·exact a
    ·exact fun k=>d s f (.inr k)
   ·exact fun f=>d _ f (.inl rfl)
  ·rintro ⟨a,b,c,d⟩;refine ⟨⟨b _ (.inl rfl),a x (.inl rfl)⟩,fun y h=>a y (.inr h),fun s f k=>?_,d⟩;rcases k with rfl | k
   ·exact c f
   ·exact b s (.inr f) k
theorem mM:∀ (l:List cH) (D:List Xaa) (s:Xaa),s∈de D l↔s∈D\/s∈eO l
 | [],D,s=>by simp [de,eO]
 | x::l,D,s=>by
  show s∈de (vB D x) l↔_;rw [mM l,Gk,uo,Zb,or_assoc]
theorem BU:∀ (l:List oh) (D:List Xaa) (s:Xaa),s∈bh D l↔s∈D\/s∈l.map (·.1)
 | [],D,s=>by simp [bh]
 | x::l,D,s=>by
  show s∈bh (x.1::D) l↔_;rw [BU l,ZF,Zo,Zo,<- or_assoc,or_comm (a:=s=x.1)]
def Ma (h:∀ s,s∈H↔s∈b) (s:Xaa):gz H s=gz b s:=by
 have:gz H s=true↔gz b s=true:=by rw [qD,qD]; exact h s
 exact cg9.2 this
theorem uN {D E:List Xaa} (h:∀ s,s∈D↔s∈E):∀ (l:List Xaa) (o:Xaa),dq D o l=dq E o l
 | [],o=>rfl
 | x::l,o=>by
  rw [dq,dq,uN h l,Ss,Ss,Ma h]
def yE (u:bU):xE u=yC u:=by
 have m:dq u.names dV u.aQ=dq (fW u) dV u.aQ:=by
  refine uN (fun s=>?_) _ _;unfold bU.names fW;rw [BU,mM,mM];simp [or_assoc]
 rw [cg9];unfold xE yC;rw [Zz,Zz,Zz,Zz,Zz,Zz,Zz,sF,sF,BI,m,Zx,Zx,Zx,decide_eq_true_iff];unfold fW;rw [ZV,ZV];have l:∀ s,s∈de [] u.text↔s∈eO u.text:=fun s=>by rw [mM]; simp
 have n:∀ s,s∈de (de [] u.text) u.data↔s∈eO u.text\/s∈eO u.data:=fun s=>by rw [mM,l]
 simp only [l,n,List.mem_append];constructor
 ·rintro ⟨⟨⟨⟨a,p,b⟩,b1,b2,c⟩,c1,o,c3⟩,g⟩;refine ⟨a,b1,c1,⟨⟨b,c,fun x h y i e=>b2 y i (e▸h)⟩,c3,fun x h y i e=>o y i (e▸h)⟩,g⟩
 ·rintro ⟨a,b1,c1,⟨⟨b,c,d⟩,c3,f⟩,g⟩;exact ⟨⟨⟨⟨a,fun s _=>aj,b⟩,b1,fun s j k=>d s k s j rfl,c⟩,c1,fun s j k=>f s k s j rfl,c3⟩,g⟩
def sP {α:Type} (f:α->Bool) (l:List α) {i:Nat} (hi:i<l.length):(l.drop i).all f=(f l[i] && (l.drop (i+1)).all f):=by
 rw [Zj hi,ct9]
def Yc {h:Hp} {p:Xac} {l:Nat} {x:cE} (v:pV h p l x):ik h p l x.ah/\x.ah.length<=9223372036854775807/\∀ t,t∈x.ah->t.1.size<=maxLen:=⟨v.vw,by have:=v.many; omega,v.names⟩
def AA (D:List Xaa):Prop:=∀ g,g∈D->dr g.data.toList=true
def AA.snoc (h:AA H) (k:AA b):AA (H++b):=fun g a=>(Zb.1 a).elim (h g) (k g)
def AA.item {x:cH} {sec:Nat} (r:cI x sec=true):AA (if x.kind=1 then [x.name] else []):=by
 intro g a;split at a
 ·rename_i b;rw [Zh.1 a];rw [Ew b,Zz] at r;exact r.1
 ·simp at a
variable {V Y Z c:cd} {d:bU}
def Lm {h:Hp} (v:jU h V Y Z c d):HC Xaz 10 #[qp V Y Z c] h fun w h'=>w=vI (fA d:Nat)/\Ext h h':=by
 refine bi (args:=[qp V Y Z c]) mixed Tryz.func10 aw (pd V.p V.l V.c Y.p Y.l Y.c Z.p Z.l Z.c c.p c.l c.c) ?_;unfold kp aY bj bn ay bd dl bz bC ax aK;refine bG ?_;intro g1 b1 W z1;have b1:bF g1 h.size 30 [V.v,Y.v,Z.v,c.v]:=b1;have m1:=v.text.many;have m2:=v.data.many;have m3:=v.bf.many;have m4:=v.aQ.many;have n1:=v.text.len;have n2:=v.data.len;have n3:=v.bf.len;have n4:=v.aQ.len;simp only [aC];refine az b1 ((V.p,V.l,V.c),()) (ak ?_);refine az b1 ((Y.p,Y.l,Y.c),()) (ak ?_);rw [wrap_i64 ad ad];unfold fA w7;refine ao ?_ ?_<;>intro q
 ·have q:=Y3 q;exact ⟨by rw [Y4 (show 8192<d.text.length+d.data.length from ad)]; rfl,W⟩
 have q:=Zf q;rw [Y6 (show ¬ 8192<d.text.length+d.data.length from ad),bu9];refine az b1 ((Z.p,Z.l,Z.c),()) (ak ?_);refine ao ?_ ?_<;>intro q
 ·have q:=Y3 q;exact ⟨by rw [Y4 (show 8192<d.bf.length from ad)]; rfl,W⟩
 have q:=Zf q;rw [Y6 (show ¬ 8192<d.bf.length from ad),Y1 aj,yE];generalize X:yC d=U;unfold yC at X;refine aU (cs:=gk) (fun y w h'=>∃ i:Nat,y.2.1=(i:Int)/\w=d.text.length-i/\i<=d.text.length/\Ext h h'/\bF h' h.size 30 [V.v,Y.v,Z.v,c.v]/\AA (eO (d.text.take i))/\((d.text.drop i).all (fun x=>cI x 0) && (d.data.all (fun x=>cI x 1) && (d.bf.all GX && (decide (fW d).Nodup && dq (fW d) dV d.aQ))))=U) ((0:Int),(0:Int),()) d.text.length rfl
  ⟨0,rfl,rfl,ad,W,b1,fun g s=>by simp [eO] at s,X⟩ ?_
 clear X;rintro ⟨J,n22,⟨⟩⟩ w h2 ⟨i,hi,rfl,r,m,b2,C,f⟩;simp only at hi;subst hi;refine ak ?_;refine az b2 ((V.p,V.l,V.c),()) (ak ?_);refine ao ?_ ?_
 case _ =>
  intro q;have q:=Y3 q;have j:i<d.text.length:=ad
  refine az b2 ((V.p,V.l,V.c),()) (ak ?_);obtain ⟨aa,pp,K,D,rfl',hc,z⟩:=(v.text.ai m).cells i j;rw [sP _ _ j] at f;have ht:=xY d.text i j;generalize d.text[i]=x at hc z f ht;refine dO (aH rfl' ?_);rw [cB i];refine av (x.kind,x.name,x.inst.op,x.inst.a,x.inst.b,x.inst.n,x.inst.form,(pp,K,D),(x.e.num:Int),x.n,()) hc (ak ?_);refine aJ (Df (c:=D) (k:=0) z ad) ?_;rintro _ h3 ⟨rfl,t⟩;refine ⟨((if cI x 0 then 0 else 31:Int),()),rfl,ak ?_⟩;cases o:cI x 0 with
  | false =>
   refine cL aj ?_;refine ⟨by rw [<- f,o]; rfl,m.trans t⟩
  | true =>
   refine cC aj ?_;rw [o,Zy] at f;refine aG (cs:=gk) (J,((i+1:Nat):Int),()) (d.text.length-(i+1)) rfl ad (by rw [wrap_i64 ad ad]; rfl) ?_;exact ⟨i+1,rfl,rfl,ad,m.trans t,b2.ai t aj,by rw [ht]; exact C.snoc (AA.item o),f⟩
 intro q;have q:=Zf q
 have:i=d.text.length:=ad
 subst this;rw [ai9,List.all_nil,Zy] at f;rw [ZA] at C;clear W b1;refine aU (cs:=gk) (fun y w h'=>∃ i:Nat,y.2.1=(i:Int)/\w=d.data.length-i/\i<=d.data.length/\Ext h h'/\bF h' h.size 30 [V.v,Y.v,Z.v,c.v]/\AA (eO (d.data.take i))/\((d.data.drop i).all (fun x=>cI x 1) && (d.bf.all GX && (decide (fW d).Nodup && dq (fW d) dV d.aQ)))=U) (J,(0:Int),()) d.data.length rfl
  ⟨0,rfl,rfl,ad,m,b2,fun g s=>by simp [eO] at s,f⟩ ?_
 clear f m b2;rintro ⟨L,n32,⟨⟩⟩ w h4 ⟨i,hi,rfl,r,m,b2,F,f⟩;simp only at hi;subst hi;refine ak ?_;refine az b2 ((Y.p,Y.l,Y.c),()) (ak ?_);refine ao ?_ ?_
 case _ =>
  intro q;have q:=Y3 q;have j:i<d.data.length:=ad
  refine az b2 ((Y.p,Y.l,Y.c),()) (ak ?_);obtain ⟨aa,pp,K,D,rfl',hc,z⟩:=(v.data.ai m).cells i j;rw [sP _ _ j] at f;have ht:=xY d.data i j;generalize d.data[i]=x at hc z f ht;refine dO (aH rfl' ?_);rw [cB i];refine av (x.kind,x.name,x.inst.op,x.inst.a,x.inst.b,x.inst.n,x.inst.form,(pp,K,D),(x.e.num:Int),x.n,()) hc (ak ?_);refine aJ (Df (c:=D) (k:=1) z ad) ?_;rintro _ h3 ⟨rfl,t⟩;refine ⟨((if cI x 1 then 0 else 31:Int),()),rfl,ak ?_⟩;cases o:cI x 1 with
  | false =>
   refine cL aj ?_;refine ⟨by rw [<- f,o]; rfl,m.trans t⟩
  | true =>
   refine cC aj ?_;rw [o,Zy] at f;refine aG (cs:=gk) (L,((i+1:Nat):Int),()) (d.data.length-(i+1)) rfl ad (by rw [wrap_i64 ad ad]; rfl) ?_;exact ⟨i+1,rfl,rfl,ad,m.trans t,b2.ai t aj,by rw [ht]; exact F.snoc (AA.item o),f⟩
 intro q;have q:=Zf q
 have:i=d.data.length:=ad
 subst this;rw [ai9,List.all_nil,Zy] at f;rw [ZA] at F;refine aU (cs:=gk) (fun y w h'=>∃ i:Nat,y.2.1=(i:Int)/\w=d.bf.length-i/\i<=d.bf.length/\Ext h h'/\bF h' h.size 30 [V.v,Y.v,Z.v,c.v]/\AA ((d.bf.take i).map (·.1))/\((d.bf.drop i).all GX && (decide (fW d).Nodup && dq (fW d) dV d.aQ))=U) (L,(0:Int),()) d.bf.length rfl
  ⟨0,rfl,rfl,ad,m,b2,fun g s=>by simp at s,f⟩ ?_
 clear f m b2;rintro ⟨M,n42,⟨⟩⟩ w h4 ⟨i,hi,rfl,r,m,b2,G,f⟩;simp only at hi;subst hi;refine ak ?_;refine az b2 ((Z.p,Z.l,Z.c),()) (ak ?_);refine ao ?_ ?_
 case _ =>
  intro q;have q:=Y3 q;have j:i<d.bf.length:=ad
  refine az b2 ((Z.p,Z.l,Z.c),()) (ak ?_);obtain ⟨aa,pp,K,D,rfl',hc,z,vn⟩:=(v.bf.ai m).cells i j;rw [sP _ _ j] at f;have ht:(d.bf.take (i+1)).map (·.1)=(d.bf.take i).map (·.1)++[d.bf[i].1]:=by rw [Y2 j,Za]; rfl
  generalize d.bf[i]=x at hc z vn f ht;unfold GX at f;refine dO (aH rfl' ?_);rw [cB i];refine av (x.1,()) ⟨hc.1,trivial⟩ (ak ?_);refine aM (tZ x.1 _ (by have:maxLen=9223372036854775807:=rfl; omega)) ?_;cases r:dr x.1.data.toList with
  | false =>
   refine cL aj ?_;refine ⟨by rw [<- f,r]; rfl,m⟩
  | true =>
   refine cC aj ?_;rw [r,Zy] at f;refine az b2 ((Z.p,Z.l,Z.c),()) (ak ?_);refine dO (aH rfl' ?_);refine av ((pp,K,D),(x.2.num:Int),()) ⟨by rw [add_add]; exact hc.2.1,by rw [add_add]; exact hc.2.2.1,trivial⟩ ?_;refine ak ?_;obtain ⟨w1,w2,w3⟩:=Yc z;refine iK (vh w1 w2 w3) ?_;intro h3 t;cases o:oR none x.2.ah with
   | false =>
    refine cL aj ?_;refine ⟨by rw [<- f,o]; rfl,m.trans t⟩
   | true =>
    refine cC aj ?_;rw [o,Zy] at f;refine aG (cs:=gk) (M,((i+1:Nat):Int),()) (d.bf.length-(i+1)) rfl ad (by rw [wrap_i64 ad ad]; rfl) ?_;exact ⟨i+1,rfl,rfl,ad,m.trans t,b2.ai t aj,by rw [ht]; exact G.snoc (fun g s=>by rw [Zh.1 s]; exact r),f⟩
 intro q;have q:=Zf q
 have:i=d.bf.length:=ad
 subst this;rw [ai9,List.all_nil,Zy] at f;rw [ZA] at G;refine az b2 ((V.p,V.l,V.c),(Y.p,Y.l,Y.c),(Z.p,Z.l,Z.c),(c.p,c.l,c.c),()) (ak ?_);refine aJ (Ov (v.ai m) ad ad ad) ?_;rintro _ h5 ⟨N,O,P,rfl,s5,e5⟩;refine ⟨((N,O,P),()),rfl,ak ?_⟩;have hA:(fW d).length<=2^20:=by
  unfold fW
  have:=wI d.text
  have:=wI d.data
  simp only [List.length_append,List.length_map];omega
 have n5:=SN.len s5;refine aJ (ul s5 ad) ?_;rintro _ h6 ⟨p41,l43,ys,rfl,hy1,Q,e6⟩;refine ⟨((p41,ys.length,l43),()),rfl,ak ?_⟩;have e56:=e5.trans e6;have e06:=m.trans e56
 by_cases A:(fW d).Nodup
 case neg =>
  rw [Y6 A] at f;refine cL ?_ ⟨by rw [<- f]; rfl,e06⟩
  have:¬ ys.length=(fW d).length:=fun k=>A (Q.1 k)
  rw [n5];simp only [bne_iff_ne,ne_eq];omega
 rw [Y4 A,Zy] at f;have hy:=Q.2 A;refine cC (by rw [n5,hy]; simp) ?_;have s6:SN h6 h4.size N O P (fW d):=s5.ai e6 aj;have b6:=b2.ai e56 aj;have B:∀ g,g∈fW d->iP dV g:=fun g s=>FH (((C.snoc F).snoc G) g s)
 generalize fW d=E at f s6 hA B;refine aU (cs:=gk) (fun y w h'=>∃ i:Nat,y.2.1=(i:Int)/\w=d.aQ.length-i/\i<=d.aQ.length/\h'=h6/\dq E (pt d.aQ i) (d.aQ.drop i)=U) (M,(0:Int),()) d.aQ.length rfl
  ⟨0,rfl,rfl,ad,rfl,f⟩ ?_
 clear f;rintro ⟨R,n52,⟨⟩⟩ w h7 ⟨i,hi,rfl,hile,rfl,f⟩;simp only at hi;subst hi;refine ak ?_;refine az b6 ((c.p,c.l,c.c),()) (ak ?_);refine aP ?_ ?_<;>intro q
 ·have j:i<d.aQ.length:=ad
  obtain ⟨aa,rfl',hc,z⟩:=(v.aQ.ai e06).cells i j;rw [xf _ _ j] at f;unfold Ss at f;refine aP ?_ ?_<;>intro r2
  ·refine az b6 ((c.p,c.l,c.c),()) (ak ?_);refine dO (aH rfl' ?_);rw [cB i,wrap_i64 (x:=(i:Int)-1) ad ad];refine av (d.aQ[i],()) hc (ak ?_);refine az b6 ((c.p,c.l,c.c),()) (ak ?_);obtain ⟨ab,H,S,va'⟩:=(v.aQ.ai e06).cells (i-1) ad;refine dO (aH H ?_);rw [show Int.toNat ((i:Int)-1)=i-1 from ad];refine av (d.aQ[i-1],()) S (ak ?_);have hla:pt d.aQ i=d.aQ[i-1]:=by
    unfold pt;rw [Y1 ad,ZS,YZ ad] <;> rfl
   rw [leB];rw [hla] at f;refine ao ?_ ?_<;>intro I
   ·have I:decide (iP d.aQ[i-1] d.aQ[i])=false:=by simpa using I
    exact ⟨by rw [<- f,I,cn9]; rfl,e06⟩
   ·have I:decide (iP d.aQ[i-1] d.aQ[i])=true:=by simpa using I
    rw [I,au9] at f;refine az b6 ((c.p,c.l,c.c),()) (ak ?_);refine dO (aH rfl' ?_);refine av (d.aQ[i],()) hc (ak ?_);refine aM (Ea s6 ad _) ?_;refine ⟨⟨b6.cells _ rfl,S,b6.cells _ rfl,hc,b6.cells _ rfl,trivial⟩,?_⟩;cases o:gz E d.aQ[i] with
    | false =>
     refine cL aj ?_;exact ⟨by rw [<- f,o]; rfl,e06⟩
    | true =>
     refine cC aj ?_;rw [o,Zy] at f;exact aG (cs:=gk) (R,((i+1:Nat):Int),()) (d.aQ.length-(i+1)) rfl ad (by rw [wrap_i64 ad ad]; rfl) ⟨i+1,rfl,rfl,ad,rfl,f⟩
  ·have hi0:i=0:=ad
   subst hi0;refine az b6 ((c.p,c.l,c.c),()) (ak ?_);refine dO (aH rfl' ?_);refine av (d.aQ[0],()) hc (ak ?_);refine aM (Ea s6 ad _) ?_;refine ⟨⟨b6.cells _ rfl,trivial⟩,?_⟩;cases o:gz E d.aQ[0] with
   | false =>
    refine cL aj ?_;exact ⟨by rw [<- f,o]; rfl,e06⟩
   | true =>
    refine cC aj ?_;have s:decide (iP (pt d.aQ 0) d.aQ[0])=true:=Y4 (B _ (qD.1 o));rw [o,s,Zy,Zy] at f;exact aG (cs:=gk) (R,((0+1:Nat):Int),()) (d.aQ.length-(0+1)) rfl ad (by rw [wrap_i64 ad ad]; rfl) ⟨0+1,rfl,rfl,ad,rfl,f⟩
 ·have:i=d.aQ.length:=ad
  subst this;rw [ai9] at f;exact ⟨by rw [<- f]; rfl,e06⟩
open Go.Proofs Go.Sx.BB
def Ak.at {h h0:Hp} {b:Nat} {p:Xac} {l c:Nat} {ws:List (cd × cH)} {us:List cH} (s:Ak h b p l c ws) (e:ws.map (·.2)=us) (v:zV h0 p0 l0 us):zV h p l us:=by
 subst e;refine ⟨by rw [s.len,YY],v.many,fun i hi=>?_⟩;obtain ⟨_,_,_,_,_,_,d⟩:=v.cells i hi;rw [YY] at hi;obtain ⟨a,f,hc⟩:=SL.at_ s.sl (i:=i) (by rw [YY]; exact hi);rw [Y7] at hc d ⊢;exact ⟨a,_,_,_,f,hc,⟨⟨Sx.SL.Qk (s.own _ (Y5 hi)),d.lin.many,d.lin.names⟩,d.name,d.op⟩⟩
def Tw.at {h h0:Hp} {b:Nat} {p:Xac} {l c:Nat} {ws:List (cd × oh)} {us:List oh} (s:Tw h b p l c ws) (f:ws.map (·.2)=us) (v:rW h0 p0 l0 us):rW h p l us:=by
 subst f;refine ⟨by rw [s.len,YY],v.many,fun i hi=>?_⟩;obtain ⟨_,_,_,_,_,_,d,e⟩:=v.cells i hi;rw [YY] at hi;obtain ⟨a,g,hc⟩:=SL.at_ s.sl (i:=i) (by rw [YY]; exact hi);rw [Y7] at hc d e ⊢;exact ⟨a,_,_,_,g,hc,⟨Sx.SL.Qk (s.own _ (Y5 hi)),d.many,d.names⟩,e⟩
def SN.at {h h0:Hp} {b:Nat} {p:Xac} {l c:Nat} {us:List Xaa} (s:SN h b p l c us) (v:Mg h0 p0 l0 us):Mg h p l us:=by
 refine ⟨SN.len s,v.many,fun i hi=>?_⟩;obtain ⟨_,_,_,d⟩:=v.cells i hi;obtain ⟨a,e,hc⟩:=SN.cell s hi;exact ⟨a,e,hc,d⟩
def yu.ch {lo hi:Nat} {h h':Hp} (b:yu lo hi h h'):Ch (List.range' lo (hi-lo)) h h' :=
 ⟨b.1,fun i hi hn=>b.2 i hi (by rw [bk9] at hn; omega)⟩
def XN {J a:List Xab->Hp->Prop} {d:Nat} (h:I.length=d):(I++[J]++[a])[d]?=some J:=by
 subst h;rw [Zp]
 simp
def Yd {J J':List Xab->Hp->Prop} {d:Nat} (h:I.length=d):(I++[J]++[J'])[d+1]?=some J':=by
 subst h
 simp
def Ex (d:Nat) (e:Xac) (b:Nat) (k:T):T :=
 T.loop [aK] [vI (0:Int)] <| fun (a:Int) =>
 bn a b
  (T.loop [aK] [vI (0:Int)] <| fun (c:Int) =>
  T.need (dF a b) <|
  T.aR e <| fun (g:Xax) =>
  T.af ((g.add (ay a 10)).add 7) [.slice 66] <| fun (m:Xac) (h n:Nat) =>
  bn c h
  (T.need (dF a b) <|
  T.aR e <| fun (f:Xax) =>
  T.af ((f.add (ay a 10)).add 7) [.slice 66] <| fun (i:Xac) (j o:Nat) =>
  T.need (dF c j) <|
  T.aR i <| fun (l:Xax) =>
  T.ar (l.add (ay c 2)) [.string ⟨#[115,112,111,105,108,116]⟩,ax (0:Int)] <|
  T.again (d+1) [vI (bC (c+(1:Int)))])
  (T.need (dF a b) <|
  T.aR e <| fun (f:Xax) =>
  T.ar (f.add (ay a 10)) PI <|
  T.again d [vI (bC (a+(1:Int)))]))
  k
def vq {L0:Lp} {dd:Nat} (M:L0.length=dd) {K:Xab->Hp->Prop} {hq h:Hp} {lo:Nat} {p:Xac} {l c:Nat} {us:List (cd × cH)} (o:Ak hq lo p l c us) (hn:us.length<=2^40) (S:lo<=hq.size) (V:hq.size<=h.size)
  (Inv:Hp->Prop) (n:∀ a b ws,Inv a->Ch ws a b->(∀ i,i∈ws->(i∈aF p\/∃ G,bF a i 66 G))->(∀ i,i∈ws->lo<=i/\i<hq.size)->Inv b)
  (f:yu lo hq.size h h1) (sh:Hw hq h1) (N:SL h1 lo 64 10 p l c (us.map fun u=>encI u.1.p u.1.l u.1.c u.2)) (O:Inv h1)
  (hk:∀ h2 J,yu lo hq.size h h2->Hw hq h2->Inv h2->U (L0++[J]) K h2):Ex dd p l U L0 K h1:=by
 unfold Ex bn ay bC dF ax aK;have hlen:=o.len;refine aU (cs:=cn) (fun y m h'=>∃ (i:Nat) (A:List (List Xab)),y.1=(i:Int)/\i<=l/\m=l-i/\yu lo hq.size h h'/\Hw hq h'/\Inv h'/\SL h' lo 64 10 p l c A/\∀ j,i<=j->A[j]?=(us.map fun u=>encI u.1.p u.1.l u.1.c u.2)[j]?) ((0:Int),()) l rfl
  ⟨0,_,rfl,ad,ad,f,sh,O,N,fun _ _=>rfl⟩ ?_
 clear N O f sh;rintro ⟨W,⟨⟩⟩ m h2 ⟨i,A,hi,X,rfl,f,sh,w,s,B⟩;simp only at hi;subst hi;refine ak ?_;refine ao (fun q=>?_) (fun q=>hk h2 _ f sh w);have q:=Y3 q;have C:i<us.length:=ad
 have hxl:=s.1;have hxi:=B i (Zc _);rw [ZL,YZ C,YZ ad] at hxi;have hxi:=Zl hxi;have ot:=o.own us[i] (Y5 C);have hob:=fun j d=>(Ob.SL.cj o.sl j d)
 generalize us[i]=u at hxi ot;have Y:u.1.l=u.2.e.ah.length:=by rw [ot.1,YY]
 have H:u.1.l<=9223372036854775807:=by
  cases x:u.1.p with
  | none =>
   have h3:=ot.2.2;rw [x] at h3;have h1:=ot.1;rw [h3.2] at h1;simp at h1;omega
  | some a =>
   have h3:=ot.2.2;rw [x] at h3;obtain ⟨g,Z,rest,_,_,hlc,_⟩:=h3;omega
 refine aU (cs:=cn) (fun y m h'=>∃ (t:Nat),y.1=(t:Int)/\t<=u.1.l/\m=u.1.l-t/\yu lo hq.size h h'/\Hw hq h'/\Inv h'/\SL h' lo 64 10 p l c A) ((0:Int),()) u.1.l rfl
  ⟨0,rfl,ad,ad,f,sh,w,s⟩ ?_
 clear f sh w s;rintro ⟨n17,⟨⟩⟩ m h3 ⟨t,Q,htl,rfl,f,sh,w,s⟩;simp only at Q;subst Q;refine ak ?_;obtain ⟨a,F,hc⟩:=Sx.SL.cells s (i:=i) ad;rw [hxi] at hc;have D:aI h3 ((a.add (i*10)).add 7) 0 [.slice u.1.p u.1.l u.1.c]:=⟨by rw [add_add]; exact hc.2.2.2.2.2.2.2.1,trivial⟩
 refine bP F ?_;rw [cB i];refine av ((u.1.p,u.1.l,u.1.c),()) D (ak ?_);refine aP ?_ ?_<;>intro r
 ·refine bP F ?_;refine av ((u.1.p,u.1.l,u.1.c),()) D (ak ?_);have x:∃ b,u.1.p=some b:=by
   cases x:u.1.p with
   | none =>
    have h3:=ot.2.2;rw [x] at h3;have h1:=ot.1;rw [h3.2] at h1;simp at h1;omega
   | some b=>exact ⟨b,rfl⟩
  obtain ⟨b,R⟩:=x;refine bP R ?_;rw [cB t];refine DJ ot f sh ad R ?_;intro h4 I L z E;rw [wrap_i64 ad ad];refine aG (cs:=cn) (((t+1:Nat):Int),()) (u.1.l-(t+1)) (Yd M) ad rfl ?_;exact ⟨t+1,rfl,ad,rfl,I,L,n _ _ _ w z (fun i hi=>.inr (E i hi)) (fun i hi=>Ob.SL.cj ot i hi),SL.jT s z E bY⟩
 ·refine bP F ?_;refine SL.store (P:=Xaz) s (i:=i) (vs:=PI) ad rfl rfl F ?_;intro h4 s4 z z4;rw [wrap_i64 ad ad];refine aG (cs:=cn) (((i+1:Nat):Int),()) (l-(i+1)) (XN M) ad rfl ?_;refine ⟨i+1,A.set i PI,rfl,ad,rfl,f.step z (fun j d _=>hob j d),sh.ai z (fun j d _=>?_),n _ _ _ w z (fun j d=>.inl d) (fun j d=>hob j d),s4,fun j d=>?_⟩
  ·obtain ⟨G,hy⟩:=Ob.SL.r6 s j d;exact ⟨64,G,hy,bY⟩
  ·rw [aa9 ad];exact B j ad
def IX {j0:List Xab->Hp->Prop} {k h:Hp} {lo:Nat} {b:cd} {us:List (cd × oh)} (o:Tw k lo Y.p Y.l Y.c us) (L:SN k lo Z.p Z.l Z.c H) (hn:us.length<=2^40) (hg:H.length<=2^40) (hlo:lo<=k.size) (hqh:k.size<=h.size)
  (f:yu lo k.size h h1) (sh:Hw k h1) (U:SL h1 lo 88 3 Y.p Y.l Y.c (us.map fun u=>zX u.1.p u.1.l u.1.c u.2)) (W:SL h1 lo 9 1 Z.p Z.l Z.c (H.map HW)) (e:bF h1 h.size 30 [V.v,b.v,Y.v,Z.v]) :
  Mx ⟨h.size,0,none⟩ [j0] (Ja lo k.size h) h1:=by
 unfold Mx bn ay bC dF ax bK aS aK;have hlen:=o.len;have hgl:Z.l=H.length:=by
  have:=L.1
  rwa [YY] at this
 simp only [aC];have hap:=qz o.sl L bY;have hob:=fun j n=>(Ob.SL.cj o.sl j n)
 have hgb:=fun j n=>(Ob.SL.cj L j n)
 refine aU (cs:=cn) (fun y m h'=>∃ (i:Nat) (J:List (List Xab)),y.1=(i:Int)/\i<=Y.l/\m=Y.l-i/\yu lo k.size h h'/\Hw k h'/\SL h' lo 9 1 Z.p Z.l Z.c (H.map HW)/\bF h' h.size 30 [V.v,b.v,Y.v,Z.v]/\SL h' lo 88 3 Y.p Y.l Y.c J/\∀ j,i<=j->J[j]?=(us.map fun u=>zX u.1.p u.1.l u.1.c u.2)[j]?) ((0:Int),()) Y.l rfl
  ⟨0,_,rfl,ad,ad,f,sh,W,e,U,fun _ _=>rfl⟩ ?_
 clear U W f sh e;rintro ⟨n12,⟨⟩⟩ m h2 ⟨i,J,hi,hil,rfl,f,sh,A,e,s,D⟩;simp only at hi;subst hi;refine ak ?_;refine az e ((Y.p,Y.l,Y.c),()) (ak ?_);refine aP ?_ ?_<;>intro q
 ·have E:i<us.length:=ad
  have hxl:=s.1;have hxi:=D i (Zc _);rw [ZL,YZ E,YZ ad] at hxi;have hxi:=Zl hxi;have ot:=o.own us[i] (Y5 E);generalize us[i]=u at hxi ot;have w:u.1.p=none->u.1.l=0:=fun z=>by
   have h3:=ot.2.2;rw [z] at h3;have h1:=ot.1;rw [h3.2] at h1;exact h1
  have M:u.1.l<=9223372036854775807:=by
   cases z:u.1.p with
   | none=>have:=w z; omega
   | some V =>
    have h3:=ot.2.2;rw [z] at h3;obtain ⟨g,pre,rest,_,_,hlc,_⟩:=h3;omega
  refine aU (cs:=cn) (fun y m h'=>∃ (t:Nat),y.1=(t:Int)/\t<=u.1.l/\m=u.1.l-t/\yu lo k.size h h'/\Hw k h'/\SL h' lo 9 1 Z.p Z.l Z.c (H.map HW)/\bF h' h.size 30 [V.v,b.v,Y.v,Z.v]/\SL h' lo 88 3 Y.p Y.l Y.c J) ((0:Int),()) u.1.l rfl
   ⟨0,rfl,ad,ad,f,sh,A,e,s⟩ ?_
  clear f sh A e s;rintro ⟨N,⟨⟩⟩ m h3 ⟨t,F,O,rfl,f,sh,A,e,s⟩;simp only at F;subst F;refine ak ?_;refine az e ((Y.p,Y.l,Y.c),()) (ak ?_);obtain ⟨X,B,hc⟩:=Sx.SL.cells s (i:=i) ad;rw [hxi] at hc;have G:aI h3 ((X.add (i*3)).add 1) 0 [.slice u.1.p u.1.l u.1.c]:=⟨by rw [add_add]; exact hc.2.1,trivial⟩
  refine bP B ?_;rw [cB i];refine av ((u.1.p,u.1.l,u.1.c),()) G (ak ?_);refine aP ?_ ?_<;>intro r
  ·refine az e ((Y.p,Y.l,Y.c),()) (ak ?_);refine bP B ?_;refine av ((u.1.p,u.1.l,u.1.c),()) G (ak ?_);have z:∃ b,u.1.p=some b:=by
    cases z:u.1.p with
    | none=>have:=w z; omega
    | some b=>exact ⟨b,rfl⟩
   obtain ⟨b,hb⟩:=z;refine bP hb ?_;rw [cB t];refine DJ ot f sh ad hb ?_;intro h4 Q R x I;rw [wrap_i64 ad ad];refine aG (cs:=cn) (((t+1:Nat):Int),()) (u.1.l-(t+1)) rfl ad rfl ?_;exact ⟨t+1,rfl,ad,rfl,Q,R,SL.jT A x I bY,e.ai x (fun C=>by have:=(Ob.SL.cj ot _ C).2; omega),SL.jT s x I bY⟩
  ·refine az e ((Y.p,Y.l,Y.c),()) (ak ?_);refine bP B ?_;refine SL.store (P:=Xaz) s (i:=i) (vs:=[.string ⟨#[115,112,111,105,108,116]⟩,.slice none 0 0,.int .u32 (0:Int)]) ad rfl rfl B ?_;intro h4 S x z4;rw [wrap_i64 ad ad];refine aG (cs:=cn) (((i+1:Nat):Int),()) (Y.l-(i+1)) rfl ad rfl ?_;refine ⟨i+1,_,rfl,ad,rfl,f.step x (fun j n _=>hob j n),sh.ai x (fun j n _=>?_),Sx.SL.br A x (fun j n C=>hap j C n),e.ai x (fun C=>by have:=(hob _ C).2; omega),S,fun j n=>?_⟩
   ·obtain ⟨K,hy⟩:=Ob.SL.r6 s j n;exact ⟨88,K,hy,bY⟩
   ·rw [aa9 ad];exact D j ad
 ·refine aU (cs:=cn) (fun y m h'=>∃ (i:Nat) (K:List (List Xab)),y.1=(i:Int)/\i<=Z.l/\m=Z.l-i/\yu lo k.size h h'/\bF h' h.size 30 [V.v,b.v,Y.v,Z.v]/\SL h' lo 9 1 Z.p Z.l Z.c K) ((0:Int),()) Z.l rfl
   ⟨0,_,rfl,ad,ad,f,e,A⟩ ?_
  clear f sh A e s;rintro ⟨N,⟨⟩⟩ m h3 ⟨t,K,F,O,rfl,f,e,s⟩;simp only at F;subst F;refine ak ?_;refine az e ((Z.p,Z.l,Z.c),()) (ak ?_);refine ao (fun r=>?_) (fun r=>⟨rfl,f⟩);have r:=Y3 r;refine az e ((Z.p,Z.l,Z.c),()) (ak ?_);have hyl:=s.1;obtain ⟨X,B,hc⟩:=Sx.SL.cells s (i:=t) ad;refine bP B ?_;rw [cB t];refine SL.store (P:=Xaz) s (i:=t) (vs:=[.string ⟨#[115,112,111,105,108,116]⟩]) ad rfl rfl B ?_;intro h4 S x z4;rw [wrap_i64 ad ad];refine aG (cs:=cn) (((t+1:Nat):Int),()) (Z.l-(t+1)) rfl ad rfl ?_;exact ⟨t+1,_,rfl,ad,rfl,f.step x (fun j n _=>hgb j n),e.ai x (fun C=>by have:=(hgb _ C).2; omega),S⟩
structure HU (h:Hp) (b0:Nat) (a b c d:cd) (u:bU):Prop where
 text:∃ us,us.map (·.2)=u.text/\us.length<=2^40/\Ak h b0 a.p a.l a.c us
 data:∃ us,us.map (·.2)=u.data/\us.length<=2^40/\Ak h b0 b.p b.l b.c us
 bf:∃ us,us.map (·.2)=u.bf/\us.length<=2^40/\Tw h b0 c.p c.l c.c us
 aQ:SN h b0 d.p d.l d.c u.aQ
 Yn:u.aQ.length<=2^40
def K2 {i h:Hp} {lo:Nat} (o:HU i lo V Y Z c d) (ap:HA V Y) (e:Ext i h) (j:lo<=i.size):HC Xaz 25 #[qp V Y Z c] h (Ja lo i.size h):=by
 refine bi (args:=[qp V Y Z c]) mixed Tryz.func25 aw (oZ V.p V.l V.c Y.p Y.l Y.c Z.p Z.l Z.c c.p c.l c.c) ?_;unfold kL aY bj bn ay aT ax bK aS cm aK;obtain ⟨⟨R,_,S,F⟩,⟨Q,_,U,G⟩,⟨K,_,W,H⟩,I,X⟩:=o;have hqh:=e.size;refine bG ?_;intro h1 b1 L z1;have b1:bF h1 h.size 30 [V.v,Y.v,Z.v,c.v]:=b1;rw [aC];refine az b1 ((V.p,V.l,V.c),()) (ak ?_);refine az b1 ((Y.p,Y.l,Y.c),()) (ak ?_);refine mF KH Xu ad ad (Kx V.p V.l V.c Y.p Y.l Y.c) ?_;intro h2 b2 M z2;have b2:bF h2 h1.size 26 [V.v,Y.v]:=b2;have b12:=b1.ai M aj;have e02:=(e.trans L).trans M;have C:yu lo i.size h h2:=(yu.refl _ _ _).step (L.trans M) aj;have D:Hw i h2:=fun g cells bx=>⟨cells,bx.ai e02 aj,rfl⟩
 have sT:=F.sl.ai e02 aj;have sD:=G.sl.ai e02 aj;have sE:=H.sl.ai e02 aj;have sG:=I.ai e02 aj;have aTE:=qz F.sl H.sl bY;have aTG:=qz F.sl I bY;have aDE:=qz G.sl H.sl bY;have aDG:=qz G.sl I bY;have hz1:=L.size
 refine aU (cs:=cn) (fun y m h'=>∃ k:Nat,y.1=(k:Int)/\k<=2/\m=2-k/\yu lo i.size h h'/\Hw i h'/\bF h' h.size 30 [V.v,Y.v,Z.v,c.v]/\bF h' h1.size 26 [V.v,Y.v]/\(k=0->SL h' lo 64 10 V.p V.l V.c (R.map fun d=>encI d.1.p d.1.l d.1.c d.2))/\(k<=1->SL h' lo 64 10 Y.p Y.l Y.c (Q.map fun d=>encI d.1.p d.1.l d.1.c d.2)) /\
   SL h' lo 88 3 Z.p Z.l Z.c (K.map fun d=>zX d.1.p d.1.l d.1.c d.2)/\SL h' lo 9 1 c.p c.l c.c (d.aQ.map HW)) ((0:Int),()) 2 rfl
  ⟨0,rfl,ad,ad,C,D,b12,b2,fun _=>sT,fun _=>sD,sE,sG⟩ ?_
 clear C D b12 b2 sT sD sE sG;rintro ⟨n11,⟨⟩⟩ m h3 ⟨k,hk,hk2,rfl,N,sh,O,bb,sT,sD,sE,sG⟩;simp only at hk;subst hk;refine ak ?_;refine aP ?_ ?_<;>intro q
 ·have hk:k=0\/k=1:=ad
  rcases hk with rfl | rfl
  ·refine bP rfl ?_;rw [aC];refine az bb ((V.p,V.l,V.c),()) ?_;refine vq (L0:=[_]) (dd:=1) rfl (Inv:=fun h'=>bF h' h.size 30 [V.v,Y.v,Z.v,c.v]/\bF h' h1.size 26 [V.v,Y.v]/\SL h' lo 64 10 Y.p Y.l Y.c (Q.map fun d=>encI d.1.p d.1.l d.1.c d.2)/\SL h' lo 88 3 Z.p Z.l Z.c (K.map fun d=>zX d.1.p d.1.l d.1.c d.2)/\SL h' lo 9 1 c.p c.l c.c (d.aQ.map HW))
    F S j hqh ?_ N sh (sT rfl) ⟨O,bb,sD ad,sE,sG⟩ ?_
   ·rintro x y ws ⟨n,r,P,s,t⟩ f B E;exact ⟨n.ai f (fun w=>by have:=E _ w; omega),r.ai f (fun w=>by have:=E _ w; omega),SL.Gi P f B ap bY,SL.Gi s f B aTE bY,SL.Gi t f B aTG bY⟩
   ·rintro h4 J z A ⟨n,r,P,s,t⟩;refine aG (cs:=cn) (((0+1:Nat):Int),()) (2-(0+1)) rfl ad (by rw [wrap_i64 ad ad]; rfl) ?_;exact ⟨0+1,rfl,ad,rfl,z,A,n,r,fun h=>ad,fun _=>P,s,t⟩
  ·refine bP rfl ?_;rw [aC];refine az bb ((Y.p,Y.l,Y.c),()) ?_;refine vq (L0:=[_]) (dd:=1) rfl (Inv:=fun h'=>bF h' h.size 30 [V.v,Y.v,Z.v,c.v]/\bF h' h1.size 26 [V.v,Y.v]/\SL h' lo 88 3 Z.p Z.l Z.c (K.map fun d=>zX d.1.p d.1.l d.1.c d.2)/\SL h' lo 9 1 c.p c.l c.c (d.aQ.map HW))
    G U j hqh ?_ N sh (sD ad) ⟨O,bb,sE,sG⟩ ?_
   ·rintro x y ws ⟨n,r,s,t⟩ f B E;exact ⟨n.ai f (fun w=>by have:=E _ w; omega),r.ai f (fun w=>by have:=E _ w; omega),SL.Gi s f B aDE bY,SL.Gi t f B aDG bY⟩
   ·rintro h4 J z A ⟨n,r,s,t⟩;refine aG (cs:=cn) (((1+1:Nat):Int),()) (2-(1+1)) rfl ad (by rw [wrap_i64 ad ad]; rfl) ?_;exact ⟨1+1,rfl,ad,rfl,z,A,n,r,fun h=>ad,fun h=>ad,s,t⟩
 ·exact IX H I W X j hqh N sh sE sG O
end Go.Sx.Ob
namespace Go.Sx
open Go.Proofs
section any
variable {P:Program} {h:Hp}
end any
def iV (h:Hp):Prop:=∃ e f,h[1]?=some (.cells (Lib.pow10Tab.map fun z=>Value.int .u64 z).toArray e f)
variable {H:Hp}
def iV.ai {ws:List Nat} {h':Hp} (p:iV H) (k:Ch ws H h') (a:∀ i,i∈ws->1<i):iV h':=by
 obtain ⟨e,f,b⟩:=p;exact ⟨e,f,k.get b (fun c=>by have:=a _ c; omega)⟩
def Je {W:World} {name:String} (a:Tryz.prog.globalNamed name=some 1) (p:iV W.heap):Lib.TabIs Xaz W name .u64 Lib.pow10Tab:=by
 obtain ⟨e,f,b⟩:=p;unfold Lib.TabIs World.var?;rw [a];show (match W.heap[1]? with | some (.cells cs _ _)=>some cs | _=>none)=_;rw [b]
def yx (p:iV H) (u:Nat) (h1:1<=u) (h2:u<18446744073709551616):xL Xaz 131 [.int .u64 u] H (vI (Lib.nDigits u)):=by
 intro W a;refine ((Any.internal_strconv_numDigits Tryz.Oz u h1 h2 W (Je aw (by rw [a]; exact p))).mono ?_);rintro e w' ⟨c,b⟩;exact ⟨_,c,by rw [b]; exact ec.refl W,rfl,by rw [b]; exact a⟩
def gQ (n:Nat):Xaa:=⟨(Lib.decDigits n).toArray⟩
def hQ (f:Xaa->Nat):dz->Nat
 | []=>0
 | p::l=>p.2*f p.1+hQ f l
def fy (f:Xaa->Nat) (p:Xaa × Nat) (l:dz):hQ f (p::l)=p.2*f p.1+hQ f l:=rfl
def ON (a b:Nat):a % 4294967296*b % 4294967296=a*b % 4294967296:=by rw [cp9,cz9,<- cp9]
section
variable {α:Type}
def vE (a:α->Xab) (D:List (Xaa × α)):List (Xaa × Xab):=D.map fun p=>(p.1,a p.2)
def gE (D:List (Xaa × α)) (s:Xaa):Option α:=(D.find? fun p=>decide (s=p.1)).map (·.2)
def pE (D:List (Xaa × α)) (s:Xaa) (v:α):List (Xaa × α):=if (gE D s).isSome then D.map fun p=>if s=p.1 then (p.1,v) else p else D++[(s,v)]
def n' (en:α->Xab) (D:List (Xaa × α)) (s:Xaa):look (vE en D) s=(gE D s).map en:=by
 unfold look gE vE
 induction D with
 | nil=>rfl
 | cons p D a =>
  by_cases h:s=p.1
  ·simp [h]
  ·simp only [List.map_cons,List.find?_cons,decide_eq_false h];exact a
def Im (a:α->Xab) (D:List (Xaa × α)) (s:Xaa) (v:α):kR (vE a D) s (a v)=vE a (pE D s v):=by
 unfold kR pE;rw [n'];cases h:gE D s with
 | none=>simp [vE]
 | some q =>
  simp only [Option.map_some,Option.isSome_some,if_true,vE,List.map_map];refine ZR fun p b=>?_
  simp only [Function.comp];split <;> simp_all
def yo (D:List (Xaa × α)) (s:Xaa) (v:α):(pE D s v).length=if (gE D s).isSome then D.length else D.length+1:=by
 unfold pE;split <;> simp
def yr (D:List (Xaa × α)) (s t:Xaa) (v:α):gE (D++[(s,v)]) t=(gE D t).or (if t=s then some v else none):=by
 unfold gE;rw [List.find?_append];cases h:D.find? (fun p=>decide (t=p.1)) with
 | some q=>simp
 | none =>
  simp only [Option.none_or,Option.map_none,List.find?_cons,List.find?_nil]
  by_cases e:t=s
  ·simp [e]
  ·simp [e]
def HP (D:List (Xaa × α)) (s t:Xaa) (v:α) (f:(gE D s).isSome):gE (D.map fun p=>if s=p.1 then (p.1,v) else p) t=if t=s then some v else gE D t:=by
 unfold gE at *
 induction D with
 | nil=>simp at f
 | cons p D g =>
  by_cases h:s=p.1
  ·by_cases e:t=s
   ·simp [h,e]
   ·have i:¬ t=p.1:=fun k=>e (k.trans h.symm)
    have j:∀ l:List (Xaa × α),(List.find? (fun p=>decide (t=p.1)) (List.map (fun p=>if s=p.1 then (p.1,v) else p) l)).map (·.2)=(List.find? (fun p=>decide (t=p.1)) l).map (·.2):=by
     intro l
     induction l with
     | nil=>rfl
     | cons q l b =>
      by_cases c:s=q.1
      ·have:¬ t=q.1:=fun k=>e (k.trans c.symm)
       simp only [List.map_cons,List.find?_cons,if_pos c,decide_eq_false this];exact b
      ·simp only [List.map_cons,List.find?_cons,if_neg c]
       by_cases a:t=q.1
       ·simp [a]
       ·simp only [decide_eq_false a];exact b
    simp only [List.map_cons,List.find?_cons,if_pos h,decide_eq_false i,if_neg e];exact j D
  ·have d:(Option.map (fun x=>x.2) (List.find? (fun p=>decide (s=p.1)) D)).isSome:=by
    simpa [List.find?_cons,decide_eq_false h] using f
   simp only [List.map_cons,List.find?_cons,if_neg h]
   by_cases a:t=p.1
   ·have:¬ t=s:=fun k=>h (k.symm.trans a)
    simp [a,if_neg (a▸this)]
   ·simp only [decide_eq_false a];exact g d
def Py (D:List (Xaa × α)) (s:Xaa) (v:α) (t:Xaa):gE (pE D s v) t=if t=s then some v else gE D t:=by
 unfold pE;split
 ·rename_i h;exact HP D s t v h
 ·rename_i h;rw [yr]
  by_cases e:t=s
  ·subst e
   have:gE D t=none:=by simpa using h
   rw [this]; simp
  ·simp [e]
def dW (f:Xaa->Option α) (s:Xaa) (v:α):Xaa->Option α:=fun t=>if t=s then some v else f t
def cK (f:Xaa->Option α) (s:Xaa) (v:α):dW f s v s=some v:=by simp [dW]
def cv (f:Xaa->Option α) {s t:Xaa} (v:α) (h:t≠s):dW f s v t=f t:=by simp [dW,h]
def ez (a:α->Xab) (h:Hp) (g:Nat) (f:Xaa->Option α) (n:Nat):Prop:=∃ D:List (Xaa × α),fm h g (vE a D)/\(∀ s,gE D s=f s)/\D.length=n
def ez.ai {a:α->Xab} {ws:List Nat} {h h':Hp} {g:Nat} {f:Xaa->Option α} {n:Nat} (m:ez a h g f n) (k:Ch ws h h') (b:g∉ws):ez a h' g f n:=by
 obtain ⟨D,m,r⟩:=m;exact ⟨D,m.ai k b,r⟩
def ez.lt {a:α->Xab} {h:Hp} {g:Nat} {f:Xaa->Option α} {n:Nat} (m:ez a h g f n):g<h.size:=by
 obtain ⟨D,m,r⟩:=m;exact m.lt
def ez.new {a:α->Xab} {h:Hp} {g:Nat} (m:fm h g []):ez a h g (fun _=>none) 0:=⟨[],m,fun s=>rfl,rfl⟩
def ez.kR {en:α->Xab} {h':Hp} {g:Nat} {f:Xaa->Option α} {n:Nat} {D:List (Xaa × α)} (a:∀ s,gE D s=f s) (hn:D.length=n) {s:Xaa} {v:α} (m:fm h' g (Sx.kR (vE en D) s (en v))):ez en h' g (dW f s v) (if (f s).isSome then n else n+1):=by
 rw [Im] at m;refine ⟨_,m,fun t=>?_,?_⟩
 ·rw [Py,a t]; rfl
 ·rw [yo,a s,hn]
end
def eI (n:Nat):Xab:=vI (n:Int)
def eB (b:Bool):Xab:=.bool b
def Jt:Tryz.prog.underlying 97=some (.map 9 3):=aw
def Tf:Tryz.prog.underlying 142=some (.map 9 4):=aw
def T2:(Tryz.prog.info? 3).bind (·.zero)=some (vI 0):=aw
def OR:(Tryz.prog.info? 4).bind (·.zero)=some (.bool false):=aw
section
variable {L:Lp} {K:Xab->Hp->Prop} {h:Hp} {g n:Nat}
variable {H:Int->T}
def JV {f:Xaa->Option Nat} (m:ez eI h g f n) (s:Xaa) (hk:H (((f s).getD 0:Nat):Int) L K h):T.eN Xaz (Instr.lookup 97 (.map (some g)) (.string s) false) false [(false,[.int .i64])] H L K h:=by
 obtain ⟨D,m,a,hn⟩:=m;refine kb Jt yB T2 m s false _ ?_;refine ⟨((((f s).getD 0:Nat):Int),()),?_,hk⟩;simp only [Bool.false_eq_true,if_false];rw [n',a s]
 all_goals (cases f s <;> rfl)
def Er {f:Xaa->Option Nat} (m:ez eI h g f n) (s:Xaa) {k:Int->Bool->T} (hk:k (((f s).getD 0:Nat):Int) (f s).isSome L K h):T.eN Xaz (Instr.lookup 97 (.map (some g)) (.string s) true) true [(false,[.int .i64]),(false,[.bool])] k L K h:=by
 obtain ⟨D,m,a,hn⟩:=m;refine kb Jt yB T2 m s true _ ?_;refine ⟨((((f s).getD 0:Nat):Int),(f s).isSome,()),?_,hk⟩;rw [Y8 rfl,n',a s]
 all_goals (cases f s <;> rfl)
variable {I:Xaa->Option Bool}
def Oe (m:ez eB h g I n) (s:Xaa) {k:Bool->T} (hk:k ((I s).getD false) L K h):T.eN Xaz (Instr.lookup 142 (.map (some g)) (.string s) false) false [(false,[.bool])] k L K h:=by
 obtain ⟨D,m,a,hn⟩:=m;refine kb Tf yB OR m s false _ ?_;refine ⟨((I s).getD false,()),?_,hk⟩;simp only [Bool.false_eq_true,if_false];rw [n',a s]
 all_goals (cases I s <;> rfl)
variable {O:Xaa} {U:T}
def sy {f:Xaa->Option Nat} (m:ez eI h g f n) (a:O.size<=maxLen) {v:Int} {w:Nat} (hv:v=(w:Int)) (hk:∀ h',ez eI h' g (dW f O w) (if (f O).isSome then n else n+1)->Ch [g] h h'->h'.size=h.size->U L K h') :
  T.eV Xaz (Instr.mapUpdate 97 (.map (some g)) (.string O) (vI v)) U L K h:=by
 subst hv;obtain ⟨D,m,b,hn⟩:=m;refine gY Jt yB m a _ _ ?_;intro h' c c' d;exact hk h' (ez.kR (en:=eI) b hn c) c' d
def V4 (m:ez eB h g I n) (a:O.size<=maxLen) {b:Bool} (hk:∀ h',ez eB h' g (dW I O b) (if (I O).isSome then n else n+1)->Ch [g] h h'->h'.size=h.size->U L K h') :
  T.eV Xaz (Instr.mapUpdate 142 (.map (some g)) (.string O) (.bool b)) U L K h:=by
 obtain ⟨D,m,c,hn⟩:=m;refine gY Tf yB m a _ _ ?_;intro h' d c' e;exact hk h' (ez.kR (en:=eB) c hn d) c' e
def zG {α:Type} {en:α->Xab} {t:TypeId} {k:Option Nat->T} (hk:∀ h',ez en h' h.size (fun _=>none) 0->Ext h h'->h'.size=h.size+1->k (some h.size) L K h'):T.eN Xaz (Instr.makeMap t none) false [(false,[.map 0 0])] k L K h:=by
 refine nH _ ?_;intro h' m e z;exact ⟨(some h.size,()),rfl,hk h' (ez.new m) e z⟩
def X1 {α:Type} {en:α->Xab} {f:Xaa->Option α} (m:ez en h g f n) (hk:H (n:Int) L K h):T.eN Xaz (Builtin.len_ #[97] 3 #[.map (some g)]) false [(false,[.int .i64])] H L K h:=by
 obtain ⟨D,m,e,hn⟩:=m;obtain ⟨es,clock,b,c,d,i⟩:=m;have a:es.size=n:=by
  have:=Zg List.length c
  simpa [vE,hn] using this
 show aZ _ _ _ _;unfold Builtin.len_;simp only [List.getElem?_toArray,List.getElem?_cons_zero];rw [an,aE Jt];simp only [pure_bind];rw [an];refine gR b aj _ ?_;simp only [pure_bind];exact ⟨((n:Int),()),by rw [a]; rfl,hk⟩
def V' {a b:Nat} (hk:H ((min a b:Nat):Int) L K h):T.eN Xaz (Builtin.min_ #[3,3] 3 #[vI (a:Int),vI (b:Int)]) false [(false,[.int .i64])] H L K h:=by
 show aZ _ _ _ _;refine ⟨(((min a b:Nat):Int),()),?_,hk⟩;show Value.int .i64 (if (b:Int)<(a:Int) then (b:Int) else (a:Int))=vI ((min a b:Nat):Int)
 congr 1
 split <;> omega
end
end Go.Sx
