/- Contracts over heaps, part 2. Condition: as each statement says. -/
import Derived.Test.YtlpcncdglfjnoaaGreatDoorP1
import Derived.Test.YtlpcncdglfjnoaaGreatDoorBtC
import Derived.Test.YtlpcncdglfjnoaaGreatDoorBtD
import Derived.Test.YtlpcncdglfjnoaaGreatDoorBobjShelf
import Derived.Test.YtlpcncdglfjnoaaGreatDoorBtE
import Derived.LaidEql
import Derived.Stop.Asserts
import Derived.RowKitTokens
import Derived.Lib.ItoaLen
import Derived.Shelf.Strings.OnBuilder
import Derived.Shelf.Strconv.Itoa1
import Derived.Shelf.Strconv.Itoa2
import Derived.Shelf.Strings.Cut
import Derived.Lib.ItoaMem
set_option linter.all false
set_option maxRecDepth 100000
set_option maxHeartbeats 4000000
namespace Go.Sx.Ob
open Go.Proofs
variable {Y:cv}
def OX {y:cv} (a:Y.kind=y.kind) (b:Y.name=y.name) (c:Y.inst=y.inst) (d:Y.e=y.e) (f:Y.n=y.n):Y=y:=by
 cases Y;cases y
 simp_all
variable {Z:Lp} {a:XB->Hp->Prop} {i:Bool} {j:T}
def rF {h:Hp} {u:T} (c:i=false->u Z a h) (d:i=true->j Z a h):(cond i j u) Z a h:=an d c
def PL (l0 c:Nat) (a:Int->T->T):T :=
 cond ((l0:Int) != (c:Int))
 bz
 (T.loop [cj,aK] [.bool false,vI (0:Int)] <| fun (b2:Bool) (b:Int) =>
 bC b l0
  (a b (T.again 0 [.bool b2,vI (bf (b+(1:Int)))]))
  dI)
variable {H U V d:Nat}
def Ul {α:Type} {xs a:List α} (e:xs=a) (h1:H<xs.length) (h2:H<a.length):xs[H]=a[H]:=by
 subst e;rfl
theorem mf {h:Hp} {a:YA}:∀ (b:List XB) (o i:Nat),aE h a (o+i) b->aE h (a.add o) i b
 | [],_,_,_=>trivial
 | v::b,o,i,hc=>⟨by rw [add_add]; exact hc.1,mf b o (i+1) hc.2⟩
def Qs {α:Type} (x y:α) (h:Hp) (w:XB) (h':Hp):Prop:=∃ b:Bool,w=.bool b/\(b=true↔x=y)/\Ext h h'
def Ln {α:Type} {xs c:List α} {l0:Nat} (h0:l0=xs.length) (h1:H=c.length) (x:xs.length<=2^60) {body:Int->T->T} {h:Hp}
  (t:∀ (L:Lp) (h':Hp) (i:Nat) (hi:i<xs.length) (f:i<c.length) (k:T),Ext h h'->(xs[i]=c[i]->∀ d,Ext h d->k L (Qs xs c h) d)->(xs[i]≠c[i]->∀ d,Ext h d->Qs xs c h (.bool false) d)->body (i:Int) k L (Qs xs c h) h') :
  PL l0 H body [] (Qs xs c h) h:=by
 subst h0 h1;unfold PL bC bf bz dI aK cj;refine an ?_ ?_<;>intro q
 ·refine ⟨false,rfl,⟨fun h=>(by cases h),fun e=>?_⟩,Ch.refl _ _⟩;rw [e] at q;simp at q
 have q:xs.length=c.length:=by
  have:(((xs.length:Nat):Int)==((c.length:Nat):Int))=true:=by
   simpa using q
  exact Bm this
 refine aY (cs:=fK) (fun y m h'=>∃ i:Nat,y.1=false/\y.2.1=(i:Int)/\m=xs.length-i/\i<=xs.length/\Ext h h'/\∀ j,(f:j<i)->(h1:j<xs.length)->(h2:j<c.length)->xs[j]=c[j]) (false,(0:Int),()) xs.length rfl
  ⟨0,rfl,rfl,rfl,ad,Ch.refl _ _,fun j f=>ad⟩ ?_
 rintro ⟨b2,z,⟨⟩⟩ m h1 ⟨i,g,l,rfl,hi,s,f⟩;simp only at g l;subst g l;refine ak ?_;refine aQ ?_ ?_<;>intro r
 ·refine t _ h1 i ad ad _ s (fun u h2 n=>?_) (fun o h2 n=>?_)
  ·rw [wrap_i64 ad ad];refine aD (cs:=fK) (false,((i+1:Nat):Int),()) (xs.length-(i+1)) rfl ad rfl ?_;refine ⟨i+1,rfl,rfl,rfl,ad,n,fun j w a b=>?_⟩
   by_cases p:j<i
   ·exact f j p a b
   ·have:j=i:=ad
    subst this;exact u
  ·exact ⟨false,rfl,⟨fun h=>(by cases h),fun e=>absurd (Ul e ad ad) o⟩,n⟩
 ·refine ⟨true,rfl,⟨fun _=>?_,fun _=>rfl⟩,s⟩;exact List.ext_getElem q fun j a b=>f j ad a b
def qP (s t:XA):(ByteArray.toList s==ByteArray.toList t)=decide (s=t):=by
 rw [ByteArray.toList_eq,ByteArray.toList_eq]
 by_cases h:s=t
 ·rw [Vw h,h]; simp
 ·rw [Vx h]
  have:¬ s.data.toList=t.data.toList:=fun e=>h (BR e)
  simpa using this
def Fi (x y:cL):nj x y=true↔x=y:=by
 obtain ⟨a,b⟩:=x;obtain ⟨c,d⟩:=y;unfold nj
 simp
 exact and_comm
def Hu (x y:Operand) (i j:Ins) (h:Hp) (K:XB->Hp->Prop) (hk:K (.bool (decide (i=j))) h) :
  aI YC (Sx.j6 (BinOp.eql) 62 x y (.agg (nK i).toArray) (.agg (nK j).toArray)) h K:=by
 refine DO PY aw aw aw K ?_;have c:(Di YC 62).all (GX (nK i).toArray (nK j).toArray)=(i.op==j.op && (i.a==j.a && (i.b==j.b && (i.n==j.n && (i.form==j.form && true))))):=by
  rw [<- WK]
  kernel_rfl
 rw [c,WL]
 have:(i.op==j.op && (i.a==j.a && (i.b==j.b && (i.n==j.n && i.form==j.form))))=decide (i=j):=by
  rcases i with ⟨d,e,f,g,k⟩
  rcases j with ⟨c1,l,c3,m,c5⟩
  simp only [de,Ins.mk.injEq]
  by_cases h1:d=c1 <;> by_cases h2:e=l <;> by_cases o:f=c3 <;> by_cases p:g=m <;> by_cases q:k=c5 <;> simp [h1,h2,o,p,q]
 rw [this];exact hk
variable {I:Hp} {O b:XC}
def Er {c d:Nat} {y:cv} (v:nH I O H Y.e) (w:nH I b U y.e):HC YC 51 #[pK O H c Y,pK b U d y] I (Qs Y y I):=by
 refine aZ (args:=[pK O H c Y,pK b U d y]) mixed Tryz.func51 aw (kN Y.kind Y.name Y.inst.op Y.inst.a Y.inst.b Y.inst.n Y.inst.form O H c Y.e.num Y.n y.kind y.name y.inst.op y.inst.a y.inst.b y.inst.n y.inst.form b U d y.e.num y.n) ?_;unfold gH aP eh ar bz;refine br ?_;intro h1 b1 s z1;refine br ?_;intro h2 b2 r z2;have b1:bm h2 I.size 64 (encI O H c Y):=b1.af r ah;have b2:bm h2 h1.size 64 (encI b U d y):=b2;have e:=s.trans r;have j:∀ h',Ext I h'->Y≠y->Qs Y y I (.bool false) h':=fun h' e hn=>⟨false,rfl,⟨fun I=>(by cases I),fun e=>absurd e hn⟩,e⟩
 simp only [ax];refine av b1 (Y.kind,()) (ak ?_);refine av b2 (y.kind,()) (ak ?_);refine rF ?_ ?_<;>intro f
 ·have f:¬ Y.kind=y.kind:=by simpa using f
  exact j h2 e (fun e=>f (by rw [e]))
 have f:Y.kind=y.kind:=by simpa using f
 refine av b1 (Y.name,()) (ak ?_);refine av b2 (y.name,()) (ak ?_);rw [qP];refine rF ?_ ?_<;>intro g
 ·have g:¬ Y.name=y.name:=by simpa using g
  exact j h2 e (fun e=>g (by rw [e]))
 have g:Y.name=y.name:=by simpa using g
 refine av b1 (Y.inst.op,Y.inst.a,Y.inst.b,Y.inst.n,Y.inst.form,()) (ak ?_);refine av b2 (y.inst.op,y.inst.a,y.inst.b,y.inst.n,y.inst.form,()) (ak ?_);refine qv (fun t u=>Hu _ _ Y.inst y.inst h2 t u) ?_;refine rF ?_ ?_<;>intro i
 ·have i:¬ Y.inst=y.inst:=by simpa using i
  exact j h2 e (fun e=>i (by rw [e]))
 have i:Y.inst=y.inst:=by simpa using i
 refine av b1 ((O,H,c),(Y.e.num:Int),()) (ak ?_);refine av b2 ((b,U,d),(y.e.num:Int),()) (ak ?_);refine aH (IF (c:=c) (d:=d) (v.af e).vw (w.af e).vw v.many) ?_;rintro _ z ⟨rfl,k⟩;refine ⟨(nj Y.e y.e,()),rfl,ak ?_⟩;refine rF ?_ ?_<;>intro r4
 ·refine j z (e.trans k) (fun e=>?_);rw [(Fi _ _).2 (by rw [e])] at r4;cases r4
 have r4:=(Fi _ _).1 r4;refine av (b1.af k ah) (Y.n,()) (ak ?_);refine av (b2.af k ah) (y.n,()) ?_;refine ⟨Y.n==y.n,rfl,⟨fun o=>?_,fun e=>by rw [e]; simp⟩,e.trans k⟩;have o:Y.n=y.n:=by simpa using o
 exact OX f g i r4 o
def Cq {c d:Nat} {xs g:List cv} (v:Ai I O H xs) (w:Ai I b U g):HC YC 15 #[.slice O H c,.slice b U d] I (Qs xs g I):=by
 refine aZ (args:=[.slice O H c,.slice b U d]) mixed Tryz.func15 aw (j9 O H c b U d) ?_;refine Ln (body:=fun j k=>T.need (((0:Int)<=j)/\(j<(H:Int))) <|
  T.bd O <| fun (Z:YA) =>
  T.ae (Z.add ((Int.toNat j)*10)) [.int .i64,.string,.int .i64,.int .i64,.int .i64,.int .i32,.int .i64,.slice 66,.int .u32,.int .i64] <| fun (n5:Int) (s6:XA) (n7 n8 n9 r s:Int) (t:XC) (x y:Nat) (z A:Int) =>
  T.need (((0:Int)<=j)/\(j<(U:Int))) <|
  T.bd b <| fun (B:YA) =>
  T.ae (B.add ((Int.toNat j)*10)) [.int .i64,.string,.int .i64,.int .i64,.int .i64,.int .i32,.int .i64,.slice 66,.int .u32,.int .i64] <| fun (C:Int) (D:XA) (E F G J K:Int) (M:XC) (N P:Nat) (Q R:Int) =>
  T.call YC 51 [.agg #[vI n5,.string s6,vI n7,vI n8,vI n9,.int .i32 r,vI s,.slice t x y,.int .u32 z,vI A],.agg #[vI C,.string D,vI E,vI F,vI G,.int .i32 J,vI K,.slice M N P,.int .u32 Q,vI R]] false [(false,[.bool])] <| fun (S:Bool) =>
  cond (!S)
  (T.ret (.bool false)) k) v.len w.len v.many ?_
 intro L h' i hi hj k o hk hn;have vl:=v.len;have wl:=w.len;obtain ⟨a,p1,l1,c1,rfl,hc,va⟩:=(v.af o).cells i hi;obtain ⟨f,q1,m1,W,rfl,hd,wa⟩:=(w.af o).cells i hj;refine fJ ?_;refine bk rfl ?_;refine aC (xs[i].kind,xs[i].name,xs[i].inst.op,xs[i].inst.a,xs[i].inst.b,xs[i].inst.n,xs[i].inst.form,(p1,l1,c1),(xs[i].e.num:Int),xs[i].n,()) hc (ak ?_);refine fJ ?_;refine bk rfl ?_;refine aC (g[i].kind,g[i].name,g[i].inst.op,g[i].inst.a,g[i].inst.b,g[i].inst.n,g[i].inst.form,(q1,m1,W),(g[i].e.num:Int),g[i].n,()) hd (ak ?_);refine aH (Er (c:=c1) (d:=W) va.di wa.di) ?_;rintro _ h2 ⟨f,rfl,X,Y⟩;refine ⟨(f,()),rfl,ak ?_⟩;refine an ?_ ?_<;>intro u
 ·have u:f=false:=by simpa using u
  refine hn (fun e=>?_) h2 (o.trans Y);rw [X.2 e] at u;cases u
 ·have u:f=true:=by simpa using u
  exact hk (X.1 u) h2 (o.trans Y)
structure Fp (h:Hp) (p:XC) (l:Nat) (us:List bS):Prop where
 len:l=us.length
 many:us.length<=2^60
 cells:∀ i,(hi:i<us.length)->∃ a sa sb sc sd,p=some a/\aE h (a.add (i*4)) 0 [cm.v sa,cm.v sb,cm.v sc,cm.v sd]/\jI h sa sb sc sd us[i]
def Fp.af {h h':Hp} {p:XC} {l:Nat} {us:List bS} (v:Fp h p l us) (k:Ext h h'):Fp h' p l us :=
 ⟨v.len,v.many,fun i hi=>by
  obtain ⟨a,sa,sb,sc,sd,b,hc,hv⟩:=v.cells i hi;exact ⟨a,sa,sb,sc,sd,b,bh k ah _ _ hc,hv.af k⟩⟩
def Az (u:bS):Bool:=decide (600<u.text.length) || decide (300<u.data.length) || decide (100<u.aS.length)
def HM (u:bS):Nat:=u.text.length+u.data.length+u.aS.length
def gZ (us:List bS):Nat:=(us.map HM).sum
def yA (us:List bS):Bool:=(us.take 65).any Az || decide (900<gZ (us.take 65))
def JX {α:Type} (f:α->Bool) (l:List α) (hi:H<l.length) (hn:H<U) (h:f l[H]=true):(l.take U).any f=true:=by
 rw [WX];exact ⟨l[H],List.mem_take_iff_getElem.2 ⟨H,ad,rfl⟩,h⟩
def Fx (us:List bS) (hi:H<us.length):gZ (us.take (H+1))=gZ (us.take H)+HM us[H]:=by
 unfold gZ;rw [Vt hi,VB,List.sum_append]
 simp
def J6 {c:Nat} {us:List bS} (v:Fp I O H us):wA YC 8 [.slice O H c] I (.bool (yA us)):=by
 refine eC mixed Tryz.func8 aw (nV O H c) ?_;unfold jx aT bo bC ay bf dI aK cj;have hl:=v.len;have hm:=v.many;refine aY (cs:=N6) (fun y m h'=>∃ i:Nat,y.1=false/\y.2.1=((gZ (us.take i):Nat):Int)/\y.2.2.1=(i:Int)/\m=H-i/\i<=H/\i<=65/\h'=I/\(us.take i).any Az=false/\gZ (us.take i)<=i*1000) (false,(0:Int),(0:Int),()) H rfl
  ⟨0,rfl,rfl,rfl,rfl,ad,ad,rfl,rfl,by simp [gZ]⟩ ?_
 rintro ⟨b1,A,B,⟨⟩⟩ m h1 ⟨i,e,f,j,rfl,hi,o,rfl,q,C⟩;simp only at e f j;subst e f j;refine ak ?_;have d:(H<=i\/65<=i)->(T.ret (.bool (decide (((gZ (us.take i):Nat):Int)>(900:Int))))) [Jl (cs:=N6) (fun y m h'=>∃ i:Nat,y.1=false/\y.2.1=((gZ (us.take i):Nat):Int)/\y.2.2.1=(i:Int)/\m=H-i/\i<=H/\i<=65/\h'=h1/\(us.take i).any Az=false/\gZ (us.take i)<=i*1000) (H-i)] (fun v' h'=>v'=.bool (yA us)/\h'=h1) h1:=by
  intro D
  have:us.take i=us.take 65:=by
   by_cases k:i=65
   ·rw [k]
   ·rw [V0 ad,V0 ad]
  refine ⟨?_,rfl⟩;unfold yA;rw [<- this,q,Xj]
  congr 1
  by_cases g:900<gZ (us.take i)
  ·rw [Vw g,Vw ad]
  ·rw [Vx g,Vx ad]
 refine rF ?_ ?_<;>intro r
 ·have r:=VI r;exact d ad
 have r:=Vv r;refine rF ?_ ?_<;>intro w
 ·have w:=VI w;exact d ad
 have w:=Vv w;clear d;have b:i<us.length:=ad
 obtain ⟨a,sa,sb,sc,sd,rfl,hc,hv⟩:=v.cells i b;have na:=hv.text.len;have nb:=hv.data.len;have nc:=hv.aS.len;have s:aE h1 (a.add (i*4)) 0 [cm.v sa]:=⟨hc.1,trivial⟩
 have t:aE h1 ((a.add (i*4)).add 1) 0 [cm.v sb]:=mf _ 1 0 ⟨hc.2.1,trivial⟩;have u:aE h1 ((a.add (i*4)).add 2) 0 [cm.v sc]:=mf _ 2 0 ⟨hc.2.2.1,trivial⟩;have o5:Az us[i]=true->(T.ret (.bool true)) [Jl (cs:=N6) (fun y m h'=>∃ i:Nat,y.1=false/\y.2.1=((gZ (us.take i):Nat):Int)/\y.2.2.1=(i:Int)/\m=H-i/\i<=H/\i<=65/\h'=h1/\(us.take i).any Az=false/\gZ (us.take i)<=i*1000) (H-i)] (fun v' h'=>v'=.bool (yA us)/\h'=h1) h1:=by
  intro z;refine ⟨?_,rfl⟩;unfold yA;rw [JX Az us b ad z] <;> rfl
 refine cC rfl ?_;refine aC ((sa.p,sa.l,sa.c),()) s (ak ?_);refine an (fun g=>?_) (fun g1=>?_)
 ·have g:=Vv g;refine o5 ?_;unfold Az;rw [Vw ad] <;> rfl
 have g1:=VI g1;refine cC rfl ?_;refine aC ((sb.p,sb.l,sb.c),()) t (ak ?_);refine an (fun g=>?_) (fun g2=>?_)
 ·have g:=Vv g;refine o5 ?_;unfold Az;rw [Vw (show 300<us[i].data.length from ad)]
  simp
 have g2:=VI g2;refine cC rfl ?_;refine aC ((sc.p,sc.l,sc.c),()) u (ak ?_);refine an (fun g=>?_) (fun g3=>?_)
 ·have g:=Vv g;refine o5 ?_;unfold Az;rw [Vw (show 100<us[i].aS.length from ad)]
  simp
 have g3:=VI g3;refine cC rfl ?_;refine aC ((sa.p,sa.l,sa.c),()) s (ak ?_);refine cC rfl ?_;refine aC ((sb.p,sb.l,sb.c),()) t (ak ?_);refine cC rfl ?_;refine aC ((sc.p,sc.l,sc.c),()) u (ak ?_);rw [wrap_i64 (x:=((gZ (us.take i):Nat):Int)+(sa.l:Int)) ad ad,wrap_i64 (x:=((gZ (us.take i):Nat):Int)+(sa.l:Int)+(sb.l:Int)) ad ad,wrap_i64 (x:=((gZ (us.take i):Nat):Int)+(sa.l:Int)+(sb.l:Int)+(sc.l:Int)) ad ad,wrap_i64 (x:=(i:Int)+1) ad ad];have hst:=Fx us b;have n:HM us[i]=sa.l+sb.l+sc.l:=by unfold HM; omega
 refine aD (cs:=N6) (false,((gZ (us.take (i+1)):Nat):Int),((i+1:Nat):Int),()) (H-(i+1)) rfl ad ?_ ?_
 ·show [Value.bool false,Value.int .i64 (((gZ (us.take i):Nat):Int)+(sa.l:Int)+(sb.l:Int)+(sc.l:Int)),Value.int .i64 ((i:Int)+1)]=[Value.bool false,Value.int .i64 ((gZ (us.take (i+1)):Nat):Int),Value.int .i64 ((i+1:Nat):Int)];rw [hst,n]
  congr 3
  omega
 ·refine ⟨i+1,rfl,rfl,rfl,rfl,ad,ad,rfl,?_,ad⟩;rw [Vt b,List.any_append,q,Xj];unfold Az;simp only [List.any_cons,List.any_nil,Bool.or_false,Bool.or_eq_false_iff,decide_eq_false_iff_not];omega
def Py:Array (Nat × XB):=#[(0,.agg #[.string ⟨#[110,111,112]⟩,.int .u8 (0:Int),vI (1:Int)]),(1,.agg #[.string ⟨#[104,97,108,116]⟩,.int .u8 (1:Int),vI (1:Int)]),(2,.agg #[.string ⟨#[114,101,116]⟩,.int .u8 (2:Int),vI (1:Int)]),(3,.agg #[.string ⟨#[112,114,105,110,116]⟩,.int .u8 (3:Int),vI (2:Int)]),(4,.agg #[.string ⟨#[105,110]⟩,.int .u8 (4:Int),vI (2:Int)]),(5,.agg #[.string ⟨#[112,117,115,104]⟩,.int .u8 (5:Int),vI (2:Int)]),(6,.agg #[.string ⟨#[112,111,112]⟩,.int .u8 (6:Int),vI (2:Int)]),(7,.agg #[.string ⟨#[106,114]⟩,.int .u8 (7:Int),vI (2:Int)]),(8,.agg #[.string ⟨#[110,101,103]⟩,.int .u8 (8:Int),vI (2:Int)]),(9,.agg #[.string ⟨#[110,111,116]⟩,.int .u8 (9:Int),vI (2:Int)]),(10,.agg #[.string ⟨#[122,116,117,114,110]⟩,.int .u8 (10:Int),vI (3:Int)]),(11,.agg #[.string ⟨#[122,99,111,110,106]⟩,.int .u8 (11:Int),vI (3:Int)]),(12,.agg #[.string ⟨#[109,111,118]⟩,.int .u8 (16:Int),vI (4:Int)]),(13,.agg #[.string ⟨#[97,100,100]⟩,.int .u8 (17:Int),vI (4:Int)]),(14,.agg #[.string ⟨#[115,117,98]⟩,.int .u8 (18:Int),vI (4:Int)]),(15,.agg #[.string ⟨#[109,117,108]⟩,.int .u8 (19:Int),vI (4:Int)]),(16,.agg #[.string ⟨#[100,105,118]⟩,.int .u8 (20:Int),vI (4:Int)]),(17,.agg #[.string ⟨#[97,110,100]⟩,.int .u8 (21:Int),vI (4:Int)]),(18,.agg #[.string ⟨#[111,114]⟩,.int .u8 (22:Int),vI (4:Int)]),(19,.agg #[.string ⟨#[120,111,114]⟩,.int .u8 (23:Int),vI (4:Int)]),(20,.agg #[.string ⟨#[115,104,108]⟩,.int .u8 (24:Int),vI (4:Int)]),(21,.agg #[.string ⟨#[115,104,114]⟩,.int .u8 (25:Int),vI (4:Int)]),(22,.agg #[.string ⟨#[108,116]⟩,.int .u8 (26:Int),vI (4:Int)]),(23,.agg #[.string ⟨#[101,113]⟩,.int .u8 (27:Int),vI (4:Int)]),(24,.agg #[.string ⟨#[108,100,98]⟩,.int .u8 (28:Int),vI (4:Int)]),(25,.agg #[.string ⟨#[108,100,119]⟩,.int .u8 (29:Int),vI (4:Int)]),(26,.agg #[.string ⟨#[108,100,109]⟩,.int .u8 (30:Int),vI (4:Int)]),(27,.agg #[.string ⟨#[115,116,109]⟩,.int .u8 (31:Int),vI (4:Int)]),(28,.agg #[.string ⟨#[122,109,111,118]⟩,.int .u8 (32:Int),vI (5:Int)]),(29,.agg #[.string ⟨#[122,97,100,100]⟩,.int .u8 (33:Int),vI (5:Int)]),(30,.agg #[.string ⟨#[122,115,117,98]⟩,.int .u8 (34:Int),vI (5:Int)]),(31,.agg #[.string ⟨#[122,109,117,108]⟩,.int .u8 (35:Int),vI (5:Int)]),(32,.agg #[.string ⟨#[122,114,101]⟩,.int .u8 (36:Int),vI (6:Int)]),(33,.agg #[.string ⟨#[122,105,109]⟩,.int .u8 (37:Int),vI (6:Int)]),(34,.agg #[.string ⟨#[122,115,101,116]⟩,.int .u8 (38:Int),vI (7:Int)]),(35,.agg #[.string ⟨#[108,105,115]⟩,.int .u8 (48:Int),vI (8:Int)]),(36,.agg #[.string ⟨#[116,114,97,112]⟩,.int .u8 (49:Int),vI (9:Int)]),(37,.agg #[.string ⟨#[108,105]⟩,.int .u8 (50:Int),vI (10:Int)]),(38,.agg #[.string ⟨#[108,100,112]⟩,.int .u8 (51:Int),vI (11:Int)]),(39,.agg #[.string ⟨#[106,109,112]⟩,.int .u8 (64:Int),vI (12:Int)]),(40,.agg #[.string ⟨#[99,97,108,108]⟩,.int .u8 (67:Int),vI (12:Int)]),(41,.agg #[.string ⟨#[106,122]⟩,.int .u8 (70:Int),vI (13:Int)]),(42,.agg #[.string ⟨#[106,110,122]⟩,.int .u8 (73:Int),vI (13:Int)])]
def tX (k:Nat):XA:=match Py[k]? with | some (_,.agg #[.string s,_,_])=>s | _=>⟨#[]⟩
def vi (k:Nat):Int:=match Py[k]? with | some (_,.agg #[_,.int _ b,_])=>b | _=>0
def Ua:Tryz.prog.underlying 186=some (.slice 188):=aw
def Vf:(Tryz.prog.info? 188).map (fun i=>(i.zero,i.size,i.bytes))=some (some (.agg #[.string ⟨#[]⟩,.int .u8 0,vI 0]),3,32):=aw
def O8:Instr.fill (fun j=>some (j*3,3)) ((Array.range (43*3)).map ((Value.agg #[.string ⟨#[]⟩,.int .u8 0,vI 0]).cells[· % (Value.agg #[.string ⟨#[]⟩,.int .u8 0,vI 0]).cells.size]!)) Py.toList=some (kr tX vi).toArray:=aw
def Ri (h:Hp):HC YC 117 #[] h fun v h'=>v=.slice (some ⟨h.size,0,none⟩) 43 43/\bm h' h.size 188 (kr tX vi)/\Ext h h':=by
 refine aZ (args:=[]) mixed Tryz.func117 aw pI ?_;show (T.eK YC (Instr.buildSlice 186 43 Py) false [(false,[.slice 0])] <| fun (p0:XC) (a b:Nat)=>T.ret (.slice p0 a b)) [] _ h;refine sW Ua Vf ad ad O8 ?_;intro h1 b1 c z1;exact ⟨rfl,b1,c⟩
def JE {nm:Nat->XA} {by_:Nat->Int} (hk:H<43):(kr nm by_)[H*3+2]?=some (vI (mZ.getD H 0:Nat)):=by
 unfold kr;rw [vf _ 3 ah _ _ _ ad];simp [hk]
def qi (h:Hp) (op:Int) (f:Sm op):HC YC 96 #[vI op] h fun w h'=>w=vI (dk op:Nat)/\Ext h h':=by
 refine aZ (args:=[vI op]) mixed Tryz.func96 aw (nv op) ?_;unfold jA bq bf;refine aH (Ri h) ?_;rintro _ h1 ⟨rfl,b1,b⟩;refine ⟨((some ⟨h.size,0,none⟩,43,43),()),rfl,ak ?_⟩;have d:op<1\/43<op->dk op=0:=by
  intro g
  by_cases h0:dk op=0
  ·exact h0
  ·have:=F2 op h0
   omega
 refine an ?_ ?_<;>intro q
 ·have q:=Vv q;rw [d (.inl q)];exact ⟨rfl,b⟩
 have q:=VI q;refine an ?_ ?_<;>intro r
 ·have r:op>((43:Nat):Int):=Vv r;rw [d (.inr ad)];exact ⟨rfl,b⟩
 have r:¬ op>((43:Nat):Int):=VI r;obtain ⟨k,hk⟩:∃ k:Nat,op=(k:Int)+1:=⟨(op-1).toNat,ad⟩
 rw [wrap_i64 ad ad,show op-1=(k:Int) from ad];have a:k<43:=ad
 refine fJ ?_;refine bk rfl ?_;rw [cX k,ax,ax];have e:dk op=mZ.getD k 0:=by
  unfold dk;rw [Vu ad,show (op-1).toNat=k from ad]
 refine bj b1 (((mZ.getD k 0:Nat):Int),()) ?_ ?_
 ·show List.take 1 (List.drop (0+k*3+2) (kr tX vi))=[vI ((mZ.getD k 0:Nat):Int)]
  have:=JE (nm:=tX) (by_:=vi) a
  rw [V9];obtain ⟨c,hv⟩:=List.getElem?_eq_some_iff.1 this;rw [VU c,List.take_succ_cons,List.take_zero,hv]
 ·rw [e];exact ⟨rfl,b⟩
def Br (h:Hp) (op:Int) (a:Sm op):HC YC 71 #[vI op] h fun w h'=>w=.bool (rL op)/\Ext h h':=by
 refine aZ (args:=[vI op]) mixed Tryz.func71 aw (nB op) ?_;unfold jw dh dI;have hc:=gI op;refine aH (qi h op a) ?_;rintro _ h1 ⟨rfl,b⟩;refine ⟨(((dk op:Nat):Int),()),rfl,ak ?_⟩;refine an ?_ ?_<;>intro q
 ·have q:dk op=12:=Bm q;exact ⟨by unfold rL; rw [q]; rfl,b⟩
 have q:¬ dk op=12:=Ew q;refine aH (qi h1 op a) ?_;rintro _ h2 ⟨rfl,d⟩;refine ⟨(((dk op:Nat):Int),()),rfl,?_⟩;refine ⟨?_,b.trans d⟩
 congr 1
 unfold rL
 by_cases g:dk op=13
 ·rw [g]; rfl
 ·rw [Vx ad];exact UW (c:=13) g
def H8 (h:Hp) (op:Int) (f:Sm op):HC YC 73 #[vI op] h fun w h'=>w=.bool (Fb op)/\Ext h h':=by
 refine aZ (args:=[vI op]) mixed Tryz.func73 aw (oP op) ?_;unfold jU dh dI;have hc:=gI op;refine aH (qi h op f) ?_;rintro _ h1 ⟨rfl,a⟩;refine ⟨(((dk op:Nat):Int),()),rfl,ak ?_⟩;refine an (fun q=>?_) (fun b=>?_)
 ·have q:dk op=10:=Bm q;exact ⟨by unfold Fb; rw [q]; rfl,a⟩
 have b:¬ dk op=10:=Ew b;refine an (fun q=>?_) (fun d=>?_)
 ·have q:dk op=11:=Bm q;exact ⟨by unfold Fb; rw [q]; rfl,a⟩
 have d:¬ dk op=11:=Ew d;refine an (fun q=>?_) (fun e=>?_)
 ·have q:dk op=12:=Bm q;exact ⟨by unfold Fb; rw [q]; rfl,a⟩
 have e:¬ dk op=12:=Ew e;refine ⟨?_,a⟩
 congr 1
 unfold Fb
 by_cases g:dk op=13
 ·rw [g]; rfl
 ·rw [Vx ad];exact UW (c:=13) g
def OF (h:Hp) (n w:Int):wA YC 98 [.int .i32 n,vI w] h (.bool ((decide (w=1) || decide (w=2) || decide (w=4)) && lz n w)):=by
 refine eC mixed Tryz.func98 aw (ot n w) ?_;unfold j5 lz bz dI;refine an (fun q=>?_) (fun a=>?_)
 ·have q:w=1:=by simpa using q
  rw [VE q,q];refine an (fun r=>⟨?_,rfl⟩) (fun r=>⟨?_,rfl⟩)
  ·have r:=Vv r;rw [Vw (show -128<=n from r)]
   simp
  ·have r:=VI r;rw [Vx (show ¬ -128<=n from r)]
   simp
 have a:¬ w=1:=by simpa using a
 rw [Vu a];refine an (fun q=>?_) (fun b=>?_)
 ·have q:w=2:=by simpa using q
  rw [VE q,q];refine an (fun r=>⟨?_,rfl⟩) (fun r=>⟨?_,rfl⟩)
  ·have r:=Vv r;rw [Vw (show -32768<=n from r)]
   simp
  ·have r:=VI r;rw [Vx (show ¬ -32768<=n from r)]
   simp
 have b:¬ w=2:=by simpa using b
 rw [Vu b];refine an (fun q=>?_) (fun c=>?_)
 ·have q:w=4:=by simpa using q
  rw [q];exact ⟨rfl,rfl⟩
 ·have c:¬ w=4:=by simpa using c
  rw [Vx a,Vx b,Vx c];exact ⟨rfl,rfl⟩
def aA (s:Nat):Nat:=if s=2\/s=8\/s=10\/s=11\/s=13\/s=4\/s=6 then 8 else if s=3\/s=5\/s=7 then 4 else 0
def bB (s:Nat):Nat:=if s=4\/s=7 then 8 else if s=5\/s=6 then 4 else 0
def Md (c:1<=H/\H<=13) (a b n:Int):cI H a b n=true↔(0<=a/\0<=b/\(a<(aA H:Int)\/(aA H=0/\a=0))/\(b<(bB H:Int)\/(bB H=0/\b=0))/\(H=7->0<=n/\n<=7)):=by
 have:H=1\/H=2\/H=3\/H=4\/H=5\/H=6\/H=7\/H=8\/H=9\/H=10\/H=11\/H=12\/H=13:=ad
 unfold cI vO aA bB;rcases this with rfl | rfl | rfl | rfl | rfl | rfl | rfl | rfl | rfl | rfl | rfl | rfl | rfl <;> simp <;> omega
def I8 (h:Hp) (op a b n form:Int) (e:Sm op) (i:dk op≠0):HC YC 97 #[dl op a b n form] h fun w h'=>w=.bool (cI (dk op) a b n)/\Ext h h':=by
 refine aZ (args:=[dl op a b n form]) mixed Tryz.func97 aw (kc op a b n form) ?_;unfold fU dh bz dI aK;have hc:1<=dk op/\dk op<=13:=by have:=gI op; omega
 refine br ?_;intro h1 b1 f z1;refine av b1 (op,()) (ak ?_);refine aH (qi h1 op e) ?_;rintro _ h2 ⟨rfl,d⟩;refine ⟨(((dk op:Nat):Int),()),rfl,ak ?_⟩;have b2:=b1.af d ah;have e02:=f.trans d;have hiff:=Md hc a b n;generalize dk op=s at *;generalize cI s a b n=R at *;refine oa (cs:=jc) (fun y h'=>y=(((aA s:Nat):Int),((bB s:Nat):Int),())/\h2=h') ?_ ?_
 ·have:s=1\/s=2\/s=3\/s=4\/s=5\/s=6\/s=7\/s=8\/s=9\/s=10\/s=11\/s=12\/s=13:=ad
  rcases this with rfl | rfl | rfl | rfl | rfl | rfl | rfl | rfl | rfl | rfl | rfl | rfl | rfl
  all_goals (repeat (first | refine cy rfl ?_ | refine bX rfl ?_))
  all_goals exact gX (cs:=jc) (((aA _:Nat):Int),((bB _:Nat):Int),()) rfl rfl ⟨rfl,rfl⟩
 rintro ⟨A,B,⟨⟩⟩ _ ⟨g,rfl⟩;cases g;refine ak ?_;simp only [ax];have c:∀ b:Bool,(b=true↔R=true)->(T.ret (.bool b)) [] (fun w h'=>w=.bool R/\Ext h h') h2:=by
  intro b j;refine ⟨?_,e02⟩;cases b <;> cases R <;> simp_all
 repeat' (first
  | (refine bj b2 (a,()) rfl ?_; refine ak ?_)
  | (refine bj b2 (b,()) rfl ?_; refine ak ?_)
  | (refine bj b2 (n,()) rfl ?_; refine ak ?_)
  | refine c _ ?_
  | refine an (fun q=>?_) (fun q=>?_))
 all_goals (rw [hiff]; simp only [decide_eq_true_eq,decide_eq_false_iff_not,bne_iff_ne,ne_eq,bne_eq_false_iff_eq,Bool.false_eq_true,false_iff,true_iff] at *; omega)
def vq (n w:Int):Bool:=(decide (w=1) || decide (w=2) || decide (w=4)) && lz n w
def Dh (n w:Int):Prop:=(w=1/\-128<=n/\n<=127)\/(w=2/\-32768<=n/\n<=32767)\/w=4
def G9 (n w:Int):vq n w=true↔Dh n w:=by
 unfold vq lz Dh
 by_cases h1:w=1
 ·subst h1; simp
 ·by_cases h2:w=2
  ·subst h2; simp
  ·by_cases a:w=4
   ·subst a; simp
   ·simp [h1,h2,a]
def Ra (n w:Int):vq n w=false↔¬ Dh n w:=by
 rw [<- G9]
 simp
def bi {i:Ins} (h0:dk i.op≠0) (l:cI (dk i.op) i.a i.b i.n=true) (P:Prop) (m:P↔((dk i.op=12\/dk i.op=13->Dh i.n i.form)/\(dk i.op≠12/\dk i.op≠13->i.form=0)/\(dk i.op=8->-128<=i.n/\i.n<=127)/\(dk i.op=9->0<=i.n/\i.n<=255)/\(dk i.op=11->0<=i.n/\i.n<=4095) /\
  (dk i.op<7->i.n=0))):(P->fW i=0)/\(¬ P->fW i=13):=by
 obtain ⟨op,a,b,n,form⟩:=i;simp only at *;have hc:=gI op;have c:(!rL op && decide (form≠0) || !nR (dk op) n form)=true↔¬ P:=by
  rw [m];unfold rL nR lz Dh
  have:dk op=1\/dk op=2\/dk op=3\/dk op=4\/dk op=5\/dk op=6\/dk op=7\/dk op=8\/dk op=9\/dk op=10\/dk op=11\/dk op=12\/dk op=13:=ad
  rcases this with h | h | h | h | h | h | h | h | h | h | h | h | h <;> rw [h]
  all_goals (
   by_cases f:form=1
   ·subst f; simp; try omega
   ·by_cases g:form=2
    ·subst g; simp; try omega
    ·by_cases j:form=4
     ·subst j; simp; try omega
     ·by_cases k:form=0
      ·subst k; simp; try omega
      ·simp [f,g,j,k])
 unfold fW;simp only;rw [Vu h0,l,Vu ah];refine ⟨fun d=>?_,fun d=>?_⟩
 ·rw [Vu (fun e=>c.1 e d)]
 ·rw [VE (c.2 d)]
def I9 (h:Hp) (op a b n form:Int) (g:Sm op):HC YC 72 #[dl op a b n form] h fun w h'=>w=vI (fW ⟨op,a,b,n,form⟩)/\Ext h h':=by
 refine aZ (args:=[dl op a b n form]) mixed Tryz.func72 aw (mR op a b n form) ?_;unfold jC aP dh;refine br ?_;intro h1 b1 m z1;refine av b1 (op,()) (ak ?_);refine aH (qi h1 op g) ?_;rintro _ h2 ⟨rfl,j⟩;refine ⟨(((dk op:Nat):Int),()),rfl,ak ?_⟩;have b2:=b1.af j ah;have e02:=m.trans j;refine an ?_ ?_<;>intro q
 ·have q:dk op=0:=Bm q;exact ⟨by unfold fW; simp only; rw [VE q],e02⟩
 have q:¬ dk op=0:=Ew q;refine av b2 (op,a,b,n,form,()) (ak ?_);refine gw (I8 h2 op a b n form g q) ?_;intro h3 k;have b3:=b2.af k ah;have e03:=e02.trans k;refine an ?_ ?_<;>intro r
 ·have r:cI (dk op) a b n=false:=by simpa using r
  exact ⟨by unfold fW; simp only; rw [Vu q,r,VE rfl],e03⟩
 have r:cI (dk op) a b n=true:=by simpa using r
 have hc:=gI op;obtain ⟨e,c⟩:=bi (i:=⟨op,a,b,n,form⟩) q r _ Iff.rfl;simp only at e c;generalize fW ⟨op,a,b,n,form⟩=C at *;generalize dk op=s at *;clear r;have l:((s=12\/s=13->Dh n form)/\(s≠12/\s≠13->form=0)/\(s=8->-128<=n/\n<=127)/\(s=9->0<=n/\n<=255)/\(s=11->0<=n/\n<=4095)/\(s<7->n=0))->(T.ret (vI (0:Int))) [] (fun w h'=>w=vI C/\Ext h h') h3:=fun f=>⟨by rw [e f],e03⟩
 have d:¬ ((s=12\/s=13->Dh n form)/\(s≠12/\s≠13->form=0)/\(s=8->-128<=n/\n<=127)/\(s=9->0<=n/\n<=255)/\(s=11->0<=n/\n<=4095)/\(s<7->n=0))->(T.ret (vI (13:Int))) [] (fun w h'=>w=vI C/\Ext h h') h3:=fun f=>⟨by rw [c f],e03⟩
 clear e c;simp only [ax]
 repeat' (first
  | (refine bj b3 (n,()) rfl ?_; refine ak ?_)
  | (refine bj b3 (form,()) rfl ?_; refine ak ?_)
  | refine l ?_
  | refine d ?_
  | refine aF (b:=vq n form) (OF h3 n form) ?_
  | refine an (fun q=>?_) (fun q=>?_))
 all_goals (
  clear l d;simp only [decide_eq_true_eq,decide_eq_false_iff_not,bne_iff_ne,ne_eq,bne_eq_false_iff_eq,beq_iff_eq,beq_eq_false_iff_ne,Bool.not_eq_true',Bool.not_eq_false',G9,Ra,Dh] at *;omega)
def mV (x:cv) (b1 b2 b3 a:Bool):Bool:=(!b1 || z1 x) && ((!b2 || z2 x) && ((!b3 || z3 x) && (!a || z4 x)))
def RA (s:XA):(ByteArray.toList s==([]:List UInt8))=decide (s=dA):=by
 have:=qP s dA
 rw [show ByteArray.toList dA=[] by rw [ByteArray.toList_eq]; rfl] at this;exact this
def NY (n m:Nat) (i:Ins) (h:Hp) (K:XB->Hp->Prop) (hk:K (.bool (decide (i=GL))) h) :
  aI YC (Sx.j6 (BinOp.eql) 62 (Operand.tmp n) (Operand.tmp m) (.agg #[vI i.op,vI i.a,vI i.b,.int .i32 i.n,vI i.form]) (.agg #[vI (0:Int),vI (0:Int),vI (0:Int),.int .i32 (0:Int),vI (0:Int)])) h K :=
 Hu _ _ i GL h K hk
def Om (v:iW I O H Y.e.ai) (b1 b2 b3 d:Bool) :
  HC YC 70 #[pK O H U Y,.bool b1,.bool b2,.bool b3,.bool d] I fun w h'=>w=.bool (mV Y b1 b2 b3 d)/\Ext I h':=by
 refine aZ (args:=[pK O H U Y,.bool b1,.bool b2,.bool b3,.bool d]) mixed Tryz.func70 aw (oJ Y.kind Y.name Y.inst.op Y.inst.a Y.inst.b Y.inst.n Y.inst.form O H U Y.e.num Y.n b1 b2 b3 d) ?_;unfold j0 eh ar bz dI;have hl:=v.len;have f:Io Y.e=(decide (H=0) && decide (Y.e.num=0)):=by
  unfold Io
  congr 1
  rw [hl]
  simp
 refine br ?_;intro h1 bx g i;have bx:bm h1 I.size 64 (encI O H U Y):=bx;simp only [ax];unfold mV z1 z2 z3 z4;rw [f]
 repeat' (first
  | (refine bj bx (Y.n,()) rfl ?_; refine ak ?_)
  | (refine bj bx (Y.name,()) rfl ?_; refine ak ?_)
  | (refine bj bx ((O,H,U),()) rfl ?_; refine ak ?_)
  | (refine bj bx ((Y.e.num:Int),()) rfl ?_; refine ak ?_)
  | (refine bj bx (Y.inst.op,Y.inst.a,Y.inst.b,Y.inst.n,Y.inst.form,()) rfl ?_; refine ak ?_)
  | refine qv (fun j k=>NY _ _ Y.inst h1 j k) ?_
  | refine ⟨VO Value.bool ?_,g⟩
  | refine an (fun q=>?_) (fun q=>?_))
 all_goals (
  try simp only [RA] at *
  simp_all [de])
 all_goals omega
def PA (g:Nat) (b1 b2 b3 i:Bool) (k:Bool->T):T :=
 T.ae ⟨g,0,none⟩ [.int .i64,.string,.int .i64,.int .i64,.int .i64,.int .i32,.int .i64,.slice 66,.int .u32,.int .i64] <| fun (j:Int) (l:XA) (m n o a b:Int) (c:XC) (d e:Nat) (f h:Int) =>
  bq 70 [.agg #[vI j,.string l,vI m,vI n,vI o,.int .i32 a,vI b,.slice c d e,ar f,vI h],.bool b1,.bool b2,.bool b3,.bool i] false [cj] k
def gj {h:Hp} {b1 b2 b3:Bool} {k:Bool->T} (bx:bm h H 64 (encI O U V Y)) (v:iW h O U Y.e.ai) (hk:∀ h',Ext h h'->k (mV Y b1 b2 b3 i) Z a h'):PA H b1 b2 b3 i k Z a h:=by
 unfold PA bq ar cj;refine av bx (Y.kind,Y.name,Y.inst.op,Y.inst.a,Y.inst.b,Y.inst.n,Y.inst.form,(O,U,V),(Y.e.num:Int),Y.n,()) (ak ?_);exact gw (Om v b1 b2 b3 i) hk
def Bw (h:Hp) (n:Int):wA YC 74 [vI n] h (.bool (tM n)):=by
 refine eC mixed Tryz.func74 aw (nT n) ?_;unfold jB bf bz dI aK cj;refine aY (cs:=fK) (fun y m h'=>∃ k:Nat,y=(false,((2^k:Nat):Int),())/\m=9-k/\k<=9/\h'=h/\(∀ j,j<k->¬ n=((2^j:Nat):Int))) (false,(1:Int),()) 9 rfl
  ⟨0,rfl,rfl,ad,rfl,fun j a=>ad⟩ ?_
 rintro ⟨b1,o,⟨⟩⟩ m h1 ⟨k,e,p,hk,rfl,a⟩;cases e;refine ak ?_;refine aQ ?_ ?_<;>intro q
 ·have b:k<=8:=by
   by_cases g:k=9
   ·subst g;exact absurd q bJ
   ·omega
  refine an ?_ ?_<;>intro r
  ·have r:n=((2^k:Nat):Int):=by simpa using r
   refine ⟨?_,rfl⟩
   have:k=0\/k=1\/k=2\/k=3\/k=4\/k=5\/k=6\/k=7\/k=8:=ad
   rcases this with rfl | rfl | rfl | rfl | rfl | rfl | rfl | rfl | rfl <;> (rw [r]; rfl)
  ·have r:¬ n=((2^k:Nat):Int):=by simpa using r
   have d:2^k<=2^8:=Nat.pow_le_pow_right ad b;have f:((2^k:Nat):Int)<=256:=by exact_mod_cast d
   have i:(0:Int)<=((2^k:Nat):Int):=Int.natCast_nonneg _;rw [wrap_i64 ad ad];have h2:(2:Int)*((2^k:Nat):Int)=((2^(k+1):Nat):Int):=by rw [Nat.pow_succ]; omega
   rw [h2];refine aD (cs:=fK) (false,((2^(k+1):Nat):Int),()) (9-(k+1)) rfl ad rfl ⟨k+1,rfl,rfl,ad,rfl,fun j l=>?_⟩
   by_cases g:j=k
   ·subst g; exact r
   ·exact a j ad
 ·have c:k=9:=by
   by_cases g:k=9
   ·exact g
   ·have d:2^k<=2^8:=Nat.pow_le_pow_right ad ad;omega
  subst c;refine ⟨?_,rfl⟩;have a0:=a 0 ad;have a1:=a 1 ad;have a2:=a 2 ad;have a3:=a 3 ad;have a4:=a 4 ad;have a5:=a 5 ad;have a6:=a 6 ad;have a7:=a 7 ad;have a8:=a 8 ad;unfold tM;simp only [Nat.reducePow] at a0 a1 a2 a3 a4 a5 a6 a7 a8;rw [Vx ad,Vx ad,Vx ad,Vx ad,Vx ad,Vx ad,Vx ad,Vx ad,Vx ad] <;> rfl
def J2 (v:lZ I O H Y):HC YC 34 #[pK O H U Y,vI (0:Int)] I fun w h'=>w=CH (bY Y 0)/\Ext I h':=by
 refine aZ (args:=[pK O H U Y,vI (0:Int)]) mixed Tryz.func34 aw (ln Y.kind Y.name Y.inst.op Y.inst.a Y.inst.b Y.inst.n Y.inst.form O H U Y.e.num Y.n) ?_;unfold gP aP dh ar cj;have V:maxLen=9223372036854775807:=rfl;refine br ?_;intro h1 b1 f W;have b1:bm h1 I.size 64 (encI O H U Y):=b1;have v1:=v.af f;simp only [ax];refine oa (cs:=Ay) (fun y h'=>y.1=bY Y 0/\Ext I h') ?_ ?_
 rotate_left
 ·rintro ⟨b2,⟨⟩⟩ h' ⟨D,F⟩;simp only at D;subst D;refine ak ?_;cases hr:bY Y 0
  ·exact ⟨rfl,F⟩
  ·exact ⟨rfl,F⟩
 have d:∀ (b:Bool) (h':Hp),b=bY Y 0->Ext I h'->T.again 0 [.bool b] [fun X h'=>∃ y:qK (flat [(false,[.bool])]),X=parts [(false,[.bool])] (dS _ y)/\(y.1=bY Y 0/\Ext I h')] (fun w h'=>w=CH (bY Y 0)/\Ext I h') h':=by
  rintro b h' rfl F;exact gX (cs:=Ay) (J:=fun y h'=>y.1=bY Y 0/\Ext I h') (bY Y 0,()) rfl rfl ⟨rfl,F⟩
 refine av b1 (Y.kind,()) (ak ?_)
 by_cases i:Y.kind=1
 ·refine cy (by rw [i]; rfl) ?_;have hit:bY Y 0=(cn Y.name.data.toList && z2 Y && z3 Y && z4 Y):=by unfold bY; rw [VE i]
  refine av b1 (Y.name,()) (ak ?_);refine aF (rm Y.name h1 (by have:=v.name; omega)) ?_;refine an (fun q=>?_) (fun q=>d _ _ (by rw [hit,q]; rfl) f);refine gj b1 v1.di.vw ?_;intro h2 u;exact d _ _ (by rw [hit,q]; unfold mV; simp [Bool.and_assoc]) (f.trans u)
 refine bX (by simpa using i) ?_
 by_cases k:Y.kind=2
 ·refine cy (by rw [k]; rfl) ?_;have hit:bY Y 0=(tV Y.inst Y.e && z1 Y && z4 Y):=by unfold bY; rw [Vu i,VE k]; simp
  refine av b1 (Y.inst.op,Y.inst.a,Y.inst.b,Y.inst.n,Y.inst.form,()) (ak ?_);refine br ?_;intro h2 b2 u Z;refine bT b2 ?_;intro h3 b3 j z3';have b3:bm h3 h1.size 62 (nK Y.inst):=b3;have m:Ext h1 h3:=u.st j (VL _);have b13:=b1.af m ah;rw [ax];refine av b3 (Y.inst.form,()) (ak ?_);refine oa (cs:=[]) (fun _ h'=>bm h' h1.size 62 (nK { Y.inst with form:=if rL Y.inst.op then 1 else Y.inst.form })/\Ext h1 h') ?_ ?_
  ·refine av b3 (Y.inst.op,()) (ak ?_);refine gw (Br h3 Y.inst.op v.op) ?_;intro h4 M;have b4:=b3.af M ah;refine an ?_ ?_<;>intro q
   ·refine cr b4 rfl (by simp [nK]) ?_;intro N K t z5;exact gX (cs:=[]) () rfl rfl ⟨by rw [VE q]; exact K,(m.trans M).st t (by have:=m.size; omega)⟩
   ·exact gX (cs:=[]) () rfl rfl ⟨by rw [Vu (by rw [q]; decide)]; exact b4,m.trans M⟩
  rintro _ N ⟨K,P⟩;refine ak ?_;have b15:=b1.af P ah;have v5:=v1.af P;refine oa (cs:=Ay) (fun y h'=>y.1=(decide (Y.inst.form=0) && decide (fW { Y.inst with form:=if rL Y.inst.op then 1 else Y.inst.form }=0) && (z1 Y && z4 Y))/\Ext N h') ?_ ?_
  ·refine an ?_ ?_<;>intro q
   ·have q:Y.inst.form=0:=by simpa using q
    refine av K (Y.inst.op,Y.inst.a,Y.inst.b,Y.inst.n,((if rL Y.inst.op then (1:Int) else Y.inst.form):Int),()) (ak ?_);refine aH (I9 N Y.inst.op Y.inst.a Y.inst.b Y.inst.n (if rL Y.inst.op then 1 else Y.inst.form) v.op) ?_;rintro _ S ⟨rfl,o⟩;refine ⟨(fW { Y.inst with form:=if rL Y.inst.op then 1 else Y.inst.form },()),rfl,ak ?_⟩;refine an ?_ ?_<;>intro r
    ·have r:fW { Y.inst with form:=if rL Y.inst.op then 1 else Y.inst.form }=0:=by simpa using r
     refine gj (b15.af o ah) (v5.af o).di.vw ?_;intro h7 B;exact gX (cs:=Ay) (mV Y true false false true,()) rfl rfl ⟨by rw [Vw q,Vw r]; rfl,o.trans B⟩
    ·have r:¬ fW { Y.inst with form:=if rL Y.inst.op then 1 else Y.inst.form }=0:=by simpa using r
     exact gX (cs:=Ay) (false,()) rfl rfl ⟨by rw [Vw q,Vx r]; rfl,o⟩
   ·have q:¬ Y.inst.form=0:=by simpa using q
    exact gX (cs:=Ay) (false,()) rfl rfl ⟨by rw [Vx q]; rfl,Ch.refl _ _⟩
  rintro ⟨b10,⟨⟩⟩ S ⟨D,o⟩;simp only at D;subst D;refine ak ?_;have b6:=K.af o ah;have b16:=b15.af o ah;have v6:=v5.af o;refine av b6 (Y.inst.op,()) (ak ?_);refine gw (H8 S Y.inst.op v.op) ?_;intro h7 B;have b7:=b6.af B ah;have b17:=b16.af B ah;have v7:=v6.af B;have e07:=((f.trans P).trans o).trans B;have hchk:Fb Y.inst.op=true->(decide (Y.inst.form=0) && decide (fW { Y.inst with form:=if rL Y.inst.op then 1 else Y.inst.form }=0) && (z1 Y && z4 Y) && (decide (Y.inst.n=0) && lB none Y.e.ai))=bY Y 0:=by
   intro s;rw [hit];unfold tV;rw [VE s]
   by_cases C:Y.inst.form=0
   ·rw [Vw C,C]
    by_cases c0:fW { Y.inst with form:=if rL Y.inst.op then 1 else 0 }=0
    ·have hs:=(Dl c0).1;simp only at hs;rw [Vw c0,Vw hs];simp only [Bool.true_and]
     ac_rfl
    ·rw [Vx c0]
     simp
   ·rw [Vx C]
    simp
  have z:Fb Y.inst.op=false->(decide (Y.inst.form=0) && decide (fW { Y.inst with form:=if rL Y.inst.op then 1 else Y.inst.form }=0) && (z1 Y && z4 Y) && z3 Y)=bY Y 0:=by
   intro s;rw [hit];unfold tV;rw [Vu (show ¬ (Fb Y.inst.op=true) by rw [s]; decide)];have Q:rL Y.inst.op=false:=by
    unfold Fb at s;unfold rL;rw [decide_eq_false_iff_not] at s ⊢;omega
   rw [Vu (show ¬ (rL Y.inst.op=true) by rw [Q]; decide)]
   by_cases C:Y.inst.form=0
   ·rw [Vw C];have hi:({ Y.inst with form:=Y.inst.form }:Ins)=Y.inst:=rfl;rw [hi]
    by_cases c0:fW Y.inst=0
    ·have hs:=(Dl c0).1;rw [Vw c0,Vw hs];unfold z3;simp only [Bool.true_and]
     ac_rfl
    ·rw [Vx c0]
     simp
   ·rw [Vx C]
    simp
  generalize (decide (Y.inst.form=0) && decide (fW { Y.inst with form:=if rL Y.inst.op then 1 else Y.inst.form }=0) && (z1 Y && z4 Y))=G at *;refine an ?_ ?_<;>intro s
  ·have hchk:=hchk s;refine an (fun g=>?_) (fun g=>d _ _ (by rw [<- hchk,g]; rfl) e07);refine av b7 (Y.inst.n,()) (ak ?_);refine an ?_ ?_<;>intro r
   ·have r:Y.inst.n=0:=by simpa using r
    refine av b17 ((O,H,U),(Y.e.num:Int),()) (ak ?_);refine aH (sR (c:=U) v7.di.vw (by have:=v.di.many; omega) v.di.names) ?_;rintro _ h8 ⟨rfl,R⟩;refine ⟨(lB none Y.e.ai,()),rfl,?_⟩;exact d _ _ (by rw [<- hchk,g,Vw r]; simp) (e07.trans R)
   ·have r:¬ Y.inst.n=0:=by simpa using r
    exact d _ _ (by rw [<- hchk,Vx r]; simp) e07
  ·have hchk:=z s;refine an (fun g=>?_) (fun g=>d _ _ (by rw [<- hchk,g]; rfl) e07);refine gj b17 v7.di.vw ?_;intro h8 R;exact d _ _ (by rw [<- hchk,g]; unfold mV; simp) (e07.trans R)
 refine bX (by simpa using k) ?_
 by_cases j:Y.kind=3
 ·refine cy (by rw [j]; rfl) ?_;have hit:bY Y 0=(tM Y.n && z1 Y && z2 Y && z3 Y):=by unfold bY; rw [Vu i,Vu k,VE j]
  refine av b1 (Y.n,()) (ak ?_);refine aF (Bw h1 Y.n) ?_;refine an (fun q=>?_) (fun q=>d _ _ (by rw [hit,q]; rfl) f);refine gj b1 v1.di.vw ?_;intro h2 u;exact d _ _ (by rw [hit,q]; unfold mV; simp [Bool.and_assoc]) (f.trans u)
 refine bX (by simpa using j) ?_
 by_cases A:Y.kind=4
 ·refine cy (by rw [A]; rfl) ?_;have hit:bY Y 0=(z1 Y && z2 Y && z3 Y && z4 Y):=by unfold bY; rw [Vu i,Vu k,Vu j,VE A]; simp
  refine gj b1 v1.di.vw ?_;intro h2 u;exact d _ _ (by rw [hit]; unfold mV; simp [Bool.and_assoc]) (f.trans u)
 refine bX (by simpa using A) ?_
 by_cases t:Y.kind=5
 ·refine cy (by rw [t]; rfl) ?_;exact d _ _ (by unfold bY; rw [Vu i,Vu k,Vu j,Vu A,VE t]; simp) f
 refine bX (by simpa using t) ?_
 by_cases E:Y.kind=6
 ·refine cy (by rw [E]; rfl) ?_;exact d _ _ (by unfold bY; rw [Vu i,Vu k,Vu j,Vu A,Vu t,VE E]; simp) f
 refine bX (by simpa using E) ?_
 by_cases L:Y.kind=7
 ·refine cy (by rw [L]; rfl) ?_;exact d _ _ (by unfold bY; rw [Vu i,Vu k,Vu j,Vu A,Vu t,Vu E,VE L]; simp) f
 refine bX (by simpa using L) ?_;exact d _ _ (by unfold bY; rw [Vu i,Vu k,Vu j,Vu A,Vu t,Vu E,Vu L]) f
def Mh (v:lZ I O H Y):HC YC 34 #[pK O H U Y,vI (1:Int)] I fun w h'=>w=CH (bY Y 1)/\Ext I h':=by
 refine aZ (args:=[pK O H U Y,vI (1:Int)]) mixed Tryz.func34 aw (kA Y.kind Y.name Y.inst.op Y.inst.a Y.inst.b Y.inst.n Y.inst.form O H U Y.e.num Y.n) ?_;unfold gQ aP ar cj;have K:maxLen=9223372036854775807:=rfl;refine br ?_;intro h1 b1 f L;have b1:bm h1 I.size 64 (encI O H U Y):=b1;have v1:=v.af f;simp only [ax];refine oa (cs:=Ay) (fun y h'=>y.1=bY Y 1/\Ext I h') ?_ ?_
 rotate_left
 ·rintro ⟨b2,⟨⟩⟩ h' ⟨t,z⟩;simp only at t;subst t;refine ak ?_;cases W:bY Y 1
  ·exact ⟨rfl,z⟩
  ·exact ⟨rfl,z⟩
 have d:∀ (b:Bool) (h':Hp),b=bY Y 1->Ext I h'->T.again 0 [.bool b] [fun M h'=>∃ y:qK (flat [(false,[.bool])]),M=parts [(false,[.bool])] (dS _ y)/\(y.1=bY Y 1/\Ext I h')] (fun w h'=>w=CH (bY Y 1)/\Ext I h') h':=by
  rintro b h' rfl z;exact gX (cs:=Ay) (J:=fun y h'=>y.1=bY Y 1/\Ext I h') (bY Y 1,()) rfl rfl ⟨rfl,z⟩
 refine av b1 (Y.kind,()) (ak ?_)
 by_cases i:Y.kind=1
 ·refine cy (by rw [i]; rfl) ?_;have hit:bY Y 1=(cn Y.name.data.toList && z2 Y && z3 Y && z4 Y):=by unfold bY; rw [VE i]
  refine av b1 (Y.name,()) (ak ?_);refine aF (rm Y.name h1 (by have:=v.name; omega)) ?_;refine an (fun q=>?_) (fun q=>d _ _ (by rw [hit,q]; rfl) f);refine gj b1 v1.di.vw ?_;intro h2 g;exact d _ _ (by rw [hit,q]; unfold mV; simp [Bool.and_assoc]) (f.trans g)
 refine bX (by simpa using i) ?_
 by_cases k:Y.kind=2
 ·refine cy (by rw [k]; rfl) ?_;have hit:bY Y 1=(false):=by unfold bY; rw [Vu i,VE k]; simp
  refine av b1 (Y.inst.op,Y.inst.a,Y.inst.b,Y.inst.n,Y.inst.form,()) (ak ?_);refine br ?_;intro h2 b2 g N;refine bT b2 ?_;intro h3 b3 j P;have b3:bm h3 h1.size 62 (nK Y.inst):=b3;have m:Ext h1 h3:=g.st j (VL _);have b13:=b1.af m ah;rw [ax];refine av b3 (Y.inst.form,()) (ak ?_);refine oa (cs:=[]) (fun _ h'=>bm h' h1.size 62 (nK { Y.inst with form:=if rL Y.inst.op then 1 else Y.inst.form })/\Ext h1 h') ?_ ?_
  ·refine av b3 (Y.inst.op,()) (ak ?_);refine gw (Br h3 Y.inst.op v.op) ?_;intro X D;have b4:=b3.af D ah;refine an ?_ ?_<;>intro q
   ·refine cr b4 rfl (by simp [nK]) ?_;intro G E o Z;exact gX (cs:=[]) () rfl rfl ⟨by rw [VE q]; exact E,(m.trans D).st o (by have:=m.size; omega)⟩
   ·exact gX (cs:=[]) () rfl rfl ⟨by rw [Vu (by rw [q]; decide)]; exact b4,m.trans D⟩
  rintro _ G ⟨E,F⟩;refine ak ?_;have b15:=b1.af F ah;have v5:=v1.af F;refine oa (cs:=Ay) (fun y h'=>y.1=false/\Ext G h') (gX (cs:=Ay) (false,()) rfl rfl ⟨rfl,Ch.refl _ _⟩) ?_;rintro ⟨Q,⟨⟩⟩ R ⟨t,A⟩;simp only at t;subst t;refine ak ?_;have b6:=E.af A ah;have b16:=b15.af A ah;have v6:=v5.af A;refine av b6 (Y.inst.op,()) (ak ?_);refine gw (H8 R Y.inst.op v.op) ?_;intro h7 B;have b7:=b6.af B ah;have b17:=b16.af B ah;have v7:=v6.af B;have e07:=((f.trans F).trans A).trans B;refine an ?_ ?_<;>intro S
  ·exact bX rfl (d _ _ (by rw [hit]) e07)
  ·exact bX rfl (d _ _ (by rw [hit]) e07)
 refine bX (by simpa using k) ?_
 by_cases j:Y.kind=3
 ·refine cy (by rw [j]; rfl) ?_;have hit:bY Y 1=(tM Y.n && z1 Y && z2 Y && z3 Y):=by unfold bY; rw [Vu i,Vu k,VE j]
  refine av b1 (Y.n,()) (ak ?_);refine aF (Bw h1 Y.n) ?_;refine an (fun q=>?_) (fun q=>d _ _ (by rw [hit,q]; rfl) f);refine gj b1 v1.di.vw ?_;intro h2 g;exact d _ _ (by rw [hit,q]; unfold mV; simp [Bool.and_assoc]) (f.trans g)
 refine bX (by simpa using j) ?_
 by_cases s:Y.kind=4
 ·refine cy (by rw [s]; rfl) ?_;exact d _ _ (by unfold bY; rw [Vu i,Vu k,Vu j,VE s]; simp) f
 refine bX (by simpa using s) ?_
 by_cases o:Y.kind=5
 ·refine cy (by rw [o]; rfl) ?_;have hit:bY Y 1=(decide (-128<=Y.n) && decide (Y.n<=255) && z1 Y && z2 Y && z3 Y):=by unfold bY; rw [Vu i,Vu k,Vu j,Vu s,VE o]; simp
  refine av b1 (Y.n,()) (ak ?_);refine an (fun q=>?_) (fun q=>d _ _ (by rw [hit,show decide (-128<=Y.n)=false from q]; rfl) f);refine av b1 (Y.n,()) (ak ?_);refine an (fun r=>?_) (fun r=>d _ _ (by rw [hit,r]; simp) f);refine gj b1 v1.di.vw ?_;intro h2 g;exact d _ _ (by rw [hit,r,show decide (-128<=Y.n)=true from q]; unfold mV; simp [Bool.and_assoc]) (f.trans g)
 refine bX (by simpa using o) ?_
 by_cases u:Y.kind=6
 ·refine cy (by rw [u]; rfl) ?_;have hit:bY Y 1=(lB none Y.e.ai && z1 Y && z2 Y && z4 Y):=by unfold bY; rw [Vu i,Vu k,Vu j,Vu s,Vu o,VE u]; simp
  refine av b1 ((O,H,U),(Y.e.num:Int),()) (ak ?_);refine aH (sR (c:=U) v1.di.vw (by have:=v.di.many; omega) v.di.names) ?_;rintro _ h2 ⟨rfl,g⟩;refine ⟨(lB none Y.e.ai,()),rfl,ak ?_⟩;refine an (fun q=>?_) (fun q=>d _ _ (by rw [hit,q]; rfl) (f.trans g));refine gj (b1.af g ah) (v1.af g).di.vw ?_;intro h3 V;exact d _ _ (by rw [hit,q]; unfold mV; simp [Bool.and_assoc]) ((f.trans g).trans V)
 refine bX (by simpa using u) ?_
 by_cases C:Y.kind=7
 ·refine cy (by rw [C]; rfl) ?_;have hit:bY Y 1=(decide (0<=Y.n) && decide (Y.n<=1048576) && z1 Y && z2 Y && z3 Y):=by unfold bY; rw [Vu i,Vu k,Vu j,Vu s,Vu o,Vu u,VE C]; simp
  refine av b1 (Y.n,()) (ak ?_);refine an (fun q=>?_) (fun q=>d _ _ (by rw [hit,show decide (0<=Y.n)=false from q]; rfl) f);refine av b1 (Y.n,()) (ak ?_);refine an (fun r=>?_) (fun r=>d _ _ (by rw [hit,r]; simp) f);refine gj b1 v1.di.vw ?_;intro h2 g;exact d _ _ (by rw [hit,r,show decide (0<=Y.n)=true from q]; unfold mV; simp [Bool.and_assoc]) (f.trans g)
 refine bX (by simpa using C) ?_;exact d _ _ (by unfold bY; rw [Vu i,Vu k,Vu j,Vu s,Vu o,Vu u,Vu C]) f
def Bh {c k:Nat} (v:lZ I O H Y) (hk:k<2):HC YC 34 #[pK O H c Y,vI (k:Int)] I fun w h'=>w=CH (bY Y k)/\Ext I h':=by
 have:k=0\/k=1:=ad
 rcases this with rfl | rfl
 ·exact J2 v
 ·exact Mh v
def KB (s:XA):List XB:=[.string s]
abbrev SN (h:Hp) (b:Nat) (p:XC) (l c:Nat) (xs:List XA):Prop:=SL h b 9 1 p l c (xs.map KB)
def SN.len {xs:List XA} (s:SN I H O U V xs):U=xs.length:=by
 have:=s.1
 rwa [Vr] at this
def SN.cell {xs:List XA} (s:SN I H O U V xs) {i:Nat} (hi:i<xs.length):∃ a,O=some a/\aE I (a.add (i*1)) 0 [.string xs[i]]:=by
 obtain ⟨a,d,hc⟩:=SL.cells s (i:=i) (by rw [Vr]; exact hi);refine ⟨a,d,?_⟩;rw [VD] at hc;exact hc
def TH (D:List XA) (s:XA) (i:Nat) (hi:i<D.length):fH (D.take (i+1)) s=(fH (D.take i) s || decide (D[i]=s)):=by
 unfold fH;rw [Vt hi,List.any_append]
 simp
def FQ {xs:List XA} (v:SN I H O U V xs) (hl:xs.length<=2^61) (s:XA):wA YC 38 [.slice O U V,.string s] I (.bool (fH xs s)):=by
 refine eC mixed Tryz.func38 aw (iP O U V s) ?_;unfold gy aT bo bC ay bz dI aK cj;have n:=SN.len v;refine aY (cs:=fK) (fun y m h'=>∃ i:Nat,y.2.1=(i:Int)/\m=xs.length-i/\i<=xs.length/\h'=I/\fH (xs.take i) s=false) (false,(0:Int),()) xs.length rfl
  ⟨0,rfl,rfl,ad,rfl,rfl⟩ ?_
 rintro ⟨b2,g,⟨⟩⟩ m h' ⟨i,hi,rfl,e,rfl,hn⟩;simp only at hi;subst hi;refine ak ?_;refine aQ ?_ ?_<;>intro q
 ·have d:i<xs.length:=ad
  obtain ⟨a,f,hc⟩:=SN.cell v d;refine cC f ?_;rw [cX i];refine aC (xs[i],()) hc (ak ?_);have hs:=TH xs s i d;rw [qP];refine an ?_ ?_<;>intro r
  ·have r:=Vv r;refine ⟨VO Value.bool ?_,rfl⟩;unfold fH;exact (WX.2 ⟨_,VA d,Vw r⟩).symm
  ·rw [hn,r] at hs;refine aD (cs:=fK) (b2,((i+1:Nat):Int),()) (xs.length-(i+1)) rfl ad (by rw [wrap_i64 ad ad]; rfl) ?_;exact ⟨i+1,rfl,rfl,ad,rfl,hs⟩
 ·have:i=xs.length:=ad
  subst this;rw [V1] at hn;exact ⟨by rw [hn],rfl⟩
def dM (l:List cv):List XA:=(l.filter fun x=>decide (x.kind=1)).map (·.name)
def wb (l:List cv) (i:Nat) (hi:i<l.length):dM (l.take (i+1))=dM (l.take i)++if l[i].kind=1 then [l[i].name] else []:=by
 unfold dM;rw [Vt hi,List.filter_append,VB]
 congr 1
 by_cases hk:l[i].kind=1 <;> simp [hk]
variable {c:XC->Nat->Nat->T}
def SN.push {h:Hp} {xs:List XA} (v:SN h H O U V xs) (x:XA) (hl:xs.length<=2^40) (d:H<=h.size) 
  (hk:∀ p' c' h',SN h' H p' (U+1) c' (xs++[x])->Ch (aG O) h h'->c p' (U+1) c' Z a h') :
  T.eK YC (Instr.buildSlice 28 1 #[(0,.string x)]) false [(false,[.slice 0])] (fun q m e=>T.eK YC (Builtin.append_ #[28,28] 28 #[.slice O U V,.slice q m e]) false [(false,[.slice 0])] c) Z a h:=by
 have n:=SN.len v;refine lO (vs:=[.string x]) xp N0 rfl ad ad aw rfl rfl v d ad ad ?_;intro p' c' h' f ch _;refine hk p' c' h' ?_ ch;unfold SN;rw [VB];exact f
def SN.ext {a b':Hp} {xs:List XA} (e:Ext I a) (v:SN a H O U V xs) (d:I.size<=H) (k:Ch (aG O) a b'):Ext I b' :=
 Ch.trans e k (fun i hi hl=>by have:=(Ob.SL.cu v i hi).1; omega)
def nD {c:Nat} {us:List cv} (v:Ai I O H us) (u:us.length<=2^20) :
  HC YC 39 #[.slice O H c] I fun w h'=>∃ p' l' c',w=.slice p' l' c'/\SN h' I.size p' l' c' (dM us)/\Ext I h':=by
 refine aZ (args:=[.slice O H c]) mixed Tryz.func39 aw (mu O H c) ?_;unfold iS aT bo bC ay aR aM aK eb;have n:=v.len;refine aY (cs:=wG) (fun y m h'=>∃ i:Nat,y.2.1=(i:Int)/\m=us.length-i/\i<=us.length/\Ext I h'/\(dM (us.take i)).length<=i/\SN h' I.size y.1.1 y.1.2.1 y.1.2.2 (dM (us.take i))) ((none,0,0),(0:Int),()) us.length rfl
  ⟨0,rfl,rfl,ad,Ch.refl _ _,by simp [dM],SL.nil _ _ _ _⟩ ?_
 rintro ⟨⟨e,d,f⟩,z,⟨⟩⟩ m h1 ⟨i,hi,rfl,g,a,j,s⟩;simp only at hi s;subst hi;refine ak ?_;have hz:=a.size;refine aQ ?_ ?_<;>intro q
 ·have b:i<us.length:=ad
  obtain ⟨A,pp,B,C,rfl',hc,k⟩:=(v.af a).cells i b;have ht:=wb us i b;generalize us[i]=x at hc k ht;refine fJ (bk rfl' ?_);rw [cX i];refine aC (x.kind,()) ⟨hc.1,trivial⟩ (ak ?_);refine an ?_ ?_<;>intro r
  ·have r:x.kind=1:=by simpa using r
   rw [VE r] at ht;refine fJ (bk rfl' ?_);refine aC (x.name,()) ⟨by rw [add_add]; exact hc.2.1,trivial⟩ ?_;refine ak ?_;refine SN.push s x.name ad ad ?_;intro p' c' h2 o t;refine aD (cs:=wG) ((p',d+1,c'),((i+1:Nat):Int),()) (us.length-(i+1)) rfl ad (by rw [wrap_i64 ad ad]; rfl) ?_;exact ⟨i+1,rfl,rfl,ad,SN.ext a s (VL _) t,by rw [ht,Vs]; simp; omega,by rw [ht]; exact o⟩
  ·have r:¬ x.kind=1:=by simpa using r
   rw [Vu r,Wr] at ht;refine aD (cs:=wG) ((e,d,f),((i+1:Nat):Int),()) (us.length-(i+1)) rfl ad (by rw [wrap_i64 ad ad]; rfl) ?_;exact ⟨i+1,rfl,rfl,ad,a,by rw [ht]; omega,by rw [ht]; exact s⟩
 ·have:i=us.length:=ad
  subst this;rw [V1] at s;exact ⟨e,d,f,rfl,s,a⟩
def OH {L:Lp} {K:XB->Hp->Prop} {h:Hp} {k:XC->Nat->Nat->T} {b b':Nat} {p:XC} {l c:Nat} {xs:List XA} (s:SN h b p l c xs) {q:XC} {m d:Nat} {us:List XA} (v:SN h b' q m d us)
  (hl:l+m<=2^40) (E:b<=h.size)
  (hk:∀ p' c' h',SN h' b p' (l+m) c' (xs++us)->Ch (aG p) h h'->k p' (l+m) c' L K h') :
  T.eK YC (Builtin.append_ #[28,28] 28 #[.slice p l c,.slice q m d]) false [(false,[.slice 0])] k L K h:=by
 obtain ⟨i,hi,F,e,o⟩:=kq N0;refine dc ?_;cases q with
 | none =>
  have h1:us=[]:=by
   have:=v.2.2.2
   simpa using this
  have h0:m=0:=by have:=SN.len v; rw [h1] at this; exact this
  have G:d=0:=v.2.2.1;subst h0 h1 G;have r:l<=c:=by
   cases p with
   | none =>
    have h2:=s.2.2.2;have h3:=s.1;rw [h2] at h3;simp at h3;omega
   | some a =>
    obtain ⟨g,u,rest,rfl,w,j,_⟩:=s.2.2;exact j.1
  simp [Builtin.append_,al,au xp,bF hi,cH hi,Builtin.lenOf,Builtin.firstCells,r];have f:∃ p' l' c',Value.slice p l c=.slice p' l' c'/\k p' l' c' L K h:=⟨p,l,c,rfl,by simpa using hk p c h (by simpa using s) (Ch.refl _ _)⟩
  cases p with
  | none=>exact f
  | some a=>exact f
 | some a =>
  have hc:aE h a 0 (us.map KB).flatten:=by
   obtain ⟨g,u,rest,rfl,w,j,n,J⟩:=v.2.2;refine n.cells _ ?_;rw [Xf,Xx]
  have A:(us.map KB).flatten.all cO=true:=by
   rw [VT];intro x H;obtain ⟨y,B,C⟩:=Xt.1 H;obtain ⟨z,_,rfl⟩:=Vy.1 B;rw [VH.1 C] <;> rfl
  refine jh xp hi F (by rw [e]; rfl) (by rw [e]; exact s) (ys:=us.map KB) (by rw [Vr]; exact SN.len v) (fun y B=>?_) hc A (by rw [o]; omega) ad E ?_
  ·obtain ⟨t,_,rfl⟩:=Vy.1 B;rw [e] <;> rfl
  ·intro p' c' h' D k' I;rw [e,<- VB] at D;exact ⟨_,_,_,rfl,hk p' c' h' D k'⟩
def cd (u:bS):List XA:=dM u.text++dM u.data++u.aS.map (·.1)
def uh (l:List cv):(dM l).length<=l.length:=by
 unfold dM;rw [Vr];exact WT _ _
variable {e f g h:cm} {k:bS}
def LI (v:jI I e f g h k) (h1:k.text.length<=2^20) (h2:k.data.length<=2^20) (Y:k.aS.length<=2^20) :
  HC YC 11 #[rU e f g h] I fun w h'=>∃ p' l' c',w=.slice p' l' c'/\SN h' I.size p' l' c' (cd k)/\Ext I h':=by
 refine aZ (args:=[rU e f g h]) mixed Tryz.func11 aw (pF e.p e.l e.c f.p f.l f.c g.p g.l g.c h.p h.l h.c) ?_;unfold kD aT bo bC ay bq aR aK eb;refine br ?_;intro t b1 x z1;have b1:bm t I.size 30 [e.v,f.v,g.v,h.v]:=b1;simp only [ax];refine av b1 ((e.p,e.l,e.c),()) (ak ?_);refine av b1 ((f.p,f.l,f.c),()) (ak ?_);refine aH (nD (c:=e.c) (v.text.af x) h1) ?_;rintro _ Z ⟨p8,C,l10,rfl,N,z⟩;refine ⟨((p8,C,l10),()),rfl,ak ?_⟩;have b2:=b1.af z ah;refine ⟨⟨b2.cells _ rfl,trivial⟩,?_⟩;refine aH (nD (c:=f.c) (v.data.af (x.trans z)) h2) ?_;rintro _ P ⟨D,o,E,rfl,r,A⟩;refine ⟨((D,o,E),()),rfl,ak ?_⟩;have b3:=b2.af A ah;have q1:=x.size;have q2:=z.size;have q3:=A.size;refine ⟨⟨b3.cells _ rfl,trivial⟩,?_⟩;have j:SN P t.size p8 C l10 (dM k.text):=N.af A ah;have n8:=SN.len N;have n11:=SN.len r;have k8:=uh k.text;have k11:=uh k.data;have e03:=(x.trans z).trans A;refine OH j r ad ad ?_;intro F G g4 H J;have e4:=SN.ext e03 j ad J;have Q:I.size∉aG p8:=fun hi=>by have:=(Ob.SL.cu j _ hi).1; omega
 have b4:=b3.af J Q;refine ⟨⟨b4.cells _ rfl,b4.cells _ rfl,trivial⟩,?_⟩;have nc:=v.aS.len;have R:∀ i,i<k.aS.length->dM k.text++dM k.data++(k.aS.take (i+1)).map (·.1)=(dM k.text++dM k.data++(k.aS.take i).map (·.1))++[(k.aS.getD i (dA,D9)).1]:=by
  intro i hi;rw [Vt hi,VB,<- VW,V3,VC hi] <;> rfl
 refine aY (cs:=wG) (fun y m h'=>∃ i:Nat,y.2.1=(i:Int)/\m=k.aS.length-i/\i<=k.aS.length/\(Ext I h'/\t.size<=h'.size)/\bm h' I.size 30 [e.v,f.v,g.v,h.v]/\SN h' t.size y.1.1 y.1.2.1 y.1.2.2 (dM k.text++dM k.data++(k.aS.take i).map (·.1))) ((F,C+o,G),(0:Int),()) k.aS.length rfl
  ⟨0,rfl,rfl,ad,⟨e4,by have:=J.size; omega⟩,b4,by simpa using H⟩ ?_
 rintro ⟨⟨p1,O,S⟩,n4,⟨⟩⟩ m g5 ⟨i,hi,rfl,U,⟨B,V⟩,K,s⟩;simp only at hi s;subst hi;refine ak ?_;have hz:=B.size;refine av K ((g.p,g.l,g.c),()) (ak ?_);refine aQ ?_ ?_<;>intro q
 ·have n:i<k.aS.length:=ad
  refine av K ((g.p,g.l,g.c),()) (ak ?_);obtain ⟨aa,pp,ll,cc,rfl',hc,va,vn⟩:=(v.aS.af B).cells i n;refine fJ (bk rfl' ?_);rw [cX i];refine aC (k.aS[i].1,()) ⟨hc.1,trivial⟩ (ak ?_);have ns:=SN.len s;have W:(k.aS.getD i (dA,D9)).1=k.aS[i].1:=by
   rw [V3,VC n] <;> rfl
  refine SN.push s _ (by simp only [List.length_append,List.length_map,List.length_take]; omega) V ?_;intro p' c' h2 X L;have M:I.size∉aG p1:=fun hi=>by have:=(Ob.SL.cu s _ hi).1; omega
  refine aD (cs:=wG) ((p',O+1,c'),((i+1:Nat):Int),()) (k.aS.length-(i+1)) rfl ad (by rw [wrap_i64 ad ad]; rfl) ?_;exact ⟨i+1,rfl,rfl,ad,⟨SN.ext B s ad L,by have:=L.size; omega⟩,K.af L M,by rw [R i n,W]; exact X⟩
 ·have:i=k.aS.length:=ad
  subst this;rw [V1] at s;exact ⟨p1,O,S,rfl,Sx.SL.mono s ad,B⟩
theorem sD {h:Hp} {a:YA}:∀ (xs:List XA) (k:Nat),(∀ i,(hi:i<xs.length)->aE h (a.add ((k+i)*1)) 0 [.string xs[i]])->aE h a k (xs.map KB).flatten
 | [],_,_=>trivial
 | x::xs,k,hc=>by
  refine ⟨?_,?_⟩
  ·have:=(hc 0 ah).1
   rw [add_add] at this;simpa using this
  ·refine sD xs (k+1) fun i hi=>?_
   have:=hc (i+1) (by simpa using hi)
   rw [show k+1+i=k+(i+1) from ad];simpa using this
def NF.flat {h:Hp} {a:YA} {xs:List XA} (v:NF h (some a) H xs):aE h a 0 (xs.map KB).flatten :=
 sD xs 0 fun i hi=>by
  obtain ⟨b,c,hc,_⟩:=v.cells i hi;cases c;rw [V9];exact hc
def Pj {h:Hp} (s:SL h H 9 1 O 0 U []) {us:List XA} (v:NF h b V us)
  (hl:us.length<=2^40) (u:H<=h.size)
  (hk:∀ p' c' h',SN h' H p' V c' us->Ch (aG O) h h'->c p' V c' Z a h') :
  T.eK YC (Builtin.append_ #[28,28] 28 #[.slice O 0 U,.slice b V d]) false [(false,[.slice 0])] c Z a h:=by
 obtain ⟨i,hi,w,f,j⟩:=kq N0;have hlen:=v.len;refine dc ?_;cases b with
 | none =>
  have h1:us=[]:=by
   cases us with
   | nil=>rfl
   | cons t us=>obtain ⟨e,A,_⟩:=v.cells 0 ah; cases A
  have h0:V=0:=by rw [h1] at hlen; exact hlen
  subst h0 h1;have g:∃ p' l' c',Value.slice O 0 U=.slice p' l' c'/\c p' l' c' Z a h:=⟨O,0,U,rfl,hk O U h s (Ch.refl _ _)⟩
  cases O with
  | none =>
   have hc:U=0:=s.2.2.1;subst hc;simp [Builtin.append_,al,au xp,bF hi,Builtin.lenOf,Builtin.firstCells,storeCells];exact g
  | some e =>
   simp [Builtin.append_,al,au xp,bF hi,Builtin.lenOf,Builtin.firstCells,storeCells];exact g
 | some e =>
  have l:(us.map KB).flatten.all cO=true:=by
   rw [VT];intro x B;obtain ⟨y,n,o⟩:=Xt.1 B;obtain ⟨z,_,rfl⟩:=Vy.1 n;rw [VH.1 o] <;> rfl
  refine jh xp hi w (by rw [f]; rfl) (by rw [f]; exact s) (ys:=us.map KB) (by rw [Vr]; exact hlen) (fun y n=>?_) v.flat l (by rw [j]; omega) ad u ?_
  ·obtain ⟨t,_,rfl⟩:=Vy.1 n;rw [f] <;> rfl
  ·intro p' c' h' r k' C;rw [f] at r;rw [V9] at r ⊢;exact ⟨_,_,_,rfl,hk p' c' h' r k'⟩
structure CU (h0:Hp) (a b c d:cm) (h:Hp):Prop where
 b1:bm h h0.size 30 [a.v,b.v,c.v,d.v]
 b2:bm h (h0.size+1) 30 zU
 ext:Ext h0 h
section
variable {h0 h h':Hp} {a b c d:cm}
def CU.af (s:CU h0 a b c d h) (e:Ext h h'):CU h0 a b c d h':=⟨s.b1.af e ah,s.b2.af e ah,s.ext.trans e⟩
def CU.c0 (s:CU h0 a b c d h):aE h ⟨h0.size,0,none⟩ 0 [a.v]:=s.b1.cells _ rfl
def CU.c1 (s:CU h0 a b c d h):aE h (Addr.add ⟨h0.size,0,none⟩ 1) 0 [b.v]:=by rw [ax]; exact s.b1.cells _ rfl
def CU.c3 (s:CU h0 a b c d h):aE h (Addr.add ⟨h0.size,0,none⟩ 3) 0 [d.v]:=by rw [ax]; exact s.b1.cells _ rfl
def CU.sz (s:CU h0 a b c d h):h0.size+2<=h.size:=by have:=s.b2.lt; omega
end
def Nb (m d R:YA):T :=
   T.loop [aK] [vI (0:Int)] <| fun (a:Int) =>
   T.ae (m.add 2) [.slice 88] <| fun (S:XC) (w U:Nat) =>
   bC a w
   (T.ae (d.add 2) [.slice 88] <| fun (e:XC) (f g:Nat) =>
   T.ae (m.add 2) [.slice 88] <| fun (b:XC) (c h:Nat) =>
   T.need (eH a c) <|
   T.bd b <| fun (n:YA) =>
   T.ae (n.add (ay a 3)) [.string] <| fun (o:XA) =>
   T.ae (m.add 2) [.slice 88] <| fun (p:XC) (q i:Nat) =>
   T.need (eH a q) <|
   T.bd p <| fun (r:YA) =>
   T.ae ((r.add (ay a 3)).add 1) [.slice 66,.int .u32] <| fun (j:XC) (k l:Nat) (s:Int) =>
   bq 57 [.agg #[.slice j k l,ar s]] false [(true,[.slice 66,.int .u32])] <| fun (x:XC) (t y:Nat) (z:Int) =>
   T.az [((m.add 2),[.slice p q i]),((n.add (ay a 3)),[.string o]),((m.add 2),[.slice b c h]),((d.add 2),[.slice e f g])] <|
   bR (Instr.buildSlice 27 1 #[(0,.agg #[.string o,.slice x t y,ar z])]) false [eb] <| fun (A:XC) (B u:Nat) =>
   T.az [(((r.add (ay a 3)).add 1),[.slice j k l,ar s]),((m.add 2),[.slice p q i]),((n.add (ay a 3)),[.string o]),((m.add 2),[.slice b c h]),((d.add 2),[.slice e f g])] <|
   bR (Builtin.append_ #[27,27] 27 #[.slice e f g,.slice A B u]) false [eb] <| fun (C:XC) (D E:Nat) =>
   T.az [(((r.add (ay a 3)).add 1),[.slice j k l,ar s]),((m.add 2),[.slice p q i]),((n.add (ay a 3)),[.string o]),((m.add 2),[.slice b c h])] <|
   T.ao (d.add 2) [.slice C D E] <|
   T.again 0 [vI (bf (a+(1:Int)))])
   (T.ae d [.slice 64,.slice 64,.slice 88,.slice 9] <| fun (e:XC) (f g:Nat) (b:XC) (c h:Nat) (F:XC) (G H:Nat) (I:XC) (i J:Nat) =>
   T.ao R [.slice e f g,.slice b c h,.slice F G H,.slice I i J] <|
   T.ae R [.slice 64,.slice 64,.slice 88,.slice 9] <| fun (j:XC) (k l:Nat) (K:XC) (L t:Nat) (M:XC) (N O:Nat) (P:XC) (u Q:Nat) =>
   T.ret (.agg #[.slice j k l,.slice K L t,.slice M N O,.slice P u Q]))
def Zk (h0 h h':Hp):Prop:=∃ ws,Ch ws h h'/\∀ i,i∈ws->h0.size+2<=i/\∃ a,bm h i 9 a
def fl {h0 h':Hp} {xs:List XB} (b:bm I H 30 xs) (z:Zk h0 I h'):bm h' H 30 xs:=by
 obtain ⟨ws,k,a⟩:=z;refine b.af k (fun c=>?_);obtain ⟨_,d,b2⟩:=a H c;unfold bm at b b2;rw [b] at b2;simp at b2
def cJ {h0 h':Hp} {ws:List (cm × cv)} (s:Nz I H O U V ws) (z:Zk h0 I h'):Nz h' H O U V ws:=by
 obtain ⟨e,k,a⟩:=z;refine Ls.ig s k (fun i hi _=>?_);obtain ⟨_,d,b2⟩:=a i hi;exact .inr ⟨9,d,b2,bJ,bJ⟩
def CU.kF {h0 h':Hp} (s:CU h0 e f g h I) (z:Zk h0 I h'):CU h0 e f g h h':=by
 obtain ⟨m,k,j⟩:=z;exact ⟨s.b1.af k (fun l=>by have:=(j _ l).1; omega),s.b2.af k (fun l=>by have:=(j _ l).1; omega),Ch.trans s.ext k (fun i hi hl=>by have:=(j i hi).1; omega)⟩
section
variable {L:Lp} {K:XB->Hp->Prop} {h0 h:Hp}
variable {H:XC->Nat->Nat->T}
def j8 (a:h0.size+2<=h.size) (hk:∀ p h',SL h' (h0.size+2) 9 1 p 0 0 []->Ext h h'->H p 0 0 L K h'):T.eK YC (Instr.buildSlice 28 0 #[]) false [(false,[.slice 0])] H L K h :=
 Cc xp N0 fun h' s e=>hk _ h' (Sx.SL.mono s a) e
def eX (a:h0.size+2<=h.size) {p:XC} {c:Nat} (s:SL h (h0.size+2) 9 1 p 0 c []) {q:XC} {m d:Nat} {us:List XA} (v:NF h q m us) (hl:us.length<=2^40) 
  (hk:∀ p' c' h',SN h' (h0.size+2) p' m c' us->Zk h0 h h'->H p' m c' L K h'):T.eK YC (Builtin.append_ #[28,28] 28 #[.slice p 0 c,.slice q m d]) false [(false,[.slice 0])] H L K h :=
 Pj s v hl a fun p' c' h' b k'=>hk p' c' h' b ⟨_,k',fun i hi=>⟨(Ob.SL.cu s i hi).1,Ob.SL.fO s i hi⟩⟩
def yg {a b c d:cm} (s:CU h0 a b c d h) {k:YA->T} (hk:∀ h' g,bm h' g 30 zU->h0.size+2<=g->Ext h h'->k ⟨g,0,none⟩ L K h'):T.new [.slice none 0 0,.slice none 0 0,.slice none 0 0,.slice none 0 0] 30 k L K h :=
 br fun h' b e z=>hk h' h.size b s.sz e
end
def iN (h:Hp):Prop:=∃ e f,h[1]?=some (.cells (Lib.pow10Tab.map fun z=>Value.int .u64 z).toArray e f)
def iN.af {ws:List Nat} {h':Hp} (p:iN I) (k:Ch ws I h') (a:1∉ws):iN h':=by
 obtain ⟨e,f,b⟩:=p;exact ⟨e,f,k.get b a⟩
def R5 {W:World} {name:String} (a:Tryz.prog.globalNamed name=some 1) (p:iN W.heap):Lib.TabIs YC W name .u64 Lib.pow10Tab:=by
 obtain ⟨e,f,b⟩:=p;unfold Lib.TabIs World.var?;rw [a];show (match W.heap[1]? with | some (.cells cs _ _)=>some cs | _=>none)=_;rw [b]
def uy {b':Nat} {e a:TypeId} {sz:Nat} {q:XC} {l' c':Nat} {xs f:List (List XB)} (s:SL I H e sz O V d xs) (t:SL I b' a U q l' c' f) (g:e≠a):∀ i,i∈aG O->i∉aG q:=fun i h1 h2=>by
 obtain ⟨j,b1⟩:=SL.fO s i h1;obtain ⟨k,b2⟩:=SL.fO t i h2;unfold bm at b1 b2;rw [b1] at b2;simp only [Option.some.injEq,Obj.cells.injEq] at b2;exact g b2.2.1
def SN.put {h:Hp} {xs:List XA} (v:SN h H O U V xs) {i:Nat} (hi:i<xs.length) (x:XA) {d:YA} (e:O=some d) 
  (hk:∀ h',SN h' H O U V (xs.set i x)->Ch (aG O) h h'->h'.size=h.size->j Z a h'):T.ao (d.add (i*1)) [.string x] j Z a h:=by
 refine SL.store (P:=YC) v (i:=i) (vs:=KB x) (by rw [Vr]; exact hi) rfl rfl e ?_;intro h' f ch z;refine hk h' ?_ ch z;unfold SN;rw [WR];exact f
def EW (zs:List XA) (j:Nat) (a:0<j) (hl:j<zs.length):(zs.set j (zs[j-1]'ad)).eraseIdx (j-1)=zs.eraseIdx j:=by
 apply WA;intro k;rw [List.getElem?_eraseIdx,List.getElem?_eraseIdx]
 by_cases h1:k<j-1
 ·rw [VE h1,VE ad,List.getElem?_set_ne ad]
 ·rw [Vu h1]
  by_cases h2:k<j
  ·have:k=j-1:=ad
   subst this;rw [VE h2,show j-1+1=j from ad,List.getElem?_set_self hl,VC ad]
  ·rw [Vu h2,List.getElem?_set_ne ad]
def OT (zs:List XA) (j:Nat) (hl:j<zs.length) (x s:XA):fH (zs.set j x) s=(fH (zs.eraseIdx j) s || decide (x=s)):=by
 unfold fH;rw [List.set_eq_take_append_cons_drop,VE hl,List.eraseIdx_eq_take_drop_succ];simp only [List.any_append,List.any_cons]
 all_goals (cases List.any (zs.take j) (fun t=>decide (t=s)) <;> cases List.any (zs.drop (j+1)) (fun t=>decide (t=s)) <;> cases decide (x=s) <;> rfl)
def oA {D:List XA} {s:XA}:fH D s=true↔s∈D:=by
 unfold fH;rw [WX];constructor
 ·rintro ⟨t,a,e⟩;rw [<- Vv e];exact a
 ·intro b;exact ⟨s,b,Vw rfl⟩
def yE (l:List XA) (x:XA):(l++[x]).Nodup↔l.Nodup/\x∉l:=by
 rw [Wm];constructor
 ·rintro ⟨a,_,c⟩;exact ⟨a,fun d=>c x d x ah rfl⟩
 ·rintro ⟨a,b⟩;refine ⟨a,ah,fun y f z g e=>?_⟩;rw [VH.1 g] at e;exact b (e▸f)
def rJ {xs : List XA} (v : SN I H O U V xs) (hm : xs.length <= 2 ^ 30) :
    HC YC 37 #[.slice O U V] I fun w h' => ∃ p' c' d, w = .slice p' (d : List XA).length c' /\ d.length <= xs.length /\ (d.length = xs.length ↔ xs.Nodup) /\ Ext I h' := by
  refine aZ (args := [.slice O U V]) mixed Tryz.func37 aw (mF O U V) ?_;unfold iR aT bo bC ay aP aR bf aM aK eb;have n := SN.len v
  refine aY (cs := wG) (fun y m h' => ∃ (i : Nat) (d : List XA), y.2.1 = (i : Int) /\ m = xs.length - i /\ i <= xs.length /\ Ext I h' /\ SN h' I.size y.1.1 y.1.2.1 y.1.2.2 d /\ d.length <= i /\ (∀ s, fH d s = fH (xs.take i) s) /\ (d.length = i ↔ (xs.take i).Nodup)) ((none, 0, 0), (0 : Int), ()) xs.length rfl
    ⟨0, [], rfl, rfl, ad, Ch.refl _ _, SL.nil _ _ _ _, ah, fun s => rfl, ah⟩ ?_
  rintro ⟨⟨Z, A, l3⟩, n4, ⟨⟩⟩ m h1 ⟨i, d, hi, rfl, hle, E, s, P, B, C⟩;simp only at hi s;subst hi;refine ak ?_;have hz := E.size;have ny := SN.len s;refine aQ (fun q => ?_) (fun q => ?_)
  · have F : i < xs.length :=ad
    have M : ∀ {g}, Ext I g -> ∃ a, O = some a /\ aE g (a.add (i * 1)) 0 [.string xs[i]] := by
      intro g e;obtain ⟨a, u, hc⟩ := SN.cell v F;exact ⟨a, u, bh e ah _ _ hc⟩
    have f : xs.take (i + 1) = xs.take i ++ [xs[i]] := Vt F;generalize hxv : xs[i] = x at M f;obtain ⟨a, u, hc⟩ := M E;refine cC u ?_;rw [cX i];refine aC (x, ()) hc (ak ?_);refine aF (FQ s ad x) ?_;rw [B];have z : fH (xs.take i) x = true ↔ x ∈ xs.take i := oA;refine an (fun r => ?_) (fun r => ?_)
    · have r2 := z.1 r
      refine aD (cs := wG) ((Z, A, l3), ((i + 1 : Nat) : Int), ()) (xs.length - (i + 1)) rfl ad (by rw [wrap_i64 ad ad]; rfl) ?_;refine ⟨i + 1, d, rfl, rfl, ad, E, s, ad, fun t => ?_, ?_⟩
      · rw [B, f]
        by_cases e : x = t
        · subst e
          rw [r];exact (oA.2 (VG.2 (.inl r2))).symm
        · unfold fH
          rw [List.any_append];simp [e]
      · rw [f, yE]
        exact ⟨fun k => ad, fun k => absurd r2 k.2⟩
    · have r2 : x ∉ xs.take i := fun k => by rw [z.2 k] at r; cases r
      refine cC u ?_;refine aC (x, ()) hc (ak ?_);refine SN.push s x ad hz ?_;intro p' c' h2 s2 k2;have e2 := SN.ext E s (VL _) k2
      refine aY (cs := cU) (fun y m h' => ∃ (j : Nat) (zs : List XA), y.1 = (j : Int) /\ m = j /\ j <= d.length /\ zs.length = d.length + 1 /\ zs.eraseIdx j = d /\ Ext I h' /\ SN h' I.size p' (A + 1) c' zs) ((A : Int), ()) d.length rfl
        ⟨d.length, d ++ [x], by rw [ny], rfl, ad, ah, by rw [List.eraseIdx_append_of_length_le ad]; simp, e2, s2⟩ ?_
      rintro ⟨n16, ⟨⟩⟩ m h3 ⟨j, zs, hj, rfl, hjl, G, J, N, D⟩;simp only at hj;subst hj;refine ak ?_
      have Q : ∃ a2, p' = some a2 := by
        obtain ⟨a2, h2, _⟩ := SN.cell D (i := 0) ad;exact ⟨a2, h2⟩
      obtain ⟨a2, o⟩ := Q
      have last : (T.need (((0 : Int) <= (i : Int)) /\ ((i : Int) < (U : Int))) <|
         T.bd O fun (R : YA) =>
         T.ae (R.add ((Int.toNat (i : Int)) * 1)) [.string] <| fun (S : XA) =>
         T.need (((0 : Int) <= (m : Int)) /\ ((m : Int) < ((A + 1 : Nat) : Int))) <|
         T.bd p' fun (W : YA) =>
         T.ao (W.add ((Int.toNat (m : Int)) * 1)) [.string S] <|
         T.again 0 [.slice p' (A + 1) c', vI (IntKind.wrap .i64 ((i : Int) + (1 : Int)))])
         ([] ++ [Jl (cs := wG) (fun y m h' => ∃ (i : Nat) (d : List XA), y.2.1 = (i : Int) /\ m = xs.length - i /\ i <= xs.length /\ Ext I h' /\ SN h' I.size y.1.1 y.1.2.1 y.1.2.2 d /\ d.length <= i /\ (∀ s, fH d s = fH (xs.take i) s) /\ (d.length = i ↔ (xs.take i).Nodup)) (xs.length - i)] ++
          [Jl (cs := cU) (fun y m h' => ∃ (j : Nat) (zs : List XA), y.1 = (j : Int) /\ m = j /\ j <= d.length /\ zs.length = d.length + 1 /\ zs.eraseIdx j = d /\ Ext I h' /\ SN h' I.size p' (A + 1) c' zs) m])
         (fun w h' => ∃ p' c' d, w = .slice p' (d : List XA).length c' /\ d.length <= xs.length /\ (d.length = xs.length ↔ xs.Nodup) /\ Ext I h') h3 := by
        obtain ⟨a, u, hc⟩ := M N;refine cC u ?_;rw [cX i];refine aC (x, ()) hc (ak ?_);refine cC o ?_;rw [cX m];refine SN.put D ad x o ?_;intro h4 X Y z4;refine aD (cs := wG) ((p', A + 1, c'), ((i + 1 : Nat) : Int), ()) (xs.length - (i + 1)) rfl ad (by rw [wrap_i64 ad ad]; rfl) ?_;refine ⟨i + 1, zs.set m x, rfl, rfl, ad, SN.ext N D (VL _) Y, X, by rw [WJ]; omega, fun t => ?_, ?_⟩
        · rw [OT zs m ad, J, B, f]
          unfold fH;rw [List.any_append]
          simp
        · rw [WJ, f, yE, <- C, G]
          exact ⟨fun k => ⟨ad, r2⟩, fun k => ad⟩
      refine an (fun q2 => ?_) (fun q2 => last);have q2 := Vv q2;rw [wrap_i64 ad ad];obtain ⟨a3, K, L⟩ := SN.cell D (i := m - 1) ad;refine cC K ?_;rw [show Int.toNat ((m : Int) - 1) = m - 1 from ad];refine aC (zs[m - 1]'ad, ()) L (ak ?_);obtain ⟨a, u, hc⟩ := M N;refine cC u ?_;refine aC (x, ()) hc (ak ?_);refine an (fun q3 => ?_) (fun q3 => ?_)
      · refine cC K ?_
        refine aC (zs[m - 1]'ad, ()) L (ak ?_);refine cC o ?_;rw [cX m];refine SN.put D ad _ o ?_;intro h4 X Y z4;refine aD (cs := cU) (((m - 1 : Nat) : Int), ()) (m - 1) rfl ad (by rw [show (m : Int) - 1 = ((m - 1 : Nat) : Int) from ad]; rfl) ?_;exact ⟨m - 1, _, rfl, rfl, ad, by rw [WJ]; exact G, by rw [EW zs m ad ad]; exact J, SN.ext N D (VL _) Y, X⟩
      · have := last
        rw [cX i] at this;exact this
  · have : i = xs.length :=ad
    subst this;rw [V1] at C;exact ⟨Z, l3, d, by rw [ny], P, C, E⟩
def yd (e:jn):Bool:=cn e.1.data.toList && lB none e.2.ai
def qG (u:bS):Bool:=u.text.all (fun x=>bY x 0) && (u.data.all (fun x=>bY x 1) && (u.aS.all yd && (decide (cd u).Nodup && cF (cd u) dA u.aJ)))
def rO (x:cv) (l:List cv):dM (x::l)=(if x.kind=1 then [x.name] else [])++dM l:=by
 unfold dM
 by_cases h:x.kind=1 <;> simp [h]
def D1 (D:List XA) (x:cv) (s:XA):s∈sZ D x↔s∈D\/s∈(if x.kind=1 then [x.name] else []):=by
 unfold sZ;split <;> simp [or_comm]
theorem qd (sec:Nat):∀ (l:List cv) (D:List XA),eN sec D l=true↔(∀ x,x∈l->bY x sec=true)/\(∀ s,s∈dM l->s∉D)/\(dM l).Nodup
 | [],D=>by simp [eN,dM]
 | x::l,D=>by
  rw [eN,VJ,qd sec l,rO];unfold xy;rw [VJ,Wm]
  by_cases h:x.kind=1
  ·simp only [h,decide_true,Bool.true_and,if_true,Bool.not_eq_true',List.mem_cons,List.mem_append,List.mem_singleton,List.not_mem_nil,or_false];have i:fH D x.name=false↔x.name∉D:=by
    rw [<- Bool.not_eq_true,oA]
   rw [i];have j:∀ s,s∈sZ D x↔s=x.name\/s∈D:=fun s=>by
    rw [D1,VE h];simp [or_comm]
   simp only [j];constructor
   ·rintro ⟨⟨a,b⟩,c,d,e⟩;refine ⟨?_,?_,?_,e,?_⟩
    ·rintro y (rfl | f)
     ·exact a
     ·exact c y f
    ·rintro s (rfl | g)
     ·exact b
     ·exact fun k=>d s g (.inr k)
    ·simp
    ·intro y f z n m;exact d z n (.inl (m▸f))
   ·rintro ⟨a,b,c,d,e⟩;refine ⟨⟨a x (.inl rfl),b _ (.inl rfl)⟩,fun y f=>a y (.inr f),fun s g k=>?_,d⟩;rcases k with rfl | k
    ·exact e _ rfl _ g rfl
    ·exact b s (.inr g) k
  ·have j:sZ D x=D:=by unfold sZ; rw [Vu h]
   simp only [h,decide_false,Bool.false_and,if_false,Bool.not_false,and_true,List.mem_cons,List.nil_append,j];constructor
   ·rintro ⟨a,c,d,e⟩;refine ⟨?_,d,ah,e,ah⟩;rintro y (rfl | f)
    ·exact a
    ·exact c y f
   ·rintro ⟨a,b,_,d,_⟩;exact ⟨a x (.inl rfl),fun y f=>a y (.inr f),b,d⟩
theorem zQ:∀ (l:List jn) (D:List XA),fR D l=true↔(∀ x,x∈l->yd x=true)/\(∀ s,s∈l.map (·.1)->s∉D)/\(l.map (·.1)).Nodup
 | [],D=>by simp [fR]
 | x::l,D=>by
  rw [fR,VJ,zQ l,VY,WN];have g:BD D x=true↔x.1∉D/\yd x=true:=by
   unfold BD yd;rw [VJ,VJ,VJ,Bool.not_eq_true',<- Bool.not_eq_true,oA,and_assoc]
  rw [g];simp only [List.mem_cons];constructor
  ·rintro ⟨⟨a,b⟩,c,d,e⟩;refine ⟨?_,?_,?_,e⟩
   ·rintro y (rfl | h)
    ·exact b
    ·exact c y h
   ·rintro s (rfl | f)
    ·exact a
    ·exact fun k=>d s f (.inr k)
   ·exact fun f=>d _ f (.inl rfl)
  ·rintro ⟨a,b,c,d⟩;refine ⟨⟨b _ (.inl rfl),a x (.inl rfl)⟩,fun y h=>a y (.inr h),fun s f k=>?_,d⟩;rcases k with rfl | k
   ·exact c f
   ·exact b s (.inr f) k
theorem kQ:∀ (l:List cv) (D:List XA) (s:XA),s∈cR D l↔s∈D\/s∈dM l
 | [],D,s=>by simp [cR,dM]
 | x::l,D,s=>by
  show s∈cR (sZ D x) l↔_;rw [kQ l,D1,rO,VG,or_assoc]
theorem zY:∀ (l:List jn) (D:List XA) (s:XA),s∈aU D l↔s∈D\/s∈l.map (·.1)
 | [],D,s=>by simp [aU]
 | x::l,D,s=>by
  show s∈aU (x.1::D) l↔_;rw [zY l,VY,VK,VK,<- or_assoc,or_comm (a:=s=x.1)]
variable {l m:List XA}
def Jp (h:∀ s,s∈l↔s∈m) (s:XA):fH l s=fH m s:=by
 have:fH l s=true↔fH m s=true:=by rw [oA,oA]; exact h s
 exact W7.2 this
theorem sB {D E:List XA} (h:∀ s,s∈D↔s∈E):∀ (l:List XA) (o:XA),cF D o l=cF E o l
 | [],o=>rfl
 | x::l,o=>by
  rw [cF,cF,sB h l,NC,NC,Jp h]
def nJ (u:bS):xS u=qG u:=by
 have l:cF u.names dA u.aJ=cF (cd u) dA u.aJ:=by
  refine sB (fun s=>?_) _ _;unfold bS.names cd;rw [zY,kQ,kQ];simp [or_assoc]
 rw [W7];unfold xS qG;rw [VJ,VJ,VJ,VJ,VJ,VJ,VJ,qd,qd,zQ,l,VT,VT,VT,decide_eq_true_iff];unfold cd;rw [Wm,Wm];have j:∀ s,s∈cR [] u.text↔s∈dM u.text:=fun s=>by rw [kQ]; simp
 have m:∀ s,s∈cR (cR [] u.text) u.data↔s∈dM u.text\/s∈dM u.data:=fun s=>by rw [kQ,j]
 simp only [j,m,List.mem_append];constructor
 ·rintro ⟨⟨⟨⟨a,o,b⟩,b1,b2,b3⟩,c1,n,c3⟩,g⟩;refine ⟨a,b1,c1,⟨⟨b,b3,fun x c y h e=>b2 y h (e▸c)⟩,c3,fun x c y h e=>n y h (e▸c)⟩,g⟩
 ·rintro ⟨a,b1,c1,⟨⟨b,b3,d⟩,c3,f⟩,g⟩;exact ⟨⟨⟨⟨a,fun s _=>ah,b⟩,b1,fun s i k=>d s k s i rfl,b3⟩,c1,fun s i k=>f s k s i rfl,c3⟩,g⟩
def qp {α:Type} (f:α->Bool) (l:List α) (hi:H<l.length):(l.drop H).all f=(f l[H] && (l.drop (H+1)).all f):=by
 rw [VU hi,W8]
def UF {x:cL} (v:nH I O H x):iW I O H x.ai/\x.ai.length<=9223372036854775807/\∀ t,t∈x.ai->t.1.size<=maxLen:=⟨v.vw,by have:=v.many; omega,v.names⟩
def yG (D:List XA):Prop:=∀ g,g∈D->cn g.data.toList=true
def yG.snoc (h:yG l) (k:yG m):yG (l++m):=fun g a=>(VG.1 a).elim (h g) (k g)
def yG.item {sec:Nat} (r:bY Y sec=true):yG (if Y.kind=1 then [Y.name] else []):=by
 intro g a;split at a
 ·rename_i b;rw [VH.1 a];rw [Cn b,VJ] at r;exact r.1
 ·simp at a
def IM {h:Hp} {a b c d:cm} {u:bS} (v:jI h a b c d u):HC YC 10 #[rU a b c d] h fun w h'=>w=vI (ee u:Nat)/\Ext h h':=by
 refine aZ (args:=[rU a b c d]) mixed Tryz.func10 aw (mX a.p a.l a.c b.p b.l b.c c.p c.l c.c d.p d.l d.c) ?_;unfold ju aT bo bC ay aP dh bq bf ar aK;refine br ?_;intro g1 b1 V z1;have b1:bm g1 h.size 30 [a.v,b.v,c.v,d.v]:=b1;have m1:=v.text.many;have m2:=v.data.many;have m3:=v.aS.many;have m4:=v.aJ.many;have n1:=v.text.len;have n2:=v.data.len;have n3:=v.aS.len;have n4:=v.aJ.len;simp only [ax];refine av b1 ((a.p,a.l,a.c),()) (ak ?_);refine av b1 ((b.p,b.l,b.c),()) (ak ?_);rw [wrap_i64 ad ad];unfold ee lW;refine an ?_ ?_<;>intro q
 ·have q:=Vv q;exact ⟨by rw [Vw (show 8192<u.text.length+u.data.length from ad)]; rfl,V⟩
 have q:=VI q;rw [Vx (show ¬ 8192<u.text.length+u.data.length from ad),Xj];refine av b1 ((c.p,c.l,c.c),()) (ak ?_);refine an ?_ ?_<;>intro q
 ·have q:=Vv q;exact ⟨by rw [Vw (show 8192<u.aS.length from ad)]; rfl,V⟩
 have q:=VI q;rw [Vx (show ¬ 8192<u.aS.length from ad),Vu ah,nJ];generalize W:qG u=U;unfold qG at W;refine aY (cs:=jc) (fun y w h'=>∃ i:Nat,y.2.1=(i:Int)/\w=u.text.length-i/\i<=u.text.length/\Ext h h'/\bm h' h.size 30 [a.v,b.v,c.v,d.v]/\yG (dM (u.text.take i))/\((u.text.drop i).all (fun x=>bY x 0) && (u.data.all (fun x=>bY x 1) && (u.aS.all yd && (decide (cd u).Nodup && cF (cd u) dA u.aJ))))=U) ((0:Int),(0:Int),()) u.text.length rfl
  ⟨0,rfl,rfl,ad,V,b1,fun g s=>by simp [dM] at s,W⟩ ?_
 clear W;rintro ⟨J,n22,⟨⟩⟩ w h2 ⟨i,hi,rfl,r,m,b2,C,f⟩;simp only at hi;subst hi;refine ak ?_;refine av b2 ((a.p,a.l,a.c),()) (ak ?_);refine an ?_ ?_
 case _ =>
  intro q;have q:=Vv q;have j:i<u.text.length:=ad
  refine av b2 ((a.p,a.l,a.c),()) (ak ?_);obtain ⟨X,pp,K,D,rfl',hc,z⟩:=(v.text.af m).cells i j;rw [qp _ _ j] at f;have ht:=wb u.text i j;generalize u.text[i]=x at hc z f ht;refine fJ (bk rfl' ?_);rw [cX i];refine aC (x.kind,x.name,x.inst.op,x.inst.a,x.inst.b,x.inst.n,x.inst.form,(pp,K,D),(x.e.num:Int),x.n,()) hc (ak ?_);refine aH (Bh (c:=D) (k:=0) z ad) ?_;rintro _ h3 ⟨rfl,t⟩;refine ⟨((if bY x 0 then 0 else 31:Int),()),rfl,ak ?_⟩;cases o:bY x 0 with
  | false =>
   refine cy ah ?_;refine ⟨by rw [<- f,o]; rfl,m.trans t⟩
  | true =>
   refine bX ah ?_;rw [o,VZ] at f;refine aD (cs:=jc) (J,((i+1:Nat):Int),()) (u.text.length-(i+1)) rfl ad (by rw [wrap_i64 ad ad]; rfl) ?_;exact ⟨i+1,rfl,rfl,ad,m.trans t,b2.af t ah,by rw [ht]; exact C.snoc (yG.item o),f⟩
 intro q;have q:=VI q
 have:i=u.text.length:=ad
 subst this;rw [Wn,List.all_nil,VZ] at f;rw [V1] at C;clear V b1;refine aY (cs:=jc) (fun y w h'=>∃ i:Nat,y.2.1=(i:Int)/\w=u.data.length-i/\i<=u.data.length/\Ext h h'/\bm h' h.size 30 [a.v,b.v,c.v,d.v]/\yG (dM (u.data.take i))/\((u.data.drop i).all (fun x=>bY x 1) && (u.aS.all yd && (decide (cd u).Nodup && cF (cd u) dA u.aJ)))=U) (J,(0:Int),()) u.data.length rfl
  ⟨0,rfl,rfl,ad,m,b2,fun g s=>by simp [dM] at s,f⟩ ?_
 clear f m b2;rintro ⟨L,n32,⟨⟩⟩ w h4 ⟨i,hi,rfl,r,m,b2,F,f⟩;simp only at hi;subst hi;refine ak ?_;refine av b2 ((b.p,b.l,b.c),()) (ak ?_);refine an ?_ ?_
 case _ =>
  intro q;have q:=Vv q;have j:i<u.data.length:=ad
  refine av b2 ((b.p,b.l,b.c),()) (ak ?_);obtain ⟨X,pp,K,D,rfl',hc,z⟩:=(v.data.af m).cells i j;rw [qp _ _ j] at f;have ht:=wb u.data i j;generalize u.data[i]=x at hc z f ht;refine fJ (bk rfl' ?_);rw [cX i];refine aC (x.kind,x.name,x.inst.op,x.inst.a,x.inst.b,x.inst.n,x.inst.form,(pp,K,D),(x.e.num:Int),x.n,()) hc (ak ?_);refine aH (Bh (c:=D) (k:=1) z ad) ?_;rintro _ h3 ⟨rfl,t⟩;refine ⟨((if bY x 1 then 0 else 31:Int),()),rfl,ak ?_⟩;cases o:bY x 1 with
  | false =>
   refine cy ah ?_;refine ⟨by rw [<- f,o]; rfl,m.trans t⟩
  | true =>
   refine bX ah ?_;rw [o,VZ] at f;refine aD (cs:=jc) (L,((i+1:Nat):Int),()) (u.data.length-(i+1)) rfl ad (by rw [wrap_i64 ad ad]; rfl) ?_;exact ⟨i+1,rfl,rfl,ad,m.trans t,b2.af t ah,by rw [ht]; exact F.snoc (yG.item o),f⟩
 intro q;have q:=VI q
 have:i=u.data.length:=ad
 subst this;rw [Wn,List.all_nil,VZ] at f;rw [V1] at F;refine aY (cs:=jc) (fun y w h'=>∃ i:Nat,y.2.1=(i:Int)/\w=u.aS.length-i/\i<=u.aS.length/\Ext h h'/\bm h' h.size 30 [a.v,b.v,c.v,d.v]/\yG ((u.aS.take i).map (·.1))/\((u.aS.drop i).all yd && (decide (cd u).Nodup && cF (cd u) dA u.aJ))=U) (L,(0:Int),()) u.aS.length rfl
  ⟨0,rfl,rfl,ad,m,b2,fun g s=>by simp at s,f⟩ ?_
 clear f m b2;rintro ⟨M,n42,⟨⟩⟩ w h4 ⟨i,hi,rfl,r,m,b2,G,f⟩;simp only at hi;subst hi;refine ak ?_;refine av b2 ((c.p,c.l,c.c),()) (ak ?_);refine an ?_ ?_
 case _ =>
  intro q;have q:=Vv q;have j:i<u.aS.length:=ad
  refine av b2 ((c.p,c.l,c.c),()) (ak ?_);obtain ⟨X,pp,K,D,rfl',hc,z,vn⟩:=(v.aS.af m).cells i j;rw [qp _ _ j] at f;have ht:(u.aS.take (i+1)).map (·.1)=(u.aS.take i).map (·.1)++[u.aS[i].1]:=by rw [Vt j,VB]; rfl
  generalize u.aS[i]=x at hc z vn f ht;unfold yd at f;refine fJ (bk rfl' ?_);rw [cX i];refine aC (x.1,()) ⟨hc.1,trivial⟩ (ak ?_);refine aF (rm x.1 _ (by have:maxLen=9223372036854775807:=rfl; omega)) ?_;cases r:cn x.1.data.toList with
  | false =>
   refine cy ah ?_;refine ⟨by rw [<- f,r]; rfl,m⟩
  | true =>
   refine bX ah ?_;rw [r,VZ] at f;refine av b2 ((c.p,c.l,c.c),()) (ak ?_);refine fJ (bk rfl' ?_);refine aC ((pp,K,D),(x.2.num:Int),()) ⟨by rw [add_add]; exact hc.2.1,by rw [add_add]; exact hc.2.2.1,trivial⟩ ?_;refine ak ?_;obtain ⟨w1,w2,w3⟩:=UF z;refine gw (sR w1 w2 w3) ?_;intro h3 t;cases o:lB none x.2.ai with
   | false =>
    refine cy ah ?_;refine ⟨by rw [<- f,o]; rfl,m.trans t⟩
   | true =>
    refine bX ah ?_;rw [o,VZ] at f;refine aD (cs:=jc) (M,((i+1:Nat):Int),()) (u.aS.length-(i+1)) rfl ad (by rw [wrap_i64 ad ad]; rfl) ?_;exact ⟨i+1,rfl,rfl,ad,m.trans t,b2.af t ah,by rw [ht]; exact G.snoc (fun g s=>by rw [VH.1 s]; exact r),f⟩
 intro q;have q:=VI q
 have:i=u.aS.length:=ad
 subst this;rw [Wn,List.all_nil,VZ] at f;rw [V1] at G;refine av b2 ((a.p,a.l,a.c),(b.p,b.l,b.c),(c.p,c.l,c.c),(d.p,d.l,d.c),()) (ak ?_);refine aH (LI (v.af m) ad ad ad) ?_;rintro _ h5 ⟨N,O,P,rfl,Y,e5⟩;refine ⟨((N,O,P),()),rfl,ak ?_⟩;have hA:(cd u).length<=2^20:=by
  unfold cd
  have:=uh u.text
  have:=uh u.data
  simp only [List.length_append,List.length_map];omega
 have n5:=SN.len Y;refine aH (rJ Y ad) ?_;rintro _ h6 ⟨Z,l43,ys,rfl,hy1,Q,e6⟩;refine ⟨((Z,ys.length,l43),()),rfl,ak ?_⟩;have e56:=e5.trans e6;have e06:=m.trans e56
 by_cases A:(cd u).Nodup
 case neg =>
  rw [Vx A] at f;refine cy ?_ ⟨by rw [<- f]; rfl,e06⟩
  have:¬ ys.length=(cd u).length:=fun k=>A (Q.1 k)
  rw [n5];simp only [bne_iff_ne,ne_eq];omega
 rw [Vw A,VZ] at f;have hy:=Q.2 A;refine bX (by rw [n5,hy]; simp) ?_;have s6:SN h6 h4.size N O P (cd u):=Y.af e6 ah;have b6:=b2.af e56 ah;have B:∀ g,g∈cd u->iB dA g:=fun g s=>Dq (((C.snoc F).snoc G) g s)
 generalize cd u=E at f s6 hA B;refine aY (cs:=jc) (fun y w h'=>∃ i:Nat,y.2.1=(i:Int)/\w=u.aJ.length-i/\i<=u.aJ.length/\h'=h6/\cF E (nk u.aJ i) (u.aJ.drop i)=U) (M,(0:Int),()) u.aJ.length rfl
  ⟨0,rfl,rfl,ad,rfl,f⟩ ?_
 clear f;rintro ⟨R,n52,⟨⟩⟩ w h7 ⟨i,hi,rfl,hile,rfl,f⟩;simp only at hi;subst hi;refine ak ?_;refine av b6 ((d.p,d.l,d.c),()) (ak ?_);refine aQ ?_ ?_<;>intro q
 ·have j:i<u.aJ.length:=ad
  obtain ⟨X,rfl',hc,z⟩:=(v.aJ.af e06).cells i j;rw [uN _ _ j] at f;unfold NC at f;refine aQ ?_ ?_<;>intro r2
  ·refine av b6 ((d.p,d.l,d.c),()) (ak ?_);refine fJ (bk rfl' ?_);rw [cX i,wrap_i64 (x:=(i:Int)-1) ad ad];refine aC (u.aJ[i],()) hc (ak ?_);refine av b6 ((d.p,d.l,d.c),()) (ak ?_);obtain ⟨ab,H,S,va'⟩:=(v.aJ.af e06).cells (i-1) ad;refine fJ (bk H ?_);rw [show Int.toNat ((i:Int)-1)=i-1 from ad];refine aC (u.aJ[i-1],()) S (ak ?_);have hla:nk u.aJ i=u.aJ[i-1]:=by
    unfold nk;rw [Vu ad,V3,VC ad] <;> rfl
   rw [leB];rw [hla] at f;refine an ?_ ?_<;>intro I
   ·have I:decide (iB u.aJ[i-1] u.aJ[i])=false:=by simpa using I
    exact ⟨by rw [<- f,I,Xo]; rfl,e06⟩
   ·have I:decide (iB u.aJ[i-1] u.aJ[i])=true:=by simpa using I
    rw [I,WL] at f;refine av b6 ((d.p,d.l,d.c),()) (ak ?_);refine fJ (bk rfl' ?_);refine aC (u.aJ[i],()) hc (ak ?_);refine aF (FQ s6 ad _) ?_;refine ⟨⟨b6.cells _ rfl,S,b6.cells _ rfl,hc,b6.cells _ rfl,trivial⟩,?_⟩;cases o:fH E u.aJ[i] with
    | false =>
     refine cy ah ?_;exact ⟨by rw [<- f,o]; rfl,e06⟩
    | true =>
     refine bX ah ?_;rw [o,VZ] at f;exact aD (cs:=jc) (R,((i+1:Nat):Int),()) (u.aJ.length-(i+1)) rfl ad (by rw [wrap_i64 ad ad]; rfl) ⟨i+1,rfl,rfl,ad,rfl,f⟩
  ·have hi0:i=0:=ad
   subst hi0;refine av b6 ((d.p,d.l,d.c),()) (ak ?_);refine fJ (bk rfl' ?_);refine aC (u.aJ[0],()) hc (ak ?_);refine aF (FQ s6 ad _) ?_;refine ⟨⟨b6.cells _ rfl,trivial⟩,?_⟩;cases o:fH E u.aJ[0] with
   | false =>
    refine cy ah ?_;exact ⟨by rw [<- f,o]; rfl,e06⟩
   | true =>
    refine bX ah ?_;have s:decide (iB (nk u.aJ 0) u.aJ[0])=true:=Vw (B _ (oA.1 o));rw [o,s,VZ,VZ] at f;exact aD (cs:=jc) (R,((0+1:Nat):Int),()) (u.aJ.length-(0+1)) rfl ad (by rw [wrap_i64 ad ad]; rfl) ⟨0+1,rfl,rfl,ad,rfl,f⟩
 ·have:i=u.aJ.length:=ad
  subst this;rw [Wn] at f;exact ⟨by rw [<- f]; rfl,e06⟩
end Go.Sx.Ob
namespace Go.Sx
open Go.Proofs
section any
variable {P:Program} {h:Hp}
end any
def iN (h:Hp):Prop:=∃ e f,h[1]?=some (.cells (Lib.pow10Tab.map fun z=>Value.int .u64 z).toArray e f)
variable {Y:Hp}
def iN.af {ws:List Nat} {h':Hp} (p:iN Y) (k:Ch ws Y h') (a:∀ i,i∈ws->1<i):iN h':=by
 obtain ⟨e,f,b⟩:=p;exact ⟨e,f,k.get b (fun c=>by have:=a _ c; omega)⟩
def qt (n:Nat):XA:=⟨(Lib.decDigits n).toArray⟩
def fe (f:XA->Nat):dt->Nat
 | []=>0
 | p::l=>p.2*f p.1+fe f l
def dq (f:XA->Nat) (p:XA × Nat) (l:dt):fe f (p::l)=p.2*f p.1+fe f l:=rfl
def L7 (a b:Nat):a % 4294967296*b % 4294967296=a*b % 4294967296:=by rw [Xp,Nat.mod_mod,<- Xp]
section
variable {α:Type}
def vE (en:α->XB) (D:List (XA × α)):List (XA × XB):=D.map fun p=>(p.1,en p.2)
def gE (D:List (XA × α)) (s:XA):Option α:=(D.find? fun p=>decide (s=p.1)).map (·.2)
def pE (D:List (XA × α)) (s:XA) (v:α):List (XA × α):=if (gE D s).isSome then D.map fun p=>if s=p.1 then (p.1,v) else p else D++[(s,v)]
def lU (en:α->XB) (D:List (XA × α)) (s:XA):look (vE en D) s=(gE D s).map en:=by
 unfold look gE vE
 induction D with
 | nil=>rfl
 | cons p D a =>
  by_cases h:s=p.1
  ·simp [h]
  ·simp only [List.map_cons,List.find?_cons,decide_eq_false h];exact a
def Gc (en:α->XB) (D:List (XA × α)) (s:XA) (v:α):jL (vE en D) s (en v)=vE en (pE D s v):=by
 unfold jL pE;rw [lU];cases h:gE D s with
 | none=>simp [vE]
 | some q =>
  simp only [Option.map_some,Option.isSome_some,if_true,vE,List.map_map];refine V4 fun p a=>?_
  simp only [Function.comp];split <;> simp_all
def wL (D:List (XA × α)) (s:XA) (v:α):(pE D s v).length=if (gE D s).isSome then D.length else D.length+1:=by
 unfold pE;split <;> simp
def wN (D:List (XA × α)) (s t:XA) (v:α):gE (D++[(s,v)]) t=(gE D t).or (if t=s then some v else none):=by
 unfold gE;rw [List.find?_append];cases h:D.find? (fun p=>decide (t=p.1)) with
 | some q=>simp
 | none =>
  simp only [Option.none_or,Option.map_none,List.find?_cons,List.find?_nil]
  by_cases e:t=s
  ·simp [e]
  ·simp [e]
def FH (D:List (XA × α)) (s t:XA) (v:α) (f:(gE D s).isSome):gE (D.map fun p=>if s=p.1 then (p.1,v) else p) t=if t=s then some v else gE D t:=by
 unfold gE at *
 induction D with
 | nil=>simp at f
 | cons p D g =>
  by_cases h:s=p.1
  ·by_cases e:t=s
   ·simp [h,e]
   ·have i:¬ t=p.1:=fun k=>e (k.trans h.symm)
    have j:∀ l:List (XA × α),(List.find? (fun p=>decide (t=p.1)) (List.map (fun p=>if s=p.1 then (p.1,v) else p) l)).map (·.2)=(List.find? (fun p=>decide (t=p.1)) l).map (·.2):=by
     intro l
     induction l with
     | nil=>rfl
     | cons q l b =>
      by_cases c:s=q.1
      ·have:¬ t=q.1:=fun k=>e (k.trans c.symm)
       simp only [List.map_cons,List.find?_cons,if_pos c,decide_eq_false this];exact b
      ·simp only [List.map_cons,List.find?_cons,if_neg c]
       by_cases a:t=q.1
       ·simp [a]
       ·simp only [decide_eq_false a];exact b
    simp only [List.map_cons,List.find?_cons,if_pos h,decide_eq_false i,if_neg e];exact j D
  ·have d:(Option.map (fun x=>x.2) (List.find? (fun p=>decide (s=p.1)) D)).isSome:=by
    simpa [List.find?_cons,decide_eq_false h] using f
   simp only [List.map_cons,List.find?_cons,if_neg h]
   by_cases a:t=p.1
   ·have:¬ t=s:=fun k=>h (k.symm.trans a)
    simp [a,if_neg (a▸this)]
   ·simp only [decide_eq_false a];exact g d
def MJ (D:List (XA × α)) (s:XA) (v:α) (t:XA):gE (pE D s v) t=if t=s then some v else gE D t:=by
 unfold pE;split
 ·rename_i h;exact FH D s t v h
 ·rename_i h;rw [wN]
  by_cases e:t=s
  ·subst e
   have:gE D t=none:=by simpa using h
   rw [this]; simp
  ·simp [e]
def dB (f:XA->Option α) (s:XA) (v:α):XA->Option α:=fun t=>if t=s then some v else f t
def cw (f:XA->Option α) (s:XA) (v:α):dB f s v s=some v:=by simp [dB]
def bM (f:XA->Option α) {s t:XA} (v:α) (h:t≠s):dB f s v t=f t:=by simp [dB,h]
def dN (en:α->XB) (h:Hp) (g:Nat) (f:XA->Option α) (n:Nat):Prop:=∃ D:List (XA × α),eJ h g (vE en D)/\(∀ s,gE D s=f s)/\D.length=n
def dN.af {en:α->XB} {ws:List Nat} {h h':Hp} {g:Nat} {f:XA->Option α} {n:Nat} (m:dN en h g f n) (k:Ch ws h h') (a:g∉ws):dN en h' g f n:=by
 obtain ⟨D,m,r⟩:=m;exact ⟨D,m.af k a,r⟩
def dN.lt {en:α->XB} {h:Hp} {g:Nat} {f:XA->Option α} {n:Nat} (m:dN en h g f n):g<h.size:=by
 obtain ⟨D,m,r⟩:=m;exact m.lt
def dN.new {en:α->XB} {h:Hp} {g:Nat} (m:eJ h g []):dN en h g (fun _=>none) 0:=⟨[],m,fun s=>rfl,rfl⟩
def dN.jL {en:α->XB} {h':Hp} {g:Nat} {f:XA->Option α} {n:Nat} {D:List (XA × α)} (a:∀ s,gE D s=f s) (hn:D.length=n) {s:XA} {v:α} (m:eJ h' g (Sx.jL (vE en D) s (en v))):dN en h' g (dB f s v) (if (f s).isSome then n else n+1):=by
 rw [Gc] at m;refine ⟨_,m,fun t=>?_,?_⟩
 ·rw [MJ,a t]; rfl
 ·rw [wL,a s,hn]
end
def eI (n:Nat):XB:=vI (n:Int)
def eB (b:Bool):XB:=.bool b
def G':Tryz.prog.underlying 97=some (.map 9 3):=aw
def PH:Tryz.prog.underlying 142=some (.map 9 4):=aw
def Qj:(Tryz.prog.info? 3).bind (·.zero)=some (vI 0):=aw
def Ma:(Tryz.prog.info? 4).bind (·.zero)=some (.bool false):=aw
section
variable {L:Lp} {K:XB->Hp->Prop} {h:Hp} {g n:Nat}
variable {H:Int->T}
def Hx {f:XA->Option Nat} (m:dN eI h g f n) (s:XA) (hk:H (((f s).getD 0:Nat):Int) L K h):T.eK YC (Instr.lookup 97 (.map (some g)) (.string s) false) false [(false,[.int .i64])] H L K h:=by
 obtain ⟨D,m,a,hn⟩:=m;refine jj G' wW Qj m s false _ ?_;refine ⟨((((f s).getD 0:Nat):Int),()),?_,hk⟩;simp only [Bool.false_eq_true,if_false];rw [lU,a s]
 all_goals (cases f s <;> rfl)
def Ck {f:XA->Option Nat} (m:dN eI h g f n) (s:XA) {k:Int->Bool->T} (hk:k (((f s).getD 0:Nat):Int) (f s).isSome L K h):T.eK YC (Instr.lookup 97 (.map (some g)) (.string s) true) true [(false,[.int .i64]),(false,[.bool])] k L K h:=by
 obtain ⟨D,m,a,hn⟩:=m;refine jj G' wW Qj m s true _ ?_;refine ⟨((((f s).getD 0:Nat):Int),(f s).isSome,()),?_,hk⟩;rw [VE rfl,lU,a s]
 all_goals (cases f s <;> rfl)
variable {I:XA->Option Bool}
def Lw (m:dN eB h g I n) (s:XA) {k:Bool->T} (hk:k ((I s).getD false) L K h):T.eK YC (Instr.lookup 142 (.map (some g)) (.string s) false) false [(false,[.bool])] k L K h:=by
 obtain ⟨D,m,a,hn⟩:=m;refine jj PH wW Ma m s false _ ?_;refine ⟨((I s).getD false,()),?_,hk⟩;simp only [Bool.false_eq_true,if_false];rw [lU,a s]
 all_goals (cases I s <;> rfl)
variable {O:XA} {U:T}
def pZ {f:XA->Option Nat} (m:dN eI h g f n) (a:O.size<=maxLen) {v:Int} {w:Nat} (hv:v=(w:Int)) (hk:∀ h',dN eI h' g (dB f O w) (if (f O).isSome then n else n+1)->Ch [g] h h'->h'.size=h.size->U L K h') :
  T.ek YC (Instr.mapUpdate 97 (.map (some g)) (.string O) (vI v)) U L K h:=by
 subst hv;obtain ⟨D,m,b,hn⟩:=m;refine fP G' wW m a _ _ ?_;intro h' c c' d;exact hk h' (dN.jL (en:=eI) b hn c) c' d
def SC (m:dN eB h g I n) (a:O.size<=maxLen) {b:Bool} (hk:∀ h',dN eB h' g (dB I O b) (if (I O).isSome then n else n+1)->Ch [g] h h'->h'.size=h.size->U L K h') :
  T.ek YC (Instr.mapUpdate 142 (.map (some g)) (.string O) (.bool b)) U L K h:=by
 obtain ⟨D,m,c,hn⟩:=m;refine fP PH wW m a _ _ ?_;intro h' d c' e;exact hk h' (dN.jL (en:=eB) c hn d) c' e
def xT {α:Type} {en:α->XB} {t:TypeId} {k:Option Nat->T} (hk:∀ h',dN en h' h.size (fun _=>none) 0->Ext h h'->h'.size=h.size+1->k (some h.size) L K h'):T.eK YC (Instr.makeMap t none) false [(false,[.map 0 0])] k L K h:=by
 refine lp _ ?_;intro h' m e z;exact ⟨(some h.size,()),rfl,hk h' (dN.new m) e z⟩
def Ut {α:Type} {en:α->XB} {f:XA->Option α} (m:dN en h g f n) (hk:H (n:Int) L K h):T.eK YC (Builtin.len_ #[97] 3 #[.map (some g)]) false [(false,[.int .i64])] H L K h:=by
 obtain ⟨D,m,e,hn⟩:=m;obtain ⟨es,clock,b,c,d,i⟩:=m;have a:es.size=n:=by
  have:=VO List.length c
  simpa [vE,hn] using this
 show aI _ _ _ _;unfold Builtin.len_;simp only [List.getElem?_toArray,List.getElem?_cons_zero];rw [al,au G'];simp only [pure_bind];rw [al];refine fG b ah _ ?_;simp only [pure_bind];exact ⟨((n:Int),()),by rw [a]; rfl,hk⟩
def SI {a b:Nat} (hk:H ((min a b:Nat):Int) L K h):T.eK YC (Builtin.min_ #[3,3] 3 #[vI (a:Int),vI (b:Int)]) false [(false,[.int .i64])] H L K h:=by
 show aI _ _ _ _;refine ⟨(((min a b:Nat):Int),()),?_,hk⟩;show Value.int .i64 (if (b:Int)<(a:Int) then (b:Int) else (a:Int))=vI ((min a b:Nat):Int)
 congr 1
 split <;> omega
end
structure ei where
 name:XA
 p:XC
 l:Nat
 c:Nat
 x:cL
def Sd (e:ei):List XB:=[.string e.name,.slice e.p e.l e.c,.int .u32 e.x.num]
structure Ah (h:Hp) (p:XC) (l:Nat) (es:List ei):Prop where
 len:l=es.length
 cells:∀ i,(hi:i<es.length)->∃ a,p=some a/\aE h (a.add (i*3)) 0 (Sd es[i])
 j4:∀ e,e∈es->iW h e.p e.l e.x.ai
def Ah.af {h h':Hp} {p:XC} {l:Nat} {es:List ei} (v:Ah h p l es) (k:Ext h h'):Ah h' p l es :=
 ⟨v.len,fun i hi=>by
  obtain ⟨a,b,hc⟩:=v.cells i hi;exact ⟨a,b,bh k ah _ _ hc⟩,fun e c=>(v.j4 e c).af k ah⟩
def xP (es:List ei) (s:XA):Option Nat:=es.findIdx? fun e=>decide (e.name=s)
def Eu {es:List ei} {e:ei} (hn:∀ d,d∈es->d.name≠e.name) (s:XA):xP (es++[e]) s=dB (xP es) e.name es.length s:=by
 unfold xP dB;rw [Xq]
 by_cases h:s=e.name
 ·subst h
  have:es.findIdx? (fun d=>decide (d.name=e.name))=none:=by
   rw [Wv];intro d b;simpa using hn d b
  rw [this];simp [List.findIdx?_cons]
 ·have:¬ e.name=s:=fun k=>h k.symm
  rw [Vu h];cases a:es.findIdx? (fun d=>decide (d.name=s)) with
  | none=>show _=List.findIdx? _ es; rw [a]; simp [List.findIdx?_cons,this]
  | some k=>show _=List.findIdx? _ es; rw [a]; simp
variable {Z:XA}
def MP {es:List ei} (h:∀ d,d∈es->d.name≠Z):xP es Z=none:=by
 unfold xP;rw [Wv];intro d a;simpa using h d a
variable {a:XC} {H I e:Nat}
def zc {es:List ei} (v:Ah Y a H es) (hl:es.length<=2^40) (hn:(es.map (·.name)).Nodup) (A:∀ e,e∈es->e.name.size<=maxLen) :
  HC YC 84 #[.slice a H I] Y fun w h'=>(∃ g,w=.map (some g)/\dN eI h' g (xP es) es.length/\Y.size<=g)/\Ext Y h':=by
 refine aZ (args:=[.slice a H I]) mixed Tryz.func84 aw (xe a H I) ?_;unfold sL aT bo bC ay bR ar aM ct aK;refine xT (en:=eI) ?_;intro h1 B C z1;have hll:=v.len;refine aY (cs:=cU) (fun x w h'=>∃ i:Nat,x.1=(i:Int)/\i<=es.length/\w=es.length-i/\dN eI h' Y.size (xP (es.take i)) i/\Ext Y h') ((0:Int),()) es.length rfl ⟨0,rfl,ad,ad,B,C⟩ ?_;rintro ⟨M,⟨⟩⟩ w h2 ⟨i,hi,t,rfl,o,q⟩;simp only at hi;subst hi;refine ak ?_;refine aQ ?_ ?_<;>intro D
 ·have f:i<es.length:=ad
  obtain ⟨b,rfl,hc⟩:=(v.af q).cells i f;have m:es.take (i+1)=es.take i++[es[i]]:=Vt f;have hsz:=A es[i] (VA f);have k:∀ d,d∈es.take i->d.name≠es[i].name:=by
   intro d E u;obtain ⟨j,F,rfl⟩:=VV E;rw [VQ] at F;rw [List.getElem_take] at u;exact W5.1 hn j i (by rw [Vr]; omega) (by rw [Vr]; omega) ad (by simpa using u)
  generalize es[i]=e at hc m hsz k;refine cC rfl ?_;rw [cX i];refine aC (e.name,(e.p,e.l,e.c),(e.x.num:Int),()) hc (ak ?_);refine br ?_;intro N b3 G z3;refine bT b3 ?_;intro h4 r J z4;have r:bm h4 h2.size 88 [.string e.name,.slice e.p e.l e.c,.int .u32 e.x.num]:=r;have n:Ext h2 h4:=bZ G J;refine av r (e.name,()) (ak ?_);refine pZ (w:=i) (o.af n ah) hsz rfl ?_;intro O y K P;have hw:=lC i;have L:xP (es.take (i+1))=dB (xP (es.take i)) e.name i:=by
   rw [m]
   funext s
   rw [Eu k,VQ,WD ad]
  rw [MP k] at y;refine aD (cs:=cU) (((i+1:Nat):Int),()) (es.length-(i+1)) rfl ad (VO (fun z=>[Value.int .i64 z]) hw) ⟨i+1,rfl,ad,rfl,by rw [L]; exact y,bZ (q.trans n) K⟩
 ·have hi:i=es.length:=ad
  subst hi;rw [V1] at o;exact ⟨⟨_,rfl,o,VL _⟩,q⟩
def tp (of:XA->Option cL) (t:XA × Nat):dt:=match of t.1 with
 | none=>[t]
 | some y=>y.ai.map fun u=>(u.1,t.2*u.2 % 4294967296)
def iE (of:XA->Option cL) (n:Nat) (t:XA × Nat):Nat:=match of t.1 with
 | none=>n
 | some y=>(n+t.2*y.num % 4294967296) % 4294967296
def fg (of:XA->Option cL) (x:cL):cL:=⟨NG (x.ai.flatMap (tp of)),x.ai.foldl (iE of) x.num⟩
structure qF where
 p:XC
 l:Nat
 c:Nat
 x:cL
def eL (y:qF):XB:=iX y.p y.l y.c y.x
structure F4 (h:Hp) (g:Nat) (f:XA->Option qF) (n:Nat):Prop where
 map:dN eL h g f n
 j4:∀ s y,f s=some y->iW h y.p y.l y.x.ai
def F4.af {ws:List Nat} {h h':Hp} {g:Nat} {f:XA->Option qF} {n:Nat} (m:F4 h g f n) (k:Ch ws h h') (b:g∉ws) (hi:∀ s y,f s=some y->∀ i,i∈aG y.p->i∉ws):F4 h' g f n :=
 ⟨m.map.af k b,fun s y a=>(m.j4 s y a).af k (hi s y a)⟩
def Ti:Tryz.prog.underlying 147=some (.map 9 60):=aw
def Tu:(Tryz.prog.info? 60).bind (·.zero)=some (.agg #[.slice none 0 0,.int .u32 0]):=aw
variable {O:Lp} {U:XB->Hp->Prop} {b:XA->Option qF}
def zT {h:Hp} (m:dN eL h H b I) (s:XA) {k:XC->Nat->Nat->Int->Bool->T} (h1:∀ y,b s=some y->k y.p y.l y.c (y.x.num:Int) true O U h) (h0:b s=none->k none 0 0 0 false O U h) :
  T.eK YC (Instr.lookup 147 (.map (some H)) (.string s) true) true [(true,[.slice 66,.int .u32]),(false,[.bool])] k O U h:=by
 obtain ⟨D,m,d,hn⟩:=m;refine jj Ti wW Tu m s true _ ?_;rw [VE rfl,lU,d s];cases a:b s with
 | none=>exact ⟨((none,0,0),(0:Int),false,()),rfl,h0 a⟩
 | some y=>exact ⟨((y.p,y.l,y.c),(y.x.num:Int),true,()),rfl,h1 y a⟩
variable {d:T}
def KF {h:Hp} (m:dN eL h H b I) (a:Z.size<=maxLen) (y:qF) (hk:∀ h',dN eL h' H (dB b Z y) (if (b Z).isSome then I else I+1)->Ch [H] h h'->h'.size=h.size->d O U h') :
  T.ek YC (Instr.mapUpdate 147 (.map (some H)) (.string Z) (.agg #[.slice y.p y.l y.c,.int .u32 (y.x.num:Int)])) d O U h:=by
 obtain ⟨D,m,e,hn⟩:=m;refine fP Ti wW m a _ _ ?_;intro h' i c' j;exact hk h' (dN.jL (en:=eL) e hn i) c' j
def SD (r:Option Nat) (p:XC) (l:Nat) (c:YA) (j:Nat) (k:T):T :=
  T.loop [aK] [vI (0:Int)] <| fun (a:Int) =>
  bC a l
  (T.need (eH a l) <|
  T.bd p <| fun (d:YA) =>
  T.ae (d.add (ay a 2)) [.string,.int .u32] <| fun (e:XA) (f:Int) =>
  T.new [ct,ar (0:Int)] 66 <| fun (b:YA) =>
  T.ao b [.string e,ar f] <|
  T.ae b [.string] <| fun (TY:XA) =>
  bR (Instr.lookup 170 (.map r) (.string TY) false) false [(false,[.int .u32])] <| fun (g:Int) =>
  T.ae (c.add 1) [.int .u32] <| fun (h:Int) =>
  T.ae (b.add 1) [.int .u32] <| fun (i:Int) =>
  T.ek YC (Instr.mapUpdate 170 (.map r) (.string TY) (ar (IntKind.wrap .u32 (g+(IntKind.wrap .u32 (h*i)))))) <|
  T.again j [vI (bf (a+(1:Int)))]) k
variable {V:dt}
def OI {h:Hp} {ga q:Nat} {nm:XA} {us:dt} (x:O.length=e) (v:iW h a I us) (hl:us.length<=2^40) (P:∀ t,t∈us->t.1.size<=maxLen) (m:eJ h H (vm V)) (Q:us≠[]->H∉aG a)
  (R:bm h ga 66 [.string nm,.int .u32 (q:Int)]) (A:ga≠H)
  (hk:∀ J h',eJ h' H (vm ((us.map fun u=>(u.1,q*u.2 % 4294967296)).foldl iF V))->Ch [H] h h'->d (O++[J]) U h'):SD (some H) a I ⟨ga,0,none⟩ e d O U h:=by
 have hll:=v.len;have S:∀ J:List XB->Hp->Prop,(O++[J])[e]?=some J:=by intro J; subst x; simp
 unfold SD bC ay bR bf eH ar ct aK;refine aY (cs:=cU) (fun y w h'=>∃ (i:Nat),y.1=(i:Int)/\i<=us.length/\w=us.length-i/\Ch [H] h h'/\eJ h' H (vm (((us.take i).map fun u=>(u.1,q*u.2 % 4294967296)).foldl iF V))) ((0:Int),()) us.length rfl
  ⟨0,rfl,ad,ad,Ch.refl _ _,by simpa using m⟩ ?_
 rintro ⟨n8,⟨⟩⟩ w G ⟨i,hi,M,rfl,r,B⟩;simp only at hi;subst hi;refine ak ?_;refine aQ ?_ ?_<;>intro W
 ·have c:i<us.length:=ad
  obtain ⟨b,rfl,hc⟩:=(v.af r (by intro j C N; rw [VH] at N; subst N; exact Q (List.ne_nil_of_length_pos ad) C)).cells i c;have o:us.take (i+1)=us.take i++[us[i]]:=Vt c;have hsz:=P us[i] (VA c);generalize us[i]=t at hc o hsz;refine cC rfl ?_;rw [cX i];refine aC (t.1,(t.2:Int),()) hc (ak ?_);refine br ?_;intro h5 X Y z5;refine bT X ?_;intro h6 s Z z6;have s:bm h6 G.size 66 (cg t):=s;have f:Ext G h6:=bZ Y Z;have m6:=B.af f ah;have a6:=(R.af r (by simpa using A)).af f ah;refine av s (t.1,()) (ak ?_);refine oI m6 _ ?_;rw [ax];refine av a6 ((q:Int),()) (ak ?_);rw [ax];refine av s ((t.2:Int),()) (ak ?_);generalize E:((us.take i).map fun u=>(u.1,q*u.2 % 4294967296)).foldl iF V=F at m6;refine Ge (n:=(dL F t.1+q*t.2 % 4294967296) % 4294967296) m6 hsz ?_ ?_
  ·rw [eV,eV,kG,Xv,kG,Int.natCast_mul]
  ·intro h7 m7 k7 z7;have hw:=lC i;have hf:((us.take (i+1)).map fun u=>(u.1,q*u.2 % 4294967296)).foldl iF V=uf F t.1 ((dL F t.1+q*t.2 % 4294967296) % 4294967296):=by
    rw [o,VB,Ws,E] <;> rfl
   refine aD (cs:=cU) (((i+1:Nat):Int),()) (us.length-(i+1)) (S _) ad (VO (fun z=>[Value.int .i64 z]) hw) ⟨i+1,rfl,ad,rfl,?_,by rw [hf]; exact m7⟩;exact Ch.trans (Ch.trans r f ah) k7 (fun j C _=>C)
 ·have hi:i=us.length:=ad
  subst hi;rw [V1] at B;exact hk _ _ B r
def P0 (e:Option Nat) (u:YA) (y:Int) (w:Nat):T :=
 T.new [aM,ar (0:Int)] 60 <| fun (d:YA) =>
 T.ao d [aM,ar y] <|
 bq 109 [.map e] false [(false,[.func #[63] #[] false])] <| fun (z:XB) =>
 bq 108 [z] false [(false,[.slice 9])] <| fun (A:XC) (x D:Nat) =>
 T.loop [aK] [vI (0:Int)] <| fun (c:Int) =>
 bC c x
 (T.need (eH c x) <|
 T.bd A <| fun (B:YA) =>
 T.ae (B.add (ay c 1)) [.string] <| fun (a:XA) =>
 bR (Instr.lookup 170 (.map e) (.string a) false) false [(false,[.int .u32])] <| fun (f:Int) =>
 cond (f != (0:Int))
  (T.ae d [.slice 66] <| fun (g:XC) (h b:Nat) =>
  bR (Instr.lookup 170 (.map e) (.string a) false) false [(false,[.int .u32])] <| fun (i:Int) =>
  bR (Instr.buildSlice 57 1 #[(0,.agg #[.string a,ar i])]) false [eb] <| fun (j:XC) (k l:Nat) =>
  bR (Builtin.append_ #[57,57] 57 #[.slice g h b,.slice j k l]) false [eb] <| fun (m:XC) (n o:Nat) =>
  T.ao d [.slice m n o] <|
  T.again w [vI (bf (c+(1:Int)))])
  (T.again w [vI (bf (c+(1:Int)))]))
 (T.ae d [.slice 66,.int .u32] <| fun (C:XC) (l10 p:Nat) (q:Int) =>
 T.ao u [.slice C l10 p,ar q] <|
 T.ae u [.slice 66,.int .u32] <| fun (r:XC) (b s:Nat) (t:Int) =>
 T.ret (.agg #[.slice r b s,ar t]))
def Lh {h:Hp} {lv:Nat} (y:O.length=lv) (m:eJ h H (vm V)) (hl:V.length<=2^40) (n:Int) (c0:bm h I 60 [.slice none 0 0,.int .u32 0])
  (hk:∀ p l c h',SL h' h.size 66 2 p l c ((Dc V).map cg)->Ch [I] h h'->U (.agg #[.slice p l c,.int .u32 n]) h'):P0 (some H) ⟨I,0,none⟩ n lv O U h:=by
 have F:∀ J:List XB->Hp->Prop,(O++[J])[lv]?=some J:=by intro J; subst y; simp
 have hg2:=c0.lt;unfold P0 bC ay bq bR bf eH ar aM aK eb;refine br ?_;intro h2 b2 S z2;refine bT b2 ?_;intro h3 b3 W z3;have b3:bm h3 h.size 60 [.slice none 0 0,.int .u32 n]:=b3;have A:Ext h h3:=bZ S W;have m3:=m.af A ah;have c3:bm h3 I 60 [.slice none 0 0,.int .u32 0]:=c0.af A ah;refine aH (HF (some H) h3) ?_;rintro _ h4 ⟨rfl,rfl⟩;refine ⟨(.func (.func 124) #[] #[.pointer (some ⟨h3.size,0,none⟩)],()),rfl,ak ?_⟩;have X:Ext h3 (h3.push (.cells #[.map (some H)] 170)):=Ext.push _ _;have r:(vm V).length<=2^40:=by unfold vm; rw [Vr]; exact hl
 refine aH (rJ m3 r) ?_;rintro _ G ⟨Y,M,Z,rfl,t,e5⟩;refine ⟨((Y,M,Z),()),rfl,ak ?_⟩;have e35:=X.trans e5;have e:(keysOf (vm V)).length<=2^40:=by
  unfold keysOf;rw [List.length_mergeSort,Vr];exact r
 have B:M=(keysOf (vm V)).length:=by rw [t.1,Vr]
 unfold Dc at hk;generalize keysOf (vm V)=ks at t e B hk;have b5:=b3.af e35 ah;have c5:=c3.af e35 ah;have m5:=m3.af e35 ah;have e05:=A.trans e35;have hz3:=e35.size;have hb3:=b3.lt;have hg:=m.lt;refine aY (cs:=cU) (fun x w h'=>∃ (i:Nat) (p:XC) (l c:Nat),x.1=(i:Int)/\i<=ks.length/\w=ks.length-i/\Ch [h.size] G h'/\bm h' h.size 60 [.slice p l c,.int .u32 n] /\
  SL h' G.size 66 2 p l c (((ks.take i).filterMap fun k=>if dL V ⟨k.toArray⟩=0 then none else some ((⟨k.toArray⟩:XA),dL V ⟨k.toArray⟩)).map cg)/\l<=i) ((0:Int),()) ks.length rfl
  ⟨0,none,0,0,rfl,ad,ad,Ch.refl _ _,b5,SL.nil _ _ _ _,ad⟩ ?_
 rintro ⟨n8,⟨⟩⟩ w h6 ⟨i,p,l,c,hi,N,rfl,f,u,o,hli⟩;simp only at hi;subst hi;refine ak ?_;have m6:=m5.af f (by simp; omega);have hz6:=f.size;have C:Ext h h6:=bZ e05 f;refine aQ ?_ ?_<;>intro g1
 ·have d:i<ks.length:=ad
  have sk6:=t.bH f (fun j b=>by have:=(t.cu b).1; simp; omega);obtain ⟨a,rfl,hc⟩:=sk6.cells (i:=i) (by simpa using d);rw [VD] at hc;have q:ks.take (i+1)=ks.take i++[ks[i]]:=Vt d;generalize ks[i]=k at hc q;refine cC rfl ?_;rw [cX i];refine aC ((⟨k.toArray⟩:XA),()) hc (ak ?_);have hw:=lC i;refine oI m6 _ (an (fun I=>?_) (fun I=>?_))
  ·have I:((dL V ⟨k.toArray⟩:Nat):Int)≠0:=by simpa using I
   refine av u ((p,l,c),()) (ak ?_);refine oI m6 _ ?_;refine lO (vs:=cg (⟨k.toArray⟩,dL V ⟨k.toArray⟩)) AJ za rfl ad ad aw rfl rfl o hz6 ad ad ?_;intro p' c' P Q s hp7;have b7:=u.af s (fun hh=>by have:=(o.cu hh).1; omega);refine bT b7 ?_;intro h8 b8 R z8;refine aD (cs:=cU) (((i+1:Nat):Int),()) (ks.length-(i+1)) (F _) ad (VO (fun z=>[Value.int .i64 z]) hw) ⟨i+1,p',l+1,c',rfl,ad,rfl,?_,b8,?_,ad⟩
   ·exact Ch.trans (Ch.trans f s (fun j b hl=>by have:=(o.cu b).1; omega)) R (fun j b _=>b)
   ·rw [q,Xk,VB];have E:([k].filterMap fun k=>if dL V ⟨k.toArray⟩=0 then none else some ((⟨k.toArray⟩:XA),dL V ⟨k.toArray⟩))=[((⟨k.toArray⟩:XA),dL V ⟨k.toArray⟩)]:=by
     simp only [List.filterMap_cons,List.filterMap_nil];rw [Vu ad]
    rw [E];exact Q.bH R (fun j b=>by have:=(Q.cu b).1; simp; omega)
  ·have I:((dL V ⟨k.toArray⟩:Nat):Int)=0:=by simpa using I
   refine aD (cs:=cU) (((i+1:Nat):Int),()) (ks.length-(i+1)) (F _) ad (VO (fun z=>[Value.int .i64 z]) hw) ⟨i+1,p,l,c,rfl,ad,rfl,f,u,?_,ad⟩;rw [q,Xk];have E:([k].filterMap fun k=>if dL V ⟨k.toArray⟩=0 then none else some ((⟨k.toArray⟩:XA),dL V ⟨k.toArray⟩))=[]:=by
    simp only [List.filterMap_cons,List.filterMap_nil];rw [VE ad]
   rw [E,Wr];exact o
 ·have hi:i=ks.length:=ad
  subst hi;rw [V1] at o;have c6:=c5.af f (by simp; omega);refine av u ((p,l,c),n,()) (ak ?_);refine bT c6 ?_;intro P b7 s z7;have b7:bm P I 60 [.slice p l c,.int .u32 n]:=b7;refine av b7 ((p,l,c),n,()) ?_;have hz5:=e05.size;exact hk _ _ _ _ ((o.bH s (fun j b=>by have:=(o.cu b).1; simp; omega)).mono ad) (Ch.trans (C.mono ah) s (fun j b hl=>b))
def Dy {h:Hp} {p:XC} {l c:Nat} {x:cL} (v:iW h p l x.ai) {g n:Nat} {f:XA->Option qF} (m:F4 h g f n) (hl:x.ai.length<=2^40) (Y:∀ t,t∈x.ai->t.1.size<=maxLen) (U:∀ s y,f s=some y->y.x.ai.length<=2^40/\∀ t,t∈y.x.ai->t.1.size<=maxLen)
  (Z:(x.ai.flatMap (tp fun s=>(f s).map (·.x))).length<=2^40) :
  HC YC 86 #[iX p l c x,.map (some g)] h fun w h'=>(∃ p' l' c',w=iX p' l' c' (fg (fun s=>(f s).map (·.x)) x)/\SL h' h.size 66 2 p' l' c' ((fg (fun s=>(f s).map (·.x)) x).ai.map cg))/\Ext h h':=by
 refine aZ (args:=[iX p l c x,.map (some g)]) mixed Tryz.func86 aw (CJ p l c x.num (some g)) ?_;unfold BJ aT bo bC ay bq aR bR ar aM ct aK cj;have hll:=v.len;refine br ?_;intro h1 b1 e1 z1;refine br ?_;intro h2 b2 V z2;refine lp _ ?_;intro h3 m3 I z3;refine ⟨(some h2.size,()),rfl,ak ?_⟩;have b13:=(b1.af V ah).af I ah;have b23:=b2.af I ah;have e03:=(e1.trans V).trans I;rw [ax];refine av b13 ((x.num:Int),()) (ak ?_);refine av b13 ((p,l,c),()) (ak ?_);have hh:h1.size=h.size+1:=z1;generalize K:(fun s=>(f s).map (·.x))=of at Z;have z:∀ s,of s=(f s).map (·.x):=fun s=>by rw [<- K]
 refine aY (cs:=RZ) (fun y w h'=>∃ i:Nat,y.2.1=(i:Int)/\i<=x.ai.length/\w=x.ai.length-i/\y.1=(((x.ai.take i).foldl (iE of) x.num:Nat):Int)/\Ch [h2.size] h3 h'/\eJ h' h2.size (vm (((x.ai.take i).flatMap (tp of)).foldl iF [])))
  ((x.num:Int),(0:Int),()) x.ai.length rfl ⟨0,rfl,ad,ad,rfl,Ch.refl _ _,m3⟩ ?_
 rintro ⟨n9,n10,⟨⟩⟩ w h4 ⟨i,hi,W,rfl,F,G,L⟩;simp only at hi F;subst hi F;refine ak ?_;have A:Ext h h4:=bZ e03 G;have hz4:=G.size;refine aQ ?_ ?_<;>intro g1
 ·have e:i<x.ai.length:=ad
  obtain ⟨a,rfl,hc⟩:=(v.af A ah).cells i e;have B:x.ai.take (i+1)=x.ai.take i++[x.ai[i]]:=Vt e;have hsz:=Y x.ai[i] (VA e);generalize x.ai[i]=t at hc B hsz;have hw:=lC i;refine cC rfl ?_;rw [cX i];refine aC (t.1,(t.2:Int),()) hc (ak ?_);refine br ?_;intro h5 b5 e5 z5;refine bT b5 ?_;intro h6 E k6 z6;have E:bm h6 h4.size 66 [.string t.1,.int .u32 (t.2:Int)]:=E;have k:Ext h4 h6:=bZ e5 k6;have m6:=L.af k ah;have e06:=A.trans k;have hz6:=k.size;refine av E (t.1,()) (ak ?_);have d:((x.ai.take (i+1)).flatMap (tp of)).foldl iF []=(tp of t).foldl iF (((x.ai.take i).flatMap (tp of)).foldl iF []):=by
   rw [B,Xa,Ws]
   simp
  have o:(x.ai.take (i+1)).foldl (iE of) x.num=iE of ((x.ai.take i).foldl (iE of) x.num) t:=by
   rw [B,Ws]; rfl
  generalize (x.ai.take i).foldl (iE of) x.num=nn at o ⊢;generalize ((x.ai.take i).flatMap (tp of)).foldl iF []=D' at d m6 ⊢;refine zT (m.map.af e06 ah) t.1 (fun y r=>?_) (fun M=>?_)
  ·have u:of t.1=some y.x:=by rw [z,r]; rfl
   refine br ?_;intro h7 N O z7;refine bT N ?_;intro h8 H P z8;have H:bm h8 h6.size 60 [.slice y.p y.l y.c,.int .u32 (y.x.num:Int)]:=H;have b:Ext h6 h8:=bZ O P;refine bX rfl ?_;refine av H ((y.p,y.l,y.c),()) (ak ?_);have hh2:h2.size=h.size+2:=ad
   refine OI (q:=t.2) (nm:=t.1) (us:=y.x.ai) rfl ((m.j4 _ _ r).af (e06.trans b) ah) (U _ _ r).1 (U _ _ r).2 (m6.af b ah) (fun Q hb=>by have:=(m.j4 _ _ r).RV Q _ hb; omega) (E.af b ah) ad ?_;intro J X R C;have b69:=(E.af b ah).af C (by simp; omega);have b89:=H.af C (by simp; omega);rw [ax];refine av b69 ((t.2:Int),()) (ak ?_);rw [ax];refine av b89 ((y.x.num:Int),()) (ak ?_);have D:IntKind.wrap .u32 ((nn:Int)+IntKind.wrap .u32 ((t.2:Int)*(y.x.num:Int)))=((iE of nn t:Nat):Int):=by
    unfold iE;rw [u];simp only;rw [eV,eV,kG,Xv,kG,Int.natCast_mul]
   refine aD (cs:=RZ) (((iE of nn t:Nat):Int),((i+1:Nat):Int),()) (x.ai.length-(i+1)) rfl ad (by rw [D,hw]; rfl) ⟨i+1,rfl,ad,rfl,by rw [o],Ch.trans (Ch.trans (Ch.trans G k ah) b ah) C (fun j S _=>S),?_⟩;rw [d];unfold tp;rw [u];exact R
  ·have u:of t.1=none:=by rw [z,M]; rfl
   refine br ?_;intro h7 N O z7;refine bT N ?_;intro h8 H P z8;have b:Ext h6 h8:=bZ O P;have b68:=E.af b ah;refine cy rfl ?_;refine av b68 (t.1,()) (ak ?_);refine oI (m6.af b ah) _ ?_;rw [ax];refine av b68 ((t.2:Int),()) (ak ?_);refine Ge (n:=(dL D' t.1+t.2) % 4294967296) (m6.af b ah) hsz ?_ ?_
   ·rw [eV,kG,Xv]
   ·intro X R C z9;have D:iE of nn t=nn:=by unfold iE; rw [u]
    refine aD (cs:=RZ) ((nn:Int),((i+1:Nat):Int),()) (x.ai.length-(i+1)) rfl ad (by rw [hw]; rfl) ⟨i+1,rfl,ad,rfl,by rw [o,D],Ch.trans (Ch.trans (Ch.trans G k ah) b ah) C (fun j S _=>S),?_⟩;rw [d];unfold tp;rw [u];exact R
 ·have hi:i=x.ai.length:=ad
  subst hi;rw [V1] at L ⊢;have hD:((x.ai.flatMap (tp of)).foldl iF []).length<=2^40:=by
   have:=uu (x.ai.flatMap (tp of)) []
   simp only [List.length_nil,Nat.zero_add] at this;omega
  refine Lh (lv:=1) rfl L hD _ (b23.af G (by simp; omega)) ?_;intro p' l' c' X s9 C;exact ⟨⟨p',l',c',rfl,s9.mono ad⟩,bZ A C⟩
structure TS where
 num:XA->Option Nat
 jd:Nat
 low:XA->Option Nat
 on:XA->Option Bool
 back:XA->Option Bool
 cZ:List XA
def ey (v:XA) (st:TS):TS:={ st with num:=dB st.num v (st.jd+1),jd:=st.jd+1,low:=dB st.low v (st.jd+1),cZ:=st.cZ++[v],on:=dB st.on v true }
def fh (v w:XA) (st:TS):TS:=if w=v then { st with back:=dB st.back v true } else st
def IN (v:XA) (n:Nat) (st:TS):TS:={ st with low:=dB st.low v (min ((st.low v).getD 0) n) }
def sE (lx:XA->TS->TS) (v w:XA) (st:TS):TS :=
 if (st.num w).getD 0=0 then IN v (((lx w st).low w).getD 0) (lx w st)
 else if (st.on w).getD false=true then IN v ((st.num w).getD 0) st
 else st
def ew (own:XA->Bool) (lx:XA->TS->TS) (v:XA) (st:TS) (w:XA):TS :=
 if own w=true then sE lx v w (fh v w st) else st
def oG (o5:Bool) (st:TS) (x:XA):TS:={ st with on:=dB st.on x false,back:=dB st.back x ((st.back x).getD false || o5) }
def qz (v:XA) (st:TS):Nat:=st.cZ.findIdx (fun x=>decide (v=x))
def qk (v:XA) (st:TS):TS:={ (st.cZ.drop (qz v st)).foldl (oG (decide (1<st.cZ.length-qz v st))) st with cZ:=st.cZ.take (qz v st) }
def cP (own:XA->Bool) (succ:XA->List XA):Nat->XA->TS->TS
 | 0,_,st=>st
 | f+1,v,st =>
  if (((succ v).foldl (ew own (cP own succ f) v) (ey v st)).low v).getD 0<(((succ v).foldl (ew own (cP own succ f) v) (ey v st)).num v).getD 0 then (succ v).foldl (ew own (cP own succ f) v) (ey v st)
  else qk v ((succ v).foldl (ew own (cP own succ f) v) (ey v st))
def Bg:TS:=⟨fun _=>none,0,fun _=>none,fun _=>none,fun _=>none,[]⟩
def vY (own:XA->Bool) (succ:XA->List XA) (f:Nat) (st:TS) (v:XA):TS:=if (st.num v).getD 0=0 then cP own succ f v st else st
def Fm (own:XA->Bool) (succ:XA->List XA) (names:List XA):TS:=names.foldl (vY own succ names.length) Bg
def pQ (names:List XA) (st:TS):Nat:=(names.filter fun v=>(st.num v).isNone).length
structure dz (names:List XA) (st:TS):Prop where
 sum:st.jd+pQ names st=names.length
 pos:∀ s n,st.num s=some n->1<=n
 cZ:st.cZ.length<=st.jd
 j4:∀ x,x∈st.cZ->st.num x≠Option.none
def dz.none {names:List XA} {st:TS} (g:dz names st) {w:XA} (h:(st.num w).getD 0=0):st.num w=Option.none:=by
 cases a:st.num w with
 | none=>rfl
 | some n =>
  rw [a] at h
  have:=g.pos w n a
  simp at h;omega
def N2 {names:List XA} (hn:names.Nodup) {v:XA} (hv:v∈names) {f:XA->Option Nat} (h0:f v=Option.none) (n:Nat):(names.filter fun s=>(dB f v n s).isNone).length+1=(names.filter fun s=>(f s).isNone).length:=by
 induction names with
 | nil=>simp at hv
 | cons x l b =>
  obtain ⟨c,hn⟩:=WN.1 hn
  by_cases e:x=v
  ·subst e;have hl:l.filter (fun s=>(dB f x n s).isNone)=l.filter (fun s=>(f s).isNone):=by
    refine List.filter_congr fun s d=>?_
    rw [bM _ _ (fun k=>c (by rw [<- k]; exact d))]
   rw [List.filter_cons,List.filter_cons,cw,h0,hl]
   simp
  ·have a:v∈l:=by
    rcases VK.1 hv with h | h
    ·exact (e h.symm).elim
    ·exact h
   have:=b hn a
   rw [List.filter_cons,List.filter_cons,bM _ _ e];split
   ·simp only [List.length_cons]; omega
   ·exact this
def Ad (o5:Bool) (l:List XA):∀ st:TS,(l.foldl (oG o5) st).num=st.num/\(l.foldl (oG o5) st).jd=st.jd/\(l.foldl (oG o5) st).low=st.low:=by
 induction l with
 | nil=>intro st; exact ⟨rfl,rfl,rfl⟩
 | cons x l a =>
  intro st;rw [V2];exact a _
def nh (v:XA) (st:TS):(qk v st).num=st.num:=(Ad _ _ _).1
def yS (v:XA) (st:TS):(qk v st).jd=st.jd:=(Ad _ _ _).2.1
def Nq (v:XA) (st:TS):(qk v st).low=st.low:=(Ad _ _ _).2.2
def vk (v:XA) (st:TS):(qk v st).cZ=st.cZ.take (qz v st):=rfl
def gS (v w:XA) (st:TS):(fh v w st).num=st.num/\(fh v w st).jd=st.jd/\(fh v w st).cZ=st.cZ/\(fh v w st).on=st.on/\(fh v w st).low=st.low:=by
 unfold fh;split <;> exact ⟨rfl,rfl,rfl,rfl,rfl⟩
def dz.self {names:List XA} {st:TS} (g:dz names st) (v w:XA):dz names (fh v w st):=by
 obtain ⟨h1,h2,a,_⟩:=gS v w st;exact ⟨by unfold pQ; rw [h1,h2]; exact g.sum,by rw [h1]; exact g.pos,by rw [h2,a]; exact g.cZ,by rw [h1,a]; exact g.j4⟩
def dz.low {names:List XA} {st:TS} (g:dz names st) (v:XA) (n:Nat):dz names (IN v n st):=⟨g.sum,g.pos,g.cZ,g.j4⟩
def dz.open {names:List XA} (hn:names.Nodup) {st:TS} (g:dz names st) {v:XA} (hv:v∈names) (h0:st.num v=Option.none):dz names (ey v st)/\pQ names (ey v st)+1=pQ names st:=by
 have h1:pQ names (ey v st)+1=pQ names st:=N2 hn hv h0 _;refine ⟨⟨?_,fun s n a=>?_,?_,fun x b=>?_⟩,h1⟩
 ·have:=g.sum
  show st.jd+1+pQ names (ey v st)=_;omega
 ·have a:dB st.num v (st.jd+1) s=some n:=a
  by_cases e:s=v
  ·subst e;rw [cw] at a
   have:=VP a
   omega
  ·rw [bM _ _ e] at a;exact g.pos s n a
 ·have:=g.cZ
  show (st.cZ++[v]).length<=st.jd+1
  simp; omega
 ·have b:x∈st.cZ++[v]:=b;show dB st.num v _ x≠Option.none
  by_cases e:x=v
  ·subst e; rw [cw]; simp
  ·rw [bM _ _ e];rcases VG.1 b with h | h
   ·exact g.j4 x h
   ·exact (e (VH.1 h)).elim
def dz.pop {names:List XA} {st:TS} (g:dz names st) (v:XA):dz names (qk v st) :=
 ⟨by unfold pQ; rw [nh,yS]; exact g.sum,by rw [nh]; exact g.pos,by rw [vk,yS,VQ]; have:=g.cZ; omega,fun x a=>by rw [nh]; rw [vk] at a; exact g.j4 x (WO a)⟩
def Ap (names:List XA) (st a:TS):Prop:=dz names a/\(∀ s n,st.num s=some n->a.num s=some n)/\st.cZ <+: a.cZ
def Ap.pQ {names:List XA} {st a:TS} (h:Ap names st a):pQ names a<=pQ names st:=by
 unfold Sx.pQ;rw [<- List.countP_eq_length_filter,<- List.countP_eq_length_filter];refine List.countP_mono_left fun x c h'=>?_
 cases b:st.num x with
 | none=>rfl
 | some n=>rw [h.2.1 x n b] at h'; simp at h'
def Ap.trans {names:List XA} {a b c:TS} (h:Ap names a b) (k:Ap names b c):Ap names a c:=⟨k.1,fun s n d=>k.2.1 s n (h.2.1 s n d),h.2.2.trans k.2.2⟩
def Ap.refl {names:List XA} {a:TS} (h:dz names a):Ap names a a:=⟨h,fun s n b=>b,List.prefix_refl _⟩
def Me {names:List XA} {lx:XA->TS->TS} (a:∀ Z st,dz names st->Z∈names->st.num Z=Option.none->Sx.pQ names st<=H->Ap names st (lx Z st)) {v:XA} {st:TS} (g:dz names st) (b:Z∈names) (c:Sx.pQ names st<=H):Ap names st (sE lx v Z st):=by
 unfold sE;split
 ·rename_i h0;have h:=a Z st g b (g.none h0) c;exact ⟨h.1.low v _,h.2.1,h.2.2⟩
 ·split
  ·exact ⟨g.low v _,fun s n d=>d,List.prefix_refl _⟩
  ·exact Ap.refl g
def DY {names:List XA} {own:XA->Bool} (a:∀ s,own s=true->s∈names) {lx:XA->TS->TS} (b:∀ w st,dz names st->w∈names->st.num w=Option.none->Sx.pQ names st<=H->Ap names st (lx w st)) {v w:XA} {st:TS} (g:dz names st) (c:Sx.pQ names st<=H):Ap names st (ew own lx v st w):=by
 unfold ew;split
 ·rename_i d;have h1:Ap names st (fh v w st):=⟨g.self v w,fun s n e=>by rw [(gS v w st).1]; exact e,by rw [(gS v w st).2.2.1]; exact List.prefix_refl _⟩
  exact h1.trans (Me b (g.self v w) (a w d) (Wi h1.pQ c))
 ·exact Ap.refl g
theorem zK {names:List XA} {own:XA->Bool} (a:∀ s,own s=true->s∈names) {lx:XA->TS->TS} {f:Nat} (b:∀ w st,dz names st->w∈names->st.num w=Option.none->Sx.pQ names st<=f->Ap names st (lx w st)) (v:XA):∀ (l:List XA) (st:TS),dz names st->Sx.pQ names st<=f->Ap names st (l.foldl (ew own lx v) st)
 | [],st,g,c=>Ap.refl g
 | w::l,st,g,c=>by
  have h1:=DY a b (v:=v) (w:=w) g c;rw [V2];exact h1.trans (zK a b v l _ h1.1 (Wi h1.pQ c))
def G0 {a b:List XA} {v:XA} (h:a++[v] <+: b) (hv:v∉a) {st:TS} (c:st.cZ=b):qz v st=a.length/\b.take a.length=a/\a.length<b.length:=by
 obtain ⟨t,rfl⟩:=h;unfold qz;rw [c];refine ⟨?_,ah,ah⟩;rw [VW,List.findIdx_append,Vu ?_]
 ·simp [List.findIdx_cons]
 ·rw [List.findIdx_lt_length];rintro ⟨x,d,e⟩;exact hv (by rw [Vv e]; exact d)
def dz.TM {names:List XA} {st:TS} (g:dz names st) {v:XA} (h0:st.num v=Option.none):v∉st.cZ:=fun hv=>g.j4 v hv h0
def LU {names:List XA} (hn:names.Nodup) {v:XA} {st:TS} (g:dz names st) (hv:v∈names) (h0:st.num v=Option.none):Ap names st (ey v st) :=
 ⟨(g.open hn hv h0).1,fun s n a=>by
   show dB st.num v _ s=some n;rw [bM _ _ (fun e=>by rw [e,h0] at a; cases a)];exact a,⟨[v],rfl⟩⟩
theorem rI {names:List XA} (hn:names.Nodup) {own:XA->Bool} (b:∀ s,own s=true->s∈names) (succ:XA->List XA):∀ (f:Nat) (v:XA) (st:TS),dz names st->v∈names->st.num v=Option.none->Sx.pQ names st<=f->Ap names st (cP own succ f v st)
 | 0,v,st,g,hv,h0,c=>Ap.refl g
 | f+1,v,st,g,hv,h0,c=>by
  obtain ⟨d,e⟩:=g.open hn hv h0;have h2:=zK b (rI hn b succ f) v (succ v) _ d ad;have h3:=(LU hn g hv h0).trans h2;unfold cP;split
  ·exact h3
  ·refine ⟨h3.1.pop v,fun s n h=>by rw [nh]; exact h3.2.1 s n h,?_⟩;obtain ⟨i,j,_⟩:=G0 (a:=st.cZ) (v:=v) h2.2.2 (g.TM h0) rfl;rw [vk,i,j];exact List.prefix_refl _
def Jt {names:List XA} (hn:names.Nodup) {own:XA->Bool} (a:∀ s,own s=true->s∈names) (succ:XA->List XA) {v:XA} {st:TS} (g:dz names st) (hv:v∈names) (h0:st.num v=Option.none) (d:Sx.pQ names st<=H+1) (l:List XA) :
  dz names (l.foldl (ew own (cP own succ H) v) (ey v st))/\Sx.pQ names (l.foldl (ew own (cP own succ H) v) (ey v st))<=H/\st.cZ++[v] <+: (l.foldl (ew own (cP own succ H) v) (ey v st)).cZ/\∃ n,(l.foldl (ew own (cP own succ H) v) (ey v st)).num v=some n:=by
 obtain ⟨b,c⟩:=g.open hn hv h0;have h2:=zK a (rI hn a succ H) v l _ b ad;exact ⟨h2.1,by have:=h2.pQ; omega,h2.2.2,_,h2.2.1 v (st.jd+1) (cw _ _ _)⟩
def Th (names:List XA):dz names Bg:=⟨by unfold pQ Bg; simp,fun s n a=>(by cases a),by simp [Bg],by simp [Bg]⟩
section
variable {E:XA->XA->Prop}
inductive rY (E:XA->XA->Prop):XA->XA->Prop
 | refl (a:XA):rY E a a
 | head {a b c:XA}:E a b->rY E b c->rY E a c
def rY.trans {a b c:XA} (h:rY E a b) (k:rY E b c):rY E a c:=by
 induction h with
 | refl=>exact k
 | head e _ d=>exact .head e (d k)
def rY.one {a b:XA} (h:E a b):rY E a b:=.head h (.refl b)
def oM (E:XA->XA->Prop) (v:XA):Prop:=∃ y,E v y/\rY E y v
def oM.of {a b:XA} (h:rY E a b) (k:rY E b a) (c:a≠b):oM E a:=by
 cases h with
 | refl=>exact (c rfl).elim
 | head e r=>exact ⟨_,e,r.trans k⟩
structure Inv (E:XA->XA->Prop) (G:List XA) (st:TS):Prop where
 le:∀ s n,st.num s=some n->1<=n/\n<=st.jd
 cZ:∀ x,x∈st.cZ->st.num x≠none
 on:∀ x,(st.on x).getD false=true↔x∈st.cZ
 gr:∀ g,g∈G->g∈st.cZ
 cl:∀ x,st.num x≠none->x∉st.cZ->∀ y,E x y->st.num y≠none/\y∉st.cZ
 bl:∀ x,st.num x≠none->x∉G->∀ y,E x y->st.num y≠none
 rg:∀ x,x∈st.cZ->∃ g,g∈G/\rY E x g
 b0:∀ x,st.num x=none->(st.back x).getD false=false
 bc:∀ x,st.num x≠none->x∉st.cZ->((st.back x).getD false=true↔oM E x)
 bw:∀ x,x∈st.cZ->(st.back x).getD false=true->E x x
 bb:∀ x,x∈st.cZ->x∉G->E x x->(st.back x).getD false=true
def Inv.low {G:List XA} {st:TS} (i:Inv E G st) (v:XA) (n:Nat):Inv E G (IN v n st):=⟨i.le,i.cZ,i.on,i.gr,i.cl,i.bl,i.rg,i.b0,i.bc,i.bw,i.bb⟩
def Inv.Rb {G:List XA} {st:TS} (i:Inv E G st) {x y:XA} (h:rY E x y):st.num x≠none->x∉st.cZ->st.num y≠none/\y∉st.cZ:=by
 induction h with
 | refl=>exact fun h k=>⟨h,k⟩
 | head e _ a=>intro h k; obtain ⟨h2,b⟩:=i.cl _ h k _ e; exact a h2 b
def Inv.self {G:List XA} {st:TS} (i:Inv E G st) {v w:XA} (hv:v∈G) (g:w=v->E v v):Inv E G (fh v w st):=by
 unfold fh;split
 ·rename_i h;have hw:=i.gr v hv;have hn:=i.cZ v hw;refine ⟨i.le,i.cZ,i.on,i.gr,i.cl,i.bl,i.rg,fun x b=>?_,fun x b c=>?_,fun x b d=>?_,fun x b f j=>?_⟩
  ·have a:x≠v:=fun e=>hn (by rw [<- e]; exact b)
   show (dB st.back v true x).getD false=false;rw [bM _ _ a]; exact i.b0 x b
  ·have a:x≠v:=fun e=>c (by rw [e]; exact hw)
   show (dB st.back v true x).getD false=true↔_;rw [bM _ _ a]; exact i.bc x b c
  ·by_cases e:x=v
   ·subst e; exact g h
   ·have d:(dB st.back v true x).getD false=true:=d;rw [bM _ _ e] at d; exact i.bw x b d
  ·have a:x≠v:=fun e=>f (by rw [e]; exact hv)
   show (dB st.back v true x).getD false=true;rw [bM _ _ a]; exact i.bb x b f j
 ·exact i
def Inv.open {G:List XA} {st:TS} (i:Inv E G st) {v:XA} (h0:st.num v=none):Inv E (v::G) (ey v st):=by
 have q:v∉st.cZ:=fun h=>i.cZ v h h0
 have a:∀ {x},x≠v->(ey v st).num x=st.num x:=fun h=>bM _ _ h
 have mono:∀ {x},st.num x≠none->(ey v st).num x≠none:=by
  intro x h;rw [a (fun e=>h (by rw [e]; exact h0))]; exact h
 refine ⟨fun s n f=>?_,fun x b=>?_,fun x=>?_,fun g j=>?_,fun x b c y o=>?_,fun x b m y o=>?_,fun x b=>?_,fun x b=>?_,fun x b c=>?_,fun x b l=>?_,fun x b j p=>?_⟩
 ·show 1<=n/\n<=st.jd+1
  by_cases e:s=v
  ·subst e;have f:dB st.num s (st.jd+1) s=some n:=f;rw [cw] at f
   have:=VP f
   omega
  ·rw [a e] at f
   have:=i.le s n f
   omega
 ·rcases VG.1 (show x∈st.cZ++[v] from b) with h | h
  ·exact mono (i.cZ x h)
  ·rw [VH.1 h];show dB st.num v _ v≠none;rw [cw]; simp
 ·show (dB st.on v true x).getD false=true↔x∈st.cZ++[v]
  by_cases e:x=v
  ·subst e; rw [cw]; simp
  ·rw [bM _ _ e,i.on x]; simp [e]
 ·show g∈st.cZ++[v];rcases VK.1 j with h | h
  ·simp [h]
  ·exact V7 _ (i.gr g h)
 ·have c:x∉st.cZ++[v]:=c;have d:x≠v:=fun e=>c (by simp [e])
  rw [a d] at b;obtain ⟨h1,h2⟩:=i.cl x b (fun h=>c (V7 _ h)) y o;refine ⟨mono h1,?_⟩;show y∉st.cZ++[v];intro h;rcases VG.1 h with h | h
  ·exact h2 h
  ·exact h1 (by rw [VH.1 h]; exact h0)
 ·have d:x≠v:=fun e=>m (by simp [e])
  rw [a d] at b;exact mono (i.bl x b (fun h=>m (Vz _ h)) y o)
 ·rcases VG.1 (show x∈st.cZ++[v] from b) with h | h
  ·obtain ⟨g,j,r⟩:=i.rg x h;exact ⟨g,Vz _ j,r⟩
  ·rw [VH.1 h];exact ⟨v,ah,.refl v⟩
 ·have d:x≠v:=by
   intro e;subst e;have b:dB st.num x _ x=none:=b;rw [cw] at b; cases b
  rw [a d] at b;exact i.b0 x b
 ·have c:x∉st.cZ++[v]:=c;have d:x≠v:=fun e=>c (by simp [e])
  rw [a d] at b;exact i.bc x b (fun h=>c (V7 _ h))
 ·rcases VG.1 (show x∈st.cZ++[v] from b) with h | h
  ·exact i.bw x h l
  ·rw [VH.1 h] at l;have l:(st.back v).getD false=true:=l;rw [i.b0 v h0] at l; cases l
 ·have d:x≠v:=fun e=>j (by simp [e])
  rcases VG.1 (show x∈st.cZ++[v] from b) with h | h
  ·exact i.bb x h (fun k=>j (Vz _ k)) p
  ·exact (d (VH.1 h)).elim
def tP (st:TS) (v:XA):Nat:=(st.low v).getD 0
def ry (st:TS) (v:XA):Nat:=(st.num v).getD 0
def PZ (s0 st:TS):Prop:=∀ s,s0.num s≠none->st.num s=s0.num s/\st.low s=s0.low s/\st.back s=s0.back s
def TD (s0 st:TS):Prop:=∀ s n,s0.num s=none->st.num s=some n->s0.jd<n
def Q2 (E:XA->XA->Prop) (v:XA) (s0 st:TS) (x:XA):Prop:=s0.num x=none/\rY E v x/\∀ y,E x y->y∈s0.cZ->tP st v<=ry st y
structure nr (E:XA->XA->Prop) (G:List XA) (v:XA) (s0 st:TS):Prop where
 inv:Inv E G st
 old:PZ s0 st
 jd:s0.jd<=st.jd
 new:TD s0 st
 num:∃ n,st.num v=some n
 cZ:∃ X,st.cZ=s0.cZ++X/\∀ x,x∈X->Q2 E v s0 st x
 low:tP st v<ry st v->∃ y,y∈s0.cZ/\rY E v y/\st.num y=some (tP st v)
structure Fq (E:XA->XA->Prop) (own:XA->Bool) (G:List XA) (v:XA) (P:List XA) (s0 st:TS):Prop where
 inv:Inv E (v::G) st
 old:PZ s0 st
 jd:s0.jd<=st.jd
 new:TD s0 st
 num:st.num v=some (s0.jd+1)
 cZ:∃ X,st.cZ=s0.cZ++v::X/\∀ x,x∈X->x≠v/\Q2 E v s0 st x
 low:tP st v<s0.jd+1->∃ y,y∈s0.cZ/\rY E v y/\st.num y=some (tP st v)
 lx:∀ w,w∈P->own w=true->st.num w≠none/\(w∈s0.cZ->tP st v<=ry st w)/\(w=v->(st.back v).getD false=true)
def Fq.start {own:XA->Bool} {G:List XA} {v:XA} {s0:TS} (i:Inv E G s0) (h0:s0.num v=none):Fq E own G v [] s0 (ey v s0):=by
 refine ⟨i.open h0,fun s b=>?_,Nat.le_succ _,fun s n b hn=>?_,cw _ _ _,⟨[],rfl,fun x c=>by simp at c⟩,fun hl=>?_,fun w d=>by simp at d⟩
 ·have a:s≠v:=fun e=>b (by rw [e]; exact h0)
  exact ⟨bM _ _ a,bM _ _ a,rfl⟩
 ·by_cases e:s=v
  ·subst e;have hn:dB s0.num s (s0.jd+1) s=some n:=hn;rw [cw] at hn
   have:=VP hn
   omega
  ·have hn:dB s0.num v (s0.jd+1) s=some n:=hn;rw [bM _ _ e,b] at hn; cases hn
 ·have hl:(dB s0.low v (s0.jd+1) v).getD 0<s0.jd+1:=hl;rw [cw] at hl;simp at hl
def Fq.self {own:XA->Bool} {G:List XA} {v w:XA} {P:List XA} {s0 st:TS} (m:Fq E own G v P s0 st) (h0:s0.num v=none) (o:w=v->E v v) :
  Fq E own G v P s0 (fh v w st)/\(w=v->((fh v w st).back v).getD false=true):=by
 obtain ⟨d,p,q,B,i⟩:=gS v w st;have r:∀ s,s≠v->(fh v w st).back s=st.back s:=by
  intro s f;unfold fh;split
  ·exact bM _ _ f
  ·rfl
 have j:w=v->((fh v w st).back v).getD false=true:=by
  intro e;unfold fh;rw [VE e];show (dB st.back v true v).getD false=true;rw [cw]; rfl
 have g:(st.back v).getD false=true->((fh v w st).back v).getD false=true:=by
  intro h;unfold fh;split
  ·show (dB st.back v true v).getD false=true;rw [cw]; rfl
  ·exact h
 refine ⟨⟨m.inv.self ah o,fun s f=>?_,by rw [p]; exact m.jd,fun s n f hn=>by rw [d] at hn; exact m.new s n f hn,by rw [d]; exact m.num,?_,?_,fun u t y=>?_⟩,j⟩
 ·have k:s≠v:=fun e=>f (by rw [e]; exact h0)
  rw [d,i,r s k];exact m.old s f
 ·obtain ⟨X,z,A⟩:=m.cZ;refine ⟨X,by rw [q]; exact z,fun x l=>?_⟩
  have:=A x l
  unfold Q2 tP ry at *;rw [d,i];exact this
 ·unfold tP;rw [d,i];exact m.low
 ·obtain ⟨a,b,c⟩:=m.lx u t y;unfold tP ry at *;rw [d,i];exact ⟨a,b,fun e=>g (c e)⟩
def oq (v:XA) (n:Nat) (st:TS):tP (IN v n st) v=min (tP st v) n:=by
 unfold tP;show (dB st.low v _ v).getD 0=_;rw [cw]; rfl
def Fq.rest {own:XA->Bool} {G:List XA} {v w:XA} {P:List XA} {s0 st:TS} {lx:XA->TS->TS} (i0:Inv E G s0) (m:Fq E own G v P s0 st) (h0:s0.num v=none) (V:∀ g,g∈G->rY E g v) (H:E v w)
  (U:w=v->(st.back v).getD false=true) (W:(st.num w).getD 0=0->st.num w=none) (I:st.num w=none->(∀ g,g∈v::G->rY E g w)->nr E (v::G) w st (lx w st)) :
  Fq E own G v (P++[w]) s0 (sE lx v w st):=by
 obtain ⟨X,F,N⟩:=m.cZ;have hv:st.num v≠none:=by rw [m.num]; simp
 have z:∀ s,s0.num s≠none->st.num s≠none:=fun s q=>by rw [(m.old s q).1]; exact q
 have i:∀ y,y∈s0.cZ->y∈st.cZ:=fun y l=>by rw [F]; exact V7 _ l
 unfold sE;split
 ·rename_i A;have hw:=W A;have O:w≠v:=fun e=>hv (by rw [<- e]; exact hw)
  have p:=I hw (fun g Y=>by
   rcases VK.1 Y with h | h
   ·rw [h]; exact .one H
   ·exact (V g h).trans (.one H))
  generalize lx w st=f at p ⊢;show Fq E own G v (P++[w]) s0 (IN v (tP f w) f);obtain ⟨Z,Q,R⟩:=p.cZ;have j:tP f v=tP st v:=by unfold tP; rw [(p.old v hv).2.1]
  have r:f.num v=some (s0.jd+1):=by rw [(p.old v hv).1]; exact m.num
  refine ⟨p.inv.low v _,fun s q=>?_,Wi m.jd p.jd,fun s n q hn=>?_,r,⟨X++Z,?_,fun x B=>?_⟩,fun hl=>?_,fun u J K=>?_⟩
  ·have C:s≠v:=fun e=>q (by rw [e]; exact h0)
   obtain ⟨a,b,c⟩:=m.old s q;obtain ⟨a2,b2,c2⟩:=p.old s (z s q);refine ⟨a2.trans a,?_,c2.trans c⟩;show dB f.low v _ s=_;rw [bM _ _ C];exact b2.trans b
  ·by_cases h1:st.num s=none
   ·have:=p.new s n h1 hn
    have:=m.jd
    omega
   ·have hn:f.num s=some n:=hn;rw [(p.old s h1).1] at hn;exact m.new s n q hn
  ·show f.cZ=_;rw [Q,F,VW,Xc]
  ·rcases VG.1 B with h | h
   ·obtain ⟨a,b,c,d⟩:=N x h;refine ⟨a,b,c,fun y l o=>?_⟩;rw [oq,j]
    have:=d y l o
    have e:ry f y=ry st y:=by unfold ry; rw [(p.old y (m.inv.cZ y (i y o))).1]
    show _<=ry f y;omega
   ·obtain ⟨b,c,d⟩:=R x h;refine ⟨fun e=>hv (by rw [<- e]; exact b),?_,rY.head H c,fun y l o=>?_⟩
    ·apply W6;intro k;exact z x k b
    ·rw [oq]
     have:=d y l (i y o)
     show _<=ry f y;omega
  ·rw [oq,j] at hl ⊢;show ∃ y,y∈s0.cZ/\rY E v y/\f.num y=_
   by_cases hc:tP st v<=tP f w
   ·rw [WD hc] at hl ⊢;obtain ⟨y,l,S,hn⟩:=m.low hl;exact ⟨y,l,S,by rw [(p.old y (m.inv.cZ y (i y l))).1]; exact hn⟩
   ·rw [Nat.min_eq_right ad] at hl ⊢;obtain ⟨n,hn⟩:=p.num;have h2:=p.new w n hw hn;have h3:=m.jd;obtain ⟨y,l,S,t⟩:=p.low (by unfold ry; rw [hn]; simp; omega);refine ⟨y,?_,rY.head H S,t⟩;rw [F] at l;rcases VG.1 l with h | h
    ·exact h
    ·rcases VK.1 h with h | h
     ·rw [h,r] at t
      have:=VP t
      omega
     ·have L:st.num y≠none:=m.inv.cZ y (by rw [F]; exact Wd _ (Vz _ h));rw [(p.old y L).1] at t
      have:=m.new y _ (N y h).2.1 t
      omega
  ·rw [oq,j];rcases VG.1 J with h | h
   ·obtain ⟨a,b,c⟩:=m.lx u h K;have hn:f.num u=st.num u:=(p.old u a).1;refine ⟨by show f.num u≠none; rw [hn]; exact a,fun k=>?_,fun k=>?_⟩
    ·have:=b k
     have e:ry f u=ry st u:=by unfold ry; rw [hn]
     show _<=ry f u;omega
    ·show (f.back v).getD false=true;rw [(p.old v hv).2.2];exact c k
   ·have h:=VH.1 h;subst h;obtain ⟨n,hn⟩:=p.num;exact ⟨by show f.num u≠none; rw [hn]; simp,fun k=>(m.inv.cZ u (i u k) hw).elim,fun k=>(O k).elim⟩
 ·rename_i A;have hw:st.num w≠none:=fun e=>A (by rw [e]; rfl)
  obtain ⟨n,hn⟩:=Option.ne_none_iff_exists'.1 hw;split
  ·rename_i D;have hwy:=(m.inv.on w).1 D;have M:(st.num w).getD 0=n:=by rw [hn]; rfl
   rw [M];refine ⟨m.inv.low v _,fun s q=>?_,m.jd,m.new,m.num,⟨X,F,fun x B=>?_⟩,fun hl=>?_,fun u J K=>?_⟩
   ·have C:s≠v:=fun e=>q (by rw [e]; exact h0)
    obtain ⟨a,b,c⟩:=m.old s q;refine ⟨a,?_,c⟩;show dB st.low v _ s=_;rw [bM _ _ C];exact b
   ·obtain ⟨a,b,c,d⟩:=N x B;refine ⟨a,b,c,fun y l o=>?_⟩;rw [oq]
    have:=d y l o
    show _<=ry st y;omega
   ·rw [oq] at hl ⊢;show ∃ y,y∈s0.cZ/\rY E v y/\st.num y=_
    by_cases hc:tP st v<=n
    ·rw [WD hc] at hl ⊢;exact m.low hl
    ·rw [Nat.min_eq_right ad] at hl ⊢;refine ⟨w,?_,.one H,hn⟩;rw [F] at hwy;rcases VG.1 hwy with h | h
     ·exact h
     ·rcases VK.1 h with h | h
      ·rw [h,m.num] at hn
       have:=VP hn
       omega
      ·have:=m.new w _ (N w h).2.1 hn
       omega
   ·rw [oq];rcases VG.1 J with h | h
    ·obtain ⟨a,b,c⟩:=m.lx u h K;refine ⟨a,fun k=>?_,c⟩
     have:=b k
     show _<=ry st u;omega
    ·have h:=VH.1 h;subst h;refine ⟨hw,fun k=>?_,U⟩;show _<=(st.num u).getD 0;rw [M];omega
  ·rename_i D;refine ⟨m.inv,m.old,m.jd,m.new,m.num,m.cZ,m.low,fun u J K=>?_⟩;rcases VG.1 J with h | h
   ·exact m.lx u h K
   ·have h:=VH.1 h;subst h;exact ⟨hw,fun k=>(D ((m.inv.on u).2 (i u k))).elim,U⟩
def Fq.RT {own:XA->Bool} {succ:XA->List XA} {G:List XA} {v:XA} {s0 st:TS} (A:∀ a b,E a b↔b∈succ a/\own b=true) (B:Inv E G s0) (m:Fq E own G v (succ v) s0 st) (hl:tP st v<ry st v):nr E G v s0 st:=by
 obtain ⟨X,D,F⟩:=m.cZ;have H:ry st v=s0.jd+1:=by unfold ry; rw [m.num]; rfl
 have i:=m.inv;have I:v∈st.cZ:=i.gr v ah;have lx:∀ y,E v y->st.num y≠none/\(y∈s0.cZ->tP st v<=ry st y)/\(y=v->(st.back v).getD false=true):=fun y c=>m.lx y ((A v y).1 c).1 ((A v y).1 c).2
 obtain ⟨C,j,k,o⟩:=m.low ad;obtain ⟨J,p,q⟩:=B.rg C j;refine ⟨⟨i.le,i.cZ,i.on,fun g s=>i.gr g (Vz _ s),i.cl,fun x t d y c=>?_,fun x f=>?_,i.b0,i.bc,i.bw,fun x f d l=>?_⟩,m.old,m.jd,m.new,⟨_,m.num⟩,⟨v::X,D,fun x u=>?_⟩,fun _=>⟨C,j,k,o⟩⟩
 ·by_cases e:x=v
  ·subst e; exact (lx y c).1
  ·exact i.bl x t (by simp [e,d]) y c
 ·obtain ⟨g,s,r⟩:=i.rg x f;rcases VK.1 s with h | h
  ·rw [h] at r;exact ⟨J,p,(r.trans k).trans q⟩
  ·exact ⟨g,h,r⟩
 ·by_cases e:x=v
  ·subst e; exact (lx x l).2.2 rfl
  ·exact i.bb x f (by simp [e,d]) l
 ·rcases VK.1 u with h | h
  ·subst h;refine ⟨?_,.refl x,fun y c w=>(lx y c).2.1 w⟩;cases z:s0.num x with
   | none=>rfl
   | some n =>
    have h1:=(m.old x (by rw [z]; simp)).1;rw [z,m.num] at h1
    have:=VP h1
    have:=(B.le x n z).2
    omega
  ·exact (F x h).2
open Classical in
def Q7 (o5:Bool) (x:XA) (l:List XA):∀ st:TS,((l.foldl (oG o5) st).on x).getD false=(if x∈l then false else (st.on x).getD false)/\((l.foldl (oG o5) st).back x).getD false=(if x∈l then ((st.back x).getD false || o5) else (st.back x).getD false)/\(x∉l->(l.foldl (oG o5) st).back x=st.back x):=by
 induction l with
 | nil=>intro st; simp
 | cons y l g =>
  intro st;rw [V2];obtain ⟨a,b,c⟩:=g (oG o5 st y);rw [a,b]
  by_cases e:x=y
  ·subst e;have f:((oG o5 st x).on x)=some false:=cw _ _ _;have d:((oG o5 st x).back x)=some ((st.back x).getD false || o5):=cw _ _ _;rw [f,d];refine ⟨ah,by by_cases i:x∈l <;> simp [i],fun h=>(h ah).elim⟩
  ·have f:((oG o5 st y).on x)=st.on x:=bM _ _ e;have d:((oG o5 st y).back x)=st.back x:=bM _ _ e;rw [f,d];refine ⟨by simp [e],by simp [e],fun h=>?_⟩;rw [c (fun k=>h (Vz _ k)),d]
open Classical in
def Fq.Sy {own:XA->Bool} {succ:XA->List XA} {G:List XA} {v:XA} {s0 st:TS} (hE:∀ a b,E a b↔b∈succ a/\own b=true) (C:Inv E G s0) (m:Fq E own G v (succ v) s0 st) (h0:s0.num v=none) (hG:∀ g,g∈G->rY E g v) (hl:¬ tP st v<ry st v):nr E G v s0 (qk v st):=by
 obtain ⟨X,Q,M⟩:=m.cZ;have hnv:ry st v=s0.jd+1:=by unfold ry; rw [m.num]; rfl
 have i:=m.inv;have N:v∈st.cZ:=i.gr v ah;have lx:∀ y,E v y->st.num y≠none/\(y∈s0.cZ->tP st v<=ry st y)/\(y=v->(st.back v).getD false=true):=fun y p=>m.lx y ((hE v y).1 p).1 ((hE v y).1 p).2
 have dS:v∉s0.cZ:=fun h=>C.cZ v h h0
 obtain ⟨e1,e2,e3⟩:=G0 (a:=s0.cZ) (v:=v) (b:=st.cZ) ⟨X,by rw [Q]; simp⟩ dS rfl;have o:st.cZ.drop (qz v st)=v::X:=by rw [e1,Q]; simp
 have w:decide (1<st.cZ.length-qz v st)=decide (1<(v::X).length):=by rw [<- o,V6]
 have j:(qk v st).cZ=s0.cZ:=by rw [vk,e1,e2]
 have hnum:=nh v st;have hlow:=Nq v st;have hcnt:=yS v st;have hoff:=fun x=>Q7 (decide (1<(v::X).length)) x (v::X) st
 have R:∀ x,((qk v st).on x).getD false=(if x∈v::X then false else (st.on x).getD false):=by
  intro x;rw [<- (hoff x).1];unfold qk;rw [o,w]
 have B:∀ x,((qk v st).back x).getD false=(if x∈v::X then ((st.back x).getD false || decide (1<(v::X).length)) else (st.back x).getD false):=by
  intro x;rw [<- (hoff x).2.1];unfold qk;rw [o,w]
 have S:∀ x,x∉v::X->(qk v st).back x=st.back x:=by
  intro x hh;rw [<- (hoff x).2.2 hh];unfold qk;rw [o,w]
 have D:∀ x,x∈v::X->s0.num x=none:=by
  intro x h;rcases VK.1 h with h | h
  ·rw [h]; exact h0
  ·exact (M x h).2.1
 have A:∀ x,x∈s0.cZ->x∉v::X:=fun x h k=>C.cZ x h (D x k)
 have f:∀ x,x∈st.cZ↔x∈s0.cZ\/x∈v::X:=fun x=>by rw [Q]; exact VG
 have t:∀ y,y∈s0.cZ->¬ tP st v<=ry st y:=by
  intro y p;obtain ⟨n,hn⟩:=Option.ne_none_iff_exists'.1 (C.cZ y p)
  have:=(C.le y n hn).2
  have e:ry st y=n:=by unfold ry; rw [(m.old y (C.cZ y p)).1,hn]; rfl
  omega
 have F:∀ x,st.num x≠none->x∉G->∀ y,E x y->st.num y≠none:=by
  intro x l q y p
  by_cases e:x=v
  ·subst e; exact (lx y p).1
  ·exact i.bl x l (by simp [e,q]) y p
 have O:∀ x,x∈st.cZ->rY E x v:=by
  intro x h;obtain ⟨g,U,r⟩:=i.rg x h;rcases VK.1 U with h | h
  ·rw [h] at r; exact r
  ·exact r.trans (hG g h)
 refine ⟨⟨fun s n H=>?_,fun x d=>?_,fun x=>?_,fun g U=>?_,fun x l d y p=>?_,fun x l q y p=>?_,fun x d=>?_,fun x I=>?_,fun x l d=>?_,fun x d J=>?_,fun x d q V=>?_⟩,fun s H=>?_,by rw [hcnt]; exact m.jd,fun s n H hn=>by rw [hnum] at hn; exact m.new s n H hn,⟨_,by rw [hnum]; exact m.num⟩,⟨[],by rw [j]; simp,fun x K=>by simp at K⟩,fun t=>?_⟩
 ·rw [hnum] at H; rw [hcnt]; exact i.le s n H
 ·rw [hnum]; rw [j] at d; exact i.cZ x ((f x).2 (.inl d))
 ·rw [R,j]
  by_cases h:x∈v::X
  ·rw [VE h];exact ⟨fun k=>(by cases k),fun k=>(A x k h).elim⟩
  ·rw [Vu h,i.on x,f];exact ⟨fun k=>k.resolve_right h,.inl⟩
 ·rw [j]; exact C.gr g U
 ·rw [hnum] at l ⊢;rw [j] at d ⊢
  by_cases h:x∈v::X
  ·have q:x∉G:=fun k=>d (C.gr x k)
   refine ⟨F x l q y p,fun L=>t y L ?_⟩;rcases VK.1 h with h | h
   ·subst h; exact (lx y p).2.1 L
   ·exact (M x h).2.2.2 y p L
  ·obtain ⟨a,b⟩:=i.cl x l (fun k=>((f x).1 k).elim d h) y p;exact ⟨a,fun k=>b ((f y).2 (.inl k))⟩
 ·rw [hnum] at l ⊢;exact F x l q y p
 ·rw [j] at d; exact C.rg x d
 ·rw [hnum] at I;rw [B,Vu (fun k=>i.cZ x ((f x).2 (.inr k)) I)];exact i.b0 x I
 ·rw [hnum] at l;rw [j] at d;rw [B]
  by_cases h:x∈v::X
  ·rw [VE h]
   by_cases J:1<(v::X).length
   ·rw [Vw J,Bool.or_true];refine ⟨fun _=>?_,fun _=>rfl⟩
    by_cases e:x=v
    ·subst e;obtain ⟨z,W⟩:∃ z,z∈X:=by
      cases X with
      | nil=>simp at J
      | cons z X=>exact ⟨z,ah⟩
     exact oM.of (M z W).2.2.1 (O z ((f z).2 (.inr (Vz _ W)))) (fun e=>(M z W).1 e.symm)
    ·have K:x∈X:=(VK.1 h).resolve_left e;exact oM.of (O x ((f x).2 (.inr h))) (M x K).2.2.1 e
   ·rw [Vx J,Bool.or_false];have Y:X=[]:=by
     cases X with
     | nil=>rfl
     | cons z X=>simp at J
    subst Y;have e:x=v:=by simpa using h
    subst e;refine ⟨fun k=>⟨x,i.bw x N k,.refl x⟩,?_⟩;rintro ⟨u,hu,r⟩;obtain ⟨a,b,c⟩:=lx u hu
    by_cases P:u∈st.cZ
    ·rcases (f u).1 P with k | k
     ·exact (t u k (b k)).elim
     ·exact c (by simpa using k)
    ·exact ((i.Rb r a P).2 N).elim
  ·rw [Vu h];exact i.bc x l (fun k=>((f x).1 k).elim d h)
 ·rw [j] at d;rw [B,Vu (A x d)] at J;exact i.bw x ((f x).2 (.inl d)) J
 ·rw [j] at d;rw [B,Vu (A x d)];exact i.bb x ((f x).2 (.inl d)) (fun k=>by
   rcases VK.1 k with k | k
   ·exact dS (by rw [<- k]; exact d)
   ·exact q k) V
 ·have Z:s∉v::X:=fun k=>H (D s k)
  rw [hnum,hlow,S s Z];exact m.old s H
 ·unfold tP ry at t hl;rw [hlow,hnum] at t;exact (hl t).elim
end
section
variable {own:XA->Bool} {succ:XA->List XA} {names:List XA}
def Edge (own:XA->Bool) (succ:XA->List XA) (a b:XA):Prop:=b∈succ a/\own b=true
theorem EG (hn:names.Nodup) (a:∀ s,own s=true->s∈names) {f:Nat} (b:∀ (v:XA) (G:List XA) (st:TS),dz names st->Inv (Edge own succ) G st->v∈names->st.num v=Option.none->Sx.pQ names st<=f->(∀ g,g∈G->rY (Edge own succ) g v)->nr (Edge own succ) G v st (cP own succ f v st))
  {v:XA} {G:List XA} {s0:TS} (o:Inv (Edge own succ) G s0) (h0:s0.num v=Option.none) (p:∀ g,g∈G->rY (Edge own succ) g v) :
  ∀ (l P:List XA) (st:TS),(∀ w,w∈l->w∈succ v)->dz names st->Sx.pQ names st<=f->Fq (Edge own succ) own G v P s0 st->Fq (Edge own succ) own G v (P++l) s0 (l.foldl (ew own (cP own succ f) v) st)
 | [],P,st,hl,g,c,m=>by simpa using m
 | w::l,P,st,hl,g,c,m=>by
  rw [V2,show P++w::l=(P++[w])++l from ah];have hok:=DY a (rI hn a succ f) (v:=v) (w:=w) g c;refine EG hn a b o h0 p l (P++[w]) _ (fun u c=>hl u (Vz _ c)) hok.1 (Wi hok.pQ c) ?_;unfold ew;split
  ·rename_i i;have j:Edge own succ v w:=⟨hl w ah,i⟩
   obtain ⟨q,r⟩:=m.self (w:=w) h0 (fun e=>by rw [e] at j; exact j);have g1:=g.self v w;have k:Sx.pQ names (fh v w st)<=f:=by unfold Sx.pQ; rw [(gS v w st).1]; exact c
   exact q.rest o h0 p j r (fun t=>g1.none t) (fun x n=>b w (v::G) _ g1 q.inv (a w i) x k n)
  ·rename_i i;refine ⟨m.inv,m.old,m.jd,m.new,m.num,m.cZ,m.low,fun u c d=>?_⟩;rcases VG.1 c with h | h
   ·exact m.lx u h d
   ·rw [VH.1 h] at d;exact (i d).elim
theorem zZ (hn:names.Nodup) (c:∀ s,own s=true->s∈names):∀ (f:Nat) (v:XA) (G:List XA) (st:TS),dz names st->Inv (Edge own succ) G st->v∈names->st.num v=Option.none->Sx.pQ names st<=f->(∀ g,g∈G->rY (Edge own succ) g v)->nr (Edge own succ) G v st (cP own succ f v st)
 | 0,v,G,st,g,i,hv,h0,e,d=>by
  have:=(g.open hn hv h0).2
  omega
 | f+1,v,G,st,g,i,hv,h0,e,d=>by
  obtain ⟨j,k⟩:=g.open hn hv h0;have m:=EG hn c (zZ hn c f) i h0 d (succ v) [] _ (fun _ h=>h) j ad (Fq.start i h0);rw [WM] at m;unfold cP;split
  ·rename_i hl;exact m.RT (fun a b=>Iff.rfl) i hl
  ·rename_i hl;exact m.Sy (fun a b=>Iff.rfl) i h0 d hl
def T8 (E:XA->XA->Prop):Inv E [] Bg:=by
 refine ⟨fun s n b=>(by cases b),fun x a=>by simp [Bg] at a,fun x=>by simp [Bg],fun g c=>by simp at c,fun x a=>(a rfl).elim,fun x a=>(a rfl).elim,fun x a=>by simp [Bg] at a,fun x a=>rfl,fun x a=>(a rfl).elim,fun x a=>by simp [Bg] at a,fun x a=>by simp [Bg] at a⟩
structure Sj (own:XA->Bool) (succ:XA->List XA) (names:List XA) (P:List XA) (st:TS):Prop where
 BS:dz names st
 inv:Inv (Edge own succ) [] st
 cZ:st.cZ=[]
 lx:∀ s,s∈P->st.num s≠Option.none
def Kr (hn:names.Nodup) (a:∀ s,own s=true->s∈names) {P:List XA} {st:TS} (t:Sj own succ names P st) {v:XA} (hv:v∈names):Sj own succ names (P++[v]) (vY own succ names.length st v):=by
 have d:Sx.pQ names st<=names.length:=WT _ _;unfold vY;split
 ·rename_i h;have h0:=t.BS.none h;have p:=zZ hn a names.length v [] st t.BS t.inv hv h0 d (fun g b=>by simp at b);have k:=rI hn a succ names.length v st t.BS hv h0 d;refine ⟨k.1,p.inv,?_,fun s c=>?_⟩
  ·cases f:(cP own succ names.length v st).cZ with
   | nil=>rfl
   | cons x l =>
    obtain ⟨g,b,_⟩:=p.inv.rg x (by rw [f]; simp);simp at b
  ·rcases VG.1 c with h | h
   ·rw [(p.old s (t.lx s h)).1]; exact t.lx s h
   ·rw [VH.1 h];obtain ⟨n,hn⟩:=p.num;rw [hn]; simp
 ·rename_i h;refine ⟨t.BS,t.inv,t.cZ,fun s c=>?_⟩;rcases VG.1 c with k | k
  ·exact t.lx s k
  ·rw [VH.1 k];intro e;exact h (by rw [e]; rfl)
def TB (names:List XA):Sj own succ names [] Bg:=⟨Th names,T8 _,rfl,fun s a=>by simp at a⟩
theorem BM (hn:names.Nodup) (a:∀ s,own s=true->s∈names):∀ (l P:List XA) (st:TS),(∀ s,s∈l->s∈names)->Sj own succ names P st->Sj own succ names (P++l) (l.foldl (vY own succ names.length) st)
 | [],P,st,hl,t=>by simpa using t
 | w::l,P,st,hl,t=>by
  rw [V2,show P++w::l=(P++[w])++l from ah];exact BM hn a l _ _ (fun s b=>hl s (Vz _ b)) (Kr hn a t (hl w ah))
def oM.PF {v:XA} (h:oM (Edge own succ) v):own v=true:=by
 obtain ⟨y,e,r⟩:=h;have c:∀ a b,rY (Edge own succ) a b->own a=true->own b=true:=by
  intro a b r
  induction r with
  | refl=>exact id
  | head e _ d=>exact fun _=>d e.2
 exact c _ _ r e.2
def Gu (hn:names.Nodup) (a:∀ s,own s=true->s∈names) (s:XA):((Fm own succ names).back s).getD false=true↔oM (Edge own succ) s:=by
 have t:Sj own succ names ([]++names) (Fm own succ names):=BM hn a names [] Bg (fun _ h=>h) (TB names);rw [WM] at t
 by_cases h:(Fm own succ names).num s=Option.none
 ·rw [t.inv.b0 s h];refine ⟨fun k=>(by cases k),fun k=>?_⟩;exact (t.lx s (a s k.PF) h).elim
 ·exact t.inv.bc s h (by rw [t.cZ]; simp)
end
theorem mQ {α:Type} [DecidableEq α]:∀ (l m:List α),l.Nodup->(∀ x,x∈l->x∈m)->l.length<=m.length
 | [],m,_,_=>ah
 | x::l,m,hn,a=>by
  obtain ⟨h1,h2⟩:=WN.1 hn;have hx:=a x ah
  have:=mQ l (m.erase x) h2 (fun y b=>(List.mem_erase_of_ne (fun e=>h1 (by rw [<- e]; exact b))).2 (a y (Vz _ b)))
  rw [List.length_erase_of_mem hx] at this;have hp:=List.length_pos_of_mem hx;simp only [List.length_cons];omega
def oO {of a:XA->Option cL} {x:cL} (h:∀ t,t∈x.ai->of t.1=a t.1):fg of x=fg a x:=by
 have h1:x.ai.flatMap (tp of)=x.ai.flatMap (tp a):=by
  have:∀ l:dt,(∀ t,t∈l->of t.1=a t.1)->l.flatMap (tp of)=l.flatMap (tp a):=by
   intro l
   induction l with
   | nil=>intro _; rfl
   | cons t l b =>
    intro hl;rw [Wh,Wh,b (fun u c=>hl u (Vz _ c))]
    congr 1
    unfold tp;rw [hl t ah]
  exact this _ h
 have h2:x.ai.foldl (iE of) x.num=x.ai.foldl (iE a) x.num:=by
  have:∀ (l:dt) (n:Nat),(∀ t,t∈l->of t.1=a t.1)->l.foldl (iE of) n=l.foldl (iE a) n:=by
   intro l
   induction l with
   | nil=>intro n _; rfl
   | cons t l b =>
    intro n hl;rw [V2,V2,b _ (fun u c=>hl u (Vz _ c))]
    congr 1
    unfold iE;rw [hl t ah]
  exact this _ _ h
 unfold fg;rw [h1,h2]
section
variable (own:XA->Bool) (di:XA->cL)
def cK:XA->List XA:=fun v=>(di v).ai.map (·.1)
def E6:Nat->XA->cL
 | 0,v=>di v
 | f+1,v=>fg (fun s=>if own s=true then some (E6 f s) else none) (di v)
end
def Hg (E:XA->XA->Prop):Nat->XA->Prop
 | 0,_=>False
 | k+1,v=>∀ y,E v y->Hg E k y
theorem MN {E:XA->XA->Prop} {Q:XA->Prop} (h:∀ v,(∀ y,E v y->Q y)->Q v):∀ k v,Hg E k v->Q v
 | 0,v,hv=>hv.elim
 | k+1,v,hv=>h v fun y a=>MN h k y (hv y a)
section
variable {own:XA->Bool} {di:XA->cL} {names:List XA}
def rk {v s:XA}:s∈cK di v↔∃ t,t∈(di v).ai/\t.1=s:=by simp [cK]
theorem xL:∀ (f g:Nat) (v:XA),Hg (Edge own (cK di)) f v->f<=g->E6 own di f v=E6 own di g v
 | 0,g,v,h,_=>h.elim
 | f+1,0,v,h,b=>ad
 | f+1,g+1,v,h,b=>by
  unfold E6;refine oO fun t c=>?_
  show (if own t.1=true then some (E6 own di f t.1) else none)=if own t.1=true then some (E6 own di g t.1) else none
  by_cases a:own t.1=true
  ·rw [VE a,VE a,xL f g t.1 (h t.1 ⟨rk.2 ⟨t,c,rfl⟩,a⟩) ad]
  ·rw [Vu a,Vu a]
def S9 {E:XA->XA->Prop} (k:∀ a b,E a b->b∈names) (hc:∀ v,¬ oM E v):∀ (f:Nat) (path:List XA) (v:XA),path.Nodup->(∀ p,p∈path->p∈names)->(∀ p,p∈path->∃ y,E p y/\rY E y v)->v∈names->names.length<=path.length+f->Hg E f v:=by
 have c:∀ (path:List XA) (v:XA),(∀ p,p∈path->∃ y,E p y/\rY E y v)->v∉path:=fun path v h hv=>hc v (h v hv)
 intro f
 induction f with
 | zero =>
  intro path v hn e d hv hl;have hvp:=c path v d
  have:=mQ (v::path) names (WN.2 ⟨hvp,hn⟩) (fun x g=>by
   rcases VK.1 g with h | h
   ·rw [h]; exact hv
   ·exact e x h)
  simp only [List.length_cons] at this;omega
 | succ f l =>
  intro path v hn e d hv hl y i;have hvp:=c path v d;refine l (v::path) y (WN.2 ⟨hvp,hn⟩) (fun x g=>?_) (fun p j=>?_) (k v y i) (by simp only [List.length_cons]; omega)
  ·rcases VK.1 g with h | h
   ·rw [h]; exact hv
   ·exact e x h
  ·rcases VK.1 j with h | h
   ·rw [h]; exact ⟨y,i,.refl y⟩
   ·obtain ⟨z,m,r⟩:=d p h;exact ⟨z,m,r.trans (.one i)⟩
def Oa (own:XA->Bool) (di:XA->cL) (names:List XA) (v:XA):cL:=E6 own di names.length v
def Is (own:XA->Bool) (di:XA->cL) (names:List XA) (s:XA):Option cL:=if own s=true then some (Oa own di names s) else none
def GA (c:∀ s,own s=true↔s∈names) (hc:∀ v,¬ oM (Edge own (cK di)) v) {v:XA} (hv:v∈names):Hg (Edge own (cK di)) names.length v :=
 S9 (fun a b e=>(c b).1 e.2) hc names.length [] v List.nodup_nil (fun p d=>by simp at d) (fun p d=>by simp at d) hv ah
def GU (a:∀ s,own s=true↔s∈names) (hc:∀ v,¬ oM (Edge own (cK di)) v) {v:XA} (hv:v∈names):Oa own di names v=fg (Is own di names) (di v):=by
 have hg:=GA a hc hv;unfold Oa;cases c:names.length with
 | zero=>rw [c] at hg; exact hg.elim
 | succ n =>
  rw [c] at hg;unfold E6;refine oO fun t d=>?_
  unfold Is Oa
  by_cases b:own t.1=true
  ·rw [VE b,VE b,c,xL n (n+1) t.1 (hg t.1 ⟨rk.2 ⟨t,d,rfl⟩,b⟩) ad]
  ·rw [Vu b,Vu b]
def OU (a:∀ s,own s=true↔s∈names) (hc:∀ v,¬ oM (Edge own (cK di)) v) {Q:XA->Prop} (h:∀ v,(∀ y,Edge own (cK di) v y->Q y)->Q v) {v:XA} (hv:v∈names):Q v :=
 MN h names.length v (GA a hc hv)
end
variable {f:XA × Nat}
def Ig (h:f∈NG V):∃ p,p∈V/\p.1=f.1:=by
 apply W6;intro k;have h0:cf V f.1=0:=yk fun p a e=>k ⟨p,a,e⟩
 have h1:=GF V f.1;rw [h0] at h1;have nf:=Gf V;generalize NG V=m at h h1 nf
 induction m with
 | nil=>simp at h
 | cons p m b =>
  rcases VK.1 h with h | h
  ·subst h;rw [nf.ma] at h1
   have:=(nf.2 f ah).1
   omega
  ·have hl:=nf.head f h;rw [kb,Vu (jP hl)] at h1;exact b h ad nf.tail
open Classical in
theorem vV (f:XA->Nat) (S:List XA) (b:S.Nodup):∀ l:dt,(∀ p,p∈l->p.1∈S)->fe f l=(S.map fun s=>cf l s*f s).sum
 | [],_=>by
  have:∀ S:List XA,(S.map fun s=>cf [] s*f s).sum=0:=by
   intro S
   induction S with
   | nil=>rfl
   | cons s S ih=>rw [VY,Wg,ih,QX]; omega
  rw [this]; rfl
 | p::l,h=>by
  have ih:=vV f S b l (fun q c=>h q (Vz _ c));have hp:=h p ah;rw [dq,ih];clear ih h;have a:∀ S:List XA,S.Nodup->(S.map fun s=>cf (p::l) s*f s).sum=(if p.1∈S then p.2*f p.1 else 0)+(S.map fun s=>cf l s*f s).sum:=by
   intro S
   induction S with
   | nil=>intro _; simp
   | cons s S ih =>
    intro hn;obtain ⟨h1,h2⟩:=WN.1 hn;rw [VY,Wg,VY,Wg,ih h2,kb]
    by_cases e:p.1=s
    ·subst e;rw [VE rfl,Vu h1,VE ah,Wx];omega
    ·have:(p.1∈s::S)↔p.1∈S:=by simp [e]
     rw [Vu e,V9];simp only [this];omega
  rw [a S b,VE hp]
variable {g:XA->Nat}
def OV {m:dt} (h:∀ s,cf V s % 4294967296=cf m s % 4294967296):fe g V % 4294967296=fe g m % 4294967296:=by
 obtain ⟨S,a,hl⟩:∃ S:List XA,S.Nodup/\∀ p,p∈V++m->p.1∈S:=by
  generalize V++m=w
  induction w with
  | nil=>exact ⟨[],List.nodup_nil,ah⟩
  | cons p w c =>
   obtain ⟨S,a,e⟩:=c
   by_cases b:p.1∈S
   ·refine ⟨S,a,fun q d=>?_⟩;rcases VK.1 d with h | h
    ·rw [h]; exact b
    ·exact e q h
   ·refine ⟨p.1::S,WN.2 ⟨b,a⟩,fun q d=>?_⟩;rcases VK.1 d with h | h
    ·rw [h]; simp
    ·exact Vz _ (e q h)
 rw [vV g S a V (fun p b=>hl p (V7 _ b)),vV g S a m (fun p b=>hl p (Wd _ b))];clear a hl
 induction S with
 | nil=>rfl
 | cons s S c =>
  rw [VY,Wg,VY,Wg,Xr,c,Xp,h s,<- Xp,<- Xr]
def LD (f:XA->Nat) (l:dt):fe f (NG l) % 4294967296=fe f l % 4294967296:=OV fun s=>by rw [GF,Nat.mod_mod]
def mw (f:XA->Nat) (x:cL):Nat:=(x.num+fe f x.ai) % 4294967296
def DG (f:XA->Nat) (l m:dt):fe f (l++m)=fe f l+fe f m:=by
 induction l with
 | nil=>simp [fe]
 | cons p l a=>rw [Xc,dq,dq,a]; omega
def FB (f:XA->Nat) (n:Nat) (l:dt):fe f (l.map fun u=>(u.1,n*u.2 % 4294967296)) % 4294967296=n*fe f l % 4294967296:=by
 induction l with
 | nil=>simp [fe]
 | cons p l d =>
  rw [VY,dq,dq,Xr,d,c,<- Xr,Nat.mul_add,Nat.mul_assoc]
where
 c {a b:Nat}:a % 4294967296*b % 4294967296=a*b % 4294967296:=L7 a b
def Kt {a:XA->Nat} {of:XA->Option cL} (h:∀ s,a s % 4294967296=(match of s with | none=>g s | some y=>mw g y) % 4294967296) (x:cL):mw g (fg of x)=mw a x:=by
 unfold mw fg;show ((x.ai.foldl (iE of) x.num)+fe g (NG (x.ai.flatMap (tp of)))) % 4294967296=(x.num+fe a x.ai) % 4294967296;rw [Xr,LD,<- Xr];generalize x.num=n;generalize x.ai=l
 induction l generalizing n with
 | nil=>simp [fe]
 | cons t l c =>
  rw [V2,Wh,DG,dq];have d:(l.foldl (iE of) (iE of n t)+(fe g (tp of t)+fe g (l.flatMap (tp of)))) % 4294967296=(fe g (tp of t)+(iE of n t+fe a l)) % 4294967296:=by
   rw [show l.foldl (iE of) (iE of n t)+(fe g (tp of t)+fe g (l.flatMap (tp of)))=fe g (tp of t)+(l.foldl (iE of) (iE of n t)+fe g (l.flatMap (tp of))) from ad,Xr,c,<- Xr]
  rw [d];have e:(fe g (tp of t)+iE of n t) % 4294967296=(n+t.2*a t.1) % 4294967296:=by
   have hg:=h t.1;unfold tp iE;cases b:of t.1 with
   | none =>
    rw [b] at hg;simp only at hg ⊢;rw [dq]
    have:t.2*g t.1 % 4294967296=t.2*a t.1 % 4294967296:=by rw [Xp,<- hg,<- Xp]
    simp only [fe,Nat.add_zero];omega
   | some y =>
    rw [b] at hg;simp only at hg ⊢;have h1:=FB g t.2 y.ai;have h2:t.2*a t.1 % 4294967296=t.2*(y.num+fe g y.ai) % 4294967296:=by
     unfold mw at hg;rw [Xp,hg,Nat.mod_mod,<- Xp]
    rw [Nat.mul_add] at h2;omega
  omega
variable {c:cL}
def ue {of:XA->Option cL} (h:f∈(fg of c).ai):(∃ p,p∈c.ai/\p.1=f.1/\of f.1=none)\/∃ p y u,p∈c.ai/\of p.1=some y/\u∈y.ai/\u.1=f.1:=by
 obtain ⟨p,g,e⟩:=Ig h;obtain ⟨q,d,a⟩:=List.mem_flatMap.1 g;unfold tp at a;cases b:of q.1 with
 | none =>
  rw [b] at a
  have:p=q:=by simpa using a
  subst this;exact .inl ⟨p,d,e,by rw [<- e]; exact b⟩
 | some y =>
  rw [b] at a;obtain ⟨u,i,rfl⟩:=Vy.1 a;exact .inr ⟨q,y,u,d,b,i,e⟩
def jq (of:XA->Option cL) (x:cL):Nf (fg of x).ai:=Gf _
def K3 {l:dt} (h:Nf l):NG l=l:=(Gf l).Rk h fun s=>by rw [GF,Nat.mod_mod]
def qy {of:XA->Option cL} (a:c.num<4294967296):(fg of c).num<4294967296:=by
 show c.ai.foldl (iE of) c.num<4294967296;generalize c.num=n at a;generalize c.ai=l
 induction l generalizing n with
 | nil=>exact a
 | cons t l b =>
  rw [V2];refine b _ ?_;unfold iE;split
  ·exact a
  ·exact Nat.mod_lt _ ad
section
variable {own:XA->Bool} {di:XA->cL} {names:List XA}
def A6 (c:∀ s,own s=true↔s∈names) (hc:∀ v,¬ oM (Edge own (cK di)) v) {v:XA} (hv:v∈names):∀ t,t∈(Oa own di names v).ai->own t.1=false/\∃ w u,w∈names/\u∈(di w).ai/\u.1=t.1:=by
 refine OU (Q:=fun v=>v∈names->∀ t,t∈(Oa own di names v).ai->own t.1=false/\∃ w u,w∈names/\u∈(di w).ai/\u.1=t.1) c hc ?_ hv hv;intro v h hv t g;rw [GU c hc hv] at g;rcases ue g with ⟨p,f,e,ho⟩ | ⟨p,y,u,f,ho,i,e⟩
 ·refine ⟨?_,v,p,hv,f,e⟩;unfold Is at ho;cases d:own t.1 with
  | false=>rfl
  | true=>rw [d] at ho; simp at ho
 ·unfold Is at ho
  by_cases d:own p.1=true
  ·rw [VE d] at ho;have ho:=VP ho;subst ho;obtain ⟨a,b⟩:=h p.1 ⟨rk.2 ⟨p,f,rfl⟩,d⟩ ((c _).1 d) u i;rw [<- e];exact ⟨a,b⟩
  ·rw [Vu d] at ho; cases ho
def RQ (a:∀ s,own s=true↔s∈names) (hc:∀ v,¬ oM (Edge own (cK di)) v) {v:XA} (hv:v∈names):Nf (Oa own di names v).ai:=by
 rw [GU a hc hv]; exact jq _ _
end
end Go.Sx
