/- Contracts over heaps, and plain laws, for the functions that the laws of chapter 9 call, part 2: Units held against units, over heaps. Lists of units over heaps: are there too m Condition: as each statement says. -/
import Derived.Test.YtlpcncdglfjnoaaGreatDoorP1
import Derived.Test.YtlpcncdglfjnoaaGreatDoorBtF
import Derived.Test.YtlpcncdglfjnoaaGreatDoorBtG
import Derived.Test.YtlpcncdglfjnoaaGreatDoorBobjShelf
import Derived.Test.YtlpcncdglfjnoaaGreatDoorBtH
import Derived.LaidEql
import Derived.Stop.Asserts
import Derived.RowKitTokens
import Derived.Lib.ItoaLen
import Derived.Shelf.Strings.OnBuilder
import Derived.Shelf.Strconv.Itoa1
import Derived.Shelf.Strconv.Itoa2
import Derived.Shelf.Strings.Cut
import Derived.Lib.ItoaMem
set_option linter.all false
set_option maxRecDepth 100000
set_option maxHeartbeats 4000000
namespace Go.Sx.Ob
open Go.Proofs
theorem PV {x y:cB} (r1:x.kind=y.kind) (r2:x.name=y.name) (r3:x.inst=y.inst) (r4:x.e=y.e) (r5:x.n=y.n):x=y:=by
 cases x;cases y
 simp_all
theorem rV {L:Lp} {K:Value->Hp->Prop} {h:Hp} {b:Bool} {t u:T} (hu:b=false->u L K h) (ht:b=true->t L K h):(cond b t u) L K h:=ak ht hu
def QW (l0 l1:Nat) (body:Int->T->T):T :=
 cond ((l0:Int) != (l1:Int))
 bt
 (T.loop [cd,aM] [.bool false,.int .i64 (0:Int)] <| fun (b2:Bool) (n3:Int) =>
 bq n3 l0
  (body n3 (T.again 0 [.bool b2,.int .i64 (bi (n3+(1:Int)))]))
  dH)
theorem V1 {α:Type} {xs ys:List α} (e:xs=ys) {i:Nat} (h1:i<xs.length) (h2:i<ys.length):xs[i]=ys[i]:=by
 subst e;rfl
theorem qx {h:Hp} {a:Addr}:∀ (vs:List Value) (o i:Nat),aG h a (o+i) vs->aG h (a.add o) i vs
 | [],_,_,_=>trivial
 | v::vs,o,i,hc=>⟨by rw [add_add]; exact hc.1,qx vs o (i+1) hc.2⟩
def RW {α:Type} (x y:α) (h:Hp) (w:Value) (h':Hp):Prop:=∃ b:Bool,w=.bool b/\(b=true↔x=y)/\Ext h h'
theorem LX {α:Type} {xs ys:List α} {l0 l1:Nat} (h0:l0=xs.length) (h1:l1=ys.length) (hm:xs.length<=2^60) {body:Int->T->T} {h:Hp}
  (hb:∀ (L:Lp) (h':Hp) (i:Nat) (hi:i<xs.length) (hj:i<ys.length) (k:T),Ext h h'->(xs[i]=ys[i]->∀ h'',Ext h h''->k L (RW xs ys h) h'')->(xs[i]≠ys[i]->∀ h'',Ext h h''->RW xs ys h (.bool false) h'')->body (i:Int) k L (RW xs ys h) h') :
  QW l0 l1 body [] (RW xs ys h) h:=by
 subst h0 h1;unfold QW bq bi bt dH aM cd;refine ak (fun q=>?_) (fun q=>?_)
 ·refine ⟨false,rfl,⟨fun h=>(by cases h),fun e=>?_⟩,Ch.refl _ _⟩;rw [e] at q;simp at q
 have q:xs.length=ys.length:=by
  have:(((xs.length:Nat):Int)==((ys.length:Nat):Int))=true:=by
   simpa using q
  exact BW this
 refine aR (cs:=[(false,[.bool]),(false,[.int .i64])]) (fun y m h'=>∃ i:Nat,y.1=false/\y.2.1=(i:Int)/\m=xs.length-i/\i<=xs.length/\Ext h h'/\∀ j,(hj:j<i)->(h1:j<xs.length)->(h2:j<ys.length)->xs[j]=ys[j]) (false,(0:Int),()) xs.length rfl
  ⟨0,rfl,rfl,rfl,ad,Ch.refl _ _,fun j hj=>ad⟩ ?_
 rintro ⟨b2,n3,⟨⟩⟩ m h1 ⟨i,hy1,hy2,rfl,hi,e1,hj⟩;simp only at hy1 hy2;subst hy1 hy2;refine an ?_;refine ak (fun r=>?_) (fun r=>?_)
 ·have r:=of_decide_eq_true r;refine hb _ h1 i ad ad _ e1 (fun he h2 e2=>?_) (fun hne h2 e2=>?_)
  ·rw [wrap_i64 ad ad];refine aF (cs:=[(false,[.bool]),(false,[.int .i64])]) (false,((i+1:Nat):Int),()) (xs.length-(i+1)) rfl ad rfl ?_;refine ⟨i+1,rfl,rfl,rfl,ad,e2,fun j hj' a b=>?_⟩
   by_cases hji:j<i
   ·exact hj j hji a b
   ·have:j=i:=ad
    subst this;exact he
  ·exact ⟨false,rfl,⟨fun h=>(by cases h),fun e=>absurd (V1 e ad ad) hne⟩,e2⟩
 ·have r:=of_decide_eq_false r;refine ⟨true,rfl,⟨fun _=>?_,fun _=>rfl⟩,e1⟩;exact List.ext_getElem q fun j a b=>hj j ad a b
theorem ph (s t:ByteArray):(ByteArray.toList s==ByteArray.toList t)=decide (s=t):=by
 rw [ByteArray.toList_eq,ByteArray.toList_eq]
 by_cases h:s=t
 ·rw [decide_eq_true h,h]; simp
 ·rw [decide_eq_false h]
  have:¬ s.data.toList=t.data.toList:=fun e=>h (C0 e)
  simpa using this
theorem EN (x y:bX):nz x y=true↔x=y:=by
 obtain ⟨a,b⟩:=x;obtain ⟨c,d⟩:=y;unfold nz
 simp
 exact and_comm
theorem Io (x y:Operand) (i j:Ins) (h:Hp) (K:Value->Hp->Prop) (hk:K (.bool (decide (i=j))) h) :
  aQ Tryz.prog (Sx.iF (BinOp.eql) 62 x y (.agg (nU i).toArray) (.agg (nU j).toArray)) h K:=by
 refine Ec Rl ax ax ax K ?_;have he:(AH Tryz.prog 62).all (FK (nU i).toArray (nU j).toArray)=(i.op==j.op && (i.a==j.a && (i.b==j.b && (i.n==j.n && (i.form==j.form && true))))):=by
  rw [<- Array.all_toList]
  kernel_rfl
 rw [he,Bool.and_true]
 have:(i.op==j.op && (i.a==j.a && (i.b==j.b && (i.n==j.n && i.form==j.form))))=decide (i=j):=by
  rcases i with ⟨a1,a2,a3,a4,a5⟩
  rcases j with ⟨c1,c2,c3,c4,c5⟩
  simp only [cT,Ins.mk.injEq]
  by_cases h1:a1=c1 <;> by_cases h2:a2=c2 <;> by_cases h3:a3=c3 <;> by_cases h4:a4=c4 <;> by_cases h5:a5=c5 <;> simp [h1,h2,h3,h4,h5]
 rw [this];exact hk
theorem DA {h:Hp} {p q:Option Addr} {l c m d:Nat} {x y:cB} (v:nB h p l x.e) (w:nB h q m y.e):HC Tryz.prog 51 #[qe p l c x,qe q m d y] h (RW x y h):=by
 refine aX (args:=[qe p l c x,qe q m d y]) mixed Tryz.func51 ax (ld x.kind x.name x.inst.op x.inst.a x.inst.b x.inst.n x.inst.form p l c x.e.num x.n y.kind y.name y.inst.op y.inst.a y.inst.b y.inst.n y.inst.form q m d y.e.num y.n) ?_;unfold gW aU dQ bt;refine bm ?_;intro h1 b1 e1 z1;refine bm ?_;intro h2 b2 e2 z2;have b1:bz h2 h.size 64 (encI p l c x):=b1.ao e2 aj;have b2:bz h2 h1.size 64 (encI q m d y):=b2;have e:=e1.trans e2;have no:∀ h',Ext h h'->x≠y->RW x y h (.bool false) h':=fun h' e hn=>⟨false,rfl,⟨fun h=>(by cases h),fun e=>absurd e hn⟩,e⟩
 simp only [aE];refine af b1 (x.kind,()) rfl ?_;refine an ?_;refine af b2 (y.kind,()) rfl ?_;refine an ?_;refine rV (fun r1=>?_) (fun r1=>?_)
 ·have r1:¬ x.kind=y.kind:=by simpa using r1
  exact no h2 e (fun e=>r1 (by rw [e]))
 have r1:x.kind=y.kind:=by simpa using r1
 refine af b1 (x.name,()) rfl ?_;refine an ?_;refine af b2 (y.name,()) rfl ?_;refine an ?_;rw [ph];refine rV (fun r2=>?_) (fun r2=>?_)
 ·have r2:¬ x.name=y.name:=by simpa using r2
  exact no h2 e (fun e=>r2 (by rw [e]))
 have r2:x.name=y.name:=by simpa using r2
 refine af b1 (x.inst.op,x.inst.a,x.inst.b,x.inst.n,x.inst.form,()) rfl ?_;refine an ?_;refine af b2 (y.inst.op,y.inst.a,y.inst.b,y.inst.n,y.inst.form,()) rfl ?_;refine an ?_;refine mU (fun K' hK=>Io _ _ x.inst y.inst h2 K' hK) ?_;refine rV (fun r3=>?_) (fun r3=>?_)
 ·have r3:¬ x.inst=y.inst:=by simpa using r3
  exact no h2 e (fun e=>r3 (by rw [e]))
 have r3:x.inst=y.inst:=by simpa using r3
 refine af b1 ((p,l,c),(x.e.num:Int),()) rfl ?_;refine an ?_;refine af b2 ((q,m,d),(y.e.num:Int),()) rfl ?_;refine an ?_;refine aH (IJ (c:=c) (d:=d) (v.ao e).vw (w.ao e).vw v.many) ?_;rintro _ h3 ⟨rfl,e3⟩;refine ⟨(nz x.e y.e,()),rfl,?_⟩;refine an ?_;refine rV (fun r4=>?_) (fun r4=>?_)
 ·refine no h3 (e.trans e3) (fun e=>?_);rw [(EN _ _).2 (by rw [e])] at r4;cases r4
 have r4:=(EN _ _).1 r4;refine af (b1.ao e3 aj) (x.n,()) rfl ?_;refine an ?_;refine af (b2.ao e3 aj) (y.n,()) rfl ?_;refine ⟨x.n==y.n,rfl,⟨fun r5=>?_,fun e=>by rw [e]; simp⟩,e.trans e3⟩;have r5:x.n=y.n:=by simpa using r5
 exact PV r1 r2 r3 r4 r5
theorem C5 {h:Hp} {p q:Option Addr} {l c m d:Nat} {xs ys:List cB} (v:CD h p l xs) (w:CD h q m ys):HC Tryz.prog 15 #[.slice p l c,.slice q m d] h (RW xs ys h):=by
 refine aX (args:=[.slice p l c,.slice q m d]) mixed Tryz.func15 ax (kf p l c q m d) ?_;refine LX (body:=fun n3 k=>T.need (((0:Int)<=n3)/\(n3<(l:Int))) <|
  T.bk p <| fun (a4:Addr) =>
  T.ah (a4.add ((Int.toNat n3)*10)) [.int .i64,.string,.int .i64,.int .i64,.int .i64,.int .i32,.int .i64,.slice 66,.int .u32,.int .i64] <| fun (n5:Int) (s6:ByteArray) (n7:Int) (n8:Int) (n9:Int) (n10:Int) (n11:Int) (p12:Option Addr) (l13:Nat) (l14:Nat) (n15:Int) (n16:Int) =>
  T.need (((0:Int)<=n3)/\(n3<(m:Int))) <|
  T.bk q <| fun (a17:Addr) =>
  T.ah (a17.add ((Int.toNat n3)*10)) [.int .i64,.string,.int .i64,.int .i64,.int .i64,.int .i32,.int .i64,.slice 66,.int .u32,.int .i64] <| fun (n18:Int) (s19:ByteArray) (n20:Int) (n21:Int) (n22:Int) (n23:Int) (n24:Int) (p25:Option Addr) (l26:Nat) (l27:Nat) (n28:Int) (n29:Int) =>
  T.call Tryz.prog 51 [.agg #[.int .i64 n5,.string s6,.int .i64 n7,.int .i64 n8,.int .i64 n9,.int .i32 n10,.int .i64 n11,.slice p12 l13 l14,.int .u32 n15,.int .i64 n16],.agg #[.int .i64 n18,.string s19,.int .i64 n20,.int .i64 n21,.int .i64 n22,.int .i32 n23,.int .i64 n24,.slice p25 l26 l27,.int .u32 n28,.int .i64 n29]] false [(false,[.bool])] <| fun (b30:Bool) =>
  cond (!b30)
  (T.ret (.bool false)) k) v.len w.len v.many ?_
 intro L h' i hi hj k e1 hk hn;have vl:=v.len;have wl:=w.len;obtain ⟨a,p1,l1,c1,rfl,hc,va⟩:=(v.ao e1).cells i hi;obtain ⟨b,q1,m1,d1,rfl,hd,wa⟩:=(w.ao e1).cells i hj;refine ay ⟨ad,ad⟩ ?_;refine av rfl ?_;refine az (xs[i].kind,xs[i].name,xs[i].inst.op,xs[i].inst.a,xs[i].inst.b,xs[i].inst.n,xs[i].inst.form,(p1,l1,c1),(xs[i].e.num:Int),xs[i].n,()) hc ?_;refine an ?_;refine ay ⟨ad,ad⟩ ?_;refine av rfl ?_;refine az (ys[i].kind,ys[i].name,ys[i].inst.op,ys[i].inst.a,ys[i].inst.b,ys[i].inst.n,ys[i].inst.form,(q1,m1,d1),(ys[i].e.num:Int),ys[i].n,()) hd ?_;refine an ?_;refine aH (DA (c:=c1) (d:=d1) va.lin wa.lin) ?_;rintro _ h2 ⟨b,rfl,hb,e2⟩;refine ⟨(b,()),rfl,?_⟩;refine an ?_;refine ak (fun u=>?_) (fun u=>?_)
 ·have u:b=false:=by simpa using u
  refine hn (fun e=>?_) h2 (e1.trans e2);rw [hb.2 e] at u;cases u
 ·have u:b=true:=by simpa using u
  exact hk (hb.1 u) h2 (e1.trans e2)
structure uz (h:Hp) (p:Option Addr) (l:Nat) (us:List bJ):Prop where
 len:l=us.length
 many:us.length<=2^60
 cells:∀ i,(hi:i<us.length)->∃ a sa sb sc sd,p=some a/\aG h (a.add (i*4)) 0 [cn.v sa,cn.v sb,cn.v sc,cn.v sd]/\nX h sa sb sc sd us[i]
theorem uz.ao {h h':Hp} {p:Option Addr} {l:Nat} {us:List bJ} (v:uz h p l us) (k:Ext h h'):uz h' p l us :=
 ⟨v.len,v.many,fun i hi=>by
  obtain ⟨a,sa,sb,sc,sd,ha,hc,hv⟩:=v.cells i hi;exact ⟨a,sa,sb,sc,sd,ha,aT k aj _ _ hc,hv.ao k⟩⟩
def AJ (u:bJ):Bool:=decide (600<u.text.length) || decide (300<u.data.length) || decide (100<u.aY.length)
def Eg (u:bJ):Nat:=u.text.length+u.data.length+u.aY.length
def fG (us:List bJ):Nat:=(us.map Eg).sum
def mQ (us:List bJ):Bool:=(us.take 65).any AJ || decide (900<fG (us.take 65))
theorem KD {α:Type} (f:α->Bool) (l:List α) {i n:Nat} (hi:i<l.length) (hn:i<n) (h:f l[i]=true):(l.take n).any f=true:=by
 rw [List.any_eq_true];exact ⟨l[i],List.mem_take_iff_getElem.2 ⟨i,ad,rfl⟩,h⟩
theorem FY (us:List bJ) {i:Nat} (hi:i<us.length):fG (us.take (i+1))=fG (us.take i)+Eg us[i]:=by
 unfold fG;rw [List.take_succ_eq_append_getElem hi,List.map_append,List.sum_append]
 simp
theorem MJ {h:Hp} {p:Option Addr} {l c:Nat} {us:List bJ} (v:uz h p l us):vM Tryz.prog 8 [.slice p l c] h (.bool (mQ us)):=by
 refine ee mixed Tryz.func8 ax (nh p l c) ?_;unfold jD aZ bg bq aK bi dH aM cd;have hl:=v.len;have hm:=v.many;refine aR (cs:=[(false,[.bool]),(false,[.int .i64]),(false,[.int .i64])]) (fun y m h'=>∃ i:Nat,y.1=false/\y.2.1=((fG (us.take i):Nat):Int)/\y.2.2.1=(i:Int)/\m=l-i/\i<=l/\i<=65/\h'=h/\(us.take i).any AJ=false/\fG (us.take i)<=i*1000) (false,(0:Int),(0:Int),()) l rfl
  ⟨0,rfl,rfl,rfl,rfl,ad,ad,rfl,rfl,by simp [fG]⟩ ?_
 rintro ⟨b1,n2,n3,⟨⟩⟩ m h1 ⟨i,hy1,hy2,hy3,rfl,hi,hi65,rfl,hb,hs⟩;simp only at hy1 hy2 hy3;subst hy1 hy2 hy3;refine an ?_;have fin:(l<=i\/65<=i)->(T.ret (.bool (decide (((fG (us.take i):Nat):Int)>(900:Int))))) [Jl (cs:=[(false,[.bool]),(false,[.int .i64]),(false,[.int .i64])]) (fun y m h'=>∃ i:Nat,y.1=false/\y.2.1=((fG (us.take i):Nat):Int)/\y.2.2.1=(i:Int)/\m=l-i/\i<=l/\i<=65/\h'=h1/\(us.take i).any AJ=false/\fG (us.take i)<=i*1000) (l-i)] (fun v' h'=>v'=.bool (mQ us)/\h'=h1) h1:=by
  intro hh
  have:us.take i=us.take 65:=by
   by_cases h65:i=65
   ·rw [h65]
   ·rw [List.take_of_length_le ad,List.take_of_length_le ad]
  refine ⟨?_,rfl⟩;unfold mQ;rw [<- this,hb,Bool.false_or]
  congr 1
  by_cases g:900<fG (us.take i)
  ·rw [decide_eq_true g,decide_eq_true ad]
  ·rw [decide_eq_false g,decide_eq_false ad]
 refine rV (fun r=>?_) (fun r=>?_)
 ·have r:=of_decide_eq_false r;exact fin ad
 have r:=of_decide_eq_true r;refine rV (fun w=>?_) (fun w=>?_)
 ·have w:=of_decide_eq_false w;exact fin ad
 have w:=of_decide_eq_true w;clear fin;have hiu:i<us.length:=ad
 obtain ⟨a,sa,sb,sc,sd,rfl,hc,hv⟩:=v.cells i hiu;have na:=hv.text.len;have nb:=hv.data.len;have nc:=hv.aY.len;have ca:aG h1 (a.add (i*4)) 0 [cn.v sa]:=⟨hc.1,trivial⟩
 have cb:aG h1 ((a.add (i*4)).add 1) 0 [cn.v sb]:=qx _ 1 0 ⟨hc.2.1,trivial⟩;have cc:aG h1 ((a.add (i*4)).add 2) 0 [cn.v sc]:=qx _ 2 0 ⟨hc.2.2.1,trivial⟩;have pH:AJ us[i]=true->(T.ret (.bool true)) [Jl (cs:=[(false,[.bool]),(false,[.int .i64]),(false,[.int .i64])]) (fun y m h'=>∃ i:Nat,y.1=false/\y.2.1=((fG (us.take i):Nat):Int)/\y.2.2.1=(i:Int)/\m=l-i/\i<=l/\i<=65/\h'=h1/\(us.take i).any AJ=false/\fG (us.take i)<=i*1000) (l-i)] (fun v' h'=>v'=.bool (mQ us)/\h'=h1) h1:=by
  intro hg;refine ⟨?_,rfl⟩;unfold mQ;rw [KD AJ us hiu ad hg] <;> rfl
 refine ay ⟨ad,ad⟩ (av rfl ?_);refine az ((sa.p,sa.l,sa.c),()) ca ?_;refine an ?_;refine ak (fun g=>?_) (fun g1=>?_)
 ·have g:=of_decide_eq_true g;refine pH ?_;unfold AJ;rw [decide_eq_true ad] <;> rfl
 have g1:=of_decide_eq_false g1;refine ay ⟨ad,ad⟩ (av rfl ?_);refine az ((sb.p,sb.l,sb.c),()) cb ?_;refine an ?_;refine ak (fun g=>?_) (fun g2=>?_)
 ·have g:=of_decide_eq_true g;refine pH ?_;unfold AJ;rw [decide_eq_true (show 300<us[i].data.length from ad)]
  simp
 have g2:=of_decide_eq_false g2;refine ay ⟨ad,ad⟩ (av rfl ?_);refine az ((sc.p,sc.l,sc.c),()) cc ?_;refine an ?_;refine ak (fun g=>?_) (fun g3=>?_)
 ·have g:=of_decide_eq_true g;refine pH ?_;unfold AJ;rw [decide_eq_true (show 100<us[i].aY.length from ad)]
  simp
 have g3:=of_decide_eq_false g3;refine ay ⟨ad,ad⟩ (av rfl ?_);refine az ((sa.p,sa.l,sa.c),()) ca ?_;refine an ?_;refine ay ⟨ad,ad⟩ (av rfl ?_);refine az ((sb.p,sb.l,sb.c),()) cb ?_;refine an ?_;refine ay ⟨ad,ad⟩ (av rfl ?_);refine az ((sc.p,sc.l,sc.c),()) cc ?_;refine an ?_;rw [wrap_i64 (x:=((fG (us.take i):Nat):Int)+(sa.l:Int)) ad ad,wrap_i64 (x:=((fG (us.take i):Nat):Int)+(sa.l:Int)+(sb.l:Int)) ad ad,wrap_i64 (x:=((fG (us.take i):Nat):Int)+(sa.l:Int)+(sb.l:Int)+(sc.l:Int)) ad ad,wrap_i64 (x:=(i:Int)+1) ad ad];have hst:=FY us hiu;have hsz:Eg us[i]=sa.l+sb.l+sc.l:=by unfold Eg; omega
 refine aF (cs:=[(false,[.bool]),(false,[.int .i64]),(false,[.int .i64])]) (false,((fG (us.take (i+1)):Nat):Int),((i+1:Nat):Int),()) (l-(i+1)) rfl ad ?_ ?_
 ·show [Value.bool false,Value.int .i64 (((fG (us.take i):Nat):Int)+(sa.l:Int)+(sb.l:Int)+(sc.l:Int)),Value.int .i64 ((i:Int)+1)]=[Value.bool false,Value.int .i64 ((fG (us.take (i+1)):Nat):Int),Value.int .i64 ((i+1:Nat):Int)];rw [hst,hsz]
  congr 3
  omega
 ·refine ⟨i+1,rfl,rfl,rfl,rfl,ad,ad,rfl,?_,ad⟩;rw [List.take_succ_eq_append_getElem hiu,List.any_append,hb,Bool.false_or];unfold AJ;simp only [List.any_cons,List.any_nil,Bool.or_false,Bool.or_eq_false_iff,decide_eq_false_iff_not];omega
def P8:Array (Nat × Value):=#[(0,.agg #[.string ⟨#[110,111,112]⟩,.int .u8 (0:Int),.int .i64 (1:Int)]),(1,.agg #[.string ⟨#[104,97,108,116]⟩,.int .u8 (1:Int),.int .i64 (1:Int)]),(2,.agg #[.string ⟨#[114,101,116]⟩,.int .u8 (2:Int),.int .i64 (1:Int)]),(3,.agg #[.string ⟨#[112,114,105,110,116]⟩,.int .u8 (3:Int),.int .i64 (2:Int)]),(4,.agg #[.string ⟨#[105,110]⟩,.int .u8 (4:Int),.int .i64 (2:Int)]),(5,.agg #[.string ⟨#[112,117,115,104]⟩,.int .u8 (5:Int),.int .i64 (2:Int)]),(6,.agg #[.string ⟨#[112,111,112]⟩,.int .u8 (6:Int),.int .i64 (2:Int)]),(7,.agg #[.string ⟨#[106,114]⟩,.int .u8 (7:Int),.int .i64 (2:Int)]),(8,.agg #[.string ⟨#[110,101,103]⟩,.int .u8 (8:Int),.int .i64 (2:Int)]),(9,.agg #[.string ⟨#[110,111,116]⟩,.int .u8 (9:Int),.int .i64 (2:Int)]),(10,.agg #[.string ⟨#[122,116,117,114,110]⟩,.int .u8 (10:Int),.int .i64 (3:Int)]),(11,.agg #[.string ⟨#[122,99,111,110,106]⟩,.int .u8 (11:Int),.int .i64 (3:Int)]),(12,.agg #[.string ⟨#[109,111,118]⟩,.int .u8 (16:Int),.int .i64 (4:Int)]),(13,.agg #[.string ⟨#[97,100,100]⟩,.int .u8 (17:Int),.int .i64 (4:Int)]),(14,.agg #[.string ⟨#[115,117,98]⟩,.int .u8 (18:Int),.int .i64 (4:Int)]),(15,.agg #[.string ⟨#[109,117,108]⟩,.int .u8 (19:Int),.int .i64 (4:Int)]),(16,.agg #[.string ⟨#[100,105,118]⟩,.int .u8 (20:Int),.int .i64 (4:Int)]),(17,.agg #[.string ⟨#[97,110,100]⟩,.int .u8 (21:Int),.int .i64 (4:Int)]),(18,.agg #[.string ⟨#[111,114]⟩,.int .u8 (22:Int),.int .i64 (4:Int)]),(19,.agg #[.string ⟨#[120,111,114]⟩,.int .u8 (23:Int),.int .i64 (4:Int)]),(20,.agg #[.string ⟨#[115,104,108]⟩,.int .u8 (24:Int),.int .i64 (4:Int)]),(21,.agg #[.string ⟨#[115,104,114]⟩,.int .u8 (25:Int),.int .i64 (4:Int)]),(22,.agg #[.string ⟨#[108,116]⟩,.int .u8 (26:Int),.int .i64 (4:Int)]),(23,.agg #[.string ⟨#[101,113]⟩,.int .u8 (27:Int),.int .i64 (4:Int)]),(24,.agg #[.string ⟨#[108,100,98]⟩,.int .u8 (28:Int),.int .i64 (4:Int)]),(25,.agg #[.string ⟨#[108,100,119]⟩,.int .u8 (29:Int),.int .i64 (4:Int)]),(26,.agg #[.string ⟨#[108,100,109]⟩,.int .u8 (30:Int),.int .i64 (4:Int)]),(27,.agg #[.string ⟨#[115,116,109]⟩,.int .u8 (31:Int),.int .i64 (4:Int)]),(28,.agg #[.string ⟨#[122,109,111,118]⟩,.int .u8 (32:Int),.int .i64 (5:Int)]),(29,.agg #[.string ⟨#[122,97,100,100]⟩,.int .u8 (33:Int),.int .i64 (5:Int)]),(30,.agg #[.string ⟨#[122,115,117,98]⟩,.int .u8 (34:Int),.int .i64 (5:Int)]),(31,.agg #[.string ⟨#[122,109,117,108]⟩,.int .u8 (35:Int),.int .i64 (5:Int)]),(32,.agg #[.string ⟨#[122,114,101]⟩,.int .u8 (36:Int),.int .i64 (6:Int)]),(33,.agg #[.string ⟨#[122,105,109]⟩,.int .u8 (37:Int),.int .i64 (6:Int)]),(34,.agg #[.string ⟨#[122,115,101,116]⟩,.int .u8 (38:Int),.int .i64 (7:Int)]),(35,.agg #[.string ⟨#[108,105,115]⟩,.int .u8 (48:Int),.int .i64 (8:Int)]),(36,.agg #[.string ⟨#[116,114,97,112]⟩,.int .u8 (49:Int),.int .i64 (9:Int)]),(37,.agg #[.string ⟨#[108,105]⟩,.int .u8 (50:Int),.int .i64 (10:Int)]),(38,.agg #[.string ⟨#[108,100,112]⟩,.int .u8 (51:Int),.int .i64 (11:Int)]),(39,.agg #[.string ⟨#[106,109,112]⟩,.int .u8 (64:Int),.int .i64 (12:Int)]),(40,.agg #[.string ⟨#[99,97,108,108]⟩,.int .u8 (67:Int),.int .i64 (12:Int)]),(41,.agg #[.string ⟨#[106,122]⟩,.int .u8 (70:Int),.int .i64 (13:Int)]),(42,.agg #[.string ⟨#[106,110,122]⟩,.int .u8 (73:Int),.int .i64 (13:Int)])]
def um (k:Nat):ByteArray:=match P8[k]? with | some (_,.agg #[.string s,_,_])=>s | _=>⟨#[]⟩
def uN (k:Nat):Int:=match P8[k]? with | some (_,.agg #[_,.int _ b,_])=>b | _=>0
theorem VC:Tryz.prog.underlying 186=some (.slice 188):=ax
theorem WH:(Tryz.prog.info? 188).map (fun i=>(i.zero,i.size,i.bytes))=some (some (.agg #[.string ⟨#[]⟩,.int .u8 0,.int .i64 0]),3,32):=ax
theorem PO:Instr.fill (fun j=>some (j*3,3)) ((Array.range (43*3)).map ((Value.agg #[.string ⟨#[]⟩,.int .u8 0,.int .i64 0]).cells[· % (Value.agg #[.string ⟨#[]⟩,.int .u8 0,.int .i64 0]).cells.size]!)) P8.toList=some (lE um uN).toArray:=ax
theorem R7 (h:Hp):HC Tryz.prog 117 #[] h fun v h'=>v=.slice (some ⟨h.size,0,none⟩) 43 43/\bz h' h.size 188 (lE um uN)/\Ext h h':=by
 refine aX (args:=[]) mixed Tryz.func117 ax pS ?_;show (T.dY Tryz.prog (Instr.buildSlice 186 43 P8) false [(false,[.slice 0])] <| fun (p0:Option Addr) (l1:Nat) (l2:Nat)=>T.ret (.slice p0 l1 l2)) [] _ h;refine ml VC WH ad ad PO ?_;intro h1 b1 e1 z1;exact ⟨rfl,b1,e1⟩
theorem JN {nm:Nat->ByteArray} {by_:Nat->Int} {k:Nat} (hk:k<43):(lE nm by_)[k*3+2]?=some (.int .i64 (nu.getD k 0:Nat)):=by
 unfold lE;rw [ue _ 3 aj _ _ _ ad];simp [hk]
theorem qU (h:Hp) (op:Int) (ho:Sm op):HC Tryz.prog 96 #[.int .i64 op] h fun w h'=>w=.int .i64 (cX op:Nat)/\Ext h h':=by
 refine aX (args:=[.int .i64 op]) mixed Tryz.func96 ax (nS op) ?_;unfold jL bG bi;refine aH (R7 h) ?_;rintro _ h1 ⟨rfl,b1,e1⟩;refine ⟨((some ⟨h.size,0,none⟩,43,43),()),rfl,?_⟩;refine an ?_;have z0:op<1\/43<op->cX op=0:=by
  intro hh
  by_cases h0:cX op=0
  ·exact h0
  ·have:=FV op h0
   omega
 refine ak (fun q=>?_) (fun q=>?_)
 ·have q:=of_decide_eq_true q;rw [z0 (.inl q)];exact ⟨rfl,e1⟩
 have q:=of_decide_eq_false q;refine ak (fun r=>?_) (fun r=>?_)
 ·have r:op>((43:Nat):Int):=of_decide_eq_true r;rw [z0 (.inr ad)];exact ⟨rfl,e1⟩
 have r:¬ op>((43:Nat):Int):=of_decide_eq_false r;obtain ⟨k,hk⟩:∃ k:Nat,op=(k:Int)+1:=⟨(op-1).toNat,ad⟩
 rw [wrap_i64 ad ad,show op-1=(k:Int) from ad];have hk43:k<43:=ad
 refine ay ⟨ad,ad⟩ ?_;refine av rfl ?_;rw [show Int.toNat (k:Int)=k from rfl,aE,aE];have hs:cX op=nu.getD k 0:=by
  unfold cX;rw [if_neg ad,show (op-1).toNat=k from ad]
 refine af b1 (((nu.getD k 0:Nat):Int),()) ?_ ?_
 ·show List.take 1 (List.drop (0+k*3+2) (lE um uN))=[.int .i64 ((nu.getD k 0:Nat):Int)]
  have:=JN (nm:=um) (by_:=uN) hk43
  rw [Nat.zero_add];obtain ⟨hlt,hv⟩:=List.getElem?_eq_some_iff.1 this;rw [List.drop_eq_getElem_cons hlt,List.take_succ_cons,List.take_zero,hv]
 ·rw [hs];exact ⟨rfl,e1⟩
theorem A' (h:Hp) (op:Int) (ho:Sm op):HC Tryz.prog 71 #[.int .i64 op] h fun w h'=>w=.bool (rC op)/\Ext h h':=by
 refine aX (args:=[.int .i64 op]) mixed Tryz.func71 ax (om op) ?_;unfold js cD dH;have hc:=gS op;refine aH (qU h op ho) ?_;rintro _ h1 ⟨rfl,e1⟩;refine ⟨(((cX op:Nat):Int),()),rfl,?_⟩;refine an ?_;refine ak (fun q=>?_) (fun q=>?_)
 ·have q:cX op=12:=BW q;exact ⟨by unfold rC; rw [q]; rfl,e1⟩
 have q:¬ cX op=12:=EW q;refine aH (qU h1 op ho) ?_;rintro _ h2 ⟨rfl,e2⟩;refine ⟨(((cX op:Nat):Int),()),rfl,?_⟩;refine ⟨?_,e1.trans e2⟩
 congr 1
 unfold rC
 by_cases g:cX op=13
 ·rw [g]; rfl
 ·rw [decide_eq_false ad];exact Wj (c:=13) g
theorem Iz (h:Hp) (op:Int) (ho:Sm op):HC Tryz.prog 73 #[.int .i64 op] h fun w h'=>w=.bool (Fw op)/\Ext h h':=by
 refine aX (args:=[.int .i64 op]) mixed Tryz.func73 ax (pu op) ?_;unfold jX cD dH;have hc:=gS op;refine aH (qU h op ho) ?_;rintro _ h1 ⟨rfl,e1⟩;refine ⟨(((cX op:Nat):Int),()),rfl,?_⟩;refine an ?_;refine ak (fun q=>?_) (fun q1=>?_)
 ·have q:cX op=10:=BW q;exact ⟨by unfold Fw; rw [q]; rfl,e1⟩
 have q1:¬ cX op=10:=EW q1;refine ak (fun q=>?_) (fun q2=>?_)
 ·have q:cX op=11:=BW q;exact ⟨by unfold Fw; rw [q]; rfl,e1⟩
 have q2:¬ cX op=11:=EW q2;refine ak (fun q=>?_) (fun q3=>?_)
 ·have q:cX op=12:=BW q;exact ⟨by unfold Fw; rw [q]; rfl,e1⟩
 have q3:¬ cX op=12:=EW q3;refine ⟨?_,e1⟩
 congr 1
 unfold Fw
 by_cases g:cX op=13
 ·rw [g]; rfl
 ·rw [decide_eq_false ad];exact Wj (c:=13) g
theorem Qh (h:Hp) (n w:Int):vM Tryz.prog 98 [.int .i32 n,.int .i64 w] h (.bool ((decide (w=1) || decide (w=2) || decide (w=4)) && lu n w)):=by
 refine ee mixed Tryz.func98 ax (oK n w) ?_;unfold kb lu bt dH;refine ak (fun q=>?_) (fun q1=>?_)
 ·have q:w=1:=by simpa using q
  rw [if_pos q,q];refine ak (fun r=>⟨?_,rfl⟩) (fun r=>⟨?_,rfl⟩)
  ·have r:=of_decide_eq_true r;rw [decide_eq_true (show -128<=n from r)]
   simp
  ·have r:=of_decide_eq_false r;rw [decide_eq_false (show ¬ -128<=n from r)]
   simp
 have q1:¬ w=1:=by simpa using q1
 rw [if_neg q1];refine ak (fun q=>?_) (fun q2=>?_)
 ·have q:w=2:=by simpa using q
  rw [if_pos q,q];refine ak (fun r=>⟨?_,rfl⟩) (fun r=>⟨?_,rfl⟩)
  ·have r:=of_decide_eq_true r;rw [decide_eq_true (show -32768<=n from r)]
   simp
  ·have r:=of_decide_eq_false r;rw [decide_eq_false (show ¬ -32768<=n from r)]
   simp
 have q2:¬ w=2:=by simpa using q2
 rw [if_neg q2];refine ak (fun q=>?_) (fun q3=>?_)
 ·have q:w=4:=by simpa using q
  rw [q];exact ⟨rfl,rfl⟩
 ·have q3:¬ w=4:=by simpa using q3
  rw [decide_eq_false q1,decide_eq_false q2,decide_eq_false q3];exact ⟨rfl,rfl⟩
def aA (s:Nat):Nat:=if s=2\/s=8\/s=10\/s=11\/s=13\/s=4\/s=6 then 8 else if s=3\/s=5\/s=7 then 4 else 0
def bB (s:Nat):Nat:=if s=4\/s=7 then 8 else if s=5\/s=6 then 4 else 0
theorem KO {s:Nat} (hs:1<=s/\s<=13) (a b n:Int):cC s a b n=true↔(0<=a/\0<=b/\(a<(aA s:Int)\/(aA s=0/\a=0))/\(b<(bB s:Int)\/(bB s=0/\b=0))/\(s=7->0<=n/\n<=7)):=by
 have:s=1\/s=2\/s=3\/s=4\/s=5\/s=6\/s=7\/s=8\/s=9\/s=10\/s=11\/s=12\/s=13:=ad
 unfold cC vN aA bB;rcases this with rfl | rfl | rfl | rfl | rfl | rfl | rfl | rfl | rfl | rfl | rfl | rfl | rfl <;> simp <;> omega
theorem IP (h:Hp) (op a b n form:Int) (ho:Sm op) (hs:cX op≠0):HC Tryz.prog 97 #[cZ op a b n form] h fun w h'=>w=.bool (cC (cX op) a b n)/\Ext h h':=by
 refine aX (args:=[cZ op a b n form]) mixed Tryz.func97 ax (kg op a b n form) ?_;unfold gb cD bt dH aM;have hc:1<=cX op/\cX op<=13:=by have:=gS op; omega
 refine bm ?_;intro h1 b1 e1 z1;refine af b1 (op,()) rfl ?_;refine an ?_;refine aH (qU h1 op ho) ?_;rintro _ h2 ⟨rfl,e2⟩;refine ⟨(((cX op:Nat):Int),()),rfl,?_⟩;refine an ?_;have b2:=b1.ao e2 aj;have e02:=e1.trans e2;have hiff:=KO hc a b n;generalize cX op=s at *;generalize cC s a b n=R at *;refine ik (cs:=[(false,[.int .i64]),(false,[.int .i64])]) (fun y h'=>y=(((aA s:Nat):Int),((bB s:Nat):Int),())/\h2=h') ?_ ?_
 ·have:s=1\/s=2\/s=3\/s=4\/s=5\/s=6\/s=7\/s=8\/s=9\/s=10\/s=11\/s=12\/s=13:=ad
  rcases this with rfl | rfl | rfl | rfl | rfl | rfl | rfl | rfl | rfl | rfl | rfl | rfl | rfl
  all_goals (repeat (first | refine bT rfl ?_ | refine bZ rfl ?_))
  all_goals exact dF (cs:=[(false,[.int .i64]),(false,[.int .i64])]) (((aA _:Nat):Int),((bB _:Nat):Int),()) rfl rfl ⟨rfl,rfl⟩
 rintro ⟨A,B,⟨⟩⟩ _ ⟨hy,rfl⟩;cases hy;refine an ?_;simp only [aE];have fin:∀ b:Bool,(b=true↔R=true)->(T.ret (.bool b)) [] (fun w h'=>w=.bool R/\Ext h h') h2:=by
  intro b hb;refine ⟨?_,e02⟩;cases b <;> cases R <;> simp_all
 repeat' (first
  | (refine af b2 (a,()) rfl ?_; refine an ?_)
  | (refine af b2 (b,()) rfl ?_; refine an ?_)
  | (refine af b2 (n,()) rfl ?_; refine an ?_)
  | refine fin _ ?_
  | refine ak (fun q=>?_) (fun q=>?_))
 all_goals (rw [hiff]; simp only [decide_eq_true_eq,decide_eq_false_iff_not,bne_iff_ne,ne_eq,bne_eq_false_iff_eq,Bool.false_eq_true,false_iff,true_iff] at *; omega)
def tX (n w:Int):Bool:=(decide (w=1) || decide (w=2) || decide (w=4)) && lu n w
def Er (n w:Int):Prop:=(w=1/\-128<=n/\n<=127)\/(w=2/\-32768<=n/\n<=32767)\/w=4
theorem Ij (n w:Int):tX n w=true↔Er n w:=by
 unfold tX lu Er
 by_cases h1:w=1
 ·subst h1; simp
 ·by_cases h2:w=2
  ·subst h2; simp
  ·by_cases h4:w=4
   ·subst h4; simp
   ·simp [h1,h2,h4]
theorem TB (n w:Int):tX n w=false↔¬ Er n w:=by
 rw [<- Ij]
 simp
theorem bj {i:Ins} (h0:cX i.op≠0) (hR:cC (cX i.op) i.a i.b i.n=true) (P:Prop) (hP:P↔((cX i.op=12\/cX i.op=13->Er i.n i.form)/\(cX i.op≠12/\cX i.op≠13->i.form=0)/\(cX i.op=8->-128<=i.n/\i.n<=127)/\(cX i.op=9->0<=i.n/\i.n<=255)/\(cX i.op=11->0<=i.n/\i.n<=4095) /\
  (cX i.op<7->i.n=0))):(P->gd i=0)/\(¬ P->gd i=13):=by
 obtain ⟨op,a,b,n,form⟩:=i;simp only at *;have hc:=gS op;have key:(!rC op && decide (form≠0) || !nR (cX op) n form)=true↔¬ P:=by
  rw [hP];unfold rC nR lu Er
  have:cX op=1\/cX op=2\/cX op=3\/cX op=4\/cX op=5\/cX op=6\/cX op=7\/cX op=8\/cX op=9\/cX op=10\/cX op=11\/cX op=12\/cX op=13:=ad
  rcases this with h | h | h | h | h | h | h | h | h | h | h | h | h <;> rw [h]
  all_goals (
   by_cases f1:form=1
   ·subst f1; simp; try omega
   ·by_cases f2:form=2
    ·subst f2; simp; try omega
    ·by_cases f4:form=4
     ·subst f4; simp; try omega
     ·by_cases f0:form=0
      ·subst f0; simp; try omega
      ·simp [f1,f2,f4,f0])
 unfold gd;simp only;rw [if_neg h0,hR,if_neg aj];refine ⟨fun hp=>?_,fun hp=>?_⟩
 ·rw [if_neg (fun e=>key.1 e hp)]
 ·rw [if_pos (key.2 hp)]
theorem I6 (h:Hp) (op a b n form:Int) (ho:Sm op):HC Tryz.prog 72 #[cZ op a b n form] h fun w h'=>w=.int .i64 (gd ⟨op,a,b,n,form⟩)/\Ext h h':=by
 refine aX (args:=[cZ op a b n form]) mixed Tryz.func72 ax (nG op a b n form) ?_;unfold jJ aU cD;refine bm ?_;intro h1 b1 e1 z1;refine af b1 (op,()) rfl ?_;refine an ?_;refine aH (qU h1 op ho) ?_;rintro _ h2 ⟨rfl,e2⟩;refine ⟨(((cX op:Nat):Int),()),rfl,?_⟩;refine an ?_;have b2:=b1.ao e2 aj;have e02:=e1.trans e2;refine ak (fun q=>?_) (fun q=>?_)
 ·have q:cX op=0:=BW q;exact ⟨by unfold gd; simp only; rw [if_pos q],e02⟩
 have q:¬ cX op=0:=EW q;refine af b2 (op,a,b,n,form,()) rfl ?_;refine an ?_;refine gw (IP h2 op a b n form ho q) ?_;intro h3 e3;have b3:=b2.ao e3 aj;have e03:=e02.trans e3;refine ak (fun r=>?_) (fun r=>?_)
 ·have r:cC (cX op) a b n=false:=by simpa using r
  exact ⟨by unfold gd; simp only; rw [if_neg q,r,if_pos rfl],e03⟩
 have r:cC (cX op) a b n=true:=by simpa using r
 have hc:=gS op;obtain ⟨k0,k13⟩:=bj (i:=⟨op,a,b,n,form⟩) q r _ Iff.rfl;simp only at k0 k13;generalize gd ⟨op,a,b,n,form⟩=C at *;generalize cX op=s at *;clear r;have f0:((s=12\/s=13->Er n form)/\(s≠12/\s≠13->form=0)/\(s=8->-128<=n/\n<=127)/\(s=9->0<=n/\n<=255)/\(s=11->0<=n/\n<=4095)/\(s<7->n=0))->(T.ret (.int .i64 (0:Int))) [] (fun w h'=>w=.int .i64 C/\Ext h h') h3:=fun hp=>⟨by rw [k0 hp],e03⟩
 have f13:¬ ((s=12\/s=13->Er n form)/\(s≠12/\s≠13->form=0)/\(s=8->-128<=n/\n<=127)/\(s=9->0<=n/\n<=255)/\(s=11->0<=n/\n<=4095)/\(s<7->n=0))->(T.ret (.int .i64 (13:Int))) [] (fun w h'=>w=.int .i64 C/\Ext h h') h3:=fun hp=>⟨by rw [k13 hp],e03⟩
 clear k0 k13;simp only [aE]
 repeat' (first
  | (refine af b3 (n,()) rfl ?_; refine an ?_)
  | (refine af b3 (form,()) rfl ?_; refine an ?_)
  | refine f0 ?_
  | refine f13 ?_
  | refine aI (b:=tX n form) (Qh h3 n form) ?_
  | refine ak (fun q=>?_) (fun q=>?_))
 all_goals (
  clear f0 f13;simp only [decide_eq_true_eq,decide_eq_false_iff_not,bne_iff_ne,ne_eq,bne_eq_false_iff_eq,beq_iff_eq,beq_eq_false_iff_ne,Bool.not_eq_true',Bool.not_eq_false',Ij,TB,Er] at *;omega)
def mY (x:cB) (b1 b2 b3 b4:Bool):Bool:=(!b1 || z1 x) && ((!b2 || z2 x) && ((!b3 || z3 x) && (!b4 || z4 x)))
theorem Tk (s:ByteArray):(ByteArray.toList s==([]:List UInt8))=decide (s=dt):=by
 have:=ph s dt
 rw [show ByteArray.toList dt=[] by rw [ByteArray.toList_eq]; rfl] at this;exact this
theorem Pm (n:Nat) (m:Nat) (i:Ins) (h:Hp) (K:Value->Hp->Prop) (hk:K (.bool (decide (i=Pw))) h) :
  aQ Tryz.prog (Sx.iF (BinOp.eql) 62 (Operand.tmp n) (Operand.tmp m) (.agg #[.int .i64 i.op,.int .i64 i.a,.int .i64 i.b,.int .i32 i.n,.int .i64 i.form]) (.agg #[.int .i64 (0:Int),.int .i64 (0:Int),.int .i64 (0:Int),.int .i32 (0:Int),.int .i64 (0:Int)])) h K :=
 Io _ _ i Pw h K hk
theorem PQ {h:Hp} {x:cB} {p:Option Addr} {l c:Nat} (v:gn h p l x.e.ai) (b1 b2 b3 b4:Bool) :
  HC Tryz.prog 70 #[qe p l c x,.bool b1,.bool b2,.bool b3,.bool b4] h fun w h'=>w=.bool (mY x b1 b2 b3 b4)/\Ext h h':=by
 refine aX (args:=[qe p l c x,.bool b1,.bool b2,.bool b3,.bool b4]) mixed Tryz.func70 ax (o7 x.kind x.name x.inst.op x.inst.a x.inst.b x.inst.n x.inst.form p l c x.e.num x.n b1 b2 b3 b4) ?_;unfold j2 dQ bt dH;have hl:=v.len;have hz:Oq x.e=(decide (l=0) && decide (x.e.num=0)):=by
  unfold Oq
  congr 1
  rw [hl]
  simp
 refine bm ?_;intro h1 bx e1 zz1;have bx:bz h1 h.size 64 (encI p l c x):=bx;simp only [aE];unfold mY z1 z2 z3 z4;rw [hz]
 repeat' (first
  | (refine af bx (x.n,()) rfl ?_; refine an ?_)
  | (refine af bx (x.name,()) rfl ?_; refine an ?_)
  | (refine af bx ((p,l,c),()) rfl ?_; refine an ?_)
  | (refine af bx ((x.e.num:Int),()) rfl ?_; refine an ?_)
  | (refine af bx (x.inst.op,x.inst.a,x.inst.b,x.inst.n,x.inst.form,()) rfl ?_; refine an ?_)
  | refine mU (fun K' hK=>Pm _ _ x.inst h1 K' hK) ?_
  | refine ⟨congrArg Value.bool ?_,e1⟩
  | refine ak (fun q=>?_) (fun q=>?_))
 all_goals (
  try simp only [Tk] at *
  simp_all [cT])
 all_goals omega
def QY (g:Nat) (b1 b2 b3 b4:Bool) (k:Bool->T):T :=
 T.ah ⟨g,0,none⟩ [.int .i64,.string,.int .i64,.int .i64,.int .i64,.int .i32,.int .i64,.slice 66,.int .u32,.int .i64] <| fun (n5:Int) (s6:ByteArray) (n7:Int) (n8:Int) (n9:Int) (n10:Int) (n11:Int) (p12:Option Addr) (l13:Nat) (l14:Nat) (n15:Int) (n16:Int) =>
  bG 70 [.agg #[.int .i64 n5,.string s6,.int .i64 n7,.int .i64 n8,.int .i64 n9,.int .i32 n10,.int .i64 n11,.slice p12 l13 l14,.int .u32 n15,.int .i64 n16],.bool b1,.bool b2,.bool b3,.bool b4] false [cd] k
theorem fW {L:Lp} {K:Value->Hp->Prop} {h:Hp} {g:Nat} {x:cB} {p:Option Addr} {l c:Nat} {b1 b2 b3 b4:Bool} {k:Bool->T} (bx:bz h g 64 (encI p l c x)) (v:gn h p l x.e.ai) (hk:∀ h',Ext h h'->k (mY x b1 b2 b3 b4) L K h'):QY g b1 b2 b3 b4 k L K h:=by
 unfold QY bG cd;refine af bx (x.kind,x.name,x.inst.op,x.inst.a,x.inst.b,x.inst.n,x.inst.form,(p,l,c),(x.e.num:Int),x.n,()) rfl ?_;refine an ?_;exact gw (PQ v b1 b2 b3 b4) hk
theorem Bx (h:Hp) (n:Int):vM Tryz.prog 74 [.int .i64 n] h (.bool (tI n)):=by
 refine ee mixed Tryz.func74 ax (nt n) ?_;unfold jK bi bt dH aM cd;refine aR (cs:=[(false,[.bool]),(false,[.int .i64])]) (fun y m h'=>∃ k:Nat,y=(false,((2^k:Nat):Int),())/\m=9-k/\k<=9/\h'=h/\(∀ j,j<k->¬ n=((2^j:Nat):Int))) (false,(1:Int),()) 9 rfl
  ⟨0,rfl,rfl,ad,rfl,fun j hj=>ad⟩ ?_
 rintro ⟨b1,n2,⟨⟩⟩ m h1 ⟨k,hy,hm,hk,rfl,hj⟩;cases hy;refine an ?_;refine ak (fun q=>?_) (fun q=>?_)
 ·have q:=of_decide_eq_true q;have hk8:k<=8:=by
   by_cases g:k=9
   ·subst g;exact absurd q bU
   ·omega
  refine ak (fun r=>?_) (fun r=>?_)
  ·have r:n=((2^k:Nat):Int):=by simpa using r
   refine ⟨?_,rfl⟩
   have:k=0\/k=1\/k=2\/k=3\/k=4\/k=5\/k=6\/k=7\/k=8:=ad
   rcases this with rfl | rfl | rfl | rfl | rfl | rfl | rfl | rfl | rfl <;> (rw [r]; rfl)
  ·have r:¬ n=((2^k:Nat):Int):=by simpa using r
   have hp:2^k<=2^8:=Nat.pow_le_pow_right ad hk8;have hp2:((2^k:Nat):Int)<=256:=by exact_mod_cast hp
   have hp3:(0:Int)<=((2^k:Nat):Int):=Int.natCast_nonneg _;rw [wrap_i64 ad ad];have h2:(2:Int)*((2^k:Nat):Int)=((2^(k+1):Nat):Int):=by rw [Nat.pow_succ]; omega
   rw [h2];refine aF (cs:=[(false,[.bool]),(false,[.int .i64])]) (false,((2^(k+1):Nat):Int),()) (9-(k+1)) rfl ad rfl ⟨k+1,rfl,rfl,ad,rfl,fun j hj'=>?_⟩
   by_cases g:j=k
   ·subst g; exact r
   ·exact hj j ad
 ·have q:=of_decide_eq_false q;have hk9:k=9:=by
   by_cases g:k=9
   ·exact g
   ·have hp:2^k<=2^8:=Nat.pow_le_pow_right ad ad;omega
  subst hk9;refine ⟨?_,rfl⟩;have a0:=hj 0 ad;have a1:=hj 1 ad;have a2:=hj 2 ad;have a3:=hj 3 ad;have a4:=hj 4 ad;have a5:=hj 5 ad;have a6:=hj 6 ad;have a7:=hj 7 ad;have a8:=hj 8 ad;unfold tI;simp only [Nat.reducePow] at a0 a1 a2 a3 a4 a5 a6 a7 a8;rw [decide_eq_false ad,decide_eq_false ad,decide_eq_false ad,decide_eq_false ad,decide_eq_false ad,decide_eq_false ad,decide_eq_false ad,decide_eq_false ad,decide_eq_false ad] <;> rfl
theorem Kh {h:Hp} {x:cB} {p:Option Addr} {l c:Nat} (v:iM h p l x):HC Tryz.prog 34 #[qe p l c x,.int .i64 (0:Int)] h fun w h'=>w=CW (cr x 0)/\Ext h h':=by
 refine aX (args:=[qe p l c x,.int .i64 (0:Int)]) mixed Tryz.func34 ax (kV x.kind x.name x.inst.op x.inst.a x.inst.b x.inst.n x.inst.form p l c x.e.num x.n) ?_;unfold gQ aU cD cd;have hml:maxLen=9223372036854775807:=rfl;refine bm ?_;intro h1 b1 e1 z1';have b1:bz h1 h.size 64 (encI p l c x):=b1;have v1:=v.ao e1;simp only [aE];refine ik (cs:=[(false,[.bool])]) (fun y h'=>y.1=cr x 0/\Ext h h') ?_ ?_
 rotate_left
 ·rintro ⟨b2,⟨⟩⟩ h' ⟨hy,e'⟩;simp only at hy;subst hy;refine an ?_;cases hr:cr x 0
  ·exact ⟨rfl,e'⟩
  ·exact ⟨rfl,e'⟩
 have fin:∀ (b:Bool) (h':Hp),b=cr x 0->Ext h h'->T.again 0 [.bool b] [fun vs h'=>∃ y:qd (flat [(false,[.bool])]),vs=parts [(false,[.bool])] (dU _ y)/\(y.1=cr x 0/\Ext h h')] (fun w h'=>w=CW (cr x 0)/\Ext h h') h':=by
  rintro b h' rfl e';exact dF (cs:=[(false,[.bool])]) (J:=fun y h'=>y.1=cr x 0/\Ext h h') (cr x 0,()) rfl rfl ⟨rfl,e'⟩
 refine af b1 (x.kind,()) rfl ?_;refine an ?_
 by_cases k1:x.kind=1
 ·refine bT (by rw [k1]; rfl) ?_;have hit:cr x 0=(cM x.name.data.toList && z2 x && z3 x && z4 x):=by unfold cr; rw [if_pos k1]
  refine af b1 (x.name,()) rfl ?_;refine an ?_;refine aI (rD x.name h1 (by have:=v.name; omega)) ?_;refine ak (fun q=>?_) (fun q=>fin _ _ (by rw [hit,q]; rfl) e1);refine fW b1 v1.lin.vw ?_;intro h2 e2;exact fin _ _ (by rw [hit,q]; unfold mY; simp [Bool.and_assoc]) (e1.trans e2)
 refine bZ (by simpa using k1) ?_
 by_cases k2:x.kind=2
 ·refine bT (by rw [k2]; rfl) ?_;have hit:cr x 0=(yM x.inst x.e && z1 x && z4 x):=by unfold cr; rw [if_neg k1,if_pos k2]; simp
  refine af b1 (x.inst.op,x.inst.a,x.inst.b,x.inst.n,x.inst.form,()) rfl ?_;refine an ?_;refine bm ?_;intro h2 b2 e2 z2';refine aw b2 rfl aj ?_;intro h3 b3 k3 z3';have b3:bz h3 h1.size 62 (nU x.inst):=b3;have e13:Ext h1 h3:=e2.st k3 (Nat.le_refl _);have b13:=b1.ao e13 aj;rw [aE];refine af b3 (x.inst.form,()) rfl ?_;refine an ?_;refine ik (cs:=[]) (fun _ h'=>bz h' h1.size 62 (nU { x.inst with form:=if rC x.inst.op then 1 else x.inst.form })/\Ext h1 h') ?_ ?_
  ·refine af b3 (x.inst.op,()) rfl ?_;refine an ?_;refine gw (A' h3 x.inst.op v.op) ?_;intro h4 e4;have b4:=b3.ao e4 aj;refine ak (fun q=>?_) (fun q=>?_)
   ·refine aw b4 rfl (by simp [nU]) ?_;intro h5 b5 k5 z5;exact dF (cs:=[]) () rfl rfl ⟨by rw [if_pos q]; exact b5,(e13.trans e4).st k5 (by have:=e13.size; omega)⟩
   ·exact dF (cs:=[]) () rfl rfl ⟨by rw [if_neg (by rw [q]; decide)]; exact b4,e13.trans e4⟩
  rintro _ h5 ⟨b5,e5⟩;refine an ?_;have b15:=b1.ao e5 aj;have v5:=v1.ao e5;refine ik (cs:=[(false,[.bool])]) (fun y h'=>y.1=(decide (x.inst.form=0) && decide (gd { x.inst with form:=if rC x.inst.op then 1 else x.inst.form }=0) && (z1 x && z4 x))/\Ext h5 h') ?_ ?_
  ·refine ak (fun q=>?_) (fun q=>?_)
   ·have q:x.inst.form=0:=by simpa using q
    refine af b5 (x.inst.op,x.inst.a,x.inst.b,x.inst.n,((if rC x.inst.op then (1:Int) else x.inst.form):Int),()) rfl ?_;refine an ?_;refine aH (I6 h5 x.inst.op x.inst.a x.inst.b x.inst.n (if rC x.inst.op then 1 else x.inst.form) v.op) ?_;rintro _ h6 ⟨rfl,e6⟩;refine ⟨(gd { x.inst with form:=if rC x.inst.op then 1 else x.inst.form },()),rfl,?_⟩;refine an ?_;refine ak (fun r=>?_) (fun r=>?_)
    ·have r:gd { x.inst with form:=if rC x.inst.op then 1 else x.inst.form }=0:=by simpa using r
     refine fW (b15.ao e6 aj) (v5.ao e6).lin.vw ?_;intro h7 e7;exact dF (cs:=[(false,[.bool])]) (mY x true false false true,()) rfl rfl ⟨by rw [decide_eq_true q,decide_eq_true r]; rfl,e6.trans e7⟩
    ·have r:¬ gd { x.inst with form:=if rC x.inst.op then 1 else x.inst.form }=0:=by simpa using r
     exact dF (cs:=[(false,[.bool])]) (false,()) rfl rfl ⟨by rw [decide_eq_true q,decide_eq_false r]; rfl,e6⟩
   ·have q:¬ x.inst.form=0:=by simpa using q
    exact dF (cs:=[(false,[.bool])]) (false,()) rfl rfl ⟨by rw [decide_eq_false q]; rfl,Ch.refl _ _⟩
  rintro ⟨b10,⟨⟩⟩ h6 ⟨hy,e6⟩;simp only at hy;subst hy;refine an ?_;have b6:=b5.ao e6 aj;have b16:=b15.ao e6 aj;have v6:=v5.ao e6;refine af b6 (x.inst.op,()) rfl ?_;refine an ?_;refine gw (Iz h6 x.inst.op v.op) ?_;intro h7 e7;have b7:=b6.ao e7 aj;have b17:=b16.ao e7 aj;have v7:=v6.ao e7;have e07:=((e1.trans e5).trans e6).trans e7;have hchk:Fw x.inst.op=true->(decide (x.inst.form=0) && decide (gd { x.inst with form:=if rC x.inst.op then 1 else x.inst.form }=0) && (z1 x && z4 x) && (decide (x.inst.n=0) && mS none x.e.ai))=cr x 0:=by
   intro hw;rw [hit];unfold yM;rw [if_pos hw]
   by_cases f0:x.inst.form=0
   ·rw [decide_eq_true f0,f0]
    by_cases c0:gd { x.inst with form:=if rC x.inst.op then 1 else 0 }=0
    ·have hs:=(Fq c0).1;simp only at hs;rw [decide_eq_true c0,decide_eq_true hs];simp only [Bool.true_and]
     ac_rfl
    ·rw [decide_eq_false c0]
     simp
   ·rw [decide_eq_false f0]
    simp
  have hchk2:Fw x.inst.op=false->(decide (x.inst.form=0) && decide (gd { x.inst with form:=if rC x.inst.op then 1 else x.inst.form }=0) && (z1 x && z4 x) && z3 x)=cr x 0:=by
   intro hw;rw [hit];unfold yM;rw [if_neg (show ¬ (Fw x.inst.op=true) by rw [hw]; decide)];have hsp:rC x.inst.op=false:=by
    unfold Fw at hw;unfold rC;rw [decide_eq_false_iff_not] at hw ⊢;omega
   rw [if_neg (show ¬ (rC x.inst.op=true) by rw [hsp]; decide)]
   by_cases f0:x.inst.form=0
   ·rw [decide_eq_true f0];have hi:({ x.inst with form:=x.inst.form }:Ins)=x.inst:=rfl;rw [hi]
    by_cases c0:gd x.inst=0
    ·have hs:=(Fq c0).1;rw [decide_eq_true c0,decide_eq_true hs];unfold z3;simp only [Bool.true_and]
     ac_rfl
    ·rw [decide_eq_false c0]
     simp
   ·rw [decide_eq_false f0]
    simp
  generalize (decide (x.inst.form=0) && decide (gd { x.inst with form:=if rC x.inst.op then 1 else x.inst.form }=0) && (z1 x && z4 x))=G at *;refine ak (fun hw=>?_) (fun hw=>?_)
  ·have hchk:=hchk hw;refine ak (fun g=>?_) (fun g=>fin _ _ (by rw [<- hchk,g]; rfl) e07);refine af b7 (x.inst.n,()) rfl ?_;refine an ?_;refine ak (fun r=>?_) (fun r=>?_)
   ·have r:x.inst.n=0:=by simpa using r
    refine af b17 ((p,l,c),(x.e.num:Int),()) rfl ?_;refine an ?_;refine aH (tv (c:=c) v7.lin.vw (by have:=v.lin.many; omega) v.lin.names) ?_;rintro _ h8 ⟨rfl,e8⟩;refine ⟨(mS none x.e.ai,()),rfl,?_⟩;exact fin _ _ (by rw [<- hchk,g,decide_eq_true r]; simp) (e07.trans e8)
   ·have r:¬ x.inst.n=0:=by simpa using r
    exact fin _ _ (by rw [<- hchk,decide_eq_false r]; simp) e07
  ·have hchk:=hchk2 hw;refine ak (fun g=>?_) (fun g=>fin _ _ (by rw [<- hchk,g]; rfl) e07);refine fW b17 v7.lin.vw ?_;intro h8 e8;exact fin _ _ (by rw [<- hchk,g]; unfold mY; simp) (e07.trans e8)
 refine bZ (by simpa using k2) ?_
 by_cases k3:x.kind=3
 ·refine bT (by rw [k3]; rfl) ?_;have hit:cr x 0=(tI x.n && z1 x && z2 x && z3 x):=by unfold cr; rw [if_neg k1,if_neg k2,if_pos k3]
  refine af b1 (x.n,()) rfl ?_;refine an ?_;refine aI (Bx h1 x.n) ?_;refine ak (fun q=>?_) (fun q=>fin _ _ (by rw [hit,q]; rfl) e1);refine fW b1 v1.lin.vw ?_;intro h2 e2;exact fin _ _ (by rw [hit,q]; unfold mY; simp [Bool.and_assoc]) (e1.trans e2)
 refine bZ (by simpa using k3) ?_
 by_cases k4:x.kind=4
 ·refine bT (by rw [k4]; rfl) ?_;have hit:cr x 0=(z1 x && z2 x && z3 x && z4 x):=by unfold cr; rw [if_neg k1,if_neg k2,if_neg k3,if_pos k4]; simp
  refine fW b1 v1.lin.vw ?_;intro h2 e2;exact fin _ _ (by rw [hit]; unfold mY; simp [Bool.and_assoc]) (e1.trans e2)
 refine bZ (by simpa using k4) ?_
 by_cases k5:x.kind=5
 ·refine bT (by rw [k5]; rfl) ?_;exact fin _ _ (by unfold cr; rw [if_neg k1,if_neg k2,if_neg k3,if_neg k4,if_pos k5]; simp) e1
 refine bZ (by simpa using k5) ?_
 by_cases k6:x.kind=6
 ·refine bT (by rw [k6]; rfl) ?_;exact fin _ _ (by unfold cr; rw [if_neg k1,if_neg k2,if_neg k3,if_neg k4,if_neg k5,if_pos k6]; simp) e1
 refine bZ (by simpa using k6) ?_
 by_cases k7:x.kind=7
 ·refine bT (by rw [k7]; rfl) ?_;exact fin _ _ (by unfold cr; rw [if_neg k1,if_neg k2,if_neg k3,if_neg k4,if_neg k5,if_neg k6,if_pos k7]; simp) e1
 refine bZ (by simpa using k7) ?_;exact fin _ _ (by unfold cr; rw [if_neg k1,if_neg k2,if_neg k3,if_neg k4,if_neg k5,if_neg k6,if_neg k7]) e1
theorem Ms {h:Hp} {x:cB} {p:Option Addr} {l c:Nat} (v:iM h p l x):HC Tryz.prog 34 #[qe p l c x,.int .i64 (1:Int)] h fun w h'=>w=CW (cr x 1)/\Ext h h':=by
 refine aX (args:=[qe p l c x,.int .i64 (1:Int)]) mixed Tryz.func34 ax (kC x.kind x.name x.inst.op x.inst.a x.inst.b x.inst.n x.inst.form p l c x.e.num x.n) ?_;unfold gK aU cd;have hml:maxLen=9223372036854775807:=rfl;refine bm ?_;intro h1 b1 e1 z1';have b1:bz h1 h.size 64 (encI p l c x):=b1;have v1:=v.ao e1;simp only [aE];refine ik (cs:=[(false,[.bool])]) (fun y h'=>y.1=cr x 1/\Ext h h') ?_ ?_
 rotate_left
 ·rintro ⟨b2,⟨⟩⟩ h' ⟨hy,e'⟩;simp only at hy;subst hy;refine an ?_;cases hr:cr x 1
  ·exact ⟨rfl,e'⟩
  ·exact ⟨rfl,e'⟩
 have fin:∀ (b:Bool) (h':Hp),b=cr x 1->Ext h h'->T.again 0 [.bool b] [fun vs h'=>∃ y:qd (flat [(false,[.bool])]),vs=parts [(false,[.bool])] (dU _ y)/\(y.1=cr x 1/\Ext h h')] (fun w h'=>w=CW (cr x 1)/\Ext h h') h':=by
  rintro b h' rfl e';exact dF (cs:=[(false,[.bool])]) (J:=fun y h'=>y.1=cr x 1/\Ext h h') (cr x 1,()) rfl rfl ⟨rfl,e'⟩
 refine af b1 (x.kind,()) rfl ?_;refine an ?_
 by_cases k1:x.kind=1
 ·refine bT (by rw [k1]; rfl) ?_;have hit:cr x 1=(cM x.name.data.toList && z2 x && z3 x && z4 x):=by unfold cr; rw [if_pos k1]
  refine af b1 (x.name,()) rfl ?_;refine an ?_;refine aI (rD x.name h1 (by have:=v.name; omega)) ?_;refine ak (fun q=>?_) (fun q=>fin _ _ (by rw [hit,q]; rfl) e1);refine fW b1 v1.lin.vw ?_;intro h2 e2;exact fin _ _ (by rw [hit,q]; unfold mY; simp [Bool.and_assoc]) (e1.trans e2)
 refine bZ (by simpa using k1) ?_
 by_cases k2:x.kind=2
 ·refine bT (by rw [k2]; rfl) ?_;have hit:cr x 1=(false):=by unfold cr; rw [if_neg k1,if_pos k2]; simp
  refine af b1 (x.inst.op,x.inst.a,x.inst.b,x.inst.n,x.inst.form,()) rfl ?_;refine an ?_;refine bm ?_;intro h2 b2 e2 z2';refine aw b2 rfl aj ?_;intro h3 b3 k3 z3';have b3:bz h3 h1.size 62 (nU x.inst):=b3;have e13:Ext h1 h3:=e2.st k3 (Nat.le_refl _);have b13:=b1.ao e13 aj;rw [aE];refine af b3 (x.inst.form,()) rfl ?_;refine an ?_;refine ik (cs:=[]) (fun _ h'=>bz h' h1.size 62 (nU { x.inst with form:=if rC x.inst.op then 1 else x.inst.form })/\Ext h1 h') ?_ ?_
  ·refine af b3 (x.inst.op,()) rfl ?_;refine an ?_;refine gw (A' h3 x.inst.op v.op) ?_;intro h4 e4;have b4:=b3.ao e4 aj;refine ak (fun q=>?_) (fun q=>?_)
   ·refine aw b4 rfl (by simp [nU]) ?_;intro h5 b5 k5 z5;exact dF (cs:=[]) () rfl rfl ⟨by rw [if_pos q]; exact b5,(e13.trans e4).st k5 (by have:=e13.size; omega)⟩
   ·exact dF (cs:=[]) () rfl rfl ⟨by rw [if_neg (by rw [q]; decide)]; exact b4,e13.trans e4⟩
  rintro _ h5 ⟨b5,e5⟩;refine an ?_;have b15:=b1.ao e5 aj;have v5:=v1.ao e5;refine ik (cs:=[(false,[.bool])]) (fun y h'=>y.1=false/\Ext h5 h') (dF (cs:=[(false,[.bool])]) (false,()) rfl rfl ⟨rfl,Ch.refl _ _⟩) ?_;rintro ⟨b10,⟨⟩⟩ h6 ⟨hy,e6⟩;simp only at hy;subst hy;refine an ?_;have b6:=b5.ao e6 aj;have b16:=b15.ao e6 aj;have v6:=v5.ao e6;refine af b6 (x.inst.op,()) rfl ?_;refine an ?_;refine gw (Iz h6 x.inst.op v.op) ?_;intro h7 e7;have b7:=b6.ao e7 aj;have b17:=b16.ao e7 aj;have v7:=v6.ao e7;have e07:=((e1.trans e5).trans e6).trans e7;refine ak (fun hw=>?_) (fun hw=>?_)
  ·exact bZ rfl (fin _ _ (by rw [hit]) e07)
  ·exact bZ rfl (fin _ _ (by rw [hit]) e07)
 refine bZ (by simpa using k2) ?_
 by_cases k3:x.kind=3
 ·refine bT (by rw [k3]; rfl) ?_;have hit:cr x 1=(tI x.n && z1 x && z2 x && z3 x):=by unfold cr; rw [if_neg k1,if_neg k2,if_pos k3]
  refine af b1 (x.n,()) rfl ?_;refine an ?_;refine aI (Bx h1 x.n) ?_;refine ak (fun q=>?_) (fun q=>fin _ _ (by rw [hit,q]; rfl) e1);refine fW b1 v1.lin.vw ?_;intro h2 e2;exact fin _ _ (by rw [hit,q]; unfold mY; simp [Bool.and_assoc]) (e1.trans e2)
 refine bZ (by simpa using k3) ?_
 by_cases k4:x.kind=4
 ·refine bT (by rw [k4]; rfl) ?_;exact fin _ _ (by unfold cr; rw [if_neg k1,if_neg k2,if_neg k3,if_pos k4]; simp) e1
 refine bZ (by simpa using k4) ?_
 by_cases k5:x.kind=5
 ·refine bT (by rw [k5]; rfl) ?_;have hit:cr x 1=(decide (-128<=x.n) && decide (x.n<=255) && z1 x && z2 x && z3 x):=by unfold cr; rw [if_neg k1,if_neg k2,if_neg k3,if_neg k4,if_pos k5]; simp
  refine af b1 (x.n,()) rfl ?_;refine an ?_;refine ak (fun q=>?_) (fun q=>fin _ _ (by rw [hit,show decide (-128<=x.n)=false from q]; rfl) e1);refine af b1 (x.n,()) rfl ?_;refine an ?_;refine ak (fun r=>?_) (fun r=>fin _ _ (by rw [hit,r]; simp) e1);refine fW b1 v1.lin.vw ?_;intro h2 e2;exact fin _ _ (by rw [hit,r,show decide (-128<=x.n)=true from q]; unfold mY; simp [Bool.and_assoc]) (e1.trans e2)
 refine bZ (by simpa using k5) ?_
 by_cases k6:x.kind=6
 ·refine bT (by rw [k6]; rfl) ?_;have hit:cr x 1=(mS none x.e.ai && z1 x && z2 x && z4 x):=by unfold cr; rw [if_neg k1,if_neg k2,if_neg k3,if_neg k4,if_neg k5,if_pos k6]; simp
  refine af b1 ((p,l,c),(x.e.num:Int),()) rfl ?_;refine an ?_;refine aH (tv (c:=c) v1.lin.vw (by have:=v.lin.many; omega) v.lin.names) ?_;rintro _ h2 ⟨rfl,e2⟩;refine ⟨(mS none x.e.ai,()),rfl,?_⟩;refine an ?_;refine ak (fun q=>?_) (fun q=>fin _ _ (by rw [hit,q]; rfl) (e1.trans e2));refine fW (b1.ao e2 aj) (v1.ao e2).lin.vw ?_;intro h3 e3;exact fin _ _ (by rw [hit,q]; unfold mY; simp [Bool.and_assoc]) ((e1.trans e2).trans e3)
 refine bZ (by simpa using k6) ?_
 by_cases k7:x.kind=7
 ·refine bT (by rw [k7]; rfl) ?_;have hit:cr x 1=(decide (0<=x.n) && decide (x.n<=1048576) && z1 x && z2 x && z3 x):=by unfold cr; rw [if_neg k1,if_neg k2,if_neg k3,if_neg k4,if_neg k5,if_neg k6,if_pos k7]; simp
  refine af b1 (x.n,()) rfl ?_;refine an ?_;refine ak (fun q=>?_) (fun q=>fin _ _ (by rw [hit,show decide (0<=x.n)=false from q]; rfl) e1);refine af b1 (x.n,()) rfl ?_;refine an ?_;refine ak (fun r=>?_) (fun r=>fin _ _ (by rw [hit,r]; simp) e1);refine fW b1 v1.lin.vw ?_;intro h2 e2;exact fin _ _ (by rw [hit,r,show decide (0<=x.n)=true from q]; unfold mY; simp [Bool.and_assoc]) (e1.trans e2)
 refine bZ (by simpa using k7) ?_;exact fin _ _ (by unfold cr; rw [if_neg k1,if_neg k2,if_neg k3,if_neg k4,if_neg k5,if_neg k6,if_neg k7]) e1
theorem BN {h:Hp} {x:cB} {p:Option Addr} {l c k:Nat} (v:iM h p l x) (hk:k<2):HC Tryz.prog 34 #[qe p l c x,.int .i64 (k:Int)] h fun w h'=>w=CW (cr x k)/\Ext h h':=by
 have:k=0\/k=1:=ad
 rcases this with rfl | rfl
 ·exact Kh v
 ·exact Ms v
def UU (s:ByteArray):List Value:=[.string s]
abbrev SN (h:Hp) (b:Nat) (p:Option Addr) (l c:Nat) (xs:List ByteArray):Prop:=SL h b 9 1 p l c (xs.map UU)
theorem SN.len {h:Hp} {b:Nat} {p:Option Addr} {l c:Nat} {xs:List ByteArray} (s:SN h b p l c xs):l=xs.length:=by
 have:=s.1
 rwa [List.length_map] at this
theorem SN.cell {h:Hp} {b:Nat} {p:Option Addr} {l c:Nat} {xs:List ByteArray} (s:SN h b p l c xs) {i:Nat} (hi:i<xs.length):∃ a,p=some a/\aG h (a.add (i*1)) 0 [.string xs[i]]:=by
 obtain ⟨a,ha,hc⟩:=SL.cells s (i:=i) (by rw [List.length_map]; exact hi);refine ⟨a,ha,?_⟩;rw [List.getElem_map] at hc;exact hc
theorem U' (D:List ByteArray) (s:ByteArray) (i:Nat) (hi:i<D.length):fz (D.take (i+1)) s=(fz (D.take i) s || decide (D[i]=s)):=by
 unfold fz;rw [List.take_succ_eq_append_getElem hi,List.any_append]
 simp
theorem CL {h:Hp} {b:Nat} {p:Option Addr} {l c:Nat} {xs:List ByteArray} (v:SN h b p l c xs) (hl:xs.length<=2^61) (s:ByteArray):vM Tryz.prog 38 [.slice p l c,.string s] h (.bool (fz xs s)):=by
 refine ee mixed Tryz.func38 ax (iU p l c s) ?_;unfold gJ aZ bg bq aK bt dH aM cd;have n:=SN.len v;refine aR (cs:=[(false,[.bool]),(false,[.int .i64])]) (fun y m h'=>∃ i:Nat,y.2.1=(i:Int)/\m=xs.length-i/\i<=xs.length/\h'=h/\fz (xs.take i) s=false) (false,(0:Int),()) xs.length rfl
  ⟨0,rfl,rfl,ad,rfl,rfl⟩ ?_
 rintro ⟨b2,n3,⟨⟩⟩ m h' ⟨i,hi,rfl,hle,rfl,hn⟩;simp only at hi;subst hi;refine an ?_;refine ak (fun q=>?_) (fun q=>?_)
 ·have q:=of_decide_eq_true q;have hil:i<xs.length:=ad
  obtain ⟨a,ha,hc⟩:=SN.cell v hil;refine ay ⟨ad,ad⟩ (av ha ?_);rw [show Int.toNat (i:Int)=i from ad];refine az (xs[i],()) hc ?_;refine an ?_;have hs:=U' xs s i hil;rw [ph];refine ak (fun r=>?_) (fun r=>?_)
  ·have r:=of_decide_eq_true r;refine ⟨congrArg Value.bool ?_,rfl⟩;unfold fz;exact (List.any_eq_true.2 ⟨_,List.getElem_mem hil,decide_eq_true r⟩).symm
  ·rw [hn,r] at hs;refine aF (cs:=[(false,[.bool]),(false,[.int .i64])]) (b2,((i+1:Nat):Int),()) (xs.length-(i+1)) rfl ad (by rw [wrap_i64 ad ad]; rfl) ?_;exact ⟨i+1,rfl,rfl,ad,rfl,hs⟩
 ·have q:=of_decide_eq_false q
  have:i=xs.length:=ad
  subst this;rw [List.take_length] at hn;exact ⟨by rw [hn],rfl⟩
def dL (l:List cB):List ByteArray:=(l.filter fun x=>decide (x.kind=1)).map (·.name)
theorem vP (l:List cB) (i:Nat) (hi:i<l.length):dL (l.take (i+1))=dL (l.take i)++if l[i].kind=1 then [l[i].name] else []:=by
 unfold dL;rw [List.take_succ_eq_append_getElem hi,List.filter_append,List.map_append]
 congr 1
 by_cases hk:l[i].kind=1 <;> simp [hk]
theorem SN.push {L:Lp} {K:Value->Hp->Prop} {h:Hp} {b:Nat} {p:Option Addr} {l c:Nat} {xs:List ByteArray} (v:SN h b p l c xs) (x:ByteArray) (hl:xs.length<=2^40) (hb:b<=h.size) {k:Option Addr->Nat->Nat->T}
  (hk:∀ p' c' h',SN h' b p' (l+1) c' (xs++[x])->Ch (aJ p) h h'->k p' (l+1) c' L K h') :
  T.dY Tryz.prog (Instr.buildSlice 28 1 #[(0,.string x)]) false [(false,[.slice 0])] (fun q m cc=>T.dY Tryz.prog (Builtin.append_ #[28,28] 28 #[.slice p l c,.slice q m cc]) false [(false,[.slice 0])] k) L K h:=by
 have n:=SN.len v;refine kh (vs:=[.string x]) Hw UB rfl ad ad ax rfl rfl v hb ad ad ?_;intro p' c' h' s' ch _;refine hk p' c' h' ?_ ch;unfold SN;rw [List.map_append];exact s'
theorem SN.ext {h a b':Hp} {b:Nat} {p:Option Addr} {l c:Nat} {xs:List ByteArray} (e:Ext h a) (v:SN a b p l c xs) (hb:h.size<=b) (k:Ch (aJ p) a b'):Ext h b' :=
 Ch.trans e k (fun i hi hl=>by have:=(Ob.SL.bY v i hi).1; omega)
theorem nw {h:Hp} {p:Option Addr} {l c:Nat} {us:List cB} (v:CD h p l us) (hm:us.length<=2^20) :
  HC Tryz.prog 39 #[.slice p l c] h fun w h'=>∃ p' l' c',w=.slice p' l' c'/\SN h' h.size p' l' c' (dL us)/\Ext h h':=by
 refine aX (args:=[.slice p l c]) mixed Tryz.func39 ax (mJ p l c) ?_;unfold iX aZ bg bq aK bh bd aM db;have n:=v.len;refine aR (cs:=[(false,[.slice 0]),(false,[.int .i64])]) (fun y m h'=>∃ i:Nat,y.2.1=(i:Int)/\m=us.length-i/\i<=us.length/\Ext h h'/\(dL (us.take i)).length<=i/\SN h' h.size y.1.1 y.1.2.1 y.1.2.2 (dL (us.take i))) ((none,0,0),(0:Int),()) us.length rfl
  ⟨0,rfl,rfl,ad,Ch.refl _ _,by simp [dL],SL.nil _ _ _ _⟩ ?_
 rintro ⟨⟨p1,l2,l3⟩,n4,⟨⟩⟩ m h1 ⟨i,hi,rfl,hle,e1,hll,s⟩;simp only at hi s;subst hi;refine an ?_;have hz:=e1.size;refine ak (fun q=>?_) (fun q=>?_)
 ·have q:=of_decide_eq_true q;have hil:i<us.length:=ad
  obtain ⟨aa,pp,ll,cc,rfl',hc,va⟩:=(v.ao e1).cells i hil;have ht:=vP us i hil;generalize us[i]=x at hc va ht;refine ay ⟨ad,ad⟩ (av rfl' ?_);rw [show Int.toNat (i:Int)=i from ad];refine az (x.kind,()) ⟨hc.1,trivial⟩ ?_;refine an ?_;refine ak (fun r=>?_) (fun r=>?_)
  ·have r:x.kind=1:=by simpa using r
   rw [if_pos r] at ht;refine ay ⟨ad,ad⟩ (av rfl' ?_);refine az (x.name,()) ⟨by rw [add_add]; exact hc.2.1,trivial⟩ ?_;refine an ?_;refine SN.push s x.name ad ad ?_;intro p' c' h2 s2 k2;refine aF (cs:=[(false,[.slice 0]),(false,[.int .i64])]) ((p',l2+1,c'),((i+1:Nat):Int),()) (us.length-(i+1)) rfl ad (by rw [wrap_i64 ad ad]; rfl) ?_;exact ⟨i+1,rfl,rfl,ad,SN.ext e1 s (Nat.le_refl _) k2,by rw [ht,List.length_append]; simp; omega,by rw [ht]; exact s2⟩
  ·have r:¬ x.kind=1:=by simpa using r
   rw [if_neg r,List.append_nil] at ht;refine aF (cs:=[(false,[.slice 0]),(false,[.int .i64])]) ((p1,l2,l3),((i+1:Nat):Int),()) (us.length-(i+1)) rfl ad (by rw [wrap_i64 ad ad]; rfl) ?_;exact ⟨i+1,rfl,rfl,ad,e1,by rw [ht]; omega,by rw [ht]; exact s⟩
 ·have q:=of_decide_eq_false q
  have:i=us.length:=ad
  subst this;rw [List.take_length] at s;exact ⟨p1,l2,l3,rfl,s,e1⟩
theorem QA {L:Lp} {K:Value->Hp->Prop} {h:Hp} {k:Option Addr->Nat->Nat->T} {b b':Nat} {p:Option Addr} {l c:Nat} {xs:List ByteArray} (s:SN h b p l c xs) {q:Option Addr} {m d:Nat} {us:List ByteArray} (v:SN h b' q m d us)
  (hl:l+m<=2^40) (hb:b<=h.size)
  (hk:∀ p' c' h',SN h' b p' (l+m) c' (xs++us)->Ch (aJ p) h h'->k p' (l+m) c' L K h') :
  T.dY Tryz.prog (Builtin.append_ #[28,28] 28 #[.slice p l c,.slice q m d]) false [(false,[.slice 0])] k L K h:=by
 obtain ⟨i,hi,hz,hsz,hby⟩:=oW UB;refine dm ?_;cases q with
 | none =>
  have h1:us=[]:=by
   have:=v.2.2.2
   simpa using this
  have h0:m=0:=by have:=SN.len v; rw [h1] at this; exact this
  have hd:d=0:=v.2.2.1;subst h0 h1 hd;have hc0:l<=c:=by
   cases p with
   | none =>
    have h2:=s.2.2.2;have h3:=s.1;rw [h2] at h3;simp at h3;omega
   | some a =>
    obtain ⟨g,pre,rest,rfl,hbg,hlc,_⟩:=s.2.2;exact hlc.1
  simp [Builtin.append_,ar,aD Hw,bM hi,cz hi,Builtin.lenOf,Builtin.firstCells,hc0];have hfin:∃ p' l' c',Value.slice p l c=.slice p' l' c'/\k p' l' c' L K h:=⟨p,l,c,rfl,by simpa using hk p c h (by simpa using s) (Ch.refl _ _)⟩
  cases p with
  | none=>exact hfin
  | some a=>exact hfin
 | some a =>
  have hc:aG h a 0 (us.map UU).flatten:=by
   obtain ⟨g,pre,rest,rfl,hbg,hlc,hbox,hr⟩:=v.2.2;refine hbox.cells _ ?_;rw [List.drop_left,List.take_left]
  have hpl:(us.map UU).flatten.all cP=true:=by
   rw [List.all_eq_true];intro x hx;obtain ⟨y,hy,hxy⟩:=List.mem_flatten.1 hx;obtain ⟨z,_,rfl⟩:=List.mem_map.1 hy;rw [List.mem_singleton.1 hxy] <;> rfl
  refine oh Hw hi hz (by rw [hsz]; rfl) (by rw [hsz]; exact s) (ys:=us.map UU) (by rw [List.length_map]; exact SN.len v) (fun y hy=>?_) hc hpl (by rw [hby]; omega) ad hb ?_
  ·obtain ⟨t,_,rfl⟩:=List.mem_map.1 hy;rw [hsz] <;> rfl
  ·intro p' c' h' s' k' hp';rw [hsz,<- List.map_append] at s';exact ⟨_,_,_,rfl,hk p' c' h' s' k'⟩
def ek (u:bJ):List ByteArray:=dL u.text++dL u.data++u.aY.map (·.1)
theorem tV (l:List cB):(dL l).length<=l.length:=by
 unfold dL;rw [List.length_map];exact List.length_filter_le _ _
theorem Nn {h:Hp} {a b c d:cn} {u:bJ} (v:nX h a b c d u) (h1:u.text.length<=2^20) (h2:u.data.length<=2^20) (h3:u.aY.length<=2^20) :
  HC Tryz.prog 11 #[Ce a b c d] h fun w h'=>∃ p' l' c',w=.slice p' l' c'/\SN h' h.size p' l' c' (ek u)/\Ext h h':=by
 refine aX (args:=[Ce a b c d]) mixed Tryz.func11 ax (pX a.p a.l a.c b.p b.l b.c c.p c.l c.c d.p d.l d.c) ?_;unfold kT aZ bg bq aK bG bh aM db;refine bm ?_;intro g1 b1 e1 z1;have b1:bz g1 h.size 30 [a.v,b.v,c.v,d.v]:=b1;simp only [aE];refine af b1 ((a.p,a.l,a.c),()) rfl ?_;refine an ?_;refine af b1 ((b.p,b.l,b.c),()) rfl ?_;refine an ?_;refine aH (nw (c:=a.c) (v.text.ao e1) h1) ?_;rintro _ g2 ⟨p8,l9,l10,rfl,s8,e2⟩;refine ⟨((p8,l9,l10),()),rfl,?_⟩;refine an ?_;have b2:=b1.ao e2 aj;refine ⟨⟨b2.cells _ rfl,trivial⟩,?_⟩;refine aH (nw (c:=b.c) (v.data.ao (e1.trans e2)) h2) ?_;rintro _ g3 ⟨p11,l12,l13,rfl,s11,e3⟩;refine ⟨((p11,l12,l13),()),rfl,?_⟩;refine an ?_;have b3:=b2.ao e3 aj;have q1:=e1.size;have q2:=e2.size;have q3:=e3.size;refine ⟨⟨b3.cells _ rfl,trivial⟩,?_⟩;have s8':SN g3 g1.size p8 l9 l10 (dL u.text):=s8.ao e3 aj;have n8:=SN.len s8;have n11:=SN.len s11;have k8:=tV u.text;have k11:=tV u.data;have e03:=(e1.trans e2).trans e3;refine QA s8' s11 ad ad ?_;intro p14 c14 g4 s14 k4;have e4:=SN.ext e03 s8' ad k4;have nb:h.size∉aJ p8:=fun hi=>by have:=(Ob.SL.bY s8' _ hi).1; omega
 have b4:=b3.ao k4 nb;refine ⟨⟨b4.cells _ rfl,b4.cells _ rfl,trivial⟩,?_⟩;have nc:=v.aY.len;have hu:∀ i,i<u.aY.length->dL u.text++dL u.data++(u.aY.take (i+1)).map (·.1)=(dL u.text++dL u.data++(u.aY.take i).map (·.1))++[(u.aY.getD i (dt,FF)).1]:=by
  intro i hi;rw [List.take_succ_eq_append_getElem hi,List.map_append,<- List.append_assoc,List.getD_eq_getElem?_getD,List.getElem?_eq_getElem hi] <;> rfl
 refine aR (cs:=[(false,[.slice 0]),(false,[.int .i64])]) (fun y m h'=>∃ i:Nat,y.2.1=(i:Int)/\m=u.aY.length-i/\i<=u.aY.length/\(Ext h h'/\g1.size<=h'.size)/\bz h' h.size 30 [a.v,b.v,c.v,d.v]/\SN h' g1.size y.1.1 y.1.2.1 y.1.2.2 (dL u.text++dL u.data++(u.aY.take i).map (·.1))) ((p14,l9+l12,c14),(0:Int),()) u.aY.length rfl
  ⟨0,rfl,rfl,ad,⟨e4,by have:=k4.size; omega⟩,b4,by simpa using s14⟩ ?_
 rintro ⟨⟨p1,l2,l3⟩,n4,⟨⟩⟩ m g5 ⟨i,hi,rfl,hle,⟨e5,z5⟩,b5,s⟩;simp only at hi s;subst hi;refine an ?_;have hz:=e5.size;refine af b5 ((c.p,c.l,c.c),()) rfl ?_;refine an ?_;refine ak (fun q=>?_) (fun q=>?_)
 ·have q:=of_decide_eq_true q;have hil:i<u.aY.length:=ad
  refine af b5 ((c.p,c.l,c.c),()) rfl ?_;refine an ?_;obtain ⟨aa,pp,ll,cc,rfl',hc,va,vn⟩:=(v.aY.ao e5).cells i hil;refine ay ⟨ad,ad⟩ (av rfl' ?_);rw [show Int.toNat (i:Int)=i from ad];refine az (u.aY[i].1,()) ⟨hc.1,trivial⟩ ?_;refine an ?_;have ns:=SN.len s;have hg:(u.aY.getD i (dt,FF)).1=u.aY[i].1:=by
   rw [List.getD_eq_getElem?_getD,List.getElem?_eq_getElem hil] <;> rfl
  refine SN.push s _ (by simp only [List.length_append,List.length_map,List.length_take]; omega) z5 ?_;intro p' c' h2 s2 k2;have nb2:h.size∉aJ p1:=fun hi=>by have:=(Ob.SL.bY s _ hi).1; omega
  refine aF (cs:=[(false,[.slice 0]),(false,[.int .i64])]) ((p',l2+1,c'),((i+1:Nat):Int),()) (u.aY.length-(i+1)) rfl ad (by rw [wrap_i64 ad ad]; rfl) ?_;exact ⟨i+1,rfl,rfl,ad,⟨SN.ext e5 s ad k2,by have:=k2.size; omega⟩,b5.ao k2 nb2,by rw [hu i hil,hg]; exact s2⟩
 ·have q:=of_decide_eq_false q
  have:i=u.aY.length:=ad
  subst this;rw [List.take_length] at s;exact ⟨p1,l2,l3,rfl,Sx.SL.mono s ad,e5⟩
theorem SL.flat {h:Hp} {b:Nat} {e:TypeId} {sz:Nat} {a:Addr} {l c:Nat} {xs:List (List Value)} (s:SL h b e sz (some a) l c xs):aG h a 0 xs.flatten:=by
 obtain ⟨g,pre,rest,rfl,hbg,hlc,hbox,hr⟩:=s.2.2;refine hbox.cells _ ?_;rw [List.drop_left,List.take_left]
def fZ (h:Hp):Prop:=∃ e f,h[1]?=some (.cells (Lib.pow10Tab.map fun z=>Value.int .u64 z).toArray e f)
theorem fZ.ao {ws:List Nat} {h h':Hp} (p:fZ h) (k:Ch ws h h') (hw:1∉ws):fZ h':=by
 obtain ⟨e,f,hp⟩:=p;exact ⟨e,f,k.get hp hw⟩
theorem FM {W:World} {name:String} (hg:Tryz.prog.globalNamed name=some 1) (p:fZ W.heap):Lib.TabIs Tryz.prog W name .u64 Lib.pow10Tab:=by
 obtain ⟨e,f,hp⟩:=p;unfold Lib.TabIs World.var?;rw [hg];show (match W.heap[1]? with | some (.cells cs _ _)=>some cs | _=>none)=_;rw [hp]
theorem N8:Tryz.prog.underlying 182=some (.slice 5):=ax
theorem TZ:Tryz.prog.underlying 5=some (.int .u8):=ax
theorem Uw:Tryz.prog.underlying 9=some .string:=ax
theorem LS {L:Lp} {K:Value->Hp->Prop} {h:Hp} {b:Nat} {p:Option Addr} {l c:Nat} {bs:List UInt8} {k:ByteArray->T} (s:SL h b 5 1 p l c (Lq bs)) (h0:bs≠[]) (hk:k ⟨bs.toArray⟩ L K h) :
  T.dY Tryz.prog (convert 182 9 (.slice p l c)) false [(false,[.string])] k L K h:=by
 show aQ Tryz.prog (convert 182 9 (.slice p l c)) h _;unfold convert;rw [ar,aD N8,ar,aD Uw];show aQ Tryz.prog (do match <- underlying 5 with
  | .int .u8=>Conv.bytesToString (.slice p l c)
  | .int .i32=>Conv.runesToString (.slice p l c)
  | _ => stuck "Convert: a slice of what to string?") h _
 rw [ar,aD TZ];cases p with
 | none =>
  have h1:Lq bs=[]:=s.2.2.2
  have:bs=[]:=by simpa [Lq] using h1
  exact absurd this h0
 | some a =>
  have hl:l=bs.length:=by rw [s.1,Gg]
  subst hl;have hf:=SL.flat s;rw [Lh] at hf;exact IT a bs c _ hf ⟨(⟨bs.toArray⟩,()),rfl,hk⟩
theorem R4 (n:Nat):IntKind.wrap .u8 (IntKind.wrap .i64 ((48:Int)+(Int.tmod (n:Int) (10:Int))))=((UInt8.ofNat (48+n % 10)).toNat:Int):=by
 have e:Int.tmod (n:Int) 10=((n % 10:Nat):Int):=by
  rw [Int.tmod_eq_emod_of_nonneg ad] <;> rfl
 rw [e,wrap_i64 ad ad,wrap_u8 ad ad]
 simp
 omega
end Go.Sx.Ob
namespace Go.Sx.BB
open Go.Sx Go.Sx.Ob
open Go.Proofs
def Rp (b:UInt8):List Value:=[.int .u8 (b.toNat:Int)]
end Go.Sx.BB
namespace Go.Sx.Ob
open Go.Proofs
theorem tZ {h:Hp} {b b':Nat} {e e':TypeId} {sz sz':Nat} {p q:Option Addr} {l c l' c':Nat} {xs ys:List (List Value)} (s:SL h b e sz p l c xs) (t:SL h b' e' sz' q l' c' ys) (he:e≠e'):∀ i,i∈aJ p->i∉aJ q:=fun i h1 h2=>by
 obtain ⟨x1,b1⟩:=SL.Ay s i h1;obtain ⟨x2,b2⟩:=SL.Ay t i h2;unfold bz at b1 b2;rw [b1] at b2;simp only [Option.some.injEq,Obj.cells.injEq] at b2;exact he b2.2.1
theorem SN.put {L:Lp} {K:Value->Hp->Prop} {h:Hp} {b:Nat} {p:Option Addr} {l c:Nat} {xs:List ByteArray} (v:SN h b p l c xs) {i:Nat} (hi:i<xs.length) (x:ByteArray) {a:Addr} (ha:p=some a) {k:T}
  (hk:∀ h',SN h' b p l c (xs.set i x)->Ch (aJ p) h h'->h'.size=h.size->k L K h'):T.aC (a.add (i*1)) [.string x] k L K h:=by
 refine SL.store (P:=Tryz.prog) v (i:=i) (vs:=UU x) (by rw [List.length_map]; exact hi) rfl rfl ha ?_;intro h' s' ch z;refine hk h' ?_ ch z;unfold SN;rw [List.map_set];exact s'
theorem Fb (zs:List ByteArray) (j:Nat) (hj:0<j) (hl:j<zs.length):(zs.set j (zs[j-1]'ad)).eraseIdx (j-1)=zs.eraseIdx j:=by
 apply List.ext_getElem?;intro k;rw [List.getElem?_eraseIdx,List.getElem?_eraseIdx]
 by_cases h1:k<j-1
 ·rw [if_pos h1,if_pos ad,List.getElem?_set_ne ad]
 ·rw [if_neg h1]
  by_cases h2:k<j
  ·have:k=j-1:=ad
   subst this;rw [if_pos h2,show j-1+1=j from ad,List.getElem?_set_self hl,List.getElem?_eq_getElem ad]
  ·rw [if_neg h2,List.getElem?_set_ne ad]
theorem O0 (zs:List ByteArray) (j:Nat) (hl:j<zs.length) (x s:ByteArray):fz (zs.set j x) s=(fz (zs.eraseIdx j) s || decide (x=s)):=by
 unfold fz;rw [List.set_eq_take_append_cons_drop,if_pos hl,List.eraseIdx_eq_take_drop_succ];simp only [List.any_append,List.any_cons]
 all_goals (cases List.any (zs.take j) (fun t=>decide (t=s)) <;> cases List.any (zs.drop (j+1)) (fun t=>decide (t=s)) <;> cases decide (x=s) <;> rfl)
theorem ov {D:List ByteArray} {s:ByteArray}:fz D s=true↔s∈D:=by
 unfold fz;rw [List.any_eq_true];constructor
 ·rintro ⟨t,ht,e⟩;rw [<- of_decide_eq_true e];exact ht
 ·intro hs;exact ⟨s,hs,decide_eq_true rfl⟩
theorem yK (l:List ByteArray) (x:ByteArray):(l++[x]).Nodup↔l.Nodup/\x∉l:=by
 rw [List.nodup_append];constructor
 ·rintro ⟨a,_,c⟩;exact ⟨a,fun hx=>c x hx x aj rfl⟩
 ·rintro ⟨a,b⟩;refine ⟨a,aj,fun y hy z hz e=>?_⟩;rw [List.mem_singleton.1 hz] at e;exact b (e▸hy)
theorem rQ {h : Hp} {b : Nat} {p : Option Addr} {l c : Nat} {xs : List ByteArray} (v : SN h b p l c xs) (hm : xs.length <= 2 ^ 30) :
    HC Tryz.prog 37 #[.slice p l c] h fun w h' => ∃ p' c' ys, w = .slice p' (ys : List ByteArray).length c' /\ ys.length <= xs.length /\ (ys.length = xs.length ↔ xs.Nodup) /\ Ext h h' := by
  refine aX (args := [.slice p l c]) mixed Tryz.func37 ax (mP p l c) ?_;unfold iN aZ bg bq aK aU bh bi bd aM db;have n := SN.len v
  refine aR (cs := [(false, [.slice 0]), (false, [.int .i64])]) (fun y m h' => ∃ (i : Nat) (ys : List ByteArray), y.2.1 = (i : Int) /\ m = xs.length - i /\ i <= xs.length /\ Ext h h' /\ SN h' h.size y.1.1 y.1.2.1 y.1.2.2 ys /\ ys.length <= i /\ (∀ s, fz ys s = fz (xs.take i) s) /\ (ys.length = i ↔ (xs.take i).Nodup)) ((none, 0, 0), (0 : Int), ()) xs.length rfl
    ⟨0, [], rfl, rfl, ad, Ch.refl _ _, SL.nil _ _ _ _, aj, fun s => rfl, aj⟩ ?_
  rintro ⟨⟨p1, l2, l3⟩, n4, ⟨⟩⟩ m h1 ⟨i, ys, hi, rfl, hle, e1, s, hyl, hin, hnd⟩;simp only at hi s;subst hi;refine an ?_;have hz := e1.size;have ny := SN.len s;refine ak (fun q => ?_) (fun q => ?_)
  · have q := of_decide_eq_true q
    have hil : i < xs.length :=ad
    have hx : ∀ {g}, Ext h g -> ∃ a, p = some a /\ aG g (a.add (i * 1)) 0 [.string xs[i]] := by
      intro g e;obtain ⟨a, ha, hc⟩ := SN.cell v hil;exact ⟨a, ha, aT e aj _ _ hc⟩
    have htk : xs.take (i + 1) = xs.take i ++ [xs[i]] := List.take_succ_eq_append_getElem hil;generalize hxv : xs[i] = x at hx htk;obtain ⟨a, ha, hc⟩ := hx e1;refine ay ⟨ad, ad⟩ (av ha ?_);rw [show Int.toNat (i : Int) = i from ad];refine az (x, ()) hc ?_;refine an ?_;refine aI (CL s ad x) ?_;rw [hin];have hinx : fz (xs.take i) x = true ↔ x ∈ xs.take i := ov;refine ak (fun r => ?_) (fun r => ?_)
    · have r2 := hinx.1 r
      refine aF (cs := [(false, [.slice 0]), (false, [.int .i64])]) ((p1, l2, l3), ((i + 1 : Nat) : Int), ()) (xs.length - (i + 1)) rfl ad (by rw [wrap_i64 ad ad]; rfl) ?_;refine ⟨i + 1, ys, rfl, rfl, ad, e1, s, ad, fun t => ?_, ?_⟩
      · rw [hin, htk]
        by_cases e : x = t
        · subst e
          rw [r];exact (ov.2 (List.mem_append.2 (.inl r2))).symm
        · unfold fz
          rw [List.any_append];simp [e]
      · rw [htk, yK]
        exact ⟨fun k => ad, fun k => absurd r2 k.2⟩
    · have r2 : x ∉ xs.take i := fun k => by rw [hinx.2 k] at r; cases r
      refine ay ⟨ad, ad⟩ (av ha ?_);refine az (x, ()) hc ?_;refine an ?_;refine SN.push s x ad hz ?_;intro p' c' h2 s2 k2;have e2 := SN.ext e1 s (Nat.le_refl _) k2
      refine aR (cs := [(false, [.int .i64])]) (fun y m h' => ∃ (j : Nat) (zs : List ByteArray), y.1 = (j : Int) /\ m = j /\ j <= ys.length /\ zs.length = ys.length + 1 /\ zs.eraseIdx j = ys /\ Ext h h' /\ SN h' h.size p' (l2 + 1) c' zs) ((l2 : Int), ()) ys.length rfl
        ⟨ys.length, ys ++ [x], by rw [ny], rfl, ad, aj, by rw [List.eraseIdx_append_of_length_le ad]; simp, e2, s2⟩ ?_
      rintro ⟨n16, ⟨⟩⟩ m h3 ⟨j, zs, hj, rfl, hjl, hzl, hze, e3, s3⟩;simp only at hj;subst hj;refine an ?_
      have hpl : ∃ a2, p' = some a2 := by
        obtain ⟨a2, h2, _⟩ := SN.cell s3 (i := 0) ad;exact ⟨a2, h2⟩
      obtain ⟨a2, ha2⟩ := hpl
      have last : (T.need (((0 : Int) <= (i : Int)) /\ ((i : Int) < (l : Int))) <|
         T.bk p fun (a21 : Addr) =>
         T.ah (a21.add ((Int.toNat (i : Int)) * 1)) [.string] <| fun (s22 : ByteArray) =>
         T.need (((0 : Int) <= (m : Int)) /\ ((m : Int) < ((l2 + 1 : Nat) : Int))) <|
         T.bk p' fun (a23 : Addr) =>
         T.aC (a23.add ((Int.toNat (m : Int)) * 1)) [.string s22] <|
         T.again 0 [.slice p' (l2 + 1) c', .int .i64 (IntKind.wrap .i64 ((i : Int) + (1 : Int)))])
         ([] ++ [Jl (cs := [(false, [.slice 0]), (false, [.int .i64])]) (fun y m h' => ∃ (i : Nat) (ys : List ByteArray), y.2.1 = (i : Int) /\ m = xs.length - i /\ i <= xs.length /\ Ext h h' /\ SN h' h.size y.1.1 y.1.2.1 y.1.2.2 ys /\ ys.length <= i /\ (∀ s, fz ys s = fz (xs.take i) s) /\ (ys.length = i ↔ (xs.take i).Nodup)) (xs.length - i)] ++
          [Jl (cs := [(false, [.int .i64])]) (fun y m h' => ∃ (j : Nat) (zs : List ByteArray), y.1 = (j : Int) /\ m = j /\ j <= ys.length /\ zs.length = ys.length + 1 /\ zs.eraseIdx j = ys /\ Ext h h' /\ SN h' h.size p' (l2 + 1) c' zs) m])
         (fun w h' => ∃ p' c' ys, w = .slice p' (ys : List ByteArray).length c' /\ ys.length <= xs.length /\ (ys.length = xs.length ↔ xs.Nodup) /\ Ext h h') h3 := by
        obtain ⟨a, ha, hc⟩ := hx e3;refine ay ⟨ad, ad⟩ (av ha ?_);rw [show Int.toNat (i : Int) = i from ad];refine az (x, ()) hc ?_;refine an ?_;refine ay ⟨ad, ad⟩ (av ha2 ?_);rw [show Int.toNat (m : Int) = m from ad];refine SN.put s3 ad x ha2 ?_;intro h4 s4 k4 z4;refine aF (cs := [(false, [.slice 0]), (false, [.int .i64])]) ((p', l2 + 1, c'), ((i + 1 : Nat) : Int), ()) (xs.length - (i + 1)) rfl ad (by rw [wrap_i64 ad ad]; rfl) ?_;refine ⟨i + 1, zs.set m x, rfl, rfl, ad, SN.ext e3 s3 (Nat.le_refl _) k4, s4, by rw [List.length_set]; omega, fun t => ?_, ?_⟩
        · rw [O0 zs m ad, hze, hin, htk]
          unfold fz;rw [List.any_append]
          simp
        · rw [List.length_set, htk, yK, <- hnd, hzl]
          exact ⟨fun k => ⟨ad, r2⟩, fun k => ad⟩
      refine ak (fun q2 => ?_) (fun q2 => last);have q2 := of_decide_eq_true q2;rw [wrap_i64 ad ad];obtain ⟨a3, ha3, hc3⟩ := SN.cell s3 (i := m - 1) ad;refine ay ⟨ad, ad⟩ (av ha3 ?_);rw [show Int.toNat ((m : Int) - 1) = m - 1 from ad];refine az (zs[m - 1]'ad, ()) hc3 ?_;refine an ?_;obtain ⟨a, ha, hc⟩ := hx e3;refine ay ⟨ad, ad⟩ (av ha ?_);refine az (x, ()) hc ?_;refine an ?_;refine ak (fun q3 => ?_) (fun q3 => ?_)
      · refine ay ⟨ad, ad⟩ (av ha3 ?_)
        refine az (zs[m - 1]'ad, ()) hc3 ?_;refine an ?_;refine ay ⟨ad, ad⟩ (av ha2 ?_);rw [show Int.toNat (m : Int) = m from ad];refine SN.put s3 ad _ ha2 ?_;intro h4 s4 k4 z4;refine aF (cs := [(false, [.int .i64])]) (((m - 1 : Nat) : Int), ()) (m - 1) rfl ad (by rw [show (m : Int) - 1 = ((m - 1 : Nat) : Int) from ad]; rfl) ?_;exact ⟨m - 1, _, rfl, rfl, ad, by rw [List.length_set]; exact hzl, by rw [Fb zs m ad ad]; exact hze, SN.ext e3 s3 (Nat.le_refl _) k4, s4⟩
      · have := last
        rw [show Int.toNat (i : Int) = i from ad] at this;exact this
  · have q := of_decide_eq_false q
    have : i = xs.length :=ad
    subst this;rw [List.take_length] at hnd;exact ⟨p1, l3, ys, by rw [ny], hyl, hnd, e1⟩
def Dq (e:qi):Bool:=cM e.1.data.toList && mS none e.2.ai
def wQ (u:bJ):Bool:=u.text.all (fun x=>cr x 0) && (u.data.all (fun x=>cr x 1) && (u.aY.all Dq && (decide (ek u).Nodup && cQ (ek u) dt u.aP)))
theorem rL (x:cB) (l:List cB):dL (x::l)=(if x.kind=1 then [x.name] else [])++dL l:=by
 unfold dL
 by_cases h:x.kind=1 <;> simp [h]
theorem EY (D:List ByteArray) (x:cB) (s:ByteArray):s∈sY D x↔s∈D\/s∈(if x.kind=1 then [x.name] else []):=by
 unfold sY;split <;> simp [or_comm]
theorem qN (sec:Nat):∀ (l:List cB) (D:List ByteArray),eH sec D l=true↔(∀ x,x∈l->cr x sec=true)/\(∀ s,s∈dL l->s∉D)/\(dL l).Nodup
 | [],D=>by simp [eH,dL]
 | x::l,D=>by
  rw [eH,Bool.and_eq_true,qN sec l,rL];unfold xL;rw [Bool.and_eq_true,List.nodup_append]
  by_cases h:x.kind=1
  ·simp only [h,decide_true,Bool.true_and,if_true,Bool.not_eq_true',List.mem_cons,List.mem_append,List.mem_singleton,List.not_mem_nil,or_false];have hin:fz D x.name=false↔x.name∉D:=by
    rw [<- Bool.not_eq_true,ov]
   rw [hin];have ha:∀ s,s∈sY D x↔s=x.name\/s∈D:=fun s=>by
    rw [EY,if_pos h];simp [or_comm]
   simp only [ha];constructor
   ·rintro ⟨⟨a,b⟩,c,d,e⟩;refine ⟨?_,?_,?_,e,?_⟩
    ·rintro y (rfl | hy)
     ·exact a
     ·exact c y hy
    ·rintro s (rfl | hs)
     ·exact b
     ·exact fun k=>d s hs (.inr k)
    ·simp
    ·intro y hy z hz hyz;exact d z hz (.inl (hyz▸hy))
   ·rintro ⟨a,b,c,d,e⟩;refine ⟨⟨a x (.inl rfl),b _ (.inl rfl)⟩,fun y hy=>a y (.inr hy),fun s hs k=>?_,d⟩;rcases k with rfl | k
    ·exact e _ rfl _ hs rfl
    ·exact b s (.inr hs) k
  ·have ha:sY D x=D:=by unfold sY; rw [if_neg h]
   simp only [h,decide_false,Bool.false_and,if_false,Bool.not_false,and_true,List.mem_cons,List.nil_append,ha];constructor
   ·rintro ⟨a,c,d,e⟩;refine ⟨?_,d,aj,e,aj⟩;rintro y (rfl | hy)
    ·exact a
    ·exact c y hy
   ·rintro ⟨a,b,_,d,_⟩;exact ⟨a x (.inl rfl),fun y hy=>a y (.inr hy),b,d⟩
theorem yA:∀ (l:List qi) (D:List ByteArray),fT D l=true↔(∀ x,x∈l->Dq x=true)/\(∀ s,s∈l.map (·.1)->s∉D)/\(l.map (·.1)).Nodup
 | [],D=>by simp [fT]
 | x::l,D=>by
  rw [fT,Bool.and_eq_true,yA l,List.map_cons,List.nodup_cons];have hok:Bc D x=true↔x.1∉D/\Dq x=true:=by
   unfold Bc Dq;rw [Bool.and_eq_true,Bool.and_eq_true,Bool.and_eq_true,Bool.not_eq_true',<- Bool.not_eq_true,ov,and_assoc]
  rw [hok];simp only [List.mem_cons];constructor
  ·rintro ⟨⟨a,b⟩,c,d,e⟩;refine ⟨?_,?_,?_,e⟩
   ·rintro y (rfl | hy)
    ·exact b
    ·exact c y hy
   ·rintro s (rfl | hs)
    ·exact a
    ·exact fun k=>d s hs (.inr k)
   ·exact fun hs=>d _ hs (.inl rfl)
  ·rintro ⟨a,b,c,d⟩;refine ⟨⟨b _ (.inl rfl),a x (.inl rfl)⟩,fun y hy=>a y (.inr hy),fun s hs k=>?_,d⟩;rcases k with rfl | k
   ·exact c hs
   ·exact b s (.inr hs) k
theorem kI:∀ (l:List cB) (D:List ByteArray) (s:ByteArray),s∈cI D l↔s∈D\/s∈dL l
 | [],D,s=>by simp [cI,dL]
 | x::l,D,s=>by
  show s∈cI (sY D x) l↔_;rw [kI l,EY,rL,List.mem_append,or_assoc]
theorem y5:∀ (l:List qi) (D:List ByteArray) (s:ByteArray),s∈aS D l↔s∈D\/s∈l.map (·.1)
 | [],D,s=>by simp [aS]
 | x::l,D,s=>by
  show s∈aS (x.1::D) l↔_;rw [y5 l,List.map_cons,List.mem_cons,List.mem_cons,<- or_assoc,or_comm (a:=s=x.1)]
theorem IN {D E:List ByteArray} (h:∀ s,s∈D↔s∈E) (s:ByteArray):fz D s=fz E s:=by
 have:fz D s=true↔fz E s=true:=by rw [ov,ov]; exact h s
 exact Bool.eq_iff_iff.2 this
theorem sQ {D E:List ByteArray} (h:∀ s,s∈D↔s∈E):∀ (l:List ByteArray) (o:ByteArray),cQ D o l=cQ E o l
 | [],o=>rfl
 | x::l,o=>by
  rw [cQ,cQ,sQ h l,Pd,Pd,IN h]
theorem wg (u:bJ):sO u=wQ u:=by
 have hg:cQ u.names dt u.aP=cQ (ek u) dt u.aP:=by
  refine sQ (fun s=>?_) _ _;unfold bJ.names ek;rw [y5,kI,kI];simp [or_assoc]
 rw [Bool.eq_iff_iff];unfold sO wQ;rw [Bool.and_eq_true,Bool.and_eq_true,Bool.and_eq_true,Bool.and_eq_true,Bool.and_eq_true,Bool.and_eq_true,Bool.and_eq_true,qN,qN,yA,hg,List.all_eq_true,List.all_eq_true,List.all_eq_true,decide_eq_true_iff];unfold ek;rw [List.nodup_append,List.nodup_append];have e1:∀ s,s∈cI [] u.text↔s∈dL u.text:=fun s=>by rw [kI]; simp
 have e2:∀ s,s∈cI (cI [] u.text) u.data↔s∈dL u.text\/s∈dL u.data:=fun s=>by rw [kI,e1]
 simp only [e1,e2,List.mem_append];constructor
 ·rintro ⟨⟨⟨⟨a1,a2,a3⟩,b1,b2,b3⟩,c1,c2,c3⟩,g⟩;refine ⟨a1,b1,c1,⟨⟨a3,b3,fun x hx y hy e=>b2 y hy (e▸hx)⟩,c3,fun x hx y hy e=>c2 y hy (e▸hx)⟩,g⟩
 ·rintro ⟨a1,b1,c1,⟨⟨a3,b3,d⟩,c3,f⟩,g⟩;exact ⟨⟨⟨⟨a1,fun s _=>aj,a3⟩,b1,fun s hs k=>d s k s hs rfl,b3⟩,c1,fun s hs k=>f s k s hs rfl,c3⟩,g⟩
theorem qo {α:Type} (f:α->Bool) (l:List α) {i:Nat} (hi:i<l.length):(l.drop i).all f=(f l[i] && (l.drop (i+1)).all f):=by
 rw [List.drop_eq_getElem_cons hi,List.all_cons]
theorem VN {h:Hp} {p:Option Addr} {l:Nat} {x:bX} (v:nB h p l x):gn h p l x.ai/\x.ai.length<=9223372036854775807/\∀ t,t∈x.ai->t.1.size<=maxLen:=⟨v.vw,by have:=v.many; omega,v.names⟩
def zr (D:List ByteArray):Prop:=∀ g,g∈D->cM g.data.toList=true
theorem zr.snoc {D E:List ByteArray} (h:zr D) (k:zr E):zr (D++E):=fun g hg=>(List.mem_append.1 hg).elim (h g) (k g)
theorem zr.item {x:cB} {sec:Nat} (r:cr x sec=true):zr (if x.kind=1 then [x.name] else []):=by
 intro g hg;split at hg
 ·rename_i r1;rw [List.mem_singleton.1 hg];rw [Da r1,Bool.and_eq_true] at r;exact r.1
 ·simp at hg
theorem Jj {h:Hp} {a b c d:cn} {u:bJ} (v:nX h a b c d u):HC Tryz.prog 10 #[Ce a b c d] h fun w h'=>w=.int .i64 (dC u:Nat)/\Ext h h':=by
 refine aX (args:=[Ce a b c d]) mixed Tryz.func10 ax (nY a.p a.l a.c b.p b.l b.c c.p c.l c.c d.p d.l d.c) ?_;unfold jt aZ bg bq aK aU cD bG bi aM;refine bm ?_;intro g1 b1 e1 z1;have b1:bz g1 h.size 30 [a.v,b.v,c.v,d.v]:=b1;have m1:=v.text.many;have m2:=v.data.many;have m3:=v.aY.many;have m4:=v.aP.many;have n1:=v.text.len;have n2:=v.data.len;have n3:=v.aY.len;have n4:=v.aP.len;simp only [aE];refine af b1 ((a.p,a.l,a.c),()) rfl ?_;refine an ?_;refine af b1 ((b.p,b.l,b.c),()) rfl ?_;refine an ?_;rw [wrap_i64 ad ad];unfold dC uB;refine ak (fun q=>?_) (fun q=>?_)
 ·have q:=of_decide_eq_true q;exact ⟨by rw [decide_eq_true (show 8192<u.text.length+u.data.length from ad)]; rfl,e1⟩
 have q:=of_decide_eq_false q;rw [decide_eq_false (show ¬ 8192<u.text.length+u.data.length from ad),Bool.false_or];refine af b1 ((c.p,c.l,c.c),()) rfl ?_;refine an ?_;refine ak (fun q=>?_) (fun q=>?_)
 ·have q:=of_decide_eq_true q;exact ⟨by rw [decide_eq_true (show 8192<u.aY.length from ad)]; rfl,e1⟩
 have q:=of_decide_eq_false q;rw [decide_eq_false (show ¬ 8192<u.aY.length from ad),if_neg aj,wg];generalize hU:wQ u=U;unfold wQ at hU;refine aR (cs:=[(false,[.int .i64]),(false,[.int .i64])]) (fun y w h'=>∃ i:Nat,y.2.1=(i:Int)/\w=u.text.length-i/\i<=u.text.length/\Ext h h'/\bz h' h.size 30 [a.v,b.v,c.v,d.v]/\zr (dL (u.text.take i))/\((u.text.drop i).all (fun x=>cr x 0) && (u.data.all (fun x=>cr x 1) && (u.aY.all Dq && (decide (ek u).Nodup && cQ (ek u) dt u.aP))))=U) ((0:Int),(0:Int),()) u.text.length rfl
  ⟨0,rfl,rfl,ad,e1,b1,fun g hg=>by simp [dL] at hg,hU⟩ ?_
 clear hU;rintro ⟨n21,n22,⟨⟩⟩ w h2 ⟨i,hi,rfl,hle,e2,b2,hg1,hu⟩;simp only at hi;subst hi;refine an ?_;refine af b2 ((a.p,a.l,a.c),()) rfl ?_;refine an ?_;refine ak ?_ ?_
 case _ =>
  intro q;have q:=of_decide_eq_true q;have hil:i<u.text.length:=ad
  refine af b2 ((a.p,a.l,a.c),()) rfl ?_;refine an ?_;obtain ⟨aa,pp,ll,cc,rfl',hc,va⟩:=(v.text.ao e2).cells i hil;rw [qo _ _ hil] at hu;have ht:=vP u.text i hil;generalize u.text[i]=x at hc va hu ht;refine ay ⟨ad,ad⟩ (av rfl' ?_);rw [show Int.toNat (i:Int)=i from ad];refine az (x.kind,x.name,x.inst.op,x.inst.a,x.inst.b,x.inst.n,x.inst.form,(pp,ll,cc),(x.e.num:Int),x.n,()) hc ?_;refine an ?_;refine aH (BN (c:=cc) (k:=0) va ad) ?_;rintro _ h3 ⟨rfl,e3⟩;refine ⟨((if cr x 0 then 0 else 31:Int),()),rfl,?_⟩;refine an ?_;cases hr:cr x 0 with
  | false =>
   refine bT aj ?_;refine ⟨by rw [<- hu,hr]; rfl,e2.trans e3⟩
  | true =>
   refine bZ aj ?_;rw [hr,Bool.true_and] at hu;refine aF (cs:=[(false,[.int .i64]),(false,[.int .i64])]) (n21,((i+1:Nat):Int),()) (u.text.length-(i+1)) rfl ad (by rw [wrap_i64 ad ad]; rfl) ?_;exact ⟨i+1,rfl,rfl,ad,e2.trans e3,b2.ao e3 aj,by rw [ht]; exact hg1.snoc (zr.item hr),hu⟩
 intro q;have q:=of_decide_eq_false q
 have:i=u.text.length:=ad
 subst this;rw [List.drop_length,List.all_nil,Bool.true_and] at hu;rw [List.take_length] at hg1;clear e1 b1;refine aR (cs:=[(false,[.int .i64]),(false,[.int .i64])]) (fun y w h'=>∃ i:Nat,y.2.1=(i:Int)/\w=u.data.length-i/\i<=u.data.length/\Ext h h'/\bz h' h.size 30 [a.v,b.v,c.v,d.v]/\zr (dL (u.data.take i))/\((u.data.drop i).all (fun x=>cr x 1) && (u.aY.all Dq && (decide (ek u).Nodup && cQ (ek u) dt u.aP)))=U) (n21,(0:Int),()) u.data.length rfl
  ⟨0,rfl,rfl,ad,e2,b2,fun g hg=>by simp [dL] at hg,hu⟩ ?_
 clear hu e2 b2;rintro ⟨n31,n32,⟨⟩⟩ w h4 ⟨i,hi,rfl,hle,e2,b2,hg2,hu⟩;simp only at hi;subst hi;refine an ?_;refine af b2 ((b.p,b.l,b.c),()) rfl ?_;refine an ?_;refine ak ?_ ?_
 case _ =>
  intro q;have q:=of_decide_eq_true q;have hil:i<u.data.length:=ad
  refine af b2 ((b.p,b.l,b.c),()) rfl ?_;refine an ?_;obtain ⟨aa,pp,ll,cc,rfl',hc,va⟩:=(v.data.ao e2).cells i hil;rw [qo _ _ hil] at hu;have ht:=vP u.data i hil;generalize u.data[i]=x at hc va hu ht;refine ay ⟨ad,ad⟩ (av rfl' ?_);rw [show Int.toNat (i:Int)=i from ad];refine az (x.kind,x.name,x.inst.op,x.inst.a,x.inst.b,x.inst.n,x.inst.form,(pp,ll,cc),(x.e.num:Int),x.n,()) hc ?_;refine an ?_;refine aH (BN (c:=cc) (k:=1) va ad) ?_;rintro _ h3 ⟨rfl,e3⟩;refine ⟨((if cr x 1 then 0 else 31:Int),()),rfl,?_⟩;refine an ?_;cases hr:cr x 1 with
  | false =>
   refine bT aj ?_;refine ⟨by rw [<- hu,hr]; rfl,e2.trans e3⟩
  | true =>
   refine bZ aj ?_;rw [hr,Bool.true_and] at hu;refine aF (cs:=[(false,[.int .i64]),(false,[.int .i64])]) (n31,((i+1:Nat):Int),()) (u.data.length-(i+1)) rfl ad (by rw [wrap_i64 ad ad]; rfl) ?_;exact ⟨i+1,rfl,rfl,ad,e2.trans e3,b2.ao e3 aj,by rw [ht]; exact hg2.snoc (zr.item hr),hu⟩
 intro q;have q:=of_decide_eq_false q
 have:i=u.data.length:=ad
 subst this;rw [List.drop_length,List.all_nil,Bool.true_and] at hu;rw [List.take_length] at hg2;refine aR (cs:=[(false,[.int .i64]),(false,[.int .i64])]) (fun y w h'=>∃ i:Nat,y.2.1=(i:Int)/\w=u.aY.length-i/\i<=u.aY.length/\Ext h h'/\bz h' h.size 30 [a.v,b.v,c.v,d.v]/\zr ((u.aY.take i).map (·.1))/\((u.aY.drop i).all Dq && (decide (ek u).Nodup && cQ (ek u) dt u.aP))=U) (n31,(0:Int),()) u.aY.length rfl
  ⟨0,rfl,rfl,ad,e2,b2,fun g hg=>by simp at hg,hu⟩ ?_
 clear hu e2 b2;rintro ⟨n41,n42,⟨⟩⟩ w h4 ⟨i,hi,rfl,hle,e2,b2,hg3,hu⟩;simp only at hi;subst hi;refine an ?_;refine af b2 ((c.p,c.l,c.c),()) rfl ?_;refine an ?_;refine ak ?_ ?_
 case _ =>
  intro q;have q:=of_decide_eq_true q;have hil:i<u.aY.length:=ad
  refine af b2 ((c.p,c.l,c.c),()) rfl ?_;refine an ?_;obtain ⟨aa,pp,ll,cc,rfl',hc,va,vn⟩:=(v.aY.ao e2).cells i hil;rw [qo _ _ hil] at hu;have ht:(u.aY.take (i+1)).map (·.1)=(u.aY.take i).map (·.1)++[u.aY[i].1]:=by rw [List.take_succ_eq_append_getElem hil,List.map_append]; rfl
  generalize u.aY[i]=x at hc va vn hu ht;unfold Dq at hu;refine ay ⟨ad,ad⟩ (av rfl' ?_);rw [show Int.toNat (i:Int)=i from ad];refine az (x.1,()) ⟨hc.1,trivial⟩ ?_;refine an ?_;refine aI (rD x.1 _ (by have:maxLen=9223372036854775807:=rfl; omega)) ?_;cases hle:cM x.1.data.toList with
  | false =>
   refine bT aj ?_;refine ⟨by rw [<- hu,hle]; rfl,e2⟩
  | true =>
   refine bZ aj ?_;rw [hle,Bool.true_and] at hu;refine af b2 ((c.p,c.l,c.c),()) rfl ?_;refine an ?_;refine ay ⟨ad,ad⟩ (av rfl' ?_);refine az ((pp,ll,cc),(x.2.num:Int),()) ⟨by rw [add_add]; exact hc.2.1,by rw [add_add]; exact hc.2.2.1,trivial⟩ ?_;refine an ?_;obtain ⟨w1,w2,w3⟩:=VN va;refine gw (tv w1 w2 w3) ?_;intro h3 e3;cases hr:mS none x.2.ai with
   | false =>
    refine bT aj ?_;refine ⟨by rw [<- hu,hr]; rfl,e2.trans e3⟩
   | true =>
    refine bZ aj ?_;rw [hr,Bool.true_and] at hu;refine aF (cs:=[(false,[.int .i64]),(false,[.int .i64])]) (n41,((i+1:Nat):Int),()) (u.aY.length-(i+1)) rfl ad (by rw [wrap_i64 ad ad]; rfl) ?_;exact ⟨i+1,rfl,rfl,ad,e2.trans e3,b2.ao e3 aj,by rw [ht]; exact hg3.snoc (fun g hg=>by rw [List.mem_singleton.1 hg]; exact hle),hu⟩
 intro q;have q:=of_decide_eq_false q
 have:i=u.aY.length:=ad
 subst this;rw [List.drop_length,List.all_nil,Bool.true_and] at hu;rw [List.take_length] at hg3;refine af b2 ((a.p,a.l,a.c),(b.p,b.l,b.c),(c.p,c.l,c.c),(d.p,d.l,d.c),()) rfl ?_;refine an ?_;refine aH (Nn (v.ao e2) ad ad ad) ?_;rintro _ h5 ⟨p38,l39,l40,rfl,s5,e5⟩;refine ⟨((p38,l39,l40),()),rfl,?_⟩;refine an ?_;have hA:(ek u).length<=2^20:=by
  unfold ek
  have:=tV u.text
  have:=tV u.data
  simp only [List.length_append,List.length_map];omega
 have n5:=SN.len s5;refine aH (rQ s5 ad) ?_;rintro _ h6 ⟨p41,l43,ys,rfl,hy1,hy2,e6⟩;refine ⟨((p41,ys.length,l43),()),rfl,?_⟩;refine an ?_;have e56:=e5.trans e6;have e06:=e2.trans e56
 by_cases hnd:(ek u).Nodup
 case neg =>
  rw [decide_eq_false hnd] at hu;refine bT ?_ ⟨by rw [<- hu]; rfl,e06⟩
  have:¬ ys.length=(ek u).length:=fun k=>hnd (hy2.1 k)
  rw [n5];simp only [bne_iff_ne,ne_eq];omega
 rw [decide_eq_true hnd,Bool.true_and] at hu;have hy:=hy2.2 hnd;refine bZ (by rw [n5,hy]; simp) ?_;have s6:SN h6 h4.size p38 l39 l40 (ek u):=s5.ao e6 aj;have b6:=b2.ao e56 aj;have hleg:∀ g,g∈ek u->gF dt g:=fun g hg=>EX (((hg1.snoc hg2).snoc hg3) g hg)
 generalize ek u=E at hu s6 hA hleg;refine aR (cs:=[(false,[.int .i64]),(false,[.int .i64])]) (fun y w h'=>∃ i:Nat,y.2.1=(i:Int)/\w=u.aP.length-i/\i<=u.aP.length/\h'=h6/\cQ E (nN u.aP i) (u.aP.drop i)=U) (n41,(0:Int),()) u.aP.length rfl
  ⟨0,rfl,rfl,ad,rfl,hu⟩ ?_
 clear hu;rintro ⟨n51,n52,⟨⟩⟩ w h7 ⟨i,hi,rfl,hile,rfl,hu⟩;simp only at hi;subst hi;refine an ?_;refine af b6 ((d.p,d.l,d.c),()) rfl ?_;refine an ?_;refine ak (fun q=>?_) (fun q=>?_)
 ·have q:=of_decide_eq_true q;have hil:i<u.aP.length:=ad
  obtain ⟨aa,rfl',hc,va⟩:=(v.aP.ao e06).cells i hil;rw [ux _ _ hil] at hu;unfold Pd at hu;refine ak (fun r2=>?_) (fun r2=>?_)
  ·have r2:=of_decide_eq_true r2;refine af b6 ((d.p,d.l,d.c),()) rfl ?_;refine an ?_;refine ay ⟨ad,ad⟩ (av rfl' ?_);rw [show Int.toNat (i:Int)=i from ad,wrap_i64 (x:=(i:Int)-1) ad ad];refine az (u.aP[i],()) hc ?_;refine an ?_;refine af b6 ((d.p,d.l,d.c),()) rfl ?_;refine an ?_;obtain ⟨ab,rfl'',hc',va'⟩:=(v.aP.ao e06).cells (i-1) ad;refine ay ⟨ad,ad⟩ (av rfl'' ?_);rw [show Int.toNat ((i:Int)-1)=i-1 from ad];refine az (u.aP[i-1],()) hc' ?_;refine an ?_;have hla:nN u.aP i=u.aP[i-1]:=by
    unfold nN;rw [if_neg ad,List.getD_eq_getElem?_getD,List.getElem?_eq_getElem ad] <;> rfl
   rw [leB];rw [hla] at hu;refine ak (fun r3=>?_) (fun r3=>?_)
   ·have r3:decide (gF u.aP[i-1] u.aP[i])=false:=by simpa using r3
    exact ⟨by rw [<- hu,r3,Bool.and_false]; rfl,e06⟩
   ·have r3:decide (gF u.aP[i-1] u.aP[i])=true:=by simpa using r3
    rw [r3,Bool.and_true] at hu;refine af b6 ((d.p,d.l,d.c),()) rfl ?_;refine an ?_;refine ay ⟨ad,ad⟩ (av rfl' ?_);refine az (u.aP[i],()) hc ?_;refine an ?_;refine aI (CL s6 ad _) ?_;refine ⟨⟨b6.cells _ rfl,hc',b6.cells _ rfl,hc,b6.cells _ rfl,trivial⟩,?_⟩;cases hr:fz E u.aP[i] with
    | false =>
     refine bT aj ?_;exact ⟨by rw [<- hu,hr]; rfl,e06⟩
    | true =>
     refine bZ aj ?_;rw [hr,Bool.true_and] at hu;exact aF (cs:=[(false,[.int .i64]),(false,[.int .i64])]) (n51,((i+1:Nat):Int),()) (u.aP.length-(i+1)) rfl ad (by rw [wrap_i64 ad ad]; rfl) ⟨i+1,rfl,rfl,ad,rfl,hu⟩
  ·have r2:=of_decide_eq_false r2;have hi0:i=0:=ad
   subst hi0;refine af b6 ((d.p,d.l,d.c),()) rfl ?_;refine an ?_;refine ay ⟨ad,ad⟩ (av rfl' ?_);refine az (u.aP[0],()) hc ?_;refine an ?_;refine aI (CL s6 ad _) ?_;refine ⟨⟨b6.cells _ rfl,trivial⟩,?_⟩;cases hr:fz E u.aP[0] with
   | false =>
    refine bT aj ?_;exact ⟨by rw [<- hu,hr]; rfl,e06⟩
   | true =>
    refine bZ aj ?_;have hg:decide (gF (nN u.aP 0) u.aP[0])=true:=decide_eq_true (hleg _ (ov.1 hr));rw [hr,hg,Bool.true_and,Bool.true_and] at hu;exact aF (cs:=[(false,[.int .i64]),(false,[.int .i64])]) (n51,((0+1:Nat):Int),()) (u.aP.length-(0+1)) rfl ad (by rw [wrap_i64 ad ad]; rfl) ⟨0+1,rfl,rfl,ad,rfl,hu⟩
 ·have q:=of_decide_eq_false q
  have:i=u.aP.length:=ad
  subst this;rw [List.drop_length] at hu;exact ⟨by rw [<- hu]; rfl,e06⟩
end Go.Sx.Ob
namespace Go.Proofs
open Go.Shelf
open Go.Lib in
def Tryz.Cf:Go.Shelf.Ren:=⟨fun | 284=>131 | 129=>146 | 317=>145 | 318=>147 | n=>n,fun | 53=>207 | 3=>3 | 212=>228 | 0=>0 | 4=>4 | 46=>215 | 5=>5 | 9=>9 | n=>n,fun | 17=>1 | n=>n⟩
theorem Tryz.L0:Go.Proofs.LaysM.n284 Tryz.prog Tryz.Cf:={
 mixed:=ax
 f129:=Tryz.func146.trans (congrArg some ax)
 f284:=Tryz.func131.trans (congrArg some ax)
 f317:=Tryz.func145.trans (congrArg some ax)
 f318:=Tryz.func147.trans (congrArg some ax)
 t0:=Tryz.underlying0
 a0:=Tryz.isAgg0
 z0:=Tryz.sizeOf0
 v0:=Tryz.zeroValue0
 t3:=Tryz.underlying3
 a3:=Tryz.isAgg3
 z3:=Tryz.sizeOf3
 v3:=Tryz.zeroValue3
 t4:=Tryz.underlying4
 a4:=Tryz.isAgg4
 z4:=Tryz.sizeOf4
 v4:=Tryz.zeroValue4
 t5:=Tryz.underlying5
 a5:=Tryz.isAgg5
 z5:=Tryz.sizeOf5
 v5:=Tryz.zeroValue5
 t9:=Tryz.underlying9
 a9:=Tryz.isAgg9
 z9:=Tryz.sizeOf9
 v9:=Tryz.zeroValue9
 t46:=Tryz.underlying215
 a46:=Tryz.isAgg215
 z46:=Tryz.sizeOf215
 v46:=Tryz.zeroValue215
 t53:=Tryz.underlying207
 a53:=Tryz.isAgg207
 z53:=Tryz.sizeOf207
 v53:=Tryz.zeroValue207
 t212:=Tryz.underlying228
 a212:=Tryz.isAgg228
 z212:=Tryz.sizeOf228
 v212:=Tryz.zeroValue228
 g17:=ax
 i0:=ax
 i3:=ax
 i4:=ax
 i5:=ax
 i9:=ax
 i46:=ax
 i53:=ax
 i212:=ax
 m17:=by kernel_rfl }
end Go.Proofs
namespace Go.Sx
open Go.Proofs
section any
variable {P:Program} {h:Hp}
end any
def fZ (h:Hp):Prop:=∃ e f,h[1]?=some (.cells (Lib.pow10Tab.map fun z=>Value.int .u64 z).toArray e f)
theorem fZ.ao {ws:List Nat} {h h':Hp} (p:fZ h) (k:Ch ws h h') (hw:∀ i,i∈ws->1<i):fZ h':=by
 obtain ⟨e,f,hp⟩:=p;exact ⟨e,f,k.get hp (fun hm=>by have:=hw _ hm; omega)⟩
theorem FM {W:World} {name:String} (hg:Tryz.prog.globalNamed name=some 1) (p:fZ W.heap):Lib.TabIs Tryz.prog W name .u64 Lib.pow10Tab:=by
 obtain ⟨e,f,hp⟩:=p;unfold Lib.TabIs World.var?;rw [hg];show (match W.heap[1]? with | some (.cells cs _ _)=>some cs | _=>none)=_;rw [hp]
theorem wz {h:Hp} (p:fZ h) (u:Nat) (h1:1<=u) (h2:u<18446744073709551616):vM Tryz.prog 131 [.int .u64 u] h (.int .i64 (Lib.nDigits u)):=by
 intro W hW;refine ((Any.internal_strconv_numDigits Tryz.L0 u h1 h2 W (FM ax (by rw [hW]; exact p))).mono ?_);rintro e w' ⟨he,hw⟩;exact ⟨_,he,by rw [hw]; exact dz.refl W,rfl,by rw [hw]; exact hW⟩
def fI (n:Nat):ByteArray:=⟨(Lib.decDigits n).toArray⟩
def fP (f:ByteArray->Nat):cU->Nat
 | []=>0
 | p::l=>p.2*f p.1+fP f l
theorem eN (f:ByteArray->Nat) (p:ByteArray × Nat) (l:cU):fP f (p::l)=p.2*f p.1+fP f l:=rfl
theorem Lv (a b:Nat):a % 4294967296*b % 4294967296=a*b % 4294967296:=by rw [Nat.mul_mod,Nat.mod_mod,<- Nat.mul_mod]
section
variable {α:Type}
def vE (en:α->Value) (D:List (ByteArray × α)):List (ByteArray × Value):=D.map fun p=>(p.1,en p.2)
def gE (D:List (ByteArray × α)) (s:ByteArray):Option α:=(D.find? fun p=>decide (s=p.1)).map (·.2)
def pE (D:List (ByteArray × α)) (s:ByteArray) (v:α):List (ByteArray × α):=if (gE D s).isSome then D.map fun p=>if s=p.1 then (p.1,v) else p else D++[(s,v)]
theorem lT (en:α->Value) (D:List (ByteArray × α)) (s:ByteArray):look (vE en D) s=(gE D s).map en:=by
 unfold look gE vE
 induction D with
 | nil=>rfl
 | cons p D ih =>
  by_cases h:s=p.1
  ·simp [h]
  ·simp only [List.map_cons,List.find?_cons,decide_eq_false h];exact ih
theorem Gu (en:α->Value) (D:List (ByteArray × α)) (s:ByteArray) (v:α):jN (vE en D) s (en v)=vE en (pE D s v):=by
 unfold jN pE;rw [lT];cases h:gE D s with
 | none=>simp [vE]
 | some q =>
  simp only [Option.map_some,Option.isSome_some,if_true,vE,List.map_map];refine List.map_congr_left fun p hp=>?_
  simp only [Function.comp];split <;> simp_all
theorem wu (D:List (ByteArray × α)) (s:ByteArray) (v:α):(pE D s v).length=if (gE D s).isSome then D.length else D.length+1:=by
 unfold pE;split <;> simp
theorem wM (D:List (ByteArray × α)) (s t:ByteArray) (v:α):gE (D++[(s,v)]) t=(gE D t).or (if t=s then some v else none):=by
 unfold gE;rw [List.find?_append];cases h:D.find? (fun p=>decide (t=p.1)) with
 | some q=>simp
 | none =>
  simp only [Option.none_or,Option.map_none,List.find?_cons,List.find?_nil]
  by_cases e:t=s
  ·simp [e]
  ·simp [e]
theorem Hb (D:List (ByteArray × α)) (s t:ByteArray) (v:α) (hs:(gE D s).isSome):gE (D.map fun p=>if s=p.1 then (p.1,v) else p) t=if t=s then some v else gE D t:=by
 unfold gE at *
 induction D with
 | nil=>simp at hs
 | cons p D ih =>
  by_cases h:s=p.1
  ·by_cases e:t=s
   ·simp [h,e]
   ·have e2:¬ t=p.1:=fun k=>e (k.trans h.symm)
    have hg:∀ l:List (ByteArray × α),(List.find? (fun p=>decide (t=p.1)) (List.map (fun p=>if s=p.1 then (p.1,v) else p) l)).map (·.2)=(List.find? (fun p=>decide (t=p.1)) l).map (·.2):=by
     intro l
     induction l with
     | nil=>rfl
     | cons q l ihl =>
      by_cases hq:s=q.1
      ·have:¬ t=q.1:=fun k=>e (k.trans hq.symm)
       simp only [List.map_cons,List.find?_cons,if_pos hq,decide_eq_false this];exact ihl
      ·simp only [List.map_cons,List.find?_cons,if_neg hq]
       by_cases ht:t=q.1
       ·simp [ht]
       ·simp only [decide_eq_false ht];exact ihl
    simp only [List.map_cons,List.find?_cons,if_pos h,decide_eq_false e2,if_neg e];exact hg D
  ·have hs2:(Option.map (fun x=>x.2) (List.find? (fun p=>decide (s=p.1)) D)).isSome:=by
    simpa [List.find?_cons,decide_eq_false h] using hs
   simp only [List.map_cons,List.find?_cons,if_neg h]
   by_cases ht:t=p.1
   ·have:¬ t=s:=fun k=>h (k.symm.trans ht)
    simp [ht,if_neg (ht▸this)]
   ·simp only [decide_eq_false ht];exact ih hs2
theorem MF (D:List (ByteArray × α)) (s:ByteArray) (v:α) (t:ByteArray):gE (pE D s v) t=if t=s then some v else gE D t:=by
 unfold pE;split
 ·rename_i h;exact Hb D s t v h
 ·rename_i h;rw [wM]
  by_cases e:t=s
  ·subst e
   have:gE D t=none:=by simpa using h
   rw [this]; simp
  ·simp [e]
def dy (f:ByteArray->Option α) (s:ByteArray) (v:α):ByteArray->Option α:=fun t=>if t=s then some v else f t
theorem cw (f:ByteArray->Option α) (s:ByteArray) (v:α):dy f s v s=some v:=by simp [dy]
theorem bQ (f:ByteArray->Option α) {s t:ByteArray} (v:α) (h:t≠s):dy f s v t=f t:=by simp [dy,h]
def dK (en:α->Value) (h:Hp) (g:Nat) (f:ByteArray->Option α) (n:Nat):Prop:=∃ D:List (ByteArray × α),eD h g (vE en D)/\(∀ s,gE D s=f s)/\D.length=n
theorem dK.ao {en:α->Value} {ws:List Nat} {h h':Hp} {g:Nat} {f:ByteArray->Option α} {n:Nat} (m:dK en h g f n) (k:Ch ws h h') (hw:g∉ws):dK en h' g f n:=by
 obtain ⟨D,m,r⟩:=m;exact ⟨D,m.ao k hw,r⟩
theorem dK.lt {en:α->Value} {h:Hp} {g:Nat} {f:ByteArray->Option α} {n:Nat} (m:dK en h g f n):g<h.size:=by
 obtain ⟨D,m,r⟩:=m;exact m.lt
theorem dK.new {en:α->Value} {h:Hp} {g:Nat} (m:eD h g []):dK en h g (fun _=>none) 0:=⟨[],m,fun s=>rfl,rfl⟩
theorem dK.jN {en:α->Value} {h':Hp} {g:Nat} {f:ByteArray->Option α} {n:Nat} {D:List (ByteArray × α)} (hD:∀ s,gE D s=f s) (hn:D.length=n) {s:ByteArray} {v:α} (m:eD h' g (Sx.jN (vE en D) s (en v))):dK en h' g (dy f s v) (if (f s).isSome then n else n+1):=by
 rw [Gu] at m;refine ⟨_,m,fun t=>?_,?_⟩
 ·rw [MF,hD t]; rfl
 ·rw [wu,hD s,hn]
end
def eI (n:Nat):Value:=.int .i64 (n:Int)
def eB (b:Bool):Value:=.bool b
theorem Hx:Tryz.prog.underlying 97=some (.map 9 3):=ax
theorem Q2:Tryz.prog.underlying 142=some (.map 9 4):=ax
theorem Rm:(Tryz.prog.info? 3).bind (·.zero)=some (.int .i64 0):=ax
theorem Kz:(Tryz.prog.info? 4).bind (·.zero)=some (.bool false):=ax
section
variable {L:Lp} {K:Value->Hp->Prop} {h:Hp} {g n:Nat}
theorem Hj {f:ByteArray->Option Nat} (m:dK eI h g f n) (s:ByteArray) {k:Int->T} (hk:k (((f s).getD 0:Nat):Int) L K h):T.dY Tryz.prog (Instr.lookup 97 (.map (some g)) (.string s) false) false [(false,[.int .i64])] k L K h:=by
 obtain ⟨D,m,hD,hn⟩:=m;refine jh Hx wT Rm m s false _ ?_;refine ⟨((((f s).getD 0:Nat):Int),()),?_,hk⟩;simp only [Bool.false_eq_true,if_false];rw [lT,hD s]
 all_goals (cases f s <;> rfl)
theorem C' {f:ByteArray->Option Nat} (m:dK eI h g f n) (s:ByteArray) {k:Int->Bool->T} (hk:k (((f s).getD 0:Nat):Int) (f s).isSome L K h):T.dY Tryz.prog (Instr.lookup 97 (.map (some g)) (.string s) true) true [(false,[.int .i64]),(false,[.bool])] k L K h:=by
 obtain ⟨D,m,hD,hn⟩:=m;refine jh Hx wT Rm m s true _ ?_;refine ⟨((((f s).getD 0:Nat):Int),(f s).isSome,()),?_,hk⟩;rw [if_pos rfl,lT,hD s]
 all_goals (cases f s <;> rfl)
theorem Mf {f:ByteArray->Option Bool} (m:dK eB h g f n) (s:ByteArray) {k:Bool->T} (hk:k ((f s).getD false) L K h):T.dY Tryz.prog (Instr.lookup 142 (.map (some g)) (.string s) false) false [(false,[.bool])] k L K h:=by
 obtain ⟨D,m,hD,hn⟩:=m;refine jh Q2 wT Kz m s false _ ?_;refine ⟨((f s).getD false,()),?_,hk⟩;simp only [Bool.false_eq_true,if_false];rw [lT,hD s]
 all_goals (cases f s <;> rfl)
theorem qO {f:ByteArray->Option Nat} (m:dK eI h g f n) {s:ByteArray} (hs:s.size<=maxLen) {v:Int} {w:Nat} (hv:v=(w:Int)) {k:T} (hk:∀ h',dK eI h' g (dy f s w) (if (f s).isSome then n else n+1)->Ch [g] h h'->h'.size=h.size->k L K h') :
  T.ec Tryz.prog (Instr.mapUpdate 97 (.map (some g)) (.string s) (.int .i64 v)) k L K h:=by
 subst hv;obtain ⟨D,m,hD,hn⟩:=m;refine fN Hx wT m hs _ _ ?_;intro h' m' c' z';exact hk h' (dK.jN (en:=eI) hD hn m') c' z'
theorem Ul {f:ByteArray->Option Bool} (m:dK eB h g f n) {s:ByteArray} (hs:s.size<=maxLen) {b:Bool} {k:T} (hk:∀ h',dK eB h' g (dy f s b) (if (f s).isSome then n else n+1)->Ch [g] h h'->h'.size=h.size->k L K h') :
  T.ec Tryz.prog (Instr.mapUpdate 142 (.map (some g)) (.string s) (.bool b)) k L K h:=by
 obtain ⟨D,m,hD,hn⟩:=m;refine fN Q2 wT m hs _ _ ?_;intro h' m' c' z';exact hk h' (dK.jN (en:=eB) hD hn m') c' z'
theorem xv {α:Type} {en:α->Value} {t:TypeId} {k:Option Nat->T} (hk:∀ h',dK en h' h.size (fun _=>none) 0->Ext h h'->h'.size=h.size+1->k (some h.size) L K h'):T.dY Tryz.prog (Instr.makeMap t none) false [(false,[.map 0 0])] k L K h:=by
 refine lA _ ?_;intro h' m e z;exact ⟨(some h.size,()),rfl,hk h' (dK.new m) e z⟩
theorem VI {α:Type} {en:α->Value} {f:ByteArray->Option α} (m:dK en h g f n) {k:Int->T} (hk:k (n:Int) L K h):T.dY Tryz.prog (Builtin.len_ #[97] 3 #[.map (some g)]) false [(false,[.int .i64])] k L K h:=by
 obtain ⟨D,m,hD,hn⟩:=m;obtain ⟨es,clock,hg,he,hst,hd⟩:=m;have hes:es.size=n:=by
  have:=congrArg List.length he
  simpa [vE,hn] using this
 show aQ _ _ _ _;unfold Builtin.len_;simp only [List.getElem?_toArray,List.getElem?_cons_zero];rw [ar,aD Hx];simp only [pure_bind];rw [ar];refine fA hg aj _ ?_;simp only [pure_bind];exact ⟨((n:Int),()),by rw [hes]; rfl,hk⟩
theorem TY {a b:Nat} {k:Int->T} (hk:k ((min a b:Nat):Int) L K h):T.dY Tryz.prog (Builtin.min_ #[3,3] 3 #[.int .i64 (a:Int),.int .i64 (b:Int)]) false [(false,[.int .i64])] k L K h:=by
 show aQ _ _ _ _;refine ⟨(((min a b:Nat):Int),()),?_,hk⟩;show Value.int .i64 (if (b:Int)<(a:Int) then (b:Int) else (a:Int))=.int .i64 ((min a b:Nat):Int)
 congr 1
 split <;> omega
end
structure cE where
 name:ByteArray
 p:Option Addr
 l:Nat
 c:Nat
 x:bX
def zi (e:cE):List Value:=[.string e.name,.slice e.p e.l e.c,.int .u32 e.x.num]
structure tH (h:Hp) (p:Option Addr) (l:Nat) (es:List cE):Prop where
 len:l=es.length
 cells:∀ i,(hi:i<es.length)->∃ a,p=some a/\aG h (a.add (i*3)) 0 (zi es[i])
 fe:∀ e,e∈es->gn h e.p e.l e.x.ai
theorem tH.ao {h h':Hp} {p:Option Addr} {l:Nat} {es:List cE} (v:tH h p l es) (k:Ext h h'):tH h' p l es :=
 ⟨v.len,fun i hi=>by
  obtain ⟨a,ha,hc⟩:=v.cells i hi;exact ⟨a,ha,aT k aj _ _ hc⟩,fun e he=>(v.fe e he).ao k aj⟩
def jO (es:List cE) (s:ByteArray):Option Nat:=es.findIdx? fun e=>decide (e.name=s)
theorem Fc {es:List cE} {e:cE} (hn:∀ d,d∈es->d.name≠e.name) (s:ByteArray):jO (es++[e]) s=dy (jO es) e.name es.length s:=by
 unfold jO dy;rw [List.findIdx?_append]
 by_cases h:s=e.name
 ·subst h
  have:es.findIdx? (fun d=>decide (d.name=e.name))=none:=by
   rw [List.findIdx?_eq_none_iff];intro d hd;simpa using hn d hd
  rw [this];simp [List.findIdx?_cons]
 ·have:¬ e.name=s:=fun k=>h k.symm
  rw [if_neg h];cases hh:es.findIdx? (fun d=>decide (d.name=s)) with
  | none=>show _=List.findIdx? _ es; rw [hh]; simp [List.findIdx?_cons,this]
  | some k=>show _=List.findIdx? _ es; rw [hh]; simp
theorem Ek {es:List cE} {s:ByteArray} (h:∀ d,d∈es->d.name≠s):jO es s=none:=by
 unfold jO;rw [List.findIdx?_eq_none_iff];intro d hd;simpa using h d hd
theorem za {h:Hp} {p:Option Addr} {l c:Nat} {es:List cE} (v:tH h p l es) (hl:es.length<=2^40) (hn:(es.map (·.name)).Nodup) (hs:∀ e,e∈es->e.name.size<=maxLen) :
  HC Tryz.prog 84 #[.slice p l c] h fun w h'=>(∃ g,w=.map (some g)/\dK eI h' g (jO es) es.length/\h.size<=g)/\Ext h h':=by
 refine aX (args:=[.slice p l c]) mixed Tryz.func84 ax (wm p l c) ?_;unfold sG aZ bg bq aK bK bd bS aM;refine xv (en:=eI) ?_;intro h1 m1 e1 z1;have hll:=v.len;refine aR (cs:=[(false,[.int .i64])]) (fun x w h'=>∃ i:Nat,x.1=(i:Int)/\i<=es.length/\w=es.length-i/\dK eI h' h.size (jO (es.take i)) i/\Ext h h') ((0:Int),()) es.length rfl ⟨0,rfl,ad,ad,m1,e1⟩ ?_;rintro ⟨n2,⟨⟩⟩ w h2 ⟨i,hi,hile,rfl,m2,e2⟩;simp only at hi;subst hi;refine an ?_;refine ak (fun g1=>?_) (fun g1=>?_)
 ·have g1:=of_decide_eq_true g1;have hilt:i<es.length:=ad
  obtain ⟨a,rfl,hc⟩:=(v.ao e2).cells i hilt;have htk:es.take (i+1)=es.take i++[es[i]]:=List.take_succ_eq_append_getElem hilt;have hsz:=hs es[i] (List.getElem_mem hilt);have hnd:∀ d,d∈es.take i->d.name≠es[i].name:=by
   intro d hd he;obtain ⟨j,hj,rfl⟩:=List.getElem_of_mem hd;rw [List.length_take] at hj;rw [List.getElem_take] at he;exact List.pairwise_iff_getElem.1 hn j i (by rw [List.length_map]; omega) (by rw [List.length_map]; omega) ad (by simpa using he)
  generalize es[i]=e at hc htk hsz hnd;refine ay ⟨ad,ad⟩ (av rfl ?_);rw [show Int.toNat (i:Int)=i from ad];refine az (e.name,(e.p,e.l,e.c),(e.x.num:Int),()) hc ?_;refine an ?_;refine bm ?_;intro h3 b3 e3 z3;refine aw b3 rfl aj ?_;intro h4 b4 k4 z4;have b4:bz h4 h2.size 88 [.string e.name,.slice e.p e.l e.c,.int .u32 e.x.num]:=b4;have e24:Ext h2 h4:=Ch.trans e3 k4 (fun j hj hl=>by simp at hj; omega);refine af b4 (e.name,()) rfl ?_;refine an ?_;refine qO (w:=i) (m2.ao e24 aj) hsz rfl ?_;intro h5 m5 k5 z5;have hw:IntKind.wrap .i64 ((i:Int)+1)=((i+1:Nat):Int):=by rw [wrap_i64 ad ad]; omega
  have hf:jO (es.take (i+1))=dy (jO (es.take i)) e.name i:=by
   rw [htk]
   funext s
   rw [Fc hnd,List.length_take,Nat.min_eq_left ad]
  rw [Ek hnd] at m5;refine aF (cs:=[(false,[.int .i64])]) (((i+1:Nat):Int),()) (es.length-(i+1)) rfl ad (congrArg (fun z=>[Value.int .i64 z]) hw) ⟨i+1,rfl,ad,rfl,by rw [hf]; exact m5,Ch.trans (e2.trans e24) k5 (fun j hj hl=>by simp at hj; omega)⟩
 ·have g1:=of_decide_eq_false g1;have hi:i=es.length:=ad
  subst hi;rw [List.take_length] at m2;exact ⟨⟨_,rfl,m2,Nat.le_refl _⟩,e2⟩
def qA (of:ByteArray->Option bX) (t:ByteArray × Nat):cU:=match of t.1 with
 | none=>[t]
 | some y=>y.ai.map fun u=>(u.1,t.2*u.2 % 4294967296)
def fM (of:ByteArray->Option bX) (n:Nat) (t:ByteArray × Nat):Nat:=match of t.1 with
 | none=>n
 | some y=>(n+t.2*y.num % 4294967296) % 4294967296
def cV (of:ByteArray->Option bX) (x:bX):bX:=⟨Dk (x.ai.flatMap (qA of)),x.ai.foldl (fM of) x.num⟩
structure qY where
 p:Option Addr
 l:Nat
 c:Nat
 x:bX
def eL (y:qY):Value:=gH y.p y.l y.c y.x
structure F5 (h:Hp) (g:Nat) (f:ByteArray->Option qY) (n:Nat):Prop where
 map:dK eL h g f n
 fe:∀ s y,f s=some y->gn h y.p y.l y.x.ai
theorem F5.ao {ws:List Nat} {h h':Hp} {g:Nat} {f:ByteArray->Option qY} {n:Nat} (m:F5 h g f n) (k:Ch ws h h') (hw:g∉ws) (hi:∀ s y,f s=some y->∀ i,i∈aJ y.p->i∉ws):F5 h' g f n :=
 ⟨m.map.ao k hw,fun s y hy=>(m.fe s y hy).ao k (hi s y hy)⟩
theorem UQ:Tryz.prog.underlying 147=some (.map 9 60):=ax
theorem T6:(Tryz.prog.info? 60).bind (·.zero)=some (.agg #[.slice none 0 0,.int .u32 0]):=ax
theorem zP {L:Lp} {K:Value->Hp->Prop} {h:Hp} {g n:Nat} {f:ByteArray->Option qY} (m:dK eL h g f n) (s:ByteArray) {k:Option Addr->Nat->Nat->Int->Bool->T} (h1:∀ y,f s=some y->k y.p y.l y.c (y.x.num:Int) true L K h) (h0:f s=none->k none 0 0 0 false L K h) :
  T.dY Tryz.prog (Instr.lookup 147 (.map (some g)) (.string s) true) true [(true,[.slice 66,.int .u32]),(false,[.bool])] k L K h:=by
 obtain ⟨D,m,hD,hn⟩:=m;refine jh UQ wT T6 m s true _ ?_;rw [if_pos rfl,lT,hD s];cases hf:f s with
 | none=>exact ⟨((none,0,0),(0:Int),false,()),rfl,h0 hf⟩
 | some y=>exact ⟨((y.p,y.l,y.c),(y.x.num:Int),true,()),rfl,h1 y hf⟩
theorem Ly {L:Lp} {K:Value->Hp->Prop} {h:Hp} {g n:Nat} {f:ByteArray->Option qY} (m:dK eL h g f n) {s:ByteArray} (hs:s.size<=maxLen) (y:qY) {k:T} (hk:∀ h',dK eL h' g (dy f s y) (if (f s).isSome then n else n+1)->Ch [g] h h'->h'.size=h.size->k L K h') :
  T.ec Tryz.prog (Instr.mapUpdate 147 (.map (some g)) (.string s) (.agg #[.slice y.p y.l y.c,.int .u32 (y.x.num:Int)])) k L K h:=by
 obtain ⟨D,m,hD,hn⟩:=m;refine fN UQ wT m hs _ _ ?_;intro h' m' c' z';exact hk h' (dK.jN (en:=eL) hD hn m') c' z'
def TU (r:Option Nat) (p:Option Addr) (l:Nat) (a14:Addr) (lv:Nat) (k:T):T :=
  T.loop [aM] [.int .i64 (0:Int)] <| fun (n25:Int) =>
  bq n25 l
  (T.need (((0:Int)<=n25)/\(n25<(l:Int))) <|
  T.bk p <| fun (a26:Addr) =>
  T.ah (a26.add (aK n25 2)) [.string,.int .u32] <| fun (s27:ByteArray) (n28:Int) =>
  T.new [bS,.int .u32 (0:Int)] 66 <| fun (a29:Addr) =>
  T.aC a29 [.string s27,.int .u32 n28] <|
  T.ah a29 [.string] <| fun (Vp:ByteArray) =>
  bK (Instr.lookup 170 (.map r) (.string Vp) false) false [(false,[.int .u32])] <| fun (n31:Int) =>
  T.ah (a14.add 1) [.int .u32] <| fun (n32:Int) =>
  T.ah (a29.add 1) [.int .u32] <| fun (n33:Int) =>
  T.ec Tryz.prog (Instr.mapUpdate 170 (.map r) (.string Vp) (.int .u32 (IntKind.wrap .u32 (n31+(IntKind.wrap .u32 (n32*n33)))))) <|
  T.again lv [.int .i64 (bi (n25+(1:Int)))]) k
theorem Qg {L:Lp} {K:Value->Hp->Prop} {h:Hp} {g ga q:Nat} {nm:ByteArray} {p:Option Addr} {l:Nat} {us D:cU} {k:T} {lv:Nat} (hlv:L.length=lv) (v:gn h p l us) (hl:us.length<=2^40) (hs:∀ t,t∈us->t.1.size<=maxLen) (m:eD h g (vm D)) (hg:us≠[]->g∉aJ p)
  (ba:bz h ga 66 [.string nm,.int .u32 (q:Int)]) (hga:ga≠g)
  (hk:∀ J h',eD h' g (vm ((us.map fun u=>(u.1,q*u.2 % 4294967296)).foldl iE D))->Ch [g] h h'->k (L++[J]) K h'):TU (some g) p l ⟨ga,0,none⟩ lv k L K h:=by
 have hll:=v.len;have hL:∀ J:List Value->Hp->Prop,(L++[J])[lv]?=some J:=by intro J; subst hlv; simp
 unfold TU bq aK bK bi bS aM;refine aR (cs:=[(false,[.int .i64])]) (fun y w h'=>∃ (i:Nat),y.1=(i:Int)/\i<=us.length/\w=us.length-i/\Ch [g] h h'/\eD h' g (vm (((us.take i).map fun u=>(u.1,q*u.2 % 4294967296)).foldl iE D))) ((0:Int),()) us.length rfl
  ⟨0,rfl,ad,ad,Ch.refl _ _,by simpa using m⟩ ?_
 rintro ⟨n8,⟨⟩⟩ w h4 ⟨i,hi,hile,rfl,k4,m4⟩;simp only at hi;subst hi;refine an ?_;refine ak (fun g1=>?_) (fun g1=>?_)
 ·have g1:=of_decide_eq_true g1;have hilt:i<us.length:=ad
  obtain ⟨a,rfl,hc⟩:=(v.ao k4 (by intro j hj hm; rw [List.mem_singleton] at hm; subst hm; exact hg (List.ne_nil_of_length_pos ad) hj)).cells i hilt;have htk:us.take (i+1)=us.take i++[us[i]]:=List.take_succ_eq_append_getElem hilt;have hsz:=hs us[i] (List.getElem_mem hilt);generalize us[i]=t at hc htk hsz;refine ay ⟨ad,ad⟩ (av rfl ?_);rw [show Int.toNat (i:Int)=i from ad];refine az (t.1,(t.2:Int),()) hc ?_;refine an ?_;refine bm ?_;intro h5 b5 e5 z5;refine aw b5 rfl aj ?_;intro h6 b6 k6 z6;have b6:bz h6 h4.size 66 (cR t):=b6;have e46:Ext h4 h6:=Ch.trans e5 k6 (fun j hj hl=>by simp at hj; omega);have m6:=m4.ao e46 aj;have a6:=(ba.ao k4 (by simpa using hga)).ao e46 aj;refine af b6 (t.1,()) rfl ?_;refine an ?_;refine oE m6 _ ?_;rw [aE];refine af a6 ((q:Int),()) rfl ?_;refine an ?_;rw [aE];refine af b6 ((t.2:Int),()) rfl ?_;refine an ?_;generalize hDD:((us.take i).map fun u=>(u.1,q*u.2 % 4294967296)).foldl iE D=D' at m6;refine Gc (n:=(dJ D' t.1+q*t.2 % 4294967296) % 4294967296) m6 hsz ?_ ?_
  ·rw [dN,dN,iq,Int.natCast_add,iq,Int.natCast_mul]
  ·intro h7 m7 k7 z7;have hw:IntKind.wrap .i64 ((i:Int)+1)=((i+1:Nat):Int):=by rw [wrap_i64 ad ad]; omega
   have hf:((us.take (i+1)).map fun u=>(u.1,q*u.2 % 4294967296)).foldl iE D=uH D' t.1 ((dJ D' t.1+q*t.2 % 4294967296) % 4294967296):=by
    rw [htk,List.map_append,List.foldl_append,hDD] <;> rfl
   refine aF (cs:=[(false,[.int .i64])]) (((i+1:Nat):Int),()) (us.length-(i+1)) (hL _) ad (congrArg (fun z=>[Value.int .i64 z]) hw) ⟨i+1,rfl,ad,rfl,?_,by rw [hf]; exact m7⟩;exact Ch.trans (Ch.trans k4 e46 aj) k7 (fun j hj _=>hj)
 ·have g1:=of_decide_eq_false g1;have hi:i=us.length:=ad
  subst hi;rw [List.take_length] at m4;exact hk _ _ m4 k4
def QX (r0:Option Nat) (a2:Addr) (n1:Int) (lv:Nat):T :=
 T.new [bd,.int .u32 (0:Int)] 60 <| fun (a3:Addr) =>
 T.aC a3 [bd,.int .u32 n1] <|
 bG 109 [.map r0] false [(false,[.func #[63] #[] false])] <| fun (v4:Value) =>
 bG 108 [v4] false [(false,[.slice 9])] <| fun (p5:Option Addr) (l6:Nat) (l7:Nat) =>
 T.loop [aM] [.int .i64 (0:Int)] <| fun (n8:Int) =>
 bq n8 l6
 (T.need (((0:Int)<=n8)/\(n8<(l6:Int))) <|
 T.bk p5 <| fun (a9:Addr) =>
 T.ah (a9.add (aK n8 1)) [.string] <| fun (s10:ByteArray) =>
 bK (Instr.lookup 170 (.map r0) (.string s10) false) false [(false,[.int .u32])] <| fun (n11:Int) =>
 cond (n11 != (0:Int))
  (T.ah a3 [.slice 66] <| fun (p12:Option Addr) (l13:Nat) (l14:Nat) =>
  bK (Instr.lookup 170 (.map r0) (.string s10) false) false [(false,[.int .u32])] <| fun (n15:Int) =>
  bK (Instr.buildSlice 57 1 #[(0,.agg #[.string s10,.int .u32 n15])]) false [db] <| fun (p16:Option Addr) (l17:Nat) (l18:Nat) =>
  bK (Builtin.append_ #[57,57] 57 #[.slice p12 l13 l14,.slice p16 l17 l18]) false [db] <| fun (p19:Option Addr) (l20:Nat) (l21:Nat) =>
  T.aC a3 [.slice p19 l20 l21] <|
  T.again lv [.int .i64 (bi (n8+(1:Int)))])
  (T.again lv [.int .i64 (bi (n8+(1:Int)))]))
 (T.ah a3 [.slice 66,.int .u32] <| fun (p9:Option Addr) (l10:Nat) (l11:Nat) (n12:Int) =>
 T.aC a2 [.slice p9 l10 l11,.int .u32 n12] <|
 T.ah a2 [.slice 66,.int .u32] <| fun (p13:Option Addr) (l14:Nat) (l15:Nat) (n16:Int) =>
 T.ret (.agg #[.slice p13 l14 l15,.int .u32 n16]))
theorem KN {L:Lp} {K:Value->Hp->Prop} {h:Hp} {g g2:Nat} {D:cU} {lv:Nat} (hlv:L.length=lv) (m:eD h g (vm D)) (hl:D.length<=2^40) (n:Int) (c0:bz h g2 60 [.slice none 0 0,.int .u32 0])
  (hk:∀ p l c h',SL h' h.size 66 2 p l c ((E2 D).map cR)->Ch [g2] h h'->K (.agg #[.slice p l c,.int .u32 n]) h'):QX (some g) ⟨g2,0,none⟩ n lv L K h:=by
 have hL:∀ J:List Value->Hp->Prop,(L++[J])[lv]?=some J:=by intro J; subst hlv; simp
 have hg2:=c0.lt;unfold QX bq aK bG bK bi bd aM db;refine bm ?_;intro h2 b2 e2 z2;refine aw b2 rfl aj ?_;intro h3 b3 k3 z3;have b3:bz h3 h.size 60 [.slice none 0 0,.int .u32 n]:=b3;have e3:Ext h h3:=Ch.trans e2 k3 (fun i hi hl=>by simp at hi; omega);have m3:=m.ao e3 aj;have c3:bz h3 g2 60 [.slice none 0 0,.int .u32 0]:=c0.ao e3 aj;refine aH (It (some g) h3) ?_;rintro _ h4 ⟨rfl,rfl⟩;refine ⟨(.func (.func 124) #[] #[.pointer (some ⟨h3.size,0,none⟩)],()),rfl,?_⟩;refine an ?_;have e4:Ext h3 (h3.push (.cells #[.map (some g)] 170)):=Ext.push _ _;have hkl:(vm D).length<=2^40:=by unfold vm; rw [List.length_map]; exact hl
 refine aH (rQ m3 hkl) ?_;rintro _ h5 ⟨pk,lk,ck,rfl,sk,e5⟩;refine ⟨((pk,lk,ck),()),rfl,?_⟩;refine an ?_;have e35:=e4.trans e5;have hkeys:(keysOf (vm D)).length<=2^40:=by
  unfold keysOf;rw [List.length_mergeSort,List.length_map];exact hkl
 have hlk:lk=(keysOf (vm D)).length:=by rw [sk.1,List.length_map]
 unfold E2 at hk;generalize keysOf (vm D)=ks at sk hkeys hlk hk;have b5:=b3.ao e35 aj;have c5:=c3.ao e35 aj;have m5:=m3.ao e35 aj;have e05:=e3.trans e35;have hz3:=e35.size;have hb3:=b3.lt;have hg:=m.lt;refine aR (cs:=[(false,[.int .i64])]) (fun x w h'=>∃ (i:Nat) (p:Option Addr) (l c:Nat),x.1=(i:Int)/\i<=ks.length/\w=ks.length-i/\Ch [h.size] h5 h'/\bz h' h.size 60 [.slice p l c,.int .u32 n] /\
  SL h' h5.size 66 2 p l c (((ks.take i).filterMap fun k=>if dJ D ⟨k.toArray⟩=0 then none else some ((⟨k.toArray⟩:ByteArray),dJ D ⟨k.toArray⟩)).map cR)/\l<=i) ((0:Int),()) ks.length rfl
  ⟨0,none,0,0,rfl,ad,ad,Ch.refl _ _,b5,SL.nil _ _ _ _,ad⟩ ?_
 rintro ⟨n8,⟨⟩⟩ w h6 ⟨i,p,l,c,hi,hile,rfl,k6,b6,s6,hli⟩;simp only at hi;subst hi;refine an ?_;have m6:=m5.ao k6 (by simp; omega);have hz6:=k6.size;have e06:Ext h h6:=Ch.trans e05 k6 (fun j hj hl=>by simp at hj; omega);refine ak (fun g1=>?_) (fun g1=>?_)
 ·have g1:=of_decide_eq_true g1;have hilt:i<ks.length:=ad
  have sk6:=sk.bF k6 (fun j hj=>by have:=(sk.bY hj).1; simp; omega);obtain ⟨a,rfl,hc⟩:=sk6.cells (i:=i) (by simpa using hilt);rw [List.getElem_map] at hc;have htk:ks.take (i+1)=ks.take i++[ks[i]]:=List.take_succ_eq_append_getElem hilt;generalize ks[i]=k at hc htk;refine ay ⟨ad,ad⟩ (av rfl ?_);rw [show Int.toNat (i:Int)=i from ad];refine az ((⟨k.toArray⟩:ByteArray),()) hc ?_;refine an ?_;have hw:IntKind.wrap .i64 ((i:Int)+1)=((i+1:Nat):Int):=by rw [wrap_i64 ad ad]; omega
  refine oE m6 _ (ak (fun g2=>?_) (fun g2=>?_))
  ·have g2:((dJ D ⟨k.toArray⟩:Nat):Int)≠0:=by simpa using g2
   refine af b6 ((p,l,c),()) rfl ?_;refine an ?_;refine oE m6 _ ?_;refine kh (vs:=cR (⟨k.toArray⟩,dJ D ⟨k.toArray⟩)) zy sC rfl ad ad ax rfl rfl s6 hz6 ad ad ?_;intro p' c' h7 s7 k7 hp7;have b7:=b6.ao k7 (fun hh=>by have:=(s6.bY hh).1; omega);refine aw b7 rfl aj ?_;intro h8 b8 k8 z8;refine aF (cs:=[(false,[.int .i64])]) (((i+1:Nat):Int),()) (ks.length-(i+1)) (hL _) ad (congrArg (fun z=>[Value.int .i64 z]) hw) ⟨i+1,p',l+1,c',rfl,ad,rfl,?_,b8,?_,ad⟩
   ·exact Ch.trans (Ch.trans k6 k7 (fun j hj hl=>by have:=(s6.bY hj).1; omega)) k8 (fun j hj _=>hj)
   ·rw [htk,List.filterMap_append,List.map_append];have hf:([k].filterMap fun k=>if dJ D ⟨k.toArray⟩=0 then none else some ((⟨k.toArray⟩:ByteArray),dJ D ⟨k.toArray⟩))=[((⟨k.toArray⟩:ByteArray),dJ D ⟨k.toArray⟩)]:=by
     simp only [List.filterMap_cons,List.filterMap_nil];rw [if_neg ad]
    rw [hf];exact s7.bF k8 (fun j hj=>by have:=(s7.bY hj).1; simp; omega)
  ·have g2:((dJ D ⟨k.toArray⟩:Nat):Int)=0:=by simpa using g2
   refine aF (cs:=[(false,[.int .i64])]) (((i+1:Nat):Int),()) (ks.length-(i+1)) (hL _) ad (congrArg (fun z=>[Value.int .i64 z]) hw) ⟨i+1,p,l,c,rfl,ad,rfl,k6,b6,?_,ad⟩;rw [htk,List.filterMap_append];have hf:([k].filterMap fun k=>if dJ D ⟨k.toArray⟩=0 then none else some ((⟨k.toArray⟩:ByteArray),dJ D ⟨k.toArray⟩))=[]:=by
    simp only [List.filterMap_cons,List.filterMap_nil];rw [if_pos ad]
   rw [hf,List.append_nil];exact s6
 ·have g1:=of_decide_eq_false g1;have hi:i=ks.length:=ad
  subst hi;rw [List.take_length] at s6;have c6:=c5.ao k6 (by simp; omega);refine af b6 ((p,l,c),n,()) rfl ?_;refine an ?_;refine aw c6 rfl aj ?_;intro h7 b7 k7 z7;have b7:bz h7 g2 60 [.slice p l c,.int .u32 n]:=b7;refine af b7 ((p,l,c),n,()) rfl ?_;have hz5:=e05.size;exact hk _ _ _ _ ((s6.bF k7 (fun j hj=>by have:=(s6.bY hj).1; simp; omega)).mono ad) (Ch.trans (e06.mono aj) k7 (fun j hj hl=>hj))
theorem D3 {h:Hp} {p:Option Addr} {l c:Nat} {x:bX} (v:gn h p l x.ai) {g n:Nat} {f:ByteArray->Option qY} (m:F5 h g f n) (hl:x.ai.length<=2^40) (hs:∀ t,t∈x.ai->t.1.size<=maxLen) (hy:∀ s y,f s=some y->y.x.ai.length<=2^40/\∀ t,t∈y.x.ai->t.1.size<=maxLen)
  (hN:(x.ai.flatMap (qA fun s=>(f s).map (·.x))).length<=2^40) :
  HC Tryz.prog 86 #[gH p l c x,.map (some g)] h fun w h'=>(∃ p' l' c',w=gH p' l' c' (cV (fun s=>(f s).map (·.x)) x)/\SL h' h.size 66 2 p' l' c' ((cV (fun s=>(f s).map (·.x)) x).ai.map cR))/\Ext h h':=by
 refine aX (args:=[gH p l c x,.map (some g)]) mixed Tryz.func86 ax (CX p l c x.num (some g)) ?_;unfold AP aZ bg bq aK bG bh bK bd bS aM cd;have hll:=v.len;refine bm ?_;intro h1 b1 e1 z1;refine bm ?_;intro h2 b2 e2 z2;refine lA _ ?_;intro h3 m3 e3 z3;refine ⟨(some h2.size,()),rfl,?_⟩;refine an ?_;have b13:=(b1.ao e2 aj).ao e3 aj;have b23:=b2.ao e3 aj;have e03:=(e1.trans e2).trans e3;rw [aE];refine af b13 ((x.num:Int),()) rfl ?_;refine an ?_;refine af b13 ((p,l,c),()) rfl ?_;refine an ?_;have hh:h1.size=h.size+1:=z1;generalize hof:(fun s=>(f s).map (·.x))=of at hN;have hofs:∀ s,of s=(f s).map (·.x):=fun s=>by rw [<- hof]
 refine aR (cs:=[(false,[.int .u32]),(false,[.int .i64])]) (fun y w h'=>∃ i:Nat,y.2.1=(i:Int)/\i<=x.ai.length/\w=x.ai.length-i/\y.1=(((x.ai.take i).foldl (fM of) x.num:Nat):Int)/\Ch [h2.size] h3 h'/\eD h' h2.size (vm (((x.ai.take i).flatMap (qA of)).foldl iE [])))
  ((x.num:Int),(0:Int),()) x.ai.length rfl ⟨0,rfl,ad,ad,rfl,Ch.refl _ _,m3⟩ ?_
 rintro ⟨n9,n10,⟨⟩⟩ w h4 ⟨i,hi,hile,rfl,hn9,k4,m4⟩;simp only at hi hn9;subst hi hn9;refine an ?_;have e04:Ext h h4:=Ch.trans e03 k4 (fun j hj hl=>by simp at hj; omega);have hz4:=k4.size;refine ak (fun g1=>?_) (fun g1=>?_)
 ·have g1:=of_decide_eq_true g1;have hilt:i<x.ai.length:=ad
  obtain ⟨a,rfl,hc⟩:=(v.ao e04 aj).cells i hilt;have htk:x.ai.take (i+1)=x.ai.take i++[x.ai[i]]:=List.take_succ_eq_append_getElem hilt;have hsz:=hs x.ai[i] (List.getElem_mem hilt);generalize x.ai[i]=t at hc htk hsz;have hw:IntKind.wrap .i64 ((i:Int)+1)=((i+1:Nat):Int):=by rw [wrap_i64 ad ad]; omega
  refine ay ⟨ad,ad⟩ (av rfl ?_);rw [show Int.toNat (i:Int)=i from ad];refine az (t.1,(t.2:Int),()) hc ?_;refine an ?_;refine bm ?_;intro h5 b5 e5 z5;refine aw b5 rfl aj ?_;intro h6 b6 k6 z6;have b6:bz h6 h4.size 66 [.string t.1,.int .u32 (t.2:Int)]:=b6;have e46:Ext h4 h6:=Ch.trans e5 k6 (fun j hj hl=>by simp at hj; omega);have m6:=m4.ao e46 aj;have e06:=e04.trans e46;have hz6:=e46.size;refine af b6 (t.1,()) rfl ?_;refine an ?_;have hfold:((x.ai.take (i+1)).flatMap (qA of)).foldl iE []=(qA of t).foldl iE (((x.ai.take i).flatMap (qA of)).foldl iE []):=by
   rw [htk,List.flatMap_append,List.foldl_append]
   simp
  have hnum:(x.ai.take (i+1)).foldl (fM of) x.num=fM of ((x.ai.take i).foldl (fM of) x.num) t:=by
   rw [htk,List.foldl_append]; rfl
  generalize (x.ai.take i).foldl (fM of) x.num=nn at hnum ⊢;generalize ((x.ai.take i).flatMap (qA of)).foldl iE []=D' at hfold m6 ⊢;refine zP (m.map.ao e06 aj) t.1 (fun y hy1=>?_) (fun hy0=>?_)
  ·have hoy:of t.1=some y.x:=by rw [hofs,hy1]; rfl
   refine bm ?_;intro h7 b7 e7 z7;refine aw b7 rfl aj ?_;intro h8 b8 k8 z8;have b8:bz h8 h6.size 60 [.slice y.p y.l y.c,.int .u32 (y.x.num:Int)]:=b8;have e68:Ext h6 h8:=Ch.trans e7 k8 (fun j hj hl=>by simp at hj; omega);refine bZ rfl ?_;refine af b8 ((y.p,y.l,y.c),()) rfl ?_;refine an ?_;have hh2:h2.size=h.size+2:=ad
   refine Qg (q:=t.2) (nm:=t.1) (us:=y.x.ai) rfl ((m.fe _ _ hy1).ao (e06.trans e68) aj) (hy _ _ hy1).1 (hy _ _ hy1).2 (m6.ao e68 aj) (fun hne hb=>by have:=(m.fe _ _ hy1).Tb hne _ hb; omega) (b6.ao e68 aj) ad ?_;intro J h9 m9 k9;have b69:=(b6.ao e68 aj).ao k9 (by simp; omega);have b89:=b8.ao k9 (by simp; omega);rw [aE];refine af b69 ((t.2:Int),()) rfl ?_;refine an ?_;rw [aE];refine af b89 ((y.x.num:Int),()) rfl ?_;refine an ?_;have hnn:IntKind.wrap .u32 ((nn:Int)+IntKind.wrap .u32 ((t.2:Int)*(y.x.num:Int)))=((fM of nn t:Nat):Int):=by
    unfold fM;rw [hoy];simp only;rw [dN,dN,iq,Int.natCast_add,iq,Int.natCast_mul]
   refine aF (cs:=[(false,[.int .u32]),(false,[.int .i64])]) (((fM of nn t:Nat):Int),((i+1:Nat):Int),()) (x.ai.length-(i+1)) rfl ad (by rw [hnn,hw]; rfl) ⟨i+1,rfl,ad,rfl,by rw [hnum],Ch.trans (Ch.trans (Ch.trans k4 e46 aj) e68 aj) k9 (fun j hj _=>hj),?_⟩;rw [hfold];unfold qA;rw [hoy];exact m9
  ·have hoy:of t.1=none:=by rw [hofs,hy0]; rfl
   refine bm ?_;intro h7 b7 e7 z7;refine aw b7 rfl aj ?_;intro h8 b8 k8 z8;have e68:Ext h6 h8:=Ch.trans e7 k8 (fun j hj hl=>by simp at hj; omega);have b68:=b6.ao e68 aj;refine bT rfl ?_;refine af b68 (t.1,()) rfl ?_;refine an ?_;refine oE (m6.ao e68 aj) _ ?_;rw [aE];refine af b68 ((t.2:Int),()) rfl ?_;refine an ?_;refine Gc (n:=(dJ D' t.1+t.2) % 4294967296) (m6.ao e68 aj) hsz ?_ ?_
   ·rw [dN,iq,Int.natCast_add]
   ·intro h9 m9 k9 z9;have hnn:fM of nn t=nn:=by unfold fM; rw [hoy]
    refine aF (cs:=[(false,[.int .u32]),(false,[.int .i64])]) ((nn:Int),((i+1:Nat):Int),()) (x.ai.length-(i+1)) rfl ad (by rw [hw]; rfl) ⟨i+1,rfl,ad,rfl,by rw [hnum,hnn],Ch.trans (Ch.trans (Ch.trans k4 e46 aj) e68 aj) k9 (fun j hj _=>hj),?_⟩;rw [hfold];unfold qA;rw [hoy];exact m9
 ·have g1:=of_decide_eq_false g1;have hi:i=x.ai.length:=ad
  subst hi;rw [List.take_length] at m4 ⊢;have hD:((x.ai.flatMap (qA of)).foldl iE []).length<=2^40:=by
   have:=vq (x.ai.flatMap (qA of)) []
   simp only [List.length_nil,Nat.zero_add] at this;omega
  refine KN (lv:=1) rfl m4 hD _ (b23.ao k4 (by simp; omega)) ?_;intro p' l' c' h9 s9 k9;exact ⟨⟨p',l',c',rfl,s9.mono ad⟩,Ch.trans e04 k9 (fun j hj hl=>by simp at hj; omega)⟩
structure TS where
 num:ByteArray->Option Nat
 jg:Nat
 low:ByteArray->Option Nat
 on:ByteArray->Option Bool
 back:ByteArray->Option Bool
 cS:List ByteArray
def ei (v:ByteArray) (st:TS):TS:={ st with num:=dy st.num v (st.jg+1),jg:=st.jg+1,low:=dy st.low v (st.jg+1),cS:=st.cS++[v],on:=dy st.on v true }
def fh (v w:ByteArray) (st:TS):TS:=if w=v then { st with back:=dy st.back v true } else st
def JW (v:ByteArray) (n:Nat) (st:TS):TS:={ st with low:=dy st.low v (min ((st.low v).getD 0) n) }
def sN (kW:ByteArray->TS->TS) (v w:ByteArray) (st:TS):TS :=
 if (st.num w).getD 0=0 then JW v (((kW w st).low w).getD 0) (kW w st)
 else if (st.on w).getD false=true then JW v ((st.num w).getD 0) st
 else st
def ef (own:ByteArray->Bool) (kW:ByteArray->TS->TS) (v:ByteArray) (st:TS) (w:ByteArray):TS :=
 if own w=true then sN kW v w (fh v w st) else st
def ox (pH:Bool) (st:TS) (x:ByteArray):TS:={ st with on:=dy st.on x false,back:=dy st.back x ((st.back x).getD false || pH) }
def qp (v:ByteArray) (st:TS):Nat:=st.cS.findIdx (fun x=>decide (v=x))
def qw (v:ByteArray) (st:TS):TS:={ (st.cS.drop (qp v st)).foldl (ox (decide (1<st.cS.length-qp v st))) st with cS:=st.cS.take (qp v st) }
def cH (own:ByteArray->Bool) (succ:ByteArray->List ByteArray):Nat->ByteArray->TS->TS
 | 0,_,st=>st
 | f+1,v,st =>
  if (((succ v).foldl (ef own (cH own succ f) v) (ei v st)).low v).getD 0<(((succ v).foldl (ef own (cH own succ f) v) (ei v st)).num v).getD 0 then (succ v).foldl (ef own (cH own succ f) v) (ei v st)
  else qw v ((succ v).foldl (ef own (cH own succ f) v) (ei v st))
def AM:TS:=⟨fun _=>none,0,fun _=>none,fun _=>none,fun _=>none,[]⟩
def wP (own:ByteArray->Bool) (succ:ByteArray->List ByteArray) (f:Nat) (st:TS) (v:ByteArray):TS:=if (st.num v).getD 0=0 then cH own succ f v st else st
def Em (own:ByteArray->Bool) (succ:ByteArray->List ByteArray) (names:List ByteArray):TS:=names.foldl (wP own succ names.length) AM
def qj (names:List ByteArray) (st:TS):Nat:=(names.filter fun v=>(st.num v).isNone).length
structure dq (names:List ByteArray) (st:TS):Prop where
 sum:st.jg+qj names st=names.length
 pos:∀ s n,st.num s=some n->1<=n
 cS:st.cS.length<=st.jg
 fe:∀ x,x∈st.cS->st.num x≠Option.none
theorem dq.none {names:List ByteArray} {st:TS} (g:dq names st) {w:ByteArray} (h:(st.num w).getD 0=0):st.num w=Option.none:=by
 cases hh:st.num w with
 | none=>rfl
 | some n =>
  rw [hh] at h
  have:=g.pos w n hh
  simp at h;omega
theorem PM {names:List ByteArray} (hn:names.Nodup) {v:ByteArray} (hv:v∈names) {f:ByteArray->Option Nat} (h0:f v=Option.none) (n:Nat):(names.filter fun s=>(dy f v n s).isNone).length+1=(names.filter fun s=>(f s).isNone).length:=by
 induction names with
 | nil=>simp at hv
 | cons x l ih =>
  obtain ⟨hx,hn⟩:=List.nodup_cons.1 hn
  by_cases e:x=v
  ·subst e;have hl:l.filter (fun s=>(dy f x n s).isNone)=l.filter (fun s=>(f s).isNone):=by
    refine List.filter_congr fun s hs=>?_
    rw [bQ _ _ (fun k=>hx (by rw [<- k]; exact hs))]
   rw [List.filter_cons,List.filter_cons,cw,h0,hl]
   simp
  ·have hv':v∈l:=by
    rcases List.mem_cons.1 hv with h | h
    ·exact (e h.symm).elim
    ·exact h
   have:=ih hn hv'
   rw [List.filter_cons,List.filter_cons,bQ _ _ e];split
   ·simp only [List.length_cons]; omega
   ·exact this
theorem yW (pH:Bool) (l:List ByteArray):∀ st:TS,(l.foldl (ox pH) st).num=st.num/\(l.foldl (ox pH) st).jg=st.jg/\(l.foldl (ox pH) st).low=st.low:=by
 induction l with
 | nil=>intro st; exact ⟨rfl,rfl,rfl⟩
 | cons x l ih =>
  intro st;rw [List.foldl_cons];exact ih _
theorem nk (v:ByteArray) (st:TS):(qw v st).num=st.num:=(yW _ _ _).1
theorem yC (v:ByteArray) (st:TS):(qw v st).jg=st.jg:=(yW _ _ _).2.1
theorem LK (v:ByteArray) (st:TS):(qw v st).low=st.low:=(yW _ _ _).2.2
theorem vf (v:ByteArray) (st:TS):(qw v st).cS=st.cS.take (qp v st):=rfl
theorem gR (v w:ByteArray) (st:TS):(fh v w st).num=st.num/\(fh v w st).jg=st.jg/\(fh v w st).cS=st.cS/\(fh v w st).on=st.on/\(fh v w st).low=st.low:=by
 unfold fh;split <;> exact ⟨rfl,rfl,rfl,rfl,rfl⟩
theorem dq.self {names:List ByteArray} {st:TS} (g:dq names st) (v w:ByteArray):dq names (fh v w st):=by
 obtain ⟨h1,h2,h3,_⟩:=gR v w st;exact ⟨by unfold qj; rw [h1,h2]; exact g.sum,by rw [h1]; exact g.pos,by rw [h2,h3]; exact g.cS,by rw [h1,h3]; exact g.fe⟩
theorem dq.low {names:List ByteArray} {st:TS} (g:dq names st) (v:ByteArray) (n:Nat):dq names (JW v n st):=⟨g.sum,g.pos,g.cS,g.fe⟩
theorem dq.open {names:List ByteArray} (hn:names.Nodup) {st:TS} (g:dq names st) {v:ByteArray} (hv:v∈names) (h0:st.num v=Option.none):dq names (ei v st)/\qj names (ei v st)+1=qj names st:=by
 have h1:qj names (ei v st)+1=qj names st:=PM hn hv h0 _;refine ⟨⟨?_,fun s n hs=>?_,?_,fun x hx=>?_⟩,h1⟩
 ·have:=g.sum
  show st.jg+1+qj names (ei v st)=_;omega
 ·have hs:dy st.num v (st.jg+1) s=some n:=hs
  by_cases e:s=v
  ·subst e;rw [cw] at hs
   have:=Option.some.inj hs
   omega
  ·rw [bQ _ _ e] at hs;exact g.pos s n hs
 ·have:=g.cS
  show (st.cS++[v]).length<=st.jg+1
  simp; omega
 ·have hx:x∈st.cS++[v]:=hx;show dy st.num v _ x≠Option.none
  by_cases e:x=v
  ·subst e; rw [cw]; simp
  ·rw [bQ _ _ e];rcases List.mem_append.1 hx with h | h
   ·exact g.fe x h
   ·exact (e (List.mem_singleton.1 h)).elim
theorem dq.pop {names:List ByteArray} {st:TS} (g:dq names st) (v:ByteArray):dq names (qw v st) :=
 ⟨by unfold qj; rw [nk,yC]; exact g.sum,by rw [nk]; exact g.pos,by rw [vf,yC,List.length_take]; have:=g.cS; omega,fun x hx=>by rw [nk]; rw [vf] at hx; exact g.fe x (List.mem_of_mem_take hx)⟩
def AG (names:List ByteArray) (st st':TS):Prop:=dq names st'/\(∀ s n,st.num s=some n->st'.num s=some n)/\st.cS <+: st'.cS
theorem AG.qj {names:List ByteArray} {st st':TS} (h:AG names st st'):qj names st'<=qj names st:=by
 unfold Sx.qj;rw [<- List.countP_eq_length_filter,<- List.countP_eq_length_filter];refine List.countP_mono_left fun x hx h'=>?_
 cases hh:st.num x with
 | none=>rfl
 | some n=>rw [h.2.1 x n hh] at h'; simp at h'
theorem AG.trans {names:List ByteArray} {a b c:TS} (h:AG names a b) (k:AG names b c):AG names a c:=⟨k.1,fun s n hs=>k.2.1 s n (h.2.1 s n hs),h.2.2.trans k.2.2⟩
theorem AG.refl {names:List ByteArray} {a:TS} (h:dq names a):AG names a a:=⟨h,fun s n hs=>hs,List.prefix_refl _⟩
theorem Mo {names:List ByteArray} {kW:ByteArray->TS->TS} {f:Nat} (hvis:∀ w st,dq names st->w∈names->st.num w=Option.none->Sx.qj names st<=f->AG names st (kW w st)) {v w:ByteArray} {st:TS} (g:dq names st) (hw:w∈names) (hu:Sx.qj names st<=f):AG names st (sN kW v w st):=by
 unfold sN;split
 ·rename_i h0;have h:=hvis w st g hw (g.none h0) hu;exact ⟨h.1.low v _,h.2.1,h.2.2⟩
 ·split
  ·exact ⟨g.low v _,fun s n hs=>hs,List.prefix_refl _⟩
  ·exact AG.refl g
theorem Dl {names:List ByteArray} {own:ByteArray->Bool} (hown:∀ s,own s=true->s∈names) {kW:ByteArray->TS->TS} {f:Nat} (hvis:∀ w st,dq names st->w∈names->st.num w=Option.none->Sx.qj names st<=f->AG names st (kW w st)) {v w:ByteArray} {st:TS} (g:dq names st) (hu:Sx.qj names st<=f):AG names st (ef own kW v st w):=by
 unfold ef;split
 ·rename_i ho;have h1:AG names st (fh v w st):=⟨g.self v w,fun s n hs=>by rw [(gR v w st).1]; exact hs,by rw [(gR v w st).2.2.1]; exact List.prefix_refl _⟩
  exact h1.trans (Mo hvis (g.self v w) (hown w ho) (Nat.le_trans h1.qj hu))
 ·exact AG.refl g
theorem Ad {names:List ByteArray} {own:ByteArray->Bool} (hown:∀ s,own s=true->s∈names) {kW:ByteArray->TS->TS} {f:Nat} (hvis:∀ w st,dq names st->w∈names->st.num w=Option.none->Sx.qj names st<=f->AG names st (kW w st)) (v:ByteArray):∀ (l:List ByteArray) (st:TS),dq names st->Sx.qj names st<=f->AG names st (l.foldl (ef own kW v) st)
 | [],st,g,hu=>AG.refl g
 | w::l,st,g,hu=>by
  have h1:=Dl hown hvis (v:=v) (w:=w) g hu;rw [List.foldl_cons];exact h1.trans (Ad hown hvis v l _ h1.1 (Nat.le_trans h1.qj hu))
theorem Ik {a b:List ByteArray} {v:ByteArray} (h:a++[v] <+: b) (hv:v∉a) {st:TS} (hs:st.cS=b):qp v st=a.length/\b.take a.length=a/\a.length<b.length:=by
 obtain ⟨t,rfl⟩:=h;unfold qp;rw [hs];refine ⟨?_,aj,aj⟩;rw [List.append_assoc,List.findIdx_append,if_neg ?_]
 ·simp [List.findIdx_cons]
 ·rw [List.findIdx_lt_length];rintro ⟨x,hx,e⟩;exact hv (by rw [of_decide_eq_true e]; exact hx)
theorem dq.U3 {names:List ByteArray} {st:TS} (g:dq names st) {v:ByteArray} (h0:st.num v=Option.none):v∉st.cS:=fun hv=>g.fe v hv h0
theorem Nb {names:List ByteArray} (hn:names.Nodup) {v:ByteArray} {st:TS} (g:dq names st) (hv:v∈names) (h0:st.num v=Option.none):AG names st (ei v st) :=
 ⟨(g.open hn hv h0).1,fun s n hs=>by
   show dy st.num v _ s=some n;rw [bQ _ _ (fun e=>by rw [e,h0] at hs; cases hs)];exact hs,⟨[v],rfl⟩⟩
theorem ry {names:List ByteArray} (hn:names.Nodup) {own:ByteArray->Bool} (hown:∀ s,own s=true->s∈names) (succ:ByteArray->List ByteArray):∀ (f:Nat) (v:ByteArray) (st:TS),dq names st->v∈names->st.num v=Option.none->Sx.qj names st<=f->AG names st (cH own succ f v st)
 | 0,v,st,g,hv,h0,hu=>AG.refl g
 | f+1,v,st,g,hv,h0,hu=>by
  obtain ⟨g1,hu1⟩:=g.open hn hv h0;have h2:=Ad hown (ry hn hown succ f) v (succ v) _ g1 ad;have h3:=(Nb hn g hv h0).trans h2;unfold cH;split
  ·exact h3
  ·refine ⟨h3.1.pop v,fun s n hs=>by rw [nk]; exact h3.2.1 s n hs,?_⟩;obtain ⟨e1,e2,_⟩:=Ik (a:=st.cS) (v:=v) h2.2.2 (g.U3 h0) rfl;rw [vf,e1,e2];exact List.prefix_refl _
theorem I1 {names:List ByteArray} (hn:names.Nodup) {own:ByteArray->Bool} (hown:∀ s,own s=true->s∈names) (succ:ByteArray->List ByteArray) {f:Nat} {v:ByteArray} {st:TS} (g:dq names st) (hv:v∈names) (h0:st.num v=Option.none) (hu:Sx.qj names st<=f+1) (l:List ByteArray) :
  dq names (l.foldl (ef own (cH own succ f) v) (ei v st))/\Sx.qj names (l.foldl (ef own (cH own succ f) v) (ei v st))<=f/\st.cS++[v] <+: (l.foldl (ef own (cH own succ f) v) (ei v st)).cS/\∃ n,(l.foldl (ef own (cH own succ f) v) (ei v st)).num v=some n:=by
 obtain ⟨g1,hu1⟩:=g.open hn hv h0;have h2:=Ad hown (ry hn hown succ f) v l _ g1 ad;exact ⟨h2.1,by have:=h2.qj; omega,h2.2.2,_,h2.2.1 v (st.jg+1) (cw _ _ _)⟩
theorem Vh (names:List ByteArray):dq names AM:=⟨by unfold qj AM; simp,fun s n hs=>(by cases hs),by simp [AM],by simp [AM]⟩
section
variable {E:ByteArray->ByteArray->Prop}
inductive oL (E:ByteArray->ByteArray->Prop):ByteArray->ByteArray->Prop
 | refl (a:ByteArray):oL E a a
 | head {a b c:ByteArray}:E a b->oL E b c->oL E a c
theorem oL.trans {a b c:ByteArray} (h:oL E a b) (k:oL E b c):oL E a c:=by
 induction h with
 | refl=>exact k
 | head e _ ih=>exact .head e (ih k)
theorem oL.one {a b:ByteArray} (h:E a b):oL E a b:=.head h (.refl b)
def jT (E:ByteArray->ByteArray->Prop) (v:ByteArray):Prop:=∃ y,E v y/\oL E y v
theorem jT.of {a b:ByteArray} (h:oL E a b) (k:oL E b a) (hne:a≠b):jT E a:=by
 cases h with
 | refl=>exact (hne rfl).elim
 | head e r=>exact ⟨_,e,r.trans k⟩
structure Inv (E:ByteArray->ByteArray->Prop) (G:List ByteArray) (st:TS):Prop where
 le:∀ s n,st.num s=some n->1<=n/\n<=st.jg
 cS:∀ x,x∈st.cS->st.num x≠none
 on:∀ x,(st.on x).getD false=true↔x∈st.cS
 gr:∀ g,g∈G->g∈st.cS
 cl:∀ x,st.num x≠none->x∉st.cS->∀ y,E x y->st.num y≠none/\y∉st.cS
 bl:∀ x,st.num x≠none->x∉G->∀ y,E x y->st.num y≠none
 rg:∀ x,x∈st.cS->∃ g,g∈G/\oL E x g
 b0:∀ x,st.num x=none->(st.back x).getD false=false
 bc:∀ x,st.num x≠none->x∉st.cS->((st.back x).getD false=true↔jT E x)
 bw:∀ x,x∈st.cS->(st.back x).getD false=true->E x x
 bb:∀ x,x∈st.cS->x∉G->E x x->(st.back x).getD false=true
theorem Inv.low {G:List ByteArray} {st:TS} (i:Inv E G st) (v:ByteArray) (n:Nat):Inv E G (JW v n st):=⟨i.le,i.cS,i.on,i.gr,i.cl,i.bl,i.rg,i.b0,i.bc,i.bw,i.bb⟩
theorem Inv.SW {G:List ByteArray} {st:TS} (i:Inv E G st) {x y:ByteArray} (h:oL E x y):st.num x≠none->x∉st.cS->st.num y≠none/\y∉st.cS:=by
 induction h with
 | refl=>exact fun h k=>⟨h,k⟩
 | head e _ ih=>intro h k; obtain ⟨h2,k2⟩:=i.cl _ h k _ e; exact ih h2 k2
theorem Inv.self {G:List ByteArray} {st:TS} (i:Inv E G st) {v w:ByteArray} (hv:v∈G) (he:w=v->E v v):Inv E G (fh v w st):=by
 unfold fh;split
 ·rename_i h;have hw:=i.gr v hv;have hn:=i.cS v hw;refine ⟨i.le,i.cS,i.on,i.gr,i.cl,i.bl,i.rg,fun x hx=>?_,fun x hx hxw=>?_,fun x hx hb=>?_,fun x hx hg hE=>?_⟩
  ·have hne:x≠v:=fun e=>hn (by rw [<- e]; exact hx)
   show (dy st.back v true x).getD false=false;rw [bQ _ _ hne]; exact i.b0 x hx
  ·have hne:x≠v:=fun e=>hxw (by rw [e]; exact hw)
   show (dy st.back v true x).getD false=true↔_;rw [bQ _ _ hne]; exact i.bc x hx hxw
  ·by_cases e:x=v
   ·subst e; exact he h
   ·have hb:(dy st.back v true x).getD false=true:=hb;rw [bQ _ _ e] at hb; exact i.bw x hx hb
  ·have hne:x≠v:=fun e=>hg (by rw [e]; exact hv)
   show (dy st.back v true x).getD false=true;rw [bQ _ _ hne]; exact i.bb x hx hg hE
 ·exact i
theorem Inv.open {G:List ByteArray} {st:TS} (i:Inv E G st) {v:ByteArray} (h0:st.num v=none):Inv E (v::G) (ei v st):=by
 have hw:v∉st.cS:=fun h=>i.cS v h h0
 have num_other:∀ {x},x≠v->(ei v st).num x=st.num x:=fun h=>bQ _ _ h
 have mono:∀ {x},st.num x≠none->(ei v st).num x≠none:=by
  intro x h;rw [num_other (fun e=>h (by rw [e]; exact h0))]; exact h
 refine ⟨fun s n hs=>?_,fun x hx=>?_,fun x=>?_,fun g hg=>?_,fun x hx hxw y hy=>?_,fun x hx hxg y hy=>?_,fun x hx=>?_,fun x hx=>?_,fun x hx hxw=>?_,fun x hx hb=>?_,fun x hx hg hE=>?_⟩
 ·show 1<=n/\n<=st.jg+1
  by_cases e:s=v
  ·subst e;have hs:dy st.num s (st.jg+1) s=some n:=hs;rw [cw] at hs
   have:=Option.some.inj hs
   omega
  ·rw [num_other e] at hs
   have:=i.le s n hs
   omega
 ·rcases List.mem_append.1 (show x∈st.cS++[v] from hx) with h | h
  ·exact mono (i.cS x h)
  ·rw [List.mem_singleton.1 h];show dy st.num v _ v≠none;rw [cw]; simp
 ·show (dy st.on v true x).getD false=true↔x∈st.cS++[v]
  by_cases e:x=v
  ·subst e; rw [cw]; simp
  ·rw [bQ _ _ e,i.on x]; simp [e]
 ·show g∈st.cS++[v];rcases List.mem_cons.1 hg with h | h
  ·simp [h]
  ·exact List.mem_append_left _ (i.gr g h)
 ·have hxw:x∉st.cS++[v]:=hxw;have hne:x≠v:=fun e=>hxw (by simp [e])
  rw [num_other hne] at hx;obtain ⟨h1,h2⟩:=i.cl x hx (fun h=>hxw (List.mem_append_left _ h)) y hy;refine ⟨mono h1,?_⟩;show y∉st.cS++[v];intro h;rcases List.mem_append.1 h with h | h
  ·exact h2 h
  ·exact h1 (by rw [List.mem_singleton.1 h]; exact h0)
 ·have hne:x≠v:=fun e=>hxg (by simp [e])
  rw [num_other hne] at hx;exact mono (i.bl x hx (fun h=>hxg (List.mem_cons_of_mem _ h)) y hy)
 ·rcases List.mem_append.1 (show x∈st.cS++[v] from hx) with h | h
  ·obtain ⟨g,hg,r⟩:=i.rg x h;exact ⟨g,List.mem_cons_of_mem _ hg,r⟩
  ·rw [List.mem_singleton.1 h];exact ⟨v,aj,.refl v⟩
 ·have hne:x≠v:=by
   intro e;subst e;have hx:dy st.num x _ x=none:=hx;rw [cw] at hx; cases hx
  rw [num_other hne] at hx;exact i.b0 x hx
 ·have hxw:x∉st.cS++[v]:=hxw;have hne:x≠v:=fun e=>hxw (by simp [e])
  rw [num_other hne] at hx;exact i.bc x hx (fun h=>hxw (List.mem_append_left _ h))
 ·rcases List.mem_append.1 (show x∈st.cS++[v] from hx) with h | h
  ·exact i.bw x h hb
  ·rw [List.mem_singleton.1 h] at hb;have hb:(st.back v).getD false=true:=hb;rw [i.b0 v h0] at hb; cases hb
 ·have hne:x≠v:=fun e=>hg (by simp [e])
  rcases List.mem_append.1 (show x∈st.cS++[v] from hx) with h | h
  ·exact i.bb x h (fun k=>hg (List.mem_cons_of_mem _ k)) hE
  ·exact (hne (List.mem_singleton.1 h)).elim
def tP (st:TS) (v:ByteArray):Nat:=(st.low v).getD 0
def rH (st:TS) (v:ByteArray):Nat:=(st.num v).getD 0
def RG (s0 st:TS):Prop:=∀ s,s0.num s≠none->st.num s=s0.num s/\st.low s=s0.low s/\st.back s=s0.back s
def Uk (s0 st:TS):Prop:=∀ s n,s0.num s=none->st.num s=some n->s0.jg<n
def Tz (E:ByteArray->ByteArray->Prop) (v:ByteArray) (s0 st:TS) (x:ByteArray):Prop:=s0.num x=none/\oL E v x/\∀ y,E x y->y∈s0.cS->tP st v<=rH st y
structure oi (E:ByteArray->ByteArray->Prop) (G:List ByteArray) (v:ByteArray) (s0 st:TS):Prop where
 inv:Inv E G st
 old:RG s0 st
 jg:s0.jg<=st.jg
 new:Uk s0 st
 num:∃ n,st.num v=some n
 cS:∃ X,st.cS=s0.cS++X/\∀ x,x∈X->Tz E v s0 st x
 low:tP st v<rH st v->∃ y,y∈s0.cS/\oL E v y/\st.num y=some (tP st v)
structure FL (E:ByteArray->ByteArray->Prop) (own:ByteArray->Bool) (G:List ByteArray) (v:ByteArray) (P:List ByteArray) (s0 st:TS):Prop where
 inv:Inv E (v::G) st
 old:RG s0 st
 jg:s0.jg<=st.jg
 new:Uk s0 st
 num:st.num v=some (s0.jg+1)
 cS:∃ X,st.cS=s0.cS++v::X/\∀ x,x∈X->x≠v/\Tz E v s0 st x
 low:tP st v<s0.jg+1->∃ y,y∈s0.cS/\oL E v y/\st.num y=some (tP st v)
 kW:∀ w,w∈P->own w=true->st.num w≠none/\(w∈s0.cS->tP st v<=rH st w)/\(w=v->(st.back v).getD false=true)
theorem FL.start {own:ByteArray->Bool} {G:List ByteArray} {v:ByteArray} {s0:TS} (i:Inv E G s0) (h0:s0.num v=none):FL E own G v [] s0 (ei v s0):=by
 refine ⟨i.open h0,fun s hs=>?_,Nat.le_succ _,fun s n hs hn=>?_,cw _ _ _,⟨[],rfl,fun x hx=>by simp at hx⟩,fun hl=>?_,fun w hw=>by simp at hw⟩
 ·have hne:s≠v:=fun e=>hs (by rw [e]; exact h0)
  exact ⟨bQ _ _ hne,bQ _ _ hne,rfl⟩
 ·by_cases e:s=v
  ·subst e;have hn:dy s0.num s (s0.jg+1) s=some n:=hn;rw [cw] at hn
   have:=Option.some.inj hn
   omega
  ·have hn:dy s0.num v (s0.jg+1) s=some n:=hn;rw [bQ _ _ e,hs] at hn; cases hn
 ·have hl:(dy s0.low v (s0.jg+1) v).getD 0<s0.jg+1:=hl;rw [cw] at hl;simp at hl
theorem FL.self {own:ByteArray->Bool} {G:List ByteArray} {v w:ByteArray} {P:List ByteArray} {s0 st:TS} (m:FL E own G v P s0 st) (h0:s0.num v=none) (he:w=v->E v v) :
  FL E own G v P s0 (fh v w st)/\(w=v->((fh v w st).back v).getD false=true):=by
 obtain ⟨k1,k2,k3,k4,k5⟩:=gR v w st;have hb:∀ s,s≠v->(fh v w st).back s=st.back s:=by
  intro s hs;unfold fh;split
  ·exact bQ _ _ hs
  ·rfl
 have hbv:w=v->((fh v w st).back v).getD false=true:=by
  intro e;unfold fh;rw [if_pos e];show (dy st.back v true v).getD false=true;rw [cw]; rfl
 have hbv2:(st.back v).getD false=true->((fh v w st).back v).getD false=true:=by
  intro h;unfold fh;split
  ·show (dy st.back v true v).getD false=true;rw [cw]; rfl
  ·exact h
 refine ⟨⟨m.inv.self aj he,fun s hs=>?_,by rw [k2]; exact m.jg,fun s n hs hn=>by rw [k1] at hn; exact m.new s n hs hn,by rw [k1]; exact m.num,?_,?_,fun u hu ho=>?_⟩,hbv⟩
 ·have hne:s≠v:=fun e=>hs (by rw [e]; exact h0)
  rw [k1,k5,hb s hne];exact m.old s hs
 ·obtain ⟨X,hX,hx⟩:=m.cS;refine ⟨X,by rw [k3]; exact hX,fun x hxX=>?_⟩
  have:=hx x hxX
  unfold Tz tP rH at *;rw [k1,k5];exact this
 ·unfold tP;rw [k1,k5];exact m.low
 ·obtain ⟨a,b,c⟩:=m.kW u hu ho;unfold tP rH at *;rw [k1,k5];exact ⟨a,b,fun e=>hbv2 (c e)⟩
theorem oF (v:ByteArray) (n:Nat) (st:TS):tP (JW v n st) v=min (tP st v) n:=by
 unfold tP;show (dy st.low v _ v).getD 0=_;rw [cw]; rfl
theorem FL.rest {own:ByteArray->Bool} {G:List ByteArray} {v w:ByteArray} {P:List ByteArray} {s0 st:TS} {kW:ByteArray->TS->TS} (i0:Inv E G s0) (m:FL E own G v P s0 st) (h0:s0.num v=none) (hG:∀ g,g∈G->oL E g v) (he:E v w)
  (hb:w=v->(st.back v).getD false=true) (hz:(st.num w).getD 0=0->st.num w=none) (hvis:st.num w=none->(∀ g,g∈v::G->oL E g w)->oi E (v::G) w st (kW w st)) :
  FL E own G v (P++[w]) s0 (sN kW v w st):=by
 obtain ⟨X,hX,hx⟩:=m.cS;have hv:st.num v≠none:=by rw [m.num]; simp
 have old1:∀ s,s0.num s≠none->st.num s≠none:=fun s hs=>by rw [(m.old s hs).1]; exact hs
 have hsub:∀ y,y∈s0.cS->y∈st.cS:=fun y hy=>by rw [hX]; exact List.mem_append_left _ hy
 unfold sN;split
 ·rename_i hw0;have hw:=hz hw0;have hwv:w≠v:=fun e=>hv (by rw [<- e]; exact hw)
  have p:=hvis hw (fun g hg=>by
   rcases List.mem_cons.1 hg with h | h
   ·rw [h]; exact .one he
   ·exact (hG g h).trans (.one he))
  generalize kW w st=s2 at p ⊢;show FL E own G v (P++[w]) s0 (JW v (tP s2 w) s2);obtain ⟨X2,hX2,hx2⟩:=p.cS;have hlow2:tP s2 v=tP st v:=by unfold tP; rw [(p.old v hv).2.1]
  have hnum2:s2.num v=some (s0.jg+1):=by rw [(p.old v hv).1]; exact m.num
  refine ⟨p.inv.low v _,fun s hs=>?_,Nat.le_trans m.jg p.jg,fun s n hs hn=>?_,hnum2,⟨X++X2,?_,fun x hxX=>?_⟩,fun hl=>?_,fun u hu ho=>?_⟩
  ·have hne:s≠v:=fun e=>hs (by rw [e]; exact h0)
   obtain ⟨a,b,c⟩:=m.old s hs;obtain ⟨a2,b2,c2⟩:=p.old s (old1 s hs);refine ⟨a2.trans a,?_,c2.trans c⟩;show dy s2.low v _ s=_;rw [bQ _ _ hne];exact b2.trans b
  ·by_cases h1:st.num s=none
   ·have:=p.new s n h1 hn
    have:=m.jg
    omega
   ·have hn:s2.num s=some n:=hn;rw [(p.old s h1).1] at hn;exact m.new s n hs hn
  ·show s2.cS=_;rw [hX2,hX,List.append_assoc,List.cons_append]
  ·rcases List.mem_append.1 hxX with h | h
   ·obtain ⟨a,b,c,d⟩:=hx x h;refine ⟨a,b,c,fun y hy hyw=>?_⟩;rw [oF,hlow2]
    have:=d y hy hyw
    have e:rH s2 y=rH st y:=by unfold rH; rw [(p.old y (m.inv.cS y (hsub y hyw))).1]
    show _<=rH s2 y;omega
   ·obtain ⟨b,c,d⟩:=hx2 x h;refine ⟨fun e=>hv (by rw [<- e]; exact b),?_,oL.head he c,fun y hy hyw=>?_⟩
    ·apply Classical.byContradiction;intro k;exact old1 x k b
    ·rw [oF]
     have:=d y hy (hsub y hyw)
     show _<=rH s2 y;omega
  ·rw [oF,hlow2] at hl ⊢;show ∃ y,y∈s0.cS/\oL E v y/\s2.num y=_
   by_cases hc:tP st v<=tP s2 w
   ·rw [Nat.min_eq_left hc] at hl ⊢;obtain ⟨y,hy,hr,hn⟩:=m.low hl;exact ⟨y,hy,hr,by rw [(p.old y (m.inv.cS y (hsub y hy))).1]; exact hn⟩
   ·rw [Nat.min_eq_right ad] at hl ⊢;obtain ⟨n,hn⟩:=p.num;have h2:=p.new w n hw hn;have h3:=m.jg;obtain ⟨y,hy,hr,hyn⟩:=p.low (by unfold rH; rw [hn]; simp; omega);refine ⟨y,?_,oL.head he hr,hyn⟩;rw [hX] at hy;rcases List.mem_append.1 hy with h | h
    ·exact h
    ·rcases List.mem_cons.1 h with h | h
     ·rw [h,hnum2] at hyn
      have:=Option.some.inj hyn
      omega
     ·have hyst:st.num y≠none:=m.inv.cS y (by rw [hX]; exact List.mem_append_right _ (List.mem_cons_of_mem _ h));rw [(p.old y hyst).1] at hyn
      have:=m.new y _ (hx y h).2.1 hyn
      omega
  ·rw [oF,hlow2];rcases List.mem_append.1 hu with h | h
   ·obtain ⟨a,b,c⟩:=m.kW u h ho;have hn:s2.num u=st.num u:=(p.old u a).1;refine ⟨by show s2.num u≠none; rw [hn]; exact a,fun k=>?_,fun k=>?_⟩
    ·have:=b k
     have e:rH s2 u=rH st u:=by unfold rH; rw [hn]
     show _<=rH s2 u;omega
    ·show (s2.back v).getD false=true;rw [(p.old v hv).2.2];exact c k
   ·have h:=List.mem_singleton.1 h;subst h;obtain ⟨n,hn⟩:=p.num;exact ⟨by show s2.num u≠none; rw [hn]; simp,fun k=>(m.inv.cS u (hsub u k) hw).elim,fun k=>(hwv k).elim⟩
 ·rename_i hw0;have hw:st.num w≠none:=fun e=>hw0 (by rw [e]; rfl)
  obtain ⟨n,hn⟩:=Option.ne_none_iff_exists'.1 hw;split
  ·rename_i hon;have hwy:=(m.inv.on w).1 hon;have hnn:(st.num w).getD 0=n:=by rw [hn]; rfl
   rw [hnn];refine ⟨m.inv.low v _,fun s hs=>?_,m.jg,m.new,m.num,⟨X,hX,fun x hxX=>?_⟩,fun hl=>?_,fun u hu ho=>?_⟩
   ·have hne:s≠v:=fun e=>hs (by rw [e]; exact h0)
    obtain ⟨a,b,c⟩:=m.old s hs;refine ⟨a,?_,c⟩;show dy st.low v _ s=_;rw [bQ _ _ hne];exact b
   ·obtain ⟨a,b,c,d⟩:=hx x hxX;refine ⟨a,b,c,fun y hy hyw=>?_⟩;rw [oF]
    have:=d y hy hyw
    show _<=rH st y;omega
   ·rw [oF] at hl ⊢;show ∃ y,y∈s0.cS/\oL E v y/\st.num y=_
    by_cases hc:tP st v<=n
    ·rw [Nat.min_eq_left hc] at hl ⊢;exact m.low hl
    ·rw [Nat.min_eq_right ad] at hl ⊢;refine ⟨w,?_,.one he,hn⟩;rw [hX] at hwy;rcases List.mem_append.1 hwy with h | h
     ·exact h
     ·rcases List.mem_cons.1 h with h | h
      ·rw [h,m.num] at hn
       have:=Option.some.inj hn
       omega
      ·have:=m.new w _ (hx w h).2.1 hn
       omega
   ·rw [oF];rcases List.mem_append.1 hu with h | h
    ·obtain ⟨a,b,c⟩:=m.kW u h ho;refine ⟨a,fun k=>?_,c⟩
     have:=b k
     show _<=rH st u;omega
    ·have h:=List.mem_singleton.1 h;subst h;refine ⟨hw,fun k=>?_,hb⟩;show _<=(st.num u).getD 0;rw [hnn];omega
  ·rename_i hon;refine ⟨m.inv,m.old,m.jg,m.new,m.num,m.cS,m.low,fun u hu ho=>?_⟩;rcases List.mem_append.1 hu with h | h
   ·exact m.kW u h ho
   ·have h:=List.mem_singleton.1 h;subst h;exact ⟨hw,fun k=>(hon ((m.inv.on u).2 (hsub u k))).elim,hb⟩
theorem FL.Sk {own:ByteArray->Bool} {succ:ByteArray->List ByteArray} {G:List ByteArray} {v:ByteArray} {s0 st:TS} (hE:∀ a b,E a b↔b∈succ a/\own b=true) (i0:Inv E G s0) (m:FL E own G v (succ v) s0 st) (hl:tP st v<rH st v):oi E G v s0 st:=by
 obtain ⟨X,hX,hx⟩:=m.cS;have hnv:rH st v=s0.jg+1:=by unfold rH; rw [m.num]; rfl
 have i:=m.inv;have hvw:v∈st.cS:=i.gr v aj;have kW:∀ y,E v y->st.num y≠none/\(y∈s0.cS->tP st v<=rH st y)/\(y=v->(st.back v).getD false=true):=fun y hy=>m.kW y ((hE v y).1 hy).1 ((hE v y).1 hy).2
 obtain ⟨y0,hy0,hr0,hn0⟩:=m.low ad;obtain ⟨g0,hg0,hr1⟩:=i0.rg y0 hy0;refine ⟨⟨i.le,i.cS,i.on,fun g hg=>i.gr g (List.mem_cons_of_mem _ hg),i.cl,fun x hx1 hxg y hy=>?_,fun x hxw=>?_,i.b0,i.bc,i.bw,fun x hxw hxg hxx=>?_⟩,m.old,m.jg,m.new,⟨_,m.num⟩,⟨v::X,hX,fun x hxX=>?_⟩,fun _=>⟨y0,hy0,hr0,hn0⟩⟩
 ·by_cases e:x=v
  ·subst e; exact (kW y hy).1
  ·exact i.bl x hx1 (by simp [e,hxg]) y hy
 ·obtain ⟨g,hg,r⟩:=i.rg x hxw;rcases List.mem_cons.1 hg with h | h
  ·rw [h] at r;exact ⟨g0,hg0,(r.trans hr0).trans hr1⟩
  ·exact ⟨g,h,r⟩
 ·by_cases e:x=v
  ·subst e; exact (kW x hxx).2.2 rfl
  ·exact i.bb x hxw (by simp [e,hxg]) hxx
 ·rcases List.mem_cons.1 hxX with h | h
  ·subst h;refine ⟨?_,.refl x,fun y hy hyw=>(kW y hy).2.1 hyw⟩;cases hh:s0.num x with
   | none=>rfl
   | some n =>
    have h1:=(m.old x (by rw [hh]; simp)).1;rw [hh,m.num] at h1
    have:=Option.some.inj h1
    have:=(i0.le x n hh).2
    omega
  ·exact (hx x h).2
open Classical in
theorem TA (pH:Bool) (x:ByteArray) (l:List ByteArray):∀ st:TS,((l.foldl (ox pH) st).on x).getD false=(if x∈l then false else (st.on x).getD false)/\((l.foldl (ox pH) st).back x).getD false=(if x∈l then ((st.back x).getD false || pH) else (st.back x).getD false)/\(x∉l->(l.foldl (ox pH) st).back x=st.back x):=by
 induction l with
 | nil=>intro st; simp
 | cons y l ih =>
  intro st;rw [List.foldl_cons];obtain ⟨a,b,c⟩:=ih (ox pH st y);rw [a,b]
  by_cases e:x=y
  ·subst e;have e1:((ox pH st x).on x)=some false:=cw _ _ _;have e2:((ox pH st x).back x)=some ((st.back x).getD false || pH):=cw _ _ _;rw [e1,e2];refine ⟨aj,by by_cases hm:x∈l <;> simp [hm],fun h=>(h aj).elim⟩
  ·have e1:((ox pH st y).on x)=st.on x:=bQ _ _ e;have e2:((ox pH st y).back x)=st.back x:=bQ _ _ e;rw [e1,e2];refine ⟨by simp [e],by simp [e],fun h=>?_⟩;rw [c (fun k=>h (List.mem_cons_of_mem _ k)),e2]
open Classical in
theorem FL.Uv {own:ByteArray->Bool} {succ:ByteArray->List ByteArray} {G:List ByteArray} {v:ByteArray} {s0 st:TS} (hE:∀ a b,E a b↔b∈succ a/\own b=true) (i0:Inv E G s0) (m:FL E own G v (succ v) s0 st) (h0:s0.num v=none) (hG:∀ g,g∈G->oL E g v) (hl:¬ tP st v<rH st v):oi E G v s0 (qw v st):=by
 obtain ⟨X,hX,hx⟩:=m.cS;have hnv:rH st v=s0.jg+1:=by unfold rH; rw [m.num]; rfl
 have i:=m.inv;have hvw:v∈st.cS:=i.gr v aj;have kW:∀ y,E v y->st.num y≠none/\(y∈s0.cS->tP st v<=rH st y)/\(y=v->(st.back v).getD false=true):=fun y hy=>m.kW y ((hE v y).1 hy).1 ((hE v y).1 hy).2
 have dU:v∉s0.cS:=fun h=>i0.cS v h h0
 obtain ⟨e1,e2,e3⟩:=Ik (a:=s0.cS) (v:=v) (b:=st.cS) ⟨X,by rw [hX]; simp⟩ dU rfl;have hdrop:st.cS.drop (qp v st)=v::X:=by rw [e1,hX]; simp
 have hbig:decide (1<st.cS.length-qp v st)=decide (1<(v::X).length):=by rw [<- hdrop,List.length_drop]
 have hway:(qw v st).cS=s0.cS:=by rw [vf,e1,e2]
 have hnum:=nk v st;have hlow:=LK v st;have hcnt:=yC v st;have hoff:=fun x=>TA (decide (1<(v::X).length)) x (v::X) st
 have hon:∀ x,((qw v st).on x).getD false=(if x∈v::X then false else (st.on x).getD false):=by
  intro x;rw [<- (hoff x).1];unfold qw;rw [hdrop,hbig]
 have hbk:∀ x,((qw v st).back x).getD false=(if x∈v::X then ((st.back x).getD false || decide (1<(v::X).length)) else (st.back x).getD false):=by
  intro x;rw [<- (hoff x).2.1];unfold qw;rw [hdrop,hbig]
 have hbo:∀ x,x∉v::X->(qw v st).back x=st.back x:=by
  intro x hh;rw [<- (hoff x).2.2 hh];unfold qw;rw [hdrop,hbig]
 have hnew:∀ x,x∈v::X->s0.num x=none:=by
  intro x h;rcases List.mem_cons.1 h with h | h
  ·rw [h]; exact h0
  ·exact (hx x h).2.1
 have hdis:∀ x,x∈s0.cS->x∉v::X:=fun x h k=>i0.cS x h (hnew x k)
 have hmem:∀ x,x∈st.cS↔x∈s0.cS\/x∈v::X:=fun x=>by rw [hX]; exact List.mem_append
 have hlt:∀ y,y∈s0.cS->¬ tP st v<=rH st y:=by
  intro y hy;obtain ⟨n,hn⟩:=Option.ne_none_iff_exists'.1 (i0.cS y hy)
  have:=(i0.le y n hn).2
  have e:rH st y=n:=by unfold rH; rw [(m.old y (i0.cS y hy)).1,hn]; rfl
  omega
 have hblk:∀ x,st.num x≠none->x∉G->∀ y,E x y->st.num y≠none:=by
  intro x hx1 hxg y hy
  by_cases e:x=v
  ·subst e; exact (kW y hy).1
  ·exact i.bl x hx1 (by simp [e,hxg]) y hy
 have hrv:∀ x,x∈st.cS->oL E x v:=by
  intro x h;obtain ⟨g,hg,r⟩:=i.rg x h;rcases List.mem_cons.1 hg with h | h
  ·rw [h] at r; exact r
  ·exact r.trans (hG g h)
 refine ⟨⟨fun s n hs=>?_,fun x hxw=>?_,fun x=>?_,fun g hg=>?_,fun x hx1 hxw y hy=>?_,fun x hx1 hxg y hy=>?_,fun x hxw=>?_,fun x hx0=>?_,fun x hx1 hxw=>?_,fun x hxw hb=>?_,fun x hxw hxg hxx=>?_⟩,fun s hs=>?_,by rw [hcnt]; exact m.jg,fun s n hs hn=>by rw [hnum] at hn; exact m.new s n hs hn,⟨_,by rw [hnum]; exact m.num⟩,⟨[],by rw [hway]; simp,fun x hxX=>by simp at hxX⟩,fun hlt=>?_⟩
 ·rw [hnum] at hs; rw [hcnt]; exact i.le s n hs
 ·rw [hnum]; rw [hway] at hxw; exact i.cS x ((hmem x).2 (.inl hxw))
 ·rw [hon,hway]
  by_cases h:x∈v::X
  ·rw [if_pos h];exact ⟨fun k=>(by cases k),fun k=>(hdis x k h).elim⟩
  ·rw [if_neg h,i.on x,hmem];exact ⟨fun k=>k.resolve_right h,.inl⟩
 ·rw [hway]; exact i0.gr g hg
 ·rw [hnum] at hx1 ⊢;rw [hway] at hxw ⊢
  by_cases h:x∈v::X
  ·have hxg:x∉G:=fun k=>hxw (i0.gr x k)
   refine ⟨hblk x hx1 hxg y hy,fun hys=>hlt y hys ?_⟩;rcases List.mem_cons.1 h with h | h
   ·subst h; exact (kW y hy).2.1 hys
   ·exact (hx x h).2.2.2 y hy hys
  ·obtain ⟨a,b⟩:=i.cl x hx1 (fun k=>((hmem x).1 k).elim hxw h) y hy;exact ⟨a,fun k=>b ((hmem y).2 (.inl k))⟩
 ·rw [hnum] at hx1 ⊢;exact hblk x hx1 hxg y hy
 ·rw [hway] at hxw; exact i0.rg x hxw
 ·rw [hnum] at hx0;rw [hbk,if_neg (fun k=>i.cS x ((hmem x).2 (.inr k)) hx0)];exact i.b0 x hx0
 ·rw [hnum] at hx1;rw [hway] at hxw;rw [hbk]
  by_cases h:x∈v::X
  ·rw [if_pos h]
   by_cases hb:1<(v::X).length
   ·rw [decide_eq_true hb,Bool.or_true];refine ⟨fun _=>?_,fun _=>rfl⟩
    by_cases e:x=v
    ·subst e;obtain ⟨z,hz⟩:∃ z,z∈X:=by
      cases X with
      | nil=>simp at hb
      | cons z X=>exact ⟨z,aj⟩
     exact jT.of (hx z hz).2.2.1 (hrv z ((hmem z).2 (.inr (List.mem_cons_of_mem _ hz)))) (fun e=>(hx z hz).1 e.symm)
    ·have hxX:x∈X:=(List.mem_cons.1 h).resolve_left e;exact jT.of (hrv x ((hmem x).2 (.inr h))) (hx x hxX).2.2.1 e
   ·rw [decide_eq_false hb,Bool.or_false];have hX0:X=[]:=by
     cases X with
     | nil=>rfl
     | cons z X=>simp at hb
    subst hX0;have e:x=v:=by simpa using h
    subst e;refine ⟨fun k=>⟨x,i.bw x hvw k,.refl x⟩,?_⟩;rintro ⟨u,hu,r⟩;obtain ⟨a,b,c⟩:=kW u hu
    by_cases hus:u∈st.cS
    ·rcases (hmem u).1 hus with k | k
     ·exact (hlt u k (b k)).elim
     ·exact c (by simpa using k)
    ·exact ((i.SW r a hus).2 hvw).elim
  ·rw [if_neg h];exact i.bc x hx1 (fun k=>((hmem x).1 k).elim hxw h)
 ·rw [hway] at hxw;rw [hbk,if_neg (hdis x hxw)] at hb;exact i.bw x ((hmem x).2 (.inl hxw)) hb
 ·rw [hway] at hxw;rw [hbk,if_neg (hdis x hxw)];exact i.bb x ((hmem x).2 (.inl hxw)) (fun k=>by
   rcases List.mem_cons.1 k with k | k
   ·exact dU (by rw [<- k]; exact hxw)
   ·exact hxg k) hxx
 ·have hns:s∉v::X:=fun k=>hs (hnew s k)
  rw [hnum,hlow,hbo s hns];exact m.old s hs
 ·unfold tP rH at hlt hl;rw [hlow,hnum] at hlt;exact (hl hlt).elim
end
section
variable {own:ByteArray->Bool} {succ:ByteArray->List ByteArray} {names:List ByteArray}
def Edge (own:ByteArray->Bool) (succ:ByteArray->List ByteArray) (a b:ByteArray):Prop:=b∈succ a/\own b=true
theorem Dp (hn:names.Nodup) (hown:∀ s,own s=true->s∈names) {f:Nat} (hvis:∀ (v:ByteArray) (G:List ByteArray) (st:TS),dq names st->Inv (Edge own succ) G st->v∈names->st.num v=Option.none->Sx.qj names st<=f->(∀ g,g∈G->oL (Edge own succ) g v)->oi (Edge own succ) G v st (cH own succ f v st))
  {v:ByteArray} {G:List ByteArray} {s0:TS} (i0:Inv (Edge own succ) G s0) (h0:s0.num v=Option.none) (hG:∀ g,g∈G->oL (Edge own succ) g v) :
  ∀ (l P:List ByteArray) (st:TS),(∀ w,w∈l->w∈succ v)->dq names st->Sx.qj names st<=f->FL (Edge own succ) own G v P s0 st->FL (Edge own succ) own G v (P++l) s0 (l.foldl (ef own (cH own succ f) v) st)
 | [],P,st,hl,g,hu,m=>by simpa using m
 | w::l,P,st,hl,g,hu,m=>by
  rw [List.foldl_cons,show P++w::l=(P++[w])++l from aj];have hok:=Dl hown (ry hn hown succ f) (v:=v) (w:=w) g hu;refine Dp hn hown hvis i0 h0 hG l (P++[w]) _ (fun u hu=>hl u (List.mem_cons_of_mem _ hu)) hok.1 (Nat.le_trans hok.qj hu) ?_;unfold ef;split
  ·rename_i ho;have he:Edge own succ v w:=⟨hl w aj,ho⟩
   obtain ⟨m1,hb⟩:=m.self (w:=w) h0 (fun e=>by rw [e] at he; exact he);have g1:=g.self v w;have hu1:Sx.qj names (fh v w st)<=f:=by unfold Sx.qj; rw [(gR v w st).1]; exact hu
   exact m1.rest i0 h0 hG he hb (fun hz=>g1.none hz) (fun hw hG2=>hvis w (v::G) _ g1 m1.inv (hown w ho) hw hu1 hG2)
  ·rename_i ho;refine ⟨m.inv,m.old,m.jg,m.new,m.num,m.cS,m.low,fun u hu ho2=>?_⟩;rcases List.mem_append.1 hu with h | h
   ·exact m.kW u h ho2
   ·rw [List.mem_singleton.1 h] at ho2;exact (ho ho2).elim
theorem Ak (hn:names.Nodup) (hown:∀ s,own s=true->s∈names):∀ (f:Nat) (v:ByteArray) (G:List ByteArray) (st:TS),dq names st->Inv (Edge own succ) G st->v∈names->st.num v=Option.none->Sx.qj names st<=f->(∀ g,g∈G->oL (Edge own succ) g v)->oi (Edge own succ) G v st (cH own succ f v st)
 | 0,v,G,st,g,i,hv,h0,hu,hG=>by
  have:=(g.open hn hv h0).2
  omega
 | f+1,v,G,st,g,i,hv,h0,hu,hG=>by
  obtain ⟨g1,hu1⟩:=g.open hn hv h0;have m:=Dp hn hown (Ak hn hown f) i h0 hG (succ v) [] _ (fun _ h=>h) g1 ad (FL.start i h0);rw [List.nil_append] at m;unfold cH;split
  ·rename_i hl;exact m.Sk (fun a b=>Iff.rfl) i hl
  ·rename_i hl;exact m.Uv (fun a b=>Iff.rfl) i h0 hG hl
theorem V6 (E:ByteArray->ByteArray->Prop):Inv E [] AM:=by
 refine ⟨fun s n hs=>(by cases hs),fun x hx=>by simp [AM] at hx,fun x=>by simp [AM],fun g hg=>by simp at hg,fun x hx=>(hx rfl).elim,fun x hx=>(hx rfl).elim,fun x hx=>by simp [AM] at hx,fun x hx=>rfl,fun x hx=>(hx rfl).elim,fun x hx=>by simp [AM] at hx,fun x hx=>by simp [AM] at hx⟩
structure TO (own:ByteArray->Bool) (succ:ByteArray->List ByteArray) (names:List ByteArray) (P:List ByteArray) (st:TS):Prop where
 Cb:dq names st
 inv:Inv (Edge own succ) [] st
 cS:st.cS=[]
 kW:∀ s,s∈P->st.num s≠Option.none
theorem MB (hn:names.Nodup) (hown:∀ s,own s=true->s∈names) {P:List ByteArray} {st:TS} (t:TO own succ names P st) {v:ByteArray} (hv:v∈names):TO own succ names (P++[v]) (wP own succ names.length st v):=by
 have hu:Sx.qj names st<=names.length:=List.length_filter_le _ _;unfold wP;split
 ·rename_i h;have h0:=t.Cb.none h;have p:=Ak hn hown names.length v [] st t.Cb t.inv hv h0 hu (fun g hg=>by simp at hg);have k:=ry hn hown succ names.length v st t.Cb hv h0 hu;refine ⟨k.1,p.inv,?_,fun s hs=>?_⟩
  ·cases hw:(cH own succ names.length v st).cS with
   | nil=>rfl
   | cons x l =>
    obtain ⟨g,hg,_⟩:=p.inv.rg x (by rw [hw]; simp);simp at hg
  ·rcases List.mem_append.1 hs with h | h
   ·rw [(p.old s (t.kW s h)).1]; exact t.kW s h
   ·rw [List.mem_singleton.1 h];obtain ⟨n,hn⟩:=p.num;rw [hn]; simp
 ·rename_i h;refine ⟨t.Cb,t.inv,t.cS,fun s hs=>?_⟩;rcases List.mem_append.1 hs with k | k
  ·exact t.kW s k
  ·rw [List.mem_singleton.1 k];intro e;exact h (by rw [e]; rfl)
theorem Uc (names:List ByteArray):TO own succ names [] AM:=⟨Vh names,V6 _,rfl,fun s hs=>by simp at hs⟩
theorem Cz (hn:names.Nodup) (hown:∀ s,own s=true->s∈names):∀ (l P:List ByteArray) (st:TS),(∀ s,s∈l->s∈names)->TO own succ names P st->TO own succ names (P++l) (l.foldl (wP own succ names.length) st)
 | [],P,st,hl,t=>by simpa using t
 | w::l,P,st,hl,t=>by
  rw [List.foldl_cons,show P++w::l=(P++[w])++l from aj];exact Cz hn hown l _ _ (fun s hs=>hl s (List.mem_cons_of_mem _ hs)) (MB hn hown t (hl w aj))
theorem jT.RA {v:ByteArray} (h:jT (Edge own succ) v):own v=true:=by
 obtain ⟨y,e,r⟩:=h;have key:∀ a b,oL (Edge own succ) a b->own a=true->own b=true:=by
  intro a b r
  induction r with
  | refl=>exact id
  | head e _ ih=>exact fun _=>ih e.2
 exact key _ _ r e.2
theorem GY (hn:names.Nodup) (hown:∀ s,own s=true->s∈names) (s:ByteArray):((Em own succ names).back s).getD false=true↔jT (Edge own succ) s:=by
 have t:TO own succ names ([]++names) (Em own succ names):=Cz hn hown names [] AM (fun _ h=>h) (Uc names);rw [List.nil_append] at t
 by_cases h:(Em own succ names).num s=Option.none
 ·rw [t.inv.b0 s h];refine ⟨fun k=>(by cases k),fun k=>?_⟩;exact (t.kW s (hown s k.RA) h).elim
 ·exact t.inv.bc s h (by rw [t.cS]; simp)
end
theorem jy {α:Type} [DecidableEq α]:∀ (l m:List α),l.Nodup->(∀ x,x∈l->x∈m)->l.length<=m.length
 | [],m,_,_=>aj
 | x::l,m,hn,hs=>by
  obtain ⟨h1,h2⟩:=List.nodup_cons.1 hn;have hx:=hs x aj
  have:=jy l (m.erase x) h2 (fun y hy=>(List.mem_erase_of_ne (fun e=>h1 (by rw [<- e]; exact hy))).2 (hs y (List.mem_cons_of_mem _ hy)))
  rw [List.length_erase_of_mem hx] at this;have hp:=List.length_pos_of_mem hx;simp only [List.length_cons];omega
theorem oH {of og:ByteArray->Option bX} {x:bX} (h:∀ t,t∈x.ai->of t.1=og t.1):cV of x=cV og x:=by
 have h1:x.ai.flatMap (qA of)=x.ai.flatMap (qA og):=by
  have:∀ l:cU,(∀ t,t∈l->of t.1=og t.1)->l.flatMap (qA of)=l.flatMap (qA og):=by
   intro l
   induction l with
   | nil=>intro _; rfl
   | cons t l ih =>
    intro hl;rw [List.flatMap_cons,List.flatMap_cons,ih (fun u hu=>hl u (List.mem_cons_of_mem _ hu))]
    congr 1
    unfold qA;rw [hl t aj]
  exact this _ h
 have h2:x.ai.foldl (fM of) x.num=x.ai.foldl (fM og) x.num:=by
  have:∀ (l:cU) (n:Nat),(∀ t,t∈l->of t.1=og t.1)->l.foldl (fM of) n=l.foldl (fM og) n:=by
   intro l
   induction l with
   | nil=>intro n _; rfl
   | cons t l ih =>
    intro n hl;rw [List.foldl_cons,List.foldl_cons,ih _ (fun u hu=>hl u (List.mem_cons_of_mem _ hu))]
    congr 1
    unfold fM;rw [hl t aj]
  exact this _ _ h
 unfold cV;rw [h1,h2]
section
variable (own:ByteArray->Bool) (lin:ByteArray->bX)
def cF:ByteArray->List ByteArray:=fun v=>(lin v).ai.map (·.1)
def qh:Nat->ByteArray->bX
 | 0,v=>lin v
 | f+1,v=>cV (fun s=>if own s=true then some (qh f s) else none) (lin v)
end
def Hg (E:ByteArray->ByteArray->Prop):Nat->ByteArray->Prop
 | 0,_=>False
 | k+1,v=>∀ y,E v y->Hg E k y
theorem LZ {E:ByteArray->ByteArray->Prop} {Q:ByteArray->Prop} (h:∀ v,(∀ y,E v y->Q y)->Q v):∀ k v,Hg E k v->Q v
 | 0,v,hv=>hv.elim
 | k+1,v,hv=>h v fun y hy=>LZ h k y (hv y hy)
section
variable {own:ByteArray->Bool} {lin:ByteArray->bX} {names:List ByteArray}
theorem kx {v s:ByteArray}:s∈cF lin v↔∃ t,t∈(lin v).ai/\t.1=s:=by simp [cF]
theorem xF:∀ (f g:Nat) (v:ByteArray),Hg (Edge own (cF lin)) f v->f<=g->qh own lin f v=qh own lin g v
 | 0,g,v,h,_=>h.elim
 | f+1,0,v,h,hfg=>ad
 | f+1,g+1,v,h,hfg=>by
  unfold qh;refine oH fun t ht=>?_
  show (if own t.1=true then some (qh own lin f t.1) else none)=if own t.1=true then some (qh own lin g t.1) else none
  by_cases ho:own t.1=true
  ·rw [if_pos ho,if_pos ho,xF f g t.1 (h t.1 ⟨kx.2 ⟨t,ht,rfl⟩,ho⟩) ad]
  ·rw [if_neg ho,if_neg ho]
theorem TW {E:ByteArray->ByteArray->Prop} (hE:∀ a b,E a b->b∈names) (hc:∀ v,¬ jT E v):∀ (f:Nat) (path:List ByteArray) (v:ByteArray),path.Nodup->(∀ p,p∈path->p∈names)->(∀ p,p∈path->∃ y,E p y/\oL E y v)->v∈names->names.length<=path.length+f->Hg E f v:=by
 have key:∀ (path:List ByteArray) (v:ByteArray),(∀ p,p∈path->∃ y,E p y/\oL E y v)->v∉path:=fun path v h hv=>hc v (h v hv)
 intro f
 induction f with
 | zero =>
  intro path v hn hp hr hv hl;have hvp:=key path v hr
  have:=jy (v::path) names (List.nodup_cons.2 ⟨hvp,hn⟩) (fun x hx=>by
   rcases List.mem_cons.1 hx with h | h
   ·rw [h]; exact hv
   ·exact hp x h)
  simp only [List.length_cons] at this;omega
 | succ f ih =>
  intro path v hn hp hr hv hl y hy;have hvp:=key path v hr;refine ih (v::path) y (List.nodup_cons.2 ⟨hvp,hn⟩) (fun x hx=>?_) (fun p hpp=>?_) (hE v y hy) (by simp only [List.length_cons]; omega)
  ·rcases List.mem_cons.1 hx with h | h
   ·rw [h]; exact hv
   ·exact hp x h
  ·rcases List.mem_cons.1 hpp with h | h
   ·rw [h]; exact ⟨y,hy,.refl y⟩
   ·obtain ⟨z,hz,r⟩:=hr p h;exact ⟨z,hz,r.trans (.one hy)⟩
def H7 (own:ByteArray->Bool) (lin:ByteArray->bX) (names:List ByteArray) (v:ByteArray):bX:=qh own lin names.length v
def Js (own:ByteArray->Bool) (lin:ByteArray->bX) (names:List ByteArray) (s:ByteArray):Option bX:=if own s=true then some (H7 own lin names s) else none
theorem G4 (hown:∀ s,own s=true↔s∈names) (hc:∀ v,¬ jT (Edge own (cF lin)) v) {v:ByteArray} (hv:v∈names):Hg (Edge own (cF lin)) names.length v :=
 TW (fun a b e=>(hown b).1 e.2) hc names.length [] v List.nodup_nil (fun p hp=>by simp at hp) (fun p hp=>by simp at hp) hv aj
theorem Gn (hown:∀ s,own s=true↔s∈names) (hc:∀ v,¬ jT (Edge own (cF lin)) v) {v:ByteArray} (hv:v∈names):H7 own lin names v=cV (Js own lin names) (lin v):=by
 have hg:=G4 hown hc hv;unfold H7;cases hN:names.length with
 | zero=>rw [hN] at hg; exact hg.elim
 | succ n =>
  rw [hN] at hg;unfold qh;refine oH fun t ht=>?_
  unfold Js H7
  by_cases ho:own t.1=true
  ·rw [if_pos ho,if_pos ho,hN,xF n (n+1) t.1 (hg t.1 ⟨kx.2 ⟨t,ht,rfl⟩,ho⟩) ad]
  ·rw [if_neg ho,if_neg ho]
theorem PX (hown:∀ s,own s=true↔s∈names) (hc:∀ v,¬ jT (Edge own (cF lin)) v) {Q:ByteArray->Prop} (h:∀ v,(∀ y,Edge own (cF lin) v y->Q y)->Q v) {v:ByteArray} (hv:v∈names):Q v :=
 LZ h names.length v (G4 hown hc hv)
end
theorem De {l:cU} {t:ByteArray × Nat} (h:t∈Dk l):∃ p,p∈l/\p.1=t.1:=by
 apply Classical.byContradiction;intro k;have h0:cf l t.1=0:=yo fun p hp e=>k ⟨p,hp,e⟩
 have h1:=zN l t.1;rw [h0] at h1;have nf:=zH l;generalize Dk l=m at h h1 nf
 induction m with
 | nil=>simp at h
 | cons p m ih =>
  rcases List.mem_cons.1 h with h | h
  ·subst h;rw [nf.lQ] at h1
   have:=(nf.2 t aj).1
   omega
  ·have hl:=nf.head t h;rw [eG,if_neg (jk hl)] at h1;exact ih h ad nf.tail
open Classical in
theorem w7 (f:ByteArray->Nat) (S:List ByteArray) (hS:S.Nodup):∀ l:cU,(∀ p,p∈l->p.1∈S)->fP f l=(S.map fun s=>cf l s*f s).sum
 | [],_=>by
  have:∀ S:List ByteArray,(S.map fun s=>cf [] s*f s).sum=0:=by
   intro S
   induction S with
   | nil=>rfl
   | cons s S ih=>rw [List.map_cons,List.sum_cons,ih,zt]; omega
  rw [this]; rfl
 | p::l,h=>by
  have ih:=w7 f S hS l (fun q hq=>h q (List.mem_cons_of_mem _ hq));have hp:=h p aj;rw [eN,ih];clear ih h;have key:∀ S:List ByteArray,S.Nodup->(S.map fun s=>cf (p::l) s*f s).sum=(if p.1∈S then p.2*f p.1 else 0)+(S.map fun s=>cf l s*f s).sum:=by
   intro S
   induction S with
   | nil=>intro _; simp
   | cons s S ih =>
    intro hn;obtain ⟨h1,h2⟩:=List.nodup_cons.1 hn;rw [List.map_cons,List.sum_cons,List.map_cons,List.sum_cons,ih h2,eG]
    by_cases e:p.1=s
    ·subst e;rw [if_pos rfl,if_neg h1,if_pos aj,Nat.add_mul];omega
    ·have:(p.1∈s::S)↔p.1∈S:=by simp [e]
     rw [if_neg e,Nat.zero_add];simp only [this];omega
  rw [key S hS,if_pos hp]
theorem Pg {f:ByteArray->Nat} {l m:cU} (h:∀ s,cf l s % 4294967296=cf m s % 4294967296):fP f l % 4294967296=fP f m % 4294967296:=by
 obtain ⟨S,hS,hl⟩:∃ S:List ByteArray,S.Nodup/\∀ p,p∈l++m->p.1∈S:=by
  generalize l++m=w
  induction w with
  | nil=>exact ⟨[],List.nodup_nil,aj⟩
  | cons p w ih =>
   obtain ⟨S,hS,hw⟩:=ih
   by_cases hp:p.1∈S
   ·refine ⟨S,hS,fun q hq=>?_⟩;rcases List.mem_cons.1 hq with h | h
    ·rw [h]; exact hp
    ·exact hw q h
   ·refine ⟨p.1::S,List.nodup_cons.2 ⟨hp,hS⟩,fun q hq=>?_⟩;rcases List.mem_cons.1 hq with h | h
    ·rw [h]; simp
    ·exact List.mem_cons_of_mem _ (hw q h)
 rw [w7 f S hS l (fun p hp=>hl p (List.mem_append_left _ hp)),w7 f S hS m (fun p hp=>hl p (List.mem_append_right _ hp))];clear hS hl
 induction S with
 | nil=>rfl
 | cons s S ih =>
  rw [List.map_cons,List.sum_cons,List.map_cons,List.sum_cons,Nat.add_mod,ih,Nat.mul_mod,h s,<- Nat.mul_mod,<- Nat.add_mod]
theorem KF (f:ByteArray->Nat) (l:cU):fP f (Dk l) % 4294967296=fP f l % 4294967296:=Pg fun s=>by rw [zN,Nat.mod_mod]
def jc (f:ByteArray->Nat) (x:bX):Nat:=(x.num+fP f x.ai) % 4294967296
theorem DC (f:ByteArray->Nat) (l m:cU):fP f (l++m)=fP f l+fP f m:=by
 induction l with
 | nil=>simp [fP]
 | cons p l ih=>rw [List.cons_append,eN,eN,ih]; omega
theorem GQ (f:ByteArray->Nat) (n:Nat) (l:cU):fP f (l.map fun u=>(u.1,n*u.2 % 4294967296)) % 4294967296=n*fP f l % 4294967296:=by
 induction l with
 | nil=>simp [fP]
 | cons p l ih =>
  rw [List.map_cons,eN,eN,Nat.add_mod,ih,mod_mul_r,<- Nat.add_mod,Nat.mul_add,Nat.mul_assoc]
where
 mod_mul_r {a b:Nat}:a % 4294967296*b % 4294967296=a*b % 4294967296:=Lv a b
theorem N5 {f g:ByteArray->Nat} {of:ByteArray->Option bX} (h:∀ s,g s % 4294967296=(match of s with | none=>f s | some y=>jc f y) % 4294967296) (x:bX):jc f (cV of x)=jc g x:=by
 unfold jc cV;show ((x.ai.foldl (fM of) x.num)+fP f (Dk (x.ai.flatMap (qA of)))) % 4294967296=(x.num+fP g x.ai) % 4294967296;rw [Nat.add_mod,KF,<- Nat.add_mod];generalize x.num=n;generalize x.ai=l
 induction l generalizing n with
 | nil=>simp [fP]
 | cons t l ih =>
  rw [List.foldl_cons,List.flatMap_cons,DC,eN];have e1:(l.foldl (fM of) (fM of n t)+(fP f (qA of t)+fP f (l.flatMap (qA of)))) % 4294967296=(fP f (qA of t)+(fM of n t+fP g l)) % 4294967296:=by
   rw [show l.foldl (fM of) (fM of n t)+(fP f (qA of t)+fP f (l.flatMap (qA of)))=fP f (qA of t)+(l.foldl (fM of) (fM of n t)+fP f (l.flatMap (qA of))) from ad,Nat.add_mod,ih,<- Nat.add_mod]
  rw [e1];have e2:(fP f (qA of t)+fM of n t) % 4294967296=(n+t.2*g t.1) % 4294967296:=by
   have hg:=h t.1;unfold qA fM;cases ho:of t.1 with
   | none =>
    rw [ho] at hg;simp only at hg ⊢;rw [eN]
    have:t.2*f t.1 % 4294967296=t.2*g t.1 % 4294967296:=by rw [Nat.mul_mod,<- hg,<- Nat.mul_mod]
    simp only [fP,Nat.add_zero];omega
   | some y =>
    rw [ho] at hg;simp only at hg ⊢;have h1:=GQ f t.2 y.ai;have h2:t.2*g t.1 % 4294967296=t.2*(y.num+fP f y.ai) % 4294967296:=by
     unfold jc at hg;rw [Nat.mul_mod,hg,Nat.mod_mod,<- Nat.mul_mod]
    rw [Nat.mul_add] at h2;omega
  omega
theorem rT {of:ByteArray->Option bX} {x:bX} {t:ByteArray × Nat} (h:t∈(cV of x).ai):(∃ p,p∈x.ai/\p.1=t.1/\of t.1=none)\/∃ p y u,p∈x.ai/\of p.1=some y/\u∈y.ai/\u.1=t.1:=by
 obtain ⟨p,hp,e⟩:=De h;obtain ⟨q,hq,hpq⟩:=List.mem_flatMap.1 hp;unfold qA at hpq;cases ho:of q.1 with
 | none =>
  rw [ho] at hpq
  have:p=q:=by simpa using hpq
  subst this;exact .inl ⟨p,hq,e,by rw [<- e]; exact ho⟩
 | some y =>
  rw [ho] at hpq;obtain ⟨u,hu,rfl⟩:=List.mem_map.1 hpq;exact .inr ⟨q,y,u,hq,ho,hu,e⟩
theorem eF (of:ByteArray->Option bX) (x:bX):Nf (cV of x).ai:=zH _
theorem Fo {l:cU} (h:Nf l):Dk l=l:=(zH l).OZ h fun s=>by rw [zN,Nat.mod_mod]
theorem kE {of:ByteArray->Option bX} {x:bX} (hx:x.num<4294967296):(cV of x).num<4294967296:=by
 show x.ai.foldl (fM of) x.num<4294967296;generalize x.num=n at hx;generalize x.ai=l
 induction l generalizing n with
 | nil=>exact hx
 | cons t l ih =>
  rw [List.foldl_cons];refine ih _ ?_;unfold fM;split
  ·exact hx
  ·exact Nat.mod_lt _ ad
section
variable {own:ByteArray->Bool} {lin:ByteArray->bX} {names:List ByteArray}
theorem wZ (hown:∀ s,own s=true↔s∈names) (hc:∀ v,¬ jT (Edge own (cF lin)) v) {v:ByteArray} (hv:v∈names):∀ t,t∈(H7 own lin names v).ai->own t.1=false/\∃ w u,w∈names/\u∈(lin w).ai/\u.1=t.1:=by
 refine PX (Q:=fun v=>v∈names->∀ t,t∈(H7 own lin names v).ai->own t.1=false/\∃ w u,w∈names/\u∈(lin w).ai/\u.1=t.1) hown hc ?_ hv hv;intro v ih hv t ht;rw [Gn hown hc hv] at ht;rcases rT ht with ⟨p,hp,e,ho⟩ | ⟨p,y,u,hp,ho,hu,e⟩
 ·refine ⟨?_,v,p,hv,hp,e⟩;unfold Js at ho;cases hb:own t.1 with
  | false=>rfl
  | true=>rw [hb] at ho; simp at ho
 ·unfold Js at ho
  by_cases hb:own p.1=true
  ·rw [if_pos hb] at ho;have ho:=Option.some.inj ho;subst ho;obtain ⟨a,b⟩:=ih p.1 ⟨kx.2 ⟨p,hp,rfl⟩,hb⟩ ((hown _).1 hb) u hu;rw [<- e];exact ⟨a,b⟩
  ·rw [if_neg hb] at ho; cases ho
theorem Sq (hown:∀ s,own s=true↔s∈names) (hc:∀ v,¬ jT (Edge own (cF lin)) v) {v:ByteArray} (hv:v∈names):Nf (H7 own lin names v).ai:=by
 rw [Gn hown hc hv]; exact eF _ _
end
end Go.Sx
