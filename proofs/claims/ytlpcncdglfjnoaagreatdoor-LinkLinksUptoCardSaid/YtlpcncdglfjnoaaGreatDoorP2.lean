/- Contracts over heaps, and plain laws, for the functions that the laws of chapter 9 call, part 2: Units held against units, over heaps. Lists of units over heaps: are there too m Condition: as each statement says. -/
import Derived.Test.YtlpcncdglfjnoaaGreatDoorP1
import Derived.Test.YtlpcncdglfjnoaaGreatDoorBtF
import Derived.Test.YtlpcncdglfjnoaaGreatDoorBtG
import Derived.Test.YtlpcncdglfjnoaaGreatDoorBobjShelf
import Derived.Test.YtlpcncdglfjnoaaGreatDoorBtH
import Derived.LaidEql
import Derived.Stop.Asserts
import Derived.RowKitTokens
import Derived.Lib.ItoaLen
import Derived.Shelf.Strings.OnBuilder
import Derived.Shelf.Strconv.Itoa1
import Derived.Shelf.Strconv.Itoa2
import Derived.Shelf.Strings.Cut
import Derived.Lib.ItoaMem
set_option linter.all false
set_option maxRecDepth 100000
set_option maxHeartbeats 4000000
namespace Go.Sx.Ob
open Go.Proofs
theorem P0 {x y:cz} (r1:x.kind=y.kind) (r2:x.name=y.name) (r3:x.inst=y.inst) (r4:x.e=y.e) (r5:x.n=y.n):x=y:=by
 cases x;cases y
 simp_all
theorem rU {L:Lp} {K:Value->Hp->Prop} {h:Hp} {b:Bool} {t u:T} (hu:b=false->u L K h) (ht:b=true->t L K h):(cond b t u) L K h:=ak ht hu
def QL (l0 l1:Nat) (body:Int->T->T):T :=
 cond ((l0:Int) != (l1:Int))
 bo
 (T.loop [bT,aM] [.bool false,.int .i64 (0:Int)] <| fun (b2:Bool) (n3:Int) =>
 bm n3 l0
  (body n3 (T.again 0 [.bool b2,.int .i64 (bj (n3+(1:Int)))]))
  dI)
theorem Vh {α:Type} {xs ys:List α} (e:xs=ys) {i:Nat} (h1:i<xs.length) (h2:i<ys.length):xs[i]=ys[i]:=by
 subst e;rfl
theorem rn {h:Hp} {a:Addr}:∀ (vs:List Value) (o i:Nat),aG h a (o+i) vs->aG h (a.add o) i vs
 | [],_,_,_=>trivial
 | v::vs,o,i,hc=>⟨by rw [add_add]; exact hc.1,rn vs o (i+1) hc.2⟩
def R9 {α:Type} (x y:α) (h:Hp) (w:Value) (h':Hp):Prop:=∃ b:Bool,w=.bool b/\(b=true↔x=y)/\Ext h h'
theorem My {α:Type} {xs ys:List α} {l0 l1:Nat} (h0:l0=xs.length) (h1:l1=ys.length) (hm:xs.length<=2^60) {body:Int->T->T} {h:Hp}
  (hb:∀ (L:Lp) (h':Hp) (i:Nat) (hi:i<xs.length) (hj:i<ys.length) (k:T),Ext h h'->(xs[i]=ys[i]->∀ h'',Ext h h''->k L (R9 xs ys h) h'')->(xs[i]≠ys[i]->∀ h'',Ext h h''->R9 xs ys h (.bool false) h'')->body (i:Int) k L (R9 xs ys h) h') :
  QL l0 l1 body [] (R9 xs ys h) h:=by
 subst h0 h1;unfold QL bm bj bo dI aM bT;refine ak (fun q=>?_) (fun q=>?_)
 ·refine ⟨false,rfl,⟨fun h=>(by cases h),fun e=>?_⟩,Ch.refl _ _⟩;rw [e] at q;simp at q
 have q:xs.length=ys.length:=by
  have:(((xs.length:Nat):Int)==((ys.length:Nat):Int))=true:=by
   simpa using q
  exact BF this
 refine aR (cs:=[(false,[.bool]),(false,[.int .i64])]) (fun y m h'=>∃ i:Nat,y.1=false/\y.2.1=(i:Int)/\m=xs.length-i/\i<=xs.length/\Ext h h'/\∀ j,(hj:j<i)->(h1:j<xs.length)->(h2:j<ys.length)->xs[j]=ys[j]) (false,(0:Int),()) xs.length rfl
  ⟨0,rfl,rfl,rfl,ad,Ch.refl _ _,fun j hj=>ad⟩ ?_
 rintro ⟨b2,n3,⟨⟩⟩ m h1 ⟨i,hy1,hy2,rfl,hi,e1,hj⟩;simp only at hy1 hy2;subst hy1 hy2;refine an ?_;refine ak (fun r=>?_) (fun r=>?_)
 ·have r:=of_decide_eq_true r;refine hb _ h1 i ad ad _ e1 (fun he h2 e2=>?_) (fun hne h2 e2=>?_)
  ·rw [wrap_i64 ad ad];refine aF (cs:=[(false,[.bool]),(false,[.int .i64])]) (false,((i+1:Nat):Int),()) (xs.length-(i+1)) rfl ad rfl ?_;refine ⟨i+1,rfl,rfl,rfl,ad,e2,fun j hj' a b=>?_⟩
   by_cases hji:j<i
   ·exact hj j hji a b
   ·have:j=i:=ad
    subst this;exact he
  ·exact ⟨false,rfl,⟨fun h=>(by cases h),fun e=>absurd (Vh e ad ad) hne⟩,e2⟩
 ·have r:=of_decide_eq_false r;refine ⟨true,rfl,⟨fun _=>?_,fun _=>rfl⟩,e1⟩;exact List.ext_getElem q fun j a b=>hj j ad a b
theorem ow (s t:ByteArray):(ByteArray.toList s==ByteArray.toList t)=decide (s=t):=by
 rw [ByteArray.toList_eq,ByteArray.toList_eq]
 by_cases h:s=t
 ·rw [decide_eq_true h,h]; simp
 ·rw [decide_eq_false h]
  have:¬ s.data.toList=t.data.toList:=fun e=>h (CF e)
  simpa using this
theorem Ep (x y:bZ):nw x y=true↔x=y:=by
 obtain ⟨a,b⟩:=x;obtain ⟨c,d⟩:=y;unfold nw
 simp
 exact and_comm
theorem Hd (x y:Operand) (i j:Ins) (h:Hp) (K:Value->Hp->Prop) (hk:K (.bool (decide (i=j))) h) :
  aP Tryz.prog (Sx.iK (BinOp.eql) 62 x y (.agg (nB i).toArray) (.agg (nB j).toArray)) h K:=by
 refine DT QP az az az K ?_;have he:(Ar Tryz.prog 62).all (FH (nB i).toArray (nB j).toArray)=(i.op==j.op && (i.a==j.a && (i.b==j.b && (i.n==j.n && (i.form==j.form && true))))):=by
  rw [<- Array.all_toList]
  kernel_rfl
 rw [he,Bool.and_true]
 have:(i.op==j.op && (i.a==j.a && (i.b==j.b && (i.n==j.n && i.form==j.form))))=decide (i=j):=by
  rcases i with ⟨a1,a2,a3,a4,a5⟩
  rcases j with ⟨c1,c2,c3,c4,c5⟩
  simp only [cV,Ins.mk.injEq]
  by_cases h1:a1=c1 <;> by_cases h2:a2=c2 <;> by_cases h3:a3=c3 <;> by_cases h4:a4=c4 <;> by_cases h5:a5=c5 <;> simp [h1,h2,h3,h4,h5]
 rw [this];exact hk
theorem DJ {h:Hp} {p q:Option Addr} {l c m d:Nat} {x y:cz} (v:oc h p l x.e) (w:oc h q m y.e):HC Tryz.prog 51 #[pP p l c x,pP q m d y] h (R9 x y h):=by
 refine aZ (args:=[pP p l c x,pP q m d y]) mixed Tryz.func51 az (lM x.kind x.name x.inst.op x.inst.a x.inst.b x.inst.n x.inst.form p l c x.e.num x.n y.kind y.name y.inst.op y.inst.a y.inst.b y.inst.n y.inst.form q m d y.e.num y.n) ?_;unfold gJ aU dT bo;refine bq ?_;intro h1 b1 e1 z1;refine bq ?_;intro h2 b2 e2 z2;have b1:bC h2 h.size 64 (encI p l c x):=b1.ao e2 aj;have b2:bC h2 h1.size 64 (encI q m d y):=b2;have e:=e1.trans e2;have no:∀ h',Ext h h'->x≠y->R9 x y h (.bool false) h':=fun h' e hn=>⟨false,rfl,⟨fun h=>(by cases h),fun e=>absurd e hn⟩,e⟩
 simp only [aE];refine af b1 (x.kind,()) rfl ?_;refine an ?_;refine af b2 (y.kind,()) rfl ?_;refine an ?_;refine rU (fun r1=>?_) (fun r1=>?_)
 ·have r1:¬ x.kind=y.kind:=by simpa using r1
  exact no h2 e (fun e=>r1 (by rw [e]))
 have r1:x.kind=y.kind:=by simpa using r1
 refine af b1 (x.name,()) rfl ?_;refine an ?_;refine af b2 (y.name,()) rfl ?_;refine an ?_;rw [ow];refine rU (fun r2=>?_) (fun r2=>?_)
 ·have r2:¬ x.name=y.name:=by simpa using r2
  exact no h2 e (fun e=>r2 (by rw [e]))
 have r2:x.name=y.name:=by simpa using r2
 refine af b1 (x.inst.op,x.inst.a,x.inst.b,x.inst.n,x.inst.form,()) rfl ?_;refine an ?_;refine af b2 (y.inst.op,y.inst.a,y.inst.b,y.inst.n,y.inst.form,()) rfl ?_;refine an ?_;refine nW (fun K' hK=>Hd _ _ x.inst y.inst h2 K' hK) ?_;refine rU (fun r3=>?_) (fun r3=>?_)
 ·have r3:¬ x.inst=y.inst:=by simpa using r3
  exact no h2 e (fun e=>r3 (by rw [e]))
 have r3:x.inst=y.inst:=by simpa using r3
 refine af b1 ((p,l,c),(x.e.num:Int),()) rfl ?_;refine an ?_;refine af b2 ((q,m,d),(y.e.num:Int),()) rfl ?_;refine an ?_;refine aI (JF (c:=c) (d:=d) (v.ao e).vw (w.ao e).vw v.many) ?_;rintro _ h3 ⟨rfl,e3⟩;refine ⟨(nw x.e y.e,()),rfl,?_⟩;refine an ?_;refine rU (fun r4=>?_) (fun r4=>?_)
 ·refine no h3 (e.trans e3) (fun e=>?_);rw [(Ep _ _).2 (by rw [e])] at r4;cases r4
 have r4:=(Ep _ _).1 r4;refine af (b1.ao e3 aj) (x.n,()) rfl ?_;refine an ?_;refine af (b2.ao e3 aj) (y.n,()) rfl ?_;refine ⟨x.n==y.n,rfl,⟨fun r5=>?_,fun e=>by rw [e]; simp⟩,e.trans e3⟩;have r5:x.n=y.n:=by simpa using r5
 exact P0 r1 r2 r3 r4 r5
theorem Cm {h:Hp} {p q:Option Addr} {l c m d:Nat} {xs ys:List cz} (v:Am h p l xs) (w:Am h q m ys):HC Tryz.prog 15 #[.slice p l c,.slice q m d] h (R9 xs ys h):=by
 refine aZ (args:=[.slice p l c,.slice q m d]) mixed Tryz.func15 az (kn p l c q m d) ?_;refine My (body:=fun n3 k=>T.need (((0:Int)<=n3)/\(n3<(l:Int))) <|
  T.bd p <| fun (a4:Addr) =>
  T.ah (a4.add ((Int.toNat n3)*10)) [.int .i64,.string,.int .i64,.int .i64,.int .i64,.int .i32,.int .i64,.slice 66,.int .u32,.int .i64] <| fun (n5:Int) (s6:ByteArray) (n7:Int) (n8:Int) (n9:Int) (n10:Int) (n11:Int) (p12:Option Addr) (l13:Nat) (l14:Nat) (n15:Int) (n16:Int) =>
  T.need (((0:Int)<=n3)/\(n3<(m:Int))) <|
  T.bd q <| fun (a17:Addr) =>
  T.ah (a17.add ((Int.toNat n3)*10)) [.int .i64,.string,.int .i64,.int .i64,.int .i64,.int .i32,.int .i64,.slice 66,.int .u32,.int .i64] <| fun (n18:Int) (s19:ByteArray) (n20:Int) (n21:Int) (n22:Int) (n23:Int) (n24:Int) (p25:Option Addr) (l26:Nat) (l27:Nat) (n28:Int) (n29:Int) =>
  T.call Tryz.prog 51 [.agg #[.int .i64 n5,.string s6,.int .i64 n7,.int .i64 n8,.int .i64 n9,.int .i32 n10,.int .i64 n11,.slice p12 l13 l14,.int .u32 n15,.int .i64 n16],.agg #[.int .i64 n18,.string s19,.int .i64 n20,.int .i64 n21,.int .i64 n22,.int .i32 n23,.int .i64 n24,.slice p25 l26 l27,.int .u32 n28,.int .i64 n29]] false [(false,[.bool])] <| fun (b30:Bool) =>
  cond (!b30)
  (T.ret (.bool false)) k) v.len w.len v.many ?_
 intro L h' i hi hj k e1 hk hn;have vl:=v.len;have wl:=w.len;obtain ⟨a,p1,l1,c1,rfl,hc,va⟩:=(v.ao e1).cells i hi;obtain ⟨b,q1,m1,d1,rfl,hd,wa⟩:=(w.ao e1).cells i hj;refine ay ⟨ad,ad⟩ ?_;refine av rfl ?_;refine ax (xs[i].kind,xs[i].name,xs[i].inst.op,xs[i].inst.a,xs[i].inst.b,xs[i].inst.n,xs[i].inst.form,(p1,l1,c1),(xs[i].e.num:Int),xs[i].n,()) hc ?_;refine an ?_;refine ay ⟨ad,ad⟩ ?_;refine av rfl ?_;refine ax (ys[i].kind,ys[i].name,ys[i].inst.op,ys[i].inst.a,ys[i].inst.b,ys[i].inst.n,ys[i].inst.form,(q1,m1,d1),(ys[i].e.num:Int),ys[i].n,()) hd ?_;refine an ?_;refine aI (DJ (c:=c1) (d:=d1) va.lin wa.lin) ?_;rintro _ h2 ⟨b,rfl,hb,e2⟩;refine ⟨(b,()),rfl,?_⟩;refine an ?_;refine ak (fun u=>?_) (fun u=>?_)
 ·have u:b=false:=by simpa using u
  refine hn (fun e=>?_) h2 (e1.trans e2);rw [hb.2 e] at u;cases u
 ·have u:b=true:=by simpa using u
  exact hk (hb.1 u) h2 (e1.trans e2)
structure sT (h:Hp) (p:Option Addr) (l:Nat) (us:List bP):Prop where
 len:l=us.length
 many:us.length<=2^60
 cells:∀ i,(hi:i<us.length)->∃ a sa sb sc sd,p=some a/\aG h (a.add (i*4)) 0 [bY.v sa,bY.v sb,bY.v sc,bY.v sd]/\rm h sa sb sc sd us[i]
theorem sT.ao {h h':Hp} {p:Option Addr} {l:Nat} {us:List bP} (v:sT h p l us) (k:Ext h h'):sT h' p l us :=
 ⟨v.len,v.many,fun i hi=>by
  obtain ⟨a,sa,sb,sc,sd,ha,hc,hv⟩:=v.cells i hi;exact ⟨a,sa,sb,sc,sd,ha,aQ k aj _ _ hc,hv.ao k⟩⟩
def AH (u:bP):Bool:=decide (600<u.text.length) || decide (300<u.data.length) || decide (100<u.bf.length)
def HI (u:bP):Nat:=u.text.length+u.data.length+u.bf.length
def iw (us:List bP):Nat:=(us.map HI).sum
def sY (us:List bP):Bool:=(us.take 65).any AH || decide (900<iw (us.take 65))
theorem KV {α:Type} (f:α->Bool) (l:List α) {i n:Nat} (hi:i<l.length) (hn:i<n) (h:f l[i]=true):(l.take n).any f=true:=by
 rw [List.any_eq_true];exact ⟨l[i],List.mem_take_iff_getElem.2 ⟨i,ad,rfl⟩,h⟩
theorem F0 (us:List bP) {i:Nat} (hi:i<us.length):iw (us.take (i+1))=iw (us.take i)+HI us[i]:=by
 unfold iw;rw [List.take_succ_eq_append_getElem hi,List.map_append,List.sum_append]
 simp
theorem Mr {h:Hp} {p:Option Addr} {l c:Nat} {us:List bP} (v:sT h p l us):vC Tryz.prog 8 [.slice p l c] h (.bool (sY us)):=by
 refine ee mixed Tryz.func8 az (ov p l c) ?_;unfold js aX bh bm aH bj dI aM bT;have hl:=v.len;have hm:=v.many;refine aR (cs:=[(false,[.bool]),(false,[.int .i64]),(false,[.int .i64])]) (fun y m h'=>∃ i:Nat,y.1=false/\y.2.1=((iw (us.take i):Nat):Int)/\y.2.2.1=(i:Int)/\m=l-i/\i<=l/\i<=65/\h'=h/\(us.take i).any AH=false/\iw (us.take i)<=i*1000) (false,(0:Int),(0:Int),()) l rfl
  ⟨0,rfl,rfl,rfl,rfl,ad,ad,rfl,rfl,by simp [iw]⟩ ?_
 rintro ⟨b1,n2,n3,⟨⟩⟩ m h1 ⟨i,hy1,hy2,hy3,rfl,hi,hi65,rfl,hb,hs⟩;simp only at hy1 hy2 hy3;subst hy1 hy2 hy3;refine an ?_;have fin:(l<=i\/65<=i)->(T.ret (.bool (decide (((iw (us.take i):Nat):Int)>(900:Int))))) [Jl (cs:=[(false,[.bool]),(false,[.int .i64]),(false,[.int .i64])]) (fun y m h'=>∃ i:Nat,y.1=false/\y.2.1=((iw (us.take i):Nat):Int)/\y.2.2.1=(i:Int)/\m=l-i/\i<=l/\i<=65/\h'=h1/\(us.take i).any AH=false/\iw (us.take i)<=i*1000) (l-i)] (fun v' h'=>v'=.bool (sY us)/\h'=h1) h1:=by
  intro hh
  have:us.take i=us.take 65:=by
   by_cases h65:i=65
   ·rw [h65]
   ·rw [List.take_of_length_le ad,List.take_of_length_le ad]
  refine ⟨?_,rfl⟩;unfold sY;rw [<- this,hb,Bool.false_or]
  congr 1
  by_cases g:900<iw (us.take i)
  ·rw [decide_eq_true g,decide_eq_true ad]
  ·rw [decide_eq_false g,decide_eq_false ad]
 refine rU (fun r=>?_) (fun r=>?_)
 ·have r:=of_decide_eq_false r;exact fin ad
 have r:=of_decide_eq_true r;refine rU (fun w=>?_) (fun w=>?_)
 ·have w:=of_decide_eq_false w;exact fin ad
 have w:=of_decide_eq_true w;clear fin;have hiu:i<us.length:=ad
 obtain ⟨a,sa,sb,sc,sd,rfl,hc,hv⟩:=v.cells i hiu;have na:=hv.text.len;have nb:=hv.data.len;have nc:=hv.bf.len;have ca:aG h1 (a.add (i*4)) 0 [bY.v sa]:=⟨hc.1,trivial⟩
 have cb:aG h1 ((a.add (i*4)).add 1) 0 [bY.v sb]:=rn _ 1 0 ⟨hc.2.1,trivial⟩;have cc:aG h1 ((a.add (i*4)).add 2) 0 [bY.v sc]:=rn _ 2 0 ⟨hc.2.2.1,trivial⟩;have pF:AH us[i]=true->(T.ret (.bool true)) [Jl (cs:=[(false,[.bool]),(false,[.int .i64]),(false,[.int .i64])]) (fun y m h'=>∃ i:Nat,y.1=false/\y.2.1=((iw (us.take i):Nat):Int)/\y.2.2.1=(i:Int)/\m=l-i/\i<=l/\i<=65/\h'=h1/\(us.take i).any AH=false/\iw (us.take i)<=i*1000) (l-i)] (fun v' h'=>v'=.bool (sY us)/\h'=h1) h1:=by
  intro hg;refine ⟨?_,rfl⟩;unfold sY;rw [KV AH us hiu ad hg] <;> rfl
 refine ay ⟨ad,ad⟩ (av rfl ?_);refine ax ((sa.p,sa.l,sa.c),()) ca ?_;refine an ?_;refine ak (fun g=>?_) (fun g1=>?_)
 ·have g:=of_decide_eq_true g;refine pF ?_;unfold AH;rw [decide_eq_true ad] <;> rfl
 have g1:=of_decide_eq_false g1;refine ay ⟨ad,ad⟩ (av rfl ?_);refine ax ((sb.p,sb.l,sb.c),()) cb ?_;refine an ?_;refine ak (fun g=>?_) (fun g2=>?_)
 ·have g:=of_decide_eq_true g;refine pF ?_;unfold AH;rw [decide_eq_true (show 300<us[i].data.length from ad)]
  simp
 have g2:=of_decide_eq_false g2;refine ay ⟨ad,ad⟩ (av rfl ?_);refine ax ((sc.p,sc.l,sc.c),()) cc ?_;refine an ?_;refine ak (fun g=>?_) (fun g3=>?_)
 ·have g:=of_decide_eq_true g;refine pF ?_;unfold AH;rw [decide_eq_true (show 100<us[i].bf.length from ad)]
  simp
 have g3:=of_decide_eq_false g3;refine ay ⟨ad,ad⟩ (av rfl ?_);refine ax ((sa.p,sa.l,sa.c),()) ca ?_;refine an ?_;refine ay ⟨ad,ad⟩ (av rfl ?_);refine ax ((sb.p,sb.l,sb.c),()) cb ?_;refine an ?_;refine ay ⟨ad,ad⟩ (av rfl ?_);refine ax ((sc.p,sc.l,sc.c),()) cc ?_;refine an ?_;rw [wrap_i64 (x:=((iw (us.take i):Nat):Int)+(sa.l:Int)) ad ad,wrap_i64 (x:=((iw (us.take i):Nat):Int)+(sa.l:Int)+(sb.l:Int)) ad ad,wrap_i64 (x:=((iw (us.take i):Nat):Int)+(sa.l:Int)+(sb.l:Int)+(sc.l:Int)) ad ad,wrap_i64 (x:=(i:Int)+1) ad ad];have hst:=F0 us hiu;have hsz:HI us[i]=sa.l+sb.l+sc.l:=by unfold HI; omega
 refine aF (cs:=[(false,[.bool]),(false,[.int .i64]),(false,[.int .i64])]) (false,((iw (us.take (i+1)):Nat):Int),((i+1:Nat):Int),()) (l-(i+1)) rfl ad ?_ ?_
 ·show [Value.bool false,Value.int .i64 (((iw (us.take i):Nat):Int)+(sa.l:Int)+(sb.l:Int)+(sc.l:Int)),Value.int .i64 ((i:Int)+1)]=[Value.bool false,Value.int .i64 ((iw (us.take (i+1)):Nat):Int),Value.int .i64 ((i+1:Nat):Int)];rw [hst,hsz]
  congr 3
  omega
 ·refine ⟨i+1,rfl,rfl,rfl,rfl,ad,ad,rfl,?_,ad⟩;rw [List.take_succ_eq_append_getElem hiu,List.any_append,hb,Bool.false_or];unfold AH;simp only [List.any_cons,List.any_nil,Bool.or_false,Bool.or_eq_false_iff,decide_eq_false_iff_not];omega
def OI:Array (Nat × Value):=#[(0,.agg #[.string ⟨#[110,111,112]⟩,.int .u8 (0:Int),.int .i64 (1:Int)]),(1,.agg #[.string ⟨#[104,97,108,116]⟩,.int .u8 (1:Int),.int .i64 (1:Int)]),(2,.agg #[.string ⟨#[114,101,116]⟩,.int .u8 (2:Int),.int .i64 (1:Int)]),(3,.agg #[.string ⟨#[112,114,105,110,116]⟩,.int .u8 (3:Int),.int .i64 (2:Int)]),(4,.agg #[.string ⟨#[105,110]⟩,.int .u8 (4:Int),.int .i64 (2:Int)]),(5,.agg #[.string ⟨#[112,117,115,104]⟩,.int .u8 (5:Int),.int .i64 (2:Int)]),(6,.agg #[.string ⟨#[112,111,112]⟩,.int .u8 (6:Int),.int .i64 (2:Int)]),(7,.agg #[.string ⟨#[106,114]⟩,.int .u8 (7:Int),.int .i64 (2:Int)]),(8,.agg #[.string ⟨#[110,101,103]⟩,.int .u8 (8:Int),.int .i64 (2:Int)]),(9,.agg #[.string ⟨#[110,111,116]⟩,.int .u8 (9:Int),.int .i64 (2:Int)]),(10,.agg #[.string ⟨#[122,116,117,114,110]⟩,.int .u8 (10:Int),.int .i64 (3:Int)]),(11,.agg #[.string ⟨#[122,99,111,110,106]⟩,.int .u8 (11:Int),.int .i64 (3:Int)]),(12,.agg #[.string ⟨#[109,111,118]⟩,.int .u8 (16:Int),.int .i64 (4:Int)]),(13,.agg #[.string ⟨#[97,100,100]⟩,.int .u8 (17:Int),.int .i64 (4:Int)]),(14,.agg #[.string ⟨#[115,117,98]⟩,.int .u8 (18:Int),.int .i64 (4:Int)]),(15,.agg #[.string ⟨#[109,117,108]⟩,.int .u8 (19:Int),.int .i64 (4:Int)]),(16,.agg #[.string ⟨#[100,105,118]⟩,.int .u8 (20:Int),.int .i64 (4:Int)]),(17,.agg #[.string ⟨#[97,110,100]⟩,.int .u8 (21:Int),.int .i64 (4:Int)]),(18,.agg #[.string ⟨#[111,114]⟩,.int .u8 (22:Int),.int .i64 (4:Int)]),(19,.agg #[.string ⟨#[120,111,114]⟩,.int .u8 (23:Int),.int .i64 (4:Int)]),(20,.agg #[.string ⟨#[115,104,108]⟩,.int .u8 (24:Int),.int .i64 (4:Int)]),(21,.agg #[.string ⟨#[115,104,114]⟩,.int .u8 (25:Int),.int .i64 (4:Int)]),(22,.agg #[.string ⟨#[108,116]⟩,.int .u8 (26:Int),.int .i64 (4:Int)]),(23,.agg #[.string ⟨#[101,113]⟩,.int .u8 (27:Int),.int .i64 (4:Int)]),(24,.agg #[.string ⟨#[108,100,98]⟩,.int .u8 (28:Int),.int .i64 (4:Int)]),(25,.agg #[.string ⟨#[108,100,119]⟩,.int .u8 (29:Int),.int .i64 (4:Int)]),(26,.agg #[.string ⟨#[108,100,109]⟩,.int .u8 (30:Int),.int .i64 (4:Int)]),(27,.agg #[.string ⟨#[115,116,109]⟩,.int .u8 (31:Int),.int .i64 (4:Int)]),(28,.agg #[.string ⟨#[122,109,111,118]⟩,.int .u8 (32:Int),.int .i64 (5:Int)]),(29,.agg #[.string ⟨#[122,97,100,100]⟩,.int .u8 (33:Int),.int .i64 (5:Int)]),(30,.agg #[.string ⟨#[122,115,117,98]⟩,.int .u8 (34:Int),.int .i64 (5:Int)]),(31,.agg #[.string ⟨#[122,109,117,108]⟩,.int .u8 (35:Int),.int .i64 (5:Int)]),(32,.agg #[.string ⟨#[122,114,101]⟩,.int .u8 (36:Int),.int .i64 (6:Int)]),(33,.agg #[.string ⟨#[122,105,109]⟩,.int .u8 (37:Int),.int .i64 (6:Int)]),(34,.agg #[.string ⟨#[122,115,101,116]⟩,.int .u8 (38:Int),.int .i64 (7:Int)]),(35,.agg #[.string ⟨#[108,105,115]⟩,.int .u8 (48:Int),.int .i64 (8:Int)]),(36,.agg #[.string ⟨#[116,114,97,112]⟩,.int .u8 (49:Int),.int .i64 (9:Int)]),(37,.agg #[.string ⟨#[108,105]⟩,.int .u8 (50:Int),.int .i64 (10:Int)]),(38,.agg #[.string ⟨#[108,100,112]⟩,.int .u8 (51:Int),.int .i64 (11:Int)]),(39,.agg #[.string ⟨#[106,109,112]⟩,.int .u8 (64:Int),.int .i64 (12:Int)]),(40,.agg #[.string ⟨#[99,97,108,108]⟩,.int .u8 (67:Int),.int .i64 (12:Int)]),(41,.agg #[.string ⟨#[106,122]⟩,.int .u8 (70:Int),.int .i64 (13:Int)]),(42,.agg #[.string ⟨#[106,110,122]⟩,.int .u8 (73:Int),.int .i64 (13:Int)])]
def ug (k:Nat):ByteArray:=match OI[k]? with | some (_,.agg #[.string s,_,_])=>s | _=>⟨#[]⟩
def ub (k:Nat):Int:=match OI[k]? with | some (_,.agg #[_,.int _ b,_])=>b | _=>0
theorem VC:Tryz.prog.underlying 186=some (.slice 188):=az
theorem Wf:(Tryz.prog.info? 188).map (fun i=>(i.zero,i.size,i.bytes))=some (some (.agg #[.string ⟨#[]⟩,.int .u8 0,.int .i64 0]),3,32):=az
theorem PO:Instr.fill (fun j=>some (j*3,3)) ((Array.range (43*3)).map ((Value.agg #[.string ⟨#[]⟩,.int .u8 0,.int .i64 0]).cells[· % (Value.agg #[.string ⟨#[]⟩,.int .u8 0,.int .i64 0]).cells.size]!)) OI.toList=some (kQ ug ub).toArray:=az
theorem SK (h:Hp):HC Tryz.prog 117 #[] h fun v h'=>v=.slice (some ⟨h.size,0,none⟩) 43 43/\bC h' h.size 188 (kQ ug ub)/\Ext h h':=by
 refine aZ (args:=[]) mixed Tryz.func117 az pQ ?_;show (T.dW Tryz.prog (Instr.buildSlice 186 43 OI) false [(false,[.slice 0])] <| fun (p0:Option Addr) (l1:Nat) (l2:Nat)=>T.ret (.slice p0 l1 l2)) [] _ h;refine jX VC Wf ad ad PO ?_;intro h1 b1 e1 z1;exact ⟨rfl,b1,e1⟩
theorem Jq {nm:Nat->ByteArray} {by_:Nat->Int} {k:Nat} (hk:k<43):(kQ nm by_)[k*3+2]?=some (.int .i64 (nN.getD k 0:Nat)):=by
 unfold kQ;rw [vv _ 3 aj _ _ _ ad];simp [hk]
theorem qx (h:Hp) (op:Int) (ho:Sm op):HC Tryz.prog 96 #[.int .i64 op] h fun w h'=>w=.int .i64 (dc op:Nat)/\Ext h h':=by
 refine aZ (args:=[.int .i64 op]) mixed Tryz.func96 az (nv op) ?_;unfold jG bF bj;refine aI (SK h) ?_;rintro _ h1 ⟨rfl,b1,e1⟩;refine ⟨((some ⟨h.size,0,none⟩,43,43),()),rfl,?_⟩;refine an ?_;have z0:op<1\/43<op->dc op=0:=by
  intro hh
  by_cases h0:dc op=0
  ·exact h0
  ·have:=GB op h0
   omega
 refine ak (fun q=>?_) (fun q=>?_)
 ·have q:=of_decide_eq_true q;rw [z0 (.inl q)];exact ⟨rfl,e1⟩
 have q:=of_decide_eq_false q;refine ak (fun r=>?_) (fun r=>?_)
 ·have r:op>((43:Nat):Int):=of_decide_eq_true r;rw [z0 (.inr ad)];exact ⟨rfl,e1⟩
 have r:¬ op>((43:Nat):Int):=of_decide_eq_false r;obtain ⟨k,hk⟩:∃ k:Nat,op=(k:Int)+1:=⟨(op-1).toNat,ad⟩
 rw [wrap_i64 ad ad,show op-1=(k:Int) from ad];have hk43:k<43:=ad
 refine ay ⟨ad,ad⟩ ?_;refine av rfl ?_;rw [show Int.toNat (k:Int)=k from rfl,aE,aE];have hs:dc op=nN.getD k 0:=by
  unfold dc;rw [if_neg ad,show (op-1).toNat=k from ad]
 refine af b1 (((nN.getD k 0:Nat):Int),()) ?_ ?_
 ·show List.take 1 (List.drop (0+k*3+2) (kQ ug ub))=[.int .i64 ((nN.getD k 0:Nat):Int)]
  have:=Jq (nm:=ug) (by_:=ub) hk43
  rw [Nat.zero_add];obtain ⟨hlt,hv⟩:=List.getElem?_eq_some_iff.1 this;rw [List.drop_eq_getElem_cons hlt,List.take_succ_cons,List.take_zero,hv]
 ·rw [hs];exact ⟨rfl,e1⟩
theorem vY (h:Hp) (op:Int) (ho:Sm op):HC Tryz.prog 71 #[.int .i64 op] h fun w h'=>w=.bool (qu op)/\Ext h h':=by
 refine aZ (args:=[.int .i64 op]) mixed Tryz.func71 az (nU op) ?_;unfold jE cn dI;have hc:=gM op;refine aI (qx h op ho) ?_;rintro _ h1 ⟨rfl,e1⟩;refine ⟨(((dc op:Nat):Int),()),rfl,?_⟩;refine an ?_;refine ak (fun q=>?_) (fun q=>?_)
 ·have q:dc op=12:=BF q;exact ⟨by unfold qu; rw [q]; rfl,e1⟩
 have q:¬ dc op=12:=DL q;refine aI (qx h1 op ho) ?_;rintro _ h2 ⟨rfl,e2⟩;refine ⟨(((dc op:Nat):Int),()),rfl,?_⟩;refine ⟨?_,e1.trans e2⟩
 congr 1
 unfold qu
 by_cases g:dc op=13
 ·rw [g]; rfl
 ·rw [decide_eq_false ad];exact VW (c:=13) g
theorem HF (h:Hp) (op:Int) (ho:Sm op):HC Tryz.prog 73 #[.int .i64 op] h fun w h'=>w=.bool (DQ op)/\Ext h h':=by
 refine aZ (args:=[.int .i64 op]) mixed Tryz.func73 az (oC op) ?_;unfold j9 cn dI;have hc:=gM op;refine aI (qx h op ho) ?_;rintro _ h1 ⟨rfl,e1⟩;refine ⟨(((dc op:Nat):Int),()),rfl,?_⟩;refine an ?_;refine ak (fun q=>?_) (fun q1=>?_)
 ·have q:dc op=10:=BF q;exact ⟨by unfold DQ; rw [q]; rfl,e1⟩
 have q1:¬ dc op=10:=DL q1;refine ak (fun q=>?_) (fun q2=>?_)
 ·have q:dc op=11:=BF q;exact ⟨by unfold DQ; rw [q]; rfl,e1⟩
 have q2:¬ dc op=11:=DL q2;refine ak (fun q=>?_) (fun q3=>?_)
 ·have q:dc op=12:=BF q;exact ⟨by unfold DQ; rw [q]; rfl,e1⟩
 have q3:¬ dc op=12:=DL q3;refine ⟨?_,e1⟩
 congr 1
 unfold DQ
 by_cases g:dc op=13
 ·rw [g]; rfl
 ·rw [decide_eq_false ad];exact VW (c:=13) g
theorem Pg (h:Hp) (n w:Int):vC Tryz.prog 98 [.int .i32 n,.int .i64 w] h (.bool ((decide (w=1) || decide (w=2) || decide (w=4)) && lC n w)):=by
 refine ee mixed Tryz.func98 az (oJ n w) ?_;unfold j2 lC bo dI;refine ak (fun q=>?_) (fun q1=>?_)
 ·have q:w=1:=by simpa using q
  rw [if_pos q,q];refine ak (fun r=>⟨?_,rfl⟩) (fun r=>⟨?_,rfl⟩)
  ·have r:=of_decide_eq_true r;rw [decide_eq_true (show -128<=n from r)]
   simp
  ·have r:=of_decide_eq_false r;rw [decide_eq_false (show ¬ -128<=n from r)]
   simp
 have q1:¬ w=1:=by simpa using q1
 rw [if_neg q1];refine ak (fun q=>?_) (fun q2=>?_)
 ·have q:w=2:=by simpa using q
  rw [if_pos q,q];refine ak (fun r=>⟨?_,rfl⟩) (fun r=>⟨?_,rfl⟩)
  ·have r:=of_decide_eq_true r;rw [decide_eq_true (show -32768<=n from r)]
   simp
  ·have r:=of_decide_eq_false r;rw [decide_eq_false (show ¬ -32768<=n from r)]
   simp
 have q2:¬ w=2:=by simpa using q2
 rw [if_neg q2];refine ak (fun q=>?_) (fun q3=>?_)
 ·have q:w=4:=by simpa using q
  rw [q];exact ⟨rfl,rfl⟩
 ·have q3:¬ w=4:=by simpa using q3
  rw [decide_eq_false q1,decide_eq_false q2,decide_eq_false q3];exact ⟨rfl,rfl⟩
def aA (s:Nat):Nat:=if s=2\/s=8\/s=10\/s=11\/s=13\/s=4\/s=6 then 8 else if s=3\/s=5\/s=7 then 4 else 0
def bB (s:Nat):Nat:=if s=4\/s=7 then 8 else if s=5\/s=6 then 4 else 0
theorem Ke {s:Nat} (hs:1<=s/\s<=13) (a b n:Int):cC s a b n=true↔(0<=a/\0<=b/\(a<(aA s:Int)\/(aA s=0/\a=0))/\(b<(bB s:Int)\/(bB s=0/\b=0))/\(s=7->0<=n/\n<=7)):=by
 have:s=1\/s=2\/s=3\/s=4\/s=5\/s=6\/s=7\/s=8\/s=9\/s=10\/s=11\/s=12\/s=13:=ad
 unfold cC vB aA bB;rcases this with rfl | rfl | rfl | rfl | rfl | rfl | rfl | rfl | rfl | rfl | rfl | rfl | rfl <;> simp <;> omega
theorem ID (h:Hp) (op a b n form:Int) (ho:Sm op) (hs:dc op≠0):HC Tryz.prog 97 #[de op a b n form] h fun w h'=>w=.bool (cC (dc op) a b n)/\Ext h h':=by
 refine aZ (args:=[de op a b n form]) mixed Tryz.func97 az (kx op a b n form) ?_;unfold fX cn bo dI aM;have hc:1<=dc op/\dc op<=13:=by have:=gM op; omega
 refine bq ?_;intro h1 b1 e1 z1;refine af b1 (op,()) rfl ?_;refine an ?_;refine aI (qx h1 op ho) ?_;rintro _ h2 ⟨rfl,e2⟩;refine ⟨(((dc op:Nat):Int),()),rfl,?_⟩;refine an ?_;have b2:=b1.ao e2 aj;have e02:=e1.trans e2;have hiff:=Ke hc a b n;generalize dc op=s at *;generalize cC s a b n=R at *;refine iG (cs:=[(false,[.int .i64]),(false,[.int .i64])]) (fun y h'=>y=(((aA s:Nat):Int),((bB s:Nat):Int),())/\h2=h') ?_ ?_
 ·have:s=1\/s=2\/s=3\/s=4\/s=5\/s=6\/s=7\/s=8\/s=9\/s=10\/s=11\/s=12\/s=13:=ad
  rcases this with rfl | rfl | rfl | rfl | rfl | rfl | rfl | rfl | rfl | rfl | rfl | rfl | rfl
  all_goals (repeat (first | refine bX rfl ?_ | refine bM rfl ?_))
  all_goals exact dF (cs:=[(false,[.int .i64]),(false,[.int .i64])]) (((aA _:Nat):Int),((bB _:Nat):Int),()) rfl rfl ⟨rfl,rfl⟩
 rintro ⟨A,B,⟨⟩⟩ _ ⟨hy,rfl⟩;cases hy;refine an ?_;simp only [aE];have fin:∀ b:Bool,(b=true↔R=true)->(T.ret (.bool b)) [] (fun w h'=>w=.bool R/\Ext h h') h2:=by
  intro b hb;refine ⟨?_,e02⟩;cases b <;> cases R <;> simp_all
 repeat' (first
  | (refine af b2 (a,()) rfl ?_; refine an ?_)
  | (refine af b2 (b,()) rfl ?_; refine an ?_)
  | (refine af b2 (n,()) rfl ?_; refine an ?_)
  | refine fin _ ?_
  | refine ak (fun q=>?_) (fun q=>?_))
 all_goals (rw [hiff]; simp only [decide_eq_true_eq,decide_eq_false_iff_not,bne_iff_ne,ne_eq,bne_eq_false_iff_eq,Bool.false_eq_true,false_iff,true_iff] at *; omega)
def uP (n w:Int):Bool:=(decide (w=1) || decide (w=2) || decide (w=4)) && lC n w
def Eo (n w:Int):Prop:=(w=1/\-128<=n/\n<=127)\/(w=2/\-32768<=n/\n<=32767)\/w=4
theorem Im (n w:Int):uP n w=true↔Eo n w:=by
 unfold uP lC Eo
 by_cases h1:w=1
 ·subst h1; simp
 ·by_cases h2:w=2
  ·subst h2; simp
  ·by_cases h4:w=4
   ·subst h4; simp
   ·simp [h1,h2,h4]
theorem R5 (n w:Int):uP n w=false↔¬ Eo n w:=by
 rw [<- Im]
 simp
theorem bn {i:Ins} (h0:dc i.op≠0) (hR:cC (dc i.op) i.a i.b i.n=true) (P:Prop) (hP:P↔((dc i.op=12\/dc i.op=13->Eo i.n i.form)/\(dc i.op≠12/\dc i.op≠13->i.form=0)/\(dc i.op=8->-128<=i.n/\i.n<=127)/\(dc i.op=9->0<=i.n/\i.n<=255)/\(dc i.op=11->0<=i.n/\i.n<=4095) /\
  (dc i.op<7->i.n=0))):(P->fW i=0)/\(¬ P->fW i=13):=by
 obtain ⟨op,a,b,n,form⟩:=i;simp only at *;have hc:=gM op;have key:(!qu op && decide (form≠0) || !nR (dc op) n form)=true↔¬ P:=by
  rw [hP];unfold qu nR lC Eo
  have:dc op=1\/dc op=2\/dc op=3\/dc op=4\/dc op=5\/dc op=6\/dc op=7\/dc op=8\/dc op=9\/dc op=10\/dc op=11\/dc op=12\/dc op=13:=ad
  rcases this with h | h | h | h | h | h | h | h | h | h | h | h | h <;> rw [h]
  all_goals (
   by_cases f1:form=1
   ·subst f1; simp; try omega
   ·by_cases f2:form=2
    ·subst f2; simp; try omega
    ·by_cases f4:form=4
     ·subst f4; simp; try omega
     ·by_cases f0:form=0
      ·subst f0; simp; try omega
      ·simp [f1,f2,f4,f0])
 unfold fW;simp only;rw [if_neg h0,hR,if_neg aj];refine ⟨fun hp=>?_,fun hp=>?_⟩
 ·rw [if_neg (fun e=>key.1 e hp)]
 ·rw [if_pos (key.2 hp)]
theorem JL (h:Hp) (op a b n form:Int) (ho:Sm op):HC Tryz.prog 72 #[de op a b n form] h fun w h'=>w=.int .i64 (fW ⟨op,a,b,n,form⟩)/\Ext h h':=by
 refine aZ (args:=[de op a b n form]) mixed Tryz.func72 az (nu op a b n form) ?_;unfold jz aU cn;refine bq ?_;intro h1 b1 e1 z1;refine af b1 (op,()) rfl ?_;refine an ?_;refine aI (qx h1 op ho) ?_;rintro _ h2 ⟨rfl,e2⟩;refine ⟨(((dc op:Nat):Int),()),rfl,?_⟩;refine an ?_;have b2:=b1.ao e2 aj;have e02:=e1.trans e2;refine ak (fun q=>?_) (fun q=>?_)
 ·have q:dc op=0:=BF q;exact ⟨by unfold fW; simp only; rw [if_pos q],e02⟩
 have q:¬ dc op=0:=DL q;refine af b2 (op,a,b,n,form,()) rfl ?_;refine an ?_;refine gw (ID h2 op a b n form ho q) ?_;intro h3 e3;have b3:=b2.ao e3 aj;have e03:=e02.trans e3;refine ak (fun r=>?_) (fun r=>?_)
 ·have r:cC (dc op) a b n=false:=by simpa using r
  exact ⟨by unfold fW; simp only; rw [if_neg q,r,if_pos rfl],e03⟩
 have r:cC (dc op) a b n=true:=by simpa using r
 have hc:=gM op;obtain ⟨k0,k13⟩:=bn (i:=⟨op,a,b,n,form⟩) q r _ Iff.rfl;simp only at k0 k13;generalize fW ⟨op,a,b,n,form⟩=C at *;generalize dc op=s at *;clear r;have f0:((s=12\/s=13->Eo n form)/\(s≠12/\s≠13->form=0)/\(s=8->-128<=n/\n<=127)/\(s=9->0<=n/\n<=255)/\(s=11->0<=n/\n<=4095)/\(s<7->n=0))->(T.ret (.int .i64 (0:Int))) [] (fun w h'=>w=.int .i64 C/\Ext h h') h3:=fun hp=>⟨by rw [k0 hp],e03⟩
 have f13:¬ ((s=12\/s=13->Eo n form)/\(s≠12/\s≠13->form=0)/\(s=8->-128<=n/\n<=127)/\(s=9->0<=n/\n<=255)/\(s=11->0<=n/\n<=4095)/\(s<7->n=0))->(T.ret (.int .i64 (13:Int))) [] (fun w h'=>w=.int .i64 C/\Ext h h') h3:=fun hp=>⟨by rw [k13 hp],e03⟩
 clear k0 k13;simp only [aE]
 repeat' (first
  | (refine af b3 (n,()) rfl ?_; refine an ?_)
  | (refine af b3 (form,()) rfl ?_; refine an ?_)
  | refine f0 ?_
  | refine f13 ?_
  | refine aJ (b:=uP n form) (Pg h3 n form) ?_
  | refine ak (fun q=>?_) (fun q=>?_))
 all_goals (
  clear f0 f13;simp only [decide_eq_true_eq,decide_eq_false_iff_not,bne_iff_ne,ne_eq,bne_eq_false_iff_eq,beq_iff_eq,beq_eq_false_iff_ne,Bool.not_eq_true',Bool.not_eq_false',Im,R5,Eo] at *;omega)
def oq (x:cz) (b1 b2 b3 b4:Bool):Bool:=(!b1 || z1 x) && ((!b2 || z2 x) && ((!b3 || z3 x) && (!b4 || z4 x)))
theorem SU (s:ByteArray):(ByteArray.toList s==([]:List UInt8))=decide (s=du):=by
 have:=ow s du
 rw [show ByteArray.toList du=[] by rw [ByteArray.toList_eq]; rfl] at this;exact this
theorem PP (n:Nat) (m:Nat) (i:Ins) (h:Hp) (K:Value->Hp->Prop) (hk:K (.bool (decide (i=Qk))) h) :
  aP Tryz.prog (Sx.iK (BinOp.eql) 62 (Operand.tmp n) (Operand.tmp m) (.agg #[.int .i64 i.op,.int .i64 i.a,.int .i64 i.b,.int .i32 i.n,.int .i64 i.form]) (.agg #[.int .i64 (0:Int),.int .i64 (0:Int),.int .i64 (0:Int),.int .i32 (0:Int),.int .i64 (0:Int)])) h K :=
 Hd _ _ i Qk h K hk
theorem Om {h:Hp} {x:cz} {p:Option Addr} {l c:Nat} (v:gp h p l x.e.ai) (b1 b2 b3 b4:Bool) :
  HC Tryz.prog 70 #[pP p l c x,.bool b1,.bool b2,.bool b3,.bool b4] h fun w h'=>w=.bool (oq x b1 b2 b3 b4)/\Ext h h':=by
 refine aZ (args:=[pP p l c x,.bool b1,.bool b2,.bool b3,.bool b4]) mixed Tryz.func70 az (pf x.kind x.name x.inst.op x.inst.a x.inst.b x.inst.n x.inst.form p l c x.e.num x.n b1 b2 b3 b4) ?_;unfold j7 dT bo dI;have hl:=v.len;have hz:N3 x.e=(decide (l=0) && decide (x.e.num=0)):=by
  unfold N3
  congr 1
  rw [hl]
  simp
 refine bq ?_;intro h1 bx e1 zz1;have bx:bC h1 h.size 64 (encI p l c x):=bx;simp only [aE];unfold oq z1 z2 z3 z4;rw [hz]
 repeat' (first
  | (refine af bx (x.n,()) rfl ?_; refine an ?_)
  | (refine af bx (x.name,()) rfl ?_; refine an ?_)
  | (refine af bx ((p,l,c),()) rfl ?_; refine an ?_)
  | (refine af bx ((x.e.num:Int),()) rfl ?_; refine an ?_)
  | (refine af bx (x.inst.op,x.inst.a,x.inst.b,x.inst.n,x.inst.form,()) rfl ?_; refine an ?_)
  | refine nW (fun K' hK=>PP _ _ x.inst h1 K' hK) ?_
  | refine ⟨congrArg Value.bool ?_,e1⟩
  | refine ak (fun q=>?_) (fun q=>?_))
 all_goals (
  try simp only [SU] at *
  simp_all [cV])
 all_goals omega
def QW (g:Nat) (b1 b2 b3 b4:Bool) (k:Bool->T):T :=
 T.ah ⟨g,0,none⟩ [.int .i64,.string,.int .i64,.int .i64,.int .i64,.int .i32,.int .i64,.slice 66,.int .u32,.int .i64] <| fun (n5:Int) (s6:ByteArray) (n7:Int) (n8:Int) (n9:Int) (n10:Int) (n11:Int) (p12:Option Addr) (l13:Nat) (l14:Nat) (n15:Int) (n16:Int) =>
  bF 70 [.agg #[.int .i64 n5,.string s6,.int .i64 n7,.int .i64 n8,.int .i64 n9,.int .i32 n10,.int .i64 n11,.slice p12 l13 l14,.int .u32 n15,.int .i64 n16],.bool b1,.bool b2,.bool b3,.bool b4] false [bT] k
theorem gg {L:Lp} {K:Value->Hp->Prop} {h:Hp} {g:Nat} {x:cz} {p:Option Addr} {l c:Nat} {b1 b2 b3 b4:Bool} {k:Bool->T} (bx:bC h g 64 (encI p l c x)) (v:gp h p l x.e.ai) (hk:∀ h',Ext h h'->k (oq x b1 b2 b3 b4) L K h'):QW g b1 b2 b3 b4 k L K h:=by
 unfold QW bF bT;refine af bx (x.kind,x.name,x.inst.op,x.inst.a,x.inst.b,x.inst.n,x.inst.form,(p,l,c),(x.e.num:Int),x.n,()) rfl ?_;refine an ?_;exact gw (Om v b1 b2 b3 b4) hk
theorem Bm (h:Hp) (n:Int):vC Tryz.prog 74 [.int .i64 n] h (.bool (tF n)):=by
 refine ee mixed Tryz.func74 az (nl n) ?_;unfold jw bj bo dI aM bT;refine aR (cs:=[(false,[.bool]),(false,[.int .i64])]) (fun y m h'=>∃ k:Nat,y=(false,((2^k:Nat):Int),())/\m=9-k/\k<=9/\h'=h/\(∀ j,j<k->¬ n=((2^j:Nat):Int))) (false,(1:Int),()) 9 rfl
  ⟨0,rfl,rfl,ad,rfl,fun j hj=>ad⟩ ?_
 rintro ⟨b1,n2,⟨⟩⟩ m h1 ⟨k,hy,hm,hk,rfl,hj⟩;cases hy;refine an ?_;refine ak (fun q=>?_) (fun q=>?_)
 ·have q:=of_decide_eq_true q;have hk8:k<=8:=by
   by_cases g:k=9
   ·subst g;exact absurd q cg
   ·omega
  refine ak (fun r=>?_) (fun r=>?_)
  ·have r:n=((2^k:Nat):Int):=by simpa using r
   refine ⟨?_,rfl⟩
   have:k=0\/k=1\/k=2\/k=3\/k=4\/k=5\/k=6\/k=7\/k=8:=ad
   rcases this with rfl | rfl | rfl | rfl | rfl | rfl | rfl | rfl | rfl <;> (rw [r]; rfl)
  ·have r:¬ n=((2^k:Nat):Int):=by simpa using r
   have hp:2^k<=2^8:=Nat.pow_le_pow_right ad hk8;have hp2:((2^k:Nat):Int)<=256:=by exact_mod_cast hp
   have hp3:(0:Int)<=((2^k:Nat):Int):=Int.natCast_nonneg _;rw [wrap_i64 ad ad];have h2:(2:Int)*((2^k:Nat):Int)=((2^(k+1):Nat):Int):=by rw [Nat.pow_succ]; omega
   rw [h2];refine aF (cs:=[(false,[.bool]),(false,[.int .i64])]) (false,((2^(k+1):Nat):Int),()) (9-(k+1)) rfl ad rfl ⟨k+1,rfl,rfl,ad,rfl,fun j hj'=>?_⟩
   by_cases g:j=k
   ·subst g; exact r
   ·exact hj j ad
 ·have q:=of_decide_eq_false q;have hk9:k=9:=by
   by_cases g:k=9
   ·exact g
   ·have hp:2^k<=2^8:=Nat.pow_le_pow_right ad ad;omega
  subst hk9;refine ⟨?_,rfl⟩;have a0:=hj 0 ad;have a1:=hj 1 ad;have a2:=hj 2 ad;have a3:=hj 3 ad;have a4:=hj 4 ad;have a5:=hj 5 ad;have a6:=hj 6 ad;have a7:=hj 7 ad;have a8:=hj 8 ad;unfold tF;simp only [Nat.reducePow] at a0 a1 a2 a3 a4 a5 a6 a7 a8;rw [decide_eq_false ad,decide_eq_false ad,decide_eq_false ad,decide_eq_false ad,decide_eq_false ad,decide_eq_false ad,decide_eq_false ad,decide_eq_false ad,decide_eq_false ad] <;> rfl
theorem Lj {h:Hp} {x:cz} {p:Option Addr} {l c:Nat} (v:lA h p l x):HC Tryz.prog 34 #[pP p l c x,.int .i64 (0:Int)] h fun w h'=>w=CK (ct x 0)/\Ext h h':=by
 refine aZ (args:=[pP p l c x,.int .i64 (0:Int)]) mixed Tryz.func34 az (kN x.kind x.name x.inst.op x.inst.a x.inst.b x.inst.n x.inst.form p l c x.e.num x.n) ?_;unfold gR aU cn bT;have hml:maxLen=9223372036854775807:=rfl;refine bq ?_;intro h1 b1 e1 z1';have b1:bC h1 h.size 64 (encI p l c x):=b1;have v1:=v.ao e1;simp only [aE];refine iG (cs:=[(false,[.bool])]) (fun y h'=>y.1=ct x 0/\Ext h h') ?_ ?_
 rotate_left
 ·rintro ⟨b2,⟨⟩⟩ h' ⟨hy,e'⟩;simp only at hy;subst hy;refine an ?_;cases hr:ct x 0
  ·exact ⟨rfl,e'⟩
  ·exact ⟨rfl,e'⟩
 have fin:∀ (b:Bool) (h':Hp),b=ct x 0->Ext h h'->T.again 0 [.bool b] [fun vs h'=>∃ y:qa (flat [(false,[.bool])]),vs=parts [(false,[.bool])] (dU _ y)/\(y.1=ct x 0/\Ext h h')] (fun w h'=>w=CK (ct x 0)/\Ext h h') h':=by
  rintro b h' rfl e';exact dF (cs:=[(false,[.bool])]) (J:=fun y h'=>y.1=ct x 0/\Ext h h') (ct x 0,()) rfl rfl ⟨rfl,e'⟩
 refine af b1 (x.kind,()) rfl ?_;refine an ?_
 by_cases k1:x.kind=1
 ·refine bX (by rw [k1]; rfl) ?_;have hit:ct x 0=(cP x.name.data.toList && z2 x && z3 x && z4 x):=by unfold ct; rw [if_pos k1]
  refine af b1 (x.name,()) rfl ?_;refine an ?_;refine aJ (rI x.name h1 (by have:=v.name; omega)) ?_;refine ak (fun q=>?_) (fun q=>fin _ _ (by rw [hit,q]; rfl) e1);refine gg b1 v1.lin.vw ?_;intro h2 e2;exact fin _ _ (by rw [hit,q]; unfold oq; simp [Bool.and_assoc]) (e1.trans e2)
 refine bM (by simpa using k1) ?_
 by_cases k2:x.kind=2
 ·refine bX (by rw [k2]; rfl) ?_;have hit:ct x 0=(yJ x.inst x.e && z1 x && z4 x):=by unfold ct; rw [if_neg k1,if_pos k2]; simp
  refine af b1 (x.inst.op,x.inst.a,x.inst.b,x.inst.n,x.inst.form,()) rfl ?_;refine an ?_;refine bq ?_;intro h2 b2 e2 z2';refine aw b2 rfl aj ?_;intro h3 b3 k3 z3';have b3:bC h3 h1.size 62 (nB x.inst):=b3;have e13:Ext h1 h3:=e2.st k3 (Nat.le_refl _);have b13:=b1.ao e13 aj;rw [aE];refine af b3 (x.inst.form,()) rfl ?_;refine an ?_;refine iG (cs:=[]) (fun _ h'=>bC h' h1.size 62 (nB { x.inst with form:=if qu x.inst.op then 1 else x.inst.form })/\Ext h1 h') ?_ ?_
  ·refine af b3 (x.inst.op,()) rfl ?_;refine an ?_;refine gw (vY h3 x.inst.op v.op) ?_;intro h4 e4;have b4:=b3.ao e4 aj;refine ak (fun q=>?_) (fun q=>?_)
   ·refine aw b4 rfl (by simp [nB]) ?_;intro h5 b5 k5 z5;exact dF (cs:=[]) () rfl rfl ⟨by rw [if_pos q]; exact b5,(e13.trans e4).st k5 (by have:=e13.size; omega)⟩
   ·exact dF (cs:=[]) () rfl rfl ⟨by rw [if_neg (by rw [q]; decide)]; exact b4,e13.trans e4⟩
  rintro _ h5 ⟨b5,e5⟩;refine an ?_;have b15:=b1.ao e5 aj;have v5:=v1.ao e5;refine iG (cs:=[(false,[.bool])]) (fun y h'=>y.1=(decide (x.inst.form=0) && decide (fW { x.inst with form:=if qu x.inst.op then 1 else x.inst.form }=0) && (z1 x && z4 x))/\Ext h5 h') ?_ ?_
  ·refine ak (fun q=>?_) (fun q=>?_)
   ·have q:x.inst.form=0:=by simpa using q
    refine af b5 (x.inst.op,x.inst.a,x.inst.b,x.inst.n,((if qu x.inst.op then (1:Int) else x.inst.form):Int),()) rfl ?_;refine an ?_;refine aI (JL h5 x.inst.op x.inst.a x.inst.b x.inst.n (if qu x.inst.op then 1 else x.inst.form) v.op) ?_;rintro _ h6 ⟨rfl,e6⟩;refine ⟨(fW { x.inst with form:=if qu x.inst.op then 1 else x.inst.form },()),rfl,?_⟩;refine an ?_;refine ak (fun r=>?_) (fun r=>?_)
    ·have r:fW { x.inst with form:=if qu x.inst.op then 1 else x.inst.form }=0:=by simpa using r
     refine gg (b15.ao e6 aj) (v5.ao e6).lin.vw ?_;intro h7 e7;exact dF (cs:=[(false,[.bool])]) (oq x true false false true,()) rfl rfl ⟨by rw [decide_eq_true q,decide_eq_true r]; rfl,e6.trans e7⟩
    ·have r:¬ fW { x.inst with form:=if qu x.inst.op then 1 else x.inst.form }=0:=by simpa using r
     exact dF (cs:=[(false,[.bool])]) (false,()) rfl rfl ⟨by rw [decide_eq_true q,decide_eq_false r]; rfl,e6⟩
   ·have q:¬ x.inst.form=0:=by simpa using q
    exact dF (cs:=[(false,[.bool])]) (false,()) rfl rfl ⟨by rw [decide_eq_false q]; rfl,Ch.refl _ _⟩
  rintro ⟨b10,⟨⟩⟩ h6 ⟨hy,e6⟩;simp only at hy;subst hy;refine an ?_;have b6:=b5.ao e6 aj;have b16:=b15.ao e6 aj;have v6:=v5.ao e6;refine af b6 (x.inst.op,()) rfl ?_;refine an ?_;refine gw (HF h6 x.inst.op v.op) ?_;intro h7 e7;have b7:=b6.ao e7 aj;have b17:=b16.ao e7 aj;have v7:=v6.ao e7;have e07:=((e1.trans e5).trans e6).trans e7;have hchk:DQ x.inst.op=true->(decide (x.inst.form=0) && decide (fW { x.inst with form:=if qu x.inst.op then 1 else x.inst.form }=0) && (z1 x && z4 x) && (decide (x.inst.n=0) && mZ none x.e.ai))=ct x 0:=by
   intro hw;rw [hit];unfold yJ;rw [if_pos hw]
   by_cases f0:x.inst.form=0
   ·rw [decide_eq_true f0,f0]
    by_cases c0:fW { x.inst with form:=if qu x.inst.op then 1 else 0 }=0
    ·have hs:=(EO c0).1;simp only at hs;rw [decide_eq_true c0,decide_eq_true hs];simp only [Bool.true_and]
     ac_rfl
    ·rw [decide_eq_false c0]
     simp
   ·rw [decide_eq_false f0]
    simp
  have hchk2:DQ x.inst.op=false->(decide (x.inst.form=0) && decide (fW { x.inst with form:=if qu x.inst.op then 1 else x.inst.form }=0) && (z1 x && z4 x) && z3 x)=ct x 0:=by
   intro hw;rw [hit];unfold yJ;rw [if_neg (show ¬ (DQ x.inst.op=true) by rw [hw]; decide)];have hsp:qu x.inst.op=false:=by
    unfold DQ at hw;unfold qu;rw [decide_eq_false_iff_not] at hw ⊢;omega
   rw [if_neg (show ¬ (qu x.inst.op=true) by rw [hsp]; decide)]
   by_cases f0:x.inst.form=0
   ·rw [decide_eq_true f0];have hi:({ x.inst with form:=x.inst.form }:Ins)=x.inst:=rfl;rw [hi]
    by_cases c0:fW x.inst=0
    ·have hs:=(EO c0).1;rw [decide_eq_true c0,decide_eq_true hs];unfold z3;simp only [Bool.true_and]
     ac_rfl
    ·rw [decide_eq_false c0]
     simp
   ·rw [decide_eq_false f0]
    simp
  generalize (decide (x.inst.form=0) && decide (fW { x.inst with form:=if qu x.inst.op then 1 else x.inst.form }=0) && (z1 x && z4 x))=G at *;refine ak (fun hw=>?_) (fun hw=>?_)
  ·have hchk:=hchk hw;refine ak (fun g=>?_) (fun g=>fin _ _ (by rw [<- hchk,g]; rfl) e07);refine af b7 (x.inst.n,()) rfl ?_;refine an ?_;refine ak (fun r=>?_) (fun r=>?_)
   ·have r:x.inst.n=0:=by simpa using r
    refine af b17 ((p,l,c),(x.e.num:Int),()) rfl ?_;refine an ?_;refine aI (sN (c:=c) v7.lin.vw (by have:=v.lin.many; omega) v.lin.names) ?_;rintro _ h8 ⟨rfl,e8⟩;refine ⟨(mZ none x.e.ai,()),rfl,?_⟩;exact fin _ _ (by rw [<- hchk,g,decide_eq_true r]; simp) (e07.trans e8)
   ·have r:¬ x.inst.n=0:=by simpa using r
    exact fin _ _ (by rw [<- hchk,decide_eq_false r]; simp) e07
  ·have hchk:=hchk2 hw;refine ak (fun g=>?_) (fun g=>fin _ _ (by rw [<- hchk,g]; rfl) e07);refine gg b17 v7.lin.vw ?_;intro h8 e8;exact fin _ _ (by rw [<- hchk,g]; unfold oq; simp) (e07.trans e8)
 refine bM (by simpa using k2) ?_
 by_cases k3:x.kind=3
 ·refine bX (by rw [k3]; rfl) ?_;have hit:ct x 0=(tF x.n && z1 x && z2 x && z3 x):=by unfold ct; rw [if_neg k1,if_neg k2,if_pos k3]
  refine af b1 (x.n,()) rfl ?_;refine an ?_;refine aJ (Bm h1 x.n) ?_;refine ak (fun q=>?_) (fun q=>fin _ _ (by rw [hit,q]; rfl) e1);refine gg b1 v1.lin.vw ?_;intro h2 e2;exact fin _ _ (by rw [hit,q]; unfold oq; simp [Bool.and_assoc]) (e1.trans e2)
 refine bM (by simpa using k3) ?_
 by_cases k4:x.kind=4
 ·refine bX (by rw [k4]; rfl) ?_;have hit:ct x 0=(z1 x && z2 x && z3 x && z4 x):=by unfold ct; rw [if_neg k1,if_neg k2,if_neg k3,if_pos k4]; simp
  refine gg b1 v1.lin.vw ?_;intro h2 e2;exact fin _ _ (by rw [hit]; unfold oq; simp [Bool.and_assoc]) (e1.trans e2)
 refine bM (by simpa using k4) ?_
 by_cases k5:x.kind=5
 ·refine bX (by rw [k5]; rfl) ?_;exact fin _ _ (by unfold ct; rw [if_neg k1,if_neg k2,if_neg k3,if_neg k4,if_pos k5]; simp) e1
 refine bM (by simpa using k5) ?_
 by_cases k6:x.kind=6
 ·refine bX (by rw [k6]; rfl) ?_;exact fin _ _ (by unfold ct; rw [if_neg k1,if_neg k2,if_neg k3,if_neg k4,if_neg k5,if_pos k6]; simp) e1
 refine bM (by simpa using k6) ?_
 by_cases k7:x.kind=7
 ·refine bX (by rw [k7]; rfl) ?_;exact fin _ _ (by unfold ct; rw [if_neg k1,if_neg k2,if_neg k3,if_neg k4,if_neg k5,if_neg k6,if_pos k7]; simp) e1
 refine bM (by simpa using k7) ?_;exact fin _ _ (by unfold ct; rw [if_neg k1,if_neg k2,if_neg k3,if_neg k4,if_neg k5,if_neg k6,if_neg k7]) e1
theorem Kl {h:Hp} {x:cz} {p:Option Addr} {l c:Nat} (v:lA h p l x):HC Tryz.prog 34 #[pP p l c x,.int .i64 (1:Int)] h fun w h'=>w=CK (ct x 1)/\Ext h h':=by
 refine aZ (args:=[pP p l c x,.int .i64 (1:Int)]) mixed Tryz.func34 az (kM x.kind x.name x.inst.op x.inst.a x.inst.b x.inst.n x.inst.form p l c x.e.num x.n) ?_;unfold gU aU bT;have hml:maxLen=9223372036854775807:=rfl;refine bq ?_;intro h1 b1 e1 z1';have b1:bC h1 h.size 64 (encI p l c x):=b1;have v1:=v.ao e1;simp only [aE];refine iG (cs:=[(false,[.bool])]) (fun y h'=>y.1=ct x 1/\Ext h h') ?_ ?_
 rotate_left
 ·rintro ⟨b2,⟨⟩⟩ h' ⟨hy,e'⟩;simp only at hy;subst hy;refine an ?_;cases hr:ct x 1
  ·exact ⟨rfl,e'⟩
  ·exact ⟨rfl,e'⟩
 have fin:∀ (b:Bool) (h':Hp),b=ct x 1->Ext h h'->T.again 0 [.bool b] [fun vs h'=>∃ y:qa (flat [(false,[.bool])]),vs=parts [(false,[.bool])] (dU _ y)/\(y.1=ct x 1/\Ext h h')] (fun w h'=>w=CK (ct x 1)/\Ext h h') h':=by
  rintro b h' rfl e';exact dF (cs:=[(false,[.bool])]) (J:=fun y h'=>y.1=ct x 1/\Ext h h') (ct x 1,()) rfl rfl ⟨rfl,e'⟩
 refine af b1 (x.kind,()) rfl ?_;refine an ?_
 by_cases k1:x.kind=1
 ·refine bX (by rw [k1]; rfl) ?_;have hit:ct x 1=(cP x.name.data.toList && z2 x && z3 x && z4 x):=by unfold ct; rw [if_pos k1]
  refine af b1 (x.name,()) rfl ?_;refine an ?_;refine aJ (rI x.name h1 (by have:=v.name; omega)) ?_;refine ak (fun q=>?_) (fun q=>fin _ _ (by rw [hit,q]; rfl) e1);refine gg b1 v1.lin.vw ?_;intro h2 e2;exact fin _ _ (by rw [hit,q]; unfold oq; simp [Bool.and_assoc]) (e1.trans e2)
 refine bM (by simpa using k1) ?_
 by_cases k2:x.kind=2
 ·refine bX (by rw [k2]; rfl) ?_;have hit:ct x 1=(false):=by unfold ct; rw [if_neg k1,if_pos k2]; simp
  refine af b1 (x.inst.op,x.inst.a,x.inst.b,x.inst.n,x.inst.form,()) rfl ?_;refine an ?_;refine bq ?_;intro h2 b2 e2 z2';refine aw b2 rfl aj ?_;intro h3 b3 k3 z3';have b3:bC h3 h1.size 62 (nB x.inst):=b3;have e13:Ext h1 h3:=e2.st k3 (Nat.le_refl _);have b13:=b1.ao e13 aj;rw [aE];refine af b3 (x.inst.form,()) rfl ?_;refine an ?_;refine iG (cs:=[]) (fun _ h'=>bC h' h1.size 62 (nB { x.inst with form:=if qu x.inst.op then 1 else x.inst.form })/\Ext h1 h') ?_ ?_
  ·refine af b3 (x.inst.op,()) rfl ?_;refine an ?_;refine gw (vY h3 x.inst.op v.op) ?_;intro h4 e4;have b4:=b3.ao e4 aj;refine ak (fun q=>?_) (fun q=>?_)
   ·refine aw b4 rfl (by simp [nB]) ?_;intro h5 b5 k5 z5;exact dF (cs:=[]) () rfl rfl ⟨by rw [if_pos q]; exact b5,(e13.trans e4).st k5 (by have:=e13.size; omega)⟩
   ·exact dF (cs:=[]) () rfl rfl ⟨by rw [if_neg (by rw [q]; decide)]; exact b4,e13.trans e4⟩
  rintro _ h5 ⟨b5,e5⟩;refine an ?_;have b15:=b1.ao e5 aj;have v5:=v1.ao e5;refine iG (cs:=[(false,[.bool])]) (fun y h'=>y.1=false/\Ext h5 h') (dF (cs:=[(false,[.bool])]) (false,()) rfl rfl ⟨rfl,Ch.refl _ _⟩) ?_;rintro ⟨b10,⟨⟩⟩ h6 ⟨hy,e6⟩;simp only at hy;subst hy;refine an ?_;have b6:=b5.ao e6 aj;have b16:=b15.ao e6 aj;have v6:=v5.ao e6;refine af b6 (x.inst.op,()) rfl ?_;refine an ?_;refine gw (HF h6 x.inst.op v.op) ?_;intro h7 e7;have b7:=b6.ao e7 aj;have b17:=b16.ao e7 aj;have v7:=v6.ao e7;have e07:=((e1.trans e5).trans e6).trans e7;refine ak (fun hw=>?_) (fun hw=>?_)
  ·exact bM rfl (fin _ _ (by rw [hit]) e07)
  ·exact bM rfl (fin _ _ (by rw [hit]) e07)
 refine bM (by simpa using k2) ?_
 by_cases k3:x.kind=3
 ·refine bX (by rw [k3]; rfl) ?_;have hit:ct x 1=(tF x.n && z1 x && z2 x && z3 x):=by unfold ct; rw [if_neg k1,if_neg k2,if_pos k3]
  refine af b1 (x.n,()) rfl ?_;refine an ?_;refine aJ (Bm h1 x.n) ?_;refine ak (fun q=>?_) (fun q=>fin _ _ (by rw [hit,q]; rfl) e1);refine gg b1 v1.lin.vw ?_;intro h2 e2;exact fin _ _ (by rw [hit,q]; unfold oq; simp [Bool.and_assoc]) (e1.trans e2)
 refine bM (by simpa using k3) ?_
 by_cases k4:x.kind=4
 ·refine bX (by rw [k4]; rfl) ?_;exact fin _ _ (by unfold ct; rw [if_neg k1,if_neg k2,if_neg k3,if_pos k4]; simp) e1
 refine bM (by simpa using k4) ?_
 by_cases k5:x.kind=5
 ·refine bX (by rw [k5]; rfl) ?_;have hit:ct x 1=(decide (-128<=x.n) && decide (x.n<=255) && z1 x && z2 x && z3 x):=by unfold ct; rw [if_neg k1,if_neg k2,if_neg k3,if_neg k4,if_pos k5]; simp
  refine af b1 (x.n,()) rfl ?_;refine an ?_;refine ak (fun q=>?_) (fun q=>fin _ _ (by rw [hit,show decide (-128<=x.n)=false from q]; rfl) e1);refine af b1 (x.n,()) rfl ?_;refine an ?_;refine ak (fun r=>?_) (fun r=>fin _ _ (by rw [hit,r]; simp) e1);refine gg b1 v1.lin.vw ?_;intro h2 e2;exact fin _ _ (by rw [hit,r,show decide (-128<=x.n)=true from q]; unfold oq; simp [Bool.and_assoc]) (e1.trans e2)
 refine bM (by simpa using k5) ?_
 by_cases k6:x.kind=6
 ·refine bX (by rw [k6]; rfl) ?_;have hit:ct x 1=(mZ none x.e.ai && z1 x && z2 x && z4 x):=by unfold ct; rw [if_neg k1,if_neg k2,if_neg k3,if_neg k4,if_neg k5,if_pos k6]; simp
  refine af b1 ((p,l,c),(x.e.num:Int),()) rfl ?_;refine an ?_;refine aI (sN (c:=c) v1.lin.vw (by have:=v.lin.many; omega) v.lin.names) ?_;rintro _ h2 ⟨rfl,e2⟩;refine ⟨(mZ none x.e.ai,()),rfl,?_⟩;refine an ?_;refine ak (fun q=>?_) (fun q=>fin _ _ (by rw [hit,q]; rfl) (e1.trans e2));refine gg (b1.ao e2 aj) (v1.ao e2).lin.vw ?_;intro h3 e3;exact fin _ _ (by rw [hit,q]; unfold oq; simp [Bool.and_assoc]) ((e1.trans e2).trans e3)
 refine bM (by simpa using k6) ?_
 by_cases k7:x.kind=7
 ·refine bX (by rw [k7]; rfl) ?_;have hit:ct x 1=(decide (0<=x.n) && decide (x.n<=1048576) && z1 x && z2 x && z3 x):=by unfold ct; rw [if_neg k1,if_neg k2,if_neg k3,if_neg k4,if_neg k5,if_neg k6,if_pos k7]; simp
  refine af b1 (x.n,()) rfl ?_;refine an ?_;refine ak (fun q=>?_) (fun q=>fin _ _ (by rw [hit,show decide (0<=x.n)=false from q]; rfl) e1);refine af b1 (x.n,()) rfl ?_;refine an ?_;refine ak (fun r=>?_) (fun r=>fin _ _ (by rw [hit,r]; simp) e1);refine gg b1 v1.lin.vw ?_;intro h2 e2;exact fin _ _ (by rw [hit,r,show decide (0<=x.n)=true from q]; unfold oq; simp [Bool.and_assoc]) (e1.trans e2)
 refine bM (by simpa using k7) ?_;exact fin _ _ (by unfold ct; rw [if_neg k1,if_neg k2,if_neg k3,if_neg k4,if_neg k5,if_neg k6,if_neg k7]) e1
theorem AV {h:Hp} {x:cz} {p:Option Addr} {l c k:Nat} (v:lA h p l x) (hk:k<2):HC Tryz.prog 34 #[pP p l c x,.int .i64 (k:Int)] h fun w h'=>w=CK (ct x k)/\Ext h h':=by
 have:k=0\/k=1:=ad
 rcases this with rfl | rfl
 ·exact Lj v
 ·exact Kl v
def UF (s:ByteArray):List Value:=[.string s]
abbrev SN (h:Hp) (b:Nat) (p:Option Addr) (l c:Nat) (xs:List ByteArray):Prop:=SL h b 9 1 p l c (xs.map UF)
theorem SN.len {h:Hp} {b:Nat} {p:Option Addr} {l c:Nat} {xs:List ByteArray} (s:SN h b p l c xs):l=xs.length:=by
 have:=s.1
 rwa [List.length_map] at this
theorem SN.cell {h:Hp} {b:Nat} {p:Option Addr} {l c:Nat} {xs:List ByteArray} (s:SN h b p l c xs) {i:Nat} (hi:i<xs.length):∃ a,p=some a/\aG h (a.add (i*1)) 0 [.string xs[i]]:=by
 obtain ⟨a,ha,hc⟩:=SL.cells s (i:=i) (by rw [List.length_map]; exact hi);refine ⟨a,ha,?_⟩;rw [List.getElem_map] at hc;exact hc
theorem UD (D:List ByteArray) (s:ByteArray) (i:Nat) (hi:i<D.length):fC (D.take (i+1)) s=(fC (D.take i) s || decide (D[i]=s)):=by
 unfold fC;rw [List.take_succ_eq_append_getElem hi,List.any_append]
 simp
theorem C' {h:Hp} {b:Nat} {p:Option Addr} {l c:Nat} {xs:List ByteArray} (v:SN h b p l c xs) (hl:xs.length<=2^61) (s:ByteArray):vC Tryz.prog 38 [.slice p l c,.string s] h (.bool (fC xs s)):=by
 refine ee mixed Tryz.func38 az (iS p l c s) ?_;unfold gu aX bh bm aH bo dI aM bT;have n:=SN.len v;refine aR (cs:=[(false,[.bool]),(false,[.int .i64])]) (fun y m h'=>∃ i:Nat,y.2.1=(i:Int)/\m=xs.length-i/\i<=xs.length/\h'=h/\fC (xs.take i) s=false) (false,(0:Int),()) xs.length rfl
  ⟨0,rfl,rfl,ad,rfl,rfl⟩ ?_
 rintro ⟨b2,n3,⟨⟩⟩ m h' ⟨i,hi,rfl,hle,rfl,hn⟩;simp only at hi;subst hi;refine an ?_;refine ak (fun q=>?_) (fun q=>?_)
 ·have q:=of_decide_eq_true q;have hil:i<xs.length:=ad
  obtain ⟨a,ha,hc⟩:=SN.cell v hil;refine ay ⟨ad,ad⟩ (av ha ?_);rw [show Int.toNat (i:Int)=i from ad];refine ax (xs[i],()) hc ?_;refine an ?_;have hs:=UD xs s i hil;rw [ow];refine ak (fun r=>?_) (fun r=>?_)
  ·have r:=of_decide_eq_true r;refine ⟨congrArg Value.bool ?_,rfl⟩;unfold fC;exact (List.any_eq_true.2 ⟨_,List.getElem_mem hil,decide_eq_true r⟩).symm
  ·rw [hn,r] at hs;refine aF (cs:=[(false,[.bool]),(false,[.int .i64])]) (b2,((i+1:Nat):Int),()) (xs.length-(i+1)) rfl ad (by rw [wrap_i64 ad ad]; rfl) ?_;exact ⟨i+1,rfl,rfl,ad,rfl,hs⟩
 ·have q:=of_decide_eq_false q
  have:i=xs.length:=ad
  subst this;rw [List.take_length] at hn;exact ⟨by rw [hn],rfl⟩
def dY (l:List cz):List ByteArray:=(l.filter fun x=>decide (x.kind=1)).map (·.name)
theorem wv (l:List cz) (i:Nat) (hi:i<l.length):dY (l.take (i+1))=dY (l.take i)++if l[i].kind=1 then [l[i].name] else []:=by
 unfold dY;rw [List.take_succ_eq_append_getElem hi,List.filter_append,List.map_append]
 congr 1
 by_cases hk:l[i].kind=1 <;> simp [hk]
theorem SN.push {L:Lp} {K:Value->Hp->Prop} {h:Hp} {b:Nat} {p:Option Addr} {l c:Nat} {xs:List ByteArray} (v:SN h b p l c xs) (x:ByteArray) (hl:xs.length<=2^40) (hb:b<=h.size) {k:Option Addr->Nat->Nat->T}
  (hk:∀ p' c' h',SN h' b p' (l+1) c' (xs++[x])->Ch (aK p) h h'->k p' (l+1) c' L K h') :
  T.dW Tryz.prog (Instr.buildSlice 28 1 #[(0,.string x)]) false [(false,[.slice 0])] (fun q m cc=>T.dW Tryz.prog (Builtin.append_ #[28,28] 28 #[.slice p l c,.slice q m cc]) false [(false,[.slice 0])] k) L K h:=by
 have n:=SN.len v;refine ml (vs:=[.string x]) AL TL rfl ad ad az rfl rfl v hb ad ad ?_;intro p' c' h' s' ch _;refine hk p' c' h' ?_ ch;unfold SN;rw [List.map_append];exact s'
theorem SN.ext {h a b':Hp} {b:Nat} {p:Option Addr} {l c:Nat} {xs:List ByteArray} (e:Ext h a) (v:SN a b p l c xs) (hb:h.size<=b) (k:Ch (aK p) a b'):Ext h b' :=
 Ch.trans e k (fun i hi hl=>by have:=(Ob.SL.cd v i hi).1; omega)
theorem rO {h:Hp} {p:Option Addr} {l c:Nat} {us:List cz} (v:Am h p l us) (hm:us.length<=2^20) :
  HC Tryz.prog 39 #[.slice p l c] h fun w h'=>∃ p' l' c',w=.slice p' l' c'/\SN h' h.size p' l' c' (dY us)/\Ext h h':=by
 refine aZ (args:=[.slice p l c]) mixed Tryz.func39 az (mD p l c) ?_;unfold iR aX bh bm aH bk bi aM da;have n:=v.len;refine aR (cs:=[(false,[.slice 0]),(false,[.int .i64])]) (fun y m h'=>∃ i:Nat,y.2.1=(i:Int)/\m=us.length-i/\i<=us.length/\Ext h h'/\(dY (us.take i)).length<=i/\SN h' h.size y.1.1 y.1.2.1 y.1.2.2 (dY (us.take i))) ((none,0,0),(0:Int),()) us.length rfl
  ⟨0,rfl,rfl,ad,Ch.refl _ _,by simp [dY],SL.nil _ _ _ _⟩ ?_
 rintro ⟨⟨p1,l2,l3⟩,n4,⟨⟩⟩ m h1 ⟨i,hi,rfl,hle,e1,hll,s⟩;simp only at hi s;subst hi;refine an ?_;have hz:=e1.size;refine ak (fun q=>?_) (fun q=>?_)
 ·have q:=of_decide_eq_true q;have hil:i<us.length:=ad
  obtain ⟨aa,pp,ll,cc,rfl',hc,va⟩:=(v.ao e1).cells i hil;have ht:=wv us i hil;generalize us[i]=x at hc va ht;refine ay ⟨ad,ad⟩ (av rfl' ?_);rw [show Int.toNat (i:Int)=i from ad];refine ax (x.kind,()) ⟨hc.1,trivial⟩ ?_;refine an ?_;refine ak (fun r=>?_) (fun r=>?_)
  ·have r:x.kind=1:=by simpa using r
   rw [if_pos r] at ht;refine ay ⟨ad,ad⟩ (av rfl' ?_);refine ax (x.name,()) ⟨by rw [add_add]; exact hc.2.1,trivial⟩ ?_;refine an ?_;refine SN.push s x.name ad ad ?_;intro p' c' h2 s2 k2;refine aF (cs:=[(false,[.slice 0]),(false,[.int .i64])]) ((p',l2+1,c'),((i+1:Nat):Int),()) (us.length-(i+1)) rfl ad (by rw [wrap_i64 ad ad]; rfl) ?_;exact ⟨i+1,rfl,rfl,ad,SN.ext e1 s (Nat.le_refl _) k2,by rw [ht,List.length_append]; simp; omega,by rw [ht]; exact s2⟩
  ·have r:¬ x.kind=1:=by simpa using r
   rw [if_neg r,List.append_nil] at ht;refine aF (cs:=[(false,[.slice 0]),(false,[.int .i64])]) ((p1,l2,l3),((i+1:Nat):Int),()) (us.length-(i+1)) rfl ad (by rw [wrap_i64 ad ad]; rfl) ?_;exact ⟨i+1,rfl,rfl,ad,e1,by rw [ht]; omega,by rw [ht]; exact s⟩
 ·have q:=of_decide_eq_false q
  have:i=us.length:=ad
  subst this;rw [List.take_length] at s;exact ⟨p1,l2,l3,rfl,s,e1⟩
theorem Ou {L:Lp} {K:Value->Hp->Prop} {h:Hp} {k:Option Addr->Nat->Nat->T} {b b':Nat} {p:Option Addr} {l c:Nat} {xs:List ByteArray} (s:SN h b p l c xs) {q:Option Addr} {m d:Nat} {us:List ByteArray} (v:SN h b' q m d us)
  (hl:l+m<=2^40) (hb:b<=h.size)
  (hk:∀ p' c' h',SN h' b p' (l+m) c' (xs++us)->Ch (aK p) h h'->k p' (l+m) c' L K h') :
  T.dW Tryz.prog (Builtin.append_ #[28,28] 28 #[.slice p l c,.slice q m d]) false [(false,[.slice 0])] k L K h:=by
 obtain ⟨i,hi,hz,hsz,hby⟩:=kH TL;refine cR ?_;cases q with
 | none =>
  have h1:us=[]:=by
   have:=v.2.2.2
   simpa using this
  have h0:m=0:=by have:=SN.len v; rw [h1] at this; exact this
  have hd:d=0:=v.2.2.1;subst h0 h1 hd;have hc0:l<=c:=by
   cases p with
   | none =>
    have h2:=s.2.2.2;have h3:=s.1;rw [h2] at h3;simp at h3;omega
   | some a =>
    obtain ⟨g,pre,rest,rfl,hbg,hlc,_⟩:=s.2.2;exact hlc.1
  simp [Builtin.append_,ar,aC AL,bJ hi,cr hi,Builtin.lenOf,Builtin.firstCells,hc0];have hfin:∃ p' l' c',Value.slice p l c=.slice p' l' c'/\k p' l' c' L K h:=⟨p,l,c,rfl,by simpa using hk p c h (by simpa using s) (Ch.refl _ _)⟩
  cases p with
  | none=>exact hfin
  | some a=>exact hfin
 | some a =>
  have hc:aG h a 0 (us.map UF).flatten:=by
   obtain ⟨g,pre,rest,rfl,hbg,hlc,hbox,hr⟩:=v.2.2;refine hbox.cells _ ?_;rw [List.drop_left,List.take_left]
  have hpl:(us.map UF).flatten.all cS=true:=by
   rw [List.all_eq_true];intro x hx;obtain ⟨y,hy,hxy⟩:=List.mem_flatten.1 hx;obtain ⟨z,_,rfl⟩:=List.mem_map.1 hy;rw [List.mem_singleton.1 hxy] <;> rfl
  refine nr AL hi hz (by rw [hsz]; rfl) (by rw [hsz]; exact s) (ys:=us.map UF) (by rw [List.length_map]; exact SN.len v) (fun y hy=>?_) hc hpl (by rw [hby]; omega) ad hb ?_
  ·obtain ⟨t,_,rfl⟩:=List.mem_map.1 hy;rw [hsz] <;> rfl
  ·intro p' c' h' s' k' hp';rw [hsz,<- List.map_append] at s';exact ⟨_,_,_,rfl,hk p' c' h' s' k'⟩
def fl (u:bP):List ByteArray:=dY u.text++dY u.data++u.bf.map (·.1)
theorem uK (l:List cz):(dY l).length<=l.length:=by
 unfold dY;rw [List.length_map];exact List.length_filter_le _ _
theorem Nx {h:Hp} {a b c d:bY} {u:bP} (v:rm h a b c d u) (h1:u.text.length<=2^20) (h2:u.data.length<=2^20) (h3:u.bf.length<=2^20) :
  HC Tryz.prog 11 #[AD a b c d] h fun w h'=>∃ p' l' c',w=.slice p' l' c'/\SN h' h.size p' l' c' (fl u)/\Ext h h':=by
 refine aZ (args:=[AD a b c d]) mixed Tryz.func11 az (pT a.p a.l a.c b.p b.l b.c c.p c.l c.c d.p d.l d.c) ?_;unfold ld aX bh bm aH bF bk aM da;refine bq ?_;intro g1 b1 e1 z1;have b1:bC g1 h.size 30 [a.v,b.v,c.v,d.v]:=b1;simp only [aE];refine af b1 ((a.p,a.l,a.c),()) rfl ?_;refine an ?_;refine af b1 ((b.p,b.l,b.c),()) rfl ?_;refine an ?_;refine aI (rO (c:=a.c) (v.text.ao e1) h1) ?_;rintro _ g2 ⟨p8,l9,l10,rfl,s8,e2⟩;refine ⟨((p8,l9,l10),()),rfl,?_⟩;refine an ?_;have b2:=b1.ao e2 aj;refine ⟨⟨b2.cells _ rfl,trivial⟩,?_⟩;refine aI (rO (c:=b.c) (v.data.ao (e1.trans e2)) h2) ?_;rintro _ g3 ⟨p11,l12,l13,rfl,s11,e3⟩;refine ⟨((p11,l12,l13),()),rfl,?_⟩;refine an ?_;have b3:=b2.ao e3 aj;have q1:=e1.size;have q2:=e2.size;have q3:=e3.size;refine ⟨⟨b3.cells _ rfl,trivial⟩,?_⟩;have s8':SN g3 g1.size p8 l9 l10 (dY u.text):=s8.ao e3 aj;have n8:=SN.len s8;have n11:=SN.len s11;have k8:=uK u.text;have k11:=uK u.data;have e03:=(e1.trans e2).trans e3;refine Ou s8' s11 ad ad ?_;intro p14 c14 g4 s14 k4;have e4:=SN.ext e03 s8' ad k4;have nb:h.size∉aK p8:=fun hi=>by have:=(Ob.SL.cd s8' _ hi).1; omega
 have b4:=b3.ao k4 nb;refine ⟨⟨b4.cells _ rfl,b4.cells _ rfl,trivial⟩,?_⟩;have nc:=v.bf.len;have hu:∀ i,i<u.bf.length->dY u.text++dY u.data++(u.bf.take (i+1)).map (·.1)=(dY u.text++dY u.data++(u.bf.take i).map (·.1))++[(u.bf.getD i (du,DU)).1]:=by
  intro i hi;rw [List.take_succ_eq_append_getElem hi,List.map_append,<- List.append_assoc,List.getD_eq_getElem?_getD,List.getElem?_eq_getElem hi] <;> rfl
 refine aR (cs:=[(false,[.slice 0]),(false,[.int .i64])]) (fun y m h'=>∃ i:Nat,y.2.1=(i:Int)/\m=u.bf.length-i/\i<=u.bf.length/\(Ext h h'/\g1.size<=h'.size)/\bC h' h.size 30 [a.v,b.v,c.v,d.v]/\SN h' g1.size y.1.1 y.1.2.1 y.1.2.2 (dY u.text++dY u.data++(u.bf.take i).map (·.1))) ((p14,l9+l12,c14),(0:Int),()) u.bf.length rfl
  ⟨0,rfl,rfl,ad,⟨e4,by have:=k4.size; omega⟩,b4,by simpa using s14⟩ ?_
 rintro ⟨⟨p1,l2,l3⟩,n4,⟨⟩⟩ m g5 ⟨i,hi,rfl,hle,⟨e5,z5⟩,b5,s⟩;simp only at hi s;subst hi;refine an ?_;have hz:=e5.size;refine af b5 ((c.p,c.l,c.c),()) rfl ?_;refine an ?_;refine ak (fun q=>?_) (fun q=>?_)
 ·have q:=of_decide_eq_true q;have hil:i<u.bf.length:=ad
  refine af b5 ((c.p,c.l,c.c),()) rfl ?_;refine an ?_;obtain ⟨aa,pp,ll,cc,rfl',hc,va,vn⟩:=(v.bf.ao e5).cells i hil;refine ay ⟨ad,ad⟩ (av rfl' ?_);rw [show Int.toNat (i:Int)=i from ad];refine ax (u.bf[i].1,()) ⟨hc.1,trivial⟩ ?_;refine an ?_;have ns:=SN.len s;have hg:(u.bf.getD i (du,DU)).1=u.bf[i].1:=by
   rw [List.getD_eq_getElem?_getD,List.getElem?_eq_getElem hil] <;> rfl
  refine SN.push s _ (by simp only [List.length_append,List.length_map,List.length_take]; omega) z5 ?_;intro p' c' h2 s2 k2;have nb2:h.size∉aK p1:=fun hi=>by have:=(Ob.SL.cd s _ hi).1; omega
  refine aF (cs:=[(false,[.slice 0]),(false,[.int .i64])]) ((p',l2+1,c'),((i+1:Nat):Int),()) (u.bf.length-(i+1)) rfl ad (by rw [wrap_i64 ad ad]; rfl) ?_;exact ⟨i+1,rfl,rfl,ad,⟨SN.ext e5 s ad k2,by have:=k2.size; omega⟩,b5.ao k2 nb2,by rw [hu i hil,hg]; exact s2⟩
 ·have q:=of_decide_eq_false q
  have:i=u.bf.length:=ad
  subst this;rw [List.take_length] at s;exact ⟨p1,l2,l3,rfl,Sx.SL.mono s ad,e5⟩
theorem SL.flat {h:Hp} {b:Nat} {e:TypeId} {sz:Nat} {a:Addr} {l c:Nat} {xs:List (List Value)} (s:SL h b e sz (some a) l c xs):aG h a 0 xs.flatten:=by
 obtain ⟨g,pre,rest,rfl,hbg,hlc,hbox,hr⟩:=s.2.2;refine hbox.cells _ ?_;rw [List.drop_left,List.take_left]
def fY (h:Hp):Prop:=∃ e f,h[1]?=some (.cells (Lib.pow10Tab.map fun z=>Value.int .u64 z).toArray e f)
theorem fY.ao {ws:List Nat} {h h':Hp} (p:fY h) (k:Ch ws h h') (hw:1∉ws):fY h':=by
 obtain ⟨e,f,hp⟩:=p;exact ⟨e,f,k.get hp hw⟩
theorem FZ {W:World} {name:String} (hg:Tryz.prog.globalNamed name=some 1) (p:fY W.heap):Lib.TabIs Tryz.prog W name .u64 Lib.pow10Tab:=by
 obtain ⟨e,f,hp⟩:=p;unfold Lib.TabIs World.var?;rw [hg];show (match W.heap[1]? with | some (.cells cs _ _)=>some cs | _=>none)=_;rw [hp]
theorem Ma:Tryz.prog.underlying 182=some (.slice 5):=az
theorem Us:Tryz.prog.underlying 5=some (.int .u8):=az
theorem TK:Tryz.prog.underlying 9=some .string:=az
theorem KJ {L:Lp} {K:Value->Hp->Prop} {h:Hp} {b:Nat} {p:Option Addr} {l c:Nat} {bs:List UInt8} {k:ByteArray->T} (s:SL h b 5 1 p l c (Lw bs)) (h0:bs≠[]) (hk:k ⟨bs.toArray⟩ L K h) :
  T.dW Tryz.prog (convert 182 9 (.slice p l c)) false [(false,[.string])] k L K h:=by
 show aP Tryz.prog (convert 182 9 (.slice p l c)) h _;unfold convert;rw [ar,aC Ma,ar,aC TK];show aP Tryz.prog (do match <- underlying 5 with
  | .int .u8=>Conv.bytesToString (.slice p l c)
  | .int .i32=>Conv.runesToString (.slice p l c)
  | _ => stuck "Convert: a slice of what to string?") h _
 rw [ar,aC Us];cases p with
 | none =>
  have h1:Lw bs=[]:=s.2.2.2
  have:bs=[]:=by simpa [Lw] using h1
  exact absurd this h0
 | some a =>
  have hl:l=bs.length:=by rw [s.1,GK]
  subst hl;have hf:=SL.flat s;rw [KN] at hf;exact I0 a bs c _ hf ⟨(⟨bs.toArray⟩,()),rfl,hk⟩
theorem RJ (n:Nat):IntKind.wrap .u8 (IntKind.wrap .i64 ((48:Int)+(Int.tmod (n:Int) (10:Int))))=((UInt8.ofNat (48+n % 10)).toNat:Int):=by
 have e:Int.tmod (n:Int) 10=((n % 10:Nat):Int):=by
  rw [Int.tmod_eq_emod_of_nonneg ad] <;> rfl
 rw [e,wrap_i64 ad ad,wrap_u8 ad ad]
 simp
 omega
end Go.Sx.Ob
namespace Go.Sx.BB
open Go.Sx Go.Sx.Ob
open Go.Proofs
def Q5 (b:UInt8):List Value:=[.int .u8 (b.toNat:Int)]
end Go.Sx.BB
namespace Go.Sx.Ob
open Go.Proofs
theorem uF {h:Hp} {b b':Nat} {e e':TypeId} {sz sz':Nat} {p q:Option Addr} {l c l' c':Nat} {xs ys:List (List Value)} (s:SL h b e sz p l c xs) (t:SL h b' e' sz' q l' c' ys) (he:e≠e'):∀ i,i∈aK p->i∉aK q:=fun i h1 h2=>by
 obtain ⟨x1,b1⟩:=SL.Aq s i h1;obtain ⟨x2,b2⟩:=SL.Aq t i h2;unfold bC at b1 b2;rw [b1] at b2;simp only [Option.some.injEq,Obj.cells.injEq] at b2;exact he b2.2.1
theorem SN.put {L:Lp} {K:Value->Hp->Prop} {h:Hp} {b:Nat} {p:Option Addr} {l c:Nat} {xs:List ByteArray} (v:SN h b p l c xs) {i:Nat} (hi:i<xs.length) (x:ByteArray) {a:Addr} (ha:p=some a) {k:T}
  (hk:∀ h',SN h' b p l c (xs.set i x)->Ch (aK p) h h'->h'.size=h.size->k L K h'):T.aD (a.add (i*1)) [.string x] k L K h:=by
 refine SL.store (P:=Tryz.prog) v (i:=i) (vs:=UF x) (by rw [List.length_map]; exact hi) rfl rfl ha ?_;intro h' s' ch z;refine hk h' ?_ ch z;unfold SN;rw [List.map_set];exact s'
theorem DN (zs:List ByteArray) (j:Nat) (hj:0<j) (hl:j<zs.length):(zs.set j (zs[j-1]'ad)).eraseIdx (j-1)=zs.eraseIdx j:=by
 apply List.ext_getElem?;intro k;rw [List.getElem?_eraseIdx,List.getElem?_eraseIdx]
 by_cases h1:k<j-1
 ·rw [if_pos h1,if_pos ad,List.getElem?_set_ne ad]
 ·rw [if_neg h1]
  by_cases h2:k<j
  ·have:k=j-1:=ad
   subst this;rw [if_pos h2,show j-1+1=j from ad,List.getElem?_set_self hl,List.getElem?_eq_getElem ad]
  ·rw [if_neg h2,List.getElem?_set_ne ad]
theorem PC (zs:List ByteArray) (j:Nat) (hl:j<zs.length) (x s:ByteArray):fC (zs.set j x) s=(fC (zs.eraseIdx j) s || decide (x=s)):=by
 unfold fC;rw [List.set_eq_take_append_cons_drop,if_pos hl,List.eraseIdx_eq_take_drop_succ];simp only [List.any_append,List.any_cons]
 all_goals (cases List.any (zs.take j) (fun t=>decide (t=s)) <;> cases List.any (zs.drop (j+1)) (fun t=>decide (t=s)) <;> cases decide (x=s) <;> rfl)
theorem pj {D:List ByteArray} {s:ByteArray}:fC D s=true↔s∈D:=by
 unfold fC;rw [List.any_eq_true];constructor
 ·rintro ⟨t,ht,e⟩;rw [<- of_decide_eq_true e];exact ht
 ·intro hs;exact ⟨s,hs,decide_eq_true rfl⟩
theorem yQ (l:List ByteArray) (x:ByteArray):(l++[x]).Nodup↔l.Nodup/\x∉l:=by
 rw [List.nodup_append];constructor
 ·rintro ⟨a,_,c⟩;exact ⟨a,fun hx=>c x hx x aj rfl⟩
 ·rintro ⟨a,b⟩;refine ⟨a,aj,fun y hy z hz e=>?_⟩;rw [List.mem_singleton.1 hz] at e;exact b (e▸hy)
theorem rQ {h : Hp} {b : Nat} {p : Option Addr} {l c : Nat} {xs : List ByteArray} (v : SN h b p l c xs) (hm : xs.length <= 2 ^ 30) :
    HC Tryz.prog 37 #[.slice p l c] h fun w h' => ∃ p' c' ys, w = .slice p' (ys : List ByteArray).length c' /\ ys.length <= xs.length /\ (ys.length = xs.length ↔ xs.Nodup) /\ Ext h h' := by
  refine aZ (args := [.slice p l c]) mixed Tryz.func37 az (mJ p l c) ?_;unfold iN aX bh bm aH aU bk bj bi aM da;have n := SN.len v
  refine aR (cs := [(false, [.slice 0]), (false, [.int .i64])]) (fun y m h' => ∃ (i : Nat) (ys : List ByteArray), y.2.1 = (i : Int) /\ m = xs.length - i /\ i <= xs.length /\ Ext h h' /\ SN h' h.size y.1.1 y.1.2.1 y.1.2.2 ys /\ ys.length <= i /\ (∀ s, fC ys s = fC (xs.take i) s) /\ (ys.length = i ↔ (xs.take i).Nodup)) ((none, 0, 0), (0 : Int), ()) xs.length rfl
    ⟨0, [], rfl, rfl, ad, Ch.refl _ _, SL.nil _ _ _ _, aj, fun s => rfl, aj⟩ ?_
  rintro ⟨⟨p1, l2, l3⟩, n4, ⟨⟩⟩ m h1 ⟨i, ys, hi, rfl, hle, e1, s, hyl, hin, hnd⟩;simp only at hi s;subst hi;refine an ?_;have hz := e1.size;have ny := SN.len s;refine ak (fun q => ?_) (fun q => ?_)
  · have q := of_decide_eq_true q
    have hil : i < xs.length :=ad
    have hx : ∀ {g}, Ext h g -> ∃ a, p = some a /\ aG g (a.add (i * 1)) 0 [.string xs[i]] := by
      intro g e;obtain ⟨a, ha, hc⟩ := SN.cell v hil;exact ⟨a, ha, aQ e aj _ _ hc⟩
    have htk : xs.take (i + 1) = xs.take i ++ [xs[i]] := List.take_succ_eq_append_getElem hil;generalize hxv : xs[i] = x at hx htk;obtain ⟨a, ha, hc⟩ := hx e1;refine ay ⟨ad, ad⟩ (av ha ?_);rw [show Int.toNat (i : Int) = i from ad];refine ax (x, ()) hc ?_;refine an ?_;refine aJ (C' s ad x) ?_;rw [hin];have hinx : fC (xs.take i) x = true ↔ x ∈ xs.take i := pj;refine ak (fun r => ?_) (fun r => ?_)
    · have r2 := hinx.1 r
      refine aF (cs := [(false, [.slice 0]), (false, [.int .i64])]) ((p1, l2, l3), ((i + 1 : Nat) : Int), ()) (xs.length - (i + 1)) rfl ad (by rw [wrap_i64 ad ad]; rfl) ?_;refine ⟨i + 1, ys, rfl, rfl, ad, e1, s, ad, fun t => ?_, ?_⟩
      · rw [hin, htk]
        by_cases e : x = t
        · subst e
          rw [r];exact (pj.2 (List.mem_append.2 (.inl r2))).symm
        · unfold fC
          rw [List.any_append];simp [e]
      · rw [htk, yQ]
        exact ⟨fun k => ad, fun k => absurd r2 k.2⟩
    · have r2 : x ∉ xs.take i := fun k => by rw [hinx.2 k] at r; cases r
      refine ay ⟨ad, ad⟩ (av ha ?_);refine ax (x, ()) hc ?_;refine an ?_;refine SN.push s x ad hz ?_;intro p' c' h2 s2 k2;have e2 := SN.ext e1 s (Nat.le_refl _) k2
      refine aR (cs := [(false, [.int .i64])]) (fun y m h' => ∃ (j : Nat) (zs : List ByteArray), y.1 = (j : Int) /\ m = j /\ j <= ys.length /\ zs.length = ys.length + 1 /\ zs.eraseIdx j = ys /\ Ext h h' /\ SN h' h.size p' (l2 + 1) c' zs) ((l2 : Int), ()) ys.length rfl
        ⟨ys.length, ys ++ [x], by rw [ny], rfl, ad, aj, by rw [List.eraseIdx_append_of_length_le ad]; simp, e2, s2⟩ ?_
      rintro ⟨n16, ⟨⟩⟩ m h3 ⟨j, zs, hj, rfl, hjl, hzl, hze, e3, s3⟩;simp only at hj;subst hj;refine an ?_
      have hpl : ∃ a2, p' = some a2 := by
        obtain ⟨a2, h2, _⟩ := SN.cell s3 (i := 0) ad;exact ⟨a2, h2⟩
      obtain ⟨a2, ha2⟩ := hpl
      have last : (T.need (((0 : Int) <= (i : Int)) /\ ((i : Int) < (l : Int))) <|
         T.bd p fun (a21 : Addr) =>
         T.ah (a21.add ((Int.toNat (i : Int)) * 1)) [.string] <| fun (s22 : ByteArray) =>
         T.need (((0 : Int) <= (m : Int)) /\ ((m : Int) < ((l2 + 1 : Nat) : Int))) <|
         T.bd p' fun (a23 : Addr) =>
         T.aD (a23.add ((Int.toNat (m : Int)) * 1)) [.string s22] <|
         T.again 0 [.slice p' (l2 + 1) c', .int .i64 (IntKind.wrap .i64 ((i : Int) + (1 : Int)))])
         ([] ++ [Jl (cs := [(false, [.slice 0]), (false, [.int .i64])]) (fun y m h' => ∃ (i : Nat) (ys : List ByteArray), y.2.1 = (i : Int) /\ m = xs.length - i /\ i <= xs.length /\ Ext h h' /\ SN h' h.size y.1.1 y.1.2.1 y.1.2.2 ys /\ ys.length <= i /\ (∀ s, fC ys s = fC (xs.take i) s) /\ (ys.length = i ↔ (xs.take i).Nodup)) (xs.length - i)] ++
          [Jl (cs := [(false, [.int .i64])]) (fun y m h' => ∃ (j : Nat) (zs : List ByteArray), y.1 = (j : Int) /\ m = j /\ j <= ys.length /\ zs.length = ys.length + 1 /\ zs.eraseIdx j = ys /\ Ext h h' /\ SN h' h.size p' (l2 + 1) c' zs) m])
         (fun w h' => ∃ p' c' ys, w = .slice p' (ys : List ByteArray).length c' /\ ys.length <= xs.length /\ (ys.length = xs.length ↔ xs.Nodup) /\ Ext h h') h3 := by
        obtain ⟨a, ha, hc⟩ := hx e3;refine ay ⟨ad, ad⟩ (av ha ?_);rw [show Int.toNat (i : Int) = i from ad];refine ax (x, ()) hc ?_;refine an ?_;refine ay ⟨ad, ad⟩ (av ha2 ?_);rw [show Int.toNat (m : Int) = m from ad];refine SN.put s3 ad x ha2 ?_;intro h4 s4 k4 z4;refine aF (cs := [(false, [.slice 0]), (false, [.int .i64])]) ((p', l2 + 1, c'), ((i + 1 : Nat) : Int), ()) (xs.length - (i + 1)) rfl ad (by rw [wrap_i64 ad ad]; rfl) ?_;refine ⟨i + 1, zs.set m x, rfl, rfl, ad, SN.ext e3 s3 (Nat.le_refl _) k4, s4, by rw [List.length_set]; omega, fun t => ?_, ?_⟩
        · rw [PC zs m ad, hze, hin, htk]
          unfold fC;rw [List.any_append]
          simp
        · rw [List.length_set, htk, yQ, <- hnd, hzl]
          exact ⟨fun k => ⟨ad, r2⟩, fun k => ad⟩
      refine ak (fun q2 => ?_) (fun q2 => last);have q2 := of_decide_eq_true q2;rw [wrap_i64 ad ad];obtain ⟨a3, ha3, hc3⟩ := SN.cell s3 (i := m - 1) ad;refine ay ⟨ad, ad⟩ (av ha3 ?_);rw [show Int.toNat ((m : Int) - 1) = m - 1 from ad];refine ax (zs[m - 1]'ad, ()) hc3 ?_;refine an ?_;obtain ⟨a, ha, hc⟩ := hx e3;refine ay ⟨ad, ad⟩ (av ha ?_);refine ax (x, ()) hc ?_;refine an ?_;refine ak (fun q3 => ?_) (fun q3 => ?_)
      · refine ay ⟨ad, ad⟩ (av ha3 ?_)
        refine ax (zs[m - 1]'ad, ()) hc3 ?_;refine an ?_;refine ay ⟨ad, ad⟩ (av ha2 ?_);rw [show Int.toNat (m : Int) = m from ad];refine SN.put s3 ad _ ha2 ?_;intro h4 s4 k4 z4;refine aF (cs := [(false, [.int .i64])]) (((m - 1 : Nat) : Int), ()) (m - 1) rfl ad (by rw [show (m : Int) - 1 = ((m - 1 : Nat) : Int) from ad]; rfl) ?_;exact ⟨m - 1, _, rfl, rfl, ad, by rw [List.length_set]; exact hzl, by rw [DN zs m ad ad]; exact hze, SN.ext e3 s3 (Nat.le_refl _) k4, s4⟩
      · have := last
        rw [show Int.toNat (i : Int) = i from ad] at this;exact this
  · have q := of_decide_eq_false q
    have : i = xs.length :=ad
    subst this;rw [List.take_length] at hnd;exact ⟨p1, l3, ys, by rw [ny], hyl, hnd, e1⟩
def Fc (e:qi):Bool:=cP e.1.data.toList && mZ none e.2.ai
def vK (u:bP):Bool:=u.text.all (fun x=>ct x 0) && (u.data.all (fun x=>ct x 1) && (u.bf.all Fc && (decide (fl u).Nodup && cO (fl u) du u.aS)))
theorem ry (x:cz) (l:List cz):dY (x::l)=(if x.kind=1 then [x.name] else [])++dY l:=by
 unfold dY
 by_cases h:x.kind=1 <;> simp [h]
theorem Ey (D:List ByteArray) (x:cz) (s:ByteArray):s∈tH D x↔s∈D\/s∈(if x.kind=1 then [x.name] else []):=by
 unfold tH;split <;> simp [or_comm]
theorem q8 (sec:Nat):∀ (l:List cz) (D:List ByteArray),eD sec D l=true↔(∀ x,x∈l->ct x sec=true)/\(∀ s,s∈dY l->s∉D)/\(dY l).Nodup
 | [],D=>by simp [eD,dY]
 | x::l,D=>by
  rw [eD,Bool.and_eq_true,q8 sec l,ry];unfold xx;rw [Bool.and_eq_true,List.nodup_append]
  by_cases h:x.kind=1
  ·simp only [h,decide_true,Bool.true_and,if_true,Bool.not_eq_true',List.mem_cons,List.mem_append,List.mem_singleton,List.not_mem_nil,or_false];have hin:fC D x.name=false↔x.name∉D:=by
    rw [<- Bool.not_eq_true,pj]
   rw [hin];have ha:∀ s,s∈tH D x↔s=x.name\/s∈D:=fun s=>by
    rw [Ey,if_pos h];simp [or_comm]
   simp only [ha];constructor
   ·rintro ⟨⟨a,b⟩,c,d,e⟩;refine ⟨?_,?_,?_,e,?_⟩
    ·rintro y (rfl | hy)
     ·exact a
     ·exact c y hy
    ·rintro s (rfl | hs)
     ·exact b
     ·exact fun k=>d s hs (.inr k)
    ·simp
    ·intro y hy z hz hyz;exact d z hz (.inl (hyz▸hy))
   ·rintro ⟨a,b,c,d,e⟩;refine ⟨⟨a x (.inl rfl),b _ (.inl rfl)⟩,fun y hy=>a y (.inr hy),fun s hs k=>?_,d⟩;rcases k with rfl | k
    ·exact e _ rfl _ hs rfl
    ·exact b s (.inr hs) k
  ·have ha:tH D x=D:=by unfold tH; rw [if_neg h]
   simp only [h,decide_false,Bool.false_and,if_false,Bool.not_false,and_true,List.mem_cons,List.nil_append,ha];constructor
   ·rintro ⟨a,c,d,e⟩;refine ⟨?_,d,aj,e,aj⟩;rintro y (rfl | hy)
    ·exact a
    ·exact c y hy
   ·rintro ⟨a,b,_,d,_⟩;exact ⟨a x (.inl rfl),fun y hy=>a y (.inr hy),b,d⟩
theorem zb:∀ (l:List qi) (D:List ByteArray),fV D l=true↔(∀ x,x∈l->Fc x=true)/\(∀ s,s∈l.map (·.1)->s∉D)/\(l.map (·.1)).Nodup
 | [],D=>by simp [fV]
 | x::l,D=>by
  rw [fV,Bool.and_eq_true,zb l,List.map_cons,List.nodup_cons];have hok:Bh D x=true↔x.1∉D/\Fc x=true:=by
   unfold Bh Fc;rw [Bool.and_eq_true,Bool.and_eq_true,Bool.and_eq_true,Bool.not_eq_true',<- Bool.not_eq_true,pj,and_assoc]
  rw [hok];simp only [List.mem_cons];constructor
  ·rintro ⟨⟨a,b⟩,c,d,e⟩;refine ⟨?_,?_,?_,e⟩
   ·rintro y (rfl | hy)
    ·exact b
    ·exact c y hy
   ·rintro s (rfl | hs)
    ·exact a
    ·exact fun k=>d s hs (.inr k)
   ·exact fun hs=>d _ hs (.inl rfl)
  ·rintro ⟨a,b,c,d⟩;refine ⟨⟨b _ (.inl rfl),a x (.inl rfl)⟩,fun y hy=>a y (.inr hy),fun s hs k=>?_,d⟩;rcases k with rfl | k
   ·exact c hs
   ·exact b s (.inr hs) k
theorem lK:∀ (l:List cz) (D:List ByteArray) (s:ByteArray),s∈cI D l↔s∈D\/s∈dY l
 | [],D,s=>by simp [cI,dY]
 | x::l,D,s=>by
  show s∈cI (tH D x) l↔_;rw [lK l,Ey,ry,List.mem_append,or_assoc]
theorem Ad:∀ (l:List qi) (D:List ByteArray) (s:ByteArray),s∈aT D l↔s∈D\/s∈l.map (·.1)
 | [],D,s=>by simp [aT]
 | x::l,D,s=>by
  show s∈aT (x.1::D) l↔_;rw [Ad l,List.map_cons,List.mem_cons,List.mem_cons,<- or_assoc,or_comm (a:=s=x.1)]
theorem IZ {D E:List ByteArray} (h:∀ s,s∈D↔s∈E) (s:ByteArray):fC D s=fC E s:=by
 have:fC D s=true↔fC E s=true:=by rw [pj,pj]; exact h s
 exact Bool.eq_iff_iff.2 this
theorem sD {D E:List ByteArray} (h:∀ s,s∈D↔s∈E):∀ (l:List ByteArray) (o:ByteArray),cO D o l=cO E o l
 | [],o=>rfl
 | x::l,o=>by
  rw [cO,cO,sD h l,P9,P9,IZ h]
theorem wK (u:bP):uH u=vK u:=by
 have hg:cO u.names du u.aS=cO (fl u) du u.aS:=by
  refine sD (fun s=>?_) _ _;unfold bP.names fl;rw [Ad,lK,lK];simp [or_assoc]
 rw [Bool.eq_iff_iff];unfold uH vK;rw [Bool.and_eq_true,Bool.and_eq_true,Bool.and_eq_true,Bool.and_eq_true,Bool.and_eq_true,Bool.and_eq_true,Bool.and_eq_true,q8,q8,zb,hg,List.all_eq_true,List.all_eq_true,List.all_eq_true,decide_eq_true_iff];unfold fl;rw [List.nodup_append,List.nodup_append];have e1:∀ s,s∈cI [] u.text↔s∈dY u.text:=fun s=>by rw [lK]; simp
 have e2:∀ s,s∈cI (cI [] u.text) u.data↔s∈dY u.text\/s∈dY u.data:=fun s=>by rw [lK,e1]
 simp only [e1,e2,List.mem_append];constructor
 ·rintro ⟨⟨⟨⟨a1,a2,a3⟩,b1,b2,b3⟩,c1,c2,c3⟩,g⟩;refine ⟨a1,b1,c1,⟨⟨a3,b3,fun x hx y hy e=>b2 y hy (e▸hx)⟩,c3,fun x hx y hy e=>c2 y hy (e▸hx)⟩,g⟩
 ·rintro ⟨a1,b1,c1,⟨⟨a3,b3,d⟩,c3,f⟩,g⟩;exact ⟨⟨⟨⟨a1,fun s _=>aj,a3⟩,b1,fun s hs k=>d s k s hs rfl,b3⟩,c1,fun s hs k=>f s k s hs rfl,c3⟩,g⟩
theorem qz {α:Type} (f:α->Bool) (l:List α) {i:Nat} (hi:i<l.length):(l.drop i).all f=(f l[i] && (l.drop (i+1)).all f):=by
 rw [List.drop_eq_getElem_cons hi,List.all_cons]
theorem VE {h:Hp} {p:Option Addr} {l:Nat} {x:bZ} (v:oc h p l x):gp h p l x.ai/\x.ai.length<=9223372036854775807/\∀ t,t∈x.ai->t.1.size<=maxLen:=⟨v.vw,by have:=v.many; omega,v.names⟩
def yL (D:List ByteArray):Prop:=∀ g,g∈D->cP g.data.toList=true
theorem yL.snoc {D E:List ByteArray} (h:yL D) (k:yL E):yL (D++E):=fun g hg=>(List.mem_append.1 hg).elim (h g) (k g)
theorem yL.item {x:cz} {sec:Nat} (r:ct x sec=true):yL (if x.kind=1 then [x.name] else []):=by
 intro g hg;split at hg
 ·rename_i r1;rw [List.mem_singleton.1 hg];rw [B8 r1,Bool.and_eq_true] at r;exact r.1
 ·simp at hg
theorem JN {h:Hp} {a b c d:bY} {u:bP} (v:rm h a b c d u):HC Tryz.prog 10 #[AD a b c d] h fun w h'=>w=.int .i64 (eG u:Nat)/\Ext h h':=by
 refine aZ (args:=[AD a b c d]) mixed Tryz.func10 az (nI a.p a.l a.c b.p b.l b.c c.p c.l c.c d.p d.l d.c) ?_;unfold jr aX bh bm aH aU cn bF bj aM;refine bq ?_;intro g1 b1 e1 z1;have b1:bC g1 h.size 30 [a.v,b.v,c.v,d.v]:=b1;have m1:=v.text.many;have m2:=v.data.many;have m3:=v.bf.many;have m4:=v.aS.many;have n1:=v.text.len;have n2:=v.data.len;have n3:=v.bf.len;have n4:=v.aS.len;simp only [aE];refine af b1 ((a.p,a.l,a.c),()) rfl ?_;refine an ?_;refine af b1 ((b.p,b.l,b.c),()) rfl ?_;refine an ?_;rw [wrap_i64 ad ad];unfold eG uA;refine ak (fun q=>?_) (fun q=>?_)
 ·have q:=of_decide_eq_true q;exact ⟨by rw [decide_eq_true (show 8192<u.text.length+u.data.length from ad)]; rfl,e1⟩
 have q:=of_decide_eq_false q;rw [decide_eq_false (show ¬ 8192<u.text.length+u.data.length from ad),Bool.false_or];refine af b1 ((c.p,c.l,c.c),()) rfl ?_;refine an ?_;refine ak (fun q=>?_) (fun q=>?_)
 ·have q:=of_decide_eq_true q;exact ⟨by rw [decide_eq_true (show 8192<u.bf.length from ad)]; rfl,e1⟩
 have q:=of_decide_eq_false q;rw [decide_eq_false (show ¬ 8192<u.bf.length from ad),if_neg aj,wK];generalize hU:vK u=U;unfold vK at hU;refine aR (cs:=[(false,[.int .i64]),(false,[.int .i64])]) (fun y w h'=>∃ i:Nat,y.2.1=(i:Int)/\w=u.text.length-i/\i<=u.text.length/\Ext h h'/\bC h' h.size 30 [a.v,b.v,c.v,d.v]/\yL (dY (u.text.take i))/\((u.text.drop i).all (fun x=>ct x 0) && (u.data.all (fun x=>ct x 1) && (u.bf.all Fc && (decide (fl u).Nodup && cO (fl u) du u.aS))))=U) ((0:Int),(0:Int),()) u.text.length rfl
  ⟨0,rfl,rfl,ad,e1,b1,fun g hg=>by simp [dY] at hg,hU⟩ ?_
 clear hU;rintro ⟨n21,n22,⟨⟩⟩ w h2 ⟨i,hi,rfl,hle,e2,b2,hg1,hu⟩;simp only at hi;subst hi;refine an ?_;refine af b2 ((a.p,a.l,a.c),()) rfl ?_;refine an ?_;refine ak ?_ ?_
 case _ =>
  intro q;have q:=of_decide_eq_true q;have hil:i<u.text.length:=ad
  refine af b2 ((a.p,a.l,a.c),()) rfl ?_;refine an ?_;obtain ⟨aa,pp,ll,cc,rfl',hc,va⟩:=(v.text.ao e2).cells i hil;rw [qz _ _ hil] at hu;have ht:=wv u.text i hil;generalize u.text[i]=x at hc va hu ht;refine ay ⟨ad,ad⟩ (av rfl' ?_);rw [show Int.toNat (i:Int)=i from ad];refine ax (x.kind,x.name,x.inst.op,x.inst.a,x.inst.b,x.inst.n,x.inst.form,(pp,ll,cc),(x.e.num:Int),x.n,()) hc ?_;refine an ?_;refine aI (AV (c:=cc) (k:=0) va ad) ?_;rintro _ h3 ⟨rfl,e3⟩;refine ⟨((if ct x 0 then 0 else 31:Int),()),rfl,?_⟩;refine an ?_;cases hr:ct x 0 with
  | false =>
   refine bX aj ?_;refine ⟨by rw [<- hu,hr]; rfl,e2.trans e3⟩
  | true =>
   refine bM aj ?_;rw [hr,Bool.true_and] at hu;refine aF (cs:=[(false,[.int .i64]),(false,[.int .i64])]) (n21,((i+1:Nat):Int),()) (u.text.length-(i+1)) rfl ad (by rw [wrap_i64 ad ad]; rfl) ?_;exact ⟨i+1,rfl,rfl,ad,e2.trans e3,b2.ao e3 aj,by rw [ht]; exact hg1.snoc (yL.item hr),hu⟩
 intro q;have q:=of_decide_eq_false q
 have:i=u.text.length:=ad
 subst this;rw [List.drop_length,List.all_nil,Bool.true_and] at hu;rw [List.take_length] at hg1;clear e1 b1;refine aR (cs:=[(false,[.int .i64]),(false,[.int .i64])]) (fun y w h'=>∃ i:Nat,y.2.1=(i:Int)/\w=u.data.length-i/\i<=u.data.length/\Ext h h'/\bC h' h.size 30 [a.v,b.v,c.v,d.v]/\yL (dY (u.data.take i))/\((u.data.drop i).all (fun x=>ct x 1) && (u.bf.all Fc && (decide (fl u).Nodup && cO (fl u) du u.aS)))=U) (n21,(0:Int),()) u.data.length rfl
  ⟨0,rfl,rfl,ad,e2,b2,fun g hg=>by simp [dY] at hg,hu⟩ ?_
 clear hu e2 b2;rintro ⟨n31,n32,⟨⟩⟩ w h4 ⟨i,hi,rfl,hle,e2,b2,hg2,hu⟩;simp only at hi;subst hi;refine an ?_;refine af b2 ((b.p,b.l,b.c),()) rfl ?_;refine an ?_;refine ak ?_ ?_
 case _ =>
  intro q;have q:=of_decide_eq_true q;have hil:i<u.data.length:=ad
  refine af b2 ((b.p,b.l,b.c),()) rfl ?_;refine an ?_;obtain ⟨aa,pp,ll,cc,rfl',hc,va⟩:=(v.data.ao e2).cells i hil;rw [qz _ _ hil] at hu;have ht:=wv u.data i hil;generalize u.data[i]=x at hc va hu ht;refine ay ⟨ad,ad⟩ (av rfl' ?_);rw [show Int.toNat (i:Int)=i from ad];refine ax (x.kind,x.name,x.inst.op,x.inst.a,x.inst.b,x.inst.n,x.inst.form,(pp,ll,cc),(x.e.num:Int),x.n,()) hc ?_;refine an ?_;refine aI (AV (c:=cc) (k:=1) va ad) ?_;rintro _ h3 ⟨rfl,e3⟩;refine ⟨((if ct x 1 then 0 else 31:Int),()),rfl,?_⟩;refine an ?_;cases hr:ct x 1 with
  | false =>
   refine bX aj ?_;refine ⟨by rw [<- hu,hr]; rfl,e2.trans e3⟩
  | true =>
   refine bM aj ?_;rw [hr,Bool.true_and] at hu;refine aF (cs:=[(false,[.int .i64]),(false,[.int .i64])]) (n31,((i+1:Nat):Int),()) (u.data.length-(i+1)) rfl ad (by rw [wrap_i64 ad ad]; rfl) ?_;exact ⟨i+1,rfl,rfl,ad,e2.trans e3,b2.ao e3 aj,by rw [ht]; exact hg2.snoc (yL.item hr),hu⟩
 intro q;have q:=of_decide_eq_false q
 have:i=u.data.length:=ad
 subst this;rw [List.drop_length,List.all_nil,Bool.true_and] at hu;rw [List.take_length] at hg2;refine aR (cs:=[(false,[.int .i64]),(false,[.int .i64])]) (fun y w h'=>∃ i:Nat,y.2.1=(i:Int)/\w=u.bf.length-i/\i<=u.bf.length/\Ext h h'/\bC h' h.size 30 [a.v,b.v,c.v,d.v]/\yL ((u.bf.take i).map (·.1))/\((u.bf.drop i).all Fc && (decide (fl u).Nodup && cO (fl u) du u.aS))=U) (n31,(0:Int),()) u.bf.length rfl
  ⟨0,rfl,rfl,ad,e2,b2,fun g hg=>by simp at hg,hu⟩ ?_
 clear hu e2 b2;rintro ⟨n41,n42,⟨⟩⟩ w h4 ⟨i,hi,rfl,hle,e2,b2,hg3,hu⟩;simp only at hi;subst hi;refine an ?_;refine af b2 ((c.p,c.l,c.c),()) rfl ?_;refine an ?_;refine ak ?_ ?_
 case _ =>
  intro q;have q:=of_decide_eq_true q;have hil:i<u.bf.length:=ad
  refine af b2 ((c.p,c.l,c.c),()) rfl ?_;refine an ?_;obtain ⟨aa,pp,ll,cc,rfl',hc,va,vn⟩:=(v.bf.ao e2).cells i hil;rw [qz _ _ hil] at hu;have ht:(u.bf.take (i+1)).map (·.1)=(u.bf.take i).map (·.1)++[u.bf[i].1]:=by rw [List.take_succ_eq_append_getElem hil,List.map_append]; rfl
  generalize u.bf[i]=x at hc va vn hu ht;unfold Fc at hu;refine ay ⟨ad,ad⟩ (av rfl' ?_);rw [show Int.toNat (i:Int)=i from ad];refine ax (x.1,()) ⟨hc.1,trivial⟩ ?_;refine an ?_;refine aJ (rI x.1 _ (by have:maxLen=9223372036854775807:=rfl; omega)) ?_;cases hle:cP x.1.data.toList with
  | false =>
   refine bX aj ?_;refine ⟨by rw [<- hu,hle]; rfl,e2⟩
  | true =>
   refine bM aj ?_;rw [hle,Bool.true_and] at hu;refine af b2 ((c.p,c.l,c.c),()) rfl ?_;refine an ?_;refine ay ⟨ad,ad⟩ (av rfl' ?_);refine ax ((pp,ll,cc),(x.2.num:Int),()) ⟨by rw [add_add]; exact hc.2.1,by rw [add_add]; exact hc.2.2.1,trivial⟩ ?_;refine an ?_;obtain ⟨w1,w2,w3⟩:=VE va;refine gw (sN w1 w2 w3) ?_;intro h3 e3;cases hr:mZ none x.2.ai with
   | false =>
    refine bX aj ?_;refine ⟨by rw [<- hu,hr]; rfl,e2.trans e3⟩
   | true =>
    refine bM aj ?_;rw [hr,Bool.true_and] at hu;refine aF (cs:=[(false,[.int .i64]),(false,[.int .i64])]) (n41,((i+1:Nat):Int),()) (u.bf.length-(i+1)) rfl ad (by rw [wrap_i64 ad ad]; rfl) ?_;exact ⟨i+1,rfl,rfl,ad,e2.trans e3,b2.ao e3 aj,by rw [ht]; exact hg3.snoc (fun g hg=>by rw [List.mem_singleton.1 hg]; exact hle),hu⟩
 intro q;have q:=of_decide_eq_false q
 have:i=u.bf.length:=ad
 subst this;rw [List.drop_length,List.all_nil,Bool.true_and] at hu;rw [List.take_length] at hg3;refine af b2 ((a.p,a.l,a.c),(b.p,b.l,b.c),(c.p,c.l,c.c),(d.p,d.l,d.c),()) rfl ?_;refine an ?_;refine aI (Nx (v.ao e2) ad ad ad) ?_;rintro _ h5 ⟨p38,l39,l40,rfl,s5,e5⟩;refine ⟨((p38,l39,l40),()),rfl,?_⟩;refine an ?_;have hA:(fl u).length<=2^20:=by
  unfold fl
  have:=uK u.text
  have:=uK u.data
  simp only [List.length_append,List.length_map];omega
 have n5:=SN.len s5;refine aI (rQ s5 ad) ?_;rintro _ h6 ⟨p41,l43,ys,rfl,hy1,hy2,e6⟩;refine ⟨((p41,ys.length,l43),()),rfl,?_⟩;refine an ?_;have e56:=e5.trans e6;have e06:=e2.trans e56
 by_cases hnd:(fl u).Nodup
 case neg =>
  rw [decide_eq_false hnd] at hu;refine bX ?_ ⟨by rw [<- hu]; rfl,e06⟩
  have:¬ ys.length=(fl u).length:=fun k=>hnd (hy2.1 k)
  rw [n5];simp only [bne_iff_ne,ne_eq];omega
 rw [decide_eq_true hnd,Bool.true_and] at hu;have hy:=hy2.2 hnd;refine bM (by rw [n5,hy]; simp) ?_;have s6:SN h6 h4.size p38 l39 l40 (fl u):=s5.ao e6 aj;have b6:=b2.ao e56 aj;have hleg:∀ g,g∈fl u->gz du g:=fun g hg=>DF (((hg1.snoc hg2).snoc hg3) g hg)
 generalize fl u=E at hu s6 hA hleg;refine aR (cs:=[(false,[.int .i64]),(false,[.int .i64])]) (fun y w h'=>∃ i:Nat,y.2.1=(i:Int)/\w=u.aS.length-i/\i<=u.aS.length/\h'=h6/\cO E (nM u.aS i) (u.aS.drop i)=U) (n41,(0:Int),()) u.aS.length rfl
  ⟨0,rfl,rfl,ad,rfl,hu⟩ ?_
 clear hu;rintro ⟨n51,n52,⟨⟩⟩ w h7 ⟨i,hi,rfl,hile,rfl,hu⟩;simp only at hi;subst hi;refine an ?_;refine af b6 ((d.p,d.l,d.c),()) rfl ?_;refine an ?_;refine ak (fun q=>?_) (fun q=>?_)
 ·have q:=of_decide_eq_true q;have hil:i<u.aS.length:=ad
  obtain ⟨aa,rfl',hc,va⟩:=(v.aS.ao e06).cells i hil;rw [uX _ _ hil] at hu;unfold P9 at hu;refine ak (fun r2=>?_) (fun r2=>?_)
  ·have r2:=of_decide_eq_true r2;refine af b6 ((d.p,d.l,d.c),()) rfl ?_;refine an ?_;refine ay ⟨ad,ad⟩ (av rfl' ?_);rw [show Int.toNat (i:Int)=i from ad,wrap_i64 (x:=(i:Int)-1) ad ad];refine ax (u.aS[i],()) hc ?_;refine an ?_;refine af b6 ((d.p,d.l,d.c),()) rfl ?_;refine an ?_;obtain ⟨ab,rfl'',hc',va'⟩:=(v.aS.ao e06).cells (i-1) ad;refine ay ⟨ad,ad⟩ (av rfl'' ?_);rw [show Int.toNat ((i:Int)-1)=i-1 from ad];refine ax (u.aS[i-1],()) hc' ?_;refine an ?_;have hla:nM u.aS i=u.aS[i-1]:=by
    unfold nM;rw [if_neg ad,List.getD_eq_getElem?_getD,List.getElem?_eq_getElem ad] <;> rfl
   rw [leB];rw [hla] at hu;refine ak (fun r3=>?_) (fun r3=>?_)
   ·have r3:decide (gz u.aS[i-1] u.aS[i])=false:=by simpa using r3
    exact ⟨by rw [<- hu,r3,Bool.and_false]; rfl,e06⟩
   ·have r3:decide (gz u.aS[i-1] u.aS[i])=true:=by simpa using r3
    rw [r3,Bool.and_true] at hu;refine af b6 ((d.p,d.l,d.c),()) rfl ?_;refine an ?_;refine ay ⟨ad,ad⟩ (av rfl' ?_);refine ax (u.aS[i],()) hc ?_;refine an ?_;refine aJ (C' s6 ad _) ?_;refine ⟨⟨b6.cells _ rfl,hc',b6.cells _ rfl,hc,b6.cells _ rfl,trivial⟩,?_⟩;cases hr:fC E u.aS[i] with
    | false =>
     refine bX aj ?_;exact ⟨by rw [<- hu,hr]; rfl,e06⟩
    | true =>
     refine bM aj ?_;rw [hr,Bool.true_and] at hu;exact aF (cs:=[(false,[.int .i64]),(false,[.int .i64])]) (n51,((i+1:Nat):Int),()) (u.aS.length-(i+1)) rfl ad (by rw [wrap_i64 ad ad]; rfl) ⟨i+1,rfl,rfl,ad,rfl,hu⟩
  ·have r2:=of_decide_eq_false r2;have hi0:i=0:=ad
   subst hi0;refine af b6 ((d.p,d.l,d.c),()) rfl ?_;refine an ?_;refine ay ⟨ad,ad⟩ (av rfl' ?_);refine ax (u.aS[0],()) hc ?_;refine an ?_;refine aJ (C' s6 ad _) ?_;refine ⟨⟨b6.cells _ rfl,trivial⟩,?_⟩;cases hr:fC E u.aS[0] with
   | false =>
    refine bX aj ?_;exact ⟨by rw [<- hu,hr]; rfl,e06⟩
   | true =>
    refine bM aj ?_;have hg:decide (gz (nM u.aS 0) u.aS[0])=true:=decide_eq_true (hleg _ (pj.1 hr));rw [hr,hg,Bool.true_and,Bool.true_and] at hu;exact aF (cs:=[(false,[.int .i64]),(false,[.int .i64])]) (n51,((0+1:Nat):Int),()) (u.aS.length-(0+1)) rfl ad (by rw [wrap_i64 ad ad]; rfl) ⟨0+1,rfl,rfl,ad,rfl,hu⟩
 ·have q:=of_decide_eq_false q
  have:i=u.aS.length:=ad
  subst this;rw [List.drop_length] at hu;exact ⟨by rw [<- hu]; rfl,e06⟩
end Go.Sx.Ob
namespace Go.Proofs
open Go.Shelf
open Go.Lib in
def Tryz.B5:Go.Shelf.Ren:=⟨fun | 284=>131 | 129=>146 | 317=>145 | 318=>147 | n=>n,fun | 53=>207 | 3=>3 | 212=>228 | 0=>0 | 4=>4 | 46=>215 | 5=>5 | 9=>9 | n=>n,fun | 17=>1 | n=>n⟩
theorem Tryz.LH:Go.Proofs.LaysM.n284 Tryz.prog Tryz.B5:={
 mixed:=az
 f129:=Tryz.func146.trans (congrArg some az)
 f284:=Tryz.func131.trans (congrArg some az)
 f317:=Tryz.func145.trans (congrArg some az)
 f318:=Tryz.func147.trans (congrArg some az)
 t0:=Tryz.underlying0
 a0:=Tryz.isAgg0
 z0:=Tryz.sizeOf0
 v0:=Tryz.zeroValue0
 t3:=Tryz.underlying3
 a3:=Tryz.isAgg3
 z3:=Tryz.sizeOf3
 v3:=Tryz.zeroValue3
 t4:=Tryz.underlying4
 a4:=Tryz.isAgg4
 z4:=Tryz.sizeOf4
 v4:=Tryz.zeroValue4
 t5:=Tryz.underlying5
 a5:=Tryz.isAgg5
 z5:=Tryz.sizeOf5
 v5:=Tryz.zeroValue5
 t9:=Tryz.underlying9
 a9:=Tryz.isAgg9
 z9:=Tryz.sizeOf9
 v9:=Tryz.zeroValue9
 t46:=Tryz.underlying215
 a46:=Tryz.isAgg215
 z46:=Tryz.sizeOf215
 v46:=Tryz.zeroValue215
 t53:=Tryz.underlying207
 a53:=Tryz.isAgg207
 z53:=Tryz.sizeOf207
 v53:=Tryz.zeroValue207
 t212:=Tryz.underlying228
 a212:=Tryz.isAgg228
 z212:=Tryz.sizeOf228
 v212:=Tryz.zeroValue228
 g17:=az
 i0:=az
 i3:=az
 i4:=az
 i5:=az
 i9:=az
 i46:=az
 i53:=az
 i212:=az
 m17:=by kernel_rfl }
end Go.Proofs
namespace Go.Sx
open Go.Proofs
section any
variable {P:Program} {h:Hp}
end any
def fY (h:Hp):Prop:=∃ e f,h[1]?=some (.cells (Lib.pow10Tab.map fun z=>Value.int .u64 z).toArray e f)
theorem fY.ao {ws:List Nat} {h h':Hp} (p:fY h) (k:Ch ws h h') (hw:∀ i,i∈ws->1<i):fY h':=by
 obtain ⟨e,f,hp⟩:=p;exact ⟨e,f,k.get hp (fun hm=>by have:=hw _ hm; omega)⟩
theorem FZ {W:World} {name:String} (hg:Tryz.prog.globalNamed name=some 1) (p:fY W.heap):Lib.TabIs Tryz.prog W name .u64 Lib.pow10Tab:=by
 obtain ⟨e,f,hp⟩:=p;unfold Lib.TabIs World.var?;rw [hg];show (match W.heap[1]? with | some (.cells cs _ _)=>some cs | _=>none)=_;rw [hp]
theorem vU {h:Hp} (p:fY h) (u:Nat) (h1:1<=u) (h2:u<18446744073709551616):vC Tryz.prog 131 [.int .u64 u] h (.int .i64 (Lib.nDigits u)):=by
 intro W hW;refine ((Any.internal_strconv_numDigits Tryz.LH u h1 h2 W (FZ az (by rw [hW]; exact p))).mono ?_);rintro e w' ⟨he,hw⟩;exact ⟨_,he,by rw [hw]; exact dz.refl W,rfl,by rw [hw]; exact hW⟩
def fK (n:Nat):ByteArray:=⟨(Lib.decDigits n).toArray⟩
theorem Dk:(Tryz.prog.info? 9).map (fun i=>(i.zero,i.size,i.bytes))=some (some (.string ⟨#[]⟩),1,16):=az
def fP (f:ByteArray->Nat):cZ->Nat
 | []=>0
 | p::l=>p.2*f p.1+fP f l
theorem eK (f:ByteArray->Nat) (p:ByteArray × Nat) (l:cZ):fP f (p::l)=p.2*f p.1+fP f l:=rfl
theorem M2 (a b:Nat):a % 4294967296*b % 4294967296=a*b % 4294967296:=by rw [Nat.mul_mod,Nat.mod_mod,<- Nat.mul_mod]
section
variable {α:Type}
def vE (en:α->Value) (D:List (ByteArray × α)):List (ByteArray × Value):=D.map fun p=>(p.1,en p.2)
def gE (D:List (ByteArray × α)) (s:ByteArray):Option α:=(D.find? fun p=>decide (s=p.1)).map (·.2)
def pE (D:List (ByteArray × α)) (s:ByteArray) (v:α):List (ByteArray × α):=if (gE D s).isSome then D.map fun p=>if s=p.1 then (p.1,v) else p else D++[(s,v)]
theorem me (en:α->Value) (D:List (ByteArray × α)) (s:ByteArray):look (vE en D) s=(gE D s).map en:=by
 unfold look gE vE
 induction D with
 | nil=>rfl
 | cons p D ih =>
  by_cases h:s=p.1
  ·simp [h]
  ·simp only [List.map_cons,List.find?_cons,decide_eq_false h];exact ih
theorem F' (en:α->Value) (D:List (ByteArray × α)) (s:ByteArray) (v:α):jO (vE en D) s (en v)=vE en (pE D s v):=by
 unfold jO pE;rw [me];cases h:gE D s with
 | none=>simp [vE]
 | some q =>
  simp only [Option.map_some,Option.isSome_some,if_true,vE,List.map_map];refine List.map_congr_left fun p hp=>?_
  simp only [Function.comp];split <;> simp_all
theorem vZ (D:List (ByteArray × α)) (s:ByteArray) (v:α):(pE D s v).length=if (gE D s).isSome then D.length else D.length+1:=by
 unfold pE;split <;> simp
theorem wg (D:List (ByteArray × α)) (s t:ByteArray) (v:α):gE (D++[(s,v)]) t=(gE D t).or (if t=s then some v else none):=by
 unfold gE;rw [List.find?_append];cases h:D.find? (fun p=>decide (t=p.1)) with
 | some q=>simp
 | none =>
  simp only [Option.none_or,Option.map_none,List.find?_cons,List.find?_nil]
  by_cases e:t=s
  ·simp [e]
  ·simp [e]
theorem F4 (D:List (ByteArray × α)) (s t:ByteArray) (v:α) (hs:(gE D s).isSome):gE (D.map fun p=>if s=p.1 then (p.1,v) else p) t=if t=s then some v else gE D t:=by
 unfold gE at *
 induction D with
 | nil=>simp at hs
 | cons p D ih =>
  by_cases h:s=p.1
  ·by_cases e:t=s
   ·simp [h,e]
   ·have e2:¬ t=p.1:=fun k=>e (k.trans h.symm)
    have hg:∀ l:List (ByteArray × α),(List.find? (fun p=>decide (t=p.1)) (List.map (fun p=>if s=p.1 then (p.1,v) else p) l)).map (·.2)=(List.find? (fun p=>decide (t=p.1)) l).map (·.2):=by
     intro l
     induction l with
     | nil=>rfl
     | cons q l ihl =>
      by_cases hq:s=q.1
      ·have:¬ t=q.1:=fun k=>e (k.trans hq.symm)
       simp only [List.map_cons,List.find?_cons,if_pos hq,decide_eq_false this];exact ihl
      ·simp only [List.map_cons,List.find?_cons,if_neg hq]
       by_cases ht:t=q.1
       ·simp [ht]
       ·simp only [decide_eq_false ht];exact ihl
    simp only [List.map_cons,List.find?_cons,if_pos h,decide_eq_false e2,if_neg e];exact hg D
  ·have hs2:(Option.map (fun x=>x.2) (List.find? (fun p=>decide (s=p.1)) D)).isSome:=by
    simpa [List.find?_cons,decide_eq_false h] using hs
   simp only [List.map_cons,List.find?_cons,if_neg h]
   by_cases ht:t=p.1
   ·have:¬ t=s:=fun k=>h (k.symm.trans ht)
    simp [ht,if_neg (ht▸this)]
   ·simp only [decide_eq_false ht];exact ih hs2
theorem Mu (D:List (ByteArray × α)) (s:ByteArray) (v:α) (t:ByteArray):gE (pE D s v) t=if t=s then some v else gE D t:=by
 unfold pE;split
 ·rename_i h;exact F4 D s t v h
 ·rename_i h;rw [wg]
  by_cases e:t=s
  ·subst e
   have:gE D t=none:=by simpa using h
   rw [this]; simp
  ·simp [e]
def dy (f:ByteArray->Option α) (s:ByteArray) (v:α):ByteArray->Option α:=fun t=>if t=s then some v else f t
theorem cv (f:ByteArray->Option α) (s:ByteArray) (v:α):dy f s v s=some v:=by simp [dy]
theorem bR (f:ByteArray->Option α) {s t:ByteArray} (v:α) (h:t≠s):dy f s v t=f t:=by simp [dy,h]
def dK (en:α->Value) (h:Hp) (g:Nat) (f:ByteArray->Option α) (n:Nat):Prop:=∃ D:List (ByteArray × α),eA h g (vE en D)/\(∀ s,gE D s=f s)/\D.length=n
theorem dK.ao {en:α->Value} {ws:List Nat} {h h':Hp} {g:Nat} {f:ByteArray->Option α} {n:Nat} (m:dK en h g f n) (k:Ch ws h h') (hw:g∉ws):dK en h' g f n:=by
 obtain ⟨D,m,r⟩:=m;exact ⟨D,m.ao k hw,r⟩
theorem dK.lt {en:α->Value} {h:Hp} {g:Nat} {f:ByteArray->Option α} {n:Nat} (m:dK en h g f n):g<h.size:=by
 obtain ⟨D,m,r⟩:=m;exact m.lt
theorem dK.new {en:α->Value} {h:Hp} {g:Nat} (m:eA h g []):dK en h g (fun _=>none) 0:=⟨[],m,fun s=>rfl,rfl⟩
theorem dK.jO {en:α->Value} {h':Hp} {g:Nat} {f:ByteArray->Option α} {n:Nat} {D:List (ByteArray × α)} (hD:∀ s,gE D s=f s) (hn:D.length=n) {s:ByteArray} {v:α} (m:eA h' g (Sx.jO (vE en D) s (en v))):dK en h' g (dy f s v) (if (f s).isSome then n else n+1):=by
 rw [F'] at m;refine ⟨_,m,fun t=>?_,?_⟩
 ·rw [Mu,hD t]; rfl
 ·rw [vZ,hD s,hn]
end
def eI (n:Nat):Value:=.int .i64 (n:Int)
def eB (b:Bool):Value:=.bool b
theorem HH:Tryz.prog.underlying 97=some (.map 9 3):=az
theorem Qu:Tryz.prog.underlying 142=some (.map 9 4):=az
theorem Q2:(Tryz.prog.info? 3).bind (·.zero)=some (.int .i64 0):=az
theorem Kq:(Tryz.prog.info? 4).bind (·.zero)=some (.bool false):=az
section
variable {L:Lp} {K:Value->Hp->Prop} {h:Hp} {g n:Nat}
theorem Ih {f:ByteArray->Option Nat} (m:dK eI h g f n) (s:ByteArray) {k:Int->T} (hk:k (((f s).getD 0:Nat):Int) L K h):T.dW Tryz.prog (Instr.lookup 97 (.map (some g)) (.string s) false) false [(false,[.int .i64])] k L K h:=by
 obtain ⟨D,m,hD,hn⟩:=m;refine jb HH wE Q2 m s false _ ?_;refine ⟨((((f s).getD 0:Nat):Int),()),?_,hk⟩;simp only [Bool.false_eq_true,if_false];rw [me,hD s]
 all_goals (cases f s <;> rfl)
theorem Cw {f:ByteArray->Option Nat} (m:dK eI h g f n) (s:ByteArray) {k:Int->Bool->T} (hk:k (((f s).getD 0:Nat):Int) (f s).isSome L K h):T.dW Tryz.prog (Instr.lookup 97 (.map (some g)) (.string s) true) true [(false,[.int .i64]),(false,[.bool])] k L K h:=by
 obtain ⟨D,m,hD,hn⟩:=m;refine jb HH wE Q2 m s true _ ?_;refine ⟨((((f s).getD 0:Nat):Int),(f s).isSome,()),?_,hk⟩;rw [if_pos rfl,me,hD s]
 all_goals (cases f s <;> rfl)
theorem KX {f:ByteArray->Option Bool} (m:dK eB h g f n) (s:ByteArray) {k:Bool->T} (hk:k ((f s).getD false) L K h):T.dW Tryz.prog (Instr.lookup 142 (.map (some g)) (.string s) false) false [(false,[.bool])] k L K h:=by
 obtain ⟨D,m,hD,hn⟩:=m;refine jb Qu wE Kq m s false _ ?_;refine ⟨((f s).getD false,()),?_,hk⟩;simp only [Bool.false_eq_true,if_false];rw [me,hD s]
 all_goals (cases f s <;> rfl)
theorem qE {f:ByteArray->Option Nat} (m:dK eI h g f n) {s:ByteArray} (hs:s.size<=maxLen) {v:Int} {w:Nat} (hv:v=(w:Int)) {k:T} (hk:∀ h',dK eI h' g (dy f s w) (if (f s).isSome then n else n+1)->Ch [g] h h'->h'.size=h.size->k L K h') :
  T.ec Tryz.prog (Instr.mapUpdate 97 (.map (some g)) (.string s) (.int .i64 v)) k L K h:=by
 subst hv;obtain ⟨D,m,hD,hn⟩:=m;refine fR HH wE m hs _ _ ?_;intro h' m' c' z';exact hk h' (dK.jO (en:=eI) hD hn m') c' z'
theorem T4 {f:ByteArray->Option Bool} (m:dK eB h g f n) {s:ByteArray} (hs:s.size<=maxLen) {b:Bool} {k:T} (hk:∀ h',dK eB h' g (dy f s b) (if (f s).isSome then n else n+1)->Ch [g] h h'->h'.size=h.size->k L K h') :
  T.ec Tryz.prog (Instr.mapUpdate 142 (.map (some g)) (.string s) (.bool b)) k L K h:=by
 obtain ⟨D,m,hD,hn⟩:=m;refine fR Qu wE m hs _ _ ?_;intro h' m' c' z';exact hk h' (dK.jO (en:=eB) hD hn m') c' z'
theorem xu {α:Type} {en:α->Value} {t:TypeId} {k:Option Nat->T} (hk:∀ h',dK en h' h.size (fun _=>none) 0->Ext h h'->h'.size=h.size+1->k (some h.size) L K h'):T.dW Tryz.prog (Instr.makeMap t none) false [(false,[.map 0 0])] k L K h:=by
 refine lF _ ?_;intro h' m e z;exact ⟨(some h.size,()),rfl,hk h' (dK.new m) e z⟩
theorem Vg {α:Type} {en:α->Value} {f:ByteArray->Option α} (m:dK en h g f n) {k:Int->T} (hk:k (n:Int) L K h):T.dW Tryz.prog (Builtin.len_ #[97] 3 #[.map (some g)]) false [(false,[.int .i64])] k L K h:=by
 obtain ⟨D,m,hD,hn⟩:=m;obtain ⟨es,clock,hg,he,hst,hd⟩:=m;have hes:es.size=n:=by
  have:=congrArg List.length he
  simpa [vE,hn] using this
 show aP _ _ _ _;unfold Builtin.len_;simp only [List.getElem?_toArray,List.getElem?_cons_zero];rw [ar,aC HH];simp only [pure_bind];rw [ar];refine fF hg aj _ ?_;simp only [pure_bind];exact ⟨((n:Int),()),by rw [hes]; rfl,hk⟩
theorem Ur {a b:Nat} {k:Int->T} (hk:k ((min a b:Nat):Int) L K h):T.dW Tryz.prog (Builtin.min_ #[3,3] 3 #[.int .i64 (a:Int),.int .i64 (b:Int)]) false [(false,[.int .i64])] k L K h:=by
 show aP _ _ _ _;refine ⟨(((min a b:Nat):Int),()),?_,hk⟩;show Value.int .i64 (if (b:Int)<(a:Int) then (b:Int) else (a:Int))=.int .i64 ((min a b:Nat):Int)
 congr 1
 split <;> omega
end
structure cD where
 name:ByteArray
 p:Option Addr
 l:Nat
 c:Nat
 x:bZ
def Ah (e:cD):List Value:=[.string e.name,.slice e.p e.l e.c,.int .u32 e.x.num]
structure tu (h:Hp) (p:Option Addr) (l:Nat) (es:List cD):Prop where
 len:l=es.length
 cells:∀ i,(hi:i<es.length)->∃ a,p=some a/\aG h (a.add (i*3)) 0 (Ah es[i])
 eY:∀ e,e∈es->gp h e.p e.l e.x.ai
theorem tu.ao {h h':Hp} {p:Option Addr} {l:Nat} {es:List cD} (v:tu h p l es) (k:Ext h h'):tu h' p l es :=
 ⟨v.len,fun i hi=>by
  obtain ⟨a,ha,hc⟩:=v.cells i hi;exact ⟨a,ha,aQ k aj _ _ hc⟩,fun e he=>(v.eY e he).ao k aj⟩
def jP (es:List cD) (s:ByteArray):Option Nat:=es.findIdx? fun e=>decide (e.name=s)
theorem Dz {es:List cD} {e:cD} (hn:∀ d,d∈es->d.name≠e.name) (s:ByteArray):jP (es++[e]) s=dy (jP es) e.name es.length s:=by
 unfold jP dy;rw [List.findIdx?_append]
 by_cases h:s=e.name
 ·subst h
  have:es.findIdx? (fun d=>decide (d.name=e.name))=none:=by
   rw [List.findIdx?_eq_none_iff];intro d hd;simpa using hn d hd
  rw [this];simp [List.findIdx?_cons]
 ·have:¬ e.name=s:=fun k=>h k.symm
  rw [if_neg h];cases hh:es.findIdx? (fun d=>decide (d.name=s)) with
  | none=>show _=List.findIdx? _ es; rw [hh]; simp [List.findIdx?_cons,this]
  | some k=>show _=List.findIdx? _ es; rw [hh]; simp
theorem Ea {es:List cD} {s:ByteArray} (h:∀ d,d∈es->d.name≠s):jP es s=none:=by
 unfold jP;rw [List.findIdx?_eq_none_iff];intro d hd;simpa using h d hd
theorem Af {h:Hp} {p:Option Addr} {l c:Nat} {es:List cD} (v:tu h p l es) (hl:es.length<=2^40) (hn:(es.map (·.name)).Nodup) (hs:∀ e,e∈es->e.name.size<=maxLen) :
  HC Tryz.prog 84 #[.slice p l c] h fun w h'=>(∃ g,w=.map (some g)/\dK eI h' g (jP es) es.length/\h.size<=g)/\Ext h h':=by
 refine aZ (args:=[.slice p l c]) mixed Tryz.func84 az (vQ p l c) ?_;unfold sF aX bh bm aH bK bi bU aM;refine xu (en:=eI) ?_;intro h1 m1 e1 z1;have hll:=v.len;refine aR (cs:=[(false,[.int .i64])]) (fun x w h'=>∃ i:Nat,x.1=(i:Int)/\i<=es.length/\w=es.length-i/\dK eI h' h.size (jP (es.take i)) i/\Ext h h') ((0:Int),()) es.length rfl ⟨0,rfl,ad,ad,m1,e1⟩ ?_;rintro ⟨n2,⟨⟩⟩ w h2 ⟨i,hi,hile,rfl,m2,e2⟩;simp only at hi;subst hi;refine an ?_;refine ak (fun g1=>?_) (fun g1=>?_)
 ·have g1:=of_decide_eq_true g1;have hilt:i<es.length:=ad
  obtain ⟨a,rfl,hc⟩:=(v.ao e2).cells i hilt;have htk:es.take (i+1)=es.take i++[es[i]]:=List.take_succ_eq_append_getElem hilt;have hsz:=hs es[i] (List.getElem_mem hilt);have hnd:∀ d,d∈es.take i->d.name≠es[i].name:=by
   intro d hd he;obtain ⟨j,hj,rfl⟩:=List.getElem_of_mem hd;rw [List.length_take] at hj;rw [List.getElem_take] at he;exact List.pairwise_iff_getElem.1 hn j i (by rw [List.length_map]; omega) (by rw [List.length_map]; omega) ad (by simpa using he)
  generalize es[i]=e at hc htk hsz hnd;refine ay ⟨ad,ad⟩ (av rfl ?_);rw [show Int.toNat (i:Int)=i from ad];refine ax (e.name,(e.p,e.l,e.c),(e.x.num:Int),()) hc ?_;refine an ?_;refine bq ?_;intro h3 b3 e3 z3;refine aw b3 rfl aj ?_;intro h4 b4 k4 z4;have b4:bC h4 h2.size 88 [.string e.name,.slice e.p e.l e.c,.int .u32 e.x.num]:=b4;have e24:Ext h2 h4:=Ch.trans e3 k4 (fun j hj hl=>by simp at hj; omega);refine af b4 (e.name,()) rfl ?_;refine an ?_;refine qE (w:=i) (m2.ao e24 aj) hsz rfl ?_;intro h5 m5 k5 z5;have hw:IntKind.wrap .i64 ((i:Int)+1)=((i+1:Nat):Int):=by rw [wrap_i64 ad ad]; omega
  have hf:jP (es.take (i+1))=dy (jP (es.take i)) e.name i:=by
   rw [htk]
   funext s
   rw [Dz hnd,List.length_take,Nat.min_eq_left ad]
  rw [Ea hnd] at m5;refine aF (cs:=[(false,[.int .i64])]) (((i+1:Nat):Int),()) (es.length-(i+1)) rfl ad (congrArg (fun z=>[Value.int .i64 z]) hw) ⟨i+1,rfl,ad,rfl,by rw [hf]; exact m5,Ch.trans (e2.trans e24) k5 (fun j hj hl=>by simp at hj; omega)⟩
 ·have g1:=of_decide_eq_false g1;have hi:i=es.length:=ad
  subst hi;rw [List.take_length] at m2;exact ⟨⟨_,rfl,m2,Nat.le_refl _⟩,e2⟩
def qS (of:ByteArray->Option bZ) (t:ByteArray × Nat):cZ:=match of t.1 with
 | none=>[t]
 | some y=>y.ai.map fun u=>(u.1,t.2*u.2 % 4294967296)
def fS (of:ByteArray->Option bZ) (n:Nat) (t:ByteArray × Nat):Nat:=match of t.1 with
 | none=>n
 | some y=>(n+t.2*y.num % 4294967296) % 4294967296
def cY (of:ByteArray->Option bZ) (x:bZ):bZ:=⟨Dc (x.ai.flatMap (qS of)),x.ai.foldl (fS of) x.num⟩
structure qY where
 p:Option Addr
 l:Nat
 c:Nat
 x:bZ
def eL (y:qY):Value:=gn y.p y.l y.c y.x
structure Ge (h:Hp) (g:Nat) (f:ByteArray->Option qY) (n:Nat):Prop where
 map:dK eL h g f n
 eY:∀ s y,f s=some y->gp h y.p y.l y.x.ai
theorem Ge.ao {ws:List Nat} {h h':Hp} {g:Nat} {f:ByteArray->Option qY} {n:Nat} (m:Ge h g f n) (k:Ch ws h h') (hw:g∉ws) (hi:∀ s y,f s=some y->∀ i,i∈aK y.p->i∉ws):Ge h' g f n :=
 ⟨m.map.ao k hw,fun s y hy=>(m.eY s y hy).ao k (hi s y hy)⟩
theorem Ug:Tryz.prog.underlying 147=some (.map 9 60):=az
theorem T9:(Tryz.prog.info? 60).bind (·.zero)=some (.agg #[.slice none 0 0,.int .u32 0]):=az
theorem Aa {L:Lp} {K:Value->Hp->Prop} {h:Hp} {g n:Nat} {f:ByteArray->Option qY} (m:dK eL h g f n) (s:ByteArray) {k:Option Addr->Nat->Nat->Int->Bool->T} (h1:∀ y,f s=some y->k y.p y.l y.c (y.x.num:Int) true L K h) (h0:f s=none->k none 0 0 0 false L K h) :
  T.dW Tryz.prog (Instr.lookup 147 (.map (some g)) (.string s) true) true [(true,[.slice 66,.int .u32]),(false,[.bool])] k L K h:=by
 obtain ⟨D,m,hD,hn⟩:=m;refine jb Ug wE T9 m s true _ ?_;rw [if_pos rfl,me,hD s];cases hf:f s with
 | none=>exact ⟨((none,0,0),(0:Int),false,()),rfl,h0 hf⟩
 | some y=>exact ⟨((y.p,y.l,y.c),(y.x.num:Int),true,()),rfl,h1 y hf⟩
theorem Md {L:Lp} {K:Value->Hp->Prop} {h:Hp} {g n:Nat} {f:ByteArray->Option qY} (m:dK eL h g f n) {s:ByteArray} (hs:s.size<=maxLen) (y:qY) {k:T} (hk:∀ h',dK eL h' g (dy f s y) (if (f s).isSome then n else n+1)->Ch [g] h h'->h'.size=h.size->k L K h') :
  T.ec Tryz.prog (Instr.mapUpdate 147 (.map (some g)) (.string s) (.agg #[.slice y.p y.l y.c,.int .u32 (y.x.num:Int)])) k L K h:=by
 obtain ⟨D,m,hD,hn⟩:=m;refine fR Ug wE m hs _ _ ?_;intro h' m' c' z';exact hk h' (dK.jO (en:=eL) hD hn m') c' z'
def Tu (r:Option Nat) (p:Option Addr) (l:Nat) (a14:Addr) (lv:Nat) (k:T):T :=
  T.loop [aM] [.int .i64 (0:Int)] <| fun (n25:Int) =>
  bm n25 l
  (T.need (((0:Int)<=n25)/\(n25<(l:Int))) <|
  T.bd p <| fun (a26:Addr) =>
  T.ah (a26.add (aH n25 2)) [.string,.int .u32] <| fun (s27:ByteArray) (n28:Int) =>
  T.new [bU,.int .u32 (0:Int)] 66 <| fun (a29:Addr) =>
  T.aD a29 [.string s27,.int .u32 n28] <|
  T.ah a29 [.string] <| fun (U4:ByteArray) =>
  bK (Instr.lookup 170 (.map r) (.string U4) false) false [(false,[.int .u32])] <| fun (n31:Int) =>
  T.ah (a14.add 1) [.int .u32] <| fun (n32:Int) =>
  T.ah (a29.add 1) [.int .u32] <| fun (n33:Int) =>
  T.ec Tryz.prog (Instr.mapUpdate 170 (.map r) (.string U4) (.int .u32 (IntKind.wrap .u32 (n31+(IntKind.wrap .u32 (n32*n33)))))) <|
  T.again lv [.int .i64 (bj (n25+(1:Int)))]) k
theorem Qg {L:Lp} {K:Value->Hp->Prop} {h:Hp} {g ga q:Nat} {nm:ByteArray} {p:Option Addr} {l:Nat} {us D:cZ} {k:T} {lv:Nat} (hlv:L.length=lv) (v:gp h p l us) (hl:us.length<=2^40) (hs:∀ t,t∈us->t.1.size<=maxLen) (m:eA h g (vm D)) (hg:us≠[]->g∉aK p)
  (ba:bC h ga 66 [.string nm,.int .u32 (q:Int)]) (hga:ga≠g)
  (hk:∀ J h',eA h' g (vm ((us.map fun u=>(u.1,q*u.2 % 4294967296)).foldl iJ D))->Ch [g] h h'->k (L++[J]) K h'):Tu (some g) p l ⟨ga,0,none⟩ lv k L K h:=by
 have hll:=v.len;have hL:∀ J:List Value->Hp->Prop,(L++[J])[lv]?=some J:=by intro J; subst hlv; simp
 unfold Tu bm aH bK bj bU aM;refine aR (cs:=[(false,[.int .i64])]) (fun y w h'=>∃ (i:Nat),y.1=(i:Int)/\i<=us.length/\w=us.length-i/\Ch [g] h h'/\eA h' g (vm (((us.take i).map fun u=>(u.1,q*u.2 % 4294967296)).foldl iJ D))) ((0:Int),()) us.length rfl
  ⟨0,rfl,ad,ad,Ch.refl _ _,by simpa using m⟩ ?_
 rintro ⟨n8,⟨⟩⟩ w h4 ⟨i,hi,hile,rfl,k4,m4⟩;simp only at hi;subst hi;refine an ?_;refine ak (fun g1=>?_) (fun g1=>?_)
 ·have g1:=of_decide_eq_true g1;have hilt:i<us.length:=ad
  obtain ⟨a,rfl,hc⟩:=(v.ao k4 (by intro j hj hm; rw [List.mem_singleton] at hm; subst hm; exact hg (List.ne_nil_of_length_pos ad) hj)).cells i hilt;have htk:us.take (i+1)=us.take i++[us[i]]:=List.take_succ_eq_append_getElem hilt;have hsz:=hs us[i] (List.getElem_mem hilt);generalize us[i]=t at hc htk hsz;refine ay ⟨ad,ad⟩ (av rfl ?_);rw [show Int.toNat (i:Int)=i from ad];refine ax (t.1,(t.2:Int),()) hc ?_;refine an ?_;refine bq ?_;intro h5 b5 e5 z5;refine aw b5 rfl aj ?_;intro h6 b6 k6 z6;have b6:bC h6 h4.size 66 (cX t):=b6;have e46:Ext h4 h6:=Ch.trans e5 k6 (fun j hj hl=>by simp at hj; omega);have m6:=m4.ao e46 aj;have a6:=(ba.ao k4 (by simpa using hga)).ao e46 aj;refine af b6 (t.1,()) rfl ?_;refine an ?_;refine oU m6 _ ?_;rw [aE];refine af a6 ((q:Int),()) rfl ?_;refine an ?_;rw [aE];refine af b6 ((t.2:Int),()) rfl ?_;refine an ?_;generalize hDD:((us.take i).map fun u=>(u.1,q*u.2 % 4294967296)).foldl iJ D=D' at m6;refine F8 (n:=(dH D' t.1+q*t.2 % 4294967296) % 4294967296) m6 hsz ?_ ?_
  ·rw [dN,dN,ik,Int.natCast_add,ik,Int.natCast_mul]
  ·intro h7 m7 k7 z7;have hw:IntKind.wrap .i64 ((i:Int)+1)=((i+1:Nat):Int):=by rw [wrap_i64 ad ad]; omega
   have hf:((us.take (i+1)).map fun u=>(u.1,q*u.2 % 4294967296)).foldl iJ D=uO D' t.1 ((dH D' t.1+q*t.2 % 4294967296) % 4294967296):=by
    rw [htk,List.map_append,List.foldl_append,hDD] <;> rfl
   refine aF (cs:=[(false,[.int .i64])]) (((i+1:Nat):Int),()) (us.length-(i+1)) (hL _) ad (congrArg (fun z=>[Value.int .i64 z]) hw) ⟨i+1,rfl,ad,rfl,?_,by rw [hf]; exact m7⟩;exact Ch.trans (Ch.trans k4 e46 aj) k7 (fun j hj _=>hj)
 ·have g1:=of_decide_eq_false g1;have hi:i=us.length:=ad
  subst hi;rw [List.take_length] at m4;exact hk _ _ m4 k4
def QA (r0:Option Nat) (a2:Addr) (n1:Int) (lv:Nat):T :=
 T.new [bi,.int .u32 (0:Int)] 60 <| fun (a3:Addr) =>
 T.aD a3 [bi,.int .u32 n1] <|
 bF 109 [.map r0] false [(false,[.func #[63] #[] false])] <| fun (v4:Value) =>
 bF 108 [v4] false [(false,[.slice 9])] <| fun (p5:Option Addr) (l6:Nat) (l7:Nat) =>
 T.loop [aM] [.int .i64 (0:Int)] <| fun (n8:Int) =>
 bm n8 l6
 (T.need (((0:Int)<=n8)/\(n8<(l6:Int))) <|
 T.bd p5 <| fun (a9:Addr) =>
 T.ah (a9.add (aH n8 1)) [.string] <| fun (s10:ByteArray) =>
 bK (Instr.lookup 170 (.map r0) (.string s10) false) false [(false,[.int .u32])] <| fun (n11:Int) =>
 cond (n11 != (0:Int))
  (T.ah a3 [.slice 66] <| fun (p12:Option Addr) (l13:Nat) (l14:Nat) =>
  bK (Instr.lookup 170 (.map r0) (.string s10) false) false [(false,[.int .u32])] <| fun (n15:Int) =>
  bK (Instr.buildSlice 57 1 #[(0,.agg #[.string s10,.int .u32 n15])]) false [da] <| fun (p16:Option Addr) (l17:Nat) (l18:Nat) =>
  bK (Builtin.append_ #[57,57] 57 #[.slice p12 l13 l14,.slice p16 l17 l18]) false [da] <| fun (p19:Option Addr) (l20:Nat) (l21:Nat) =>
  T.aD a3 [.slice p19 l20 l21] <|
  T.again lv [.int .i64 (bj (n8+(1:Int)))])
  (T.again lv [.int .i64 (bj (n8+(1:Int)))]))
 (T.ah a3 [.slice 66,.int .u32] <| fun (p9:Option Addr) (l10:Nat) (l11:Nat) (n12:Int) =>
 T.aD a2 [.slice p9 l10 l11,.int .u32 n12] <|
 T.ah a2 [.slice 66,.int .u32] <| fun (p13:Option Addr) (l14:Nat) (l15:Nat) (n16:Int) =>
 T.ret (.agg #[.slice p13 l14 l15,.int .u32 n16]))
theorem Mg {L:Lp} {K:Value->Hp->Prop} {h:Hp} {g g2:Nat} {D:cZ} {lv:Nat} (hlv:L.length=lv) (m:eA h g (vm D)) (hl:D.length<=2^40) (n:Int) (c0:bC h g2 60 [.slice none 0 0,.int .u32 0])
  (hk:∀ p l c h',SL h' h.size 66 2 p l c ((D4 D).map cX)->Ch [g2] h h'->K (.agg #[.slice p l c,.int .u32 n]) h'):QA (some g) ⟨g2,0,none⟩ n lv L K h:=by
 have hL:∀ J:List Value->Hp->Prop,(L++[J])[lv]?=some J:=by intro J; subst hlv; simp
 have hg2:=c0.lt;unfold QA bm aH bF bK bj bi aM da;refine bq ?_;intro h2 b2 e2 z2;refine aw b2 rfl aj ?_;intro h3 b3 k3 z3;have b3:bC h3 h.size 60 [.slice none 0 0,.int .u32 n]:=b3;have e3:Ext h h3:=Ch.trans e2 k3 (fun i hi hl=>by simp at hi; omega);have m3:=m.ao e3 aj;have c3:bC h3 g2 60 [.slice none 0 0,.int .u32 0]:=c0.ao e3 aj;refine aI (Hj (some g) h3) ?_;rintro _ h4 ⟨rfl,rfl⟩;refine ⟨(.func (.func 124) #[] #[.pointer (some ⟨h3.size,0,none⟩)],()),rfl,?_⟩;refine an ?_;have e4:Ext h3 (h3.push (.cells #[.map (some g)] 170)):=Ext.push _ _;have hkl:(vm D).length<=2^40:=by unfold vm; rw [List.length_map]; exact hl
 refine aI (rQ m3 hkl) ?_;rintro _ h5 ⟨pk,lk,ck,rfl,sk,e5⟩;refine ⟨((pk,lk,ck),()),rfl,?_⟩;refine an ?_;have e35:=e4.trans e5;have hkeys:(keysOf (vm D)).length<=2^40:=by
  unfold keysOf;rw [List.length_mergeSort,List.length_map];exact hkl
 have hlk:lk=(keysOf (vm D)).length:=by rw [sk.1,List.length_map]
 unfold D4 at hk;generalize keysOf (vm D)=ks at sk hkeys hlk hk;have b5:=b3.ao e35 aj;have c5:=c3.ao e35 aj;have m5:=m3.ao e35 aj;have e05:=e3.trans e35;have hz3:=e35.size;have hb3:=b3.lt;have hg:=m.lt;refine aR (cs:=[(false,[.int .i64])]) (fun x w h'=>∃ (i:Nat) (p:Option Addr) (l c:Nat),x.1=(i:Int)/\i<=ks.length/\w=ks.length-i/\Ch [h.size] h5 h'/\bC h' h.size 60 [.slice p l c,.int .u32 n] /\
  SL h' h5.size 66 2 p l c (((ks.take i).filterMap fun k=>if dH D ⟨k.toArray⟩=0 then none else some ((⟨k.toArray⟩:ByteArray),dH D ⟨k.toArray⟩)).map cX)/\l<=i) ((0:Int),()) ks.length rfl
  ⟨0,none,0,0,rfl,ad,ad,Ch.refl _ _,b5,SL.nil _ _ _ _,ad⟩ ?_
 rintro ⟨n8,⟨⟩⟩ w h6 ⟨i,p,l,c,hi,hile,rfl,k6,b6,s6,hli⟩;simp only at hi;subst hi;refine an ?_;have m6:=m5.ao k6 (by simp; omega);have hz6:=k6.size;have e06:Ext h h6:=Ch.trans e05 k6 (fun j hj hl=>by simp at hj; omega);refine ak (fun g1=>?_) (fun g1=>?_)
 ·have g1:=of_decide_eq_true g1;have hilt:i<ks.length:=ad
  have sk6:=sk.bG k6 (fun j hj=>by have:=(sk.cd hj).1; simp; omega);obtain ⟨a,rfl,hc⟩:=sk6.cells (i:=i) (by simpa using hilt);rw [List.getElem_map] at hc;have htk:ks.take (i+1)=ks.take i++[ks[i]]:=List.take_succ_eq_append_getElem hilt;generalize ks[i]=k at hc htk;refine ay ⟨ad,ad⟩ (av rfl ?_);rw [show Int.toNat (i:Int)=i from ad];refine ax ((⟨k.toArray⟩:ByteArray),()) hc ?_;refine an ?_;have hw:IntKind.wrap .i64 ((i:Int)+1)=((i+1:Nat):Int):=by rw [wrap_i64 ad ad]; omega
  refine oU m6 _ (ak (fun g2=>?_) (fun g2=>?_))
  ·have g2:((dH D ⟨k.toArray⟩:Nat):Int)≠0:=by simpa using g2
   refine af b6 ((p,l,c),()) rfl ?_;refine an ?_;refine oU m6 _ ?_;refine ml (vs:=cX (⟨k.toArray⟩,dH D ⟨k.toArray⟩)) zt sg rfl ad ad az rfl rfl s6 hz6 ad ad ?_;intro p' c' h7 s7 k7 hp7;have b7:=b6.ao k7 (fun hh=>by have:=(s6.cd hh).1; omega);refine aw b7 rfl aj ?_;intro h8 b8 k8 z8;refine aF (cs:=[(false,[.int .i64])]) (((i+1:Nat):Int),()) (ks.length-(i+1)) (hL _) ad (congrArg (fun z=>[Value.int .i64 z]) hw) ⟨i+1,p',l+1,c',rfl,ad,rfl,?_,b8,?_,ad⟩
   ·exact Ch.trans (Ch.trans k6 k7 (fun j hj hl=>by have:=(s6.cd hj).1; omega)) k8 (fun j hj _=>hj)
   ·rw [htk,List.filterMap_append,List.map_append];have hf:([k].filterMap fun k=>if dH D ⟨k.toArray⟩=0 then none else some ((⟨k.toArray⟩:ByteArray),dH D ⟨k.toArray⟩))=[((⟨k.toArray⟩:ByteArray),dH D ⟨k.toArray⟩)]:=by
     simp only [List.filterMap_cons,List.filterMap_nil];rw [if_neg ad]
    rw [hf];exact s7.bG k8 (fun j hj=>by have:=(s7.cd hj).1; simp; omega)
  ·have g2:((dH D ⟨k.toArray⟩:Nat):Int)=0:=by simpa using g2
   refine aF (cs:=[(false,[.int .i64])]) (((i+1:Nat):Int),()) (ks.length-(i+1)) (hL _) ad (congrArg (fun z=>[Value.int .i64 z]) hw) ⟨i+1,p,l,c,rfl,ad,rfl,k6,b6,?_,ad⟩;rw [htk,List.filterMap_append];have hf:([k].filterMap fun k=>if dH D ⟨k.toArray⟩=0 then none else some ((⟨k.toArray⟩:ByteArray),dH D ⟨k.toArray⟩))=[]:=by
    simp only [List.filterMap_cons,List.filterMap_nil];rw [if_pos ad]
   rw [hf,List.append_nil];exact s6
 ·have g1:=of_decide_eq_false g1;have hi:i=ks.length:=ad
  subst hi;rw [List.take_length] at s6;have c6:=c5.ao k6 (by simp; omega);refine af b6 ((p,l,c),n,()) rfl ?_;refine an ?_;refine aw c6 rfl aj ?_;intro h7 b7 k7 z7;have b7:bC h7 g2 60 [.slice p l c,.int .u32 n]:=b7;refine af b7 ((p,l,c),n,()) rfl ?_;have hz5:=e05.size;exact hk _ _ _ _ ((s6.bG k7 (fun j hj=>by have:=(s6.cd hj).1; simp; omega)).mono ad) (Ch.trans (e06.mono aj) k7 (fun j hj hl=>hj))
theorem Er {h:Hp} {p:Option Addr} {l c:Nat} {x:bZ} (v:gp h p l x.ai) {g n:Nat} {f:ByteArray->Option qY} (m:Ge h g f n) (hl:x.ai.length<=2^40) (hs:∀ t,t∈x.ai->t.1.size<=maxLen) (hy:∀ s y,f s=some y->y.x.ai.length<=2^40/\∀ t,t∈y.x.ai->t.1.size<=maxLen)
  (hN:(x.ai.flatMap (qS fun s=>(f s).map (·.x))).length<=2^40) :
  HC Tryz.prog 86 #[gn p l c x,.map (some g)] h fun w h'=>(∃ p' l' c',w=gn p' l' c' (cY (fun s=>(f s).map (·.x)) x)/\SL h' h.size 66 2 p' l' c' ((cY (fun s=>(f s).map (·.x)) x).ai.map cX))/\Ext h h':=by
 refine aZ (args:=[gn p l c x,.map (some g)]) mixed Tryz.func86 az (Cj p l c x.num (some g)) ?_;unfold BS aX bh bm aH bF bk bK bi bU aM bT;have hll:=v.len;refine bq ?_;intro h1 b1 e1 z1;refine bq ?_;intro h2 b2 e2 z2;refine lF _ ?_;intro h3 m3 e3 z3;refine ⟨(some h2.size,()),rfl,?_⟩;refine an ?_;have b13:=(b1.ao e2 aj).ao e3 aj;have b23:=b2.ao e3 aj;have e03:=(e1.trans e2).trans e3;rw [aE];refine af b13 ((x.num:Int),()) rfl ?_;refine an ?_;refine af b13 ((p,l,c),()) rfl ?_;refine an ?_;have hh:h1.size=h.size+1:=z1;generalize hof:(fun s=>(f s).map (·.x))=of at hN;have hofs:∀ s,of s=(f s).map (·.x):=fun s=>by rw [<- hof]
 refine aR (cs:=[(false,[.int .u32]),(false,[.int .i64])]) (fun y w h'=>∃ i:Nat,y.2.1=(i:Int)/\i<=x.ai.length/\w=x.ai.length-i/\y.1=(((x.ai.take i).foldl (fS of) x.num:Nat):Int)/\Ch [h2.size] h3 h'/\eA h' h2.size (vm (((x.ai.take i).flatMap (qS of)).foldl iJ [])))
  ((x.num:Int),(0:Int),()) x.ai.length rfl ⟨0,rfl,ad,ad,rfl,Ch.refl _ _,m3⟩ ?_
 rintro ⟨n9,n10,⟨⟩⟩ w h4 ⟨i,hi,hile,rfl,hn9,k4,m4⟩;simp only at hi hn9;subst hi hn9;refine an ?_;have e04:Ext h h4:=Ch.trans e03 k4 (fun j hj hl=>by simp at hj; omega);have hz4:=k4.size;refine ak (fun g1=>?_) (fun g1=>?_)
 ·have g1:=of_decide_eq_true g1;have hilt:i<x.ai.length:=ad
  obtain ⟨a,rfl,hc⟩:=(v.ao e04 aj).cells i hilt;have htk:x.ai.take (i+1)=x.ai.take i++[x.ai[i]]:=List.take_succ_eq_append_getElem hilt;have hsz:=hs x.ai[i] (List.getElem_mem hilt);generalize x.ai[i]=t at hc htk hsz;have hw:IntKind.wrap .i64 ((i:Int)+1)=((i+1:Nat):Int):=by rw [wrap_i64 ad ad]; omega
  refine ay ⟨ad,ad⟩ (av rfl ?_);rw [show Int.toNat (i:Int)=i from ad];refine ax (t.1,(t.2:Int),()) hc ?_;refine an ?_;refine bq ?_;intro h5 b5 e5 z5;refine aw b5 rfl aj ?_;intro h6 b6 k6 z6;have b6:bC h6 h4.size 66 [.string t.1,.int .u32 (t.2:Int)]:=b6;have e46:Ext h4 h6:=Ch.trans e5 k6 (fun j hj hl=>by simp at hj; omega);have m6:=m4.ao e46 aj;have e06:=e04.trans e46;have hz6:=e46.size;refine af b6 (t.1,()) rfl ?_;refine an ?_;have hfold:((x.ai.take (i+1)).flatMap (qS of)).foldl iJ []=(qS of t).foldl iJ (((x.ai.take i).flatMap (qS of)).foldl iJ []):=by
   rw [htk,List.flatMap_append,List.foldl_append]
   simp
  have hnum:(x.ai.take (i+1)).foldl (fS of) x.num=fS of ((x.ai.take i).foldl (fS of) x.num) t:=by
   rw [htk,List.foldl_append]; rfl
  generalize (x.ai.take i).foldl (fS of) x.num=nn at hnum ⊢;generalize ((x.ai.take i).flatMap (qS of)).foldl iJ []=D' at hfold m6 ⊢;refine Aa (m.map.ao e06 aj) t.1 (fun y hy1=>?_) (fun hy0=>?_)
  ·have hoy:of t.1=some y.x:=by rw [hofs,hy1]; rfl
   refine bq ?_;intro h7 b7 e7 z7;refine aw b7 rfl aj ?_;intro h8 b8 k8 z8;have b8:bC h8 h6.size 60 [.slice y.p y.l y.c,.int .u32 (y.x.num:Int)]:=b8;have e68:Ext h6 h8:=Ch.trans e7 k8 (fun j hj hl=>by simp at hj; omega);refine bM rfl ?_;refine af b8 ((y.p,y.l,y.c),()) rfl ?_;refine an ?_;have hh2:h2.size=h.size+2:=ad
   refine Qg (q:=t.2) (nm:=t.1) (us:=y.x.ai) rfl ((m.eY _ _ hy1).ao (e06.trans e68) aj) (hy _ _ hy1).1 (hy _ _ hy1).2 (m6.ao e68 aj) (fun hne hb=>by have:=(m.eY _ _ hy1).Td hne _ hb; omega) (b6.ao e68 aj) ad ?_;intro J h9 m9 k9;have b69:=(b6.ao e68 aj).ao k9 (by simp; omega);have b89:=b8.ao k9 (by simp; omega);rw [aE];refine af b69 ((t.2:Int),()) rfl ?_;refine an ?_;rw [aE];refine af b89 ((y.x.num:Int),()) rfl ?_;refine an ?_;have hnn:IntKind.wrap .u32 ((nn:Int)+IntKind.wrap .u32 ((t.2:Int)*(y.x.num:Int)))=((fS of nn t:Nat):Int):=by
    unfold fS;rw [hoy];simp only;rw [dN,dN,ik,Int.natCast_add,ik,Int.natCast_mul]
   refine aF (cs:=[(false,[.int .u32]),(false,[.int .i64])]) (((fS of nn t:Nat):Int),((i+1:Nat):Int),()) (x.ai.length-(i+1)) rfl ad (by rw [hnn,hw]; rfl) ⟨i+1,rfl,ad,rfl,by rw [hnum],Ch.trans (Ch.trans (Ch.trans k4 e46 aj) e68 aj) k9 (fun j hj _=>hj),?_⟩;rw [hfold];unfold qS;rw [hoy];exact m9
  ·have hoy:of t.1=none:=by rw [hofs,hy0]; rfl
   refine bq ?_;intro h7 b7 e7 z7;refine aw b7 rfl aj ?_;intro h8 b8 k8 z8;have e68:Ext h6 h8:=Ch.trans e7 k8 (fun j hj hl=>by simp at hj; omega);have b68:=b6.ao e68 aj;refine bX rfl ?_;refine af b68 (t.1,()) rfl ?_;refine an ?_;refine oU (m6.ao e68 aj) _ ?_;rw [aE];refine af b68 ((t.2:Int),()) rfl ?_;refine an ?_;refine F8 (n:=(dH D' t.1+t.2) % 4294967296) (m6.ao e68 aj) hsz ?_ ?_
   ·rw [dN,ik,Int.natCast_add]
   ·intro h9 m9 k9 z9;have hnn:fS of nn t=nn:=by unfold fS; rw [hoy]
    refine aF (cs:=[(false,[.int .u32]),(false,[.int .i64])]) ((nn:Int),((i+1:Nat):Int),()) (x.ai.length-(i+1)) rfl ad (by rw [hw]; rfl) ⟨i+1,rfl,ad,rfl,by rw [hnum,hnn],Ch.trans (Ch.trans (Ch.trans k4 e46 aj) e68 aj) k9 (fun j hj _=>hj),?_⟩;rw [hfold];unfold qS;rw [hoy];exact m9
 ·have g1:=of_decide_eq_false g1;have hi:i=x.ai.length:=ad
  subst hi;rw [List.take_length] at m4 ⊢;have hD:((x.ai.flatMap (qS of)).foldl iJ []).length<=2^40:=by
   have:=tX (x.ai.flatMap (qS of)) []
   simp only [List.length_nil,Nat.zero_add] at this;omega
  refine Mg (lv:=1) rfl m4 hD _ (b23.ao k4 (by simp; omega)) ?_;intro p' l' c' h9 s9 k9;exact ⟨⟨p',l',c',rfl,s9.mono ad⟩,Ch.trans e04 k9 (fun j hj hl=>by simp at hj; omega)⟩
structure TS where
 num:ByteArray->Option Nat
 jl:Nat
 low:ByteArray->Option Nat
 on:ByteArray->Option Bool
 back:ByteArray->Option Bool
 cQ:List ByteArray
def ei (v:ByteArray) (st:TS):TS:={ st with num:=dy st.num v (st.jl+1),jl:=st.jl+1,low:=dy st.low v (st.jl+1),cQ:=st.cQ++[v],on:=dy st.on v true }
def fm (v w:ByteArray) (st:TS):TS:=if w=v then { st with back:=dy st.back v true } else st
def JO (v:ByteArray) (n:Nat) (st:TS):TS:={ st with low:=dy st.low v (min ((st.low v).getD 0) n) }
def sJ (kV:ByteArray->TS->TS) (v w:ByteArray) (st:TS):TS :=
 if (st.num w).getD 0=0 then JO v (((kV w st).low w).getD 0) (kV w st)
 else if (st.on w).getD false=true then JO v ((st.num w).getD 0) st
 else st
def ej (own:ByteArray->Bool) (kV:ByteArray->TS->TS) (v:ByteArray) (st:TS) (w:ByteArray):TS :=
 if own w=true then sJ kV v w (fm v w st) else st
def oN (pF:Bool) (st:TS) (x:ByteArray):TS:={ st with on:=dy st.on x false,back:=dy st.back x ((st.back x).getD false || pF) }
def qn (v:ByteArray) (st:TS):Nat:=st.cQ.findIdx (fun x=>decide (v=x))
def qG (v:ByteArray) (st:TS):TS:={ (st.cQ.drop (qn v st)).foldl (oN (decide (1<st.cQ.length-qn v st))) st with cQ:=st.cQ.take (qn v st) }
def cH (own:ByteArray->Bool) (succ:ByteArray->List ByteArray):Nat->ByteArray->TS->TS
 | 0,_,st=>st
 | f+1,v,st =>
  if (((succ v).foldl (ej own (cH own succ f) v) (ei v st)).low v).getD 0<(((succ v).foldl (ej own (cH own succ f) v) (ei v st)).num v).getD 0 then (succ v).foldl (ej own (cH own succ f) v) (ei v st)
  else qG v ((succ v).foldl (ej own (cH own succ f) v) (ei v st))
def AP:TS:=⟨fun _=>none,0,fun _=>none,fun _=>none,fun _=>none,[]⟩
def vP (own:ByteArray->Bool) (succ:ByteArray->List ByteArray) (f:Nat) (st:TS) (v:ByteArray):TS:=if (st.num v).getD 0=0 then cH own succ f v st else st
def Et (own:ByteArray->Bool) (succ:ByteArray->List ByteArray) (names:List ByteArray):TS:=names.foldl (vP own succ names.length) AP
def qj (names:List ByteArray) (st:TS):Nat:=(names.filter fun v=>(st.num v).isNone).length
structure dp (names:List ByteArray) (st:TS):Prop where
 sum:st.jl+qj names st=names.length
 pos:∀ s n,st.num s=some n->1<=n
 cQ:st.cQ.length<=st.jl
 eY:∀ x,x∈st.cQ->st.num x≠Option.none
theorem dp.none {names:List ByteArray} {st:TS} (g:dp names st) {w:ByteArray} (h:(st.num w).getD 0=0):st.num w=Option.none:=by
 cases hh:st.num w with
 | none=>rfl
 | some n =>
  rw [hh] at h
  have:=g.pos w n hh
  simp at h;omega
theorem Oj {names:List ByteArray} (hn:names.Nodup) {v:ByteArray} (hv:v∈names) {f:ByteArray->Option Nat} (h0:f v=Option.none) (n:Nat):(names.filter fun s=>(dy f v n s).isNone).length+1=(names.filter fun s=>(f s).isNone).length:=by
 induction names with
 | nil=>simp at hv
 | cons x l ih =>
  obtain ⟨hx,hn⟩:=List.nodup_cons.1 hn
  by_cases e:x=v
  ·subst e;have hl:l.filter (fun s=>(dy f x n s).isNone)=l.filter (fun s=>(f s).isNone):=by
    refine List.filter_congr fun s hs=>?_
    rw [bR _ _ (fun k=>hx (by rw [<- k]; exact hs))]
   rw [List.filter_cons,List.filter_cons,cv,h0,hl]
   simp
  ·have hv':v∈l:=by
    rcases List.mem_cons.1 hv with h | h
    ·exact (e h.symm).elim
    ·exact h
   have:=ih hn hv'
   rw [List.filter_cons,List.filter_cons,bR _ _ e];split
   ·simp only [List.length_cons]; omega
   ·exact this
theorem zQ (pF:Bool) (l:List ByteArray):∀ st:TS,(l.foldl (oN pF) st).num=st.num/\(l.foldl (oN pF) st).jl=st.jl/\(l.foldl (oN pF) st).low=st.low:=by
 induction l with
 | nil=>intro st; exact ⟨rfl,rfl,rfl⟩
 | cons x l ih =>
  intro st;rw [List.foldl_cons];exact ih _
theorem nE (v:ByteArray) (st:TS):(qG v st).num=st.num:=(zQ _ _ _).1
theorem zV (v:ByteArray) (st:TS):(qG v st).jl=st.jl:=(zQ _ _ _).2.1
theorem Mn (v:ByteArray) (st:TS):(qG v st).low=st.low:=(zQ _ _ _).2.2
theorem uh (v:ByteArray) (st:TS):(qG v st).cQ=st.cQ.take (qn v st):=rfl
theorem gV (v w:ByteArray) (st:TS):(fm v w st).num=st.num/\(fm v w st).jl=st.jl/\(fm v w st).cQ=st.cQ/\(fm v w st).on=st.on/\(fm v w st).low=st.low:=by
 unfold fm;split <;> exact ⟨rfl,rfl,rfl,rfl,rfl⟩
theorem dp.self {names:List ByteArray} {st:TS} (g:dp names st) (v w:ByteArray):dp names (fm v w st):=by
 obtain ⟨h1,h2,h3,_⟩:=gV v w st;exact ⟨by unfold qj; rw [h1,h2]; exact g.sum,by rw [h1]; exact g.pos,by rw [h2,h3]; exact g.cQ,by rw [h1,h3]; exact g.eY⟩
theorem dp.low {names:List ByteArray} {st:TS} (g:dp names st) (v:ByteArray) (n:Nat):dp names (JO v n st):=⟨g.sum,g.pos,g.cQ,g.eY⟩
theorem dp.open {names:List ByteArray} (hn:names.Nodup) {st:TS} (g:dp names st) {v:ByteArray} (hv:v∈names) (h0:st.num v=Option.none):dp names (ei v st)/\qj names (ei v st)+1=qj names st:=by
 have h1:qj names (ei v st)+1=qj names st:=Oj hn hv h0 _;refine ⟨⟨?_,fun s n hs=>?_,?_,fun x hx=>?_⟩,h1⟩
 ·have:=g.sum
  show st.jl+1+qj names (ei v st)=_;omega
 ·have hs:dy st.num v (st.jl+1) s=some n:=hs
  by_cases e:s=v
  ·subst e;rw [cv] at hs
   have:=Option.some.inj hs
   omega
  ·rw [bR _ _ e] at hs;exact g.pos s n hs
 ·have:=g.cQ
  show (st.cQ++[v]).length<=st.jl+1
  simp; omega
 ·have hx:x∈st.cQ++[v]:=hx;show dy st.num v _ x≠Option.none
  by_cases e:x=v
  ·subst e; rw [cv]; simp
  ·rw [bR _ _ e];rcases List.mem_append.1 hx with h | h
   ·exact g.eY x h
   ·exact (e (List.mem_singleton.1 h)).elim
theorem dp.pop {names:List ByteArray} {st:TS} (g:dp names st) (v:ByteArray):dp names (qG v st) :=
 ⟨by unfold qj; rw [nE,zV]; exact g.sum,by rw [nE]; exact g.pos,by rw [uh,zV,List.length_take]; have:=g.cQ; omega,fun x hx=>by rw [nE]; rw [uh] at hx; exact g.eY x (List.mem_of_mem_take hx)⟩
def Az (names:List ByteArray) (st st':TS):Prop:=dp names st'/\(∀ s n,st.num s=some n->st'.num s=some n)/\st.cQ <+: st'.cQ
theorem Az.qj {names:List ByteArray} {st st':TS} (h:Az names st st'):qj names st'<=qj names st:=by
 unfold Sx.qj;rw [<- List.countP_eq_length_filter,<- List.countP_eq_length_filter];refine List.countP_mono_left fun x hx h'=>?_
 cases hh:st.num x with
 | none=>rfl
 | some n=>rw [h.2.1 x n hh] at h'; simp at h'
theorem Az.trans {names:List ByteArray} {a b c:TS} (h:Az names a b) (k:Az names b c):Az names a c:=⟨k.1,fun s n hs=>k.2.1 s n (h.2.1 s n hs),h.2.2.trans k.2.2⟩
theorem Az.refl {names:List ByteArray} {a:TS} (h:dp names a):Az names a a:=⟨h,fun s n hs=>hs,List.prefix_refl _⟩
theorem LZ {names:List ByteArray} {kV:ByteArray->TS->TS} {f:Nat} (hvis:∀ w st,dp names st->w∈names->st.num w=Option.none->Sx.qj names st<=f->Az names st (kV w st)) {v w:ByteArray} {st:TS} (g:dp names st) (hw:w∈names) (hu:Sx.qj names st<=f):Az names st (sJ kV v w st):=by
 unfold sJ;split
 ·rename_i h0;have h:=hvis w st g hw (g.none h0) hu;exact ⟨h.1.low v _,h.2.1,h.2.2⟩
 ·split
  ·exact ⟨g.low v _,fun s n hs=>hs,List.prefix_refl _⟩
  ·exact Az.refl g
theorem Fy {names:List ByteArray} {own:ByteArray->Bool} (hown:∀ s,own s=true->s∈names) {kV:ByteArray->TS->TS} {f:Nat} (hvis:∀ w st,dp names st->w∈names->st.num w=Option.none->Sx.qj names st<=f->Az names st (kV w st)) {v w:ByteArray} {st:TS} (g:dp names st) (hu:Sx.qj names st<=f):Az names st (ej own kV v st w):=by
 unfold ej;split
 ·rename_i ho;have h1:Az names st (fm v w st):=⟨g.self v w,fun s n hs=>by rw [(gV v w st).1]; exact hs,by rw [(gV v w st).2.2.1]; exact List.prefix_refl _⟩
  exact h1.trans (LZ hvis (g.self v w) (hown w ho) (Nat.le_trans h1.qj hu))
 ·exact Az.refl g
theorem y5 {names:List ByteArray} {own:ByteArray->Bool} (hown:∀ s,own s=true->s∈names) {kV:ByteArray->TS->TS} {f:Nat} (hvis:∀ w st,dp names st->w∈names->st.num w=Option.none->Sx.qj names st<=f->Az names st (kV w st)) (v:ByteArray):∀ (l:List ByteArray) (st:TS),dp names st->Sx.qj names st<=f->Az names st (l.foldl (ej own kV v) st)
 | [],st,g,hu=>Az.refl g
 | w::l,st,g,hu=>by
  have h1:=Fy hown hvis (v:=v) (w:=w) g hu;rw [List.foldl_cons];exact h1.trans (y5 hown hvis v l _ h1.1 (Nat.le_trans h1.qj hu))
theorem Ij {a b:List ByteArray} {v:ByteArray} (h:a++[v] <+: b) (hv:v∉a) {st:TS} (hs:st.cQ=b):qn v st=a.length/\b.take a.length=a/\a.length<b.length:=by
 obtain ⟨t,rfl⟩:=h;unfold qn;rw [hs];refine ⟨?_,aj,aj⟩;rw [List.append_assoc,List.findIdx_append,if_neg ?_]
 ·simp [List.findIdx_cons]
 ·rw [List.findIdx_lt_length];rintro ⟨x,hx,e⟩;exact hv (by rw [of_decide_eq_true e]; exact hx)
theorem dp.Uo {names:List ByteArray} {st:TS} (g:dp names st) {v:ByteArray} (h0:st.num v=Option.none):v∉st.cQ:=fun hv=>g.eY v hv h0
theorem Nh {names:List ByteArray} (hn:names.Nodup) {v:ByteArray} {st:TS} (g:dp names st) (hv:v∈names) (h0:st.num v=Option.none):Az names st (ei v st) :=
 ⟨(g.open hn hv h0).1,fun s n hs=>by
   show dy st.num v _ s=some n;rw [bR _ _ (fun e=>by rw [e,h0] at hs; cases hs)];exact hs,⟨[v],rfl⟩⟩
theorem rK {names:List ByteArray} (hn:names.Nodup) {own:ByteArray->Bool} (hown:∀ s,own s=true->s∈names) (succ:ByteArray->List ByteArray):∀ (f:Nat) (v:ByteArray) (st:TS),dp names st->v∈names->st.num v=Option.none->Sx.qj names st<=f->Az names st (cH own succ f v st)
 | 0,v,st,g,hv,h0,hu=>Az.refl g
 | f+1,v,st,g,hv,h0,hu=>by
  obtain ⟨g1,hu1⟩:=g.open hn hv h0;have h2:=y5 hown (rK hn hown succ f) v (succ v) _ g1 ad;have h3:=(Nh hn g hv h0).trans h2;unfold cH;split
  ·exact h3
  ·refine ⟨h3.1.pop v,fun s n hs=>by rw [nE]; exact h3.2.1 s n hs,?_⟩;obtain ⟨e1,e2,_⟩:=Ij (a:=st.cQ) (v:=v) h2.2.2 (g.Uo h0) rfl;rw [uh,e1,e2];exact List.prefix_refl _
theorem JC {names:List ByteArray} (hn:names.Nodup) {own:ByteArray->Bool} (hown:∀ s,own s=true->s∈names) (succ:ByteArray->List ByteArray) {f:Nat} {v:ByteArray} {st:TS} (g:dp names st) (hv:v∈names) (h0:st.num v=Option.none) (hu:Sx.qj names st<=f+1) (l:List ByteArray) :
  dp names (l.foldl (ej own (cH own succ f) v) (ei v st))/\Sx.qj names (l.foldl (ej own (cH own succ f) v) (ei v st))<=f/\st.cQ++[v] <+: (l.foldl (ej own (cH own succ f) v) (ei v st)).cQ/\∃ n,(l.foldl (ej own (cH own succ f) v) (ei v st)).num v=some n:=by
 obtain ⟨g1,hu1⟩:=g.open hn hv h0;have h2:=y5 hown (rK hn hown succ f) v l _ g1 ad;exact ⟨h2.1,by have:=h2.qj; omega,h2.2.2,_,h2.2.1 v (st.jl+1) (cv _ _ _)⟩
theorem T2 (names:List ByteArray):dp names AP:=⟨by unfold qj AP; simp,fun s n hs=>(by cases hs),by simp [AP],by simp [AP]⟩
section
variable {E:ByteArray->ByteArray->Prop}
inductive ph (E:ByteArray->ByteArray->Prop):ByteArray->ByteArray->Prop
 | refl (a:ByteArray):ph E a a
 | head {a b c:ByteArray}:E a b->ph E b c->ph E a c
theorem ph.trans {a b c:ByteArray} (h:ph E a b) (k:ph E b c):ph E a c:=by
 induction h with
 | refl=>exact k
 | head e _ ih=>exact .head e (ih k)
theorem ph.one {a b:ByteArray} (h:E a b):ph E a b:=.head h (.refl b)
def jS (E:ByteArray->ByteArray->Prop) (v:ByteArray):Prop:=∃ y,E v y/\ph E y v
theorem jS.of {a b:ByteArray} (h:ph E a b) (k:ph E b a) (hne:a≠b):jS E a:=by
 cases h with
 | refl=>exact (hne rfl).elim
 | head e r=>exact ⟨_,e,r.trans k⟩
structure Inv (E:ByteArray->ByteArray->Prop) (G:List ByteArray) (st:TS):Prop where
 le:∀ s n,st.num s=some n->1<=n/\n<=st.jl
 cQ:∀ x,x∈st.cQ->st.num x≠none
 on:∀ x,(st.on x).getD false=true↔x∈st.cQ
 gr:∀ g,g∈G->g∈st.cQ
 cl:∀ x,st.num x≠none->x∉st.cQ->∀ y,E x y->st.num y≠none/\y∉st.cQ
 bl:∀ x,st.num x≠none->x∉G->∀ y,E x y->st.num y≠none
 rg:∀ x,x∈st.cQ->∃ g,g∈G/\ph E x g
 b0:∀ x,st.num x=none->(st.back x).getD false=false
 bc:∀ x,st.num x≠none->x∉st.cQ->((st.back x).getD false=true↔jS E x)
 bw:∀ x,x∈st.cQ->(st.back x).getD false=true->E x x
 bb:∀ x,x∈st.cQ->x∉G->E x x->(st.back x).getD false=true
theorem Inv.low {G:List ByteArray} {st:TS} (i:Inv E G st) (v:ByteArray) (n:Nat):Inv E G (JO v n st):=⟨i.le,i.cQ,i.on,i.gr,i.cl,i.bl,i.rg,i.b0,i.bc,i.bw,i.bb⟩
theorem Inv.SW {G:List ByteArray} {st:TS} (i:Inv E G st) {x y:ByteArray} (h:ph E x y):st.num x≠none->x∉st.cQ->st.num y≠none/\y∉st.cQ:=by
 induction h with
 | refl=>exact fun h k=>⟨h,k⟩
 | head e _ ih=>intro h k; obtain ⟨h2,k2⟩:=i.cl _ h k _ e; exact ih h2 k2
theorem Inv.self {G:List ByteArray} {st:TS} (i:Inv E G st) {v w:ByteArray} (hv:v∈G) (he:w=v->E v v):Inv E G (fm v w st):=by
 unfold fm;split
 ·rename_i h;have hw:=i.gr v hv;have hn:=i.cQ v hw;refine ⟨i.le,i.cQ,i.on,i.gr,i.cl,i.bl,i.rg,fun x hx=>?_,fun x hx hxw=>?_,fun x hx hb=>?_,fun x hx hg hE=>?_⟩
  ·have hne:x≠v:=fun e=>hn (by rw [<- e]; exact hx)
   show (dy st.back v true x).getD false=false;rw [bR _ _ hne]; exact i.b0 x hx
  ·have hne:x≠v:=fun e=>hxw (by rw [e]; exact hw)
   show (dy st.back v true x).getD false=true↔_;rw [bR _ _ hne]; exact i.bc x hx hxw
  ·by_cases e:x=v
   ·subst e; exact he h
   ·have hb:(dy st.back v true x).getD false=true:=hb;rw [bR _ _ e] at hb; exact i.bw x hx hb
  ·have hne:x≠v:=fun e=>hg (by rw [e]; exact hv)
   show (dy st.back v true x).getD false=true;rw [bR _ _ hne]; exact i.bb x hx hg hE
 ·exact i
theorem Inv.open {G:List ByteArray} {st:TS} (i:Inv E G st) {v:ByteArray} (h0:st.num v=none):Inv E (v::G) (ei v st):=by
 have hw:v∉st.cQ:=fun h=>i.cQ v h h0
 have num_other:∀ {x},x≠v->(ei v st).num x=st.num x:=fun h=>bR _ _ h
 have mono:∀ {x},st.num x≠none->(ei v st).num x≠none:=by
  intro x h;rw [num_other (fun e=>h (by rw [e]; exact h0))]; exact h
 refine ⟨fun s n hs=>?_,fun x hx=>?_,fun x=>?_,fun g hg=>?_,fun x hx hxw y hy=>?_,fun x hx hxg y hy=>?_,fun x hx=>?_,fun x hx=>?_,fun x hx hxw=>?_,fun x hx hb=>?_,fun x hx hg hE=>?_⟩
 ·show 1<=n/\n<=st.jl+1
  by_cases e:s=v
  ·subst e;have hs:dy st.num s (st.jl+1) s=some n:=hs;rw [cv] at hs
   have:=Option.some.inj hs
   omega
  ·rw [num_other e] at hs
   have:=i.le s n hs
   omega
 ·rcases List.mem_append.1 (show x∈st.cQ++[v] from hx) with h | h
  ·exact mono (i.cQ x h)
  ·rw [List.mem_singleton.1 h];show dy st.num v _ v≠none;rw [cv]; simp
 ·show (dy st.on v true x).getD false=true↔x∈st.cQ++[v]
  by_cases e:x=v
  ·subst e; rw [cv]; simp
  ·rw [bR _ _ e,i.on x]; simp [e]
 ·show g∈st.cQ++[v];rcases List.mem_cons.1 hg with h | h
  ·simp [h]
  ·exact List.mem_append_left _ (i.gr g h)
 ·have hxw:x∉st.cQ++[v]:=hxw;have hne:x≠v:=fun e=>hxw (by simp [e])
  rw [num_other hne] at hx;obtain ⟨h1,h2⟩:=i.cl x hx (fun h=>hxw (List.mem_append_left _ h)) y hy;refine ⟨mono h1,?_⟩;show y∉st.cQ++[v];intro h;rcases List.mem_append.1 h with h | h
  ·exact h2 h
  ·exact h1 (by rw [List.mem_singleton.1 h]; exact h0)
 ·have hne:x≠v:=fun e=>hxg (by simp [e])
  rw [num_other hne] at hx;exact mono (i.bl x hx (fun h=>hxg (List.mem_cons_of_mem _ h)) y hy)
 ·rcases List.mem_append.1 (show x∈st.cQ++[v] from hx) with h | h
  ·obtain ⟨g,hg,r⟩:=i.rg x h;exact ⟨g,List.mem_cons_of_mem _ hg,r⟩
  ·rw [List.mem_singleton.1 h];exact ⟨v,aj,.refl v⟩
 ·have hne:x≠v:=by
   intro e;subst e;have hx:dy st.num x _ x=none:=hx;rw [cv] at hx; cases hx
  rw [num_other hne] at hx;exact i.b0 x hx
 ·have hxw:x∉st.cQ++[v]:=hxw;have hne:x≠v:=fun e=>hxw (by simp [e])
  rw [num_other hne] at hx;exact i.bc x hx (fun h=>hxw (List.mem_append_left _ h))
 ·rcases List.mem_append.1 (show x∈st.cQ++[v] from hx) with h | h
  ·exact i.bw x h hb
  ·rw [List.mem_singleton.1 h] at hb;have hb:(st.back v).getD false=true:=hb;rw [i.b0 v h0] at hb; cases hb
 ·have hne:x≠v:=fun e=>hg (by simp [e])
  rcases List.mem_append.1 (show x∈st.cQ++[v] from hx) with h | h
  ·exact i.bb x h (fun k=>hg (List.mem_cons_of_mem _ k)) hE
  ·exact (hne (List.mem_singleton.1 h)).elim
def tP (st:TS) (v:ByteArray):Nat:=(st.low v).getD 0
def rq (st:TS) (v:ByteArray):Nat:=(st.num v).getD 0
def Rj (s0 st:TS):Prop:=∀ s,s0.num s≠none->st.num s=s0.num s/\st.low s=s0.low s/\st.back s=s0.back s
def Uw (s0 st:TS):Prop:=∀ s n,s0.num s=none->st.num s=some n->s0.jl<n
def RW (E:ByteArray->ByteArray->Prop) (v:ByteArray) (s0 st:TS) (x:ByteArray):Prop:=s0.num x=none/\ph E v x/\∀ y,E x y->y∈s0.cQ->tP st v<=rq st y
structure nK (E:ByteArray->ByteArray->Prop) (G:List ByteArray) (v:ByteArray) (s0 st:TS):Prop where
 inv:Inv E G st
 old:Rj s0 st
 jl:s0.jl<=st.jl
 new:Uw s0 st
 num:∃ n,st.num v=some n
 cQ:∃ X,st.cQ=s0.cQ++X/\∀ x,x∈X->RW E v s0 st x
 low:tP st v<rq st v->∃ y,y∈s0.cQ/\ph E v y/\st.num y=some (tP st v)
structure FJ (E:ByteArray->ByteArray->Prop) (own:ByteArray->Bool) (G:List ByteArray) (v:ByteArray) (P:List ByteArray) (s0 st:TS):Prop where
 inv:Inv E (v::G) st
 old:Rj s0 st
 jl:s0.jl<=st.jl
 new:Uw s0 st
 num:st.num v=some (s0.jl+1)
 cQ:∃ X,st.cQ=s0.cQ++v::X/\∀ x,x∈X->x≠v/\RW E v s0 st x
 low:tP st v<s0.jl+1->∃ y,y∈s0.cQ/\ph E v y/\st.num y=some (tP st v)
 kV:∀ w,w∈P->own w=true->st.num w≠none/\(w∈s0.cQ->tP st v<=rq st w)/\(w=v->(st.back v).getD false=true)
theorem FJ.start {own:ByteArray->Bool} {G:List ByteArray} {v:ByteArray} {s0:TS} (i:Inv E G s0) (h0:s0.num v=none):FJ E own G v [] s0 (ei v s0):=by
 refine ⟨i.open h0,fun s hs=>?_,Nat.le_succ _,fun s n hs hn=>?_,cv _ _ _,⟨[],rfl,fun x hx=>by simp at hx⟩,fun hl=>?_,fun w hw=>by simp at hw⟩
 ·have hne:s≠v:=fun e=>hs (by rw [e]; exact h0)
  exact ⟨bR _ _ hne,bR _ _ hne,rfl⟩
 ·by_cases e:s=v
  ·subst e;have hn:dy s0.num s (s0.jl+1) s=some n:=hn;rw [cv] at hn
   have:=Option.some.inj hn
   omega
  ·have hn:dy s0.num v (s0.jl+1) s=some n:=hn;rw [bR _ _ e,hs] at hn; cases hn
 ·have hl:(dy s0.low v (s0.jl+1) v).getD 0<s0.jl+1:=hl;rw [cv] at hl;simp at hl
theorem FJ.self {own:ByteArray->Bool} {G:List ByteArray} {v w:ByteArray} {P:List ByteArray} {s0 st:TS} (m:FJ E own G v P s0 st) (h0:s0.num v=none) (he:w=v->E v v) :
  FJ E own G v P s0 (fm v w st)/\(w=v->((fm v w st).back v).getD false=true):=by
 obtain ⟨k1,k2,k3,k4,k5⟩:=gV v w st;have hb:∀ s,s≠v->(fm v w st).back s=st.back s:=by
  intro s hs;unfold fm;split
  ·exact bR _ _ hs
  ·rfl
 have hbv:w=v->((fm v w st).back v).getD false=true:=by
  intro e;unfold fm;rw [if_pos e];show (dy st.back v true v).getD false=true;rw [cv]; rfl
 have hbv2:(st.back v).getD false=true->((fm v w st).back v).getD false=true:=by
  intro h;unfold fm;split
  ·show (dy st.back v true v).getD false=true;rw [cv]; rfl
  ·exact h
 refine ⟨⟨m.inv.self aj he,fun s hs=>?_,by rw [k2]; exact m.jl,fun s n hs hn=>by rw [k1] at hn; exact m.new s n hs hn,by rw [k1]; exact m.num,?_,?_,fun u hu ho=>?_⟩,hbv⟩
 ·have hne:s≠v:=fun e=>hs (by rw [e]; exact h0)
  rw [k1,k5,hb s hne];exact m.old s hs
 ·obtain ⟨X,hX,hx⟩:=m.cQ;refine ⟨X,by rw [k3]; exact hX,fun x hxX=>?_⟩
  have:=hx x hxX
  unfold RW tP rq at *;rw [k1,k5];exact this
 ·unfold tP;rw [k1,k5];exact m.low
 ·obtain ⟨a,b,c⟩:=m.kV u hu ho;unfold tP rq at *;rw [k1,k5];exact ⟨a,b,fun e=>hbv2 (c e)⟩
theorem oD (v:ByteArray) (n:Nat) (st:TS):tP (JO v n st) v=min (tP st v) n:=by
 unfold tP;show (dy st.low v _ v).getD 0=_;rw [cv]; rfl
theorem FJ.rest {own:ByteArray->Bool} {G:List ByteArray} {v w:ByteArray} {P:List ByteArray} {s0 st:TS} {kV:ByteArray->TS->TS} (i0:Inv E G s0) (m:FJ E own G v P s0 st) (h0:s0.num v=none) (hG:∀ g,g∈G->ph E g v) (he:E v w)
  (hb:w=v->(st.back v).getD false=true) (hz:(st.num w).getD 0=0->st.num w=none) (hvis:st.num w=none->(∀ g,g∈v::G->ph E g w)->nK E (v::G) w st (kV w st)) :
  FJ E own G v (P++[w]) s0 (sJ kV v w st):=by
 obtain ⟨X,hX,hx⟩:=m.cQ;have hv:st.num v≠none:=by rw [m.num]; simp
 have old1:∀ s,s0.num s≠none->st.num s≠none:=fun s hs=>by rw [(m.old s hs).1]; exact hs
 have hsub:∀ y,y∈s0.cQ->y∈st.cQ:=fun y hy=>by rw [hX]; exact List.mem_append_left _ hy
 unfold sJ;split
 ·rename_i hw0;have hw:=hz hw0;have hwv:w≠v:=fun e=>hv (by rw [<- e]; exact hw)
  have p:=hvis hw (fun g hg=>by
   rcases List.mem_cons.1 hg with h | h
   ·rw [h]; exact .one he
   ·exact (hG g h).trans (.one he))
  generalize kV w st=s2 at p ⊢;show FJ E own G v (P++[w]) s0 (JO v (tP s2 w) s2);obtain ⟨X2,hX2,hx2⟩:=p.cQ;have hlow2:tP s2 v=tP st v:=by unfold tP; rw [(p.old v hv).2.1]
  have hnum2:s2.num v=some (s0.jl+1):=by rw [(p.old v hv).1]; exact m.num
  refine ⟨p.inv.low v _,fun s hs=>?_,Nat.le_trans m.jl p.jl,fun s n hs hn=>?_,hnum2,⟨X++X2,?_,fun x hxX=>?_⟩,fun hl=>?_,fun u hu ho=>?_⟩
  ·have hne:s≠v:=fun e=>hs (by rw [e]; exact h0)
   obtain ⟨a,b,c⟩:=m.old s hs;obtain ⟨a2,b2,c2⟩:=p.old s (old1 s hs);refine ⟨a2.trans a,?_,c2.trans c⟩;show dy s2.low v _ s=_;rw [bR _ _ hne];exact b2.trans b
  ·by_cases h1:st.num s=none
   ·have:=p.new s n h1 hn
    have:=m.jl
    omega
   ·have hn:s2.num s=some n:=hn;rw [(p.old s h1).1] at hn;exact m.new s n hs hn
  ·show s2.cQ=_;rw [hX2,hX,List.append_assoc,List.cons_append]
  ·rcases List.mem_append.1 hxX with h | h
   ·obtain ⟨a,b,c,d⟩:=hx x h;refine ⟨a,b,c,fun y hy hyw=>?_⟩;rw [oD,hlow2]
    have:=d y hy hyw
    have e:rq s2 y=rq st y:=by unfold rq; rw [(p.old y (m.inv.cQ y (hsub y hyw))).1]
    show _<=rq s2 y;omega
   ·obtain ⟨b,c,d⟩:=hx2 x h;refine ⟨fun e=>hv (by rw [<- e]; exact b),?_,ph.head he c,fun y hy hyw=>?_⟩
    ·apply Classical.byContradiction;intro k;exact old1 x k b
    ·rw [oD]
     have:=d y hy (hsub y hyw)
     show _<=rq s2 y;omega
  ·rw [oD,hlow2] at hl ⊢;show ∃ y,y∈s0.cQ/\ph E v y/\s2.num y=_
   by_cases hc:tP st v<=tP s2 w
   ·rw [Nat.min_eq_left hc] at hl ⊢;obtain ⟨y,hy,hr,hn⟩:=m.low hl;exact ⟨y,hy,hr,by rw [(p.old y (m.inv.cQ y (hsub y hy))).1]; exact hn⟩
   ·rw [Nat.min_eq_right ad] at hl ⊢;obtain ⟨n,hn⟩:=p.num;have h2:=p.new w n hw hn;have h3:=m.jl;obtain ⟨y,hy,hr,hyn⟩:=p.low (by unfold rq; rw [hn]; simp; omega);refine ⟨y,?_,ph.head he hr,hyn⟩;rw [hX] at hy;rcases List.mem_append.1 hy with h | h
    ·exact h
    ·rcases List.mem_cons.1 h with h | h
     ·rw [h,hnum2] at hyn
      have:=Option.some.inj hyn
      omega
     ·have hyst:st.num y≠none:=m.inv.cQ y (by rw [hX]; exact List.mem_append_right _ (List.mem_cons_of_mem _ h));rw [(p.old y hyst).1] at hyn
      have:=m.new y _ (hx y h).2.1 hyn
      omega
  ·rw [oD,hlow2];rcases List.mem_append.1 hu with h | h
   ·obtain ⟨a,b,c⟩:=m.kV u h ho;have hn:s2.num u=st.num u:=(p.old u a).1;refine ⟨by show s2.num u≠none; rw [hn]; exact a,fun k=>?_,fun k=>?_⟩
    ·have:=b k
     have e:rq s2 u=rq st u:=by unfold rq; rw [hn]
     show _<=rq s2 u;omega
    ·show (s2.back v).getD false=true;rw [(p.old v hv).2.2];exact c k
   ·have h:=List.mem_singleton.1 h;subst h;obtain ⟨n,hn⟩:=p.num;exact ⟨by show s2.num u≠none; rw [hn]; simp,fun k=>(m.inv.cQ u (hsub u k) hw).elim,fun k=>(hwv k).elim⟩
 ·rename_i hw0;have hw:st.num w≠none:=fun e=>hw0 (by rw [e]; rfl)
  obtain ⟨n,hn⟩:=Option.ne_none_iff_exists'.1 hw;split
  ·rename_i hon;have hwy:=(m.inv.on w).1 hon;have hnn:(st.num w).getD 0=n:=by rw [hn]; rfl
   rw [hnn];refine ⟨m.inv.low v _,fun s hs=>?_,m.jl,m.new,m.num,⟨X,hX,fun x hxX=>?_⟩,fun hl=>?_,fun u hu ho=>?_⟩
   ·have hne:s≠v:=fun e=>hs (by rw [e]; exact h0)
    obtain ⟨a,b,c⟩:=m.old s hs;refine ⟨a,?_,c⟩;show dy st.low v _ s=_;rw [bR _ _ hne];exact b
   ·obtain ⟨a,b,c,d⟩:=hx x hxX;refine ⟨a,b,c,fun y hy hyw=>?_⟩;rw [oD]
    have:=d y hy hyw
    show _<=rq st y;omega
   ·rw [oD] at hl ⊢;show ∃ y,y∈s0.cQ/\ph E v y/\st.num y=_
    by_cases hc:tP st v<=n
    ·rw [Nat.min_eq_left hc] at hl ⊢;exact m.low hl
    ·rw [Nat.min_eq_right ad] at hl ⊢;refine ⟨w,?_,.one he,hn⟩;rw [hX] at hwy;rcases List.mem_append.1 hwy with h | h
     ·exact h
     ·rcases List.mem_cons.1 h with h | h
      ·rw [h,m.num] at hn
       have:=Option.some.inj hn
       omega
      ·have:=m.new w _ (hx w h).2.1 hn
       omega
   ·rw [oD];rcases List.mem_append.1 hu with h | h
    ·obtain ⟨a,b,c⟩:=m.kV u h ho;refine ⟨a,fun k=>?_,c⟩
     have:=b k
     show _<=rq st u;omega
    ·have h:=List.mem_singleton.1 h;subst h;refine ⟨hw,fun k=>?_,hb⟩;show _<=(st.num u).getD 0;rw [hnn];omega
  ·rename_i hon;refine ⟨m.inv,m.old,m.jl,m.new,m.num,m.cQ,m.low,fun u hu ho=>?_⟩;rcases List.mem_append.1 hu with h | h
   ·exact m.kV u h ho
   ·have h:=List.mem_singleton.1 h;subst h;exact ⟨hw,fun k=>(hon ((m.inv.on u).2 (hsub u k))).elim,hb⟩
theorem FJ.Sp {own:ByteArray->Bool} {succ:ByteArray->List ByteArray} {G:List ByteArray} {v:ByteArray} {s0 st:TS} (hE:∀ a b,E a b↔b∈succ a/\own b=true) (i0:Inv E G s0) (m:FJ E own G v (succ v) s0 st) (hl:tP st v<rq st v):nK E G v s0 st:=by
 obtain ⟨X,hX,hx⟩:=m.cQ;have hnv:rq st v=s0.jl+1:=by unfold rq; rw [m.num]; rfl
 have i:=m.inv;have hvw:v∈st.cQ:=i.gr v aj;have kV:∀ y,E v y->st.num y≠none/\(y∈s0.cQ->tP st v<=rq st y)/\(y=v->(st.back v).getD false=true):=fun y hy=>m.kV y ((hE v y).1 hy).1 ((hE v y).1 hy).2
 obtain ⟨y0,hy0,hr0,hn0⟩:=m.low ad;obtain ⟨g0,hg0,hr1⟩:=i0.rg y0 hy0;refine ⟨⟨i.le,i.cQ,i.on,fun g hg=>i.gr g (List.mem_cons_of_mem _ hg),i.cl,fun x hx1 hxg y hy=>?_,fun x hxw=>?_,i.b0,i.bc,i.bw,fun x hxw hxg hxx=>?_⟩,m.old,m.jl,m.new,⟨_,m.num⟩,⟨v::X,hX,fun x hxX=>?_⟩,fun _=>⟨y0,hy0,hr0,hn0⟩⟩
 ·by_cases e:x=v
  ·subst e; exact (kV y hy).1
  ·exact i.bl x hx1 (by simp [e,hxg]) y hy
 ·obtain ⟨g,hg,r⟩:=i.rg x hxw;rcases List.mem_cons.1 hg with h | h
  ·rw [h] at r;exact ⟨g0,hg0,(r.trans hr0).trans hr1⟩
  ·exact ⟨g,h,r⟩
 ·by_cases e:x=v
  ·subst e; exact (kV x hxx).2.2 rfl
  ·exact i.bb x hxw (by simp [e,hxg]) hxx
 ·rcases List.mem_cons.1 hxX with h | h
  ·subst h;refine ⟨?_,.refl x,fun y hy hyw=>(kV y hy).2.1 hyw⟩;cases hh:s0.num x with
   | none=>rfl
   | some n =>
    have h1:=(m.old x (by rw [hh]; simp)).1;rw [hh,m.num] at h1
    have:=Option.some.inj h1
    have:=(i0.le x n hh).2
    omega
  ·exact (hx x h).2
open Classical in
theorem RT (pF:Bool) (x:ByteArray) (l:List ByteArray):∀ st:TS,((l.foldl (oN pF) st).on x).getD false=(if x∈l then false else (st.on x).getD false)/\((l.foldl (oN pF) st).back x).getD false=(if x∈l then ((st.back x).getD false || pF) else (st.back x).getD false)/\(x∉l->(l.foldl (oN pF) st).back x=st.back x):=by
 induction l with
 | nil=>intro st; simp
 | cons y l ih =>
  intro st;rw [List.foldl_cons];obtain ⟨a,b,c⟩:=ih (oN pF st y);rw [a,b]
  by_cases e:x=y
  ·subst e;have e1:((oN pF st x).on x)=some false:=cv _ _ _;have e2:((oN pF st x).back x)=some ((st.back x).getD false || pF):=cv _ _ _;rw [e1,e2];refine ⟨aj,by by_cases hm:x∈l <;> simp [hm],fun h=>(h aj).elim⟩
  ·have e1:((oN pF st y).on x)=st.on x:=bR _ _ e;have e2:((oN pF st y).back x)=st.back x:=bR _ _ e;rw [e1,e2];refine ⟨by simp [e],by simp [e],fun h=>?_⟩;rw [c (fun k=>h (List.mem_cons_of_mem _ k)),e2]
open Classical in
theorem FJ.Uk {own:ByteArray->Bool} {succ:ByteArray->List ByteArray} {G:List ByteArray} {v:ByteArray} {s0 st:TS} (hE:∀ a b,E a b↔b∈succ a/\own b=true) (i0:Inv E G s0) (m:FJ E own G v (succ v) s0 st) (h0:s0.num v=none) (hG:∀ g,g∈G->ph E g v) (hl:¬ tP st v<rq st v):nK E G v s0 (qG v st):=by
 obtain ⟨X,hX,hx⟩:=m.cQ;have hnv:rq st v=s0.jl+1:=by unfold rq; rw [m.num]; rfl
 have i:=m.inv;have hvw:v∈st.cQ:=i.gr v aj;have kV:∀ y,E v y->st.num y≠none/\(y∈s0.cQ->tP st v<=rq st y)/\(y=v->(st.back v).getD false=true):=fun y hy=>m.kV y ((hE v y).1 hy).1 ((hE v y).1 hy).2
 have dU:v∉s0.cQ:=fun h=>i0.cQ v h h0
 obtain ⟨e1,e2,e3⟩:=Ij (a:=s0.cQ) (v:=v) (b:=st.cQ) ⟨X,by rw [hX]; simp⟩ dU rfl;have hdrop:st.cQ.drop (qn v st)=v::X:=by rw [e1,hX]; simp
 have hbig:decide (1<st.cQ.length-qn v st)=decide (1<(v::X).length):=by rw [<- hdrop,List.length_drop]
 have hway:(qG v st).cQ=s0.cQ:=by rw [uh,e1,e2]
 have hnum:=nE v st;have hlow:=Mn v st;have hcnt:=zV v st;have hoff:=fun x=>RT (decide (1<(v::X).length)) x (v::X) st
 have hon:∀ x,((qG v st).on x).getD false=(if x∈v::X then false else (st.on x).getD false):=by
  intro x;rw [<- (hoff x).1];unfold qG;rw [hdrop,hbig]
 have hbk:∀ x,((qG v st).back x).getD false=(if x∈v::X then ((st.back x).getD false || decide (1<(v::X).length)) else (st.back x).getD false):=by
  intro x;rw [<- (hoff x).2.1];unfold qG;rw [hdrop,hbig]
 have hbo:∀ x,x∉v::X->(qG v st).back x=st.back x:=by
  intro x hh;rw [<- (hoff x).2.2 hh];unfold qG;rw [hdrop,hbig]
 have hnew:∀ x,x∈v::X->s0.num x=none:=by
  intro x h;rcases List.mem_cons.1 h with h | h
  ·rw [h]; exact h0
  ·exact (hx x h).2.1
 have hdis:∀ x,x∈s0.cQ->x∉v::X:=fun x h k=>i0.cQ x h (hnew x k)
 have hmem:∀ x,x∈st.cQ↔x∈s0.cQ\/x∈v::X:=fun x=>by rw [hX]; exact List.mem_append
 have hlt:∀ y,y∈s0.cQ->¬ tP st v<=rq st y:=by
  intro y hy;obtain ⟨n,hn⟩:=Option.ne_none_iff_exists'.1 (i0.cQ y hy)
  have:=(i0.le y n hn).2
  have e:rq st y=n:=by unfold rq; rw [(m.old y (i0.cQ y hy)).1,hn]; rfl
  omega
 have hblk:∀ x,st.num x≠none->x∉G->∀ y,E x y->st.num y≠none:=by
  intro x hx1 hxg y hy
  by_cases e:x=v
  ·subst e; exact (kV y hy).1
  ·exact i.bl x hx1 (by simp [e,hxg]) y hy
 have hrv:∀ x,x∈st.cQ->ph E x v:=by
  intro x h;obtain ⟨g,hg,r⟩:=i.rg x h;rcases List.mem_cons.1 hg with h | h
  ·rw [h] at r; exact r
  ·exact r.trans (hG g h)
 refine ⟨⟨fun s n hs=>?_,fun x hxw=>?_,fun x=>?_,fun g hg=>?_,fun x hx1 hxw y hy=>?_,fun x hx1 hxg y hy=>?_,fun x hxw=>?_,fun x hx0=>?_,fun x hx1 hxw=>?_,fun x hxw hb=>?_,fun x hxw hxg hxx=>?_⟩,fun s hs=>?_,by rw [hcnt]; exact m.jl,fun s n hs hn=>by rw [hnum] at hn; exact m.new s n hs hn,⟨_,by rw [hnum]; exact m.num⟩,⟨[],by rw [hway]; simp,fun x hxX=>by simp at hxX⟩,fun hlt=>?_⟩
 ·rw [hnum] at hs; rw [hcnt]; exact i.le s n hs
 ·rw [hnum]; rw [hway] at hxw; exact i.cQ x ((hmem x).2 (.inl hxw))
 ·rw [hon,hway]
  by_cases h:x∈v::X
  ·rw [if_pos h];exact ⟨fun k=>(by cases k),fun k=>(hdis x k h).elim⟩
  ·rw [if_neg h,i.on x,hmem];exact ⟨fun k=>k.resolve_right h,.inl⟩
 ·rw [hway]; exact i0.gr g hg
 ·rw [hnum] at hx1 ⊢;rw [hway] at hxw ⊢
  by_cases h:x∈v::X
  ·have hxg:x∉G:=fun k=>hxw (i0.gr x k)
   refine ⟨hblk x hx1 hxg y hy,fun hys=>hlt y hys ?_⟩;rcases List.mem_cons.1 h with h | h
   ·subst h; exact (kV y hy).2.1 hys
   ·exact (hx x h).2.2.2 y hy hys
  ·obtain ⟨a,b⟩:=i.cl x hx1 (fun k=>((hmem x).1 k).elim hxw h) y hy;exact ⟨a,fun k=>b ((hmem y).2 (.inl k))⟩
 ·rw [hnum] at hx1 ⊢;exact hblk x hx1 hxg y hy
 ·rw [hway] at hxw; exact i0.rg x hxw
 ·rw [hnum] at hx0;rw [hbk,if_neg (fun k=>i.cQ x ((hmem x).2 (.inr k)) hx0)];exact i.b0 x hx0
 ·rw [hnum] at hx1;rw [hway] at hxw;rw [hbk]
  by_cases h:x∈v::X
  ·rw [if_pos h]
   by_cases hb:1<(v::X).length
   ·rw [decide_eq_true hb,Bool.or_true];refine ⟨fun _=>?_,fun _=>rfl⟩
    by_cases e:x=v
    ·subst e;obtain ⟨z,hz⟩:∃ z,z∈X:=by
      cases X with
      | nil=>simp at hb
      | cons z X=>exact ⟨z,aj⟩
     exact jS.of (hx z hz).2.2.1 (hrv z ((hmem z).2 (.inr (List.mem_cons_of_mem _ hz)))) (fun e=>(hx z hz).1 e.symm)
    ·have hxX:x∈X:=(List.mem_cons.1 h).resolve_left e;exact jS.of (hrv x ((hmem x).2 (.inr h))) (hx x hxX).2.2.1 e
   ·rw [decide_eq_false hb,Bool.or_false];have hX0:X=[]:=by
     cases X with
     | nil=>rfl
     | cons z X=>simp at hb
    subst hX0;have e:x=v:=by simpa using h
    subst e;refine ⟨fun k=>⟨x,i.bw x hvw k,.refl x⟩,?_⟩;rintro ⟨u,hu,r⟩;obtain ⟨a,b,c⟩:=kV u hu
    by_cases hus:u∈st.cQ
    ·rcases (hmem u).1 hus with k | k
     ·exact (hlt u k (b k)).elim
     ·exact c (by simpa using k)
    ·exact ((i.SW r a hus).2 hvw).elim
  ·rw [if_neg h];exact i.bc x hx1 (fun k=>((hmem x).1 k).elim hxw h)
 ·rw [hway] at hxw;rw [hbk,if_neg (hdis x hxw)] at hb;exact i.bw x ((hmem x).2 (.inl hxw)) hb
 ·rw [hway] at hxw;rw [hbk,if_neg (hdis x hxw)];exact i.bb x ((hmem x).2 (.inl hxw)) (fun k=>by
   rcases List.mem_cons.1 k with k | k
   ·exact dU (by rw [<- k]; exact hxw)
   ·exact hxg k) hxx
 ·have hns:s∉v::X:=fun k=>hs (hnew s k)
  rw [hnum,hlow,hbo s hns];exact m.old s hs
 ·unfold tP rq at hlt hl;rw [hlow,hnum] at hlt;exact (hl hlt).elim
end
section
variable {own:ByteArray->Bool} {succ:ByteArray->List ByteArray} {names:List ByteArray}
def Edge (own:ByteArray->Bool) (succ:ByteArray->List ByteArray) (a b:ByteArray):Prop:=b∈succ a/\own b=true
theorem Dm (hn:names.Nodup) (hown:∀ s,own s=true->s∈names) {f:Nat} (hvis:∀ (v:ByteArray) (G:List ByteArray) (st:TS),dp names st->Inv (Edge own succ) G st->v∈names->st.num v=Option.none->Sx.qj names st<=f->(∀ g,g∈G->ph (Edge own succ) g v)->nK (Edge own succ) G v st (cH own succ f v st))
  {v:ByteArray} {G:List ByteArray} {s0:TS} (i0:Inv (Edge own succ) G s0) (h0:s0.num v=Option.none) (hG:∀ g,g∈G->ph (Edge own succ) g v) :
  ∀ (l P:List ByteArray) (st:TS),(∀ w,w∈l->w∈succ v)->dp names st->Sx.qj names st<=f->FJ (Edge own succ) own G v P s0 st->FJ (Edge own succ) own G v (P++l) s0 (l.foldl (ej own (cH own succ f) v) st)
 | [],P,st,hl,g,hu,m=>by simpa using m
 | w::l,P,st,hl,g,hu,m=>by
  rw [List.foldl_cons,show P++w::l=(P++[w])++l from aj];have hok:=Fy hown (rK hn hown succ f) (v:=v) (w:=w) g hu;refine Dm hn hown hvis i0 h0 hG l (P++[w]) _ (fun u hu=>hl u (List.mem_cons_of_mem _ hu)) hok.1 (Nat.le_trans hok.qj hu) ?_;unfold ej;split
  ·rename_i ho;have he:Edge own succ v w:=⟨hl w aj,ho⟩
   obtain ⟨m1,hb⟩:=m.self (w:=w) h0 (fun e=>by rw [e] at he; exact he);have g1:=g.self v w;have hu1:Sx.qj names (fm v w st)<=f:=by unfold Sx.qj; rw [(gV v w st).1]; exact hu
   exact m1.rest i0 h0 hG he hb (fun hz=>g1.none hz) (fun hw hG2=>hvis w (v::G) _ g1 m1.inv (hown w ho) hw hu1 hG2)
  ·rename_i ho;refine ⟨m.inv,m.old,m.jl,m.new,m.num,m.cQ,m.low,fun u hu ho2=>?_⟩;rcases List.mem_append.1 hu with h | h
   ·exact m.kV u h ho2
   ·rw [List.mem_singleton.1 h] at ho2;exact (ho ho2).elim
theorem zE (hn:names.Nodup) (hown:∀ s,own s=true->s∈names):∀ (f:Nat) (v:ByteArray) (G:List ByteArray) (st:TS),dp names st->Inv (Edge own succ) G st->v∈names->st.num v=Option.none->Sx.qj names st<=f->(∀ g,g∈G->ph (Edge own succ) g v)->nK (Edge own succ) G v st (cH own succ f v st)
 | 0,v,G,st,g,i,hv,h0,hu,hG=>by
  have:=(g.open hn hv h0).2
  omega
 | f+1,v,G,st,g,i,hv,h0,hu,hG=>by
  obtain ⟨g1,hu1⟩:=g.open hn hv h0;have m:=Dm hn hown (zE hn hown f) i h0 hG (succ v) [] _ (fun _ h=>h) g1 ad (FJ.start i h0);rw [List.nil_append] at m;unfold cH;split
  ·rename_i hl;exact m.Sp (fun a b=>Iff.rfl) i hl
  ·rename_i hl;exact m.Uk (fun a b=>Iff.rfl) i h0 hG hl
theorem Vy (E:ByteArray->ByteArray->Prop):Inv E [] AP:=by
 refine ⟨fun s n hs=>(by cases hs),fun x hx=>by simp [AP] at hx,fun x=>by simp [AP],fun g hg=>by simp at hg,fun x hx=>(hx rfl).elim,fun x hx=>(hx rfl).elim,fun x hx=>by simp [AP] at hx,fun x hx=>rfl,fun x hx=>(hx rfl).elim,fun x hx=>by simp [AP] at hx,fun x hx=>by simp [AP] at hx⟩
structure Tl (own:ByteArray->Bool) (succ:ByteArray->List ByteArray) (names:List ByteArray) (P:List ByteArray) (st:TS):Prop where
 Da:dp names st
 inv:Inv (Edge own succ) [] st
 cQ:st.cQ=[]
 kV:∀ s,s∈P->st.num s≠Option.none
theorem MX (hn:names.Nodup) (hown:∀ s,own s=true->s∈names) {P:List ByteArray} {st:TS} (t:Tl own succ names P st) {v:ByteArray} (hv:v∈names):Tl own succ names (P++[v]) (vP own succ names.length st v):=by
 have hu:Sx.qj names st<=names.length:=List.length_filter_le _ _;unfold vP;split
 ·rename_i h;have h0:=t.Da.none h;have p:=zE hn hown names.length v [] st t.Da t.inv hv h0 hu (fun g hg=>by simp at hg);have k:=rK hn hown succ names.length v st t.Da hv h0 hu;refine ⟨k.1,p.inv,?_,fun s hs=>?_⟩
  ·cases hw:(cH own succ names.length v st).cQ with
   | nil=>rfl
   | cons x l =>
    obtain ⟨g,hg,_⟩:=p.inv.rg x (by rw [hw]; simp);simp at hg
  ·rcases List.mem_append.1 hs with h | h
   ·rw [(p.old s (t.kV s h)).1]; exact t.kV s h
   ·rw [List.mem_singleton.1 h];obtain ⟨n,hn⟩:=p.num;rw [hn]; simp
 ·rename_i h;refine ⟨t.Da,t.inv,t.cQ,fun s hs=>?_⟩;rcases List.mem_append.1 hs with k | k
  ·exact t.kV s k
  ·rw [List.mem_singleton.1 k];intro e;exact h (by rw [e]; rfl)
theorem TU (names:List ByteArray):Tl own succ names [] AP:=⟨T2 names,Vy _,rfl,fun s hs=>by simp at hs⟩
theorem CI (hn:names.Nodup) (hown:∀ s,own s=true->s∈names):∀ (l P:List ByteArray) (st:TS),(∀ s,s∈l->s∈names)->Tl own succ names P st->Tl own succ names (P++l) (l.foldl (vP own succ names.length) st)
 | [],P,st,hl,t=>by simpa using t
 | w::l,P,st,hl,t=>by
  rw [List.foldl_cons,show P++w::l=(P++[w])++l from aj];exact CI hn hown l _ _ (fun s hs=>hl s (List.mem_cons_of_mem _ hs)) (MX hn hown t (hl w aj))
theorem jS.Rf {v:ByteArray} (h:jS (Edge own succ) v):own v=true:=by
 obtain ⟨y,e,r⟩:=h;have key:∀ a b,ph (Edge own succ) a b->own a=true->own b=true:=by
  intro a b r
  induction r with
  | refl=>exact id
  | head e _ ih=>exact fun _=>ih e.2
 exact key _ _ r e.2
theorem Gs (hn:names.Nodup) (hown:∀ s,own s=true->s∈names) (s:ByteArray):((Et own succ names).back s).getD false=true↔jS (Edge own succ) s:=by
 have t:Tl own succ names ([]++names) (Et own succ names):=CI hn hown names [] AP (fun _ h=>h) (TU names);rw [List.nil_append] at t
 by_cases h:(Et own succ names).num s=Option.none
 ·rw [t.inv.b0 s h];refine ⟨fun k=>(by cases k),fun k=>?_⟩;exact (t.kV s (hown s k.Rf) h).elim
 ·exact t.inv.bc s h (by rw [t.cQ]; simp)
end
theorem lz {α:Type} [DecidableEq α]:∀ (l m:List α),l.Nodup->(∀ x,x∈l->x∈m)->l.length<=m.length
 | [],m,_,_=>aj
 | x::l,m,hn,hs=>by
  obtain ⟨h1,h2⟩:=List.nodup_cons.1 hn;have hx:=hs x aj
  have:=lz l (m.erase x) h2 (fun y hy=>(List.mem_erase_of_ne (fun e=>h1 (by rw [<- e]; exact hy))).2 (hs y (List.mem_cons_of_mem _ hy)))
  rw [List.length_erase_of_mem hx] at this;have hp:=List.length_pos_of_mem hx;simp only [List.length_cons];omega
theorem oZ {of og:ByteArray->Option bZ} {x:bZ} (h:∀ t,t∈x.ai->of t.1=og t.1):cY of x=cY og x:=by
 have h1:x.ai.flatMap (qS of)=x.ai.flatMap (qS og):=by
  have:∀ l:cZ,(∀ t,t∈l->of t.1=og t.1)->l.flatMap (qS of)=l.flatMap (qS og):=by
   intro l
   induction l with
   | nil=>intro _; rfl
   | cons t l ih =>
    intro hl;rw [List.flatMap_cons,List.flatMap_cons,ih (fun u hu=>hl u (List.mem_cons_of_mem _ hu))]
    congr 1
    unfold qS;rw [hl t aj]
  exact this _ h
 have h2:x.ai.foldl (fS of) x.num=x.ai.foldl (fS og) x.num:=by
  have:∀ (l:cZ) (n:Nat),(∀ t,t∈l->of t.1=og t.1)->l.foldl (fS of) n=l.foldl (fS og) n:=by
   intro l
   induction l with
   | nil=>intro n _; rfl
   | cons t l ih =>
    intro n hl;rw [List.foldl_cons,List.foldl_cons,ih _ (fun u hu=>hl u (List.mem_cons_of_mem _ hu))]
    congr 1
    unfold fS;rw [hl t aj]
  exact this _ _ h
 unfold cY;rw [h1,h2]
section
variable (own:ByteArray->Bool) (lin:ByteArray->bZ)
def cE:ByteArray->List ByteArray:=fun v=>(lin v).ai.map (·.1)
def qc:Nat->ByteArray->bZ
 | 0,v=>lin v
 | f+1,v=>cY (fun s=>if own s=true then some (qc f s) else none) (lin v)
end
def Hg (E:ByteArray->ByteArray->Prop):Nat->ByteArray->Prop
 | 0,_=>False
 | k+1,v=>∀ y,E v y->Hg E k y
theorem M1 {E:ByteArray->ByteArray->Prop} {Q:ByteArray->Prop} (h:∀ v,(∀ y,E v y->Q y)->Q v):∀ k v,Hg E k v->Q v
 | 0,v,hv=>hv.elim
 | k+1,v,hv=>h v fun y hy=>M1 h k y (hv y hy)
section
variable {own:ByteArray->Bool} {lin:ByteArray->bZ} {names:List ByteArray}
theorem kA {v s:ByteArray}:s∈cE lin v↔∃ t,t∈(lin v).ai/\t.1=s:=by simp [cE]
theorem xI:∀ (f g:Nat) (v:ByteArray),Hg (Edge own (cE lin)) f v->f<=g->qc own lin f v=qc own lin g v
 | 0,g,v,h,_=>h.elim
 | f+1,0,v,h,hfg=>ad
 | f+1,g+1,v,h,hfg=>by
  unfold qc;refine oZ fun t ht=>?_
  show (if own t.1=true then some (qc own lin f t.1) else none)=if own t.1=true then some (qc own lin g t.1) else none
  by_cases ho:own t.1=true
  ·rw [if_pos ho,if_pos ho,xI f g t.1 (h t.1 ⟨kA.2 ⟨t,ht,rfl⟩,ho⟩) ad]
  ·rw [if_neg ho,if_neg ho]
theorem T1 {E:ByteArray->ByteArray->Prop} (hE:∀ a b,E a b->b∈names) (hc:∀ v,¬ jS E v):∀ (f:Nat) (path:List ByteArray) (v:ByteArray),path.Nodup->(∀ p,p∈path->p∈names)->(∀ p,p∈path->∃ y,E p y/\ph E y v)->v∈names->names.length<=path.length+f->Hg E f v:=by
 have key:∀ (path:List ByteArray) (v:ByteArray),(∀ p,p∈path->∃ y,E p y/\ph E y v)->v∉path:=fun path v h hv=>hc v (h v hv)
 intro f
 induction f with
 | zero =>
  intro path v hn hp hr hv hl;have hvp:=key path v hr
  have:=lz (v::path) names (List.nodup_cons.2 ⟨hvp,hn⟩) (fun x hx=>by
   rcases List.mem_cons.1 hx with h | h
   ·rw [h]; exact hv
   ·exact hp x h)
  simp only [List.length_cons] at this;omega
 | succ f ih =>
  intro path v hn hp hr hv hl y hy;have hvp:=key path v hr;refine ih (v::path) y (List.nodup_cons.2 ⟨hvp,hn⟩) (fun x hx=>?_) (fun p hpp=>?_) (hE v y hy) (by simp only [List.length_cons]; omega)
  ·rcases List.mem_cons.1 hx with h | h
   ·rw [h]; exact hv
   ·exact hp x h
  ·rcases List.mem_cons.1 hpp with h | h
   ·rw [h]; exact ⟨y,hy,.refl y⟩
   ·obtain ⟨z,hz,r⟩:=hr p h;exact ⟨z,hz,r.trans (.one hy)⟩
def Iy (own:ByteArray->Bool) (lin:ByteArray->bZ) (names:List ByteArray) (v:ByteArray):bZ:=qc own lin names.length v
def Jh (own:ByteArray->Bool) (lin:ByteArray->bZ) (names:List ByteArray) (s:ByteArray):Option bZ:=if own s=true then some (Iy own lin names s) else none
theorem FW (hown:∀ s,own s=true↔s∈names) (hc:∀ v,¬ jS (Edge own (cE lin)) v) {v:ByteArray} (hv:v∈names):Hg (Edge own (cE lin)) names.length v :=
 T1 (fun a b e=>(hown b).1 e.2) hc names.length [] v List.nodup_nil (fun p hp=>by simp at hp) (fun p hp=>by simp at hp) hv aj
theorem Gf (hown:∀ s,own s=true↔s∈names) (hc:∀ v,¬ jS (Edge own (cE lin)) v) {v:ByteArray} (hv:v∈names):Iy own lin names v=cY (Jh own lin names) (lin v):=by
 have hg:=FW hown hc hv;unfold Iy;cases hN:names.length with
 | zero=>rw [hN] at hg; exact hg.elim
 | succ n =>
  rw [hN] at hg;unfold qc;refine oZ fun t ht=>?_
  unfold Jh Iy
  by_cases ho:own t.1=true
  ·rw [if_pos ho,if_pos ho,hN,xI n (n+1) t.1 (hg t.1 ⟨kA.2 ⟨t,ht,rfl⟩,ho⟩) ad]
  ·rw [if_neg ho,if_neg ho]
theorem PH (hown:∀ s,own s=true↔s∈names) (hc:∀ v,¬ jS (Edge own (cE lin)) v) {Q:ByteArray->Prop} (h:∀ v,(∀ y,Edge own (cE lin) v y->Q y)->Q v) {v:ByteArray} (hv:v∈names):Q v :=
 M1 h names.length v (FW hown hc hv)
end
theorem C9 {l:cZ} {t:ByteArray × Nat} (h:t∈Dc l):∃ p,p∈l/\p.1=t.1:=by
 apply Classical.byContradiction;intro k;have h0:cf l t.1=0:=yr fun p hp e=>k ⟨p,hp,e⟩
 have h1:=yM l t.1;rw [h0] at h1;have nf:=zB l;generalize Dc l=m at h h1 nf
 induction m with
 | nil=>simp at h
 | cons p m ih =>
  rcases List.mem_cons.1 h with h | h
  ·subst h;rw [nf.lZ] at h1
   have:=(nf.2 t aj).1
   omega
  ·have hl:=nf.head t h;rw [eC,if_neg (jU hl)] at h1;exact ih h ad nf.tail
open Classical in
theorem wM (f:ByteArray->Nat) (S:List ByteArray) (hS:S.Nodup):∀ l:cZ,(∀ p,p∈l->p.1∈S)->fP f l=(S.map fun s=>cf l s*f s).sum
 | [],_=>by
  have:∀ S:List ByteArray,(S.map fun s=>cf [] s*f s).sum=0:=by
   intro S
   induction S with
   | nil=>rfl
   | cons s S ih=>rw [List.map_cons,List.sum_cons,ih,zY]; omega
  rw [this]; rfl
 | p::l,h=>by
  have ih:=wM f S hS l (fun q hq=>h q (List.mem_cons_of_mem _ hq));have hp:=h p aj;rw [eK,ih];clear ih h;have key:∀ S:List ByteArray,S.Nodup->(S.map fun s=>cf (p::l) s*f s).sum=(if p.1∈S then p.2*f p.1 else 0)+(S.map fun s=>cf l s*f s).sum:=by
   intro S
   induction S with
   | nil=>intro _; simp
   | cons s S ih =>
    intro hn;obtain ⟨h1,h2⟩:=List.nodup_cons.1 hn;rw [List.map_cons,List.sum_cons,List.map_cons,List.sum_cons,ih h2,eC]
    by_cases e:p.1=s
    ·subst e;rw [if_pos rfl,if_neg h1,if_pos aj,Nat.add_mul];omega
    ·have:(p.1∈s::S)↔p.1∈S:=by simp [e]
     rw [if_neg e,Nat.zero_add];simp only [this];omega
  rw [key S hS,if_pos hp]
theorem Qr {f:ByteArray->Nat} {l m:cZ} (h:∀ s,cf l s % 4294967296=cf m s % 4294967296):fP f l % 4294967296=fP f m % 4294967296:=by
 obtain ⟨S,hS,hl⟩:∃ S:List ByteArray,S.Nodup/\∀ p,p∈l++m->p.1∈S:=by
  generalize l++m=w
  induction w with
  | nil=>exact ⟨[],List.nodup_nil,aj⟩
  | cons p w ih =>
   obtain ⟨S,hS,hw⟩:=ih
   by_cases hp:p.1∈S
   ·refine ⟨S,hS,fun q hq=>?_⟩;rcases List.mem_cons.1 hq with h | h
    ·rw [h]; exact hp
    ·exact hw q h
   ·refine ⟨p.1::S,List.nodup_cons.2 ⟨hp,hS⟩,fun q hq=>?_⟩;rcases List.mem_cons.1 hq with h | h
    ·rw [h]; simp
    ·exact List.mem_cons_of_mem _ (hw q h)
 rw [wM f S hS l (fun p hp=>hl p (List.mem_append_left _ hp)),wM f S hS m (fun p hp=>hl p (List.mem_append_right _ hp))];clear hS hl
 induction S with
 | nil=>rfl
 | cons s S ih =>
  rw [List.map_cons,List.sum_cons,List.map_cons,List.sum_cons,Nat.add_mod,ih,Nat.mul_mod,h s,<- Nat.mul_mod,<- Nat.add_mod]
theorem Nc (f:ByteArray->Nat) (l:cZ):fP f (Dc l) % 4294967296=fP f l % 4294967296:=Qr fun s=>by rw [yM,Nat.mod_mod]
def ja (f:ByteArray->Nat) (x:bZ):Nat:=(x.num+fP f x.ai) % 4294967296
theorem E0 (f:ByteArray->Nat) (l m:cZ):fP f (l++m)=fP f l+fP f m:=by
 induction l with
 | nil=>simp [fP]
 | cons p l ih=>rw [List.cons_append,eK,eK,ih]; omega
theorem GN (f:ByteArray->Nat) (n:Nat) (l:cZ):fP f (l.map fun u=>(u.1,n*u.2 % 4294967296)) % 4294967296=n*fP f l % 4294967296:=by
 induction l with
 | nil=>simp [fP]
 | cons p l ih =>
  rw [List.map_cons,eK,eK,Nat.add_mod,ih,mod_mul_r,<- Nat.add_mod,Nat.mul_add,Nat.mul_assoc]
where
 mod_mul_r {a b:Nat}:a % 4294967296*b % 4294967296=a*b % 4294967296:=M2 a b
theorem Kp {f g:ByteArray->Nat} {of:ByteArray->Option bZ} (h:∀ s,g s % 4294967296=(match of s with | none=>f s | some y=>ja f y) % 4294967296) (x:bZ):ja f (cY of x)=ja g x:=by
 unfold ja cY;show ((x.ai.foldl (fS of) x.num)+fP f (Dc (x.ai.flatMap (qS of)))) % 4294967296=(x.num+fP g x.ai) % 4294967296;rw [Nat.add_mod,Nc,<- Nat.add_mod];generalize x.num=n;generalize x.ai=l
 induction l generalizing n with
 | nil=>simp [fP]
 | cons t l ih =>
  rw [List.foldl_cons,List.flatMap_cons,E0,eK];have e1:(l.foldl (fS of) (fS of n t)+(fP f (qS of t)+fP f (l.flatMap (qS of)))) % 4294967296=(fP f (qS of t)+(fS of n t+fP g l)) % 4294967296:=by
   rw [show l.foldl (fS of) (fS of n t)+(fP f (qS of t)+fP f (l.flatMap (qS of)))=fP f (qS of t)+(l.foldl (fS of) (fS of n t)+fP f (l.flatMap (qS of))) from ad,Nat.add_mod,ih,<- Nat.add_mod]
  rw [e1];have e2:(fP f (qS of t)+fS of n t) % 4294967296=(n+t.2*g t.1) % 4294967296:=by
   have hg:=h t.1;unfold qS fS;cases ho:of t.1 with
   | none =>
    rw [ho] at hg;simp only at hg ⊢;rw [eK]
    have:t.2*f t.1 % 4294967296=t.2*g t.1 % 4294967296:=by rw [Nat.mul_mod,<- hg,<- Nat.mul_mod]
    simp only [fP,Nat.add_zero];omega
   | some y =>
    rw [ho] at hg;simp only at hg ⊢;have h1:=GN f t.2 y.ai;have h2:t.2*g t.1 % 4294967296=t.2*(y.num+fP f y.ai) % 4294967296:=by
     unfold ja at hg;rw [Nat.mul_mod,hg,Nat.mod_mod,<- Nat.mul_mod]
    rw [Nat.mul_add] at h2;omega
  omega
theorem rz {of:ByteArray->Option bZ} {x:bZ} {t:ByteArray × Nat} (h:t∈(cY of x).ai):(∃ p,p∈x.ai/\p.1=t.1/\of t.1=none)\/∃ p y u,p∈x.ai/\of p.1=some y/\u∈y.ai/\u.1=t.1:=by
 obtain ⟨p,hp,e⟩:=C9 h;obtain ⟨q,hq,hpq⟩:=List.mem_flatMap.1 hp;unfold qS at hpq;cases ho:of q.1 with
 | none =>
  rw [ho] at hpq
  have:p=q:=by simpa using hpq
  subst this;exact .inl ⟨p,hq,e,by rw [<- e]; exact ho⟩
 | some y =>
  rw [ho] at hpq;obtain ⟨u,hu,rfl⟩:=List.mem_map.1 hpq;exact .inr ⟨q,y,u,hq,ho,hu,e⟩
theorem eE (of:ByteArray->Option bZ) (x:bZ):Nf (cY of x).ai:=zB _
theorem D9 {l:cZ} (h:Nf l):Dc l=l:=(zB l).Qb h fun s=>by rw [yM,Nat.mod_mod]
theorem lf {of:ByteArray->Option bZ} {x:bZ} (hx:x.num<4294967296):(cY of x).num<4294967296:=by
 show x.ai.foldl (fS of) x.num<4294967296;generalize x.num=n at hx;generalize x.ai=l
 induction l generalizing n with
 | nil=>exact hx
 | cons t l ih =>
  rw [List.foldl_cons];refine ih _ ?_;unfold fS;split
  ·exact hx
  ·exact Nat.mod_lt _ ad
section
variable {own:ByteArray->Bool} {lin:ByteArray->bZ} {names:List ByteArray}
theorem vF (hown:∀ s,own s=true↔s∈names) (hc:∀ v,¬ jS (Edge own (cE lin)) v) {v:ByteArray} (hv:v∈names):∀ t,t∈(Iy own lin names v).ai->own t.1=false/\∃ w u,w∈names/\u∈(lin w).ai/\u.1=t.1:=by
 refine PH (Q:=fun v=>v∈names->∀ t,t∈(Iy own lin names v).ai->own t.1=false/\∃ w u,w∈names/\u∈(lin w).ai/\u.1=t.1) hown hc ?_ hv hv;intro v ih hv t ht;rw [Gf hown hc hv] at ht;rcases rz ht with ⟨p,hp,e,ho⟩ | ⟨p,y,u,hp,ho,hu,e⟩
 ·refine ⟨?_,v,p,hv,hp,e⟩;unfold Jh at ho;cases hb:own t.1 with
  | false=>rfl
  | true=>rw [hb] at ho; simp at ho
 ·unfold Jh at ho
  by_cases hb:own p.1=true
  ·rw [if_pos hb] at ho;have ho:=Option.some.inj ho;subst ho;obtain ⟨a,b⟩:=ih p.1 ⟨kA.2 ⟨p,hp,rfl⟩,hb⟩ ((hown _).1 hb) u hu;rw [<- e];exact ⟨a,b⟩
  ·rw [if_neg hb] at ho; cases ho
theorem RV (hown:∀ s,own s=true↔s∈names) (hc:∀ v,¬ jS (Edge own (cE lin)) v) {v:ByteArray} (hv:v∈names):Nf (Iy own lin names v).ai:=by
 rw [Gf hown hc hv]; exact eE _ _
end
end Go.Sx
