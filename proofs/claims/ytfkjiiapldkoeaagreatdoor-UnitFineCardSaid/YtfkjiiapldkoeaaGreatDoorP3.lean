/- Contracts over heaps, and plain laws, for the functions that the laws of chapter 9 call, part 3: Same, slices.Equal, append of terms, over heaps. The operations over heaps: thei Condition: as each statement says. -/
import Derived.Test.YtfkjiiapldkoeaaGreatDoorP2
import Derived.Test.YtfkjiiapldkoeaaGreatDoorAobjT
import Derived.Test.YtfkjiiapldkoeaaGreatDoorAobjU
import Derived.Test.YtfkjiiapldkoeaaGreatDoorAobjTa
import Derived.Test.YtfkjiiapldkoeaaGreatDoorArT
import Derived.Test.YtfkjiiapldkoeaaGreatDoorRows
import Derived.ProofKit
import Derived.LaidMore
import Derived.LaidLaws
import Derived.OpenShut
import Derived.ChangeSame
import Derived.ChangeStays
import Derived.ChangeOld
import Derived.ChangeSlices
import Derived.ChangeMaps5
import Derived.JoinedCond
import Derived.Lib.LaidTab
import Derived.Stop.Joined
import Derived.RangeFuncFrom
import Derived.IntWalk
set_option linter.unusedVariables false
set_option linter.unusedSimpArgs false
set_option maxRecDepth 100000
namespace Go.Sx
open Go.Proofs
theorem Lt:Tryz.prog.underlying 109=some (.struct (FB Tryz.prog 109)):=by kernel_rfl
theorem Gs (x y:Operand) (a:ByteArray) (b:Int) (a':ByteArray) (b':Int) (h:Hp) (K:Value→Hp→Prop) (hk:K (.bool !(a==a' && b==b')) h) :
  aD Tryz.prog (Sx.bM (BinOp.neq) 109 x y (.agg #[.string a,.int .u32 b]) (.agg #[.string a',.int .u32 b'])) h K:=by
 refine zD Lt (by kernel_rfl) (by kernel_rfl) (by kernel_rfl) K ?_;have he:(FB Tryz.prog 109).all (FQ #[.string a,.int .u32 b] #[.string a',.int .u32 b'])=(a==a' && (b==b' && true)):=by
  rw [← Array.all_toList]
  kernel_rfl
 rw [he,Bool.and_true];exact hk
theorem E' (t u:ByteArray × Nat):(!(t.1==u.1 && (t.2:Int)==(u.2:Int)))=decide (t≠u):=by
 obtain ⟨a,b⟩:=t;obtain ⟨a',b'⟩:=u
 by_cases h1:a=a'
 ·subst h1;rw [bytes_beq]
  by_cases h2:b=b'
  ·subst h2
   simp
  ·have h3:¬ ((b:Int)=(b':Int)):=by omega
   have h4:((b:Int)==(b':Int))=false:=by simpa using h3
   simp [h2,h4]
 ·have h3:(a==a')=false:=by
   obtain ⟨d⟩:=a;obtain ⟨d'⟩:=a';show (d==d')=false;have h4:¬ d=d':=fun e=>h1 (by rw [e])
   simpa using h4
  simp [h1,h3]
theorem wH {α:Type} {l m:List α} {i:Nat} (hi:i<l.length) (hj:i<m.length) (h:l[i]≠m[i]):l≠m:=by
 rintro rfl;exact h rfl
theorem rh {α:Type} {l m:List α} {i:Nat} (hi:i<l.length) (hj:i<m.length) (h:l[i]=m[i]):(l.drop i=m.drop i)↔(l.drop (i+1)=m.drop (i+1)):=by
 rw [List.drop_eq_getElem_cons hi,List.drop_eq_getElem_cons hj,h];exact ⟨fun e=>(List.cons.inj e).2,fun e=>by rw [e]⟩
instance:DecidableEq di:=inferInstance
theorem B6 {h:Hp} {p q:Option Addr} {l m c d:Nat} {us vs:di} (v:qt h p l us) (w:qt h q m vs) (hl:us.length≤2^60):ur Tryz.prog 117 [.slice p l c,.slice q m d] h (.bool (decide (us=vs))):=by
 refine ec mixed Tryz.func117 (by kernel_rfl) (ez p l c q m d) ?_;unfold cS;have h1:=v.len;have h2:=w.len;refine af (fun g1=>?_) (fun g1=>?_)
 ·have g1:¬ (l:Int)=(m:Int):=by simpa using g1
  exact ⟨by rw [decide_eq_false (fun e=>by rw [e] at h1; omega)],rfl⟩
 ·have g1:(l:Int)=(m:Int):=by simpa using g1
  refine bm (cs:=[(false,[.bool]),(false,[.int .i64])]) (fun y n h'=>∃ (i:Nat),y.2.1=(i:Int)∧i≤us.length∧n=us.length-i∧h=h'∧(us=vs↔us.drop i=vs.drop i)) (false,(0:Int),()) us.length rfl
   ⟨0,rfl,by omega,by omega,rfl,Iff.rfl⟩ ?_
  rintro ⟨b8,n8,⟨⟩⟩ n h2 ⟨i,hi,hile,rfl,rfl,hq⟩;simp only at hi;subst hi;dsimp only [flat,aB,ai,nA,cA];refine af (fun g2=>?_) (fun g2=>?_)
  ·have g2:=of_decide_eq_true g2;have hi1:i<us.length:=by omega
   have hi2:i<vs.length:=by omega
   obtain ⟨a,rfl,hc⟩:=v.cells i hi1;obtain ⟨a',rfl,hc'⟩:=w.cells i hi2;have hst:=rh hi1 hi2;have hno:=wH hi1 hi2;generalize us[i]=t at hc hst hno;generalize vs[i]=u at hc' hst hno;refine aA ⟨by omega,by omega⟩ (an rfl ?_);rw [show Int.toNat (i:Int)=i by omega];refine aG (t.1,(t.2:Int),()) hc ?_;dsimp only [flat,aB,ai,nA,cA];refine aA ⟨by omega,by omega⟩ (an rfl ?_);refine aG (u.1,(u.2:Int),()) hc' ?_;dsimp only [flat,aB,ai,nA,cA];refine bw (b:=decide (t≠u)) (fun K' hk=>Gs _ _ _ _ _ _ _ _ (by rw [E']; exact hk)) ?_;refine af (fun g3=>?_) (fun g3=>?_)
   ·exact ⟨by rw [decide_eq_false (hno (of_decide_eq_true g3))],rfl⟩
   ·have g3:t=u:=by simpa using g3
    have hw:IntKind.wrap .i64 ((i:Int)+1)=((i+1:Nat):Int):=by rw [wrap_i64 (by omega) (by omega)]; omega
    exact aM (cs:=[(false,[.bool]),(false,[.int .i64])]) (b8,((i+1:Nat):Int),()) (us.length-(i+1)) rfl (by omega) (congrArg (fun z=>[Value.bool b8,Value.int .i64 z]) hw) ⟨i+1,rfl,by omega,rfl,rfl,hq.trans (hst g3)⟩
  ·have g2:=of_decide_eq_false g2;refine ⟨?_,rfl⟩;rw [decide_eq_true (hq.2 (by rw [List.drop_eq_nil_of_le (by omega),List.drop_eq_nil_of_le (by omega)]))]
def jh (x y:eS):Bool:=decide (x.num=y.num) && decide (x.aw=y.aw)
theorem Eg (x:eS):jh x x=true:=by unfold jh; simp
theorem yn {h : Hp} {p q : Option Addr} {l m c d : Nat} {x y : eS} (v : qt h p l x.aw) (w : qt h q m y.aw) (hl : x.aw.length ≤ 2 ^ 60) :
    HC Tryz.prog 80 #[oR p l c x, oR q m d y] h fun r h' => r = .bool (jh x y) ∧ Ext h h' := by
  refine aL (args := [.agg #[.slice p l c, .int .u32 x.num], .agg #[.slice q m d, .int .u32 y.num]]) mixed Tryz.func80 (by kernel_rfl) (wY p l c x.num q m d y.num) ?_;unfold ti;refine aW ?_;intro h1 b1 e1 z1;refine aW ?_;intro h2 b2 e2 z2;have b1 := b1.ah e2 (by simp);have e02 := e1.trans e2;rw [ao, ao];refine ad b1 ((x.num : Int), ()) rfl ?_;dsimp only [flat, aB, ai, nA, cA];refine ad b2 ((y.num : Int), ()) rfl ?_;dsimp only [flat, aB, ai, nA, cA];refine af (fun g1 => ?_) (fun g1 => ?_)
  · have g1 : x.num = y.num := by have : (x.num : Int) = y.num := by simpa using g1
                                  omega
    refine ad b1 ((p, l, c), ()) rfl ?_;dsimp only [flat, aB, ai, nA, cA];refine ad b2 ((q, m, d), ()) rfl ?_;dsimp only [flat, aB, ai, nA, cA];refine aE (B6 (v.ah e02 (by simp)) (w.ah e02 (by simp)) hl) ?_;refine ⟨?_, e02⟩;unfold jh;rw [decide_eq_true g1] <;> rfl
  · have g1 : ¬ x.num = y.num := by have : ¬ (x.num : Int) = y.num := by simpa using g1
                                    omega
    refine ⟨?_, e02⟩;unfold jh;rw [decide_eq_false g1] <;> rfl
theorem yB {h : Hp} {p q : Option Addr} {l m c d : Nat} {x y : eS} (v : qt h p l x.aw) (w : qt h q m y.aw) (hl : x.aw.length ≤ 2 ^ 60) :
    HC Tryz.prog 75 #[oR p l c x, oR q m d y] h fun r h' => r = .bool (jh x y) ∧ Ext h h' := by
  refine aL (args := [.agg #[.slice p l c, .int .u32 x.num], .agg #[.slice q m d, .int .u32 y.num]]) mixed Tryz.func75 (by kernel_rfl) (kZ p l c x.num q m d y.num) ?_;unfold iq;refine aW ?_;intro h1 b1 e1 z1;refine aW ?_;intro h2 b2 e2 z2;have b1 := b1.ah e2 (by simp);have e02 := e1.trans e2;have v := v.ah e02 (by simp);have w := w.ah e02 (by simp);have hv := v.len;have hw := w.len;rw [ao, ao];refine ad b1 ((x.num : Int), ()) rfl ?_;dsimp only [flat, aB, ai, nA, cA];refine ad b2 ((y.num : Int), ()) rfl ?_;dsimp only [flat, aB, ai, nA, cA];refine af (fun g1 => ?_) (fun g1 => ?_)
  · have g1 : ¬ x.num = y.num := by have : ¬ (x.num : Int) = y.num := by simpa using g1
                                    omega
    refine ⟨?_, e02⟩;unfold jh;rw [decide_eq_false g1] <;> rfl
  · have g1 : x.num = y.num := by have : (x.num : Int) = y.num := by simpa using g1
                                  omega
    have hB : jh x y = decide (x.aw = y.aw) := by
      unfold jh;rw [decide_eq_true g1] <;> rfl
    rw [hB];refine ad b1 ((p, l, c), ()) rfl ?_;dsimp only [flat, aB, ai, nA, cA];refine ad b2 ((q, m, d), ()) rfl ?_;dsimp only [flat, aB, ai, nA, cA];refine af (fun g2 => ?_) (fun g2 => ?_)
    · have g2 : ¬ (l : Int) = (m : Int) := by simpa using g2
      exact ⟨by rw [decide_eq_false (fun e => by rw [e] at hv; omega)], e02⟩
    · have g2 : (l : Int) = (m : Int) := by simpa using g2
      refine bm (cs := [(false, [.bool]), (false, [.int .i64])]) (fun z n h' => ∃ (i : Nat), z.2.1 = (i : Int) ∧ i ≤ x.aw.length ∧ n = x.aw.length - i ∧ h2 = h' ∧ (x.aw = y.aw ↔ x.aw.drop i = y.aw.drop i)) (false, (0 : Int), ()) x.aw.length rfl
        ⟨0, rfl, by omega, by omega, rfl, Iff.rfl⟩ ?_
      rintro ⟨b8, n8, ⟨⟩⟩ n h3 ⟨i, hi, hile, rfl, rfl, hq⟩;simp only at hi;subst hi;dsimp only [flat, aB, ai, nA, cA];refine ad b1 ((p, l, c), ()) rfl ?_;dsimp only [flat, aB, ai, nA, cA];refine af (fun g2 => ?_) (fun g2 => ?_)
      · have g2 := of_decide_eq_true g2
        have hi1 : i < x.aw.length := by omega
        have hi2 : i < y.aw.length := by omega
        obtain ⟨a, rfl, hc⟩ := v.cells i hi1;obtain ⟨a', rfl, hc'⟩ := w.cells i hi2;have hst := rh hi1 hi2;have hno := wH hi1 hi2;generalize x.aw[i] = t at hc hst hno;generalize y.aw[i] = u at hc' hst hno;refine ad b1 ((some a, l, c), ()) rfl ?_;dsimp only [flat, aB, ai, nA, cA];refine aA ⟨by omega, by omega⟩ (an rfl ?_);rw [show Int.toNat (i : Int) = i by omega];refine aG (t.1, (t.2 : Int), ()) hc ?_;dsimp only [flat, aB, ai, nA, cA];refine ad b2 ((some a', m, d), ()) rfl ?_;dsimp only [flat, aB, ai, nA, cA];refine aA ⟨by omega, by omega⟩ (an rfl ?_);refine aG (u.1, (u.2 : Int), ()) hc' ?_;dsimp only [flat, aB, ai, nA, cA];refine bw (b := decide (t ≠ u)) (fun K' hk => Gs _ _ _ _ _ _ _ _ (by rw [E']; exact hk)) ?_;refine ⟨⟨b2.cells _ rfl, b1.cells _ rfl, trivial⟩, ?_⟩;refine af (fun g3 => ?_) (fun g3 => ?_)
        · exact ⟨by rw [decide_eq_false (hno (of_decide_eq_true g3))], e02⟩
        · have g3 : t = u := by simpa using g3
          have hw : IntKind.wrap .i64 ((i : Int) + 1) = ((i + 1 : Nat) : Int) := by rw [wrap_i64 (by omega) (by omega)]; omega
          exact aM (cs := [(false, [.bool]), (false, [.int .i64])]) (b8, ((i + 1 : Nat) : Int), ()) (x.aw.length - (i + 1)) rfl (by omega) (congrArg (fun z => [Value.bool b8, Value.int .i64 z]) hw) ⟨i + 1, rfl, by omega, rfl, rfl, hq.trans (hst g3)⟩
      · have g2 := of_decide_eq_false g2
        refine ⟨?_, e02⟩;rw [decide_eq_true (hq.2 (by rw [List.drop_eq_nil_of_le (by omega), List.drop_eq_nil_of_le (by omega)]))]
theorem rG {h:Hp} {a:Addr}:∀ (us:di) (k:Nat),(∀ i,(hi:i<us.length)→aH h (a.add ((k+i)*2)) 0 (cP us[i]))→aH h a (k*2) (us.map cP).flatten
 | [],_,_=>trivial
 | t::us,k,hc=>by
  have h0:=hc 0 (by simp);obtain ⟨h1,h2,_⟩:=h0;rw [add_add] at h1 h2;have ih:=rG us (k+1) (fun i hi=>by
   have:=hc (i+1) (by simpa using hi)
   rw [show k+(i+1)=k+1+i by omega] at this;exact this)
  rw [show (k+1)*2=k*2+1+1 by omega] at ih;exact ⟨h1,by simpa using h2,ih⟩
theorem qt.flat {h:Hp} {a:Addr} {l:Nat} {us:di} (v:qt h (some a) l us):aH h a 0 (us.map cP).flatten:=by
 have:=rG (h:=h) (a:=a) us 0 (fun i hi=>by
  obtain ⟨a',e,hc⟩:=v.cells i hi;cases e;rw [Nat.zero_add];exact hc)
 simpa using this
end Go.Sx
set_option linter.unusedVariables false
set_option linter.unusedSimpArgs false
set_option maxRecDepth 100000
namespace Go.Sx.Ob
open Go.Proofs
variable {h':Hp} {e2 e1:TypeId} {sec:Nat}
theorem _root_.Go.Sx.Ch.st {h a b:Hp} {g:Nat} (e:Ext h a) (k:Ch [g] a b) (hg:h.size≤g):Ext h b:=Ch.trans e k (fun i hi hl=>by simp at hi; omega)
def ma (nm:Nat→ByteArray) (w9:Nat→Int):List Value:=(List.range 43).flatMap fun k=>[.string (nm k),.int .u8 (w9 k),.int .i64 (bT.getD k 0:Nat)]
def zA (h:Hp):Prop:=∃ nm w9 e f,h[1]?=some (.cells (ma nm w9).toArray e f)
theorem zA.ah {ws:List Nat} {h:Hp} (t:zA h) (k:Ch ws h h') (hw:1∉ws):zA h':=by
 obtain ⟨nm,w9,e,f,ht⟩:=t;exact ⟨nm,w9,e,f,k.get ht hw⟩
theorem wX {α β:Type} (f:α→List β) (m:Nat) (hf:∀ x,(f x).length=m):∀ (l:List α) (i j:Nat),j<m→(l.flatMap f)[i*m+j]?=(l[i]?).bind fun x=>(f x)[j]?
 | [],i,j,hj=>by simp
 | x::l,0,j,hj=>by
  rw [List.flatMap_cons,List.getElem?_append_left (by rw [hf]; omega)]
  simp
 | x::l,i+1,j,hj=>by
  rw [List.flatMap_cons,List.getElem?_append_right (by rw [hf,Nat.add_mul]; omega),hf,show (i+1)*m+j-m=i*m+j by rw [Nat.add_mul]; omega,wX f m hf l i j hj]
  simp
theorem zA.cells {h:Hp} (t:zA h) {k:Nat} (hk:k<43):∃ (s:ByteArray) (b:Int),aH h ((⟨1,0,none⟩:Addr).add (k*3)) 0 [.string s,.int .u8 b,.int .i64 (bT.getD k 0:Nat)]:=by
 obtain ⟨nm,w9,e,f,ht⟩:=t;refine ⟨nm k,w9 k,?_⟩;have hg:∀ j,j<3→(ma nm w9)[k*3+j]?=([.string (nm k),.int .u8 (w9 k),.int .i64 (bT.getD k 0:Nat)]:List Value)[j]?:=by
  intro j hj;unfold ma;rw [wX _ 3 (by simp) _ _ _ hj];simp [hk]
 rw [ao];refine ⟨?_,?_,?_,trivial⟩
 ·rw [ao,kv ht]
  have:=hg 0 (by omega)
  simpa using this
 ·rw [ao,kv ht]
  have:=hg 1 (by omega)
  simpa using this
 ·rw [ao,kv ht]
  have:=hg 2 (by omega)
  simpa using this
theorem Dd {h:Hp} (t:zA h) (op:Int) (h1:-9223372036854775808≤op) (h2:op≤9223372036854775807) :
  HC Tryz.prog 90 #[.int .i64 op] h fun w h'=>∃ (s:ByteArray) (b:Int),w=.tuple #[.agg #[.string s,.int .u8 b,.int .i64 (cK op:Nat)],.bool (decide (cK op≠0))]∧Ext h h':=by
 refine aL (args:=[.int .i64 op]) mixed Tryz.func90 (by kernel_rfl) (zM op) ?_;unfold Ac;refine aW ?_;intro g1 b1 e1 z1;have hz:∀ (hh:cK op=0),(∃ (s:ByteArray) (b:Int),(Value.tuple #[.agg #[.string ⟨#[]⟩,.int .u8 0,.int .i64 0],.bool false])=.tuple #[.agg #[.string s,.int .u8 b,.int .i64 (cK op:Nat)],.bool (decide (cK op≠0))]) :=
  fun hh=>⟨⟨#[]⟩,0,by rw [hh]; rfl⟩
 refine af (fun q=>?_) (fun q=>?_)
 ·have q:=of_decide_eq_true q;refine ak b1 rfl (by simp) ?_;intro g2 b2 k2 z2;refine ad b2 ((⟨#[]⟩:ByteArray),(0:Int),(0:Int),()) rfl ?_;obtain ⟨s,b,e⟩:=hz (by unfold cK; rw [if_pos q]);exact ⟨s,b,e,Ch.trans e1 k2 (fun i hi hl=>by simp at hi; omega)⟩
 refine af (fun r=>?_) (fun r=>?_)
 ·have r:=of_decide_eq_true r;refine ak b1 rfl (by simp) ?_;intro g2 b2 k2 z2;refine ad b2 ((⟨#[]⟩:ByteArray),(0:Int),(0:Int),()) rfl ?_;obtain ⟨s,b,e⟩:=hz (by
   by_cases g:cK op=0
   ·exact g
   ·have:=FD op g
    omega)
  exact ⟨s,b,e,Ch.trans e1 k2 (fun i hi hl=>by simp at hi; omega)⟩
 ·have q:=of_decide_eq_false q;have r:=of_decide_eq_false r;rw [wrap_i64 (by omega) (by omega)];refine aA ⟨by omega,by omega⟩ ?_;obtain ⟨s,b,hc⟩:=(t.ah e1 (by simp)).cells (k:=(op-1).toNat) (by omega);refine aG (s,b,((bT.getD (op-1).toNat 0:Nat):Int),()) hc ?_;dsimp only [flat,aB,ai,nA,cA];refine ak b1 rfl (by simp) ?_;intro g2 b2 k2 z2;refine ad b2 (s,b,((bT.getD (op-1).toNat 0:Nat):Int),()) rfl ?_;refine ⟨s,b,?_,Ch.trans e1 k2 (fun i hi hl=>by simp at hi; omega)⟩;have h3:cK op=bT.getD (op-1).toNat 0:=by unfold cK; rw [if_neg (by omega)]
  have h4:cK op≠0:=by
   rw [h3]
   have:∀ k:Fin 43,bT.getD k.1 0≠0:=by decide
   exact this ⟨(op-1).toNat,by omega⟩
  rw [decide_eq_true h4,h3]
theorem AG {h:Hp} (t:zA h) (op:Int) (h1:-9223372036854775808≤op) (h2:op≤9223372036854775807) :
  HC Tryz.prog 51 #[.int .i64 op] h fun w h'=>w=.bool (Cn op)∧Ext h h':=by
 refine aL (args:=[.int .i64 op]) mixed Tryz.func51 (by kernel_rfl) (uN op) ?_;unfold sT;refine aC (Dd t op h1 h2) ?_;rintro _ g1 ⟨s,b,rfl,e1⟩;refine ⟨(s,b,((cK op:Nat):Int),decide (cK op≠0),()),rfl,?_⟩;dsimp only [flat,aB,ai,nA,cA];refine aW ?_;intro g2 b2 e2 z2;refine ak b2 rfl (by simp) ?_;intro g3 b3 k3 z3;have e3:=(e1.trans e2).st k3 (by have:=e1.size; omega);have b3:aO g3 g1.size 158 [.string s,.int .u8 b,.int .i64 (cK op:Nat)]:=b3;rw [ao];refine ad b3 (((cK op:Nat):Int),()) rfl ?_;dsimp only [flat,aB,ai,nA,cA];have hc:=si op;refine af (fun q=>?_) (fun q=>?_)
 ·have q:((cK op:Nat):Int)=12:=by simpa using q
  refine ⟨?_,e3⟩;unfold Cn;rw [decide_eq_true (by omega)]
 ·have q:¬ ((cK op:Nat):Int)=12:=by simpa using q
  refine ad b3 (((cK op:Nat):Int),()) rfl ?_;refine ⟨?_,e3⟩;unfold Cn
  by_cases r:cK op=13
  ·rw [r]; rfl
  ·rw [decide_eq_false (by omega)]
   congr 1
   simp
   omega
theorem CM (n:Int):(n==IntKind.wrap .i32 (IntKind.wrap .i8 n))=(decide (-128≤n) && decide (n≤127)):=by
 have h1:IntKind.wrap .i8 n=if n % 256<128 then n % 256 else n % 256-256:=by
  simp only [IntKind.wrap,IntKind.bits,IntKind.signed,Bool.true_and];split <;> rename_i hh
  ·have:=of_decide_eq_true hh
   rw [if_neg (by omega)] <;> rfl
  ·have:¬ _:=fun h=>hh (decide_eq_true h)
   rw [if_pos (by omega)] <;> rfl
 have h2:IntKind.wrap .i32 (IntKind.wrap .i8 n)=IntKind.wrap .i8 n:=by
  have:-128≤IntKind.wrap .i8 n∧IntKind.wrap .i8 n≤127:=by rw [h1]; split <;> omega
  generalize IntKind.wrap .i8 n=m at this;simp only [IntKind.wrap,IntKind.bits,IntKind.signed,Bool.true_and];split <;> rename_i hh
  ·have:=of_decide_eq_true hh; omega
  ·have:¬ _:=fun h=>hh (decide_eq_true h); omega
 rw [h2,h1]
 by_cases g:-128≤n∧n≤127
 ·rw [decide_eq_true g.1,decide_eq_true g.2]
  simp
  split <;> omega
 ·have:(decide (-128≤n) && decide (n≤127))=false:=by
   rw [Bool.and_eq_false_iff]
   simp
   omega
  rw [this]
  simp
  split <;> omega
theorem Bc (n:Int):(n==IntKind.wrap .i32 (IntKind.wrap .i16 n))=(decide (-32768≤n) && decide (n≤32767)):=by
 have h1:IntKind.wrap .i16 n=if n % 65536<32768 then n % 65536 else n % 65536-65536:=by
  simp only [IntKind.wrap,IntKind.bits,IntKind.signed,Bool.true_and];split <;> rename_i hh
  ·have:=of_decide_eq_true hh
   rw [if_neg (by omega)] <;> rfl
  ·have:¬ _:=fun h=>hh (decide_eq_true h)
   rw [if_pos (by omega)] <;> rfl
 have h2:IntKind.wrap .i32 (IntKind.wrap .i16 n)=IntKind.wrap .i16 n:=by
  have:-32768≤IntKind.wrap .i16 n∧IntKind.wrap .i16 n≤32767:=by rw [h1]; split <;> omega
  generalize IntKind.wrap .i16 n=m at this;simp only [IntKind.wrap,IntKind.bits,IntKind.signed,Bool.true_and];split <;> rename_i hh
  ·have:=of_decide_eq_true hh; omega
  ·have:¬ _:=fun h=>hh (decide_eq_true h); omega
 rw [h2,h1]
 by_cases g:-32768≤n∧n≤32767
 ·rw [decide_eq_true g.1,decide_eq_true g.2]
  simp
  split <;> omega
 ·have:(decide (-32768≤n) && decide (n≤32767))=false:=by
   rw [Bool.and_eq_false_iff]
   simp
   omega
  rw [this]
  simp
  split <;> omega
theorem aZ (h:Hp) (n f:Int):ur Tryz.prog 173 [.int .i32 n,.int .i64 f] h (.bool (mX n f)):=by
 refine ec mixed Tryz.func173 (by kernel_rfl) (sB n f) ?_;unfold pn;rw [CM,Bc];refine af (fun q=>?_) (fun q=>?_)
 ·have q:f=1:=by simpa using q
  exact ⟨by unfold mX; rw [if_pos q],rfl⟩
 have q:¬ f=1:=by simpa using q
 refine af (fun r=>?_) (fun r=>?_)
 ·have r:f=2:=by simpa using r
  exact ⟨by unfold mX; rw [if_neg q,if_pos r],rfl⟩
 have r:¬ f=2:=by simpa using r
 exact ⟨by unfold mX; rw [if_neg q,if_neg r]; rfl,rfl⟩
theorem wB (h:Hp) (n:Int):ur Tryz.prog 79 [.int .i64 n] h (.bool (qf n)):=by
 refine ec mixed Tryz.func79 (by kernel_rfl) (tL n) ?_;unfold rM;have hf:¬ (1≤n∧n≤256)→qf n=false:=by
  intro g;cases hp:qf n with
  | false=>rfl
  | true =>
   exfalso;unfold qf at hp;simp only [Bool.or_eq_true,decide_eq_true_eq] at hp;omega
 refine af (fun q=>?_) (fun q=>?_)
 ·have q:=of_decide_eq_true q;refine af (fun r=>?_) (fun r=>?_)
  ·have r:=of_decide_eq_true r;refine ⟨?_,rfl⟩;obtain ⟨k,rfl,hk⟩:∃ k:Nat,n=((k+1:Nat):Int)∧k<256:=⟨(n-1).toNat,by omega,by omega⟩
   have:∀ k:Fin 256,(IntKind.wrap .i64 (((BitVec.toNat ((BitVec.ofInt 64 ((k.1+1:Nat):Int)) &&& (BitVec.ofInt 64 (IntKind.wrap .i64 (((k.1+1:Nat):Int)-(1:Int)))))):Nat):Int)==(0:Int))=qf ((k.1+1:Nat):Int):=by
    decide +kernel
   rw [this ⟨k,hk⟩]
  ·have r:=of_decide_eq_false r;exact ⟨by rw [hf (by omega)],rfl⟩
 ·have q:=of_decide_eq_false q;exact ⟨by rw [hf (by omega)],rfl⟩
theorem bE (h:Hp) (n m:Int):ur Tryz.prog 172 [.int .i64 n,.int .i64 m] h (.bool (oa n m)):=by
 refine ec mixed Tryz.func172 (by kernel_rfl) (uF n m) ?_;unfold td;refine af (fun q=>?_) (fun q=>?_)
 ·have q:=of_decide_eq_true q;refine ⟨?_,rfl⟩;unfold oa;rw [decide_eq_true (show 0≤n by omega)] <;> rfl
 ·have q:=of_decide_eq_false q;refine ⟨?_,rfl⟩;unfold oa;rw [decide_eq_false (show ¬ 0≤n by omega)] <;> rfl
theorem cC (a b:Int):(a==b)=decide (a=b):=rfl
def ct (op a b n form:Int):Value:=.agg #[.int .i64 op,.int .i64 a,.int .i64 b,.int .i32 n,.int .i64 form]
theorem FZ (h:Hp) (op a b n form:Int):HC Tryz.prog 143 #[ct op a b n form,.int .i64 1] h fun w h'=>w=.bool (bD 1 a b n)∧Ext h h':=by
 refine aL (args:=[ct op a b n form,.int .i64 1]) mixed Tryz.func143 (by kernel_rfl) (mg op a b n form) ?_;unfold jf;refine aW ?_;intro g1 b1 e1 z1
 try simp only [ao]
 repeat' (first
  | (refine ad b1 (_,()) rfl ?_; dsimp only [flat,aB,ai,nA,cA])
  | (refine aE (bE _ _ _) ?_)
  | (refine aE (aZ _ _ _) ?_)
  | (refine af (fun q=>?_) (fun q=>?_)))
 all_goals (refine ⟨?_,e1⟩; first | (simp_all [bD,cC]; done) | (simp_all [bD,cC] <;> simp [oa] <;> omega))
theorem H5 (h:Hp) (op a b n form:Int):HC Tryz.prog 144 #[ct op a b n form,.int .i64 1] h fun w h'=>w=.bool (nR 1 n form)∧Ext h h':=by
 refine aL (args:=[ct op a b n form,.int .i64 1]) mixed Tryz.func144 (by kernel_rfl) (pz op a b n form) ?_;unfold lZ;refine aW ?_;intro g1 b1 e1 z1
 try simp only [ao]
 repeat' (first
  | (refine ad b1 (_,()) rfl ?_; dsimp only [flat,aB,ai,nA,cA])
  | (refine aE (bE _ _ _) ?_)
  | (refine aE (aZ _ _ _) ?_)
  | (refine af (fun q=>?_) (fun q=>?_)))
 all_goals (refine ⟨?_,e1⟩; first | (simp_all [nR,cC]; done) | (simp_all [nR,cC] <;> omega))
theorem FK (h:Hp) (op a b n form:Int):HC Tryz.prog 143 #[ct op a b n form,.int .i64 2] h fun w h'=>w=.bool (bD 2 a b n)∧Ext h h':=by
 refine aL (args:=[ct op a b n form,.int .i64 2]) mixed Tryz.func143 (by kernel_rfl) (mf op a b n form) ?_;unfold jD;refine aW ?_;intro g1 b1 e1 z1
 try simp only [ao]
 repeat' (first
  | (refine ad b1 (_,()) rfl ?_; dsimp only [flat,aB,ai,nA,cA])
  | (refine aE (bE _ _ _) ?_)
  | (refine aE (aZ _ _ _) ?_)
  | (refine af (fun q=>?_) (fun q=>?_)))
 all_goals (refine ⟨?_,e1⟩; first | (simp_all [bD,cC]; done) | (simp_all [bD,cC] <;> simp [oa] <;> omega))
theorem HM (h:Hp) (op a b n form:Int):HC Tryz.prog 144 #[ct op a b n form,.int .i64 2] h fun w h'=>w=.bool (nR 2 n form)∧Ext h h':=by
 refine aL (args:=[ct op a b n form,.int .i64 2]) mixed Tryz.func144 (by kernel_rfl) (pN op a b n form) ?_;unfold me;refine aW ?_;intro g1 b1 e1 z1
 try simp only [ao]
 repeat' (first
  | (refine ad b1 (_,()) rfl ?_; dsimp only [flat,aB,ai,nA,cA])
  | (refine aE (bE _ _ _) ?_)
  | (refine aE (aZ _ _ _) ?_)
  | (refine af (fun q=>?_) (fun q=>?_)))
 all_goals (refine ⟨?_,e1⟩; first | (simp_all [nR,cC]; done) | (simp_all [nR,cC] <;> omega))
theorem G3 (h:Hp) (op a b n form:Int):HC Tryz.prog 143 #[ct op a b n form,.int .i64 3] h fun w h'=>w=.bool (bD 3 a b n)∧Ext h h':=by
 refine aL (args:=[ct op a b n form,.int .i64 3]) mixed Tryz.func143 (by kernel_rfl) (mv op a b n form) ?_;unfold ji;refine aW ?_;intro g1 b1 e1 z1
 try simp only [ao]
 repeat' (first
  | (refine ad b1 (_,()) rfl ?_; dsimp only [flat,aB,ai,nA,cA])
  | (refine aE (bE _ _ _) ?_)
  | (refine aE (aZ _ _ _) ?_)
  | (refine af (fun q=>?_) (fun q=>?_)))
 all_goals (refine ⟨?_,e1⟩; first | (simp_all [bD,cC]; done) | (simp_all [bD,cC] <;> simp [oa] <;> omega))
theorem HI (h:Hp) (op a b n form:Int):HC Tryz.prog 144 #[ct op a b n form,.int .i64 3] h fun w h'=>w=.bool (nR 3 n form)∧Ext h h':=by
 refine aL (args:=[ct op a b n form,.int .i64 3]) mixed Tryz.func144 (by kernel_rfl) (pZ op a b n form) ?_;unfold lM;refine aW ?_;intro g1 b1 e1 z1
 try simp only [ao]
 repeat' (first
  | (refine ad b1 (_,()) rfl ?_; dsimp only [flat,aB,ai,nA,cA])
  | (refine aE (bE _ _ _) ?_)
  | (refine aE (aZ _ _ _) ?_)
  | (refine af (fun q=>?_) (fun q=>?_)))
 all_goals (refine ⟨?_,e1⟩; first | (simp_all [nR,cC]; done) | (simp_all [nR,cC] <;> omega))
theorem FM (h:Hp) (op a b n form:Int):HC Tryz.prog 143 #[ct op a b n form,.int .i64 4] h fun w h'=>w=.bool (bD 4 a b n)∧Ext h h':=by
 refine aL (args:=[ct op a b n form,.int .i64 4]) mixed Tryz.func143 (by kernel_rfl) (mr op a b n form) ?_;unfold jA;refine aW ?_;intro g1 b1 e1 z1
 try simp only [ao]
 repeat' (first
  | (refine ad b1 (_,()) rfl ?_; dsimp only [flat,aB,ai,nA,cA])
  | (refine aE (bE _ _ _) ?_)
  | (refine aE (aZ _ _ _) ?_)
  | (refine af (fun q=>?_) (fun q=>?_)))
 all_goals (refine ⟨?_,e1⟩; first | (simp_all [bD,cC]; done) | (simp_all [bD,cC] <;> simp [oa] <;> omega))
theorem IF (h:Hp) (op a b n form:Int):HC Tryz.prog 144 #[ct op a b n form,.int .i64 4] h fun w h'=>w=.bool (nR 4 n form)∧Ext h h':=by
 refine aL (args:=[ct op a b n form,.int .i64 4]) mixed Tryz.func144 (by kernel_rfl) (pM op a b n form) ?_;unfold lY;refine aW ?_;intro g1 b1 e1 z1
 try simp only [ao]
 repeat' (first
  | (refine ad b1 (_,()) rfl ?_; dsimp only [flat,aB,ai,nA,cA])
  | (refine aE (bE _ _ _) ?_)
  | (refine aE (aZ _ _ _) ?_)
  | (refine af (fun q=>?_) (fun q=>?_)))
 all_goals (refine ⟨?_,e1⟩; first | (simp_all [nR,cC]; done) | (simp_all [nR,cC] <;> omega))
theorem Hs (h:Hp) (op a b n form:Int):HC Tryz.prog 143 #[ct op a b n form,.int .i64 5] h fun w h'=>w=.bool (bD 5 a b n)∧Ext h h':=by
 refine aL (args:=[ct op a b n form,.int .i64 5]) mixed Tryz.func143 (by kernel_rfl) (mj op a b n form) ?_;unfold ja;refine aW ?_;intro g1 b1 e1 z1
 try simp only [ao]
 repeat' (first
  | (refine ad b1 (_,()) rfl ?_; dsimp only [flat,aB,ai,nA,cA])
  | (refine aE (bE _ _ _) ?_)
  | (refine aE (aZ _ _ _) ?_)
  | (refine af (fun q=>?_) (fun q=>?_)))
 all_goals (refine ⟨?_,e1⟩; first | (simp_all [bD,cC]; done) | (simp_all [bD,cC] <;> simp [oa] <;> omega))
theorem Ih (h:Hp) (op a b n form:Int):HC Tryz.prog 144 #[ct op a b n form,.int .i64 5] h fun w h'=>w=.bool (nR 5 n form)∧Ext h h':=by
 refine aL (args:=[ct op a b n form,.int .i64 5]) mixed Tryz.func144 (by kernel_rfl) (pF op a b n form) ?_;unfold lV;refine aW ?_;intro g1 b1 e1 z1
 try simp only [ao]
 repeat' (first
  | (refine ad b1 (_,()) rfl ?_; dsimp only [flat,aB,ai,nA,cA])
  | (refine aE (bE _ _ _) ?_)
  | (refine aE (aZ _ _ _) ?_)
  | (refine af (fun q=>?_) (fun q=>?_)))
 all_goals (refine ⟨?_,e1⟩; first | (simp_all [nR,cC]; done) | (simp_all [nR,cC] <;> omega))
theorem GF (h:Hp) (op a b n form:Int):HC Tryz.prog 143 #[ct op a b n form,.int .i64 6] h fun w h'=>w=.bool (bD 6 a b n)∧Ext h h':=by
 refine aL (args:=[ct op a b n form,.int .i64 6]) mixed Tryz.func143 (by kernel_rfl) (mF op a b n form) ?_;unfold jx;refine aW ?_;intro g1 b1 e1 z1
 try simp only [ao]
 repeat' (first
  | (refine ad b1 (_,()) rfl ?_; dsimp only [flat,aB,ai,nA,cA])
  | (refine aE (bE _ _ _) ?_)
  | (refine aE (aZ _ _ _) ?_)
  | (refine af (fun q=>?_) (fun q=>?_)))
 all_goals (refine ⟨?_,e1⟩; first | (simp_all [bD,cC]; done) | (simp_all [bD,cC] <;> simp [oa] <;> omega))
theorem H7 (h:Hp) (op a b n form:Int):HC Tryz.prog 144 #[ct op a b n form,.int .i64 6] h fun w h'=>w=.bool (nR 6 n form)∧Ext h h':=by
 refine aL (args:=[ct op a b n form,.int .i64 6]) mixed Tryz.func144 (by kernel_rfl) (qp op a b n form) ?_;unfold lR;refine aW ?_;intro g1 b1 e1 z1
 try simp only [ao]
 repeat' (first
  | (refine ad b1 (_,()) rfl ?_; dsimp only [flat,aB,ai,nA,cA])
  | (refine aE (bE _ _ _) ?_)
  | (refine aE (aZ _ _ _) ?_)
  | (refine af (fun q=>?_) (fun q=>?_)))
 all_goals (refine ⟨?_,e1⟩; first | (simp_all [nR,cC]; done) | (simp_all [nR,cC] <;> omega))
theorem Gu (h:Hp) (op a b n form:Int):HC Tryz.prog 143 #[ct op a b n form,.int .i64 7] h fun w h'=>w=.bool (bD 7 a b n)∧Ext h h':=by
 refine aL (args:=[ct op a b n form,.int .i64 7]) mixed Tryz.func143 (by kernel_rfl) (mz op a b n form) ?_;unfold jr;refine aW ?_;intro g1 b1 e1 z1
 try simp only [ao]
 repeat' (first
  | (refine ad b1 (_,()) rfl ?_; dsimp only [flat,aB,ai,nA,cA])
  | (refine aE (bE _ _ _) ?_)
  | (refine aE (aZ _ _ _) ?_)
  | (refine af (fun q=>?_) (fun q=>?_)))
 all_goals (refine ⟨?_,e1⟩; first | (simp_all [bD,cC]; done) | (simp_all [bD,cC] <;> simp [oa] <;> omega))
theorem HP (h:Hp) (op a b n form:Int):HC Tryz.prog 144 #[ct op a b n form,.int .i64 7] h fun w h'=>w=.bool (nR 7 n form)∧Ext h h':=by
 refine aL (args:=[ct op a b n form,.int .i64 7]) mixed Tryz.func144 (by kernel_rfl) (pO op a b n form) ?_;unfold lO;refine aW ?_;intro g1 b1 e1 z1
 try simp only [ao]
 repeat' (first
  | (refine ad b1 (_,()) rfl ?_; dsimp only [flat,aB,ai,nA,cA])
  | (refine aE (bE _ _ _) ?_)
  | (refine aE (aZ _ _ _) ?_)
  | (refine af (fun q=>?_) (fun q=>?_)))
 all_goals (refine ⟨?_,e1⟩; first | (simp_all [nR,cC]; done) | (simp_all [nR,cC] <;> omega))
theorem FJ (h:Hp) (op a b n form:Int):HC Tryz.prog 143 #[ct op a b n form,.int .i64 8] h fun w h'=>w=.bool (bD 8 a b n)∧Ext h h':=by
 refine aL (args:=[ct op a b n form,.int .i64 8]) mixed Tryz.func143 (by kernel_rfl) (mu op a b n form) ?_;unfold iT;refine aW ?_;intro g1 b1 e1 z1
 try simp only [ao]
 repeat' (first
  | (refine ad b1 (_,()) rfl ?_; dsimp only [flat,aB,ai,nA,cA])
  | (refine aE (bE _ _ _) ?_)
  | (refine aE (aZ _ _ _) ?_)
  | (refine af (fun q=>?_) (fun q=>?_)))
 all_goals (refine ⟨?_,e1⟩; first | (simp_all [bD,cC]; done) | (simp_all [bD,cC] <;> simp [oa] <;> omega))
theorem Ik (h:Hp) (op a b n form:Int):HC Tryz.prog 144 #[ct op a b n form,.int .i64 8] h fun w h'=>w=.bool (nR 8 n form)∧Ext h h':=by
 refine aL (args:=[ct op a b n form,.int .i64 8]) mixed Tryz.func144 (by kernel_rfl) (qe op a b n form) ?_;unfold lP;refine aW ?_;intro g1 b1 e1 z1
 try simp only [ao]
 repeat' (first
  | (refine ad b1 (_,()) rfl ?_; dsimp only [flat,aB,ai,nA,cA])
  | (refine aE (bE _ _ _) ?_)
  | (refine aE (aZ _ _ _) ?_)
  | (refine af (fun q=>?_) (fun q=>?_)))
 all_goals (refine ⟨?_,e1⟩; first | (simp_all [nR,cC]; done) | (simp_all [nR,cC] <;> omega))
theorem Gq (h:Hp) (op a b n form:Int):HC Tryz.prog 143 #[ct op a b n form,.int .i64 9] h fun w h'=>w=.bool (bD 9 a b n)∧Ext h h':=by
 refine aL (args:=[ct op a b n form,.int .i64 9]) mixed Tryz.func143 (by kernel_rfl) (my op a b n form) ?_;unfold jz;refine aW ?_;intro g1 b1 e1 z1
 try simp only [ao]
 repeat' (first
  | (refine ad b1 (_,()) rfl ?_; dsimp only [flat,aB,ai,nA,cA])
  | (refine aE (bE _ _ _) ?_)
  | (refine aE (aZ _ _ _) ?_)
  | (refine af (fun q=>?_) (fun q=>?_)))
 all_goals (refine ⟨?_,e1⟩; first | (simp_all [bD,cC]; done) | (simp_all [bD,cC] <;> simp [oa] <;> omega))
theorem HG (h:Hp) (op a b n form:Int):HC Tryz.prog 144 #[ct op a b n form,.int .i64 9] h fun w h'=>w=.bool (nR 9 n form)∧Ext h h':=by
 refine aL (args:=[ct op a b n form,.int .i64 9]) mixed Tryz.func144 (by kernel_rfl) (pC op a b n form) ?_;unfold lW;refine aW ?_;intro g1 b1 e1 z1
 try simp only [ao]
 repeat' (first
  | (refine ad b1 (_,()) rfl ?_; dsimp only [flat,aB,ai,nA,cA])
  | (refine aE (bE _ _ _) ?_)
  | (refine aE (aZ _ _ _) ?_)
  | (refine af (fun q=>?_) (fun q=>?_)))
 all_goals (refine ⟨?_,e1⟩; first | (simp_all [nR,cC]; done) | (simp_all [nR,cC] <;> omega))
theorem Ez (h:Hp) (op a b n form:Int):HC Tryz.prog 143 #[ct op a b n form,.int .i64 10] h fun w h'=>w=.bool (bD 10 a b n)∧Ext h h':=by
 refine aL (args:=[ct op a b n form,.int .i64 10]) mixed Tryz.func143 (by kernel_rfl) (lh op a b n form) ?_;unfold iA;refine aW ?_;intro g1 b1 e1 z1
 try simp only [ao]
 repeat' (first
  | (refine ad b1 (_,()) rfl ?_; dsimp only [flat,aB,ai,nA,cA])
  | (refine aE (bE _ _ _) ?_)
  | (refine aE (aZ _ _ _) ?_)
  | (refine af (fun q=>?_) (fun q=>?_)))
 all_goals (refine ⟨?_,e1⟩; first | (simp_all [bD,cC]; done) | (simp_all [bD,cC] <;> simp [oa] <;> omega))
theorem GC (h:Hp) (op a b n form:Int):HC Tryz.prog 144 #[ct op a b n form,.int .i64 10] h fun w h'=>w=.bool (nR 10 n form)∧Ext h h':=by
 refine aL (args:=[ct op a b n form,.int .i64 10]) mixed Tryz.func144 (by kernel_rfl) (oU op a b n form) ?_;unfold kF;refine aW ?_;intro g1 b1 e1 z1
 try simp only [ao]
 repeat' (first
  | (refine ad b1 (_,()) rfl ?_; dsimp only [flat,aB,ai,nA,cA])
  | (refine aE (bE _ _ _) ?_)
  | (refine aE (aZ _ _ _) ?_)
  | (refine af (fun q=>?_) (fun q=>?_)))
 all_goals (refine ⟨?_,e1⟩; first | (simp_all [nR,cC]; done) | (simp_all [nR,cC] <;> omega))
theorem ER (h:Hp) (op a b n form:Int):HC Tryz.prog 143 #[ct op a b n form,.int .i64 11] h fun w h'=>w=.bool (bD 11 a b n)∧Ext h h':=by
 refine aL (args:=[ct op a b n form,.int .i64 11]) mixed Tryz.func143 (by kernel_rfl) (ly op a b n form) ?_;unfold iv;refine aW ?_;intro g1 b1 e1 z1
 try simp only [ao]
 repeat' (first
  | (refine ad b1 (_,()) rfl ?_; dsimp only [flat,aB,ai,nA,cA])
  | (refine aE (bE _ _ _) ?_)
  | (refine aE (aZ _ _ _) ?_)
  | (refine af (fun q=>?_) (fun q=>?_)))
 all_goals (refine ⟨?_,e1⟩; first | (simp_all [bD,cC]; done) | (simp_all [bD,cC] <;> simp [oa] <;> omega))
theorem G4 (h:Hp) (op a b n form:Int):HC Tryz.prog 144 #[ct op a b n form,.int .i64 11] h fun w h'=>w=.bool (nR 11 n form)∧Ext h h':=by
 refine aL (args:=[ct op a b n form,.int .i64 11]) mixed Tryz.func144 (by kernel_rfl) (oE op a b n form) ?_;unfold km;refine aW ?_;intro g1 b1 e1 z1
 try simp only [ao]
 repeat' (first
  | (refine ad b1 (_,()) rfl ?_; dsimp only [flat,aB,ai,nA,cA])
  | (refine aE (bE _ _ _) ?_)
  | (refine aE (aZ _ _ _) ?_)
  | (refine af (fun q=>?_) (fun q=>?_)))
 all_goals (refine ⟨?_,e1⟩; first | (simp_all [nR,cC]; done) | (simp_all [nR,cC] <;> omega))
theorem D5 (h:Hp) (op a b n form:Int):HC Tryz.prog 143 #[ct op a b n form,.int .i64 12] h fun w h'=>w=.bool (bD 12 a b n)∧Ext h h':=by
 refine aL (args:=[ct op a b n form,.int .i64 12]) mixed Tryz.func143 (by kernel_rfl) (lp op a b n form) ?_;unfold ix;refine aW ?_;intro g1 b1 e1 z1
 try simp only [ao]
 repeat' (first
  | (refine ad b1 (_,()) rfl ?_; dsimp only [flat,aB,ai,nA,cA])
  | (refine aE (bE _ _ _) ?_)
  | (refine aE (aZ _ _ _) ?_)
  | (refine af (fun q=>?_) (fun q=>?_)))
 all_goals (refine ⟨?_,e1⟩; first | (simp_all [bD,cC]; done) | (simp_all [bD,cC] <;> simp [oa] <;> omega))
theorem Gr (h:Hp) (op a b n form:Int):HC Tryz.prog 144 #[ct op a b n form,.int .i64 12] h fun w h'=>w=.bool (nR 12 n form)∧Ext h h':=by
 refine aL (args:=[ct op a b n form,.int .i64 12]) mixed Tryz.func144 (by kernel_rfl) (oH op a b n form) ?_;unfold kT;refine aW ?_;intro g1 b1 e1 z1
 try simp only [ao]
 repeat' (first
  | (refine ad b1 (_,()) rfl ?_; dsimp only [flat,aB,ai,nA,cA])
  | (refine aE (bE _ _ _) ?_)
  | (refine aE (aZ _ _ _) ?_)
  | (refine af (fun q=>?_) (fun q=>?_)))
 all_goals (refine ⟨?_,e1⟩; first | (simp_all [nR,cC]; done) | (simp_all [nR,cC] <;> omega))
theorem DX (h:Hp) (op a b n form:Int):HC Tryz.prog 143 #[ct op a b n form,.int .i64 13] h fun w h'=>w=.bool (bD 13 a b n)∧Ext h h':=by
 refine aL (args:=[ct op a b n form,.int .i64 13]) mixed Tryz.func143 (by kernel_rfl) (lm op a b n form) ?_;unfold ik;refine aW ?_;intro g1 b1 e1 z1
 try simp only [ao]
 repeat' (first
  | (refine ad b1 (_,()) rfl ?_; dsimp only [flat,aB,ai,nA,cA])
  | (refine aE (bE _ _ _) ?_)
  | (refine aE (aZ _ _ _) ?_)
  | (refine af (fun q=>?_) (fun q=>?_)))
 all_goals (refine ⟨?_,e1⟩; first | (simp_all [bD,cC]; done) | (simp_all [bD,cC] <;> simp [oa] <;> omega))
theorem Fh (h:Hp) (op a b n form:Int):HC Tryz.prog 144 #[ct op a b n form,.int .i64 13] h fun w h'=>w=.bool (nR 13 n form)∧Ext h h':=by
 refine aL (args:=[ct op a b n form,.int .i64 13]) mixed Tryz.func144 (by kernel_rfl) (oQ op a b n form) ?_;unfold kD;refine aW ?_;intro g1 b1 e1 z1
 try simp only [ao]
 repeat' (first
  | (refine ad b1 (_,()) rfl ?_; dsimp only [flat,aB,ai,nA,cA])
  | (refine aE (bE _ _ _) ?_)
  | (refine aE (aZ _ _ _) ?_)
  | (refine af (fun q=>?_) (fun q=>?_)))
 all_goals (refine ⟨?_,e1⟩; first | (simp_all [nR,cC]; done) | (simp_all [nR,cC] <;> omega))
theorem zu (h:Hp) (op a b n form:Int) {s:Nat} (h1:1≤s) (h2:s≤13):HC Tryz.prog 143 #[ct op a b n form,.int .i64 s] h fun w h'=>w=.bool (bD s a b n)∧Ext h h':=by
 have hs:s=1∨s=2∨s=3∨s=4∨s=5∨s=6∨s=7∨s=8∨s=9∨s=10∨s=11∨s=12∨s=13:=by omega
 clear h1 h2;rcases hs with rfl | rfl | rfl | rfl | rfl | rfl | rfl | rfl | rfl | rfl | rfl | rfl | rfl
 ·exact FZ h op a b n form
 ·exact FK h op a b n form
 ·exact G3 h op a b n form
 ·exact FM h op a b n form
 ·exact Hs h op a b n form
 ·exact GF h op a b n form
 ·exact Gu h op a b n form
 ·exact FJ h op a b n form
 ·exact Gq h op a b n form
 ·exact Ez h op a b n form
 ·exact ER h op a b n form
 ·exact D5 h op a b n form
 ·exact DX h op a b n form
theorem nU (h:Hp) (op a b n form:Int) {s:Nat} (h1:1≤s) (h2:s≤13):HC Tryz.prog 144 #[ct op a b n form,.int .i64 s] h fun w h'=>w=.bool (nR s n form)∧Ext h h':=by
 have hs:s=1∨s=2∨s=3∨s=4∨s=5∨s=6∨s=7∨s=8∨s=9∨s=10∨s=11∨s=12∨s=13:=by omega
 clear h1 h2;rcases hs with rfl | rfl | rfl | rfl | rfl | rfl | rfl | rfl | rfl | rfl | rfl | rfl | rfl
 ·exact H5 h op a b n form
 ·exact HM h op a b n form
 ·exact HI h op a b n form
 ·exact IF h op a b n form
 ·exact Ih h op a b n form
 ·exact H7 h op a b n form
 ·exact HP h op a b n form
 ·exact Ik h op a b n form
 ·exact HG h op a b n form
 ·exact GC h op a b n form
 ·exact G4 h op a b n form
 ·exact Gr h op a b n form
 ·exact Fh h op a b n form
def Sm (n:Int):Prop:=-9223372036854775808≤n∧n≤9223372036854775807
theorem AE {h:Hp} (t:zA h) (op a b n form:Int) (ho:Sm op) :
  HC Tryz.prog 116 #[ct op a b n form] h fun w h'=>w=.int .i64 (oS ⟨op,a,b,n,form⟩)∧Ext h h':=by
 refine aL (args:=[ct op a b n form]) mixed Tryz.func116 (by kernel_rfl) (vB op a b n form) ?_;unfold th;refine aW ?_;intro g1 b1 e1 z1;refine ad b1 (op,()) rfl ?_;dsimp only [flat,aB,ai,nA,cA];refine aC (Dd (t.ah e1 (by simp)) op ho.1 ho.2) ?_;rintro _ g2 ⟨s,y,rfl,e2⟩;refine ⟨(s,y,((cK op:Nat):Int),decide (cK op≠0),()),rfl,?_⟩;dsimp only [flat,aB,ai,nA,cA];refine aW ?_;intro g3 b3 e3 z3;refine ak b3 rfl (by simp) ?_;intro g4 b4 k4 z4;have b4:aO g4 g2.size 158 [.string s,.int .u8 y,.int .i64 (cK op:Nat)]:=b4;have e4:=((e1.trans e2).trans e3).st k4 (by have:=e1.size; have:=e2.size; omega);have b1:=b1.ah ((e2.trans e3).st k4 (by have:=e2.size; omega)) (by simp);unfold oS;simp only [ao];refine af (fun q=>?_) (fun q=>?_)
 ·have q:cK op=0:=by simpa using q
  exact ⟨by rw [if_pos q],e4⟩
 have q:¬ cK op=0:=by simpa using q
 rw [if_neg q];refine ad b1 (op,a,b,n,form,()) rfl ?_;dsimp only [flat,aB,ai,nA,cA];refine ad b4 (((cK op:Nat):Int),()) rfl ?_;dsimp only [flat,aB,ai,nA,cA];have hs:=si op;refine aC (zu g4 op a b n form (s:=cK op) (by omega) (by omega)) ?_;rintro _ g5 ⟨rfl,e5⟩;refine ⟨(bD (cK op) a b n,()),rfl,?_⟩;dsimp only [flat,aB,ai,nA,cA];have e45:=e4.trans e5;refine af (fun q=>?_) (fun q=>?_)
 ·have q:bD (cK op) a b n=false:=by simpa using q
  exact ⟨by rw [if_pos q],e45⟩
 have q:bD (cK op) a b n=true:=by simpa using q
 rw [if_neg (by rw [q]; simp)];have b1:=b1.ah e5 (by simp);have b4:=b4.ah e5 (by simp);refine ad b1 (op,()) rfl ?_;dsimp only [flat,aB,ai,nA,cA];refine aC (AG (t.ah e45 (by simp)) op ho.1 ho.2) ?_;rintro _ g6 ⟨rfl,e6⟩;refine ⟨(Cn op,()),rfl,?_⟩;dsimp only [flat,aB,ai,nA,cA];have e46:=e45.trans e6;have b1:=b1.ah e6 (by simp);have b4:=b4.ah e6 (by simp);refine af (fun q=>?_) (fun q=>?_)
 ·have q:Cn op=false:=by simpa using q
  refine ad b1 (form,()) rfl ?_;dsimp only [flat,aB,ai,nA,cA];refine af (fun r=>?_) (fun r=>?_)
  ·have r:¬ form=0:=by simpa using r
   exact ⟨by rw [q]; simp [r],e46⟩
  have r:form=0:=by simpa using r
  refine ad b1 (op,a,b,n,form,()) rfl ?_;dsimp only [flat,aB,ai,nA,cA];refine ad b4 (((cK op:Nat):Int),()) rfl ?_;dsimp only [flat,aB,ai,nA,cA];refine aC (nU g6 op a b n form (s:=cK op) (by omega) (by omega)) ?_;rintro _ g7 ⟨rfl,e7⟩;refine ⟨(nR (cK op) n form,()),rfl,?_⟩;dsimp only [flat,aB,ai,nA,cA];refine af (fun p=>?_) (fun p=>?_)
  ·exact ⟨by rw [q]; simp_all,e46.trans e7⟩
  ·exact ⟨by rw [q]; simp_all,e46.trans e7⟩
 ·have q:Cn op=true:=by simpa using q
  refine ad b1 (op,a,b,n,form,()) rfl ?_;dsimp only [flat,aB,ai,nA,cA];refine ad b4 (((cK op:Nat):Int),()) rfl ?_;dsimp only [flat,aB,ai,nA,cA];refine aC (nU g6 op a b n form (s:=cK op) (by omega) (by omega)) ?_;rintro _ g7 ⟨rfl,e7⟩;refine ⟨(nR (cK op) n form,()),rfl,?_⟩;dsimp only [flat,aB,ai,nA,cA];refine af (fun p=>?_) (fun p=>?_)
  ·exact ⟨by rw [q]; simp_all,e46.trans e7⟩
  ·exact ⟨by rw [q]; simp_all,e46.trans e7⟩
def encI (p:Option Addr) (l c:Nat) (x:bC):List Value:=[.int .i64 x.kind,.string x.name,.int .i64 x.inst.op,.int .i64 x.inst.a,.int .i64 x.inst.b,.int .i32 x.inst.n,.int .i64 x.inst.form,.slice p l c,.int .u32 x.e.num,.int .i64 x.n]
def qv (p:Option Addr) (l c:Nat) (x:bC):Value:=.agg (encI p l c x).toArray
structure jP (h:Hp) (p:Option Addr) (l:Nat) (x:eS):Prop where
 vw:qt h p l x.aw
 many:x.aw.length≤2^60
 names:∀ t,t∈x.aw→t.1.size≤maxLen
theorem jP.ah {h:Hp} {p:Option Addr} {l:Nat} {x:eS} (v:jP h p l x) (k:Ext h h'):jP h' p l x:=⟨v.vw.ah k (by simp),v.many,v.names⟩
theorem qt.none (h:Hp):qt h none 0 []:=⟨rfl,fun i hi=>absurd hi (by simp)⟩
theorem jP.none (h:Hp) (n:Nat):jP h none 0 ⟨[],n⟩:=⟨qt.none h,by simp,by simp⟩
theorem mN (x:eS):jh x dN=JX x:=by
 unfold jh JX dN;rw [Bool.and_comm]
def C0 (g k:Nat):T :=
 T.ae ⟨g,5,none⟩ [.int .i32] <| fun (n16:Int) =>
 cond (n16==(0:Int))
  (T.ae ⟨k,0,none⟩ [.int .i64,.int .i64,.int .i64,.int .i32,.int .i64] <| fun (n17:Int) (n18:Int) (n19:Int) (n20:Int) (n21:Int) =>
  T.call Tryz.prog 116 [.agg #[.int .i64 n17,.int .i64 n18,.int .i64 n19,.int .i32 n20,.int .i64 n21]] false [(false,[.int .i64])] <| fun (n22:Int) =>
  cond (n22==(0:Int))
  (T.ae ⟨g,7,none⟩ [.slice 109,.int .u32] <| fun (p23:Option Addr) (l24:Nat) (l25:Nat) (n26:Int) =>
  T.call Tryz.prog 46 [.agg #[.slice p23 l24 l25,.int .u32 n26]] false [(false,[.bool])] <| fun (b27:Bool) =>
  T.ret (.bool b27))
  (T.ret (.bool false)))
  (T.ret (.bool false))
def F9 (g k:Nat):T :=
 T.ae ⟨k,0,none⟩ [.int .i64,.int .i64,.int .i64,.int .i32,.int .i64] <| fun (n16:Int) (n17:Int) (n18:Int) (n19:Int) (n20:Int) =>
 T.call Tryz.prog 116 [.agg #[.int .i64 n16,.int .i64 n17,.int .i64 n18,.int .i32 n19,.int .i64 n20]] false [(false,[.int .i64])] <| fun (n21:Int) =>
 cond (n21==(0:Int))
  (T.ae ⟨g,7,none⟩ [.slice 109,.int .u32] <| fun (p22:Option Addr) (l23:Nat) (l24:Nat) (n25:Int) =>
  T.call Tryz.prog 80 [.agg #[.slice p22 l23 l24,.int .u32 n25],.agg #[.slice none 0 0,.int .u32 (0:Int)]] false [(false,[.bool])] <| fun (b26:Bool) =>
  T.ret (.bool b26))
  (T.ret (.bool false))
def sE (i:Ins):List Value:=[.int .i64 i.op,.int .i64 i.a,.int .i64 i.b,.int .i32 i.n,.int .i64 i.form]
theorem Ay {L:Lp} {h0 h:Hp} (t:zA h) {x:bC} {p:Option Addr} {l c g k:Nat} {i:Ins} (b1:aO h g e1 (encI p l c x)) (b2:aO h k e2 (sE i)) (v:jP h p l x.e) (ho:Sm i.op) (e:Ext h0 h) :
  C0 g k L (fun w h'=>w=.bool (decide (x.inst.n=0) && decide (oS i=0) && rY none x.e.aw)∧Ext h0 h') h:=by
 unfold C0;refine ad b1 (x.inst.n,()) rfl ?_;dsimp only [flat,aB,ai,nA,cA];refine af (fun q=>?_) (fun q=>?_)
 ·have q:x.inst.n=0:=by simpa using q
  refine ad b2 (i.op,i.a,i.b,i.n,i.form,()) rfl ?_;dsimp only [flat,aB,ai,nA,cA];refine aC (AE t i.op i.a i.b i.n i.form ho) ?_;rintro _ g2 ⟨rfl,e2⟩;refine ⟨(oS i,()),rfl,?_⟩;dsimp only [flat,aB,ai,nA,cA];refine af (fun r=>?_) (fun r=>?_)
  ·have r:oS i=0:=by simpa using r
   refine ad (b1.ah e2 (by simp)) ((p,l,c),(x.e.num:Int),()) rfl ?_;dsimp only [flat,aB,ai,nA,cA];refine aC (qm (c:=c) (v.ah e2).vw (by have:=v.many; omega) v.names) ?_;rintro _ g3 ⟨rfl,e3⟩;refine ⟨(rY none x.e.aw,()),rfl,?_⟩;exact ⟨by rw [decide_eq_true q,decide_eq_true r]; rfl,(e.trans e2).trans e3⟩
  ·have r:¬ oS i=0:=by simpa using r
   exact ⟨by rw [decide_eq_false r,Bool.and_false]; rfl,e.trans e2⟩
 ·have q:¬ x.inst.n=0:=by simpa using q
  exact ⟨by rw [decide_eq_false q]; rfl,e⟩
theorem F2 {L:Lp} {h0 h:Hp} (t:zA h) {x:bC} {p:Option Addr} {l c g k:Nat} {i:Ins} (b1:aO h g e1 (encI p l c x)) (b2:aO h k e2 (sE i)) (v:jP h p l x.e) (ho:Sm i.op) (e:Ext h0 h) :
  F9 g k L (fun w h'=>w=.bool (decide (oS i=0) && JX x.e)∧Ext h0 h') h:=by
 unfold F9;refine ad b2 (i.op,i.a,i.b,i.n,i.form,()) rfl ?_;dsimp only [flat,aB,ai,nA,cA];refine aC (AE t i.op i.a i.b i.n i.form ho) ?_;rintro _ g2 ⟨rfl,e2⟩;refine ⟨(oS i,()),rfl,?_⟩;dsimp only [flat,aB,ai,nA,cA];refine af (fun r=>?_) (fun r=>?_)
 ·have r:oS i=0:=by simpa using r
  refine ad (b1.ah e2 (by simp)) ((p,l,c),(x.e.num:Int),()) rfl ?_;dsimp only [flat,aB,ai,nA,cA];refine aC (yn (c:=c) (d:=0) (y:=dN) (v.ah e2).vw (qt.none g2) v.many) ?_;rintro _ g3 ⟨rfl,e3⟩;refine ⟨(jh x.e dN,()),rfl,?_⟩;exact ⟨by rw [decide_eq_true r,mN]; rfl,(e.trans e2).trans e3⟩
 ·have r:¬ oS i=0:=by simpa using r
  exact ⟨by rw [decide_eq_false r]; rfl,e.trans e2⟩
theorem instruction_hc {h:Hp} (t:zA h) {x:bC} {p:Option Addr} {l c:Nat} (v:jP h p l x.e) (ho:Sm x.inst.op) :
  HC Tryz.prog 78 #[qv p l c x] h fun w h'=>w=.bool (zt x.inst x.e)∧Ext h h':=by
 refine aL (args:=[qv p l c x]) mixed Tryz.func78 (by kernel_rfl) (mh x.kind x.name x.inst.op x.inst.a x.inst.b x.inst.n x.inst.form p l c x.e.num x.n) ?_;unfold jC;refine aW ?_;intro g1 b1 e1 z1;have b1:aO g1 h.size 96 (encI p l c x):=b1;simp only [ao];refine ad b1 (x.inst.op,()) rfl ?_;dsimp only [flat,aB,ai,nA,cA];refine aC (Dd (t.ah e1 (by simp)) x.inst.op ho.1 ho.2) ?_;rintro _ g2 ⟨s,y,rfl,e2⟩;refine ⟨(s,y,((cK x.inst.op:Nat):Int),decide (cK x.inst.op≠0),()),rfl,?_⟩;dsimp only [flat,aB,ai,nA,cA];refine aW ?_;intro g3 b3 e3 z3;refine ak b3 rfl (by simp) ?_;intro g4 b4 k4 z4;have b4:aO g4 g2.size 158 [.string s,.int .u8 y,.int .i64 (cK x.inst.op:Nat)]:=b4;have s1:=e1.size;have s2:=e2.size;have e14:=(e2.trans e3).st k4 (by omega);have e4:=e1.trans e14;have b1:=b1.ah e14 (by simp);unfold zt;refine af (fun q=>?_) (fun q=>?_)
 ·have q:cK x.inst.op=0:=by simpa using q
  exact ⟨by rw [q]; rfl,e4⟩
 have q:cK x.inst.op≠0:=by simpa using q
 rw [decide_eq_true q,Bool.true_and];refine ad b1 (x.inst.form,()) rfl ?_;dsimp only [flat,aB,ai,nA,cA];refine af (fun r=>?_) (fun r=>?_)
 ·have r:¬ x.inst.form=0:=by simpa using r
  exact ⟨by rw [decide_eq_false r]; rfl,e4⟩
 have r:x.inst.form=0:=by simpa using r
 rw [decide_eq_true r,Bool.true_and];refine ad b1 (x.inst.op,x.inst.a,x.inst.b,x.inst.n,x.inst.form,()) rfl ?_;dsimp only [flat,aB,ai,nA,cA];refine aW ?_;intro g5 b5 e5 z5;refine ak b5 rfl (by simp) ?_;intro g6 b6 k6 z6;have b6:aO g6 g4.size 90 (sE x.inst):=b6;have e46:=e5.st k6 (by omega);have e6:=e4.trans e46;have b1:=b1.ah e46 (by simp);have b4:=b4.ah e46 (by simp);simp only [ao];have hs:=si x.inst.op;refine ad b4 (((cK x.inst.op:Nat):Int),()) rfl ?_;dsimp only [flat,aB,ai,nA,cA];generalize hB:(if HB x.inst.op=true then decide (x.inst.n=0) && decide (oS { x.inst with form:=if Cn x.inst.op=true then 1 else 0 }=0) && rY none x.e.aw else decide (oS x.inst=0) && JX x.e)=B;have hF:{ x.inst with form:=0 }=x.inst:=by
  rcases hx:x.inst with ⟨a1,a2,a3,a4,a5⟩
  rw [hx] at r;simp only at r;rw [r]
 have hA:12≤cK x.inst.op→T.ap ⟨g4.size,4,none⟩ [.int .i64 1] (C0 h.size g4.size) [] (fun w h'=>w=.bool B∧Ext h h') g6:=by
  intro hh;refine ak b6 rfl (by simp [sE]) ?_;intro g7 b7 k7 z7;have b7:aO g7 g4.size 90 (sE { x.inst with form:=1 }):=b7;have e67:Ext g4 g7:=e46.st k7 (by omega);have e7:=e4.trans e67;have hw:HB x.inst.op=true:=decide_eq_true (by omega);have hp:Cn x.inst.op=true:=decide_eq_true hh;rw [if_pos hw,if_pos hp] at hB
  have:=Ay (L:=[]) (h0:=h) (t.ah e7 (by simp)) (b1.ah k7 (by simp; omega)) b7 (v.ah e7) ho e7
  rw [hB] at this;exact this
 have hR:cK x.inst.op=10∨cK x.inst.op=11→C0 h.size g4.size [] (fun w h'=>w=.bool B∧Ext h h') g6:=by
  intro hh;have hw:HB x.inst.op=true:=decide_eq_true (by omega);have hp:¬ Cn x.inst.op=true:=by unfold Cn; rw [decide_eq_false (by omega)]; simp
  rw [if_pos hw,if_neg hp,hF] at hB
  have:=Ay (L:=[]) (h0:=h) (t.ah e6 (by simp)) b1 b6 (v.ah e6) ho e6
  rw [hB] at this;exact this
 have hS:cK x.inst.op<10→F9 h.size g4.size [] (fun w h'=>w=.bool B∧Ext h h') g6:=by
  intro hh;have hw:¬ HB x.inst.op=true:=by unfold HB; rw [decide_eq_false (by omega)]; simp
  rw [if_neg hw] at hB
  have:=F2 (L:=[]) (h0:=h) (t.ah e6 (by simp)) b1 b6 (v.ah e6) ho e6
  rw [hB] at this;exact this
 clear hB;refine af (fun q1=>?_) (fun q1=>?_)
 ·have q1:((cK x.inst.op:Nat):Int)=12:=by simpa using q1
  refine af (fun q2=>hA (by omega)) (fun q2=>?_);have q2:¬ ((cK x.inst.op:Nat):Int)=12:=by simpa using q2
  exact absurd q1 q2
 have q1:¬ ((cK x.inst.op:Nat):Int)=12:=by simpa using q1
 refine af (fun q2=>?_) (fun q2=>?_)
 ·have q2:((cK x.inst.op:Nat):Int)=13:=by simpa using q2
  exact hA (by omega)
 have q2:¬ ((cK x.inst.op:Nat):Int)=13:=by simpa using q2
 refine af (fun q3=>?_) (fun q3=>?_)
 ·have q3:((cK x.inst.op:Nat):Int)=10:=by simpa using q3
  refine af (fun q2=>hR (by omega)) (fun q4=>?_);have q4:¬ ((cK x.inst.op:Nat):Int)=10:=by simpa using q4
  exact absurd q3 q4
 have q3:¬ ((cK x.inst.op:Nat):Int)=10:=by simpa using q3
 refine af (fun q4=>?_) (fun q4=>?_)
 ·have q4:((cK x.inst.op:Nat):Int)=11:=by simpa using q4
  exact hR (by omega)
 have q4:¬ ((cK x.inst.op:Nat):Int)=11:=by simpa using q4
 exact hS (by omega)
structure tu (h:Hp) (p:Option Addr) (l:Nat) (x:bC):Prop where
 wZ:jP h p l x.e
 name:x.name.size≤maxLen
 op:Sm x.inst.op
theorem tu.ah {h:Hp} {p:Option Addr} {l:Nat} {x:bC} (v:tu h p l x) (k:Ext h h'):tu h' p l x:=⟨v.wZ.ah k,v.name,v.op⟩
def iB (x y:bC):Bool:=decide (x.name=y.name) && decide (x.inst=y.inst) && decide (x.n=y.n) && jh x.e y.e
theorem Jr:Tryz.prog.underlying 90=some (.struct (FB Tryz.prog 90)):=by kernel_rfl
theorem J5 (x y:Operand) (i j:Ins) (h:Hp) (K:Value→Hp→Prop) (hk:K (.bool !(decide (i=j))) h) :
  aD Tryz.prog (Sx.bM (BinOp.neq) 90 x y (.agg (sE i).toArray) (.agg (sE j).toArray)) h K:=by
 refine zD Jr (by kernel_rfl) (by kernel_rfl) (by kernel_rfl) K ?_;have he:(FB Tryz.prog 90).all (FQ (sE i).toArray (sE j).toArray)=(i.op==j.op && (i.a==j.a && (i.b==j.b && (i.n==j.n && (i.form==j.form && true))))):=by
  rw [← Array.all_toList]
  kernel_rfl
 rw [he,Bool.and_true]
 have:(i.op==j.op && (i.a==j.a && (i.b==j.b && (i.n==j.n && i.form==j.form))))=decide (i=j):=by
  rcases i with ⟨a1,a2,a3,a4,a5⟩
  rcases j with ⟨c1,c2,c3,c4,c5⟩
  simp only [cC,Ins.mk.injEq]
  by_cases h1:a1=c1 <;> by_cases h2:a2=c2 <;> by_cases h3:a3=c3 <;> by_cases h4:a4=c4 <;> by_cases h5:a5=c5 <;> simp [h1,h2,h3,h4,h5]
 rw [this];exact hk
def MI (g k:Nat):T :=
 T.ae ⟨g,1,none⟩ [.string] <| fun (s8:ByteArray) =>
 T.ae ⟨k,1,none⟩ [.string] <| fun (s9:ByteArray) =>
 cond (!((ByteArray.toList s8)==(ByteArray.toList s9)))
  (T.ret (.int .i64 (31:Int)))
  (T.ae ⟨g,2,none⟩ [.int .i64,.int .i64,.int .i64,.int .i32,.int .i64] <| fun (n10:Int) (n11:Int) (n12:Int) (n13:Int) (n14:Int) =>
  T.ae ⟨k,2,none⟩ [.int .i64,.int .i64,.int .i64,.int .i32,.int .i64] <| fun (n15:Int) (n16:Int) (n17:Int) (n18:Int) (n19:Int) =>
  T.aY Tryz.prog (Sx.bM (BinOp.neq) 90 (Operand.tmp 109) (Operand.tmp 111) (.agg #[.int .i64 n10,.int .i64 n11,.int .i64 n12,.int .i32 n13,.int .i64 n14]) (.agg #[.int .i64 n15,.int .i64 n16,.int .i64 n17,.int .i32 n18,.int .i64 n19])) false [(false,[.bool])] <| fun (b20:Bool) =>
  cond b20
  (T.ret (.int .i64 (31:Int)))
  (T.ae ⟨g,9,none⟩ [.int .i64] <| fun (n21:Int) =>
  T.ae ⟨k,9,none⟩ [.int .i64] <| fun (n22:Int) =>
  cond (n21 != n22)
   (T.ret (.int .i64 (31:Int)))
   (T.ae ⟨g,7,none⟩ [.slice 109,.int .u32] <| fun (p23:Option Addr) (l24:Nat) (l25:Nat) (n26:Int) =>
   T.ae ⟨k,7,none⟩ [.slice 109,.int .u32] <| fun (p27:Option Addr) (l28:Nat) (l29:Nat) (n30:Int) =>
   T.call Tryz.prog 80 [.agg #[.slice p23 l24 l25,.int .u32 n26],.agg #[.slice p27 l28 l29,.int .u32 n30]] false [(false,[.bool])] <| fun (b31:Bool) =>
   cond (!b31)
   (T.ret (.int .i64 (31:Int)))
   (T.ret (.int .i64 (0:Int))))))
def Ir (b:Bool):Value:=.int .i64 (if b then 0 else 31)
theorem kY {L:Lp} {h0 h:Hp} {x y:bC} {p q:Option Addr} {l c m d g k:Nat} (b1:aO h g e1 (encI p l c x)) (b2:aO h k e2 (encI q m d y)) (v:jP h p l x.e) (w:qt h q m y.e.aw) (e:Ext h0 h) :
  MI g k L (fun w h'=>w=Ir (iB x y)∧Ext h0 h') h:=by
 unfold MI iB;refine ad b1 (x.name,()) rfl ?_;dsimp only [flat,aB,ai,nA,cA];refine ad b2 (y.name,()) rfl ?_;dsimp only [flat,aB,ai,nA,cA];rw [ByteArray.toList_eq,ByteArray.toList_eq];refine af (fun r=>?_) (fun r=>?_)
 ·have r:¬ x.name=y.name:=fun he=>by rw [he] at r; simp at r
  exact ⟨by rw [decide_eq_false r]; rfl,e⟩
 have r:x.name=y.name:=j8 (by simpa using r);rw [decide_eq_true r,Bool.true_and];refine ad b1 (x.inst.op,x.inst.a,x.inst.b,x.inst.n,x.inst.form,()) rfl ?_;dsimp only [flat,aB,ai,nA,cA];refine ad b2 (y.inst.op,y.inst.a,y.inst.b,y.inst.n,y.inst.form,()) rfl ?_;dsimp only [flat,aB,ai,nA,cA];refine bw (fun K' hK=>J5 _ _ x.inst y.inst h K' hK) ?_;refine af (fun r=>?_) (fun r=>?_)
 ·have r:¬ x.inst=y.inst:=by simpa using r
  exact ⟨by rw [decide_eq_false r]; rfl,e⟩
 have r:x.inst=y.inst:=by simpa using r
 rw [decide_eq_true r,Bool.true_and];refine ad b1 (x.n,()) rfl ?_;dsimp only [flat,aB,ai,nA,cA];refine ad b2 (y.n,()) rfl ?_;dsimp only [flat,aB,ai,nA,cA];refine af (fun r=>?_) (fun r=>?_)
 ·have r:¬ x.n=y.n:=by simpa using r
  exact ⟨by rw [decide_eq_false r]; rfl,e⟩
 have r:x.n=y.n:=by simpa using r
 rw [decide_eq_true r,Bool.true_and];refine ad b1 ((p,l,c),(x.e.num:Int),()) rfl ?_;dsimp only [flat,aB,ai,nA,cA];refine ad b2 ((q,m,d),(y.e.num:Int),()) rfl ?_;dsimp only [flat,aB,ai,nA,cA];refine aC (yn (c:=c) (d:=d) v.vw w v.many) ?_;rintro _ g3 ⟨rfl,e3⟩;refine ⟨(jh x.e y.e,()),rfl,?_⟩;dsimp only [flat,aB,ai,nA,cA];refine af (fun r=>?_) (fun r=>?_)
 ·have r:jh x.e y.e=false:=by simpa using r
  exact ⟨by rw [r]; rfl,e.trans e3⟩
 ·have r:jh x.e y.e=true:=by simpa using r
  exact ⟨by rw [r]; rfl,e.trans e3⟩
theorem qi (x:eS):jh x x=true:=Eg x
theorem CN {x:bC} (hk:x.kind=1):cM x sec=(bh x.name.data.toList && iB x { cR x.kind with name:=x.name }):=by
 unfold cM iB;simp only [hk,cR,qi,mN,z1,z2,z3,z4];simp (decide:=true) only [if_true,if_false,decide_true,Bool.true_and,Bool.and_true]
 try simp only [Bool.and_assoc,Bool.and_comm,Bool.and_left_comm]
theorem FR {x:bC} (hk:x.kind=2):cM x sec=(decide (sec=0) && zt x.inst x.e && iB x { cR x.kind with inst:=x.inst,e:=x.e }):=by
 unfold cM iB;simp only [hk,cR,qi,mN,z1,z2,z3,z4];simp (decide:=true) only [if_true,if_false,decide_true,Bool.true_and,Bool.and_true]
 try simp only [Bool.and_assoc,Bool.and_comm,Bool.and_left_comm]
theorem Hl {x:bC} (hk:x.kind=3):cM x sec=(qf x.n && iB x { cR x.kind with n:=x.n }):=by
 unfold cM iB;simp only [hk,cR,qi,mN,z1,z2,z3,z4];simp (decide:=true) only [if_true,if_false,decide_true,Bool.true_and,Bool.and_true]
 try simp only [Bool.and_assoc,Bool.and_comm,Bool.and_left_comm]
theorem FG {x:bC} (hk:x.kind=4):cM x sec=(decide (sec=0) && iB x (cR x.kind)):=by
 unfold cM iB;simp only [hk,cR,qi,mN,z1,z2,z3,z4];simp (decide:=true) only [if_true,if_false,decide_true,Bool.true_and,Bool.and_true]
 try simp only [Bool.and_assoc,Bool.and_comm,Bool.and_left_comm]
theorem F4 {x:bC} (hk:x.kind=5):cM x sec=(decide (sec=1) && decide (-128≤x.n) && decide (x.n≤255) && iB x { cR x.kind with n:=x.n }):=by
 unfold cM iB;simp only [hk,cR,qi,mN,z1,z2,z3,z4];simp (decide:=true) only [if_true,if_false,decide_true,Bool.true_and,Bool.and_true]
 try simp only [Bool.and_assoc,Bool.and_comm,Bool.and_left_comm]
theorem FE {x:bC} (hk:x.kind=6):cM x sec=(decide (sec=1) && rY none x.e.aw && iB x { cR x.kind with e:=x.e }):=by
 unfold cM iB;simp only [hk,cR,qi,mN,z1,z2,z3,z4];simp (decide:=true) only [if_true,if_false,decide_true,Bool.true_and,Bool.and_true]
 try simp only [Bool.and_assoc,Bool.and_comm,Bool.and_left_comm]
theorem GY {x:bC} (hk:x.kind=7):cM x sec=(decide (sec=1) && decide (0≤x.n) && decide (x.n≤1048576) && iB x { cR x.kind with n:=x.n }):=by
 unfold cM iB;simp only [hk,cR,qi,mN,z1,z2,z3,z4];simp (decide:=true) only [if_true,if_false,decide_true,Bool.true_and,Bool.and_true]
 try simp only [Bool.and_assoc,Bool.and_comm,Bool.and_left_comm]
theorem CV {x:bC} (h1:x.kind≠1) (h2:x.kind≠2) (h3:x.kind≠3) (h4:x.kind≠4) (h5:x.kind≠5) (h6:x.kind≠6) (h7:x.kind≠7):cM x sec=false:=by
 unfold cM;rw [if_neg h1,if_neg h2,if_neg h3,if_neg h4,if_neg h5,if_neg h6,if_neg h7]
theorem GR {h:Hp} (t:zA h) {x:bC} {p:Option Addr} {l c:Nat} (v:tu h p l x) :
  HC Tryz.prog 44 #[qv p l c x,.int .i64 0] h fun w h'=>w=Ir (cM x 0)∧Ext h h':=by
 refine aL (args:=[qv p l c x,.int .i64 0]) mixed Tryz.func44 (by kernel_rfl) (qg x.kind x.name x.inst.op x.inst.a x.inst.b x.inst.n x.inst.form p l c x.e.num x.n) ?_;unfold lL;refine aW ?_;intro g1 b1 e1 z1;have b1:aO g1 h.size 96 (encI p l c x):=b1;refine ad b1 (x.kind,()) rfl ?_;dsimp only [flat,aB,ai,nA,cA];refine aW ?_;intro g2 b2 e2 z2;refine ak b2 rfl (by simp) ?_;intro g3 b3 k3 z3;have b3:aO g3 g1.size 96 (encI none 0 0 (cR x.kind)):=b3;have s1:=e1.size;have e13:=e2.st k3 (Nat.le_refl _);have e3:=e1.trans e13;have b1:=b1.ah e13 (by simp);simp only [ao];refine ad b1 (x.kind,()) rfl ?_;dsimp only [flat,aB,ai,nA,cA];refine af (fun q=>?_) (fun q=>?_)
 ·have q:x.kind=1:=by simpa using q
  rw [CN q];refine ad b1 (x.name,()) rfl ?_;dsimp only [flat,aB,ai,nA,cA];refine ak b3 rfl (by simp [encI]) ?_;intro g4 b4 k4 z4;have b4:aO g4 g1.size 96 (encI none 0 0 { cR x.kind with name:=x.name }):=b4;have e4:=e3.st k4 (by omega);have b1:=b1.ah k4 (by simp; omega);refine ad b1 (x.name,()) rfl ?_;dsimp only [flat,aB,ai,nA,cA];refine aE (kz x.name g4 (by have:=v.name; have:maxLen=9223372036854775807:=rfl; omega)) ?_;refine af (fun r=>?_) (fun r=>?_)
  ·have r:bh x.name.data.toList=false:=by simpa using r
   exact ⟨by rw [r]; rfl,e4⟩
  have r:bh x.name.data.toList=true:=by simpa using r
  rw [r,Bool.true_and];have hh:=kY (L:=[]) (h0:=h) (y:={ cR x.kind with name:=x.name }) b1 b4 (v.wZ.ah e4) (qt.none g4) e4;exact hh
 have q1:x.kind≠1:=by simpa using q
 refine af (fun q=>?_) (fun q=>?_)
 ·have q:x.kind=2:=by simpa using q
  rw [FR q];refine ad b1 (x.inst.op,x.inst.a,x.inst.b,x.inst.n,x.inst.form,()) rfl ?_;dsimp only [flat,aB,ai,nA,cA];refine ad b1 ((p,l,c),(x.e.num:Int),()) rfl ?_;dsimp only [flat,aB,ai,nA,cA];refine ak b3 rfl (by simp [encI]) ?_;intro g4 b4 k4 z4;have e4:=e3.st k4 (by omega);have b1:=b1.ah k4 (by simp; omega);refine ⟨⟨b1.cells [.slice p l c,.int .u32 x.e.num] rfl,trivial⟩,?_⟩;refine ak b4 rfl (by simp [encI,iK]) ?_;intro g5 b5 k5 z5;have b5:aO g5 g1.size 96 (encI p l c { cR x.kind with inst:=x.inst,e:=x.e }):=b5;have e5:=e4.st k5 (by omega);have b1:=b1.ah k5 (by simp; omega);refine ad b1 (x.kind,x.name,x.inst.op,x.inst.a,x.inst.b,x.inst.n,x.inst.form,(p,l,c),(x.e.num:Int),x.n,()) rfl ?_;dsimp only [flat,aB,ai,nA,cA];refine aC (instruction_hc (c:=c) (t.ah e5 (by simp)) (v.wZ.ah e5) v.op) ?_;rintro _ g6 ⟨rfl,e6'⟩;refine ⟨(zt x.inst x.e,()),rfl,?_⟩;dsimp only [flat,aB,ai,nA,cA];have e6:=e5.trans e6';refine af (fun r=>?_) (fun r=>?_)
  ·have r:zt x.inst x.e=false:=by simpa using r
   exact ⟨by rw [r]; rfl,e6⟩
  have r:zt x.inst x.e=true:=by simpa using r
  rw [r];have b1:=b1.ah e6' (by simp);have b5:=b5.ah e6' (by simp);have hh:=kY (L:=[]) (h0:=h) (y:={ cR x.kind with inst:=x.inst,e:=x.e }) b1 b5 (v.wZ.ah e6) (v.wZ.ah e6).vw e6;exact hh
 have q2:x.kind≠2:=by simpa using q
 refine af (fun q=>?_) (fun q=>?_)
 ·have q:x.kind=3:=by simpa using q
  rw [Hl q];refine ad b1 (x.n,()) rfl ?_;dsimp only [flat,aB,ai,nA,cA];refine ak b3 rfl (by simp [encI]) ?_;intro g4 b4 k4 z4;have b4:aO g4 g1.size 96 (encI none 0 0 { cR x.kind with n:=x.n }):=b4;have e4:=e3.st k4 (by omega);have b1:=b1.ah k4 (by simp; omega);refine ad b1 (x.n,()) rfl ?_;dsimp only [flat,aB,ai,nA,cA];refine aE (wB g4 x.n) ?_;refine af (fun r=>?_) (fun r=>?_)
  ·have r:qf x.n=false:=by simpa using r
   exact ⟨by rw [r]; rfl,e4⟩
  have r:qf x.n=true:=by simpa using r
  rw [r,Bool.true_and];have hh:=kY (L:=[]) (h0:=h) (y:={ cR x.kind with n:=x.n }) b1 b4 (v.wZ.ah e4) (qt.none g4) e4;exact hh
 have q3:x.kind≠3:=by simpa using q
 refine af (fun q=>?_) (fun q=>?_)
 ·have q:x.kind=4:=by simpa using q
  rw [FG q];have hh:=kY (L:=[]) (h0:=h) (y:=(cR x.kind)) b1 b3 (v.wZ.ah e3) (qt.none g3) e3;exact hh
 have q4:x.kind≠4:=by simpa using q
 refine af (fun q=>?_) (fun q=>?_)
 ·have q:x.kind=5:=by simpa using q
  rw [F4 q];refine ad b1 (x.n,()) rfl ?_;dsimp only [flat,aB,ai,nA,cA];refine ak b3 rfl (by simp [encI]) ?_;intro g4 b4 k4 z4;have b4:aO g4 g1.size 96 (encI none 0 0 { cR x.kind with n:=x.n }):=b4;have e4:=e3.st k4 (by omega);have b1:=b1.ah k4 (by simp; omega);exact ⟨rfl,e4⟩
 have q5:x.kind≠5:=by simpa using q
 refine af (fun q=>?_) (fun q=>?_)
 ·have q:x.kind=6:=by simpa using q
  rw [FE q];refine ad b1 ((p,l,c),(x.e.num:Int),()) rfl ?_;dsimp only [flat,aB,ai,nA,cA];refine ak b3 rfl (by simp [encI]) ?_;intro g4 b4 k4 z4;have b4:aO g4 g1.size 96 (encI p l c { cR x.kind with e:=x.e }):=b4;have e4:=e3.st k4 (by omega);have b1:=b1.ah k4 (by simp; omega);exact ⟨rfl,e4⟩
 have q6:x.kind≠6:=by simpa using q
 refine af (fun q=>?_) (fun q=>?_)
 ·have q:x.kind=7:=by simpa using q
  rw [GY q];refine ad b1 (x.n,()) rfl ?_;dsimp only [flat,aB,ai,nA,cA];refine ak b3 rfl (by simp [encI]) ?_;intro g4 b4 k4 z4;have b4:aO g4 g1.size 96 (encI none 0 0 { cR x.kind with n:=x.n }):=b4;have e4:=e3.st k4 (by omega);have b1:=b1.ah k4 (by simp; omega);exact ⟨rfl,e4⟩
 have q7:x.kind≠7:=by simpa using q
 exact ⟨by rw [CV q1 q2 q3 q4 q5 q6 q7]; rfl,e3⟩
theorem F7 {h:Hp} (t:zA h) {x:bC} {p:Option Addr} {l c:Nat} (v:tu h p l x) :
  HC Tryz.prog 44 #[qv p l c x,.int .i64 1] h fun w h'=>w=Ir (cM x 1)∧Ext h h':=by
 refine aL (args:=[qv p l c x,.int .i64 1]) mixed Tryz.func44 (by kernel_rfl) (pY x.kind x.name x.inst.op x.inst.a x.inst.b x.inst.n x.inst.form p l c x.e.num x.n) ?_;unfold lU;refine aW ?_;intro g1 b1 e1 z1;have b1:aO g1 h.size 96 (encI p l c x):=b1;refine ad b1 (x.kind,()) rfl ?_;dsimp only [flat,aB,ai,nA,cA];refine aW ?_;intro g2 b2 e2 z2;refine ak b2 rfl (by simp) ?_;intro g3 b3 k3 z3;have b3:aO g3 g1.size 96 (encI none 0 0 (cR x.kind)):=b3;have s1:=e1.size;have e13:=e2.st k3 (Nat.le_refl _);have e3:=e1.trans e13;have b1:=b1.ah e13 (by simp);simp only [ao];refine ad b1 (x.kind,()) rfl ?_;dsimp only [flat,aB,ai,nA,cA];refine af (fun q=>?_) (fun q=>?_)
 ·have q:x.kind=1:=by simpa using q
  rw [CN q];refine ad b1 (x.name,()) rfl ?_;dsimp only [flat,aB,ai,nA,cA];refine ak b3 rfl (by simp [encI]) ?_;intro g4 b4 k4 z4;have b4:aO g4 g1.size 96 (encI none 0 0 { cR x.kind with name:=x.name }):=b4;have e4:=e3.st k4 (by omega);have b1:=b1.ah k4 (by simp; omega);refine ad b1 (x.name,()) rfl ?_;dsimp only [flat,aB,ai,nA,cA];refine aE (kz x.name g4 (by have:=v.name; have:maxLen=9223372036854775807:=rfl; omega)) ?_;refine af (fun r=>?_) (fun r=>?_)
  ·have r:bh x.name.data.toList=false:=by simpa using r
   exact ⟨by rw [r]; rfl,e4⟩
  have r:bh x.name.data.toList=true:=by simpa using r
  rw [r,Bool.true_and];have hh:=kY (L:=[]) (h0:=h) (y:={ cR x.kind with name:=x.name }) b1 b4 (v.wZ.ah e4) (qt.none g4) e4;exact hh
 have q1:x.kind≠1:=by simpa using q
 refine af (fun q=>?_) (fun q=>?_)
 ·have q:x.kind=2:=by simpa using q
  rw [FR q];refine ad b1 (x.inst.op,x.inst.a,x.inst.b,x.inst.n,x.inst.form,()) rfl ?_;dsimp only [flat,aB,ai,nA,cA];refine ad b1 ((p,l,c),(x.e.num:Int),()) rfl ?_;dsimp only [flat,aB,ai,nA,cA];refine ak b3 rfl (by simp [encI]) ?_;intro g4 b4 k4 z4;have e4:=e3.st k4 (by omega);have b1:=b1.ah k4 (by simp; omega);refine ⟨⟨b1.cells [.slice p l c,.int .u32 x.e.num] rfl,trivial⟩,?_⟩;refine ak b4 rfl (by simp [encI,iK]) ?_;intro g5 b5 k5 z5;have b5:aO g5 g1.size 96 (encI p l c { cR x.kind with inst:=x.inst,e:=x.e }):=b5;have e5:=e4.st k5 (by omega);have b1:=b1.ah k5 (by simp; omega);exact ⟨rfl,e5⟩
 have q2:x.kind≠2:=by simpa using q
 refine af (fun q=>?_) (fun q=>?_)
 ·have q:x.kind=3:=by simpa using q
  rw [Hl q];refine ad b1 (x.n,()) rfl ?_;dsimp only [flat,aB,ai,nA,cA];refine ak b3 rfl (by simp [encI]) ?_;intro g4 b4 k4 z4;have b4:aO g4 g1.size 96 (encI none 0 0 { cR x.kind with n:=x.n }):=b4;have e4:=e3.st k4 (by omega);have b1:=b1.ah k4 (by simp; omega);refine ad b1 (x.n,()) rfl ?_;dsimp only [flat,aB,ai,nA,cA];refine aE (wB g4 x.n) ?_;refine af (fun r=>?_) (fun r=>?_)
  ·have r:qf x.n=false:=by simpa using r
   exact ⟨by rw [r]; rfl,e4⟩
  have r:qf x.n=true:=by simpa using r
  rw [r,Bool.true_and];have hh:=kY (L:=[]) (h0:=h) (y:={ cR x.kind with n:=x.n }) b1 b4 (v.wZ.ah e4) (qt.none g4) e4;exact hh
 have q3:x.kind≠3:=by simpa using q
 refine af (fun q=>?_) (fun q=>?_)
 ·have q:x.kind=4:=by simpa using q
  rw [FG q];exact ⟨rfl,e3⟩
 have q4:x.kind≠4:=by simpa using q
 refine af (fun q=>?_) (fun q=>?_)
 ·have q:x.kind=5:=by simpa using q
  rw [F4 q];refine ad b1 (x.n,()) rfl ?_;dsimp only [flat,aB,ai,nA,cA];refine ak b3 rfl (by simp [encI]) ?_;intro g4 b4 k4 z4;have b4:aO g4 g1.size 96 (encI none 0 0 { cR x.kind with n:=x.n }):=b4;have e4:=e3.st k4 (by omega);have b1:=b1.ah k4 (by simp; omega);refine ad b1 (x.n,()) rfl ?_;dsimp only [flat,aB,ai,nA,cA];refine af (fun r=>?_) (fun r=>?_)
  ·have r:=of_decide_eq_true r;refine ad b1 (x.n,()) rfl ?_;dsimp only [flat,aB,ai,nA,cA];refine af (fun r2=>?_) (fun r2=>?_)
   ·have r2:¬ x.n≤255:=by simpa using r2
    exact ⟨by rw [decide_eq_false r2,Bool.and_false]; rfl,e4⟩
   have r2:x.n≤255:=by simpa using r2
   rw [decide_eq_true r2,decide_eq_true (show -128≤x.n from r)];have hh:=kY (L:=[]) (h0:=h) (y:={ cR x.kind with n:=x.n }) b1 b4 (v.wZ.ah e4) (qt.none g4) e4;exact hh
  ·have r:=of_decide_eq_false r;exact ⟨by rw [decide_eq_false (show ¬ -128≤x.n from r),Bool.and_false]; rfl,e4⟩
 have q5:x.kind≠5:=by simpa using q
 refine af (fun q=>?_) (fun q=>?_)
 ·have q:x.kind=6:=by simpa using q
  rw [FE q];refine ad b1 ((p,l,c),(x.e.num:Int),()) rfl ?_;dsimp only [flat,aB,ai,nA,cA];refine ak b3 rfl (by simp [encI]) ?_;intro g4 b4 k4 z4;have b4:aO g4 g1.size 96 (encI p l c { cR x.kind with e:=x.e }):=b4;have e4:=e3.st k4 (by omega);have b1:=b1.ah k4 (by simp; omega);refine ad b1 ((p,l,c),(x.e.num:Int),()) rfl ?_;dsimp only [flat,aB,ai,nA,cA];refine aC (qm (c:=c) (v.wZ.ah e4).vw (by have:=v.wZ.many; omega) v.wZ.names) ?_;rintro _ g6 ⟨rfl,e6'⟩;refine ⟨(rY none x.e.aw,()),rfl,?_⟩;dsimp only [flat,aB,ai,nA,cA];have e6:=e4.trans e6';refine af (fun r=>?_) (fun r=>?_)
  ·have r:rY none x.e.aw=false:=by simpa using r
   exact ⟨by rw [r]; rfl,e6⟩
  have r:rY none x.e.aw=true:=by simpa using r
  rw [r];have b1:=b1.ah e6' (by simp);have b4:=b4.ah e6' (by simp);have hh:=kY (L:=[]) (h0:=h) (y:={ cR x.kind with e:=x.e }) b1 b4 (v.wZ.ah e6) (v.wZ.ah e6).vw e6;exact hh
 have q6:x.kind≠6:=by simpa using q
 refine af (fun q=>?_) (fun q=>?_)
 ·have q:x.kind=7:=by simpa using q
  rw [GY q];refine ad b1 (x.n,()) rfl ?_;dsimp only [flat,aB,ai,nA,cA];refine ak b3 rfl (by simp [encI]) ?_;intro g4 b4 k4 z4;have b4:aO g4 g1.size 96 (encI none 0 0 { cR x.kind with n:=x.n }):=b4;have e4:=e3.st k4 (by omega);have b1:=b1.ah k4 (by simp; omega);refine ad b1 (x.n,()) rfl ?_;dsimp only [flat,aB,ai,nA,cA];refine af (fun r=>?_) (fun r=>?_)
  ·have r:=of_decide_eq_true r;refine ad b1 (x.n,()) rfl ?_;dsimp only [flat,aB,ai,nA,cA];refine af (fun r2=>?_) (fun r2=>?_)
   ·have r2:¬ x.n≤1048576:=by simpa using r2
    exact ⟨by rw [decide_eq_false r2,Bool.and_false]; rfl,e4⟩
   have r2:x.n≤1048576:=by simpa using r2
   rw [decide_eq_true r2,decide_eq_true (show 0≤x.n from r)];have hh:=kY (L:=[]) (h0:=h) (y:={ cR x.kind with n:=x.n }) b1 b4 (v.wZ.ah e4) (qt.none g4) e4;exact hh
  ·have r:=of_decide_eq_false r;exact ⟨by rw [decide_eq_false (show ¬ 0≤x.n from r),Bool.and_false]; rfl,e4⟩
 have q7:x.kind≠7:=by simpa using q
 exact ⟨by rw [CV q1 q2 q3 q4 q5 q6 q7]; rfl,e3⟩
section
variable {α:Type}
def vE (en:α→Value) (D:List (ByteArray × α)):List (ByteArray × Value):=D.map fun p=>(p.1,en p.2)
def gE (D:List (ByteArray × α)) (s:ByteArray):Option α:=(D.find? fun p=>decide (s=p.1)).map (·.2)
def pE (D:List (ByteArray × α)) (s:ByteArray) (v:α):List (ByteArray × α):=if (gE D s).isSome then D.map fun p=>if s=p.1 then (p.1,v) else p else D++[(s,v)]
theorem Dx (en:α→Value) (D:List (ByteArray × α)) (s:ByteArray):look (vE en D) s=(gE D s).map en:=by
 unfold look gE vE
 induction D with
 | nil=>rfl
 | cons p D ih =>
  by_cases h:s=p.1
  ·simp [h]
  ·simp only [List.map_cons,List.find?_cons,decide_eq_false h];exact ih
theorem JQ (en:α→Value) (D:List (ByteArray × α)) (s:ByteArray) (v:α):EV (vE en D) s (en v)=vE en (pE D s v):=by
 unfold EV pE;rw [Dx];cases h:gE D s with
 | none=>simp [vE]
 | some q =>
  simp only [Option.map_some,Option.isSome_some,if_true,vE,List.map_map];refine List.map_congr_left fun p hp=>?_
  simp only [Function.comp];split <;> simp_all
theorem DF (D:List (ByteArray × α)) (s:ByteArray) (v:α):(pE D s v).length=if (gE D s).isSome then D.length else D.length+1:=by
 unfold pE;split <;> simp
theorem DH (D:List (ByteArray × α)) (s t:ByteArray) (v:α):gE (D++[(s,v)]) t=(gE D t).or (if t=s then some v else none):=by
 unfold gE;rw [List.find?_append];cases h:D.find? (fun p=>decide (t=p.1)) with
 | some q=>simp
 | none =>
  simp only [Option.none_or,Option.map_none,List.find?_cons,List.find?_nil]
  by_cases e:t=s
  ·simp [e]
  ·simp [e]
theorem JK (D:List (ByteArray × α)) (s t:ByteArray) (v:α) (hs:(gE D s).isSome):gE (D.map fun p=>if s=p.1 then (p.1,v) else p) t=if t=s then some v else gE D t:=by
 unfold gE at *
 induction D with
 | nil=>simp at hs
 | cons p D ih =>
  by_cases h:s=p.1
  ·by_cases e:t=s
   ·simp [h,e]
   ·have e2:¬ t=p.1:=fun k=>e (k.trans h.symm)
    have hg:∀ l:List (ByteArray × α),(List.find? (fun p=>decide (t=p.1)) (List.map (fun p=>if s=p.1 then (p.1,v) else p) l)).map (·.2)=(List.find? (fun p=>decide (t=p.1)) l).map (·.2):=by
     intro l
     induction l with
     | nil=>rfl
     | cons q l ihl =>
      by_cases hq:s=q.1
      ·have:¬ t=q.1:=fun k=>e (k.trans hq.symm)
       simp only [List.map_cons,List.find?_cons,if_pos hq,decide_eq_false this];exact ihl
      ·simp only [List.map_cons,List.find?_cons,if_neg hq]
       by_cases ht:t=q.1
       ·simp [ht]
       ·simp only [decide_eq_false ht];exact ihl
    simp only [List.map_cons,List.find?_cons,if_pos h,decide_eq_false e2,if_neg e];exact hg D
  ·have hs2:(Option.map (fun x=>x.2) (List.find? (fun p=>decide (s=p.1)) D)).isSome:=by
    simpa [List.find?_cons,decide_eq_false h] using hs
   simp only [List.map_cons,List.find?_cons,if_neg h]
   by_cases ht:t=p.1
   ·have:¬ t=s:=fun k=>h (k.symm.trans ht)
    simp [ht,if_neg (ht▸this)]
   ·simp only [decide_eq_false ht];exact ih hs2
theorem Lv (D:List (ByteArray × α)) (s:ByteArray) (v:α) (t:ByteArray):gE (pE D s v) t=if t=s then some v else gE D t:=by
 unfold pE;split
 ·rename_i h;exact JK D s t v h
 ·rename_i h;rw [DH]
  by_cases e:t=s
  ·subst e
   have:gE D t=none:=by simpa using h
   rw [this]; simp
  ·simp [e]
def JT (f:ByteArray→Option α) (s:ByteArray) (v:α):ByteArray→Option α:=fun t=>if t=s then some v else f t
def sI (en:α→Value) (h:Hp) (g:Nat) (f:ByteArray→Option α) (n:Nat):Prop:=∃ D:List (ByteArray × α),eP h g (vE en D)∧(∀ s,gE D s=f s)∧D.length=n
theorem sI.ah {en:α→Value} {ws:List Nat} {h h':Hp} {g:Nat} {f:ByteArray→Option α} {n:Nat} (m:sI en h g f n) (k:Ch ws h h') (hw:g∉ws):sI en h' g f n:=by
 obtain ⟨D,m,r⟩:=m;exact ⟨D,m.ah k hw,r⟩
theorem sI.lt {en:α→Value} {h:Hp} {g:Nat} {f:ByteArray→Option α} {n:Nat} (m:sI en h g f n):g<h.size:=by
 obtain ⟨D,m,r⟩:=m;exact m.lt
theorem sI.new {en:α→Value} {h:Hp} {g:Nat} (m:eP h g []):sI en h g (fun _=>none) 0:=⟨[],m,fun s=>rfl,rfl⟩
theorem sI.EV {en:α→Value} {h':Hp} {g:Nat} {f:ByteArray→Option α} {n:Nat} {D:List (ByteArray × α)} (hD:∀ s,gE D s=f s) (hn:D.length=n) {s:ByteArray} {v:α} (m:eP h' g (Sx.EV (vE en D) s (en v))):sI en h' g (JT f s v) (if (f s).isSome then n else n+1):=by
 rw [JQ] at m;refine ⟨_,m,fun t=>?_,?_⟩
 ·rw [Lv,hD t]; rfl
 ·rw [DF,hD s,hn]
end
def eB (b:Bool):Value:=.bool b
theorem JB:Tryz.prog.underlying 70=some (.map 9 4):=by kernel_rfl
theorem Ei:Tryz.prog.underlying 9=some .string:=by kernel_rfl
theorem KG:(Tryz.prog.info? 4).bind (·.zero)=some (.bool false):=by kernel_rfl
def oT (h:Hp) (g:Nat) (D:List ByteArray):Prop:=∃ n,sI eB h g (fun s=>if eQ D s then some true else none) n
theorem oT.ah {ws:List Nat} {h h':Hp} {g:Nat} {D:List ByteArray} (m:oT h g D) (k:Ch ws h h') (hw:g∉ws):oT h' g D:=by
 obtain ⟨n,m⟩:=m;exact ⟨n,m.ah k hw⟩
theorem oT.lt {h:Hp} {g:Nat} {D:List ByteArray} (m:oT h g D):g<h.size:=by
 obtain ⟨n,m⟩:=m;exact m.lt
section
variable {L:Lp} {K:Value→Hp→Prop} {h:Hp} {g:Nat} {D:List ByteArray}
theorem uX (m:oT h g D) (s:ByteArray) {k:Bool→T} (hk:k (eQ D s) L K h):T.aY Tryz.prog (Instr.lookup 70 (.map (some g)) (.string s) false) false [(false,[.bool])] k L K h:=by
 obtain ⟨n,D',m,hD,hn⟩:=m;refine yr JB Ei KG m s false _ ?_;refine ⟨(eQ D s,()),?_,hk⟩;simp only [Bool.false_eq_true,if_false];rw [Dx,hD s];dsimp only
 all_goals (cases eQ D s <;> rfl)
theorem GW (m:oT h g D) {s:ByteArray} (hs:s.size≤maxLen) {k:T} (hk:∀ h',oT h' g (s::D)→Ch [g] h h'→h'.size=h.size→k L K h') :
  T.mC Tryz.prog (Instr.mapUpdate 70 (.map (some g)) (.string s) (.bool true)) k L K h:=by
 obtain ⟨n,D',m,hD,hn⟩:=m;refine rI JB Ei m hs _ _ ?_;intro h' m' c' z'
 have:=sI.EV (en:=eB) hD hn (v:=true) m'
 have he:JT (fun t=>if eQ D t then some true else none) s true=fun t=>if eQ (s::D) t then some true else none:=by
  funext t
  unfold JT eQ
  by_cases h1:t=s
  ·rw [if_pos h1,if_pos];simp [h1]
  ·rw [if_neg h1]
   have:¬ s=t:=fun e=>h1 e.symm
   rw [List.any_cons,decide_eq_false this,Bool.false_or]
 rw [he] at this;exact hk h' ⟨_,this⟩ c' z'
theorem Je {t:TypeId} {k:Option Nat→T} (hk:∀ h',oT h' h.size []→Ext h h'→h'.size=h.size+1→k (some h.size) L K h'):T.aY Tryz.prog (Instr.makeMap t none) false [(false,[.map 0 0])] k L K h:=by
 refine pH _ ?_;intro h' m e z;exact ⟨(some h.size,()),rfl,hk h' ⟨0,sI.new m⟩ e z⟩
end
/-! Lists in memory. -/
structure Cs (h:Hp) (p:Option Addr) (l:Nat) (us:List bC):Prop where
 len:l=us.length
 many:us.length≤2^60
 cells:∀ i,(hi:i<us.length)→∃ a q m c,p=some a∧aH h (a.add (i*10)) 0 (encI q m c us[i])∧tu h q m us[i]
theorem Cs.ah {h h':Hp} {p:Option Addr} {l:Nat} {us:List bC} (v:Cs h p l us) (k:Ext h h'):Cs h' p l us :=
 ⟨v.len,v.many,fun i hi=>by
  obtain ⟨a,q,m,c,ha,hc,hv⟩:=v.cells i hi;exact ⟨a,q,m,c,ha,bt k (by simp) _ _ hc,hv.ah k⟩⟩
def Ho (p:Option Addr) (l c:Nat) (x:lz):List Value:=[.string x.1,.slice p l c,.int .u32 x.2.num]
structure IV (h:Hp) (p:Option Addr) (l:Nat) (us:List lz):Prop where
 len:l=us.length
 many:us.length≤2^60
 cells:∀ i,(hi:i<us.length)→∃ a q m c,p=some a∧aH h (a.add (i*3)) 0 (Ho q m c us[i])∧jP h q m us[i].2∧us[i].1.size≤maxLen
theorem IV.ah {h h':Hp} {p:Option Addr} {l:Nat} {us:List lz} (v:IV h p l us) (k:Ext h h'):IV h' p l us :=
 ⟨v.len,v.many,fun i hi=>by
  obtain ⟨a,q,m,c,ha,hc,hv,hs⟩:=v.cells i hi;exact ⟨a,q,m,c,ha,bt k (by simp) _ _ hc,hv.ah k,hs⟩⟩
structure Fp (h:Hp) (p:Option Addr) (l:Nat) (us:List ByteArray):Prop where
 len:l=us.length
 many:us.length≤2^60
 cells:∀ i,(hi:i<us.length)→∃ a,p=some a∧aH h (a.add (i*1)) 0 [.string us[i]]∧us[i].size≤maxLen
theorem Fp.ah {h h':Hp} {p:Option Addr} {l:Nat} {us:List ByteArray} (v:Fp h p l us) (k:Ext h h'):Fp h' p l us :=
 ⟨v.len,v.many,fun i hi=>by
  obtain ⟨a,ha,hc,hs⟩:=v.cells i hi;exact ⟨a,ha,bt k (by simp) _ _ hc,hs⟩⟩
structure bL where
 p:Option Addr
 l:Nat
 c:Nat
def bL.v (s:bL):Value:=.slice s.p s.l s.c
structure fO (h:Hp) (a b c d:bL) (u:ig):Prop where
 text:Cs h a.p a.l u.text
 data:Cs h b.p b.l u.data
 aV:IV h c.p c.l u.aV
 aF:Fp h d.p d.l u.aF
theorem fO.ah {h h':Hp} {a b c d:bL} {u:ig} (v:fO h a b c d u) (k:Ext h h'):fO h' a b c d u:=⟨v.text.ah k,v.data.ah k,v.aV.ah k,v.aF.ah k⟩
def oD (a b c d:bL):Value:=.agg #[a.v,b.v,c.v,d.v]
theorem KR:Tryz.prog.underlying 100=some (.slice 23):=by kernel_rfl
theorem LM:(Tryz.prog.info? 23).map (fun i=>(i.zero,i.size,i.bytes))=some (some (.slice none 0 0),1,24):=by kernel_rfl
theorem Lw (p1:Option Addr) (l1 c1:Nat) (p2:Option Addr) (l2 c2:Nat):Instr.fill (fun j=>some (j*1,1)) ((Array.range (2*1)).map ((Value.slice none 0 0).cells[· % (Value.slice none 0 0).cells.size]!)) [(0,.slice p1 l1 c1),(1,.slice p2 l2 c2)]=some ([.slice p1 l1 c1,.slice p2 l2 c2]:List Value).toArray:=by kernel_rfl
/-! The sections,one behind the other. -/
def Ef (u:ig) (k:Nat):List bC:=if k=0 then u.text else u.data
def pT (u:ig) (k:Nat):List ByteArray:=if k=0 then [] else if k=1 then bH [] u.text else bH (bH [] u.text) u.data
def uA (u:ig) (k:Nat):Bool:=if k=0 then uE u else if k=1 then (eh 1 (bH [] u.text) u.data && (fS (bH (bH [] u.text) u.data) u.aV && cD u.names bK u.aF)) else (fS (bH (bH [] u.text) u.data) u.aV && cD u.names bK u.aF)
theorem EI (u:ig) {k:Nat} (hk:k<2):uA u k=(eh k (pT u k) (Ef u k) && uA u (k+1)):=by
 have:k=0∨k=1:=by omega
 rcases this with rfl | rfl
 ·simp [uA,pT,Ef,uE,Bool.and_assoc]
 ·simp [uA,pT,Ef]
theorem EP (u:ig) {k:Nat} (hk:k<2):pT u (k+1)=bH (pT u k) (Ef u k):=by
 have:k=0∨k=1:=by omega
 rcases this with rfl | rfl <;> rfl
theorem Bb (D:List ByteArray) (l:List bC) {i:Nat} (hi:i<l.length):bH D (l.take (i+1))=qE (bH D (l.take i)) l[i]:=by
 unfold bH;rw [List.take_succ_eq_append_getElem hi,List.foldl_append] <;> rfl
theorem Ak (D:List ByteArray) (l:List lz) {i:Nat} (hi:i<l.length):fQ D (l.take (i+1))=l[i].1::fQ D (l.take i):=by
 unfold fQ;rw [List.take_succ_eq_append_getElem hi,List.foldl_append] <;> rfl
theorem zq (sec:Nat) (D:List ByteArray) (l:List bC) {i:Nat} (hi:i<l.length):eh sec D (l.drop i)=(yx sec D l[i] && eh sec (qE D l[i]) (l.drop (i+1))):=by
 rw [List.drop_eq_getElem_cons hi,eh]
theorem A0 (D:List ByteArray) (l:List lz) {i:Nat} (hi:i<l.length):fS D (l.drop i)=(Bf D l[i] && fS (l[i].1::D) (l.drop (i+1))):=by
 rw [List.drop_eq_getElem_cons hi,fS]
def rm (l:List ByteArray) (i:Nat):ByteArray:=if i=0 then bK else l.getD (i-1) bK
theorem yV (D:List ByteArray) (l:List ByteArray) {i:Nat} (hi:i<l.length):cD D (rm l i) (l.drop i)=(Kk D (rm l i) l[i] && cD D (rm l (i+1)) (l.drop (i+1))):=by
 rw [List.drop_eq_getElem_cons hi,cD]
 congr 2
 unfold rm;rw [if_neg (by omega),Nat.add_sub_cancel,List.getD_eq_getElem?_getD,List.getElem?_eq_getElem hi] <;> rfl
def zL (h:Hp) (g:Nat) (D:List ByteArray):Prop:=oT h g D∧∀ s,s∈D→bh s.data.toList=true
theorem zL.ah {ws:List Nat} {h h':Hp} {g:Nat} {D:List ByteArray} (m:zL h g D) (k:Ch ws h h') (hw:g∉ws):zL h' g D:=⟨m.1.ah k hw,m.2⟩
theorem zC {s:ByteArray} (h:bh s.data.toList=true):jO bK s:=by
 unfold bh at h;simp only [Bool.and_eq_true,decide_eq_true_eq] at h;have h2:=h.1.1.1.1;show (bK.data.toList:List UInt8)<s.data.toList
 have:(bK.data.toList:List UInt8)=[]:=rfl
 rw [this];cases hs:s.data.toList with
 | nil=>rw [hs] at h2; simp at h2
 | cons a l=>exact List.Lex.nil
theorem Iv {D:List ByteArray} {s:ByteArray} (h:eQ D s=true):s∈D:=by
 unfold eQ at h;simp only [List.any_eq_true,decide_eq_true_eq] at h;obtain ⟨y,hy,rfl⟩:=h;exact hy
theorem Im {h:Hp} (t:zA h) {x:bC} {p:Option Addr} {l c k:Nat} (v:tu h p l x) (hk:k<2) :
  HC Tryz.prog 44 #[qv p l c x,.int .i64 (k:Int)] h fun w h'=>w=Ir (cM x k)∧Ext h h':=by
 have:k=0∨k=1:=by omega
 rcases this with rfl | rfl
 ·exact GR t v
 ·exact F7 t v
theorem lr {h:Hp} (t:zA h) {a b c d:bL} {u:ig} (v:fO h a b c d u):HC Tryz.prog 18 #[oD a b c d] h fun w h'=>w=.int .i64 (uY u:Nat)∧Ext h h':=by
 refine aL (args:=[oD a b c d]) mixed Tryz.func18 (by kernel_rfl) (ub a.p a.l a.c b.p b.l b.c c.p c.l c.c d.p d.l d.c) ?_;unfold qD;refine aW ?_;intro g1 b1 e1 z1;have b1:aO g1 h.size 27 [a.v,b.v,c.v,d.v]:=b1;have m1:=v.text.many;have m2:=v.data.many;have m3:=v.aV.many;have m4:=v.aF.many;have n1:=v.text.len;have n2:=v.data.len;have n3:=v.aV.len;have n4:=v.aF.len;have s1:=e1.size;simp only [ao];refine ad b1 ((a.p,a.l,a.c),()) rfl ?_;dsimp only [flat,aB,ai,nA,cA];refine ad b1 ((b.p,b.l,b.c),()) rfl ?_;dsimp only [flat,aB,ai,nA,cA];rw [wrap_i64 (by omega) (by omega)];unfold uY uh;refine af (fun q=>?_) (fun q=>?_)
 ·have q:=of_decide_eq_true q;exact ⟨by rw [decide_eq_true (show 8192<u.text.length+u.data.length by omega)]; rfl,e1⟩
 have q:=of_decide_eq_false q;rw [decide_eq_false (show ¬ 8192<u.text.length+u.data.length by omega),Bool.false_or];refine ad b1 ((c.p,c.l,c.c),()) rfl ?_;dsimp only [flat,aB,ai,nA,cA];refine af (fun q=>?_) (fun q=>?_)
 ·have q:=of_decide_eq_true q;exact ⟨by rw [decide_eq_true (show 8192<u.aV.length by omega)]; rfl,e1⟩
 have q:=of_decide_eq_false q;rw [decide_eq_false (show ¬ 8192<u.aV.length by omega),if_neg (by simp)];refine Je ?_;intro g2 m e2 z2;have b2:=b1.ah e2 (by simp);refine ad b2 ((a.p,a.l,a.c),()) rfl ?_;dsimp only [flat,aB,ai,nA,cA];refine ad b2 ((b.p,b.l,b.c),()) rfl ?_;dsimp only [flat,aB,ai,nA,cA];refine eA KR LM (by omega) (by omega) (Lw a.p a.l a.c b.p b.l b.c) ?_;intro g3 b3 e3 z3;have m:=m.ah e3 (by have:=m.lt; simp);have e03:=(e1.trans e2).trans e3;have b3':=b2.ah e3 (by simp);have s2:=e2.size;clear b1 b2;have hsec:∀ k,k<2→∃ s:bL,([a.v,b.v]:List Value).drop k=s.v::([a.v,b.v]:List Value).drop (k+1)∧Cs h s.p s.l (Ef u k):=by
  intro k hk
  have:k=0∨k=1:=by omega
  rcases this with rfl | rfl
  ·exact ⟨a,rfl,v.text⟩
  ·exact ⟨b,rfl,v.data⟩
 have s3:=e3.size;have b3:aO g3 g2.size 23 [a.v,b.v]:=b3;generalize hU:uE u=U;refine bm (cs:=[(false,[.int .i64]),(false,[.int .i64])]) (fun y w h'=>∃ k:Nat,y.2.1=(k:Int)∧k≤2∧w=2-k∧Ext h h'∧aO h' h.size 27 [a.v,b.v,c.v,d.v]∧aO h' g2.size 23 [a.v,b.v]∧zL h' g1.size (pT u k)∧U=uA u k) ((0:Int),(0:Int),()) 2 rfl
  ⟨0,rfl,by omega,by omega,e03,b3',b3,⟨m,by simp [pT]⟩,hU.symm⟩ ?_
 rintro ⟨n21,n22,⟨⟩⟩ w h4 ⟨k,hk,hk2,rfl,e4,b1,b2,m,hu⟩;simp only at hk;subst hk;dsimp only [flat,aB,ai,nA,cA];refine af (fun q=>?_) (fun q=>?_)
 ·have q:=of_decide_eq_true q;have hk:k<2:=by omega
  obtain ⟨sl,hsl,vs⟩:=hsec k hk;refine aA ⟨by omega,by omega⟩ (an rfl ?_);rw [ao];refine ad b2 ((sl.p,sl.l,sl.c),()) (by rw [show 0+(k:Int).toNat*1=k by omega,hsl]; rfl) ?_;dsimp only [flat,aB,ai,nA,cA];have lk:=vs.len;have mk:=vs.many;generalize hl:Ef u k=l at vs lk mk;have hu2:U=(eh k (bH (pT u k) (l.take 0)) (l.drop 0) && uA u (k+1)):=by
   rw [hu,EI u hk,hl] <;> rfl
  refine bm (cs:=[(false,[.int .i64]),(false,[.int .i64])]) (fun y w h'=>∃ i:Nat,y.2.1=(i:Int)∧i≤l.length∧w=l.length-i∧Ext h h'∧aO h' h.size 27 [a.v,b.v,c.v,d.v]∧aO h' g2.size 23 [a.v,b.v]∧zL h' g1.size (bH (pT u k) (l.take i))∧U=(eh k (bH (pT u k) (l.take i)) (l.drop i) && uA u (k+1))) (n21,(0:Int),()) l.length rfl
   ⟨0,rfl,by omega,by omega,e4,b1,b2,m,hu2⟩ ?_
  clear hu hu2 m b1 b2 e4;rintro ⟨n27,n28,⟨⟩⟩ w h5 ⟨i,hi,hile,rfl,e5,b1,b2,m,hu⟩;simp only at hi;subst hi;dsimp only [flat,aB,ai,nA,cA];refine af (fun q2=>?_) (fun q2=>?_)
  ·have q2:=of_decide_eq_true q2;have hil:i<l.length:=by omega
   obtain ⟨aa,pp,ll,cc,pD,hc,va⟩:=(vs.ah e5).cells i hil;rw [zq k _ l hil] at hu;have hnt:=Bb (pT u k) l hil;generalize l[i]=x at hc va hu hnt;refine aA ⟨by omega,by omega⟩ (an pD ?_);rw [show Int.toNat (i:Int)=i by omega];refine aG (x.kind,x.name,x.inst.op,x.inst.a,x.inst.b,x.inst.n,x.inst.form,(pp,ll,cc),(x.e.num:Int),x.n,()) hc ?_;dsimp only [flat,aB,ai,nA,cA];refine aW ?_;intro h6 b6 e6 z6;refine ak b6 rfl (by simp) ?_;intro h7 b7 k7 z7;have b7:aO h7 h5.size 96 (encI pp ll cc x):=b7;have e57:Ext h5 h7:=e6.st k7 (Nat.le_refl _);have e7:=e5.trans e57;simp only [ao];refine ad b7 (x.kind,x.name,x.inst.op,x.inst.a,x.inst.b,x.inst.n,x.inst.form,(pp,ll,cc),(x.e.num:Int),x.n,()) rfl ?_;dsimp only [flat,aB,ai,nA,cA];refine aC (Im (c:=cc) (t.ah e7 (by simp)) (va.ah e57) hk) ?_;rintro _ h8 ⟨rfl,e8⟩;refine ⟨((if cM x k then 0 else 31:Int),()),rfl,?_⟩;dsimp only [flat,aB,ai,nA,cA];have e58:=e57.trans e8;have e08:=e5.trans e58;have b1:=b1.ah e58 (by simp);have b2:=b2.ah e58 (by simp);have m:=m.ah e58 (by simp);have b8:=b7.ah e8 (by simp);refine af (fun r=>?_) (fun r=>?_)
   ·have r:cM x k=false:=by
     cases hr:cM x k with
     | false=>rfl
     | true=>rw [hr] at r; simp at r
    exact ⟨by rw [hu,yx,r]; rfl,e08⟩
   have r:cM x k=true:=by
    cases hr:cM x k with
    | true=>rfl
    | false=>rw [hr] at r; simp at r
   have hno:∀ D,yx k D x=!(decide (x.kind=1) && eQ D x.name):=fun D=>by rw [yx,r]; rfl
   rw [hno] at hu;refine ad b8 (x.kind,()) rfl ?_;dsimp only [flat,aB,ai,nA,cA];refine af (fun r1=>?_) (fun r1=>?_)
   ·have r1:x.kind=1:=by simpa using r1
    rw [decide_eq_true r1,Bool.true_and] at hu;have hle:bh x.name.data.toList=true:=by
     rw [CN r1,Bool.and_eq_true] at r;exact r.1
    refine ad b8 (x.name,()) rfl ?_;dsimp only [flat,aB,ai,nA,cA];refine uX m.1 x.name ?_;refine af (fun r2=>?_) (fun r2=>?_)
    ·exact ⟨by rw [hu,r2]; rfl,e08⟩
    rw [r2] at hu;refine ad b8 (x.kind,()) rfl ?_;dsimp only [flat,aB,ai,nA,cA];refine bd (by simpa using r1) ?_;refine ad b8 (x.name,()) rfl ?_;dsimp only [flat,aB,ai,nA,cA];refine GW m.1 va.name ?_;intro h9 m9 k9 z9;have e09:Ext h h9:=e08.st k9 (by omega);have s5:=e5.size;have hadd:qE (bH (pT u k) (l.take i)) x=x.name::bH (pT u k) (l.take i):=by unfold qE; rw [if_pos r1]
    refine aM (cs:=[(false,[.int .i64]),(false,[.int .i64])]) (n27,((i+1:Nat):Int),()) (l.length-(i+1)) rfl (by omega) (by rw [wrap_i64 (by omega) (by omega)]; rfl) ?_;refine ⟨i+1,rfl,by omega,rfl,e09,b1.ah k9 (by simp; omega),b2.ah k9 (by simp; omega),by rw [hnt,hadd]; exact ⟨m9,fun s hs=>(List.mem_cons.1 hs).elim (fun e=>by rw [e]; exact hle) (m.2 s)⟩,by rw [hu,hnt]; rfl⟩
   ·have r1:¬ x.kind=1:=by simpa using r1
    rw [decide_eq_false r1] at hu;refine ad b8 (x.kind,()) rfl ?_;dsimp only [flat,aB,ai,nA,cA];refine bo (by simpa using r1) ?_;have hadd:qE (bH (pT u k) (l.take i)) x=bH (pT u k) (l.take i):=by unfold qE; rw [if_neg r1]
    refine aM (cs:=[(false,[.int .i64]),(false,[.int .i64])]) (n27,((i+1:Nat):Int),()) (l.length-(i+1)) rfl (by omega) (by rw [wrap_i64 (by omega) (by omega)]; rfl) ?_;refine ⟨i+1,rfl,by omega,rfl,e08,b1,b2,by rw [hnt,hadd]; exact m,by rw [hu,hnt]; rfl⟩
  ·have q2:=of_decide_eq_false q2;have hil:i=l.length:=by omega
   subst hil;rw [List.take_length] at m hu;rw [List.drop_length,eh,Bool.true_and] at hu;refine aM (cs:=[(false,[.int .i64]),(false,[.int .i64])]) (n27,((k+1:Nat):Int),()) (2-(k+1)) rfl (by omega) (by rw [wrap_i64 (by omega) (by omega)]; rfl) ?_;refine ⟨k+1,rfl,by omega,rfl,e5,b1,b2,by rw [EP u hk,hl]; exact m,hu⟩
 ·have q:=of_decide_eq_false q;have hk:k=2:=by omega
  subst hk;have hu:U=(fS (bH (bH [] u.text) u.data) u.aV && cD u.names bK u.aF):=hu;have m:zL h4 g1.size (bH (bH [] u.text) u.data):=m;generalize hD:bH (bH [] u.text) u.data=D at hu m;have hN:u.names=fQ D u.aV:=by rw [← hD]; rfl
  rw [hN] at hu;refine ad b1 ((c.p,c.l,c.c),()) rfl ?_;dsimp only [flat,aB,ai,nA,cA];have hu2:U=(fS (fQ D (u.aV.take 0)) (u.aV.drop 0) && cD (fQ D u.aV) bK u.aF):=hu;refine bm (cs:=[(false,[.int .i64]),(false,[.int .i64])]) (fun y w h'=>∃ i:Nat,y.2.1=(i:Int)∧i≤u.aV.length∧w=u.aV.length-i∧Ext h h'∧aO h' h.size 27 [a.v,b.v,c.v,d.v]∧zL h' g1.size (fQ D (u.aV.take i))∧U=(fS (fQ D (u.aV.take i)) (u.aV.drop i) && cD (fQ D u.aV) bK u.aF)) (n21,(0:Int),()) u.aV.length rfl
   ⟨0,rfl,by omega,by omega,e4,b1,m,hu2⟩ ?_
  clear hu hu2 m b1 b2 e4;rintro ⟨n27,n28,⟨⟩⟩ w h5 ⟨i,hi,hile,rfl,e5,b1,m,hu⟩;simp only at hi;subst hi;dsimp only [flat,aB,ai,nA,cA];have s5:=e5.size;refine af (fun q2=>?_) (fun q2=>?_)
  ·have q2:=of_decide_eq_true q2;have hil:i<u.aV.length:=by omega
   obtain ⟨aa,pp,ll,cc,pD,hc,va,vn⟩:=(v.aV.ah e5).cells i hil;rw [A0 _ _ hil] at hu;have hnt:=Ak D u.aV hil;generalize u.aV[i]=x at hc va vn hu hnt;refine aA ⟨by omega,by omega⟩ (an pD ?_);rw [show Int.toNat (i:Int)=i by omega];refine aG (x.1,(pp,ll,cc),(x.2.num:Int),()) hc ?_;dsimp only [flat,aB,ai,nA,cA];refine aW ?_;intro h6 b6 e6 z6;refine ak b6 rfl (by simp) ?_;intro h7 b7 k7 z7;have b7:aO h7 h5.size 99 (Ho pp ll cc x):=b7;have e57:Ext h5 h7:=e6.st k7 (Nat.le_refl _);have e7:=e5.trans e57;simp only [ao];have b1:=b1.ah e57 (by simp);have m:=m.ah e57 (by simp);unfold Bf at hu;refine ad b7 (x.1,()) rfl ?_;dsimp only [flat,aB,ai,nA,cA];refine uX m.1 x.1 ?_;refine af (fun r=>?_) (fun r=>?_)
   ·exact ⟨by rw [hu,r]; rfl,e7⟩
   rw [r] at hu;refine ad b7 (x.1,()) rfl ?_;dsimp only [flat,aB,ai,nA,cA];refine aE (kz x.1 h7 (by have:maxLen=9223372036854775807:=rfl; omega)) ?_;refine af (fun r=>?_) (fun r=>?_)
   ·have r:bh x.1.data.toList=false:=by simpa using r
    exact ⟨by rw [hu,r]; rfl,e7⟩
   have hle:bh x.1.data.toList=true:=by simpa using r
   rw [hle] at hu;refine ad b7 ((pp,ll,cc),(x.2.num:Int),()) rfl ?_;dsimp only [flat,aB,ai,nA,cA];refine aC (qm (c:=cc) (va.ah e57).vw (by have:=va.many; omega) va.names) ?_;rintro _ h8 ⟨rfl,e8⟩;refine ⟨(rY none x.2.aw,()),rfl,?_⟩;dsimp only [flat,aB,ai,nA,cA];have e08:=e7.trans e8;have b1:=b1.ah e8 (by simp);have m:=m.ah e8 (by simp);have b8:=b7.ah e8 (by simp);refine af (fun r=>?_) (fun r=>?_)
   ·have r:rY none x.2.aw=false:=by simpa using r
    exact ⟨by rw [hu,r]; rfl,e08⟩
   have r:rY none x.2.aw=true:=by simpa using r
   rw [r] at hu;refine ad b8 (x.1,()) rfl ?_;dsimp only [flat,aB,ai,nA,cA];refine GW m.1 vn ?_;intro h9 m9 k9 z9;have e09:Ext h h9:=e08.st k9 (by omega);refine aM (cs:=[(false,[.int .i64]),(false,[.int .i64])]) (n27,((i+1:Nat):Int),()) (u.aV.length-(i+1)) rfl (by omega) (by rw [wrap_i64 (by omega) (by omega)]; rfl) ?_;refine ⟨i+1,rfl,by omega,rfl,e09,b1.ah k9 (by simp; omega),by rw [hnt]; exact ⟨m9,fun s hs=>(List.mem_cons.1 hs).elim (fun e=>by rw [e]; exact hle) (m.2 s)⟩,by rw [hu,hnt]; rfl⟩
  have q2:=of_decide_eq_false q2;have hil:i=u.aV.length:=by omega
  subst hil;rw [List.take_length] at m hu;rw [List.drop_length,fS,Bool.true_and] at hu;generalize hE:fQ D u.aV=E at m hu;refine ad b1 ((d.p,d.l,d.c),()) rfl ?_;dsimp only [flat,aB,ai,nA,cA];have hu2:U=cD E (rm u.aF 0) (u.aF.drop 0):=hu;refine bm (cs:=[(false,[.int .i64]),(false,[.int .i64])]) (fun y w h'=>∃ i:Nat,y.2.1=(i:Int)∧i≤u.aF.length∧w=u.aF.length-i∧Ext h h'∧aO h' h.size 27 [a.v,b.v,c.v,d.v]∧zL h' g1.size E∧U=cD E (rm u.aF i) (u.aF.drop i)) (n27,(0:Int),()) u.aF.length rfl
   ⟨0,rfl,by omega,by omega,e5,b1,m,hu2⟩ ?_
  clear hu hu2 m b1 e5 s5;rintro ⟨n31,n32,⟨⟩⟩ w h6 ⟨i,hi,hile,rfl,e6,b1,m,hu⟩;simp only at hi;subst hi;dsimp only [flat,aB,ai,nA,cA];refine af (fun q3=>?_) (fun q3=>?_)
  ·have q3:=of_decide_eq_true q3;have hil:i<u.aF.length:=by omega
   obtain ⟨aa,pD,hc,va⟩:=(v.aF.ah e6).cells i hil;rw [yV _ _ hil] at hu;unfold Kk at hu;refine aA ⟨by omega,by omega⟩ (an pD ?_);rw [show Int.toNat (i:Int)=i by omega];refine aG (u.aF[i],()) hc ?_;dsimp only [flat,aB,ai,nA,cA];refine uX m.1 _ ?_;refine af (fun r=>?_) (fun r=>?_)
   ·have r:eQ E u.aF[i]=false:=by simpa using r
    exact ⟨by rw [hu,r]; rfl,e6⟩
   have r:eQ E u.aF[i]=true:=by simpa using r
   rw [r,Bool.true_and] at hu;refine af (fun r2=>?_) (fun r2=>?_)
   ·have r2:=of_decide_eq_true r2;refine ad b1 ((d.p,d.l,d.c),()) rfl ?_;dsimp only [flat,aB,ai,nA,cA];rw [wrap_i64 (by omega) (by omega)];obtain ⟨ab,rfl'',hc',va'⟩:=(v.aF.ah e6).cells (i-1) (by omega);refine aA ⟨by omega,by omega⟩ (an rfl'' ?_);rw [show Int.toNat ((i:Int)-1)=i-1 by omega];refine aG (u.aF[i-1],()) hc' ?_;dsimp only [flat,aB,ai,nA,cA];have hla:rm u.aF i=u.aF[i-1]:=by
     unfold rm;rw [if_neg (by omega),List.getD_eq_getElem?_getD,List.getElem?_eq_getElem (by omega)] <;> rfl
    rw [leB];rw [hla] at hu;refine af (fun r3=>?_) (fun r3=>?_)
    ·have r3:decide (jO u.aF[i-1] u.aF[i])=false:=by simpa using r3
     exact ⟨by rw [hu,r3]; rfl,e6⟩
    ·have r3:decide (jO u.aF[i-1] u.aF[i])=true:=by simpa using r3
     rw [r3,Bool.true_and] at hu;refine aM (cs:=[(false,[.int .i64]),(false,[.int .i64])]) (n31,((i+1:Nat):Int),()) (u.aF.length-(i+1)) rfl (by omega) (by rw [wrap_i64 (by omega) (by omega)]; rfl) ?_;exact ⟨i+1,rfl,by omega,rfl,e6,b1,m,hu⟩
   ·have r2:=of_decide_eq_false r2;have hi0:i=0:=by omega
    subst hi0;have hg:decide (jO (rm u.aF 0) u.aF[0])=true:=decide_eq_true (zC (m.2 _ (Iv r)));rw [hg,Bool.true_and] at hu;refine aM (cs:=[(false,[.int .i64]),(false,[.int .i64])]) (n31,((0+1:Nat):Int),()) (u.aF.length-(0+1)) rfl (by omega) (by rw [wrap_i64 (by omega) (by omega)]; rfl) ?_;exact ⟨0+1,rfl,by omega,rfl,e6,b1,m,hu⟩
  ·have q3:=of_decide_eq_false q3;have hil:i=u.aF.length:=by omega
   subst hil;rw [List.drop_length] at hu;exact ⟨by rw [hu]; rfl,e6⟩
def to (l:List UInt8):List (List Value):=l.map fun b=>[.int .u8 (b.toNat:Int)]
theorem qa (l:List UInt8):(to l).length=l.length:=by simp [to]
theorem De (l:List UInt8):∀ y,y∈to l→y.length=1:=by
 intro y hy;obtain ⟨b,_,rfl⟩:=List.mem_map.1 hy;rfl
theorem BA (l:List UInt8):(to l).flatten=l.map fun b=>.int .u8 (b.toNat:Int):=by
 induction l with
 | nil=>rfl
 | cons a l ih =>
  have:to (a::l)=[.int .u8 (a.toNat:Int)]::to l:=rfl
  rw [this,List.flatten_cons,ih] <;> rfl
theorem DJ (l:List UInt8):(to l).flatten.all dY=true:=by
 rw [BA];simp [dY]
theorem Gz:Tryz.prog.underlying 42=some (.slice 5):=by kernel_rfl
theorem LR:(Tryz.prog.info? 5).map (fun i=>(i.zero,i.size,i.bytes))=some (some (.int .u8 0),1,1):=by kernel_rfl
def HA (g:Nat) (h:Hp) (p:Option Addr) (h':Hp) (p':Option Addr):Prop:=Ch (g::az p) h h'∧(p'=p∨∃ a,p'=some a∧h.size≤a.block)
theorem HA.refl (g:Nat) (h:Hp) (p:Option Addr):HA g h p h p:=⟨Ch.refl _ _,.inl rfl⟩
theorem HA.trans {g:Nat} {h h1 h2:Hp} {p p1 p2:Option Addr} (a:HA g h p h1 p1) (b:HA g h1 p1 h2 p2):HA g h p h2 p2:=by
 refine ⟨a.1.trans b.1 ?_,?_⟩
 ·intro i hi hl;rcases List.mem_cons.1 hi with rfl | hi
  ·simp
  ·rcases a.2 with h1 | ⟨q,h1,h3⟩
   ·rw [h1] at hi;exact List.mem_cons_of_mem _ hi
   ·rw [h1] at hi;simp [az] at hi;omega
 ·rcases b.2 with h3 | ⟨q,h3,h4⟩
  ·rcases a.2 with h5 | ⟨r,h5,h6⟩
   ·exact .inl (h3.trans h5)
   ·exact .inr ⟨r,h3.trans h5,h6⟩
  ·exact .inr ⟨q,h3,Nat.le_trans a.1.size h4⟩
theorem HA.of {g:Nat} {h h':Hp} (e:Ext h h') (p:Option Addr):HA g h p h' p:=⟨e.mono (by simp),.inl rfl⟩
theorem SL.bO {h:Hp} {b:Nat} {e:TypeId} {sz:Nat} {p:Option Addr} {l c:Nat} {xs:List (List Value)} (s:SL h b e sz p l c xs):∀ i,i∈az p→b≤i∧i<h.size:=by
 intro i hi;cases p with
 | none=>simp [az] at hi
 | some a =>
  obtain ⟨g,pre,rest,rfl,hb,_,hbox,_⟩:=s.2.2;simp [az] at hi;exact ⟨by omega,by rw [hi]; exact hbox.lt⟩
theorem HA.box {g k:Nat} {h h':Hp} {p p':Option Addr} {e:TypeId} {xs:List Value} (b:aO h k e xs) (hk:k∉g::az p) (s:HA g h p h' p'):aO h' k e xs∧k∉g::az p':=by
 refine ⟨b.ah s.1 hk,?_⟩;rcases s.2 with h3 | ⟨a,h3,h4⟩
 ·rw [h3]; exact hk
 ·rw [h3]
  have:=b.lt
  have h5:k≠g:=fun e=>hk (by rw [e]; simp)
  simp [az];omega
theorem wrap_u32 (n:Int):IntKind.wrap .u32 n=((u32 n:Nat):Int):=by
 simp only [IntKind.wrap,IntKind.bits,IntKind.signed,Bool.false_and,Bool.false_eq_true,if_false];unfold u32;omega
theorem Ky (a:Int):Instr.fill (fun j=>some (j*1,1)) ((Array.range (1*1)).map ((Value.int .u8 0).cells[· % (Value.int .u8 0).cells.size]!)) [(0,.int .u8 a)]=some ([.int .u8 a]:List Value).toArray:=by kernel_rfl
structure Hz (h:Hp) (p:Option Addr) (l:Nat) (us:Bt):Prop where
 len:l=us.length
 cells:∀ i,(hi:i<us.length)→∃ a,p=some a∧aH h (a.add (i*1)) 0 [.int .u8 (us[i].toNat:Int)]
theorem Hz.ah {h h':Hp} {p:Option Addr} {l:Nat} {us:Bt} (v:Hz h p l us) (k:Ext h h'):Hz h' p l us :=
 ⟨v.len,fun i hi=>by
  obtain ⟨a,ha,hc⟩:=v.cells i hi;exact ⟨a,ha,bt k (by simp) _ _ hc⟩⟩
theorem xN {P:Program} {h:Hp} (a:Addr) (l:List UInt8) (cap:Nat) (K:Value→Hp→Prop) (hc:aH h a 0 (l.map gw)) (hk:K (.string ⟨l.toArray⟩) h):aD P (Conv.bytesToString (.slice (some a) l.length cap)) h K:=by
 unfold Conv.bytesToString;simp only;rw [aj];refine eG (by simp) hc _ ?_;rw [aj,← Array.forIn_toList]
 have key:∀ (l:List UInt8) (s:ByteArray) (K':ByteArray→Hp→Prop),K' ⟨s.data++l.toArray⟩ h→aD P (forIn (l.map gw) s fun c r=>match c with
   | .int .u8 n=>(pure (ForInStep.yield (r.push (UInt8.ofNat n.toNat))):Sem (ForInStep ByteArray))
   | _ => stuck "bytesToString: byte expected") h K' := by
  intro l
  induction l with
  | nil =>
   intro s K' hk;have e:(⟨s.data++([]:List UInt8).toArray⟩:ByteArray)=s:=by simp
   rw [e] at hk;exact hk
  | cons c l ih =>
   intro s K' hk;rw [List.map_cons,List.forIn_cons];rw [aj];show aD P (forIn (List.map gw l) (s.push (UInt8.ofNat ((c.toNat:Nat):Int).toNat)) _) h K';have e1:UInt8.ofNat ((c.toNat:Nat):Int).toNat=c:=by simp
   rw [e1];refine ih (s.push c) K' ?_
   have:(⟨(s.push c).data++l.toArray⟩:ByteArray)=⟨s.data++(c::l).toArray⟩:=by
    congr 1
    apply Array.toList_inj.1
    simp
   rw [this]; exact hk
 refine key l ByteArray.empty _ ?_;have e:(⟨ByteArray.empty.data++l.toArray⟩:ByteArray)=⟨l.toArray⟩:=by
  congr 1
  apply Array.toList_inj.1
  simp
 rw [e];exact hk
theorem Hz.from {h:Hp} {a:Addr} {l:Nat} {us:Bt} (v:Hz h (some a) l us):∀ (n i:Nat),i+n≤us.length→aH h (a.add (i*1)) 0 (((us.drop i).take n).map gw):=by
 have key:∀ (n i k:Nat),i+k+n≤us.length→aH h (a.add (i*1)) k (((us.drop (i+k)).take n).map gw):=by
  intro n
  induction n with
  | zero=>intro i k _; trivial
  | succ n ih =>
   intro i k hk;rw [List.drop_eq_getElem_cons (by omega),List.take_succ_cons,List.map_cons];obtain ⟨b,hb,hc⟩:=v.cells (i+k) (by omega);cases hb;refine ⟨?_,?_⟩
   ·have:=hc.1
    rw [show (a.add ((i+k)*1)).add 0=(a.add (i*1)).add k by rw [Go.Sx.add_add,Go.Sx.add_add]; congr 1; omega] at this;exact this
   ·have:=ih i (k+1) (by omega)
    rw [← Nat.add_assoc] at this;exact this
 intro n i hi;exact key n i 0 (by omega)
abbrev St:=Except (Nat × Nat) Bt
def JL (h:Hp) (g gm:Nat) (full:Bt) (at_:Nat) (no:Option Addr):St→Prop
 | .ok r=>no=none∧full.drop at_=r
 | .error e=>e.1≤full.length∧∃ a,no=some ⟨a,0,none⟩∧aO h a 63 [.int .i64 ((full.length-e.1:Nat):Int),.int .i64 (e.2:Nat)]∧a≠g∧a≠gm
theorem JL.ah {ws:List Nat} {h h':Hp} {g gm:Nat} {full:Bt} {at_:Nat} {no:Option Addr} {st:St} (n:JL h g gm full at_ no st) (k:Ch ws h h') (hw:∀ i,i∈ws→i<h.size→i=g∨i=gm):JL h' g gm full at_ no st:=by
 cases st with
 | ok r=>exact n
 | error e =>
  obtain ⟨h1,a,h2,h3,h4,h5⟩:=n;exact ⟨h1,a,h2,h3.ah k (fun hi=>(hw a hi h3.lt).elim (fun e=>h4 e) (fun e=>h5 e)),h4,h5⟩
def w8 {α:Type} (f:Bt→Rd α) (st:St) (x:α) (st':St):Prop :=
 match st with
 | .error e=>st'=.error e
 | .ok r=>match f r with
  | .ok q=>x=q.1∧st'=.ok q.2
  | .error e=>st'=.error e
theorem w8.off {α:Type} (f:Bt→Rd α) (e:Nat × Nat) (x:α):w8 f (.error e) x (.error e):=rfl
theorem w8.and {α β:Type} {f:Bt→Rd α} {k:α→Bt→Rd β} {st st1 st2:St} {x:α} {y:β} (h1:w8 f st x st1) (h2:w8 (k x) st1 y st2):w8 (fun r=>Ad (f r) k) st y st2:=by
 cases st with
 | error e =>
  have h1:st1=.error e:=h1;rw [h1] at h2;exact h2
 | ok r =>
  unfold w8 at h1 ⊢;simp only at h1 ⊢;cases hf:f r with
  | error e =>
   rw [hf] at h1;have h1:st1=.error e:=h1;rw [h1] at h2;exact h2
  | ok q =>
   rw [hf] at h1;obtain ⟨rfl,h1⟩:=h1;rw [h1] at h2;exact h2
theorem w8.ret {α:Type} (x:α) (st:St):w8 (fun r=>.ok (x,r)) st x st:=by
 cases st with
 | error e=>rfl
 | ok r=>exact ⟨rfl,rfl⟩
def Ke (full:Bt) (at_ why:Nat):St→St
 | .ok _=>.error (full.length-at_,why)
 | .error e=>.error e
theorem w8.aw {n:Nat} {st st1 st2 st3:St} {s:ByteArray} {c:Nat} {ts:di} (h1:w8 GQ st s st1) (h2:w8 (zQ 4) st1 c st2) (h3:w8 (zr n) st2 ts st3):w8 (zr (n+1)) st ((s,c)::ts) st3 :=
 w8.and (f:=GQ) h1 (w8.and (f:=zQ 4) h2 (w8.and (f:=zr n) h3 (w8.ret _ _)))
structure tw (x:eS):Prop where
 many:x.aw.length≤65535
 aw:∀ u,u∈x.aw→u.1.size<65536∧u.2<4294967296
 num:x.num<4294967296
structure x' (x:bC):Prop where
 wZ:tw x.e
 name:x.name.size<65536
 op:Sm x.inst.op
theorem tw.zero:tw dN:=⟨by decide,by simp [dN],by decide⟩
theorem tw.at {h:Hp} {b:Nat} {e:TypeId} {p:Option Addr} {l c:Nat} {x:eS} (r:tw x) (s:SL h b e 2 p l c (x.aw.map cP)):jP h p l x :=
 ⟨Sx.SL.FL s,by have:=r.many; omega,fun t ht=>by have:=(r.aw t ht).1; unfold maxLen; omega⟩
theorem x'.at {h:Hp} {b:Nat} {e:TypeId} {p:Option Addr} {l c:Nat} {x:bC} (r:x' x) (s:SL h b e 2 p l c (x.e.aw.map cP)):tu h p l x :=
 ⟨r.wZ.at s,by have:=r.name; unfold maxLen; omega,r.op⟩
structure Ls {α:Type} (e:TypeId) (sz:Nat) (enc:bL→α→List Value) (tm:α→di) (ok:α→Prop) (h:Hp) (b:Nat) (p:Option Addr) (l c:Nat) (us:List (bL × α)):Prop where
 sl:SL h b e sz p l c (us.map fun u=>enc u.1 u.2)
 own:∀ u,u∈us→SL h b 109 2 u.1.p u.1.l u.1.c ((tm u.2).map cP)
 ok:∀ u,u∈us→ok u.2
section
variable {α:Type} {e:TypeId} {sz:Nat} {enc:bL→α→List Value} {tm:α→di} {ok:α→Prop} {h h':Hp} {b b':Nat} {p:Option Addr} {l c:Nat} {us:List (bL × α)}
theorem Ls.nil (h:Hp) (b:Nat):Ls e sz enc tm ok h b none 0 0 []:=⟨SL.nil _ _ _ _,by simp,by simp⟩
theorem SL.wv {ws:List Nat} {h h':Hp} {b:Nat} {e:TypeId} {sz:Nat} {p:Option Addr} {l c:Nat} {xs:List (List Value)} (s:SL h b e sz p l c xs) (k:Ch ws h h') (hw:∀ i,i∈ws→i<h.size→i<b):SL h' b e sz p l c xs :=
 Sx.SL.aT s k (fun i hi hm=>by have:=Sx.SL.bO s hi; have:=hw i hm this.2; omega)
theorem Ls.ah {ws:List Nat} (s:Ls e sz enc tm ok h b p l c us) (k:Ch ws h h') (hw:∀ i,i∈ws→i<h.size→i<b):Ls e sz enc tm ok h' b p l c us :=
 ⟨SL.wv s.sl k hw,fun u hu=>SL.wv (s.own u hu) k hw,s.ok⟩
theorem Ls.mono (s:Ls e sz enc tm ok h b p l c us) (hb:b'≤b):Ls e sz enc tm ok h b' p l c us :=
 ⟨Sx.SL.mono s.sl hb,fun u hu=>Sx.SL.mono (s.own u hu) hb,s.ok⟩
theorem Ls.len (s:Ls e sz enc tm ok h b p l c us):l=us.length:=by rw [s.sl.1,List.length_map]
end
theorem w8.many {α:Type} {most:Option Nat} {f:Nat→Bt→Rd α} {full:Bt} {fr:Nat} {st st1:St} {n:Nat} (p:w8 (zQ 2) st n st1) (ho:over most n=true) (hat:∀ r,st=.ok r→full.length-fr=r.length) (x:α):w8 (Ly most f) st x (Ke full fr 4 st1):=by
 cases st with
 | error e =>
  have p:st1=.error e:=p;rw [p] <;> rfl
 | ok r =>
  unfold w8 at p ⊢;simp only at p ⊢;unfold Ly;cases hf:zQ 2 r with
  | error e =>
   rw [hf] at p;have p:st1=.error e:=p;rw [p] <;> rfl
  | ok q =>
   rw [hf] at p;obtain ⟨rfl,p⟩:=p;obtain ⟨q1,q2⟩:=q;rw [Gy,if_pos (show over most q1=true from ho),p];show Ke full fr 4 (.ok q2)=.error (r.length,4);unfold Ke;simp only;rw [hat r rfl]
abbrev ptr (g:Nat):Value:=.pointer (some ⟨g,0,none⟩)
theorem FI:Tryz.prog.underlying 25=some (.slice 9):=by kernel_rfl
theorem Ku:(Tryz.prog.info? 9).map (fun i=>(i.zero,i.size,i.bytes))=some (some (.string ⟨#[]⟩),1,16):=by kernel_rfl
section
variable {h0 h:Hp} {g gm:Nat} {bp:Option Addr} {bl bc:Nat} {full:Bt} {st:St} {D:List ByteArray}
abbrev Kn:=Ls 96 10 (fun s x=>encI s.p s.l s.c x) (fun x=>x.e.aw) x'
abbrev LK:=Ls 99 3 (fun s (x:lz)=>Ho s.p s.l s.c x) (fun x=>x.2.aw) (fun x=>tw x.2∧x.1.size<65536)
abbrev LF:=Ls 9 1 (fun _ (x:ByteArray)=>[.string x]) (fun _=>[]) (fun x=>x.size<65536)
end
def LH (a b:bL):Prop:=∀ i,i∈az a.p→i∉az b.p
theorem LH.zero:LH ⟨none,0,0⟩ ⟨none,0,0⟩:=fun i hi=>by simp [az] at hi
structure ie (h:Hp) (b0:Nat) (a b c d:bL) (u:ig):Prop where
 text:∃ us,us.map (·.2)=u.text∧us.length≤65535∧Kn h b0 a.p a.l a.c us
 data:∃ us,us.map (·.2)=u.data∧us.length≤65535∧Kn h b0 b.p b.l b.c us
 aV:∃ us,us.map (·.2)=u.aV∧us.length≤65535∧LK h b0 c.p c.l c.c us
 aF:∃ us,us.map (·.2)=u.aF∧us.length≤65535∧LF h b0 d.p d.l d.c us
def fW:bL:=⟨none,0,0⟩
theorem ie.zero (h:Hp) (b0:Nat):ie h b0 fW fW fW fW oK :=
 ⟨⟨[],rfl,by simp,Ls.nil _ _⟩,⟨[],rfl,by simp,Ls.nil _ _⟩,⟨[],rfl,by simp,Ls.nil _ _⟩,⟨[],rfl,by simp,Ls.nil _ _⟩⟩
theorem ie.ah {ws:List Nat} {h h':Hp} {b0:Nat} {a b c d:bL} {u:ig} (o:ie h b0 a b c d u) (k:Ch ws h h') (hw:∀ i,i∈ws→i<h.size→i<b0):ie h' b0 a b c d u:=by
 obtain ⟨⟨u1,a1,c1,d1⟩,⟨u2,a2,c2,d2⟩,⟨u3,a3,c3,d3⟩,⟨u4,a4,c4,d4⟩⟩:=o;exact ⟨⟨u1,a1,c1,d1.ah k hw⟩,⟨u2,a2,c2,d2.ah k hw⟩,⟨u3,a3,c3,d3.ah k hw⟩,⟨u4,a4,c4,d4.ah k hw⟩⟩
theorem ie.mono {h:Hp} {b0 b1:Nat} {a b c d:bL} {u:ig} (o:ie h b0 a b c d u) (hb:b1≤b0):ie h b1 a b c d u:=by
 obtain ⟨⟨u1,a1,c1,d1⟩,⟨u2,a2,c2,d2⟩,⟨u3,a3,c3,d3⟩,⟨u4,a4,c4,d4⟩⟩:=o;exact ⟨⟨u1,a1,c1,d1.mono hb⟩,⟨u2,a2,c2,d2.mono hb⟩,⟨u3,a3,c3,d3.mono hb⟩,⟨u4,a4,c4,d4.mono hb⟩⟩
theorem SL.at_ {h:Hp} {b:Nat} {e:TypeId} {sz:Nat} {p:Option Addr} {l c:Nat} {xs:List (List Value)} (s:SL h b e sz p l c xs) {i:Nat} (hi:i<xs.length):∃ a,p=some a∧aH h (a.add (i*sz)) 0 xs[i]:=Sx.SL.cells s hi
theorem Kn.at {h:Hp} {b:Nat} {p:Option Addr} {l c:Nat} {us:List (bL × bC)} (s:Kn h b p l c us) (hn:us.length≤65535):Cs h p l (us.map (·.2)):=by
 refine ⟨by rw [s.len,List.length_map],by rw [List.length_map]; omega,fun i hi=>?_⟩;rw [List.length_map] at hi;obtain ⟨a,ha,hc⟩:=SL.at_ s.sl (i:=i) (by rw [List.length_map]; exact hi);rw [List.getElem_map] at hc ⊢;exact ⟨a,_,_,_,ha,hc,(s.ok _ (List.getElem_mem hi)).at (s.own _ (List.getElem_mem hi))⟩
theorem LK.at {h:Hp} {b:Nat} {p:Option Addr} {l c:Nat} {us:List (bL × lz)} (s:LK h b p l c us) (hn:us.length≤65535):IV h p l (us.map (·.2)):=by
 refine ⟨by rw [s.len,List.length_map],by rw [List.length_map]; omega,fun i hi=>?_⟩;rw [List.length_map] at hi;obtain ⟨a,ha,hc⟩:=SL.at_ s.sl (i:=i) (by rw [List.length_map]; exact hi);rw [List.getElem_map] at hc ⊢;have ok:=s.ok _ (List.getElem_mem hi);exact ⟨a,_,_,_,ha,hc,ok.1.at (s.own _ (List.getElem_mem hi)),by have:=ok.2; unfold maxLen; omega⟩
theorem LF.at {h:Hp} {b:Nat} {p:Option Addr} {l c:Nat} {us:List (bL × ByteArray)} (s:LF h b p l c us) (hn:us.length≤65535):Fp h p l (us.map (·.2)):=by
 refine ⟨by rw [s.len,List.length_map],by rw [List.length_map]; omega,fun i hi=>?_⟩;rw [List.length_map] at hi;obtain ⟨a,ha,hc⟩:=SL.at_ s.sl (i:=i) (by rw [List.length_map]; exact hi);rw [List.getElem_map] at hc ⊢;have ok:=s.ok _ (List.getElem_mem hi);exact ⟨a,ha,hc,by unfold maxLen; omega⟩
theorem ie.at {h:Hp} {b0:Nat} {a b c d:bL} {u:ig} (o:ie h b0 a b c d u):fO h a b c d u:=by
 obtain ⟨⟨u1,a1,c1,d1⟩,⟨u2,a2,c2,d2⟩,⟨u3,a3,c3,d3⟩,⟨u4,a4,c4,d4⟩⟩:=o;exact ⟨by rw [← a1]; exact Kn.at d1 c1,by rw [← a2]; exact Kn.at d2 c2,by rw [← a3]; exact LK.at d3 c3,by rw [← a4]; exact LF.at d4 c4⟩
def zU:List Value:=[.slice none 0 0,.slice none 0 0,.slice none 0 0,.slice none 0 0]
theorem eV {a b:Nat} (h:(((a:Nat):Int)==((b:Nat):Int))=true):a=b:=by
 have:=eq_of_beq h
 omega
theorem fy {a b:Nat} (h:(((a:Nat):Int)==((b:Nat):Int))=false):¬ a=b:=by
 rintro rfl;simp at h
def lX (h:Hp) (w:Value) (e:Option (Nat × Nat)):Prop :=
 match e with
 | none=>w=.nilIface
 | some e=>∃ a,w=.iface 59 (ptr a)∧aO h a 63 [.int .i64 (e.1:Nat),.int .i64 (e.2:Nat)]
theorem I6 {x y:bC} (r1:x.kind=y.kind) (r2:x.name=y.name) (r3:x.inst=y.inst) (r4:x.e=y.e) (r5:x.n=y.n):x=y:=by
 cases x;cases y
 simp_all
theorem IT {x y:ig} (r1:x.text=y.text) (r2:x.data=y.data) (r3:x.aV=y.aV) (r4:x.aF=y.aF):x=y:=by
 cases x;cases y
 simp_all
theorem iM {L:Lp} {K:Value→Hp→Prop} {h:Hp} {b:Bool} {t u:T} (hu:b=false→u L K h) (ht:b=true→t L K h):(cond b t u) L K h:=af ht hu
def Jp (l0 l1:Nat) (body:Int→T→T):T :=
 cond ((l0:Int) != (l1:Int))
 (T.ret (.bool false))
 (T.loop [(false,[.bool]),(false,[.int .i64])] [.bool false,.int .i64 (0:Int)] <| fun (b2:Bool) (n3:Int) =>
 cond (decide (n3<(l0:Int)))
  (body n3 (T.again 0 [.bool b2,.int .i64 (IntKind.wrap .i64 (n3+(1:Int)))]))
  (T.ret (.bool true)))
theorem Mi {α:Type} {xs ys:List α} (e:xs=ys) {i:Nat} (h1:i<xs.length) (h2:i<ys.length):xs[i]=ys[i]:=by
 subst e;rfl
theorem mY {h:Hp} {a:Addr}:∀ (vs:List Value) (o i:Nat),aH h a (o+i) vs→aH h (a.add o) i vs
 | [],_,_,_=>trivial
 | v::vs,o,i,hc=>⟨by rw [add_add]; exact hc.1,mY vs o (i+1) hc.2⟩
def EW {α:Type} (x y:α) (h:Hp) (w:Value) (h':Hp):Prop:=∃ b:Bool,w=.bool b∧(b=true↔x=y)∧Ext h h'
theorem we {α:Type} {xs ys:List α} {l0 l1:Nat} (h0:l0=xs.length) (h1:l1=ys.length) (hm:xs.length≤2^60) {body:Int→T→T} {h:Hp}
  (hb:∀ (L:Lp) (h':Hp) (i:Nat) (hi:i<xs.length) (hj:i<ys.length) (k:T),Ext h h'→(xs[i]=ys[i]→∀ h'',Ext h h''→k L (EW xs ys h) h'')→(xs[i]≠ys[i]→∀ h'',Ext h h''→EW xs ys h (.bool false) h'')→body (i:Int) k L (EW xs ys h) h') :
  Jp l0 l1 body [] (EW xs ys h) h:=by
 subst h0 h1;unfold Jp;refine af (fun q=>?_) (fun q=>?_)
 ·refine ⟨false,rfl,⟨fun h=>(by cases h),fun e=>?_⟩,Ch.refl _ _⟩;rw [e] at q;simp at q
 have q:xs.length=ys.length:=by
  have:(((xs.length:Nat):Int)==((ys.length:Nat):Int))=true:=by
   simpa using q
  exact eV this
 refine bm (cs:=[(false,[.bool]),(false,[.int .i64])]) (fun y m h'=>∃ i:Nat,y.1=false∧y.2.1=(i:Int)∧m=xs.length-i∧i≤xs.length∧Ext h h'∧∀ j,(hj:j<i)→(h1:j<xs.length)→(h2:j<ys.length)→xs[j]=ys[j]) (false,(0:Int),()) xs.length rfl
  ⟨0,rfl,rfl,rfl,by omega,Ch.refl _ _,fun j hj=>by omega⟩ ?_
 rintro ⟨b2,n3,⟨⟩⟩ m h1 ⟨i,hy1,hy2,rfl,hi,e1,hj⟩;simp only at hy1 hy2;subst hy1 hy2;dsimp only [flat,aB,ai,nA,cA];refine af (fun r=>?_) (fun r=>?_)
 ·have r:=of_decide_eq_true r;refine hb _ h1 i (by omega) (by omega) _ e1 (fun he h2 e2=>?_) (fun hne h2 e2=>?_)
  ·rw [wrap_i64 (by omega) (by omega)];refine aM (cs:=[(false,[.bool]),(false,[.int .i64])]) (false,((i+1:Nat):Int),()) (xs.length-(i+1)) rfl (by omega) rfl ?_;refine ⟨i+1,rfl,rfl,rfl,by omega,e2,fun j hj' a b=>?_⟩
   by_cases hji:j<i
   ·exact hj j hji a b
   ·have:j=i:=by omega
    subst this;exact he
  ·exact ⟨false,rfl,⟨fun h=>(by cases h),fun e=>absurd (Mi e (by omega) (by omega)) hne⟩,e2⟩
 ·have r:=of_decide_eq_false r;refine ⟨true,rfl,⟨fun _=>?_,fun _=>rfl⟩,e1⟩;exact List.ext_getElem q fun j a b=>hj j (by omega) a b
theorem H' (s t:ByteArray):(ByteArray.toList s==ByteArray.toList t)=decide (s=t):=by
 rw [ByteArray.toList_eq,ByteArray.toList_eq]
 by_cases h:s=t
 ·rw [decide_eq_true h,h]; simp
 ·rw [decide_eq_false h]
  have:¬ s.data.toList=t.data.toList:=fun e=>h (j8 e)
  simpa using this
theorem rA (x y:eS):jh x y=true↔x=y:=by
 obtain ⟨a,b⟩:=x;obtain ⟨c,d⟩:=y;unfold jh
 simp
 exact and_comm
theorem CE {h:Hp} {p q:Option Addr} {l c m d:Nat} {xs ys:List ByteArray} (v:Fp h p l xs) (w:Fp h q m ys):HC Tryz.prog 15 #[.slice p l c,.slice q m d] h (EW xs ys h):=by
 refine aL (args:=[.slice p l c,.slice q m d]) mixed Tryz.func15 (by kernel_rfl) (gM p l c q m d) ?_;refine we (body:=fun n3 k=>T.need (((0:Int)≤n3)∧(n3<(l:Int))) <|
  T.au p <| fun (a4:Addr) =>
  T.ae (a4.add ((Int.toNat n3)*1)) [.string] <| fun (s5:ByteArray) =>
  T.need (((0:Int)≤n3)∧(n3<(m:Int))) <|
  T.au q <| fun (a6:Addr) =>
  T.ae (a6.add ((Int.toNat n3)*1)) [.string] <| fun (s7:ByteArray) =>
  cond (!((ByteArray.toList s5)==(ByteArray.toList s7)))
  (T.ret (.bool false)) k) v.len w.len v.many ?_
 intro L h' i hi hj k e1 hk hn;have vl:=v.len;have wl:=w.len;obtain ⟨a,rfl,hc,_⟩:=(v.ah e1).cells i hi;obtain ⟨b,rfl,hd,_⟩:=(w.ah e1).cells i hj;refine aA ⟨by omega,by omega⟩ ?_;refine an rfl ?_;refine aG (xs[i],()) hc ?_;dsimp only [flat,aB,ai,nA,cA];refine aA ⟨by omega,by omega⟩ ?_;refine an rfl ?_;refine aG (ys[i],()) hd ?_;dsimp only [flat,aB,ai,nA,cA];rw [H'];refine af (fun r=>?_) (fun r=>?_)
 ·exact hn (by simpa using r) h' e1
 ·exact hk (by simpa using r) h' e1
theorem zN {h:Hp} {p q:Option Addr} {l c m d:Nat} {xs ys:List lz} (v:IV h p l xs) (w:IV h q m ys):HC Tryz.prog 41 #[.slice p l c,.slice q m d] h (EW xs ys h):=by
 refine aL (args:=[.slice p l c,.slice q m d]) mixed Tryz.func41 (by kernel_rfl) (jo p l c q m d) ?_;refine we (body:=fun n3 k=>T.need (((0:Int)≤n3)∧(n3<(l:Int))) <|
  T.au p <| fun (a4:Addr) =>
  T.ae (a4.add ((Int.toNat n3)*3)) [.string] <| fun (s5:ByteArray) =>
  T.need (((0:Int)≤n3)∧(n3<(m:Int))) <|
  T.au q <| fun (a6:Addr) =>
  T.ae (a6.add ((Int.toNat n3)*3)) [.string] <| fun (s7:ByteArray) =>
  cond (!((ByteArray.toList s5)==(ByteArray.toList s7)))
  (T.ret (.bool false))
  (T.need (((0:Int)≤n3)∧(n3<(l:Int))) <|
  T.au p <| fun (a8:Addr) =>
  T.ae ((a8.add ((Int.toNat n3)*3)).add 1) [.slice 109,.int .u32] <| fun (p9:Option Addr) (l10:Nat) (l11:Nat) (n12:Int) =>
  T.need (((0:Int)≤n3)∧(n3<(m:Int))) <|
  T.au q <| fun (a13:Addr) =>
  T.ae ((a13.add ((Int.toNat n3)*3)).add 1) [.slice 109,.int .u32] <| fun (p14:Option Addr) (l15:Nat) (l16:Nat) (n17:Int) =>
  T.call Tryz.prog 75 [.agg #[.slice p9 l10 l11,.int .u32 n12],.agg #[.slice p14 l15 l16,.int .u32 n17]] false [(false,[.bool])] <| fun (b18:Bool) =>
  T.aR [((a6.add ((Int.toNat n3)*3)),[.string s7]),((a4.add ((Int.toNat n3)*3)),[.string s5])] <|
  cond (!b18)
   (T.ret (.bool false)) k)) v.len w.len v.many ?_
 intro L h' i hi hj k e1 hk hn;have vl:=v.len;have wl:=w.len;obtain ⟨a,p1,l1,c1,rfl,hc,va,_⟩:=(v.ah e1).cells i hi;obtain ⟨b,q1,m1,d1,rfl,hd,wa,_⟩:=(w.ah e1).cells i hj;refine aA ⟨by omega,by omega⟩ ?_;refine an rfl ?_;refine aG (xs[i].1,()) ⟨hc.1,trivial⟩ ?_;dsimp only [flat,aB,ai,nA,cA];refine aA ⟨by omega,by omega⟩ ?_;refine an rfl ?_;refine aG (ys[i].1,()) ⟨hd.1,trivial⟩ ?_;dsimp only [flat,aB,ai,nA,cA];rw [H'];refine af (fun r=>?_) (fun r=>?_)
 ·have r:¬ xs[i].1=ys[i].1:=by simpa using r
  exact hn (fun e=>r (by rw [e])) h' e1
 have r:xs[i].1=ys[i].1:=by simpa using r
 refine aA ⟨by omega,by omega⟩ ?_;refine an rfl ?_;refine aG ((p1,l1,c1),(xs[i].2.num:Int),()) (mY _ 1 0 hc.2) ?_;dsimp only [flat,aB,ai,nA,cA];refine aA ⟨by omega,by omega⟩ ?_;refine an rfl ?_;refine aG ((q1,m1,d1),(ys[i].2.num:Int),()) (mY _ 1 0 hd.2) ?_;dsimp only [flat,aB,ai,nA,cA];refine aC (yB (c:=c1) (d:=d1) va.vw wa.vw va.many) ?_;rintro _ h2 ⟨rfl,e2⟩;refine ⟨(jh xs[i].2 ys[i].2,()),rfl,?_⟩;dsimp only [flat,aB,ai,nA,cA];refine ⟨⟨⟨dc hd.1 e2 (by simp),trivial⟩,⟨dc hc.1 e2 (by simp),trivial⟩,trivial⟩,?_⟩;refine af (fun u=>?_) (fun u=>?_)
 ·have u:jh xs[i].2 ys[i].2=false:=by simpa using u
  refine hn (fun e=>?_) h2 (e1.trans e2);rw [(rA _ _).2 (by rw [e])] at u;cases u
 ·have u:jh xs[i].2 ys[i].2=true:=by simpa using u
  exact hk (Prod.ext r ((rA _ _).1 u)) h2 (e1.trans e2)
theorem Jb (x y:Operand) (i j:Ins) (h:Hp) (K:Value→Hp→Prop) (hk:K (.bool (decide (i=j))) h) :
  aD Tryz.prog (Sx.bM (BinOp.eql) 90 x y (.agg (sE i).toArray) (.agg (sE j).toArray)) h K:=by
 refine Fo Jr (by kernel_rfl) (by kernel_rfl) (by kernel_rfl) K ?_;have he:(FB Tryz.prog 90).all (FQ (sE i).toArray (sE j).toArray)=(i.op==j.op && (i.a==j.a && (i.b==j.b && (i.n==j.n && (i.form==j.form && true))))):=by
  rw [← Array.all_toList]
  kernel_rfl
 rw [he,Bool.and_true]
 have:(i.op==j.op && (i.a==j.a && (i.b==j.b && (i.n==j.n && i.form==j.form))))=decide (i=j):=by
  rcases i with ⟨a1,a2,a3,a4,a5⟩
  rcases j with ⟨c1,c2,c3,c4,c5⟩
  simp only [cC,Ins.mk.injEq]
  by_cases h1:a1=c1 <;> by_cases h2:a2=c2 <;> by_cases h3:a3=c3 <;> by_cases h4:a4=c4 <;> by_cases h5:a5=c5 <;> simp [h1,h2,h3,h4,h5]
 rw [this];exact hk
theorem Av {h:Hp} {p q:Option Addr} {l c m d:Nat} {x y:bC} (v:jP h p l x.e) (w:jP h q m y.e):HC Tryz.prog 61 #[qv p l c x,qv q m d y] h (EW x y h):=by
 refine aL (args:=[qv p l c x,qv q m d y]) mixed Tryz.func61 (by kernel_rfl) (jw x.kind x.name x.inst.op x.inst.a x.inst.b x.inst.n x.inst.form p l c x.e.num x.n y.kind y.name y.inst.op y.inst.a y.inst.b y.inst.n y.inst.form q m d y.e.num y.n) ?_;unfold fD;refine aW ?_;intro h1 b1 e1 z1;refine aW ?_;intro h2 b2 e2 z2;have b1:aO h2 h.size 96 (encI p l c x):=b1.ah e2 (by simp);have b2:aO h2 h1.size 96 (encI q m d y):=b2;have e:=e1.trans e2;have no:∀ h',Ext h h'→x≠y→EW x y h (.bool false) h':=fun h' e hn=>⟨false,rfl,⟨fun h=>(by cases h),fun e=>absurd e hn⟩,e⟩
 simp only [ao];refine ad b1 (x.kind,()) rfl ?_;dsimp only [flat,aB,ai,nA,cA];refine ad b2 (y.kind,()) rfl ?_;dsimp only [flat,aB,ai,nA,cA];refine iM (fun r1=>?_) (fun r1=>?_)
 ·have r1:¬ x.kind=y.kind:=by simpa using r1
  exact no h2 e (fun e=>r1 (by rw [e]))
 have r1:x.kind=y.kind:=by simpa using r1
 refine ad b1 (x.name,()) rfl ?_;dsimp only [flat,aB,ai,nA,cA];refine ad b2 (y.name,()) rfl ?_;dsimp only [flat,aB,ai,nA,cA];rw [H'];refine iM (fun r2=>?_) (fun r2=>?_)
 ·have r2:¬ x.name=y.name:=by simpa using r2
  exact no h2 e (fun e=>r2 (by rw [e]))
 have r2:x.name=y.name:=by simpa using r2
 refine ad b1 (x.inst.op,x.inst.a,x.inst.b,x.inst.n,x.inst.form,()) rfl ?_;dsimp only [flat,aB,ai,nA,cA];refine ad b2 (y.inst.op,y.inst.a,y.inst.b,y.inst.n,y.inst.form,()) rfl ?_;dsimp only [flat,aB,ai,nA,cA];refine bw (fun K' hK=>Jb _ _ x.inst y.inst h2 K' hK) ?_;refine iM (fun r3=>?_) (fun r3=>?_)
 ·have r3:¬ x.inst=y.inst:=by simpa using r3
  exact no h2 e (fun e=>r3 (by rw [e]))
 have r3:x.inst=y.inst:=by simpa using r3
 refine ad b1 ((p,l,c),(x.e.num:Int),()) rfl ?_;dsimp only [flat,aB,ai,nA,cA];refine ad b2 ((q,m,d),(y.e.num:Int),()) rfl ?_;dsimp only [flat,aB,ai,nA,cA];refine aC (yB (c:=c) (d:=d) (v.ah e).vw (w.ah e).vw v.many) ?_;rintro _ h3 ⟨rfl,e3⟩;refine ⟨(jh x.e y.e,()),rfl,?_⟩;dsimp only [flat,aB,ai,nA,cA];refine iM (fun r4=>?_) (fun r4=>?_)
 ·refine no h3 (e.trans e3) (fun e=>?_);rw [(rA _ _).2 (by rw [e])] at r4;cases r4
 have r4:=(rA _ _).1 r4;refine ad (b1.ah e3 (by simp)) (x.n,()) rfl ?_;dsimp only [flat,aB,ai,nA,cA];refine ad (b2.ah e3 (by simp)) (y.n,()) rfl ?_;refine ⟨x.n==y.n,rfl,⟨fun r5=>?_,fun e=>by rw [e]; simp⟩,e.trans e3⟩;have r5:x.n=y.n:=by simpa using r5
 exact I6 r1 r2 r3 r4 r5
theorem ri {h:Hp} {p q:Option Addr} {l c m d:Nat} {xs ys:List bC} (v:Cs h p l xs) (w:Cs h q m ys):HC Tryz.prog 31 #[.slice p l c,.slice q m d] h (EW xs ys h):=by
 refine aL (args:=[.slice p l c,.slice q m d]) mixed Tryz.func31 (by kernel_rfl) (iE p l c q m d) ?_;refine we (body:=fun n3 k=>T.need (((0:Int)≤n3)∧(n3<(l:Int))) <|
  T.au p <| fun (a4:Addr) =>
  T.ae (a4.add ((Int.toNat n3)*10)) [.int .i64,.string,.int .i64,.int .i64,.int .i64,.int .i32,.int .i64,.slice 109,.int .u32,.int .i64] <| fun (n5:Int) (s6:ByteArray) (n7:Int) (n8:Int) (n9:Int) (n10:Int) (n11:Int) (p12:Option Addr) (l13:Nat) (l14:Nat) (n15:Int) (n16:Int) =>
  T.need (((0:Int)≤n3)∧(n3<(m:Int))) <|
  T.au q <| fun (a17:Addr) =>
  T.ae (a17.add ((Int.toNat n3)*10)) [.int .i64,.string,.int .i64,.int .i64,.int .i64,.int .i32,.int .i64,.slice 109,.int .u32,.int .i64] <| fun (n18:Int) (s19:ByteArray) (n20:Int) (n21:Int) (n22:Int) (n23:Int) (n24:Int) (p25:Option Addr) (l26:Nat) (l27:Nat) (n28:Int) (n29:Int) =>
  T.call Tryz.prog 61 [.agg #[.int .i64 n5,.string s6,.int .i64 n7,.int .i64 n8,.int .i64 n9,.int .i32 n10,.int .i64 n11,.slice p12 l13 l14,.int .u32 n15,.int .i64 n16],.agg #[.int .i64 n18,.string s19,.int .i64 n20,.int .i64 n21,.int .i64 n22,.int .i32 n23,.int .i64 n24,.slice p25 l26 l27,.int .u32 n28,.int .i64 n29]] false [(false,[.bool])] <| fun (b30:Bool) =>
  cond (!b30)
  (T.ret (.bool false)) k) v.len w.len v.many ?_
 intro L h' i hi hj k e1 hk hn;have vl:=v.len;have wl:=w.len;obtain ⟨a,p1,l1,c1,rfl,hc,va⟩:=(v.ah e1).cells i hi;obtain ⟨b,q1,m1,d1,rfl,hd,wa⟩:=(w.ah e1).cells i hj;refine aA ⟨by omega,by omega⟩ ?_;refine an rfl ?_;refine aG (xs[i].kind,xs[i].name,xs[i].inst.op,xs[i].inst.a,xs[i].inst.b,xs[i].inst.n,xs[i].inst.form,(p1,l1,c1),(xs[i].e.num:Int),xs[i].n,()) hc ?_;dsimp only [flat,aB,ai,nA,cA];refine aA ⟨by omega,by omega⟩ ?_;refine an rfl ?_;refine aG (ys[i].kind,ys[i].name,ys[i].inst.op,ys[i].inst.a,ys[i].inst.b,ys[i].inst.n,ys[i].inst.form,(q1,m1,d1),(ys[i].e.num:Int),ys[i].n,()) hd ?_;dsimp only [flat,aB,ai,nA,cA];refine aC (Av (c:=c1) (d:=d1) va.wZ wa.wZ) ?_;rintro _ h2 ⟨b,rfl,hb,e2⟩;refine ⟨(b,()),rfl,?_⟩;dsimp only [flat,aB,ai,nA,cA];refine af (fun u=>?_) (fun u=>?_)
 ·have u:b=false:=by simpa using u
  refine hn (fun e=>?_) h2 (e1.trans e2);rw [hb.2 e] at u;cases u
 ·have u:b=true:=by simpa using u
  exact hk (hb.1 u) h2 (e1.trans e2)
theorem sY {h:Hp} {a b c d a' b' c' d':bL} {u v:ig} (x:fO h a b c d u) (y:fO h a' b' c' d' v):HC Tryz.prog 13 #[oD a b c d,oD a' b' c' d'] h (EW u v h):=by
 refine aL (args:=[oD a b c d,oD a' b' c' d']) mixed Tryz.func13 (by kernel_rfl) (iU a.p a.l a.c b.p b.l b.c c.p c.l c.c d.p d.l d.c a'.p a'.l a'.c b'.p b'.l b'.c c'.p c'.l c'.c d'.p d'.l d'.c) ?_;unfold fC;refine aW ?_;intro h1 b1 e1 z1;refine aW ?_;intro h2 b2 e2 z2;have b1:aO h2 h.size 27 [a.v,b.v,c.v,d.v]:=b1.ah e2 (by simp);have b2:aO h2 h1.size 27 [a'.v,b'.v,c'.v,d'.v]:=b2;have e:=e1.trans e2;have no:∀ h',Ext h h'→u≠v→EW u v h (.bool false) h':=fun h' e hn=>⟨false,rfl,⟨fun h=>(by cases h),fun e=>absurd e hn⟩,e⟩
 simp only [ao];refine ad b1 ((a.p,a.l,a.c),()) rfl ?_;dsimp only [flat,aB,ai,nA,cA];refine ad b2 ((a'.p,a'.l,a'.c),()) rfl ?_;dsimp only [flat,aB,ai,nA,cA];refine aC (ri (x.text.ah e) (y.text.ah e)) ?_;rintro _ h3 ⟨r1,rfl,i1,e3⟩;refine ⟨(r1,()),rfl,?_⟩;dsimp only [flat,aB,ai,nA,cA];have e:=e.trans e3;have b1:=b1.ah e3 (by simp);have b2:=b2.ah e3 (by simp);refine iM (fun q1=>?_) (fun q1=>?_)
 ·refine no _ e (fun e=>?_);rw [i1.2 (by rw [e])] at q1;cases q1
 have i1:=i1.1 q1;refine ad b1 ((b.p,b.l,b.c),()) rfl ?_;dsimp only [flat,aB,ai,nA,cA];refine ad b2 ((b'.p,b'.l,b'.c),()) rfl ?_;dsimp only [flat,aB,ai,nA,cA];refine aC (ri (x.data.ah e) (y.data.ah e)) ?_;rintro _ h4 ⟨r2,rfl,i2,e4⟩;refine ⟨(r2,()),rfl,?_⟩;dsimp only [flat,aB,ai,nA,cA];have e:=e.trans e4;have b1:=b1.ah e4 (by simp);have b2:=b2.ah e4 (by simp);refine iM (fun q2=>?_) (fun q2=>?_)
 ·refine no _ e (fun e=>?_);rw [i2.2 (by rw [e])] at q2;cases q2
 have i2:=i2.1 q2;refine ad b1 ((c.p,c.l,c.c),()) rfl ?_;dsimp only [flat,aB,ai,nA,cA];refine ad b2 ((c'.p,c'.l,c'.c),()) rfl ?_;dsimp only [flat,aB,ai,nA,cA];refine aC (zN (x.aV.ah e) (y.aV.ah e)) ?_;rintro _ h5 ⟨r3,rfl,i3,e5⟩;refine ⟨(r3,()),rfl,?_⟩;dsimp only [flat,aB,ai,nA,cA];have e:=e.trans e5;have b1:=b1.ah e5 (by simp);have b2:=b2.ah e5 (by simp);refine iM (fun q3=>?_) (fun q3=>?_)
 ·refine no _ e (fun e=>?_);rw [i3.2 (by rw [e])] at q3;cases q3
 have i3:=i3.1 q3;refine ad b1 ((d.p,d.l,d.c),()) rfl ?_;dsimp only [flat,aB,ai,nA,cA];refine ad b2 ((d'.p,d'.l,d'.c),()) rfl ?_;dsimp only [flat,aB,ai,nA,cA];refine aC (CE (x.aF.ah e) (y.aF.ah e)) ?_;rintro _ h6 ⟨r4,rfl,i4,e6⟩;refine ⟨(r4,()),rfl,?_⟩;refine ⟨r4,rfl,⟨fun q=>?_,fun e=>i4.2 (by rw [e])⟩,e.trans e6⟩;have i4:=i4.1 q;exact IT i1 i2 i3 i4
open Go.Proofs Go.Proofs.YtfkjiiapldkoeaaGreatDoor
open Go.ChangeShapes Go.WideShapes Go.ChangeAt Go.WideMaps Go.WideElems Go.RowKit
def Ag (P:Program) (t:TypeId):Option (List (TypeId × Nat)):=(P.underlying t).bind fun d=>match d with | .struct fs=>some (fs.toList.map fun f=>(f.type,f.offset)) | _=>none
section
variable {H:Type} {enc:TypeId × Value→H} {P:Program} {W:World} {base fuel:Nat} {sp:Nat→Bool} {held:Bool} {t:TypeId} {cs:List Value} {y:DataW H × List MemPlace}
theorem zB {l:List (TypeId × Nat)} (hu:Ag P t=some l) (h:DataW.trod enc P W base sp held fuel t cs=some y) :
  ∃ (xs:List (DataW H × List MemPlace)) (n:Nat),y.1=.agg (xs.map (·.1))∧cs.length=P.cellsOf t∧xs.length=l.length∧∀ (i:Nat) (p:TypeId × Nat),l[i]?=some p→∃ x,xs[i]?=some x∧DataW.trod enc P W base sp held n p.1 ((cs.drop p.2).take (P.cellsOf p.1))=some x:=by
 unfold Ag at hu;cases hd:P.underlying t with
 | none=>rw [hd] at hu; cases hu
 | some d =>
  rw [hd] at hu;simp only [Option.bind_some] at hu;split at hu
  ·rename_i fs;simp only [Option.some.injEq] at hu;obtain ⟨xs,n,_,hy,hl,hlen,hf⟩:=DataW.trod_struct hd h;refine ⟨xs,n,by rw [hy],hl,by rw [← hu,List.length_map,hlen,Array.length_toList],fun i p hp=>?_⟩;rw [← hu,List.getElem?_map,Option.map_eq_some_iff] at hp;obtain ⟨f,hf1,rfl⟩:=hp;rw [Array.getElem?_toList] at hf1;have h1:=hf i f hf1;cases hx:xs[i]? with
   | none =>
    rw [List.getElem?_eq_none_iff] at hx
    have:i<fs.size:=by
     by_cases g:i<fs.size
     ·exact g
     ·rw [Array.getElem?_eq_none (by omega)] at hf1;cases hf1
    omega
   | some x=>rw [hx] at h1; exact ⟨x,rfl,h1⟩
  ·cases hu
end
theorem AU {P:Program} {f:FuncId} {args:Array Value} {W:World} {R:Value→Hp→Prop} (h:HC P f args W.heap R) (he:∀ v h',R v h'→Ext W.heap h'):Calls P f args W fun e w'=>∃ v,e=.returned v∧Below W.heap.size W w'∧R v w'.heap:=by
 refine (h W rfl).mono fun e w' ⟨v,hv,hs,hr⟩=>⟨v,hv,⟨hs.os,hs.tape,hs.output,(he v _ hr).size,fun k hk=>(he v _ hr).same k hk (by simp)⟩,hr⟩
theorem Cc {W W':World} (hB:Below W.heap.size W W') {p:MemPlace} (hp:p.block<W.heap.size):W.sameAt W' p:=by
 cases p with
 | cell b off =>
  show W'.cell? _=W.cell? _;unfold World.cell?;rw [hB.block b hp]
 | map b=>exact hB.block b hp
end Go.Sx.Ob
set_option linter.unusedVariables false
set_option maxRecDepth 100000
namespace Go.Proofs
open Go.RowKit Go.Shelf
attribute [local go_sem] Oper.semAt_some
theorem DZ {W W':World} {n B:Nat} {t:TypeId} {v:Value} (h:Boxed W B t v) (hb:Below n W W') (hn:B<n):Boxed W' B t v:=(hb.block B hn).trans h
theorem vh {n f:Nat} {args:Array Value} {W:World} {R:Value→Sx.Hp→Prop} {K:Ending→World→Prop} (h:Sx.HC Tryz.prog f args W.heap R) (he:∀ v h',R v h'→Sx.Ext W.heap h') (hK:∀ v w',Below W.heap.size W w'→R v w'.heap→K (.returned v) w'):Fence.wide.fn f∧CallsIn Fence.wide n Tryz.prog f args W K :=
 ⟨trivial,(callsIn_wide.2 (Sx.Ob.AU h he)).mono fun e w' ⟨v,hv,hb,hr⟩=>by subst hv; exact hK v w' hb hr⟩
def Marks (b:Nat) (dl:List Deferred) (w:World):Prop:=∃ Ds:List Nat,dl=Ds.map (fun D=>{ target:=.collected D,args:=#[] })∧Ds.Nodup∧∀ D∈Ds,b≤D∧w.heap[D]?=some (.deferred (some []))
theorem Marks.leaves {F:Fence} {n b:Nat} {P:Program} {fn:Func} {tmps:Array Value} {R:Ending→World→Prop} {dl:List Deferred} {w:World} (h:Marks b dl w) (hK:∀ w':World,Below b w w'→(∀ B:Nat,w.heap[B]?≠some (Obj.deferred (some []))→w'.heap[B]?=w.heap[B]?)→LeavesIn F n P fn tmps R [] .returning w'):LeavesInM F n P fn tmps R dl .returning w:=by
 obtain ⟨Ds,rfl,hn,hD⟩:=h
 induction Ds generalizing w with
 | nil=>exact hK w (Below.refl _ _) (fun _ _=>rfl)
 | cons D Ds ih =>
  obtain ⟨hnD,hn⟩:=List.nodup_cons.1 hn;obtain ⟨hb,hd⟩:=hD D (List.mem_cons_self ..);have hlt:D<w.heap.size:=(Array.getElem?_eq_some_iff.1 hd).1;have hput:∀ B,B≠D→(w.putObj D (.deferred none)).heap[B]?=w.heap[B]?:=fun B hB=>by
   simp only [World.putObj];rw [Array.getElem?_setIfInBounds_ne (Ne.symm hB)]
  refine ⟨by simp,.inl ⟨D,_,rfl,run_takeDeferred hd,ih (fun w' hb' hk'=>hK w' ?_ fun B hB=>?_) hn (fun E hE=>?_)⟩⟩
  ·refine Below.trans (b:=w.putObj D (.deferred none)) ⟨rfl,rfl,rfl,?_,fun k hk=>hput k (by omega)⟩ hb';simp [World.putObj]
  ·have hBD:B≠D:=fun e=>hB (by rw [e]; exact hd)
   rw [hk' B (by rw [hput B hBD]; exact hB),hput B hBD]
  ·obtain ⟨h1,h2⟩:=hD E (List.mem_cons_of_mem _ hE);exact ⟨h1,(hput E (fun e=>hnD (e▸hE))).trans h2⟩
theorem Marks.below {b:Nat} {dl:List Deferred} {w w':World} (h:Marks b dl w) (hb:Below w.heap.size w w'):Marks b dl w':=by
 obtain ⟨Ds,e,hn,hD⟩:=h;exact ⟨Ds,e,hn,fun D hd=>⟨(hD D hd).1,(hb.block D ((Array.getElem?_eq_some_iff.1 (hD D hd).2).1)).trans (hD D hd).2⟩⟩
theorem Marks.keeps {b:Nat} {dl:List Deferred} {w w':World} (h:Marks b dl w) (hb:KeepsOthers w w'):Marks b dl w':=by
 obtain ⟨Ds,e,hn,hD⟩:=h;exact ⟨Ds,e,hn,fun D hd=>⟨(hD D hd).1,hb.same D _ (hD D hd).2 rfl⟩⟩
def fp (n x:Nat) (w w':World):Prop:=w.heap.size≤w'.heap.size∧∀ k,k<n→k≠x→w'.heap[k]?=w.heap[k]?
theorem Bv {β:Type} {n x B:Nat} {w:World} (hB:n≤B) (hn:n≤w.heap.size):OwnFrom B (fun (_:β) W=>fp n x w W):=fun s A C row hs hg hr=>by
 refine ⟨Nat.le_trans hs.1 hg.size,fun k hk hx=>(hg.block k (by have:=hs.1; omega) (fun e=>?_)).trans (hs.2 k hk hx)⟩
 have:=(hr k e.symm).1
 omega
theorem fp.set {n x:Nat} {w w':World} (h:Below n w w') (hn:n≤w.heap.size) (v:Value):fp n x w (w'.setCell ⟨x,0,none⟩ v) :=
 ⟨by simpa using h.size,fun k hk hx=>((grownBy_setCell' w' x v).block k (by have:=h.size; omega) (fun e=>hx (by cases e; rfl))).trans (h.block k hk)⟩
theorem Marks.cons {b D:Nat} {dl:List Deferred} {w:World} (h:Marks b dl w) (hD:b≤D) (hK:w.heap[D]?=some (.deferred (some []))) (hne:∀ E,({ target:=.collected E,args:=#[] }:Deferred)∈dl→E≠D):Marks b ({ target:=.collected D,args:=#[] }::dl) w:=by
 obtain ⟨Ds,rfl,hn,hd⟩:=h;refine ⟨D::Ds,rfl,List.nodup_cons.2 ⟨fun hm=>hne D (List.mem_map.2 ⟨D,hm,rfl⟩) rfl,hn⟩,fun E hE=>?_⟩;rcases List.mem_cons.1 hE with rfl | hE
 ·exact ⟨hD,hK⟩
 ·exact hd E hE
theorem I4 {w:World} {a:Addr} {v:Value} (h:w.cell? a=some v):a.block<w.heap.size:=by
 unfold World.cell? at h;split at h
 ·rename_i hg; exact (Array.getElem?_eq_some_iff.1 hg).1
 ·cases h
theorem ft:∀ (f n:Nat) (s:ByteArray),(aP f n s).length≤f
 | 0,_,_=>by simp [aP]
 | f+1,n,s=>by
  unfold aP;split
  ·simp
  ·have:=ft f (n+1) (nH s)
   simp; omega
end Go.Proofs
set_option linter.unusedVariables false
set_option linter.unusedSimpArgs false
set_option maxRecDepth 100000
namespace Go.Sx.Ob
open Go.Proofs
structure Mf (h:Hp) (p:Option Addr) (l:Nat) (us:List ig):Prop where
 len:l=us.length
 many:us.length≤2^60
 cells:∀ i,(hi:i<us.length)→∃ a sa sb sc sd,p=some a∧aH h (a.add (i*4)) 0 [bL.v sa,bL.v sb,bL.v sc,bL.v sd]∧fO h sa sb sc sd us[i]
theorem Mf.ah {h h':Hp} {p:Option Addr} {l:Nat} {us:List ig} (v:Mf h p l us) (k:Ext h h'):Mf h' p l us :=
 ⟨v.len,v.many,fun i hi=>by
  obtain ⟨a,sa,sb,sc,sd,ha,hc,hv⟩:=v.cells i hi;exact ⟨a,sa,sb,sc,sd,ha,bt k (by simp) _ _ hc,hv.ah k⟩⟩
def KI (u:ig):Nat:=u.text.length+u.data.length+u.aV.length
def MF (us:List ig):Nat:=(us.map KI).sum
end Go.Sx.Ob
set_option linter.unusedVariables false
set_option linter.unusedSimpArgs false
set_option maxRecDepth 100000
namespace Go.Sx
open Go.Proofs
end Go.Sx
