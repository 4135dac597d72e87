/- Contracts over heaps, and plain laws, for the functions that the laws of chapter 9 call, part 3: Same, slices.Equal, append of terms, over heaps. The operations over heaps: thei Condition: as each statement says. -/
import Derived.Test.YtfkjiiapldkoeaaGreatDoorP2
import Derived.Test.YtfkjiiapldkoeaaGreatDoorAobjT
import Derived.Test.YtfkjiiapldkoeaaGreatDoorAobjU
import Derived.Test.YtfkjiiapldkoeaaGreatDoorAobjTa
import Derived.Test.YtfkjiiapldkoeaaGreatDoorArT
import Derived.Test.YtfkjiiapldkoeaaGreatDoorArW
import Derived.Test.YtfkjiiapldkoeaaGreatDoorArX
import Derived.Test.YtfkjiiapldkoeaaGreatDoorRows
import Derived.ProofKit
import Derived.LaidMore
import Derived.LaidLaws
import Derived.OpenShut
import Derived.ChangeSame
import Derived.ChangeStays
import Derived.ChangeOld
import Derived.ChangeSlices
import Derived.ChangeMaps5
import Derived.JoinedCond
import Derived.Lib.LaidTab
import Derived.Stop.Joined
import Derived.RangeFuncFrom
import Derived.IntWalk
set_option linter.unusedVariables false
set_option linter.unusedSimpArgs false
set_option maxRecDepth 100000
namespace Go.Sx
open Go.Proofs
theorem Kr:Tryz.prog.underlying 109=some (.struct (FK Tryz.prog 109)):=by kernel_rfl
theorem Fw (x y:Operand) (a:ByteArray) (b:Int) (a':ByteArray) (b':Int) (h:Hp) (K:Value→Hp→Prop) (hk:K (.bool !(a==a' && b==b')) h) :
  aE Tryz.prog (Sx.bJ (BinOp.neq) 109 x y (.agg #[.string a,.int .u32 b]) (.agg #[.string a',.int .u32 b'])) h K:=by
 refine AJ Kr (by kernel_rfl) (by kernel_rfl) (by kernel_rfl) K ?_;have he:(FK Tryz.prog 109).all (F9 #[.string a,.int .u32 b] #[.string a',.int .u32 b'])=(a==a' && (b==b' && true)):=by
  rw [← Array.all_toList]
  kernel_rfl
 rw [he,Bool.and_true];exact hk
theorem Fj (t u:ByteArray × Nat):(!(t.1==u.1 && (t.2:Int)==(u.2:Int)))=decide (t≠u):=by
 obtain ⟨a,b⟩:=t;obtain ⟨a',b'⟩:=u
 by_cases h1:a=a'
 ·subst h1;rw [bytes_beq]
  by_cases h2:b=b'
  ·subst h2
   simp
  ·have h3:¬ ((b:Int)=(b':Int)):=by omega
   have h4:((b:Int)==(b':Int))=false:=by simpa using h3
   simp [h2,h4]
 ·have h3:(a==a')=false:=by
   obtain ⟨d⟩:=a;obtain ⟨d'⟩:=a';show (d==d')=false;have h4:¬ d=d':=fun e=>h1 (by rw [e])
   simpa using h4
  simp [h1,h3]
theorem vz {α:Type} {l m:List α} {i:Nat} (hi:i<l.length) (hj:i<m.length) (h:l[i]≠m[i]):l≠m:=by
 rintro rfl;exact h rfl
theorem qT {α:Type} {l m:List α} {i:Nat} (hi:i<l.length) (hj:i<m.length) (h:l[i]=m[i]):(l.drop i=m.drop i)↔(l.drop (i+1)=m.drop (i+1)):=by
 rw [List.drop_eq_getElem_cons hi,List.drop_eq_getElem_cons hj,h];exact ⟨fun e=>(List.cons.inj e).2,fun e=>by rw [e]⟩
instance:DecidableEq cZ:=inferInstance
theorem AX {h:Hp} {p q:Option Addr} {l m c d:Nat} {us vs:cZ} (v:pM h p l us) (w:pM h q m vs) (hl:us.length≤2^60):tp Tryz.prog 117 [.slice p l c,.slice q m d] h (.bool (decide (us=vs))):=by
 refine dU mixed Tryz.func117 (by kernel_rfl) (ei p l c q m d) ?_;unfold cM;have h1:=v.len;have h2:=w.len;refine af (fun g1=>?_) (fun g1=>?_)
 ·have g1:¬ (l:Int)=(m:Int):=by simpa using g1
  exact ⟨by rw [decide_eq_false (fun e=>by rw [e] at h1; omega)],rfl⟩
 ·have g1:(l:Int)=(m:Int):=by simpa using g1
  refine bC (cs:=[(false,[.bool]),(false,[.int .i64])]) (fun y n h'=>∃ (i:Nat),y.2.1=(i:Int)∧i≤us.length∧n=us.length-i∧h=h'∧(us=vs↔us.drop i=vs.drop i)) (false,(0:Int),()) us.length rfl
   ⟨0,rfl,by omega,by omega,rfl,Iff.rfl⟩ ?_
  rintro ⟨b8,n8,⟨⟩⟩ n h2 ⟨i,hi,hile,rfl,rfl,hq⟩;simp only at hi;subst hi;dsimp only [flat,aA,ai,nA,cA];refine af (fun g2=>?_) (fun g2=>?_)
  ·have g2:=of_decide_eq_true g2;have hi1:i<us.length:=by omega
   have hi2:i<vs.length:=by omega
   obtain ⟨a,rfl,hc⟩:=v.cells i hi1;obtain ⟨a',rfl,hc'⟩:=w.cells i hi2;have hst:=qT hi1 hi2;have hno:=vz hi1 hi2;generalize us[i]=t at hc hst hno;generalize vs[i]=u at hc' hst hno;refine aB ⟨by omega,by omega⟩ (an rfl ?_);rw [show Int.toNat (i:Int)=i by omega];refine aH (t.1,(t.2:Int),()) hc ?_;dsimp only [flat,aA,ai,nA,cA];refine aB ⟨by omega,by omega⟩ (an rfl ?_);refine aH (u.1,(u.2:Int),()) hc' ?_;dsimp only [flat,aA,ai,nA,cA];refine bD (b:=decide (t≠u)) (fun K' hk=>Fw _ _ _ _ _ _ _ _ (by rw [Fj]; exact hk)) ?_;refine af (fun g3=>?_) (fun g3=>?_)
   ·exact ⟨by rw [decide_eq_false (hno (of_decide_eq_true g3))],rfl⟩
   ·have g3:t=u:=by simpa using g3
    have hw:IntKind.wrap .i64 ((i:Int)+1)=((i+1:Nat):Int):=by rw [wrap_i64 (by omega) (by omega)]; omega
    exact aL (cs:=[(false,[.bool]),(false,[.int .i64])]) (b8,((i+1:Nat):Int),()) (us.length-(i+1)) rfl (by omega) (congrArg (fun z=>[Value.bool b8,Value.int .i64 z]) hw) ⟨i+1,rfl,by omega,rfl,rfl,hq.trans (hst g3)⟩
  ·have g2:=of_decide_eq_false g2;refine ⟨?_,rfl⟩;rw [decide_eq_true (hq.2 (by rw [List.drop_eq_nil_of_le (by omega),List.drop_eq_nil_of_le (by omega)]))]
def j1 (x y:eJ):Bool:=decide (x.num=y.num) && decide (x.aw=y.aw)
theorem Di (x:eJ):j1 x x=true:=by unfold j1; simp
theorem xO {h : Hp} {p q : Option Addr} {l m c d : Nat} {x y : eJ} (v : pM h p l x.aw) (w : pM h q m y.aw) (hl : x.aw.length ≤ 2 ^ 60) :
    HC Tryz.prog 80 #[nU p l c x, nU q m d y] h fun r h' => r = .bool (j1 x y) ∧ Ext h h' := by
  refine aI (args := [.agg #[.slice p l c, .int .u32 x.num], .agg #[.slice q m d, .int .u32 y.num]]) mixed Tryz.func80 (by kernel_rfl) (uf p l c x.num q m d y.num) ?_;unfold rV;refine aT ?_;intro h1 b1 e1 z1;refine aT ?_;intro h2 b2 e2 z2;have b1 := b1.ah e2 (by simp);have e02 := e1.trans e2;rw [ao, ao];refine ad b1 ((x.num : Int), ()) rfl ?_;dsimp only [flat, aA, ai, nA, cA];refine ad b2 ((y.num : Int), ()) rfl ?_;dsimp only [flat, aA, ai, nA, cA];refine af (fun g1 => ?_) (fun g1 => ?_)
  · have g1 : x.num = y.num := by have : (x.num : Int) = y.num := by simpa using g1
                                  omega
    refine ad b1 ((p, l, c), ()) rfl ?_;dsimp only [flat, aA, ai, nA, cA];refine ad b2 ((q, m, d), ()) rfl ?_;dsimp only [flat, aA, ai, nA, cA];refine aD (AX (v.ah e02 (by simp)) (w.ah e02 (by simp)) hl) ?_;refine ⟨?_, e02⟩;unfold j1;rw [decide_eq_true g1] <;> rfl
  · have g1 : ¬ x.num = y.num := by have : ¬ (x.num : Int) = y.num := by simpa using g1
                                    omega
    refine ⟨?_, e02⟩;unfold j1;rw [decide_eq_false g1] <;> rfl
theorem D4 {h : Hp} {p q : Option Addr} {l m c d : Nat} {x y : eJ} (v : pM h p l x.aw) (w : pM h q m y.aw) (hl : x.aw.length ≤ 2 ^ 60) :
    HC Tryz.prog 75 #[nU p l c x, nU q m d y] h fun r h' => r = .bool (j1 x y) ∧ Ext h h' := by
  refine aI (args := [.agg #[.slice p l c, .int .u32 x.num], .agg #[.slice q m d, .int .u32 y.num]]) mixed Tryz.func75 (by kernel_rfl) (kW p l c x.num q m d y.num) ?_;unfold hO;refine aT ?_;intro h1 b1 e1 z1;refine aT ?_;intro h2 b2 e2 z2;have b1 := b1.ah e2 (by simp);have e02 := e1.trans e2;have v := v.ah e02 (by simp);have w := w.ah e02 (by simp);have hv := v.len;have hw := w.len;rw [ao, ao];refine ad b1 ((x.num : Int), ()) rfl ?_;dsimp only [flat, aA, ai, nA, cA];refine ad b2 ((y.num : Int), ()) rfl ?_;dsimp only [flat, aA, ai, nA, cA];refine af (fun g1 => ?_) (fun g1 => ?_)
  · have g1 : ¬ x.num = y.num := by have : ¬ (x.num : Int) = y.num := by simpa using g1
                                    omega
    refine ⟨?_, e02⟩;unfold j1;rw [decide_eq_false g1] <;> rfl
  · have g1 : x.num = y.num := by have : (x.num : Int) = y.num := by simpa using g1
                                  omega
    have hB : j1 x y = decide (x.aw = y.aw) := by
      unfold j1;rw [decide_eq_true g1] <;> rfl
    rw [hB];refine ad b1 ((p, l, c), ()) rfl ?_;dsimp only [flat, aA, ai, nA, cA];refine ad b2 ((q, m, d), ()) rfl ?_;dsimp only [flat, aA, ai, nA, cA];refine af (fun g2 => ?_) (fun g2 => ?_)
    · have g2 : ¬ (l : Int) = (m : Int) := by simpa using g2
      exact ⟨by rw [decide_eq_false (fun e => by rw [e] at hv; omega)], e02⟩
    · have g2 : (l : Int) = (m : Int) := by simpa using g2
      refine bC (cs := [(false, [.bool]), (false, [.int .i64])]) (fun z n h' => ∃ (i : Nat), z.2.1 = (i : Int) ∧ i ≤ x.aw.length ∧ n = x.aw.length - i ∧ h2 = h' ∧ (x.aw = y.aw ↔ x.aw.drop i = y.aw.drop i)) (false, (0 : Int), ()) x.aw.length rfl
        ⟨0, rfl, by omega, by omega, rfl, Iff.rfl⟩ ?_
      rintro ⟨b8, n8, ⟨⟩⟩ n h3 ⟨i, hi, hile, rfl, rfl, hq⟩;simp only at hi;subst hi;dsimp only [flat, aA, ai, nA, cA];refine ad b1 ((p, l, c), ()) rfl ?_;dsimp only [flat, aA, ai, nA, cA];refine af (fun g2 => ?_) (fun g2 => ?_)
      · have g2 := of_decide_eq_true g2
        have hi1 : i < x.aw.length := by omega
        have hi2 : i < y.aw.length := by omega
        obtain ⟨a, rfl, hc⟩ := v.cells i hi1;obtain ⟨a', rfl, hc'⟩ := w.cells i hi2;have hst := qT hi1 hi2;have hno := vz hi1 hi2;generalize x.aw[i] = t at hc hst hno;generalize y.aw[i] = u at hc' hst hno;refine ad b1 ((some a, l, c), ()) rfl ?_;dsimp only [flat, aA, ai, nA, cA];refine aB ⟨by omega, by omega⟩ (an rfl ?_);rw [show Int.toNat (i : Int) = i by omega];refine aH (t.1, (t.2 : Int), ()) hc ?_;dsimp only [flat, aA, ai, nA, cA];refine ad b2 ((some a', m, d), ()) rfl ?_;dsimp only [flat, aA, ai, nA, cA];refine aB ⟨by omega, by omega⟩ (an rfl ?_);refine aH (u.1, (u.2 : Int), ()) hc' ?_;dsimp only [flat, aA, ai, nA, cA];refine bD (b := decide (t ≠ u)) (fun K' hk => Fw _ _ _ _ _ _ _ _ (by rw [Fj]; exact hk)) ?_;refine ⟨⟨b2.cells _ rfl, b1.cells _ rfl, trivial⟩, ?_⟩;refine af (fun g3 => ?_) (fun g3 => ?_)
        · exact ⟨by rw [decide_eq_false (hno (of_decide_eq_true g3))], e02⟩
        · have g3 : t = u := by simpa using g3
          have hw : IntKind.wrap .i64 ((i : Int) + 1) = ((i + 1 : Nat) : Int) := by rw [wrap_i64 (by omega) (by omega)]; omega
          exact aL (cs := [(false, [.bool]), (false, [.int .i64])]) (b8, ((i + 1 : Nat) : Int), ()) (x.aw.length - (i + 1)) rfl (by omega) (congrArg (fun z => [Value.bool b8, Value.int .i64 z]) hw) ⟨i + 1, rfl, by omega, rfl, rfl, hq.trans (hst g3)⟩
      · have g2 := of_decide_eq_false g2
        refine ⟨?_, e02⟩;rw [decide_eq_true (hq.2 (by rw [List.drop_eq_nil_of_le (by omega), List.drop_eq_nil_of_le (by omega)]))]
theorem qN {h:Hp} {a:Addr}:∀ (us:cZ) (k:Nat),(∀ i,(hi:i<us.length)→aG h (a.add ((k+i)*2)) 0 (cJ us[i]))→aG h a (k*2) (us.map cJ).flatten
 | [],_,_=>trivial
 | t::us,k,hc=>by
  have h0:=hc 0 (by simp);obtain ⟨h1,h2,_⟩:=h0;rw [add_add] at h1 h2;have ih:=qN us (k+1) (fun i hi=>by
   have:=hc (i+1) (by simpa using hi)
   rw [show k+(i+1)=k+1+i by omega] at this;exact this)
  rw [show (k+1)*2=k*2+1+1 by omega] at ih;exact ⟨h1,by simpa using h2,ih⟩
theorem pM.flat {h:Hp} {a:Addr} {l:Nat} {us:cZ} (v:pM h (some a) l us):aG h a 0 (us.map cJ).flatten:=by
 have:=qN (h:=h) (a:=a) us 0 (fun i hi=>by
  obtain ⟨a',e,hc⟩:=v.cells i hi;cases e;rw [Nat.zero_add];exact hc)
 simpa using this
end Go.Sx
set_option linter.unusedVariables false
set_option linter.unusedSimpArgs false
set_option maxRecDepth 100000
namespace Go.Sx.Ob
open Go.Proofs
variable {h':Hp} {e1 e2:TypeId} {sec:Nat}
theorem _root_.Go.Sx.Ch.st {h a b:Hp} {g:Nat} (e:Ext h a) (k:Ch [g] a b) (hg:h.size≤g):Ext h b:=Ch.trans e k (fun i hi hl=>by simp at hi; omega)
def lu (nm:Nat→ByteArray) (v8:Nat→Int):List Value:=(List.range 43).flatMap fun k=>[.string (nm k),.int .u8 (v8 k),.int .i64 (bO.getD k 0:Nat)]
def yJ (h:Hp):Prop:=∃ nm v8 e f,h[1]?=some (.cells (lu nm v8).toArray e f)
theorem yJ.ah {ws:List Nat} {h:Hp} (t:yJ h) (k:Ch ws h h') (hw:1∉ws):yJ h':=by
 obtain ⟨nm,v8,e,f,ht⟩:=t;exact ⟨nm,v8,e,f,k.get ht hw⟩
theorem uw {α β:Type} (f:α→List β) (m:Nat) (hf:∀ x,(f x).length=m):∀ (l:List α) (i j:Nat),j<m→(l.flatMap f)[i*m+j]?=(l[i]?).bind fun x=>(f x)[j]?
 | [],i,j,hj=>by simp
 | x::l,0,j,hj=>by
  rw [List.flatMap_cons,List.getElem?_append_left (by rw [hf]; omega)]
  simp
 | x::l,i+1,j,hj=>by
  rw [List.flatMap_cons,List.getElem?_append_right (by rw [hf,Nat.add_mul]; omega),hf,show (i+1)*m+j-m=i*m+j by rw [Nat.add_mul]; omega,uw f m hf l i j hj]
  simp
theorem yJ.cells {h:Hp} (t:yJ h) {k:Nat} (hk:k<43):∃ (s:ByteArray) (b:Int),aG h ((⟨1,0,none⟩:Addr).add (k*3)) 0 [.string s,.int .u8 b,.int .i64 (bO.getD k 0:Nat)]:=by
 obtain ⟨nm,v8,e,f,ht⟩:=t;refine ⟨nm k,v8 k,?_⟩;have hg:∀ j,j<3→(lu nm v8)[k*3+j]?=([.string (nm k),.int .u8 (v8 k),.int .i64 (bO.getD k 0:Nat)]:List Value)[j]?:=by
  intro j hj;unfold lu;rw [uw _ 3 (by simp) _ _ _ hj];simp [hk]
 rw [ao];refine ⟨?_,?_,?_,trivial⟩
 ·rw [ao,kj ht]
  have:=hg 0 (by omega)
  simpa using this
 ·rw [ao,kj ht]
  have:=hg 1 (by omega)
  simpa using this
 ·rw [ao,kj ht]
  have:=hg 2 (by omega)
  simpa using this
theorem Cj {h:Hp} (t:yJ h) (op:Int) (h1:-9223372036854775808≤op) (h2:op≤9223372036854775807) :
  HC Tryz.prog 90 #[.int .i64 op] h fun w h'=>∃ (s:ByteArray) (b:Int),w=.tuple #[.agg #[.string s,.int .u8 b,.int .i64 (cH op:Nat)],.bool (decide (cH op≠0))]∧Ext h h':=by
 refine aI (args:=[.int .i64 op]) mixed Tryz.func90 (by kernel_rfl) (zg op) ?_;unfold Ao;refine aT ?_;intro g1 b1 e1 z1;have hz:∀ (hh:cH op=0),(∃ (s:ByteArray) (b:Int),(Value.tuple #[.agg #[.string ⟨#[]⟩,.int .u8 0,.int .i64 0],.bool false])=.tuple #[.agg #[.string s,.int .u8 b,.int .i64 (cH op:Nat)],.bool (decide (cH op≠0))]) :=
  fun hh=>⟨⟨#[]⟩,0,by rw [hh]; rfl⟩
 refine af (fun q=>?_) (fun q=>?_)
 ·have q:=of_decide_eq_true q;refine ak b1 rfl (by simp) ?_;intro g2 b2 k2 z2;refine ad b2 ((⟨#[]⟩:ByteArray),(0:Int),(0:Int),()) rfl ?_;obtain ⟨s,b,e⟩:=hz (by unfold cH; rw [if_pos q]);exact ⟨s,b,e,Ch.trans e1 k2 (fun i hi hl=>by simp at hi; omega)⟩
 refine af (fun r=>?_) (fun r=>?_)
 ·have r:=of_decide_eq_true r;refine ak b1 rfl (by simp) ?_;intro g2 b2 k2 z2;refine ad b2 ((⟨#[]⟩:ByteArray),(0:Int),(0:Int),()) rfl ?_;obtain ⟨s,b,e⟩:=hz (by
   by_cases g:cH op=0
   ·exact g
   ·have:=GJ op g
    omega)
  exact ⟨s,b,e,Ch.trans e1 k2 (fun i hi hl=>by simp at hi; omega)⟩
 ·have q:=of_decide_eq_false q;have r:=of_decide_eq_false r;rw [wrap_i64 (by omega) (by omega)];refine aB ⟨by omega,by omega⟩ ?_;obtain ⟨s,b,hc⟩:=(t.ah e1 (by simp)).cells (k:=(op-1).toNat) (by omega);refine aH (s,b,((bO.getD (op-1).toNat 0:Nat):Int),()) hc ?_;dsimp only [flat,aA,ai,nA,cA];refine ak b1 rfl (by simp) ?_;intro g2 b2 k2 z2;refine ad b2 (s,b,((bO.getD (op-1).toNat 0:Nat):Int),()) rfl ?_;refine ⟨s,b,?_,Ch.trans e1 k2 (fun i hi hl=>by simp at hi; omega)⟩;have h3:cH op=bO.getD (op-1).toNat 0:=by unfold cH; rw [if_neg (by omega)]
  have h4:cH op≠0:=by
   rw [h3]
   have:∀ k:Fin 43,bO.getD k.1 0≠0:=by decide
   exact this ⟨(op-1).toNat,by omega⟩
  rw [decide_eq_true h4,h3]
theorem AL {h:Hp} (t:yJ h) (op:Int) (h1:-9223372036854775808≤op) (h2:op≤9223372036854775807) :
  HC Tryz.prog 51 #[.int .i64 op] h fun w h'=>w=.bool (B4 op)∧Ext h h':=by
 refine aI (args:=[.int .i64 op]) mixed Tryz.func51 (by kernel_rfl) (u7 op) ?_;unfold sC;refine aC (Cj t op h1 h2) ?_;rintro _ g1 ⟨s,b,rfl,e1⟩;refine ⟨(s,b,((cH op:Nat):Int),decide (cH op≠0),()),rfl,?_⟩;dsimp only [flat,aA,ai,nA,cA];refine aT ?_;intro g2 b2 e2 z2;refine ak b2 rfl (by simp) ?_;intro g3 b3 k3 z3;have e3:=(e1.trans e2).st k3 (by have:=e1.size; omega);have b3:aN g3 g1.size 158 [.string s,.int .u8 b,.int .i64 (cH op:Nat)]:=b3;rw [ao];refine ad b3 (((cH op:Nat):Int),()) rfl ?_;dsimp only [flat,aA,ai,nA,cA];have hc:=rN op;refine af (fun q=>?_) (fun q=>?_)
 ·have q:((cH op:Nat):Int)=12:=by simpa using q
  refine ⟨?_,e3⟩;unfold B4;rw [decide_eq_true (by omega)]
 ·have q:¬ ((cH op:Nat):Int)=12:=by simpa using q
  refine ad b3 (((cH op:Nat):Int),()) rfl ?_;refine ⟨?_,e3⟩;unfold B4
  by_cases r:cH op=13
  ·rw [r]; rfl
  ·rw [decide_eq_false (by omega)]
   congr 1
   simp
   omega
theorem Bz (n:Int):(n==IntKind.wrap .i32 (IntKind.wrap .i8 n))=(decide (-128≤n) && decide (n≤127)):=by
 have h1:IntKind.wrap .i8 n=if n % 256<128 then n % 256 else n % 256-256:=by
  simp only [IntKind.wrap,IntKind.bits,IntKind.signed,Bool.true_and];split <;> rename_i hh
  ·have:=of_decide_eq_true hh
   rw [if_neg (by omega)] <;> rfl
  ·have:¬ _:=fun h=>hh (decide_eq_true h)
   rw [if_pos (by omega)] <;> rfl
 have h2:IntKind.wrap .i32 (IntKind.wrap .i8 n)=IntKind.wrap .i8 n:=by
  have:-128≤IntKind.wrap .i8 n∧IntKind.wrap .i8 n≤127:=by rw [h1]; split <;> omega
  generalize IntKind.wrap .i8 n=m at this;simp only [IntKind.wrap,IntKind.bits,IntKind.signed,Bool.true_and];split <;> rename_i hh
  ·have:=of_decide_eq_true hh; omega
  ·have:¬ _:=fun h=>hh (decide_eq_true h); omega
 rw [h2,h1]
 by_cases g:-128≤n∧n≤127
 ·rw [decide_eq_true g.1,decide_eq_true g.2]
  simp
  split <;> omega
 ·have:(decide (-128≤n) && decide (n≤127))=false:=by
   rw [Bool.and_eq_false_iff]
   simp
   omega
  rw [this]
  simp
  split <;> omega
theorem zP (n:Int):(n==IntKind.wrap .i32 (IntKind.wrap .i16 n))=(decide (-32768≤n) && decide (n≤32767)):=by
 have h1:IntKind.wrap .i16 n=if n % 65536<32768 then n % 65536 else n % 65536-65536:=by
  simp only [IntKind.wrap,IntKind.bits,IntKind.signed,Bool.true_and];split <;> rename_i hh
  ·have:=of_decide_eq_true hh
   rw [if_neg (by omega)] <;> rfl
  ·have:¬ _:=fun h=>hh (decide_eq_true h)
   rw [if_pos (by omega)] <;> rfl
 have h2:IntKind.wrap .i32 (IntKind.wrap .i16 n)=IntKind.wrap .i16 n:=by
  have:-32768≤IntKind.wrap .i16 n∧IntKind.wrap .i16 n≤32767:=by rw [h1]; split <;> omega
  generalize IntKind.wrap .i16 n=m at this;simp only [IntKind.wrap,IntKind.bits,IntKind.signed,Bool.true_and];split <;> rename_i hh
  ·have:=of_decide_eq_true hh; omega
  ·have:¬ _:=fun h=>hh (decide_eq_true h); omega
 rw [h2,h1]
 by_cases g:-32768≤n∧n≤32767
 ·rw [decide_eq_true g.1,decide_eq_true g.2]
  simp
  split <;> omega
 ·have:(decide (-32768≤n) && decide (n≤32767))=false:=by
   rw [Bool.and_eq_false_iff]
   simp
   omega
  rw [this]
  simp
  split <;> omega
theorem aW (h:Hp) (n f:Int):tp Tryz.prog 173 [.int .i32 n,.int .i64 f] h (.bool (mF n f)):=by
 refine dU mixed Tryz.func173 (by kernel_rfl) (rG n f) ?_;unfold oF;rw [Bz,zP];refine af (fun q=>?_) (fun q=>?_)
 ·have q:f=1:=by simpa using q
  exact ⟨by unfold mF; rw [if_pos q],rfl⟩
 have q:¬ f=1:=by simpa using q
 refine af (fun r=>?_) (fun r=>?_)
 ·have r:f=2:=by simpa using r
  exact ⟨by unfold mF; rw [if_neg q,if_pos r],rfl⟩
 have r:¬ f=2:=by simpa using r
 exact ⟨by unfold mF; rw [if_neg q,if_neg r]; rfl,rfl⟩
theorem ub (h:Hp) (n:Int):tp Tryz.prog 79 [.int .i64 n] h (.bool (pF n)):=by
 refine dU mixed Tryz.func79 (by kernel_rfl) (tc n) ?_;unfold pS;have hf:¬ (1≤n∧n≤256)→pF n=false:=by
  intro g;cases hp:pF n with
  | false=>rfl
  | true =>
   exfalso;unfold pF at hp;simp only [Bool.or_eq_true,decide_eq_true_eq] at hp;omega
 refine af (fun q=>?_) (fun q=>?_)
 ·have q:=of_decide_eq_true q;refine af (fun r=>?_) (fun r=>?_)
  ·have r:=of_decide_eq_true r;refine ⟨?_,rfl⟩;obtain ⟨k,rfl,hk⟩:∃ k:Nat,n=((k+1:Nat):Int)∧k<256:=⟨(n-1).toNat,by omega,by omega⟩
   have:∀ k:Fin 256,(IntKind.wrap .i64 (((BitVec.toNat ((BitVec.ofInt 64 ((k.1+1:Nat):Int)) &&& (BitVec.ofInt 64 (IntKind.wrap .i64 (((k.1+1:Nat):Int)-(1:Int)))))):Nat):Int)==(0:Int))=pF ((k.1+1:Nat):Int):=by
    decide +kernel
   rw [this ⟨k,hk⟩]
  ·have r:=of_decide_eq_false r;exact ⟨by rw [hf (by omega)],rfl⟩
 ·have q:=of_decide_eq_false q;exact ⟨by rw [hf (by omega)],rfl⟩
theorem bt (h:Hp) (n m:Int):tp Tryz.prog 172 [.int .i64 n,.int .i64 m] h (.bool (nN n m)):=by
 refine dU mixed Tryz.func172 (by kernel_rfl) (vZ n m) ?_;unfold rP;refine af (fun q=>?_) (fun q=>?_)
 ·have q:=of_decide_eq_true q;refine ⟨?_,rfl⟩;unfold nN;rw [decide_eq_true (show 0≤n by omega)] <;> rfl
 ·have q:=of_decide_eq_false q;refine ⟨?_,rfl⟩;unfold nN;rw [decide_eq_false (show ¬ 0≤n by omega)] <;> rfl
theorem cz (a b:Int):(a==b)=decide (a=b):=rfl
def cd (op a b n form:Int):Value:=.agg #[.int .i64 op,.int .i64 a,.int .i64 b,.int .i32 n,.int .i64 form]
theorem FG (h:Hp) (op a b n form:Int):HC Tryz.prog 143 #[cd op a b n form,.int .i64 1] h fun w h'=>w=.bool (bo 1 a b n)∧Ext h h':=by
 refine aI (args:=[cd op a b n form,.int .i64 1]) mixed Tryz.func143 (by kernel_rfl) (lK op a b n form) ?_;unfold iG;refine aT ?_;intro g1 b1 e1 z1
 try simp only [ao]
 repeat' (first
  | (refine ad b1 (_,()) rfl ?_; dsimp only [flat,aA,ai,nA,cA])
  | (refine aD (bt _ _ _) ?_)
  | (refine aD (aW _ _ _) ?_)
  | (refine af (fun q=>?_) (fun q=>?_)))
 all_goals (refine ⟨?_,e1⟩; first | (simp_all [bo,cz]; done) | (simp_all [bo,cz] <;> simp [nN] <;> omega))
theorem HD (h:Hp) (op a b n form:Int):HC Tryz.prog 144 #[cd op a b n form,.int .i64 1] h fun w h'=>w=.bool (nR 1 n form)∧Ext h h':=by
 refine aI (args:=[cd op a b n form,.int .i64 1]) mixed Tryz.func144 (by kernel_rfl) (pe op a b n form) ?_;unfold lr;refine aT ?_;intro g1 b1 e1 z1
 try simp only [ao]
 repeat' (first
  | (refine ad b1 (_,()) rfl ?_; dsimp only [flat,aA,ai,nA,cA])
  | (refine aD (bt _ _ _) ?_)
  | (refine aD (aW _ _ _) ?_)
  | (refine af (fun q=>?_) (fun q=>?_)))
 all_goals (refine ⟨?_,e1⟩; first | (simp_all [nR,cz]; done) | (simp_all [nR,cz] <;> omega))
theorem Ey (h:Hp) (op a b n form:Int):HC Tryz.prog 143 #[cd op a b n form,.int .i64 2] h fun w h'=>w=.bool (bo 2 a b n)∧Ext h h':=by
 refine aI (args:=[cd op a b n form,.int .i64 2]) mixed Tryz.func143 (by kernel_rfl) (lM op a b n form) ?_;unfold iW;refine aT ?_;intro g1 b1 e1 z1
 try simp only [ao]
 repeat' (first
  | (refine ad b1 (_,()) rfl ?_; dsimp only [flat,aA,ai,nA,cA])
  | (refine aD (bt _ _ _) ?_)
  | (refine aD (aW _ _ _) ?_)
  | (refine af (fun q=>?_) (fun q=>?_)))
 all_goals (refine ⟨?_,e1⟩; first | (simp_all [bo,cz]; done) | (simp_all [bo,cz] <;> simp [nN] <;> omega))
theorem Ik (h:Hp) (op a b n form:Int):HC Tryz.prog 144 #[cd op a b n form,.int .i64 2] h fun w h'=>w=.bool (nR 2 n form)∧Ext h h':=by
 refine aI (args:=[cd op a b n form,.int .i64 2]) mixed Tryz.func144 (by kernel_rfl) (py op a b n form) ?_;unfold lc;refine aT ?_;intro g1 b1 e1 z1
 try simp only [ao]
 repeat' (first
  | (refine ad b1 (_,()) rfl ?_; dsimp only [flat,aA,ai,nA,cA])
  | (refine aD (bt _ _ _) ?_)
  | (refine aD (aW _ _ _) ?_)
  | (refine af (fun q=>?_) (fun q=>?_)))
 all_goals (refine ⟨?_,e1⟩; first | (simp_all [nR,cz]; done) | (simp_all [nR,cz] <;> omega))
theorem Gr (h:Hp) (op a b n form:Int):HC Tryz.prog 143 #[cd op a b n form,.int .i64 3] h fun w h'=>w=.bool (bo 3 a b n)∧Ext h h':=by
 refine aI (args:=[cd op a b n form,.int .i64 3]) mixed Tryz.func143 (by kernel_rfl) (lC op a b n form) ?_;unfold iT;refine aT ?_;intro g1 b1 e1 z1
 try simp only [ao]
 repeat' (first
  | (refine ad b1 (_,()) rfl ?_; dsimp only [flat,aA,ai,nA,cA])
  | (refine aD (bt _ _ _) ?_)
  | (refine aD (aW _ _ _) ?_)
  | (refine af (fun q=>?_) (fun q=>?_)))
 all_goals (refine ⟨?_,e1⟩; first | (simp_all [bo,cz]; done) | (simp_all [bo,cz] <;> simp [nN] <;> omega))
theorem G2 (h:Hp) (op a b n form:Int):HC Tryz.prog 144 #[cd op a b n form,.int .i64 3] h fun w h'=>w=.bool (nR 3 n form)∧Ext h h':=by
 refine aI (args:=[cd op a b n form,.int .i64 3]) mixed Tryz.func144 (by kernel_rfl) (pv op a b n form) ?_;unfold lp;refine aT ?_;intro g1 b1 e1 z1
 try simp only [ao]
 repeat' (first
  | (refine ad b1 (_,()) rfl ?_; dsimp only [flat,aA,ai,nA,cA])
  | (refine aD (bt _ _ _) ?_)
  | (refine aD (aW _ _ _) ?_)
  | (refine af (fun q=>?_) (fun q=>?_)))
 all_goals (refine ⟨?_,e1⟩; first | (simp_all [nR,cz]; done) | (simp_all [nR,cz] <;> omega))
theorem FP (h:Hp) (op a b n form:Int):HC Tryz.prog 143 #[cd op a b n form,.int .i64 4] h fun w h'=>w=.bool (bo 4 a b n)∧Ext h h':=by
 refine aI (args:=[cd op a b n form,.int .i64 4]) mixed Tryz.func143 (by kernel_rfl) (lW op a b n form) ?_;unfold jf;refine aT ?_;intro g1 b1 e1 z1
 try simp only [ao]
 repeat' (first
  | (refine ad b1 (_,()) rfl ?_; dsimp only [flat,aA,ai,nA,cA])
  | (refine aD (bt _ _ _) ?_)
  | (refine aD (aW _ _ _) ?_)
  | (refine af (fun q=>?_) (fun q=>?_)))
 all_goals (refine ⟨?_,e1⟩; first | (simp_all [bo,cz]; done) | (simp_all [bo,cz] <;> simp [nN] <;> omega))
theorem Hm (h:Hp) (op a b n form:Int):HC Tryz.prog 144 #[cd op a b n form,.int .i64 4] h fun w h'=>w=.bool (nR 4 n form)∧Ext h h':=by
 refine aI (args:=[cd op a b n form,.int .i64 4]) mixed Tryz.func144 (by kernel_rfl) (pd op a b n form) ?_;unfold lh;refine aT ?_;intro g1 b1 e1 z1
 try simp only [ao]
 repeat' (first
  | (refine ad b1 (_,()) rfl ?_; dsimp only [flat,aA,ai,nA,cA])
  | (refine aD (bt _ _ _) ?_)
  | (refine aD (aW _ _ _) ?_)
  | (refine af (fun q=>?_) (fun q=>?_)))
 all_goals (refine ⟨?_,e1⟩; first | (simp_all [nR,cz]; done) | (simp_all [nR,cz] <;> omega))
theorem Gc (h:Hp) (op a b n form:Int):HC Tryz.prog 143 #[cd op a b n form,.int .i64 5] h fun w h'=>w=.bool (bo 5 a b n)∧Ext h h':=by
 refine aI (args:=[cd op a b n form,.int .i64 5]) mixed Tryz.func143 (by kernel_rfl) (lG op a b n form) ?_;unfold iB;refine aT ?_;intro g1 b1 e1 z1
 try simp only [ao]
 repeat' (first
  | (refine ad b1 (_,()) rfl ?_; dsimp only [flat,aA,ai,nA,cA])
  | (refine aD (bt _ _ _) ?_)
  | (refine aD (aW _ _ _) ?_)
  | (refine af (fun q=>?_) (fun q=>?_)))
 all_goals (refine ⟨?_,e1⟩; first | (simp_all [bo,cz]; done) | (simp_all [bo,cz] <;> simp [nN] <;> omega))
theorem Hn (h:Hp) (op a b n form:Int):HC Tryz.prog 144 #[cd op a b n form,.int .i64 5] h fun w h'=>w=.bool (nR 5 n form)∧Ext h h':=by
 refine aI (args:=[cd op a b n form,.int .i64 5]) mixed Tryz.func144 (by kernel_rfl) (oV op a b n form) ?_;unfold lg;refine aT ?_;intro g1 b1 e1 z1
 try simp only [ao]
 repeat' (first
  | (refine ad b1 (_,()) rfl ?_; dsimp only [flat,aA,ai,nA,cA])
  | (refine aD (bt _ _ _) ?_)
  | (refine aD (aW _ _ _) ?_)
  | (refine af (fun q=>?_) (fun q=>?_)))
 all_goals (refine ⟨?_,e1⟩; first | (simp_all [nR,cz]; done) | (simp_all [nR,cz] <;> omega))
theorem Ge (h:Hp) (op a b n form:Int):HC Tryz.prog 143 #[cd op a b n form,.int .i64 6] h fun w h'=>w=.bool (bo 6 a b n)∧Ext h h':=by
 refine aI (args:=[cd op a b n form,.int .i64 6]) mixed Tryz.func143 (by kernel_rfl) (lV op a b n form) ?_;unfold iV;refine aT ?_;intro g1 b1 e1 z1
 try simp only [ao]
 repeat' (first
  | (refine ad b1 (_,()) rfl ?_; dsimp only [flat,aA,ai,nA,cA])
  | (refine aD (bt _ _ _) ?_)
  | (refine aD (aW _ _ _) ?_)
  | (refine af (fun q=>?_) (fun q=>?_)))
 all_goals (refine ⟨?_,e1⟩; first | (simp_all [bo,cz]; done) | (simp_all [bo,cz] <;> simp [nN] <;> omega))
theorem Hj (h:Hp) (op a b n form:Int):HC Tryz.prog 144 #[cd op a b n form,.int .i64 6] h fun w h'=>w=.bool (nR 6 n form)∧Ext h h':=by
 refine aI (args:=[cd op a b n form,.int .i64 6]) mixed Tryz.func144 (by kernel_rfl) (oY op a b n form) ?_;unfold lf;refine aT ?_;intro g1 b1 e1 z1
 try simp only [ao]
 repeat' (first
  | (refine ad b1 (_,()) rfl ?_; dsimp only [flat,aA,ai,nA,cA])
  | (refine aD (bt _ _ _) ?_)
  | (refine aD (aW _ _ _) ?_)
  | (refine af (fun q=>?_) (fun q=>?_)))
 all_goals (refine ⟨?_,e1⟩; first | (simp_all [nR,cz]; done) | (simp_all [nR,cz] <;> omega))
theorem Fu (h:Hp) (op a b n form:Int):HC Tryz.prog 143 #[cd op a b n form,.int .i64 7] h fun w h'=>w=.bool (bo 7 a b n)∧Ext h h':=by
 refine aI (args:=[cd op a b n form,.int .i64 7]) mixed Tryz.func143 (by kernel_rfl) (lN op a b n form) ?_;unfold jh;refine aT ?_;intro g1 b1 e1 z1
 try simp only [ao]
 repeat' (first
  | (refine ad b1 (_,()) rfl ?_; dsimp only [flat,aA,ai,nA,cA])
  | (refine aD (bt _ _ _) ?_)
  | (refine aD (aW _ _ _) ?_)
  | (refine af (fun q=>?_) (fun q=>?_)))
 all_goals (refine ⟨?_,e1⟩; first | (simp_all [bo,cz]; done) | (simp_all [bo,cz] <;> simp [nN] <;> omega))
theorem HM (h:Hp) (op a b n form:Int):HC Tryz.prog 144 #[cd op a b n form,.int .i64 7] h fun w h'=>w=.bool (nR 7 n form)∧Ext h h':=by
 refine aI (args:=[cd op a b n form,.int .i64 7]) mixed Tryz.func144 (by kernel_rfl) (pu op a b n form) ?_;unfold lj;refine aT ?_;intro g1 b1 e1 z1
 try simp only [ao]
 repeat' (first
  | (refine ad b1 (_,()) rfl ?_; dsimp only [flat,aA,ai,nA,cA])
  | (refine aD (bt _ _ _) ?_)
  | (refine aD (aW _ _ _) ?_)
  | (refine af (fun q=>?_) (fun q=>?_)))
 all_goals (refine ⟨?_,e1⟩; first | (simp_all [nR,cz]; done) | (simp_all [nR,cz] <;> omega))
theorem EE (h:Hp) (op a b n form:Int):HC Tryz.prog 143 #[cd op a b n form,.int .i64 8] h fun w h'=>w=.bool (bo 8 a b n)∧Ext h h':=by
 refine aI (args:=[cd op a b n form,.int .i64 8]) mixed Tryz.func143 (by kernel_rfl) (lO op a b n form) ?_;unfold iH;refine aT ?_;intro g1 b1 e1 z1
 try simp only [ao]
 repeat' (first
  | (refine ad b1 (_,()) rfl ?_; dsimp only [flat,aA,ai,nA,cA])
  | (refine aD (bt _ _ _) ?_)
  | (refine aD (aW _ _ _) ?_)
  | (refine af (fun q=>?_) (fun q=>?_)))
 all_goals (refine ⟨?_,e1⟩; first | (simp_all [bo,cz]; done) | (simp_all [bo,cz] <;> simp [nN] <;> omega))
theorem HZ (h:Hp) (op a b n form:Int):HC Tryz.prog 144 #[cd op a b n form,.int .i64 8] h fun w h'=>w=.bool (nR 8 n form)∧Ext h h':=by
 refine aI (args:=[cd op a b n form,.int .i64 8]) mixed Tryz.func144 (by kernel_rfl) (pK op a b n form) ?_;unfold ly;refine aT ?_;intro g1 b1 e1 z1
 try simp only [ao]
 repeat' (first
  | (refine ad b1 (_,()) rfl ?_; dsimp only [flat,aA,ai,nA,cA])
  | (refine aD (bt _ _ _) ?_)
  | (refine aD (aW _ _ _) ?_)
  | (refine af (fun q=>?_) (fun q=>?_)))
 all_goals (refine ⟨?_,e1⟩; first | (simp_all [nR,cz]; done) | (simp_all [nR,cz] <;> omega))
theorem EI (h:Hp) (op a b n form:Int):HC Tryz.prog 143 #[cd op a b n form,.int .i64 9] h fun w h'=>w=.bool (bo 9 a b n)∧Ext h h':=by
 refine aI (args:=[cd op a b n form,.int .i64 9]) mixed Tryz.func143 (by kernel_rfl) (lP op a b n form) ?_;unfold iM;refine aT ?_;intro g1 b1 e1 z1
 try simp only [ao]
 repeat' (first
  | (refine ad b1 (_,()) rfl ?_; dsimp only [flat,aA,ai,nA,cA])
  | (refine aD (bt _ _ _) ?_)
  | (refine aD (aW _ _ _) ?_)
  | (refine af (fun q=>?_) (fun q=>?_)))
 all_goals (refine ⟨?_,e1⟩; first | (simp_all [bo,cz]; done) | (simp_all [bo,cz] <;> simp [nN] <;> omega))
theorem Hi (h:Hp) (op a b n form:Int):HC Tryz.prog 144 #[cd op a b n form,.int .i64 9] h fun w h'=>w=.bool (nR 9 n form)∧Ext h h':=by
 refine aI (args:=[cd op a b n form,.int .i64 9]) mixed Tryz.func144 (by kernel_rfl) (pj op a b n form) ?_;unfold ln;refine aT ?_;intro g1 b1 e1 z1
 try simp only [ao]
 repeat' (first
  | (refine ad b1 (_,()) rfl ?_; dsimp only [flat,aA,ai,nA,cA])
  | (refine aD (bt _ _ _) ?_)
  | (refine aD (aW _ _ _) ?_)
  | (refine af (fun q=>?_) (fun q=>?_)))
 all_goals (refine ⟨?_,e1⟩; first | (simp_all [nR,cz]; done) | (simp_all [nR,cz] <;> omega))
theorem DA (h:Hp) (op a b n form:Int):HC Tryz.prog 143 #[cd op a b n form,.int .i64 10] h fun w h'=>w=.bool (bo 10 a b n)∧Ext h h':=by
 refine aI (args:=[cd op a b n form,.int .i64 10]) mixed Tryz.func143 (by kernel_rfl) (kN op a b n form) ?_;unfold ia;refine aT ?_;intro g1 b1 e1 z1
 try simp only [ao]
 repeat' (first
  | (refine ad b1 (_,()) rfl ?_; dsimp only [flat,aA,ai,nA,cA])
  | (refine aD (bt _ _ _) ?_)
  | (refine aD (aW _ _ _) ?_)
  | (refine af (fun q=>?_) (fun q=>?_)))
 all_goals (refine ⟨?_,e1⟩; first | (simp_all [bo,cz]; done) | (simp_all [bo,cz] <;> simp [nN] <;> omega))
theorem Fi (h:Hp) (op a b n form:Int):HC Tryz.prog 144 #[cd op a b n form,.int .i64 10] h fun w h'=>w=.bool (nR 10 n form)∧Ext h h':=by
 refine aI (args:=[cd op a b n form,.int .i64 10]) mixed Tryz.func144 (by kernel_rfl) (nS op a b n form) ?_;unfold kl;refine aT ?_;intro g1 b1 e1 z1
 try simp only [ao]
 repeat' (first
  | (refine ad b1 (_,()) rfl ?_; dsimp only [flat,aA,ai,nA,cA])
  | (refine aD (bt _ _ _) ?_)
  | (refine aD (aW _ _ _) ?_)
  | (refine af (fun q=>?_) (fun q=>?_)))
 all_goals (refine ⟨?_,e1⟩; first | (simp_all [nR,cz]; done) | (simp_all [nR,cz] <;> omega))
theorem Dl (h:Hp) (op a b n form:Int):HC Tryz.prog 143 #[cd op a b n form,.int .i64 11] h fun w h'=>w=.bool (bo 11 a b n)∧Ext h h':=by
 refine aI (args:=[cd op a b n form,.int .i64 11]) mixed Tryz.func143 (by kernel_rfl) (kS op a b n form) ?_;unfold hM;refine aT ?_;intro g1 b1 e1 z1
 try simp only [ao]
 repeat' (first
  | (refine ad b1 (_,()) rfl ?_; dsimp only [flat,aA,ai,nA,cA])
  | (refine aD (bt _ _ _) ?_)
  | (refine aD (aW _ _ _) ?_)
  | (refine af (fun q=>?_) (fun q=>?_)))
 all_goals (refine ⟨?_,e1⟩; first | (simp_all [bo,cz]; done) | (simp_all [bo,cz] <;> simp [nN] <;> omega))
theorem Gj (h:Hp) (op a b n form:Int):HC Tryz.prog 144 #[cd op a b n form,.int .i64 11] h fun w h'=>w=.bool (nR 11 n form)∧Ext h h':=by
 refine aI (args:=[cd op a b n form,.int .i64 11]) mixed Tryz.func144 (by kernel_rfl) (ol op a b n form) ?_;unfold kv;refine aT ?_;intro g1 b1 e1 z1
 try simp only [ao]
 repeat' (first
  | (refine ad b1 (_,()) rfl ?_; dsimp only [flat,aA,ai,nA,cA])
  | (refine aD (bt _ _ _) ?_)
  | (refine aD (aW _ _ _) ?_)
  | (refine af (fun q=>?_) (fun q=>?_)))
 all_goals (refine ⟨?_,e1⟩; first | (simp_all [nR,cz]; done) | (simp_all [nR,cz] <;> omega))
theorem DC (h:Hp) (op a b n form:Int):HC Tryz.prog 143 #[cd op a b n form,.int .i64 12] h fun w h'=>w=.bool (bo 12 a b n)∧Ext h h':=by
 refine aI (args:=[cd op a b n form,.int .i64 12]) mixed Tryz.func143 (by kernel_rfl) (kP op a b n form) ?_;unfold ie;refine aT ?_;intro g1 b1 e1 z1
 try simp only [ao]
 repeat' (first
  | (refine ad b1 (_,()) rfl ?_; dsimp only [flat,aA,ai,nA,cA])
  | (refine aD (bt _ _ _) ?_)
  | (refine aD (aW _ _ _) ?_)
  | (refine af (fun q=>?_) (fun q=>?_)))
 all_goals (refine ⟨?_,e1⟩; first | (simp_all [bo,cz]; done) | (simp_all [bo,cz] <;> simp [nN] <;> omega))
theorem FI (h:Hp) (op a b n form:Int):HC Tryz.prog 144 #[cd op a b n form,.int .i64 12] h fun w h'=>w=.bool (nR 12 n form)∧Ext h h':=by
 refine aI (args:=[cd op a b n form,.int .i64 12]) mixed Tryz.func144 (by kernel_rfl) (ob op a b n form) ?_;unfold km;refine aT ?_;intro g1 b1 e1 z1
 try simp only [ao]
 repeat' (first
  | (refine ad b1 (_,()) rfl ?_; dsimp only [flat,aA,ai,nA,cA])
  | (refine aD (bt _ _ _) ?_)
  | (refine aD (aW _ _ _) ?_)
  | (refine af (fun q=>?_) (fun q=>?_)))
 all_goals (refine ⟨?_,e1⟩; first | (simp_all [nR,cz]; done) | (simp_all [nR,cz] <;> omega))
theorem DW (h:Hp) (op a b n form:Int):HC Tryz.prog 143 #[cd op a b n form,.int .i64 13] h fun w h'=>w=.bool (bo 13 a b n)∧Ext h h':=by
 refine aI (args:=[cd op a b n form,.int .i64 13]) mixed Tryz.func143 (by kernel_rfl) (kR op a b n form) ?_;unfold gU;refine aT ?_;intro g1 b1 e1 z1
 try simp only [ao]
 repeat' (first
  | (refine ad b1 (_,()) rfl ?_; dsimp only [flat,aA,ai,nA,cA])
  | (refine aD (bt _ _ _) ?_)
  | (refine aD (aW _ _ _) ?_)
  | (refine af (fun q=>?_) (fun q=>?_)))
 all_goals (refine ⟨?_,e1⟩; first | (simp_all [bo,cz]; done) | (simp_all [bo,cz] <;> simp [nN] <;> omega))
theorem FO (h:Hp) (op a b n form:Int):HC Tryz.prog 144 #[cd op a b n form,.int .i64 13] h fun w h'=>w=.bool (nR 13 n form)∧Ext h h':=by
 refine aI (args:=[cd op a b n form,.int .i64 13]) mixed Tryz.func144 (by kernel_rfl) (nT op a b n form) ?_;unfold kn;refine aT ?_;intro g1 b1 e1 z1
 try simp only [ao]
 repeat' (first
  | (refine ad b1 (_,()) rfl ?_; dsimp only [flat,aA,ai,nA,cA])
  | (refine aD (bt _ _ _) ?_)
  | (refine aD (aW _ _ _) ?_)
  | (refine af (fun q=>?_) (fun q=>?_)))
 all_goals (refine ⟨?_,e1⟩; first | (simp_all [nR,cz]; done) | (simp_all [nR,cz] <;> omega))
theorem yA (h:Hp) (op a b n form:Int) {s:Nat} (h1:1≤s) (h2:s≤13):HC Tryz.prog 143 #[cd op a b n form,.int .i64 s] h fun w h'=>w=.bool (bo s a b n)∧Ext h h':=by
 have hs:s=1∨s=2∨s=3∨s=4∨s=5∨s=6∨s=7∨s=8∨s=9∨s=10∨s=11∨s=12∨s=13:=by omega
 clear h1 h2;rcases hs with rfl | rfl | rfl | rfl | rfl | rfl | rfl | rfl | rfl | rfl | rfl | rfl | rfl
 ·exact FG h op a b n form
 ·exact Ey h op a b n form
 ·exact Gr h op a b n form
 ·exact FP h op a b n form
 ·exact Gc h op a b n form
 ·exact Ge h op a b n form
 ·exact Fu h op a b n form
 ·exact EE h op a b n form
 ·exact EI h op a b n form
 ·exact DA h op a b n form
 ·exact Dl h op a b n form
 ·exact DC h op a b n form
 ·exact DW h op a b n form
theorem nu (h:Hp) (op a b n form:Int) {s:Nat} (h1:1≤s) (h2:s≤13):HC Tryz.prog 144 #[cd op a b n form,.int .i64 s] h fun w h'=>w=.bool (nR s n form)∧Ext h h':=by
 have hs:s=1∨s=2∨s=3∨s=4∨s=5∨s=6∨s=7∨s=8∨s=9∨s=10∨s=11∨s=12∨s=13:=by omega
 clear h1 h2;rcases hs with rfl | rfl | rfl | rfl | rfl | rfl | rfl | rfl | rfl | rfl | rfl | rfl | rfl
 ·exact HD h op a b n form
 ·exact Ik h op a b n form
 ·exact G2 h op a b n form
 ·exact Hm h op a b n form
 ·exact Hn h op a b n form
 ·exact Hj h op a b n form
 ·exact HM h op a b n form
 ·exact HZ h op a b n form
 ·exact Hi h op a b n form
 ·exact Fi h op a b n form
 ·exact Gj h op a b n form
 ·exact FI h op a b n form
 ·exact FO h op a b n form
def Sm (n:Int):Prop:=-9223372036854775808≤n∧n≤9223372036854775807
theorem Av {h:Hp} (t:yJ h) (op a b n form:Int) (ho:Sm op) :
  HC Tryz.prog 116 #[cd op a b n form] h fun w h'=>w=.int .i64 (nZ ⟨op,a,b,n,form⟩)∧Ext h h':=by
 refine aI (args:=[cd op a b n form]) mixed Tryz.func116 (by kernel_rfl) (uj op a b n form) ?_;unfold sE;refine aT ?_;intro g1 b1 e1 z1;refine ad b1 (op,()) rfl ?_;dsimp only [flat,aA,ai,nA,cA];refine aC (Cj (t.ah e1 (by simp)) op ho.1 ho.2) ?_;rintro _ g2 ⟨s,y,rfl,e2⟩;refine ⟨(s,y,((cH op:Nat):Int),decide (cH op≠0),()),rfl,?_⟩;dsimp only [flat,aA,ai,nA,cA];refine aT ?_;intro g3 b3 e3 z3;refine ak b3 rfl (by simp) ?_;intro g4 b4 k4 z4;have b4:aN g4 g2.size 158 [.string s,.int .u8 y,.int .i64 (cH op:Nat)]:=b4;have e4:=((e1.trans e2).trans e3).st k4 (by have:=e1.size; have:=e2.size; omega);have b1:=b1.ah ((e2.trans e3).st k4 (by have:=e2.size; omega)) (by simp);unfold nZ;simp only [ao];refine af (fun q=>?_) (fun q=>?_)
 ·have q:cH op=0:=by simpa using q
  exact ⟨by rw [if_pos q],e4⟩
 have q:¬ cH op=0:=by simpa using q
 rw [if_neg q];refine ad b1 (op,a,b,n,form,()) rfl ?_;dsimp only [flat,aA,ai,nA,cA];refine ad b4 (((cH op:Nat):Int),()) rfl ?_;dsimp only [flat,aA,ai,nA,cA];have hs:=rN op;refine aC (yA g4 op a b n form (s:=cH op) (by omega) (by omega)) ?_;rintro _ g5 ⟨rfl,e5⟩;refine ⟨(bo (cH op) a b n,()),rfl,?_⟩;dsimp only [flat,aA,ai,nA,cA];have e45:=e4.trans e5;refine af (fun q=>?_) (fun q=>?_)
 ·have q:bo (cH op) a b n=false:=by simpa using q
  exact ⟨by rw [if_pos q],e45⟩
 have q:bo (cH op) a b n=true:=by simpa using q
 rw [if_neg (by rw [q]; simp)];have b1:=b1.ah e5 (by simp);have b4:=b4.ah e5 (by simp);refine ad b1 (op,()) rfl ?_;dsimp only [flat,aA,ai,nA,cA];refine aC (AL (t.ah e45 (by simp)) op ho.1 ho.2) ?_;rintro _ g6 ⟨rfl,e6⟩;refine ⟨(B4 op,()),rfl,?_⟩;dsimp only [flat,aA,ai,nA,cA];have e46:=e45.trans e6;have b1:=b1.ah e6 (by simp);have b4:=b4.ah e6 (by simp);refine af (fun q=>?_) (fun q=>?_)
 ·have q:B4 op=false:=by simpa using q
  refine ad b1 (form,()) rfl ?_;dsimp only [flat,aA,ai,nA,cA];refine af (fun r=>?_) (fun r=>?_)
  ·have r:¬ form=0:=by simpa using r
   exact ⟨by rw [q]; simp [r],e46⟩
  have r:form=0:=by simpa using r
  refine ad b1 (op,a,b,n,form,()) rfl ?_;dsimp only [flat,aA,ai,nA,cA];refine ad b4 (((cH op:Nat):Int),()) rfl ?_;dsimp only [flat,aA,ai,nA,cA];refine aC (nu g6 op a b n form (s:=cH op) (by omega) (by omega)) ?_;rintro _ g7 ⟨rfl,e7⟩;refine ⟨(nR (cH op) n form,()),rfl,?_⟩;dsimp only [flat,aA,ai,nA,cA];refine af (fun p=>?_) (fun p=>?_)
  ·exact ⟨by rw [q]; simp_all,e46.trans e7⟩
  ·exact ⟨by rw [q]; simp_all,e46.trans e7⟩
 ·have q:B4 op=true:=by simpa using q
  refine ad b1 (op,a,b,n,form,()) rfl ?_;dsimp only [flat,aA,ai,nA,cA];refine ad b4 (((cH op:Nat):Int),()) rfl ?_;dsimp only [flat,aA,ai,nA,cA];refine aC (nu g6 op a b n form (s:=cH op) (by omega) (by omega)) ?_;rintro _ g7 ⟨rfl,e7⟩;refine ⟨(nR (cH op) n form,()),rfl,?_⟩;dsimp only [flat,aA,ai,nA,cA];refine af (fun p=>?_) (fun p=>?_)
  ·exact ⟨by rw [q]; simp_all,e46.trans e7⟩
  ·exact ⟨by rw [q]; simp_all,e46.trans e7⟩
def encI (p:Option Addr) (l c:Nat) (x:bw):List Value:=[.int .i64 x.kind,.string x.name,.int .i64 x.inst.op,.int .i64 x.inst.a,.int .i64 x.inst.b,.int .i32 x.inst.n,.int .i64 x.inst.form,.slice p l c,.int .u32 x.e.num,.int .i64 x.n]
def pV (p:Option Addr) (l c:Nat) (x:bw):Value:=.agg (encI p l c x).toArray
structure jz (h:Hp) (p:Option Addr) (l:Nat) (x:eJ):Prop where
 vw:pM h p l x.aw
 many:x.aw.length≤2^60
 names:∀ t,t∈x.aw→t.1.size≤maxLen
theorem jz.ah {h:Hp} {p:Option Addr} {l:Nat} {x:eJ} (v:jz h p l x) (k:Ext h h'):jz h' p l x:=⟨v.vw.ah k (by simp),v.many,v.names⟩
theorem pM.none (h:Hp):pM h none 0 []:=⟨rfl,fun i hi=>absurd hi (by simp)⟩
theorem jz.none (h:Hp) (n:Nat):jz h none 0 ⟨[],n⟩:=⟨pM.none h,by simp,by simp⟩
theorem mL (x:eJ):j1 x dJ=JB x:=by
 unfold j1 JB dJ;rw [Bool.and_comm]
def Ci (g k:Nat):T :=
 T.ae ⟨g,5,none⟩ [.int .i32] <| fun (n16:Int) =>
 cond (n16==(0:Int))
  (T.ae ⟨k,0,none⟩ [.int .i64,.int .i64,.int .i64,.int .i32,.int .i64] <| fun (n17:Int) (n18:Int) (n19:Int) (n20:Int) (n21:Int) =>
  T.call Tryz.prog 116 [.agg #[.int .i64 n17,.int .i64 n18,.int .i64 n19,.int .i32 n20,.int .i64 n21]] false [(false,[.int .i64])] <| fun (n22:Int) =>
  cond (n22==(0:Int))
  (T.ae ⟨g,7,none⟩ [.slice 109,.int .u32] <| fun (p23:Option Addr) (l24:Nat) (l25:Nat) (n26:Int) =>
  T.call Tryz.prog 46 [.agg #[.slice p23 l24 l25,.int .u32 n26]] false [(false,[.bool])] <| fun (b27:Bool) =>
  T.ret (.bool b27))
  (T.ret (.bool false)))
  (T.ret (.bool false))
def EX (g k:Nat):T :=
 T.ae ⟨k,0,none⟩ [.int .i64,.int .i64,.int .i64,.int .i32,.int .i64] <| fun (n16:Int) (n17:Int) (n18:Int) (n19:Int) (n20:Int) =>
 T.call Tryz.prog 116 [.agg #[.int .i64 n16,.int .i64 n17,.int .i64 n18,.int .i32 n19,.int .i64 n20]] false [(false,[.int .i64])] <| fun (n21:Int) =>
 cond (n21==(0:Int))
  (T.ae ⟨g,7,none⟩ [.slice 109,.int .u32] <| fun (p22:Option Addr) (l23:Nat) (l24:Nat) (n25:Int) =>
  T.call Tryz.prog 80 [.agg #[.slice p22 l23 l24,.int .u32 n25],.agg #[.slice none 0 0,.int .u32 (0:Int)]] false [(false,[.bool])] <| fun (b26:Bool) =>
  T.ret (.bool b26))
  (T.ret (.bool false))
def rm (i:Ins):List Value:=[.int .i64 i.op,.int .i64 i.a,.int .i64 i.b,.int .i32 i.n,.int .i64 i.form]
theorem Ag {L:Lp} {h0 h:Hp} (t:yJ h) {x:bw} {p:Option Addr} {l c g k:Nat} {i:Ins} (b1:aN h g e1 (encI p l c x)) (b2:aN h k e2 (rm i)) (v:jz h p l x.e) (ho:Sm i.op) (e:Ext h0 h) :
  Ci g k L (fun w h'=>w=.bool (decide (x.inst.n=0) && decide (nZ i=0) && su none x.e.aw)∧Ext h0 h') h:=by
 unfold Ci;refine ad b1 (x.inst.n,()) rfl ?_;dsimp only [flat,aA,ai,nA,cA];refine af (fun q=>?_) (fun q=>?_)
 ·have q:x.inst.n=0:=by simpa using q
  refine ad b2 (i.op,i.a,i.b,i.n,i.form,()) rfl ?_;dsimp only [flat,aA,ai,nA,cA];refine aC (Av t i.op i.a i.b i.n i.form ho) ?_;rintro _ g2 ⟨rfl,e2⟩;refine ⟨(nZ i,()),rfl,?_⟩;dsimp only [flat,aA,ai,nA,cA];refine af (fun r=>?_) (fun r=>?_)
  ·have r:nZ i=0:=by simpa using r
   refine ad (b1.ah e2 (by simp)) ((p,l,c),(x.e.num:Int),()) rfl ?_;dsimp only [flat,aA,ai,nA,cA];refine aC (pH (c:=c) (v.ah e2).vw (by have:=v.many; omega) v.names) ?_;rintro _ g3 ⟨rfl,e3⟩;refine ⟨(su none x.e.aw,()),rfl,?_⟩;exact ⟨by rw [decide_eq_true q,decide_eq_true r]; rfl,(e.trans e2).trans e3⟩
  ·have r:¬ nZ i=0:=by simpa using r
   exact ⟨by rw [decide_eq_false r,Bool.and_false]; rfl,e.trans e2⟩
 ·have q:¬ x.inst.n=0:=by simpa using q
  exact ⟨by rw [decide_eq_false q]; rfl,e⟩
theorem EU {L:Lp} {h0 h:Hp} (t:yJ h) {x:bw} {p:Option Addr} {l c g k:Nat} {i:Ins} (b1:aN h g e1 (encI p l c x)) (b2:aN h k e2 (rm i)) (v:jz h p l x.e) (ho:Sm i.op) (e:Ext h0 h) :
  EX g k L (fun w h'=>w=.bool (decide (nZ i=0) && JB x.e)∧Ext h0 h') h:=by
 unfold EX;refine ad b2 (i.op,i.a,i.b,i.n,i.form,()) rfl ?_;dsimp only [flat,aA,ai,nA,cA];refine aC (Av t i.op i.a i.b i.n i.form ho) ?_;rintro _ g2 ⟨rfl,e2⟩;refine ⟨(nZ i,()),rfl,?_⟩;dsimp only [flat,aA,ai,nA,cA];refine af (fun r=>?_) (fun r=>?_)
 ·have r:nZ i=0:=by simpa using r
  refine ad (b1.ah e2 (by simp)) ((p,l,c),(x.e.num:Int),()) rfl ?_;dsimp only [flat,aA,ai,nA,cA];refine aC (xO (c:=c) (d:=0) (y:=dJ) (v.ah e2).vw (pM.none g2) v.many) ?_;rintro _ g3 ⟨rfl,e3⟩;refine ⟨(j1 x.e dJ,()),rfl,?_⟩;exact ⟨by rw [decide_eq_true r,mL]; rfl,(e.trans e2).trans e3⟩
 ·have r:¬ nZ i=0:=by simpa using r
  exact ⟨by rw [decide_eq_false r]; rfl,e.trans e2⟩
theorem instruction_hc {h:Hp} (t:yJ h) {x:bw} {p:Option Addr} {l c:Nat} (v:jz h p l x.e) (ho:Sm x.inst.op) :
  HC Tryz.prog 78 #[pV p l c x] h fun w h'=>w=.bool (yc x.inst x.e)∧Ext h h':=by
 refine aI (args:=[pV p l c x]) mixed Tryz.func78 (by kernel_rfl) (lH x.kind x.name x.inst.op x.inst.a x.inst.b x.inst.n x.inst.form p l c x.e.num x.n) ?_;unfold iZ;refine aT ?_;intro g1 b1 e1 z1;have b1:aN g1 h.size 96 (encI p l c x):=b1;simp only [ao];refine ad b1 (x.inst.op,()) rfl ?_;dsimp only [flat,aA,ai,nA,cA];refine aC (Cj (t.ah e1 (by simp)) x.inst.op ho.1 ho.2) ?_;rintro _ g2 ⟨s,y,rfl,e2⟩;refine ⟨(s,y,((cH x.inst.op:Nat):Int),decide (cH x.inst.op≠0),()),rfl,?_⟩;dsimp only [flat,aA,ai,nA,cA];refine aT ?_;intro g3 b3 e3 z3;refine ak b3 rfl (by simp) ?_;intro g4 b4 k4 z4;have b4:aN g4 g2.size 158 [.string s,.int .u8 y,.int .i64 (cH x.inst.op:Nat)]:=b4;have s1:=e1.size;have s2:=e2.size;have e14:=(e2.trans e3).st k4 (by omega);have e4:=e1.trans e14;have b1:=b1.ah e14 (by simp);unfold yc;refine af (fun q=>?_) (fun q=>?_)
 ·have q:cH x.inst.op=0:=by simpa using q
  exact ⟨by rw [q]; rfl,e4⟩
 have q:cH x.inst.op≠0:=by simpa using q
 rw [decide_eq_true q,Bool.true_and];refine ad b1 (x.inst.form,()) rfl ?_;dsimp only [flat,aA,ai,nA,cA];refine af (fun r=>?_) (fun r=>?_)
 ·have r:¬ x.inst.form=0:=by simpa using r
  exact ⟨by rw [decide_eq_false r]; rfl,e4⟩
 have r:x.inst.form=0:=by simpa using r
 rw [decide_eq_true r,Bool.true_and];refine ad b1 (x.inst.op,x.inst.a,x.inst.b,x.inst.n,x.inst.form,()) rfl ?_;dsimp only [flat,aA,ai,nA,cA];refine aT ?_;intro g5 b5 e5 z5;refine ak b5 rfl (by simp) ?_;intro g6 b6 k6 z6;have b6:aN g6 g4.size 90 (rm x.inst):=b6;have e46:=e5.st k6 (by omega);have e6:=e4.trans e46;have b1:=b1.ah e46 (by simp);have b4:=b4.ah e46 (by simp);simp only [ao];have hs:=rN x.inst.op;refine ad b4 (((cH x.inst.op:Nat):Int),()) rfl ?_;dsimp only [flat,aA,ai,nA,cA];generalize hB:(if GR x.inst.op=true then decide (x.inst.n=0) && decide (nZ { x.inst with form:=if B4 x.inst.op=true then 1 else 0 }=0) && su none x.e.aw else decide (nZ x.inst=0) && JB x.e)=B;have hF:{ x.inst with form:=0 }=x.inst:=by
  rcases hx:x.inst with ⟨a1,a2,a3,a4,a5⟩
  rw [hx] at r;simp only at r;rw [r]
 have hA:12≤cH x.inst.op→T.ap ⟨g4.size,4,none⟩ [.int .i64 1] (Ci h.size g4.size) [] (fun w h'=>w=.bool B∧Ext h h') g6:=by
  intro hh;refine ak b6 rfl (by simp [rm]) ?_;intro g7 b7 k7 z7;have b7:aN g7 g4.size 90 (rm { x.inst with form:=1 }):=b7;have e67:Ext g4 g7:=e46.st k7 (by omega);have e7:=e4.trans e67;have hw:GR x.inst.op=true:=decide_eq_true (by omega);have hp:B4 x.inst.op=true:=decide_eq_true hh;rw [if_pos hw,if_pos hp] at hB
  have:=Ag (L:=[]) (h0:=h) (t.ah e7 (by simp)) (b1.ah k7 (by simp; omega)) b7 (v.ah e7) ho e7
  rw [hB] at this;exact this
 have hR:cH x.inst.op=10∨cH x.inst.op=11→Ci h.size g4.size [] (fun w h'=>w=.bool B∧Ext h h') g6:=by
  intro hh;have hw:GR x.inst.op=true:=decide_eq_true (by omega);have hp:¬ B4 x.inst.op=true:=by unfold B4; rw [decide_eq_false (by omega)]; simp
  rw [if_pos hw,if_neg hp,hF] at hB
  have:=Ag (L:=[]) (h0:=h) (t.ah e6 (by simp)) b1 b6 (v.ah e6) ho e6
  rw [hB] at this;exact this
 have hS:cH x.inst.op<10→EX h.size g4.size [] (fun w h'=>w=.bool B∧Ext h h') g6:=by
  intro hh;have hw:¬ GR x.inst.op=true:=by unfold GR; rw [decide_eq_false (by omega)]; simp
  rw [if_neg hw] at hB
  have:=EU (L:=[]) (h0:=h) (t.ah e6 (by simp)) b1 b6 (v.ah e6) ho e6
  rw [hB] at this;exact this
 clear hB;refine af (fun q1=>?_) (fun q1=>?_)
 ·have q1:((cH x.inst.op:Nat):Int)=12:=by simpa using q1
  refine af (fun q2=>hA (by omega)) (fun q2=>?_);have q2:¬ ((cH x.inst.op:Nat):Int)=12:=by simpa using q2
  exact absurd q1 q2
 have q1:¬ ((cH x.inst.op:Nat):Int)=12:=by simpa using q1
 refine af (fun q2=>?_) (fun q2=>?_)
 ·have q2:((cH x.inst.op:Nat):Int)=13:=by simpa using q2
  exact hA (by omega)
 have q2:¬ ((cH x.inst.op:Nat):Int)=13:=by simpa using q2
 refine af (fun q3=>?_) (fun q3=>?_)
 ·have q3:((cH x.inst.op:Nat):Int)=10:=by simpa using q3
  refine af (fun q2=>hR (by omega)) (fun q4=>?_);have q4:¬ ((cH x.inst.op:Nat):Int)=10:=by simpa using q4
  exact absurd q3 q4
 have q3:¬ ((cH x.inst.op:Nat):Int)=10:=by simpa using q3
 refine af (fun q4=>?_) (fun q4=>?_)
 ·have q4:((cH x.inst.op:Nat):Int)=11:=by simpa using q4
  exact hR (by omega)
 have q4:¬ ((cH x.inst.op:Nat):Int)=11:=by simpa using q4
 exact hS (by omega)
structure sn (h:Hp) (p:Option Addr) (l:Nat) (x:bw):Prop where
 wb:jz h p l x.e
 name:x.name.size≤maxLen
 op:Sm x.inst.op
theorem sn.ah {h:Hp} {p:Option Addr} {l:Nat} {x:bw} (v:sn h p l x) (k:Ext h h'):sn h' p l x:=⟨v.wb.ah k,v.name,v.op⟩
def hZ (x y:bw):Bool:=decide (x.name=y.name) && decide (x.inst=y.inst) && decide (x.n=y.n) && j1 x.e y.e
theorem IJ:Tryz.prog.underlying 90=some (.struct (FK Tryz.prog 90)):=by kernel_rfl
theorem Jy (x y:Operand) (i j:Ins) (h:Hp) (K:Value→Hp→Prop) (hk:K (.bool !(decide (i=j))) h) :
  aE Tryz.prog (Sx.bJ (BinOp.neq) 90 x y (.agg (rm i).toArray) (.agg (rm j).toArray)) h K:=by
 refine AJ IJ (by kernel_rfl) (by kernel_rfl) (by kernel_rfl) K ?_;have he:(FK Tryz.prog 90).all (F9 (rm i).toArray (rm j).toArray)=(i.op==j.op && (i.a==j.a && (i.b==j.b && (i.n==j.n && (i.form==j.form && true))))):=by
  rw [← Array.all_toList]
  kernel_rfl
 rw [he,Bool.and_true]
 have:(i.op==j.op && (i.a==j.a && (i.b==j.b && (i.n==j.n && i.form==j.form))))=decide (i=j):=by
  rcases i with ⟨a1,a2,a3,a4,a5⟩
  rcases j with ⟨c1,c2,c3,c4,c5⟩
  simp only [cz,Ins.mk.injEq]
  by_cases h1:a1=c1 <;> by_cases h2:a2=c2 <;> by_cases h3:a3=c3 <;> by_cases h4:a4=c4 <;> by_cases h5:a5=c5 <;> simp [h1,h2,h3,h4,h5]
 rw [this];exact hk
def LS (g k:Nat):T :=
 T.ae ⟨g,1,none⟩ [.string] <| fun (s8:ByteArray) =>
 T.ae ⟨k,1,none⟩ [.string] <| fun (s9:ByteArray) =>
 cond (!((ByteArray.toList s8)==(ByteArray.toList s9)))
  (T.ret (.int .i64 (31:Int)))
  (T.ae ⟨g,2,none⟩ [.int .i64,.int .i64,.int .i64,.int .i32,.int .i64] <| fun (n10:Int) (n11:Int) (n12:Int) (n13:Int) (n14:Int) =>
  T.ae ⟨k,2,none⟩ [.int .i64,.int .i64,.int .i64,.int .i32,.int .i64] <| fun (n15:Int) (n16:Int) (n17:Int) (n18:Int) (n19:Int) =>
  T.aV Tryz.prog (Sx.bJ (BinOp.neq) 90 (Operand.tmp 109) (Operand.tmp 111) (.agg #[.int .i64 n10,.int .i64 n11,.int .i64 n12,.int .i32 n13,.int .i64 n14]) (.agg #[.int .i64 n15,.int .i64 n16,.int .i64 n17,.int .i32 n18,.int .i64 n19])) false [(false,[.bool])] <| fun (b20:Bool) =>
  cond b20
  (T.ret (.int .i64 (31:Int)))
  (T.ae ⟨g,9,none⟩ [.int .i64] <| fun (n21:Int) =>
  T.ae ⟨k,9,none⟩ [.int .i64] <| fun (n22:Int) =>
  cond (n21 != n22)
   (T.ret (.int .i64 (31:Int)))
   (T.ae ⟨g,7,none⟩ [.slice 109,.int .u32] <| fun (p23:Option Addr) (l24:Nat) (l25:Nat) (n26:Int) =>
   T.ae ⟨k,7,none⟩ [.slice 109,.int .u32] <| fun (p27:Option Addr) (l28:Nat) (l29:Nat) (n30:Int) =>
   T.call Tryz.prog 80 [.agg #[.slice p23 l24 l25,.int .u32 n26],.agg #[.slice p27 l28 l29,.int .u32 n30]] false [(false,[.bool])] <| fun (b31:Bool) =>
   cond (!b31)
   (T.ret (.int .i64 (31:Int)))
   (T.ret (.int .i64 (0:Int))))))
def Hy (b:Bool):Value:=.int .i64 (if b then 0 else 31)
theorem kH {L:Lp} {h0 h:Hp} {x y:bw} {p q:Option Addr} {l c m d g k:Nat} (b1:aN h g e1 (encI p l c x)) (b2:aN h k e2 (encI q m d y)) (v:jz h p l x.e) (w:pM h q m y.e.aw) (e:Ext h0 h) :
  LS g k L (fun w h'=>w=Hy (hZ x y)∧Ext h0 h') h:=by
 unfold LS hZ;refine ad b1 (x.name,()) rfl ?_;dsimp only [flat,aA,ai,nA,cA];refine ad b2 (y.name,()) rfl ?_;dsimp only [flat,aA,ai,nA,cA];rw [ByteArray.toList_eq,ByteArray.toList_eq];refine af (fun r=>?_) (fun r=>?_)
 ·have r:¬ x.name=y.name:=fun he=>by rw [he] at r; simp at r
  exact ⟨by rw [decide_eq_false r]; rfl,e⟩
 have r:x.name=y.name:=kB (by simpa using r);rw [decide_eq_true r,Bool.true_and];refine ad b1 (x.inst.op,x.inst.a,x.inst.b,x.inst.n,x.inst.form,()) rfl ?_;dsimp only [flat,aA,ai,nA,cA];refine ad b2 (y.inst.op,y.inst.a,y.inst.b,y.inst.n,y.inst.form,()) rfl ?_;dsimp only [flat,aA,ai,nA,cA];refine bD (fun K' hK=>Jy _ _ x.inst y.inst h K' hK) ?_;refine af (fun r=>?_) (fun r=>?_)
 ·have r:¬ x.inst=y.inst:=by simpa using r
  exact ⟨by rw [decide_eq_false r]; rfl,e⟩
 have r:x.inst=y.inst:=by simpa using r
 rw [decide_eq_true r,Bool.true_and];refine ad b1 (x.n,()) rfl ?_;dsimp only [flat,aA,ai,nA,cA];refine ad b2 (y.n,()) rfl ?_;dsimp only [flat,aA,ai,nA,cA];refine af (fun r=>?_) (fun r=>?_)
 ·have r:¬ x.n=y.n:=by simpa using r
  exact ⟨by rw [decide_eq_false r]; rfl,e⟩
 have r:x.n=y.n:=by simpa using r
 rw [decide_eq_true r,Bool.true_and];refine ad b1 ((p,l,c),(x.e.num:Int),()) rfl ?_;dsimp only [flat,aA,ai,nA,cA];refine ad b2 ((q,m,d),(y.e.num:Int),()) rfl ?_;dsimp only [flat,aA,ai,nA,cA];refine aC (xO (c:=c) (d:=d) v.vw w v.many) ?_;rintro _ g3 ⟨rfl,e3⟩;refine ⟨(j1 x.e y.e,()),rfl,?_⟩;dsimp only [flat,aA,ai,nA,cA];refine af (fun r=>?_) (fun r=>?_)
 ·have r:j1 x.e y.e=false:=by simpa using r
  exact ⟨by rw [r]; rfl,e.trans e3⟩
 ·have r:j1 x.e y.e=true:=by simpa using r
  exact ⟨by rw [r]; rfl,e.trans e3⟩
theorem ph (x:eJ):j1 x x=true:=Di x
theorem BZ {x:bw} (hk:x.kind=1):cS x sec=(bf x.name.data.toList && hZ x { cK x.kind with name:=x.name }):=by
 unfold cS hZ;simp only [hk,cK,ph,mL,z1,z2,z3,z4];simp (decide:=true) only [if_true,if_false,decide_true,Bool.true_and,Bool.and_true]
 try simp only [Bool.and_assoc,Bool.and_comm,Bool.and_left_comm]
theorem EB {x:bw} (hk:x.kind=2):cS x sec=(decide (sec=0) && yc x.inst x.e && hZ x { cK x.kind with inst:=x.inst,e:=x.e }):=by
 unfold cS hZ;simp only [hk,cK,ph,mL,z1,z2,z3,z4];simp (decide:=true) only [if_true,if_false,decide_true,Bool.true_and,Bool.and_true]
 try simp only [Bool.and_assoc,Bool.and_comm,Bool.and_left_comm]
theorem EP {x:bw} (hk:x.kind=3):cS x sec=(pF x.n && hZ x { cK x.kind with n:=x.n }):=by
 unfold cS hZ;simp only [hk,cK,ph,mL,z1,z2,z3,z4];simp (decide:=true) only [if_true,if_false,decide_true,Bool.true_and,Bool.and_true]
 try simp only [Bool.and_assoc,Bool.and_comm,Bool.and_left_comm]
theorem Gi {x:bw} (hk:x.kind=4):cS x sec=(decide (sec=0) && hZ x (cK x.kind)):=by
 unfold cS hZ;simp only [hk,cK,ph,mL,z1,z2,z3,z4];simp (decide:=true) only [if_true,if_false,decide_true,Bool.true_and,Bool.and_true]
 try simp only [Bool.and_assoc,Bool.and_comm,Bool.and_left_comm]
theorem Ej {x:bw} (hk:x.kind=5):cS x sec=(decide (sec=1) && decide (-128≤x.n) && decide (x.n≤255) && hZ x { cK x.kind with n:=x.n }):=by
 unfold cS hZ;simp only [hk,cK,ph,mL,z1,z2,z3,z4];simp (decide:=true) only [if_true,if_false,decide_true,Bool.true_and,Bool.and_true]
 try simp only [Bool.and_assoc,Bool.and_comm,Bool.and_left_comm]
theorem FB {x:bw} (hk:x.kind=6):cS x sec=(decide (sec=1) && su none x.e.aw && hZ x { cK x.kind with e:=x.e }):=by
 unfold cS hZ;simp only [hk,cK,ph,mL,z1,z2,z3,z4];simp (decide:=true) only [if_true,if_false,decide_true,Bool.true_and,Bool.and_true]
 try simp only [Bool.and_assoc,Bool.and_comm,Bool.and_left_comm]
theorem Fq {x:bw} (hk:x.kind=7):cS x sec=(decide (sec=1) && decide (0≤x.n) && decide (x.n≤1048576) && hZ x { cK x.kind with n:=x.n }):=by
 unfold cS hZ;simp only [hk,cK,ph,mL,z1,z2,z3,z4];simp (decide:=true) only [if_true,if_false,decide_true,Bool.true_and,Bool.and_true]
 try simp only [Bool.and_assoc,Bool.and_comm,Bool.and_left_comm]
theorem CJ {x:bw} (h1:x.kind≠1) (h2:x.kind≠2) (h3:x.kind≠3) (h4:x.kind≠4) (h5:x.kind≠5) (h6:x.kind≠6) (h7:x.kind≠7):cS x sec=false:=by
 unfold cS;rw [if_neg h1,if_neg h2,if_neg h3,if_neg h4,if_neg h5,if_neg h6,if_neg h7]
theorem E9 {h:Hp} (t:yJ h) {x:bw} {p:Option Addr} {l c:Nat} (v:sn h p l x) :
  HC Tryz.prog 44 #[pV p l c x,.int .i64 0] h fun w h'=>w=Hy (cS x 0)∧Ext h h':=by
 refine aI (args:=[pV p l c x,.int .i64 0]) mixed Tryz.func44 (by kernel_rfl) (pL x.kind x.name x.inst.op x.inst.a x.inst.b x.inst.n x.inst.form p l c x.e.num x.n) ?_;unfold la;refine aT ?_;intro g1 b1 e1 z1;have b1:aN g1 h.size 96 (encI p l c x):=b1;refine ad b1 (x.kind,()) rfl ?_;dsimp only [flat,aA,ai,nA,cA];refine aT ?_;intro g2 b2 e2 z2;refine ak b2 rfl (by simp) ?_;intro g3 b3 k3 z3;have b3:aN g3 g1.size 96 (encI none 0 0 (cK x.kind)):=b3;have s1:=e1.size;have e13:=e2.st k3 (Nat.le_refl _);have e3:=e1.trans e13;have b1:=b1.ah e13 (by simp);simp only [ao];refine ad b1 (x.kind,()) rfl ?_;dsimp only [flat,aA,ai,nA,cA];refine af (fun q=>?_) (fun q=>?_)
 ·have q:x.kind=1:=by simpa using q
  rw [BZ q];refine ad b1 (x.name,()) rfl ?_;dsimp only [flat,aA,ai,nA,cA];refine ak b3 rfl (by simp [encI]) ?_;intro g4 b4 k4 z4;have b4:aN g4 g1.size 96 (encI none 0 0 { cK x.kind with name:=x.name }):=b4;have e4:=e3.st k4 (by omega);have b1:=b1.ah k4 (by simp; omega);refine ad b1 (x.name,()) rfl ?_;dsimp only [flat,aA,ai,nA,cA];refine aD (j2 x.name g4 (by have:=v.name; have:maxLen=9223372036854775807:=rfl; omega)) ?_;refine af (fun r=>?_) (fun r=>?_)
  ·have r:bf x.name.data.toList=false:=by simpa using r
   exact ⟨by rw [r]; rfl,e4⟩
  have r:bf x.name.data.toList=true:=by simpa using r
  rw [r,Bool.true_and];have hh:=kH (L:=[]) (h0:=h) (y:={ cK x.kind with name:=x.name }) b1 b4 (v.wb.ah e4) (pM.none g4) e4;exact hh
 have q1:x.kind≠1:=by simpa using q
 refine af (fun q=>?_) (fun q=>?_)
 ·have q:x.kind=2:=by simpa using q
  rw [EB q];refine ad b1 (x.inst.op,x.inst.a,x.inst.b,x.inst.n,x.inst.form,()) rfl ?_;dsimp only [flat,aA,ai,nA,cA];refine ad b1 ((p,l,c),(x.e.num:Int),()) rfl ?_;dsimp only [flat,aA,ai,nA,cA];refine ak b3 rfl (by simp [encI]) ?_;intro g4 b4 k4 z4;have e4:=e3.st k4 (by omega);have b1:=b1.ah k4 (by simp; omega);refine ⟨⟨b1.cells [.slice p l c,.int .u32 x.e.num] rfl,trivial⟩,?_⟩;refine ak b4 rfl (by simp [encI,ir]) ?_;intro g5 b5 k5 z5;have b5:aN g5 g1.size 96 (encI p l c { cK x.kind with inst:=x.inst,e:=x.e }):=b5;have e5:=e4.st k5 (by omega);have b1:=b1.ah k5 (by simp; omega);refine ad b1 (x.kind,x.name,x.inst.op,x.inst.a,x.inst.b,x.inst.n,x.inst.form,(p,l,c),(x.e.num:Int),x.n,()) rfl ?_;dsimp only [flat,aA,ai,nA,cA];refine aC (instruction_hc (c:=c) (t.ah e5 (by simp)) (v.wb.ah e5) v.op) ?_;rintro _ g6 ⟨rfl,e6'⟩;refine ⟨(yc x.inst x.e,()),rfl,?_⟩;dsimp only [flat,aA,ai,nA,cA];have e6:=e5.trans e6';refine af (fun r=>?_) (fun r=>?_)
  ·have r:yc x.inst x.e=false:=by simpa using r
   exact ⟨by rw [r]; rfl,e6⟩
  have r:yc x.inst x.e=true:=by simpa using r
  rw [r];have b1:=b1.ah e6' (by simp);have b5:=b5.ah e6' (by simp);have hh:=kH (L:=[]) (h0:=h) (y:={ cK x.kind with inst:=x.inst,e:=x.e }) b1 b5 (v.wb.ah e6) (v.wb.ah e6).vw e6;exact hh
 have q2:x.kind≠2:=by simpa using q
 refine af (fun q=>?_) (fun q=>?_)
 ·have q:x.kind=3:=by simpa using q
  rw [EP q];refine ad b1 (x.n,()) rfl ?_;dsimp only [flat,aA,ai,nA,cA];refine ak b3 rfl (by simp [encI]) ?_;intro g4 b4 k4 z4;have b4:aN g4 g1.size 96 (encI none 0 0 { cK x.kind with n:=x.n }):=b4;have e4:=e3.st k4 (by omega);have b1:=b1.ah k4 (by simp; omega);refine ad b1 (x.n,()) rfl ?_;dsimp only [flat,aA,ai,nA,cA];refine aD (ub g4 x.n) ?_;refine af (fun r=>?_) (fun r=>?_)
  ·have r:pF x.n=false:=by simpa using r
   exact ⟨by rw [r]; rfl,e4⟩
  have r:pF x.n=true:=by simpa using r
  rw [r,Bool.true_and];have hh:=kH (L:=[]) (h0:=h) (y:={ cK x.kind with n:=x.n }) b1 b4 (v.wb.ah e4) (pM.none g4) e4;exact hh
 have q3:x.kind≠3:=by simpa using q
 refine af (fun q=>?_) (fun q=>?_)
 ·have q:x.kind=4:=by simpa using q
  rw [Gi q];have hh:=kH (L:=[]) (h0:=h) (y:=(cK x.kind)) b1 b3 (v.wb.ah e3) (pM.none g3) e3;exact hh
 have q4:x.kind≠4:=by simpa using q
 refine af (fun q=>?_) (fun q=>?_)
 ·have q:x.kind=5:=by simpa using q
  rw [Ej q];refine ad b1 (x.n,()) rfl ?_;dsimp only [flat,aA,ai,nA,cA];refine ak b3 rfl (by simp [encI]) ?_;intro g4 b4 k4 z4;have b4:aN g4 g1.size 96 (encI none 0 0 { cK x.kind with n:=x.n }):=b4;have e4:=e3.st k4 (by omega);have b1:=b1.ah k4 (by simp; omega);exact ⟨rfl,e4⟩
 have q5:x.kind≠5:=by simpa using q
 refine af (fun q=>?_) (fun q=>?_)
 ·have q:x.kind=6:=by simpa using q
  rw [FB q];refine ad b1 ((p,l,c),(x.e.num:Int),()) rfl ?_;dsimp only [flat,aA,ai,nA,cA];refine ak b3 rfl (by simp [encI]) ?_;intro g4 b4 k4 z4;have b4:aN g4 g1.size 96 (encI p l c { cK x.kind with e:=x.e }):=b4;have e4:=e3.st k4 (by omega);have b1:=b1.ah k4 (by simp; omega);exact ⟨rfl,e4⟩
 have q6:x.kind≠6:=by simpa using q
 refine af (fun q=>?_) (fun q=>?_)
 ·have q:x.kind=7:=by simpa using q
  rw [Fq q];refine ad b1 (x.n,()) rfl ?_;dsimp only [flat,aA,ai,nA,cA];refine ak b3 rfl (by simp [encI]) ?_;intro g4 b4 k4 z4;have b4:aN g4 g1.size 96 (encI none 0 0 { cK x.kind with n:=x.n }):=b4;have e4:=e3.st k4 (by omega);have b1:=b1.ah k4 (by simp; omega);exact ⟨rfl,e4⟩
 have q7:x.kind≠7:=by simpa using q
 exact ⟨by rw [CJ q1 q2 q3 q4 q5 q6 q7]; rfl,e3⟩
theorem Gx {h:Hp} (t:yJ h) {x:bw} {p:Option Addr} {l c:Nat} (v:sn h p l x) :
  HC Tryz.prog 44 #[pV p l c x,.int .i64 1] h fun w h'=>w=Hy (cS x 1)∧Ext h h':=by
 refine aI (args:=[pV p l c x,.int .i64 1]) mixed Tryz.func44 (by kernel_rfl) (pC x.kind x.name x.inst.op x.inst.a x.inst.b x.inst.n x.inst.form p l c x.e.num x.n) ?_;unfold lB;refine aT ?_;intro g1 b1 e1 z1;have b1:aN g1 h.size 96 (encI p l c x):=b1;refine ad b1 (x.kind,()) rfl ?_;dsimp only [flat,aA,ai,nA,cA];refine aT ?_;intro g2 b2 e2 z2;refine ak b2 rfl (by simp) ?_;intro g3 b3 k3 z3;have b3:aN g3 g1.size 96 (encI none 0 0 (cK x.kind)):=b3;have s1:=e1.size;have e13:=e2.st k3 (Nat.le_refl _);have e3:=e1.trans e13;have b1:=b1.ah e13 (by simp);simp only [ao];refine ad b1 (x.kind,()) rfl ?_;dsimp only [flat,aA,ai,nA,cA];refine af (fun q=>?_) (fun q=>?_)
 ·have q:x.kind=1:=by simpa using q
  rw [BZ q];refine ad b1 (x.name,()) rfl ?_;dsimp only [flat,aA,ai,nA,cA];refine ak b3 rfl (by simp [encI]) ?_;intro g4 b4 k4 z4;have b4:aN g4 g1.size 96 (encI none 0 0 { cK x.kind with name:=x.name }):=b4;have e4:=e3.st k4 (by omega);have b1:=b1.ah k4 (by simp; omega);refine ad b1 (x.name,()) rfl ?_;dsimp only [flat,aA,ai,nA,cA];refine aD (j2 x.name g4 (by have:=v.name; have:maxLen=9223372036854775807:=rfl; omega)) ?_;refine af (fun r=>?_) (fun r=>?_)
  ·have r:bf x.name.data.toList=false:=by simpa using r
   exact ⟨by rw [r]; rfl,e4⟩
  have r:bf x.name.data.toList=true:=by simpa using r
  rw [r,Bool.true_and];have hh:=kH (L:=[]) (h0:=h) (y:={ cK x.kind with name:=x.name }) b1 b4 (v.wb.ah e4) (pM.none g4) e4;exact hh
 have q1:x.kind≠1:=by simpa using q
 refine af (fun q=>?_) (fun q=>?_)
 ·have q:x.kind=2:=by simpa using q
  rw [EB q];refine ad b1 (x.inst.op,x.inst.a,x.inst.b,x.inst.n,x.inst.form,()) rfl ?_;dsimp only [flat,aA,ai,nA,cA];refine ad b1 ((p,l,c),(x.e.num:Int),()) rfl ?_;dsimp only [flat,aA,ai,nA,cA];refine ak b3 rfl (by simp [encI]) ?_;intro g4 b4 k4 z4;have e4:=e3.st k4 (by omega);have b1:=b1.ah k4 (by simp; omega);refine ⟨⟨b1.cells [.slice p l c,.int .u32 x.e.num] rfl,trivial⟩,?_⟩;refine ak b4 rfl (by simp [encI,ir]) ?_;intro g5 b5 k5 z5;have b5:aN g5 g1.size 96 (encI p l c { cK x.kind with inst:=x.inst,e:=x.e }):=b5;have e5:=e4.st k5 (by omega);have b1:=b1.ah k5 (by simp; omega);exact ⟨rfl,e5⟩
 have q2:x.kind≠2:=by simpa using q
 refine af (fun q=>?_) (fun q=>?_)
 ·have q:x.kind=3:=by simpa using q
  rw [EP q];refine ad b1 (x.n,()) rfl ?_;dsimp only [flat,aA,ai,nA,cA];refine ak b3 rfl (by simp [encI]) ?_;intro g4 b4 k4 z4;have b4:aN g4 g1.size 96 (encI none 0 0 { cK x.kind with n:=x.n }):=b4;have e4:=e3.st k4 (by omega);have b1:=b1.ah k4 (by simp; omega);refine ad b1 (x.n,()) rfl ?_;dsimp only [flat,aA,ai,nA,cA];refine aD (ub g4 x.n) ?_;refine af (fun r=>?_) (fun r=>?_)
  ·have r:pF x.n=false:=by simpa using r
   exact ⟨by rw [r]; rfl,e4⟩
  have r:pF x.n=true:=by simpa using r
  rw [r,Bool.true_and];have hh:=kH (L:=[]) (h0:=h) (y:={ cK x.kind with n:=x.n }) b1 b4 (v.wb.ah e4) (pM.none g4) e4;exact hh
 have q3:x.kind≠3:=by simpa using q
 refine af (fun q=>?_) (fun q=>?_)
 ·have q:x.kind=4:=by simpa using q
  rw [Gi q];exact ⟨rfl,e3⟩
 have q4:x.kind≠4:=by simpa using q
 refine af (fun q=>?_) (fun q=>?_)
 ·have q:x.kind=5:=by simpa using q
  rw [Ej q];refine ad b1 (x.n,()) rfl ?_;dsimp only [flat,aA,ai,nA,cA];refine ak b3 rfl (by simp [encI]) ?_;intro g4 b4 k4 z4;have b4:aN g4 g1.size 96 (encI none 0 0 { cK x.kind with n:=x.n }):=b4;have e4:=e3.st k4 (by omega);have b1:=b1.ah k4 (by simp; omega);refine ad b1 (x.n,()) rfl ?_;dsimp only [flat,aA,ai,nA,cA];refine af (fun r=>?_) (fun r=>?_)
  ·have r:=of_decide_eq_true r;refine ad b1 (x.n,()) rfl ?_;dsimp only [flat,aA,ai,nA,cA];refine af (fun r2=>?_) (fun r2=>?_)
   ·have r2:¬ x.n≤255:=by simpa using r2
    exact ⟨by rw [decide_eq_false r2,Bool.and_false]; rfl,e4⟩
   have r2:x.n≤255:=by simpa using r2
   rw [decide_eq_true r2,decide_eq_true (show -128≤x.n from r)];have hh:=kH (L:=[]) (h0:=h) (y:={ cK x.kind with n:=x.n }) b1 b4 (v.wb.ah e4) (pM.none g4) e4;exact hh
  ·have r:=of_decide_eq_false r;exact ⟨by rw [decide_eq_false (show ¬ -128≤x.n from r),Bool.and_false]; rfl,e4⟩
 have q5:x.kind≠5:=by simpa using q
 refine af (fun q=>?_) (fun q=>?_)
 ·have q:x.kind=6:=by simpa using q
  rw [FB q];refine ad b1 ((p,l,c),(x.e.num:Int),()) rfl ?_;dsimp only [flat,aA,ai,nA,cA];refine ak b3 rfl (by simp [encI]) ?_;intro g4 b4 k4 z4;have b4:aN g4 g1.size 96 (encI p l c { cK x.kind with e:=x.e }):=b4;have e4:=e3.st k4 (by omega);have b1:=b1.ah k4 (by simp; omega);refine ad b1 ((p,l,c),(x.e.num:Int),()) rfl ?_;dsimp only [flat,aA,ai,nA,cA];refine aC (pH (c:=c) (v.wb.ah e4).vw (by have:=v.wb.many; omega) v.wb.names) ?_;rintro _ g6 ⟨rfl,e6'⟩;refine ⟨(su none x.e.aw,()),rfl,?_⟩;dsimp only [flat,aA,ai,nA,cA];have e6:=e4.trans e6';refine af (fun r=>?_) (fun r=>?_)
  ·have r:su none x.e.aw=false:=by simpa using r
   exact ⟨by rw [r]; rfl,e6⟩
  have r:su none x.e.aw=true:=by simpa using r
  rw [r];have b1:=b1.ah e6' (by simp);have b4:=b4.ah e6' (by simp);have hh:=kH (L:=[]) (h0:=h) (y:={ cK x.kind with e:=x.e }) b1 b4 (v.wb.ah e6) (v.wb.ah e6).vw e6;exact hh
 have q6:x.kind≠6:=by simpa using q
 refine af (fun q=>?_) (fun q=>?_)
 ·have q:x.kind=7:=by simpa using q
  rw [Fq q];refine ad b1 (x.n,()) rfl ?_;dsimp only [flat,aA,ai,nA,cA];refine ak b3 rfl (by simp [encI]) ?_;intro g4 b4 k4 z4;have b4:aN g4 g1.size 96 (encI none 0 0 { cK x.kind with n:=x.n }):=b4;have e4:=e3.st k4 (by omega);have b1:=b1.ah k4 (by simp; omega);refine ad b1 (x.n,()) rfl ?_;dsimp only [flat,aA,ai,nA,cA];refine af (fun r=>?_) (fun r=>?_)
  ·have r:=of_decide_eq_true r;refine ad b1 (x.n,()) rfl ?_;dsimp only [flat,aA,ai,nA,cA];refine af (fun r2=>?_) (fun r2=>?_)
   ·have r2:¬ x.n≤1048576:=by simpa using r2
    exact ⟨by rw [decide_eq_false r2,Bool.and_false]; rfl,e4⟩
   have r2:x.n≤1048576:=by simpa using r2
   rw [decide_eq_true r2,decide_eq_true (show 0≤x.n from r)];have hh:=kH (L:=[]) (h0:=h) (y:={ cK x.kind with n:=x.n }) b1 b4 (v.wb.ah e4) (pM.none g4) e4;exact hh
  ·have r:=of_decide_eq_false r;exact ⟨by rw [decide_eq_false (show ¬ 0≤x.n from r),Bool.and_false]; rfl,e4⟩
 have q7:x.kind≠7:=by simpa using q
 exact ⟨by rw [CJ q1 q2 q3 q4 q5 q6 q7]; rfl,e3⟩
section
variable {α:Type}
def vE (en:α→Value) (D:List (ByteArray × α)):List (ByteArray × Value):=D.map fun p=>(p.1,en p.2)
def gE (D:List (ByteArray × α)) (s:ByteArray):Option α:=(D.find? fun p=>decide (s=p.1)).map (·.2)
def pE (D:List (ByteArray × α)) (s:ByteArray) (v:α):List (ByteArray × α):=if (gE D s).isSome then D.map fun p=>if s=p.1 then (p.1,v) else p else D++[(s,v)]
theorem CE (en:α→Value) (D:List (ByteArray × α)) (s:ByteArray):look (vE en D) s=(gE D s).map en:=by
 unfold look gE vE
 induction D with
 | nil=>rfl
 | cons p D ih =>
  by_cases h:s=p.1
  ·simp [h]
  ·simp only [List.map_cons,List.find?_cons,decide_eq_false h];exact ih
theorem I2 (en:α→Value) (D:List (ByteArray × α)) (s:ByteArray) (v:α):Ef (vE en D) s (en v)=vE en (pE D s v):=by
 unfold Ef pE;rw [CE];cases h:gE D s with
 | none=>simp [vE]
 | some q =>
  simp only [Option.map_some,Option.isSome_some,if_true,vE,List.map_map];refine List.map_congr_left fun p hp=>?_
  simp only [Function.comp];split <;> simp_all
theorem DH (D:List (ByteArray × α)) (s:ByteArray) (v:α):(pE D s v).length=if (gE D s).isSome then D.length else D.length+1:=by
 unfold pE;split <;> simp
theorem C' (D:List (ByteArray × α)) (s t:ByteArray) (v:α):gE (D++[(s,v)]) t=(gE D t).or (if t=s then some v else none):=by
 unfold gE;rw [List.find?_append];cases h:D.find? (fun p=>decide (t=p.1)) with
 | some q=>simp
 | none =>
  simp only [Option.none_or,Option.map_none,List.find?_cons,List.find?_nil]
  by_cases e:t=s
  ·simp [e]
  ·simp [e]
theorem Ji (D:List (ByteArray × α)) (s t:ByteArray) (v:α) (hs:(gE D s).isSome):gE (D.map fun p=>if s=p.1 then (p.1,v) else p) t=if t=s then some v else gE D t:=by
 unfold gE at *
 induction D with
 | nil=>simp at hs
 | cons p D ih =>
  by_cases h:s=p.1
  ·by_cases e:t=s
   ·simp [h,e]
   ·have e2:¬ t=p.1:=fun k=>e (k.trans h.symm)
    have hg:∀ l:List (ByteArray × α),(List.find? (fun p=>decide (t=p.1)) (List.map (fun p=>if s=p.1 then (p.1,v) else p) l)).map (·.2)=(List.find? (fun p=>decide (t=p.1)) l).map (·.2):=by
     intro l
     induction l with
     | nil=>rfl
     | cons q l ihl =>
      by_cases hq:s=q.1
      ·have:¬ t=q.1:=fun k=>e (k.trans hq.symm)
       simp only [List.map_cons,List.find?_cons,if_pos hq,decide_eq_false this];exact ihl
      ·simp only [List.map_cons,List.find?_cons,if_neg hq]
       by_cases ht:t=q.1
       ·simp [ht]
       ·simp only [decide_eq_false ht];exact ihl
    simp only [List.map_cons,List.find?_cons,if_pos h,decide_eq_false e2,if_neg e];exact hg D
  ·have hs2:(Option.map (fun x=>x.2) (List.find? (fun p=>decide (s=p.1)) D)).isSome:=by
    simpa [List.find?_cons,decide_eq_false h] using hs
   simp only [List.map_cons,List.find?_cons,if_neg h]
   by_cases ht:t=p.1
   ·have:¬ t=s:=fun k=>h (k.symm.trans ht)
    simp [ht,if_neg (ht▸this)]
   ·simp only [decide_eq_false ht];exact ih hs2
theorem JQ (D:List (ByteArray × α)) (s:ByteArray) (v:α) (t:ByteArray):gE (pE D s v) t=if t=s then some v else gE D t:=by
 unfold pE;split
 ·rename_i h;exact Ji D s t v h
 ·rename_i h;rw [C']
  by_cases e:t=s
  ·subst e
   have:gE D t=none:=by simpa using h
   rw [this]; simp
  ·simp [e]
def Jq (f:ByteArray→Option α) (s:ByteArray) (v:α):ByteArray→Option α:=fun t=>if t=s then some v else f t
def rA (en:α→Value) (h:Hp) (g:Nat) (f:ByteArray→Option α) (n:Nat):Prop:=∃ D:List (ByteArray × α),eI h g (vE en D)∧(∀ s,gE D s=f s)∧D.length=n
theorem rA.ah {en:α→Value} {ws:List Nat} {h h':Hp} {g:Nat} {f:ByteArray→Option α} {n:Nat} (m:rA en h g f n) (k:Ch ws h h') (hw:g∉ws):rA en h' g f n:=by
 obtain ⟨D,m,r⟩:=m;exact ⟨D,m.ah k hw,r⟩
theorem rA.lt {en:α→Value} {h:Hp} {g:Nat} {f:ByteArray→Option α} {n:Nat} (m:rA en h g f n):g<h.size:=by
 obtain ⟨D,m,r⟩:=m;exact m.lt
theorem rA.new {en:α→Value} {h:Hp} {g:Nat} (m:eI h g []):rA en h g (fun _=>none) 0:=⟨[],m,fun s=>rfl,rfl⟩
theorem rA.Ef {en:α→Value} {h':Hp} {g:Nat} {f:ByteArray→Option α} {n:Nat} {D:List (ByteArray × α)} (hD:∀ s,gE D s=f s) (hn:D.length=n) {s:ByteArray} {v:α} (m:eI h' g (Sx.Ef (vE en D) s (en v))):rA en h' g (Jq f s v) (if (f s).isSome then n else n+1):=by
 rw [I2] at m;refine ⟨_,m,fun t=>?_,?_⟩
 ·rw [JQ,hD t]; rfl
 ·rw [DH,hD s,hn]
end
def eB (b:Bool):Value:=.bool b
theorem IN:Tryz.prog.underlying 70=some (.map 9 4):=by kernel_rfl
theorem Dg:Tryz.prog.underlying 9=some .string:=by kernel_rfl
theorem KQ:(Tryz.prog.info? 4).bind (·.zero)=some (.bool false):=by kernel_rfl
def oc (h:Hp) (g:Nat) (D:List ByteArray):Prop:=∃ n,rA eB h g (fun s=>if fm D s then some true else none) n
theorem oc.ah {ws:List Nat} {h h':Hp} {g:Nat} {D:List ByteArray} (m:oc h g D) (k:Ch ws h h') (hw:g∉ws):oc h' g D:=by
 obtain ⟨n,m⟩:=m;exact ⟨n,m.ah k hw⟩
theorem oc.lt {h:Hp} {g:Nat} {D:List ByteArray} (m:oc h g D):g<h.size:=by
 obtain ⟨n,m⟩:=m;exact m.lt
section
variable {L:Lp} {K:Value→Hp→Prop} {h:Hp} {g:Nat} {D:List ByteArray}
theorem ve (m:oc h g D) (s:ByteArray) {k:Bool→T} (hk:k (fm D s) L K h):T.aV Tryz.prog (Instr.lookup 70 (.map (some g)) (.string s) false) false [(false,[.bool])] k L K h:=by
 obtain ⟨n,D',m,hD,hn⟩:=m;refine xm IN Dg KQ m s false _ ?_;refine ⟨(fm D s,()),?_,hk⟩;simp only [Bool.false_eq_true,if_false];rw [CE,hD s];dsimp only
 all_goals (cases fm D s <;> rfl)
theorem Ez (m:oc h g D) {s:ByteArray} (hs:s.size≤maxLen) {k:T} (hk:∀ h',oc h' g (s::D)→Ch [g] h h'→h'.size=h.size→k L K h') :
  T.lI Tryz.prog (Instr.mapUpdate 70 (.map (some g)) (.string s) (.bool true)) k L K h:=by
 obtain ⟨n,D',m,hD,hn⟩:=m;refine qW IN Dg m hs _ _ ?_;intro h' m' c' z'
 have:=rA.Ef (en:=eB) hD hn (v:=true) m'
 have he:Jq (fun t=>if fm D t then some true else none) s true=fun t=>if fm (s::D) t then some true else none:=by
  funext t
  unfold Jq fm
  by_cases h1:t=s
  ·rw [if_pos h1,if_pos];simp [h1]
  ·rw [if_neg h1]
   have:¬ s=t:=fun e=>h1 e.symm
   rw [List.any_cons,decide_eq_false this,Bool.false_or]
 rw [he] at this;exact hk h' ⟨_,this⟩ c' z'
theorem Ix {t:TypeId} {k:Option Nat→T} (hk:∀ h',oc h' h.size []→Ext h h'→h'.size=h.size+1→k (some h.size) L K h'):T.aV Tryz.prog (Instr.makeMap t none) false [(false,[.map 0 0])] k L K h:=by
 refine px _ ?_;intro h' m e z;exact ⟨(some h.size,()),rfl,hk h' ⟨0,rA.new m⟩ e z⟩
end
/-! Lists in memory. -/
structure A8 (h:Hp) (p:Option Addr) (l:Nat) (us:List bw):Prop where
 len:l=us.length
 many:us.length≤2^60
 cells:∀ i,(hi:i<us.length)→∃ a q m c,p=some a∧aG h (a.add (i*10)) 0 (encI q m c us[i])∧sn h q m us[i]
theorem A8.ah {h h':Hp} {p:Option Addr} {l:Nat} {us:List bw} (v:A8 h p l us) (k:Ext h h'):A8 h' p l us :=
 ⟨v.len,v.many,fun i hi=>by
  obtain ⟨a,q,m,c,ha,hc,hv⟩:=v.cells i hi;exact ⟨a,q,m,c,ha,bk k (by simp) _ _ hc,hv.ah k⟩⟩
def Fl (p:Option Addr) (l c:Nat) (x:nh):List Value:=[.string x.1,.slice p l c,.int .u32 x.2.num]
structure Jf (h:Hp) (p:Option Addr) (l:Nat) (us:List nh):Prop where
 len:l=us.length
 many:us.length≤2^60
 cells:∀ i,(hi:i<us.length)→∃ a q m c,p=some a∧aG h (a.add (i*3)) 0 (Fl q m c us[i])∧jz h q m us[i].2∧us[i].1.size≤maxLen
theorem Jf.ah {h h':Hp} {p:Option Addr} {l:Nat} {us:List nh} (v:Jf h p l us) (k:Ext h h'):Jf h' p l us :=
 ⟨v.len,v.many,fun i hi=>by
  obtain ⟨a,q,m,c,ha,hc,hv,hs⟩:=v.cells i hi;exact ⟨a,q,m,c,ha,bk k (by simp) _ _ hc,hv.ah k,hs⟩⟩
structure G8 (h:Hp) (p:Option Addr) (l:Nat) (us:List ByteArray):Prop where
 len:l=us.length
 many:us.length≤2^60
 cells:∀ i,(hi:i<us.length)→∃ a,p=some a∧aG h (a.add (i*1)) 0 [.string us[i]]∧us[i].size≤maxLen
theorem G8.ah {h h':Hp} {p:Option Addr} {l:Nat} {us:List ByteArray} (v:G8 h p l us) (k:Ext h h'):G8 h' p l us :=
 ⟨v.len,v.many,fun i hi=>by
  obtain ⟨a,ha,hc,hs⟩:=v.cells i hi;exact ⟨a,ha,bk k (by simp) _ _ hc,hs⟩⟩
structure bI where
 p:Option Addr
 l:Nat
 c:Nat
def bI.v (s:bI):Value:=.slice s.p s.l s.c
structure iO (h:Hp) (a b c d:bI) (u:jv):Prop where
 text:A8 h a.p a.l u.text
 data:A8 h b.p b.l u.data
 aZ:Jf h c.p c.l u.aZ
 aF:G8 h d.p d.l u.aF
theorem iO.ah {h h':Hp} {a b c d:bI} {u:jv} (v:iO h a b c d u) (k:Ext h h'):iO h' a b c d u:=⟨v.text.ah k,v.data.ah k,v.aZ.ah k,v.aF.ah k⟩
def ti (a b c d:bI):Value:=.agg #[a.v,b.v,c.v,d.v]
theorem JN:Tryz.prog.underlying 100=some (.slice 23):=by kernel_rfl
theorem KY:(Tryz.prog.info? 23).map (fun i=>(i.zero,i.size,i.bytes))=some (some (.slice none 0 0),1,24):=by kernel_rfl
theorem KI (p1:Option Addr) (l1 c1:Nat) (p2:Option Addr) (l2 c2:Nat):Instr.fill (fun j=>some (j*1,1)) ((Array.range (2*1)).map ((Value.slice none 0 0).cells[· % (Value.slice none 0 0).cells.size]!)) [(0,.slice p1 l1 c1),(1,.slice p2 l2 c2)]=some ([.slice p1 l1 c1,.slice p2 l2 c2]:List Value).toArray:=by kernel_rfl
/-! The sections,one behind the other. -/
def Dc (u:jv) (k:Nat):List bw:=if k=0 then u.text else u.data
def oZ (u:jv) (k:Nat):List ByteArray:=if k=0 then [] else if k=1 then bT [] u.text else bT (bT [] u.text) u.data
def vC (u:jv) (k:Nat):Bool:=if k=0 then Cb u else if k=1 then (fz 1 (bT [] u.text) u.data && (ja (bT (bT [] u.text) u.data) u.aZ && fb u.names bK u.aF)) else (ja (bT (bT [] u.text) u.data) u.aZ && fb u.names bK u.aF)
theorem CY (u:jv) {k:Nat} (hk:k<2):vC u k=(fz k (oZ u k) (Dc u k) && vC u (k+1)):=by
 have:k=0∨k=1:=by omega
 rcases this with rfl | rfl
 ·simp [vC,oZ,Dc,Cb,Bool.and_assoc]
 ·simp [vC,oZ,Dc]
theorem Ea (u:jv) {k:Nat} (hk:k<2):oZ u (k+1)=bT (oZ u k) (Dc u k):=by
 have:k=0∨k=1:=by omega
 rcases this with rfl | rfl <;> rfl
theorem zn (D:List ByteArray) (l:List bw) {i:Nat} (hi:i<l.length):bT D (l.take (i+1))=yR (bT D (l.take i)) l[i]:=by
 unfold bT;rw [List.take_succ_eq_append_getElem hi,List.foldl_append] <;> rfl
theorem AS (D:List ByteArray) (l:List nh) {i:Nat} (hi:i<l.length):iX D (l.take (i+1))=l[i].1::iX D (l.take i):=by
 unfold iX;rw [List.take_succ_eq_append_getElem hi,List.foldl_append] <;> rfl
theorem x9 (sec:Nat) (D:List ByteArray) (l:List bw) {i:Nat} (hi:i<l.length):fz sec D (l.drop i)=(AN sec D l[i] && fz sec (yR D l[i]) (l.drop (i+1))):=by
 rw [List.drop_eq_getElem_cons hi,fz]
theorem yU (D:List ByteArray) (l:List nh) {i:Nat} (hi:i<l.length):ja D (l.drop i)=(Gs D l[i] && ja (l[i].1::D) (l.drop (i+1))):=by
 rw [List.drop_eq_getElem_cons hi,ja]
def qb (l:List ByteArray) (i:Nat):ByteArray:=if i=0 then bK else l.getD (i-1) bK
theorem xY (D:List ByteArray) (l:List ByteArray) {i:Nat} (hi:i<l.length):fb D (qb l i) (l.drop i)=(Lq D (qb l i) l[i] && fb D (qb l (i+1)) (l.drop (i+1))):=by
 rw [List.drop_eq_getElem_cons hi,fb]
 congr 2
 unfold qb;rw [if_neg (by omega),Nat.add_sub_cancel,List.getD_eq_getElem?_getD,List.getElem?_eq_getElem hi] <;> rfl
def Aw (h:Hp) (g:Nat) (D:List ByteArray):Prop:=oc h g D∧∀ s,s∈D→bf s.data.toList=true
theorem Aw.ah {ws:List Nat} {h h':Hp} {g:Nat} {D:List ByteArray} (m:Aw h g D) (k:Ch ws h h') (hw:g∉ws):Aw h' g D:=⟨m.1.ah k hw,m.2⟩
theorem Fc {s:ByteArray} (h:bf s.data.toList=true):jU bK s:=by
 unfold bf at h;simp only [Bool.and_eq_true,decide_eq_true_eq] at h;have h2:=h.1.1.1.1;show (bK.data.toList:List UInt8)<s.data.toList
 have:(bK.data.toList:List UInt8)=[]:=rfl
 rw [this];cases hs:s.data.toList with
 | nil=>rw [hs] at h2; simp at h2
 | cons a l=>exact List.Lex.nil
theorem Hv {D:List ByteArray} {s:ByteArray} (h:fm D s=true):s∈D:=by
 unfold fm at h;simp only [List.any_eq_true,decide_eq_true_eq] at h;obtain ⟨y,hy,rfl⟩:=h;exact hy
theorem Ha {h:Hp} (t:yJ h) {x:bw} {p:Option Addr} {l c k:Nat} (v:sn h p l x) (hk:k<2) :
  HC Tryz.prog 44 #[pV p l c x,.int .i64 (k:Int)] h fun w h'=>w=Hy (cS x k)∧Ext h h':=by
 have:k=0∨k=1:=by omega
 rcases this with rfl | rfl
 ·exact E9 t v
 ·exact Gx t v
theorem pW {h:Hp} (t:yJ h) {a b c d:bI} {u:jv} (v:iO h a b c d u):HC Tryz.prog 18 #[ti a b c d] h fun w h'=>w=.int .i64 (AM u:Nat)∧Ext h h':=by
 refine aI (args:=[ti a b c d]) mixed Tryz.func18 (by kernel_rfl) (sW a.p a.l a.c b.p b.l b.c c.p c.l c.c d.p d.l d.c) ?_;unfold qk;refine aT ?_;intro g1 b1 e1 z1;have b1:aN g1 h.size 27 [a.v,b.v,c.v,d.v]:=b1;have m1:=v.text.many;have m2:=v.data.many;have m3:=v.aZ.many;have m4:=v.aF.many;have n1:=v.text.len;have n2:=v.data.len;have n3:=v.aZ.len;have n4:=v.aF.len;have s1:=e1.size;simp only [ao];refine ad b1 ((a.p,a.l,a.c),()) rfl ?_;dsimp only [flat,aA,ai,nA,cA];refine ad b1 ((b.p,b.l,b.c),()) rfl ?_;dsimp only [flat,aA,ai,nA,cA];rw [wrap_i64 (by omega) (by omega)];unfold AM Cs;refine af (fun q=>?_) (fun q=>?_)
 ·have q:=of_decide_eq_true q;exact ⟨by rw [decide_eq_true (show 8192<u.text.length+u.data.length by omega)]; rfl,e1⟩
 have q:=of_decide_eq_false q;rw [decide_eq_false (show ¬ 8192<u.text.length+u.data.length by omega),Bool.false_or];refine ad b1 ((c.p,c.l,c.c),()) rfl ?_;dsimp only [flat,aA,ai,nA,cA];refine af (fun q=>?_) (fun q=>?_)
 ·have q:=of_decide_eq_true q;exact ⟨by rw [decide_eq_true (show 8192<u.aZ.length by omega)]; rfl,e1⟩
 have q:=of_decide_eq_false q;rw [decide_eq_false (show ¬ 8192<u.aZ.length by omega),if_neg (by simp)];refine Ix ?_;intro g2 m e2 z2;have b2:=b1.ah e2 (by simp);refine ad b2 ((a.p,a.l,a.c),()) rfl ?_;dsimp only [flat,aA,ai,nA,cA];refine ad b2 ((b.p,b.l,b.c),()) rfl ?_;dsimp only [flat,aA,ai,nA,cA];refine ek JN KY (by omega) (by omega) (KI a.p a.l a.c b.p b.l b.c) ?_;intro g3 b3 e3 z3;have m:=m.ah e3 (by have:=m.lt; simp);have e03:=(e1.trans e2).trans e3;have b3':=b2.ah e3 (by simp);have s2:=e2.size;clear b1 b2;have hsec:∀ k,k<2→∃ s:bI,([a.v,b.v]:List Value).drop k=s.v::([a.v,b.v]:List Value).drop (k+1)∧A8 h s.p s.l (Dc u k):=by
  intro k hk
  have:k=0∨k=1:=by omega
  rcases this with rfl | rfl
  ·exact ⟨a,rfl,v.text⟩
  ·exact ⟨b,rfl,v.data⟩
 have s3:=e3.size;have b3:aN g3 g2.size 23 [a.v,b.v]:=b3;generalize hU:Cb u=U;refine bC (cs:=[(false,[.int .i64]),(false,[.int .i64])]) (fun y w h'=>∃ k:Nat,y.2.1=(k:Int)∧k≤2∧w=2-k∧Ext h h'∧aN h' h.size 27 [a.v,b.v,c.v,d.v]∧aN h' g2.size 23 [a.v,b.v]∧Aw h' g1.size (oZ u k)∧U=vC u k) ((0:Int),(0:Int),()) 2 rfl
  ⟨0,rfl,by omega,by omega,e03,b3',b3,⟨m,by simp [oZ]⟩,hU.symm⟩ ?_
 rintro ⟨n21,n22,⟨⟩⟩ w h4 ⟨k,hk,hk2,rfl,e4,b1,b2,m,hu⟩;simp only at hk;subst hk;dsimp only [flat,aA,ai,nA,cA];refine af (fun q=>?_) (fun q=>?_)
 ·have q:=of_decide_eq_true q;have hk:k<2:=by omega
  obtain ⟨sl,hsl,vs⟩:=hsec k hk;refine aB ⟨by omega,by omega⟩ (an rfl ?_);rw [ao];refine ad b2 ((sl.p,sl.l,sl.c),()) (by rw [show 0+(k:Int).toNat*1=k by omega,hsl]; rfl) ?_;dsimp only [flat,aA,ai,nA,cA];have lk:=vs.len;have mk:=vs.many;generalize hl:Dc u k=l at vs lk mk;have hu2:U=(fz k (bT (oZ u k) (l.take 0)) (l.drop 0) && vC u (k+1)):=by
   rw [hu,CY u hk,hl] <;> rfl
  refine bC (cs:=[(false,[.int .i64]),(false,[.int .i64])]) (fun y w h'=>∃ i:Nat,y.2.1=(i:Int)∧i≤l.length∧w=l.length-i∧Ext h h'∧aN h' h.size 27 [a.v,b.v,c.v,d.v]∧aN h' g2.size 23 [a.v,b.v]∧Aw h' g1.size (bT (oZ u k) (l.take i))∧U=(fz k (bT (oZ u k) (l.take i)) (l.drop i) && vC u (k+1))) (n21,(0:Int),()) l.length rfl
   ⟨0,rfl,by omega,by omega,e4,b1,b2,m,hu2⟩ ?_
  clear hu hu2 m b1 b2 e4;rintro ⟨n27,n28,⟨⟩⟩ w h5 ⟨i,hi,hile,rfl,e5,b1,b2,m,hu⟩;simp only at hi;subst hi;dsimp only [flat,aA,ai,nA,cA];refine af (fun q2=>?_) (fun q2=>?_)
  ·have q2:=of_decide_eq_true q2;have hil:i<l.length:=by omega
   obtain ⟨aa,pp,ll,cc,pT,hc,va⟩:=(vs.ah e5).cells i hil;rw [x9 k _ l hil] at hu;have hnt:=zn (oZ u k) l hil;generalize l[i]=x at hc va hu hnt;refine aB ⟨by omega,by omega⟩ (an pT ?_);rw [show Int.toNat (i:Int)=i by omega];refine aH (x.kind,x.name,x.inst.op,x.inst.a,x.inst.b,x.inst.n,x.inst.form,(pp,ll,cc),(x.e.num:Int),x.n,()) hc ?_;dsimp only [flat,aA,ai,nA,cA];refine aT ?_;intro h6 b6 e6 z6;refine ak b6 rfl (by simp) ?_;intro h7 b7 k7 z7;have b7:aN h7 h5.size 96 (encI pp ll cc x):=b7;have e57:Ext h5 h7:=e6.st k7 (Nat.le_refl _);have e7:=e5.trans e57;simp only [ao];refine ad b7 (x.kind,x.name,x.inst.op,x.inst.a,x.inst.b,x.inst.n,x.inst.form,(pp,ll,cc),(x.e.num:Int),x.n,()) rfl ?_;dsimp only [flat,aA,ai,nA,cA];refine aC (Ha (c:=cc) (t.ah e7 (by simp)) (va.ah e57) hk) ?_;rintro _ h8 ⟨rfl,e8⟩;refine ⟨((if cS x k then 0 else 31:Int),()),rfl,?_⟩;dsimp only [flat,aA,ai,nA,cA];have e58:=e57.trans e8;have e08:=e5.trans e58;have b1:=b1.ah e58 (by simp);have b2:=b2.ah e58 (by simp);have m:=m.ah e58 (by simp);have b8:=b7.ah e8 (by simp);refine af (fun r=>?_) (fun r=>?_)
   ·have r:cS x k=false:=by
     cases hr:cS x k with
     | false=>rfl
     | true=>rw [hr] at r; simp at r
    exact ⟨by rw [hu,AN,r]; rfl,e08⟩
   have r:cS x k=true:=by
    cases hr:cS x k with
    | true=>rfl
    | false=>rw [hr] at r; simp at r
   have hno:∀ D,AN k D x=!(decide (x.kind=1) && fm D x.name):=fun D=>by rw [AN,r]; rfl
   rw [hno] at hu;refine ad b8 (x.kind,()) rfl ?_;dsimp only [flat,aA,ai,nA,cA];refine af (fun r1=>?_) (fun r1=>?_)
   ·have r1:x.kind=1:=by simpa using r1
    rw [decide_eq_true r1,Bool.true_and] at hu;have hle:bf x.name.data.toList=true:=by
     rw [BZ r1,Bool.and_eq_true] at r;exact r.1
    refine ad b8 (x.name,()) rfl ?_;dsimp only [flat,aA,ai,nA,cA];refine ve m.1 x.name ?_;refine af (fun r2=>?_) (fun r2=>?_)
    ·exact ⟨by rw [hu,r2]; rfl,e08⟩
    rw [r2] at hu;refine ad b8 (x.kind,()) rfl ?_;dsimp only [flat,aA,ai,nA,cA];refine aX (by simpa using r1) ?_;refine ad b8 (x.name,()) rfl ?_;dsimp only [flat,aA,ai,nA,cA];refine Ez m.1 va.name ?_;intro h9 m9 k9 z9;have e09:Ext h h9:=e08.st k9 (by omega);have s5:=e5.size;have hadd:yR (bT (oZ u k) (l.take i)) x=x.name::bT (oZ u k) (l.take i):=by unfold yR; rw [if_pos r1]
    refine aL (cs:=[(false,[.int .i64]),(false,[.int .i64])]) (n27,((i+1:Nat):Int),()) (l.length-(i+1)) rfl (by omega) (by rw [wrap_i64 (by omega) (by omega)]; rfl) ?_;refine ⟨i+1,rfl,by omega,rfl,e09,b1.ah k9 (by simp; omega),b2.ah k9 (by simp; omega),by rw [hnt,hadd]; exact ⟨m9,fun s hs=>(List.mem_cons.1 hs).elim (fun e=>by rw [e]; exact hle) (m.2 s)⟩,by rw [hu,hnt]; rfl⟩
   ·have r1:¬ x.kind=1:=by simpa using r1
    rw [decide_eq_false r1] at hu;refine ad b8 (x.kind,()) rfl ?_;dsimp only [flat,aA,ai,nA,cA];refine bm (by simpa using r1) ?_;have hadd:yR (bT (oZ u k) (l.take i)) x=bT (oZ u k) (l.take i):=by unfold yR; rw [if_neg r1]
    refine aL (cs:=[(false,[.int .i64]),(false,[.int .i64])]) (n27,((i+1:Nat):Int),()) (l.length-(i+1)) rfl (by omega) (by rw [wrap_i64 (by omega) (by omega)]; rfl) ?_;refine ⟨i+1,rfl,by omega,rfl,e08,b1,b2,by rw [hnt,hadd]; exact m,by rw [hu,hnt]; rfl⟩
  ·have q2:=of_decide_eq_false q2;have hil:i=l.length:=by omega
   subst hil;rw [List.take_length] at m hu;rw [List.drop_length,fz,Bool.true_and] at hu;refine aL (cs:=[(false,[.int .i64]),(false,[.int .i64])]) (n27,((k+1:Nat):Int),()) (2-(k+1)) rfl (by omega) (by rw [wrap_i64 (by omega) (by omega)]; rfl) ?_;refine ⟨k+1,rfl,by omega,rfl,e5,b1,b2,by rw [Ea u hk,hl]; exact m,hu⟩
 ·have q:=of_decide_eq_false q;have hk:k=2:=by omega
  subst hk;have hu:U=(ja (bT (bT [] u.text) u.data) u.aZ && fb u.names bK u.aF):=hu;have m:Aw h4 g1.size (bT (bT [] u.text) u.data):=m;generalize hD:bT (bT [] u.text) u.data=D at hu m;have hN:u.names=iX D u.aZ:=by rw [← hD]; rfl
  rw [hN] at hu;refine ad b1 ((c.p,c.l,c.c),()) rfl ?_;dsimp only [flat,aA,ai,nA,cA];have hu2:U=(ja (iX D (u.aZ.take 0)) (u.aZ.drop 0) && fb (iX D u.aZ) bK u.aF):=hu;refine bC (cs:=[(false,[.int .i64]),(false,[.int .i64])]) (fun y w h'=>∃ i:Nat,y.2.1=(i:Int)∧i≤u.aZ.length∧w=u.aZ.length-i∧Ext h h'∧aN h' h.size 27 [a.v,b.v,c.v,d.v]∧Aw h' g1.size (iX D (u.aZ.take i))∧U=(ja (iX D (u.aZ.take i)) (u.aZ.drop i) && fb (iX D u.aZ) bK u.aF)) (n21,(0:Int),()) u.aZ.length rfl
   ⟨0,rfl,by omega,by omega,e4,b1,m,hu2⟩ ?_
  clear hu hu2 m b1 b2 e4;rintro ⟨n27,n28,⟨⟩⟩ w h5 ⟨i,hi,hile,rfl,e5,b1,m,hu⟩;simp only at hi;subst hi;dsimp only [flat,aA,ai,nA,cA];have s5:=e5.size;refine af (fun q2=>?_) (fun q2=>?_)
  ·have q2:=of_decide_eq_true q2;have hil:i<u.aZ.length:=by omega
   obtain ⟨aa,pp,ll,cc,pT,hc,va,vn⟩:=(v.aZ.ah e5).cells i hil;rw [yU _ _ hil] at hu;have hnt:=AS D u.aZ hil;generalize u.aZ[i]=x at hc va vn hu hnt;refine aB ⟨by omega,by omega⟩ (an pT ?_);rw [show Int.toNat (i:Int)=i by omega];refine aH (x.1,(pp,ll,cc),(x.2.num:Int),()) hc ?_;dsimp only [flat,aA,ai,nA,cA];refine aT ?_;intro h6 b6 e6 z6;refine ak b6 rfl (by simp) ?_;intro h7 b7 k7 z7;have b7:aN h7 h5.size 99 (Fl pp ll cc x):=b7;have e57:Ext h5 h7:=e6.st k7 (Nat.le_refl _);have e7:=e5.trans e57;simp only [ao];have b1:=b1.ah e57 (by simp);have m:=m.ah e57 (by simp);unfold Gs at hu;refine ad b7 (x.1,()) rfl ?_;dsimp only [flat,aA,ai,nA,cA];refine ve m.1 x.1 ?_;refine af (fun r=>?_) (fun r=>?_)
   ·exact ⟨by rw [hu,r]; rfl,e7⟩
   rw [r] at hu;refine ad b7 (x.1,()) rfl ?_;dsimp only [flat,aA,ai,nA,cA];refine aD (j2 x.1 h7 (by have:maxLen=9223372036854775807:=rfl; omega)) ?_;refine af (fun r=>?_) (fun r=>?_)
   ·have r:bf x.1.data.toList=false:=by simpa using r
    exact ⟨by rw [hu,r]; rfl,e7⟩
   have hle:bf x.1.data.toList=true:=by simpa using r
   rw [hle] at hu;refine ad b7 ((pp,ll,cc),(x.2.num:Int),()) rfl ?_;dsimp only [flat,aA,ai,nA,cA];refine aC (pH (c:=cc) (va.ah e57).vw (by have:=va.many; omega) va.names) ?_;rintro _ h8 ⟨rfl,e8⟩;refine ⟨(su none x.2.aw,()),rfl,?_⟩;dsimp only [flat,aA,ai,nA,cA];have e08:=e7.trans e8;have b1:=b1.ah e8 (by simp);have m:=m.ah e8 (by simp);have b8:=b7.ah e8 (by simp);refine af (fun r=>?_) (fun r=>?_)
   ·have r:su none x.2.aw=false:=by simpa using r
    exact ⟨by rw [hu,r]; rfl,e08⟩
   have r:su none x.2.aw=true:=by simpa using r
   rw [r] at hu;refine ad b8 (x.1,()) rfl ?_;dsimp only [flat,aA,ai,nA,cA];refine Ez m.1 vn ?_;intro h9 m9 k9 z9;have e09:Ext h h9:=e08.st k9 (by omega);refine aL (cs:=[(false,[.int .i64]),(false,[.int .i64])]) (n27,((i+1:Nat):Int),()) (u.aZ.length-(i+1)) rfl (by omega) (by rw [wrap_i64 (by omega) (by omega)]; rfl) ?_;refine ⟨i+1,rfl,by omega,rfl,e09,b1.ah k9 (by simp; omega),by rw [hnt]; exact ⟨m9,fun s hs=>(List.mem_cons.1 hs).elim (fun e=>by rw [e]; exact hle) (m.2 s)⟩,by rw [hu,hnt]; rfl⟩
  have q2:=of_decide_eq_false q2;have hil:i=u.aZ.length:=by omega
  subst hil;rw [List.take_length] at m hu;rw [List.drop_length,ja,Bool.true_and] at hu;generalize hE:iX D u.aZ=E at m hu;refine ad b1 ((d.p,d.l,d.c),()) rfl ?_;dsimp only [flat,aA,ai,nA,cA];have hu2:U=fb E (qb u.aF 0) (u.aF.drop 0):=hu;refine bC (cs:=[(false,[.int .i64]),(false,[.int .i64])]) (fun y w h'=>∃ i:Nat,y.2.1=(i:Int)∧i≤u.aF.length∧w=u.aF.length-i∧Ext h h'∧aN h' h.size 27 [a.v,b.v,c.v,d.v]∧Aw h' g1.size E∧U=fb E (qb u.aF i) (u.aF.drop i)) (n27,(0:Int),()) u.aF.length rfl
   ⟨0,rfl,by omega,by omega,e5,b1,m,hu2⟩ ?_
  clear hu hu2 m b1 e5 s5;rintro ⟨n31,n32,⟨⟩⟩ w h6 ⟨i,hi,hile,rfl,e6,b1,m,hu⟩;simp only at hi;subst hi;dsimp only [flat,aA,ai,nA,cA];refine af (fun q3=>?_) (fun q3=>?_)
  ·have q3:=of_decide_eq_true q3;have hil:i<u.aF.length:=by omega
   obtain ⟨aa,pT,hc,va⟩:=(v.aF.ah e6).cells i hil;rw [xY _ _ hil] at hu;unfold Lq at hu;refine aB ⟨by omega,by omega⟩ (an pT ?_);rw [show Int.toNat (i:Int)=i by omega];refine aH (u.aF[i],()) hc ?_;dsimp only [flat,aA,ai,nA,cA];refine ve m.1 _ ?_;refine af (fun r=>?_) (fun r=>?_)
   ·have r:fm E u.aF[i]=false:=by simpa using r
    exact ⟨by rw [hu,r]; rfl,e6⟩
   have r:fm E u.aF[i]=true:=by simpa using r
   rw [r,Bool.true_and] at hu;refine af (fun r2=>?_) (fun r2=>?_)
   ·have r2:=of_decide_eq_true r2;refine ad b1 ((d.p,d.l,d.c),()) rfl ?_;dsimp only [flat,aA,ai,nA,cA];rw [wrap_i64 (by omega) (by omega)];obtain ⟨ab,rfl'',hc',va'⟩:=(v.aF.ah e6).cells (i-1) (by omega);refine aB ⟨by omega,by omega⟩ (an rfl'' ?_);rw [show Int.toNat ((i:Int)-1)=i-1 by omega];refine aH (u.aF[i-1],()) hc' ?_;dsimp only [flat,aA,ai,nA,cA];have hla:qb u.aF i=u.aF[i-1]:=by
     unfold qb;rw [if_neg (by omega),List.getD_eq_getElem?_getD,List.getElem?_eq_getElem (by omega)] <;> rfl
    rw [leB];rw [hla] at hu;refine af (fun r3=>?_) (fun r3=>?_)
    ·have r3:decide (jU u.aF[i-1] u.aF[i])=false:=by simpa using r3
     exact ⟨by rw [hu,r3]; rfl,e6⟩
    ·have r3:decide (jU u.aF[i-1] u.aF[i])=true:=by simpa using r3
     rw [r3,Bool.true_and] at hu;refine aL (cs:=[(false,[.int .i64]),(false,[.int .i64])]) (n31,((i+1:Nat):Int),()) (u.aF.length-(i+1)) rfl (by omega) (by rw [wrap_i64 (by omega) (by omega)]; rfl) ?_;exact ⟨i+1,rfl,by omega,rfl,e6,b1,m,hu⟩
   ·have r2:=of_decide_eq_false r2;have hi0:i=0:=by omega
    subst hi0;have hg:decide (jU (qb u.aF 0) u.aF[0])=true:=decide_eq_true (Fc (m.2 _ (Hv r)));rw [hg,Bool.true_and] at hu;refine aL (cs:=[(false,[.int .i64]),(false,[.int .i64])]) (n31,((0+1:Nat):Int),()) (u.aF.length-(0+1)) rfl (by omega) (by rw [wrap_i64 (by omega) (by omega)]; rfl) ?_;exact ⟨0+1,rfl,by omega,rfl,e6,b1,m,hu⟩
  ·have q3:=of_decide_eq_false q3;have hil:i=u.aF.length:=by omega
   subst hil;rw [List.drop_length] at hu;exact ⟨by rw [hu]; rfl,e6⟩
def wm (l:List UInt8):List (List Value):=l.map fun b=>[.int .u8 (b.toNat:Int)]
theorem uX (l:List UInt8):(wm l).length=l.length:=by simp [wm]
theorem CM (l:List UInt8):∀ y,y∈wm l→y.length=1:=by
 intro y hy;obtain ⟨b,_,rfl⟩:=List.mem_map.1 hy;rfl
theorem yO (l:List UInt8):(wm l).flatten=l.map fun b=>.int .u8 (b.toNat:Int):=by
 induction l with
 | nil=>rfl
 | cons a l ih =>
  have:wm (a::l)=[.int .u8 (a.toNat:Int)]::wm l:=rfl
  rw [this,List.flatten_cons,ih] <;> rfl
theorem CT (l:List UInt8):(wm l).flatten.all dW=true:=by
 rw [yO];simp [dW]
theorem Eh:Tryz.prog.underlying 42=some (.slice 5):=by kernel_rfl
theorem LU:(Tryz.prog.info? 5).map (fun i=>(i.zero,i.size,i.bytes))=some (some (.int .u8 0),1,1):=by kernel_rfl
def GQ (g:Nat) (h:Hp) (p:Option Addr) (h':Hp) (p':Option Addr):Prop:=Ch (g::ay p) h h'∧(p'=p∨∃ a,p'=some a∧h.size≤a.block)
theorem GQ.refl (g:Nat) (h:Hp) (p:Option Addr):GQ g h p h p:=⟨Ch.refl _ _,.inl rfl⟩
theorem GQ.trans {g:Nat} {h h1 h2:Hp} {p p1 p2:Option Addr} (a:GQ g h p h1 p1) (b:GQ g h1 p1 h2 p2):GQ g h p h2 p2:=by
 refine ⟨a.1.trans b.1 ?_,?_⟩
 ·intro i hi hl;rcases List.mem_cons.1 hi with rfl | hi
  ·simp
  ·rcases a.2 with h1 | ⟨q,h1,h3⟩
   ·rw [h1] at hi;exact List.mem_cons_of_mem _ hi
   ·rw [h1] at hi;simp [ay] at hi;omega
 ·rcases b.2 with h3 | ⟨q,h3,h4⟩
  ·rcases a.2 with h5 | ⟨r,h5,h6⟩
   ·exact .inl (h3.trans h5)
   ·exact .inr ⟨r,h3.trans h5,h6⟩
  ·exact .inr ⟨q,h3,Nat.le_trans a.1.size h4⟩
theorem GQ.of {g:Nat} {h h':Hp} (e:Ext h h') (p:Option Addr):GQ g h p h' p:=⟨e.mono (by simp),.inl rfl⟩
theorem SL.bN {h:Hp} {b:Nat} {e:TypeId} {sz:Nat} {p:Option Addr} {l c:Nat} {xs:List (List Value)} (s:SL h b e sz p l c xs):∀ i,i∈ay p→b≤i∧i<h.size:=by
 intro i hi;cases p with
 | none=>simp [ay] at hi
 | some a =>
  obtain ⟨g,pre,rest,rfl,hb,_,hbox,_⟩:=s.2.2;simp [ay] at hi;exact ⟨by omega,by rw [hi]; exact hbox.lt⟩
theorem GQ.box {g k:Nat} {h h':Hp} {p p':Option Addr} {e:TypeId} {xs:List Value} (b:aN h k e xs) (hk:k∉g::ay p) (s:GQ g h p h' p'):aN h' k e xs∧k∉g::ay p':=by
 refine ⟨b.ah s.1 hk,?_⟩;rcases s.2 with h3 | ⟨a,h3,h4⟩
 ·rw [h3]; exact hk
 ·rw [h3]
  have:=b.lt
  have h5:k≠g:=fun e=>hk (by rw [e]; simp)
  simp [ay];omega
theorem wrap_u32 (n:Int):IntKind.wrap .u32 n=((u32 n:Nat):Int):=by
 simp only [IntKind.wrap,IntKind.bits,IntKind.signed,Bool.false_and,Bool.false_eq_true,if_false];unfold u32;omega
theorem J2 (a:Int):Instr.fill (fun j=>some (j*1,1)) ((Array.range (1*1)).map ((Value.int .u8 0).cells[· % (Value.int .u8 0).cells.size]!)) [(0,.int .u8 a)]=some ([.int .u8 a]:List Value).toArray:=by kernel_rfl
structure GP (h:Hp) (p:Option Addr) (l:Nat) (us:Bt):Prop where
 len:l=us.length
 cells:∀ i,(hi:i<us.length)→∃ a,p=some a∧aG h (a.add (i*1)) 0 [.int .u8 (us[i].toNat:Int)]
theorem GP.ah {h h':Hp} {p:Option Addr} {l:Nat} {us:Bt} (v:GP h p l us) (k:Ext h h'):GP h' p l us :=
 ⟨v.len,fun i hi=>by
  obtain ⟨a,ha,hc⟩:=v.cells i hi;exact ⟨a,ha,bk k (by simp) _ _ hc⟩⟩
theorem Ed {P:Program} {h:Hp} (a:Addr) (l:List UInt8) (cap:Nat) (K:Value→Hp→Prop) (hc:aG h a 0 (l.map fS)) (hk:K (.string ⟨l.toArray⟩) h):aE P (Conv.bytesToString (.slice (some a) l.length cap)) h K:=by
 unfold Conv.bytesToString;simp only;rw [aj];refine eo (by simp) hc _ ?_;rw [aj,← Array.forIn_toList]
 have key:∀ (l:List UInt8) (s:ByteArray) (K':ByteArray→Hp→Prop),K' ⟨s.data++l.toArray⟩ h→aE P (forIn (l.map fS) s fun c r=>match c with
   | .int .u8 n=>(pure (ForInStep.yield (r.push (UInt8.ofNat n.toNat))):Sem (ForInStep ByteArray))
   | _ => stuck "bytesToString: byte expected") h K' := by
  intro l
  induction l with
  | nil =>
   intro s K' hk;have e:(⟨s.data++([]:List UInt8).toArray⟩:ByteArray)=s:=by simp
   rw [e] at hk;exact hk
  | cons c l ih =>
   intro s K' hk;rw [List.map_cons,List.forIn_cons];rw [aj];show aE P (forIn (List.map fS l) (s.push (UInt8.ofNat ((c.toNat:Nat):Int).toNat)) _) h K';have e1:UInt8.ofNat ((c.toNat:Nat):Int).toNat=c:=by simp
   rw [e1];refine ih (s.push c) K' ?_
   have:(⟨(s.push c).data++l.toArray⟩:ByteArray)=⟨s.data++(c::l).toArray⟩:=by
    congr 1
    apply Array.toList_inj.1
    simp
   rw [this]; exact hk
 refine key l ByteArray.empty _ ?_;have e:(⟨ByteArray.empty.data++l.toArray⟩:ByteArray)=⟨l.toArray⟩:=by
  congr 1
  apply Array.toList_inj.1
  simp
 rw [e];exact hk
theorem GP.from {h:Hp} {a:Addr} {l:Nat} {us:Bt} (v:GP h (some a) l us):∀ (n i:Nat),i+n≤us.length→aG h (a.add (i*1)) 0 (((us.drop i).take n).map fS):=by
 have key:∀ (n i k:Nat),i+k+n≤us.length→aG h (a.add (i*1)) k (((us.drop (i+k)).take n).map fS):=by
  intro n
  induction n with
  | zero=>intro i k _; trivial
  | succ n ih =>
   intro i k hk;rw [List.drop_eq_getElem_cons (by omega),List.take_succ_cons,List.map_cons];obtain ⟨b,hb,hc⟩:=v.cells (i+k) (by omega);cases hb;refine ⟨?_,?_⟩
   ·have:=hc.1
    rw [show (a.add ((i+k)*1)).add 0=(a.add (i*1)).add k by rw [Go.Sx.add_add,Go.Sx.add_add]; congr 1; omega] at this;exact this
   ·have:=ih i (k+1) (by omega)
    rw [← Nat.add_assoc] at this;exact this
 intro n i hi;exact key n i 0 (by omega)
abbrev St:=Except (Nat × Nat) Bt
def Jr (h:Hp) (g gm:Nat) (full:Bt) (at_:Nat) (no:Option Addr):St→Prop
 | .ok r=>no=none∧full.drop at_=r
 | .error e=>e.1≤full.length∧∃ a,no=some ⟨a,0,none⟩∧aN h a 63 [.int .i64 ((full.length-e.1:Nat):Int),.int .i64 (e.2:Nat)]∧a≠g∧a≠gm
theorem Jr.ah {ws:List Nat} {h h':Hp} {g gm:Nat} {full:Bt} {at_:Nat} {no:Option Addr} {st:St} (n:Jr h g gm full at_ no st) (k:Ch ws h h') (hw:∀ i,i∈ws→i<h.size→i=g∨i=gm):Jr h' g gm full at_ no st:=by
 cases st with
 | ok r=>exact n
 | error e =>
  obtain ⟨h1,a,h2,h3,h4,h5⟩:=n;exact ⟨h1,a,h2,h3.ah k (fun hi=>(hw a hi h3.lt).elim (fun e=>h4 e) (fun e=>h5 e)),h4,h5⟩
def v7 {α:Type} (f:Bt→Rd α) (st:St) (x:α) (st':St):Prop :=
 match st with
 | .error e=>st'=.error e
 | .ok r=>match f r with
  | .ok q=>x=q.1∧st'=.ok q.2
  | .error e=>st'=.error e
theorem v7.off {α:Type} (f:Bt→Rd α) (e:Nat × Nat) (x:α):v7 f (.error e) x (.error e):=rfl
theorem v7.and {α β:Type} {f:Bt→Rd α} {k:α→Bt→Rd β} {st st1 st2:St} {x:α} {y:β} (h1:v7 f st x st1) (h2:v7 (k x) st1 y st2):v7 (fun r=>yQ (f r) k) st y st2:=by
 cases st with
 | error e =>
  have h1:st1=.error e:=h1;rw [h1] at h2;exact h2
 | ok r =>
  unfold v7 at h1 ⊢;simp only at h1 ⊢;cases hf:f r with
  | error e =>
   rw [hf] at h1;have h1:st1=.error e:=h1;rw [h1] at h2;exact h2
  | ok q =>
   rw [hf] at h1;obtain ⟨rfl,h1⟩:=h1;rw [h1] at h2;exact h2
theorem v7.ret {α:Type} (x:α) (st:St):v7 (fun r=>.ok (x,r)) st x st:=by
 cases st with
 | error e=>rfl
 | ok r=>exact ⟨rfl,rfl⟩
def Js (full:Bt) (at_ why:Nat):St→St
 | .ok _=>.error (full.length-at_,why)
 | .error e=>.error e
theorem v7.aw {n:Nat} {st st1 st2 st3:St} {s:ByteArray} {c:Nat} {ts:cZ} (h1:v7 ED st s st1) (h2:v7 (Au 4) st1 c st2) (h3:v7 (x8 n) st2 ts st3):v7 (x8 (n+1)) st ((s,c)::ts) st3 :=
 v7.and (f:=ED) h1 (v7.and (f:=Au 4) h2 (v7.and (f:=x8 n) h3 (v7.ret _ _)))
structure sG (x:eJ):Prop where
 many:x.aw.length≤65535
 aw:∀ u,u∈x.aw→u.1.size<65536∧u.2<4294967296
 num:x.num<4294967296
structure wQ (x:bw):Prop where
 wb:sG x.e
 name:x.name.size<65536
 op:Sm x.inst.op
theorem sG.zero:sG dJ:=⟨by decide,by simp [dJ],by decide⟩
theorem sG.at {h:Hp} {b:Nat} {e:TypeId} {p:Option Addr} {l c:Nat} {x:eJ} (r:sG x) (s:SL h b e 2 p l c (x.aw.map cJ)):jz h p l x :=
 ⟨Sx.SL.EV s,by have:=r.many; omega,fun t ht=>by have:=(r.aw t ht).1; unfold maxLen; omega⟩
theorem wQ.at {h:Hp} {b:Nat} {e:TypeId} {p:Option Addr} {l c:Nat} {x:bw} (r:wQ x) (s:SL h b e 2 p l c (x.e.aw.map cJ)):sn h p l x :=
 ⟨r.wb.at s,by have:=r.name; unfold maxLen; omega,r.op⟩
structure Ls {α:Type} (e:TypeId) (sz:Nat) (enc:bI→α→List Value) (tm:α→cZ) (ok:α→Prop) (h:Hp) (b:Nat) (p:Option Addr) (l c:Nat) (us:List (bI × α)):Prop where
 sl:SL h b e sz p l c (us.map fun u=>enc u.1 u.2)
 own:∀ u,u∈us→SL h b 109 2 u.1.p u.1.l u.1.c ((tm u.2).map cJ)
 ok:∀ u,u∈us→ok u.2
section
variable {α:Type} {e:TypeId} {sz:Nat} {enc:bI→α→List Value} {tm:α→cZ} {ok:α→Prop} {h h':Hp} {b b':Nat} {p:Option Addr} {l c:Nat} {us:List (bI × α)}
theorem Ls.nil (h:Hp) (b:Nat):Ls e sz enc tm ok h b none 0 0 []:=⟨SL.nil _ _ _ _,by simp,by simp⟩
theorem SL.ur {ws:List Nat} {h h':Hp} {b:Nat} {e:TypeId} {sz:Nat} {p:Option Addr} {l c:Nat} {xs:List (List Value)} (s:SL h b e sz p l c xs) (k:Ch ws h h') (hw:∀ i,i∈ws→i<h.size→i<b):SL h' b e sz p l c xs :=
 Sx.SL.aS s k (fun i hi hm=>by have:=Sx.SL.bN s hi; have:=hw i hm this.2; omega)
theorem Ls.ah {ws:List Nat} (s:Ls e sz enc tm ok h b p l c us) (k:Ch ws h h') (hw:∀ i,i∈ws→i<h.size→i<b):Ls e sz enc tm ok h' b p l c us :=
 ⟨SL.ur s.sl k hw,fun u hu=>SL.ur (s.own u hu) k hw,s.ok⟩
theorem Ls.mono (s:Ls e sz enc tm ok h b p l c us) (hb:b'≤b):Ls e sz enc tm ok h b' p l c us :=
 ⟨Sx.SL.mono s.sl hb,fun u hu=>Sx.SL.mono (s.own u hu) hb,s.ok⟩
theorem Ls.len (s:Ls e sz enc tm ok h b p l c us):l=us.length:=by rw [s.sl.1,List.length_map]
end
theorem v7.many {α:Type} {most:Option Nat} {f:Nat→Bt→Rd α} {full:Bt} {fr:Nat} {st st1:St} {n:Nat} (p:v7 (Au 2) st n st1) (ho:over most n=true) (hat:∀ r,st=.ok r→full.length-fr=r.length) (x:α):v7 (JR most f) st x (Js full fr 4 st1):=by
 cases st with
 | error e =>
  have p:st1=.error e:=p;rw [p] <;> rfl
 | ok r =>
  unfold v7 at p ⊢;simp only at p ⊢;unfold JR;cases hf:Au 2 r with
  | error e =>
   rw [hf] at p;have p:st1=.error e:=p;rw [p] <;> rfl
  | ok q =>
   rw [hf] at p;obtain ⟨rfl,p⟩:=p;obtain ⟨q1,q2⟩:=q;rw [E1,if_pos (show over most q1=true from ho),p];show Js full fr 4 (.ok q2)=.error (r.length,4);unfold Js;simp only;rw [hat r rfl]
abbrev ptr (g:Nat):Value:=.pointer (some ⟨g,0,none⟩)
theorem EL:Tryz.prog.underlying 25=some (.slice 9):=by kernel_rfl
theorem KG:(Tryz.prog.info? 9).map (fun i=>(i.zero,i.size,i.bytes))=some (some (.string ⟨#[]⟩),1,16):=by kernel_rfl
section
variable {h0 h:Hp} {g gm:Nat} {bp:Option Addr} {bl bc:Nat} {full:Bt} {st:St} {D:List ByteArray}
abbrev JC:=Ls 96 10 (fun s x=>encI s.p s.l s.c x) (fun x=>x.e.aw) wQ
abbrev K1:=Ls 99 3 (fun s (x:nh)=>Fl s.p s.l s.c x) (fun x=>x.2.aw) (fun x=>sG x.2∧x.1.size<65536)
abbrev KR:=Ls 9 1 (fun _ (x:ByteArray)=>[.string x]) (fun _=>[]) (fun x=>x.size<65536)
end
def KX (a b:bI):Prop:=∀ i,i∈ay a.p→i∉ay b.p
theorem KX.zero:KX ⟨none,0,0⟩ ⟨none,0,0⟩:=fun i hi=>by simp [ay] at hi
structure gS (h:Hp) (b0:Nat) (a b c d:bI) (u:jv):Prop where
 text:∃ us,us.map (·.2)=u.text∧us.length≤65535∧JC h b0 a.p a.l a.c us
 data:∃ us,us.map (·.2)=u.data∧us.length≤65535∧JC h b0 b.p b.l b.c us
 aZ:∃ us,us.map (·.2)=u.aZ∧us.length≤65535∧K1 h b0 c.p c.l c.c us
 aF:∃ us,us.map (·.2)=u.aF∧us.length≤65535∧KR h b0 d.p d.l d.c us
def fL:bI:=⟨none,0,0⟩
theorem gS.zero (h:Hp) (b0:Nat):gS h b0 fL fL fL fL rO :=
 ⟨⟨[],rfl,by simp,Ls.nil _ _⟩,⟨[],rfl,by simp,Ls.nil _ _⟩,⟨[],rfl,by simp,Ls.nil _ _⟩,⟨[],rfl,by simp,Ls.nil _ _⟩⟩
theorem gS.ah {ws:List Nat} {h h':Hp} {b0:Nat} {a b c d:bI} {u:jv} (o:gS h b0 a b c d u) (k:Ch ws h h') (hw:∀ i,i∈ws→i<h.size→i<b0):gS h' b0 a b c d u:=by
 obtain ⟨⟨u1,a1,c1,d1⟩,⟨u2,a2,c2,d2⟩,⟨u3,a3,c3,d3⟩,⟨u4,a4,c4,d4⟩⟩:=o;exact ⟨⟨u1,a1,c1,d1.ah k hw⟩,⟨u2,a2,c2,d2.ah k hw⟩,⟨u3,a3,c3,d3.ah k hw⟩,⟨u4,a4,c4,d4.ah k hw⟩⟩
theorem gS.mono {h:Hp} {b0 b1:Nat} {a b c d:bI} {u:jv} (o:gS h b0 a b c d u) (hb:b1≤b0):gS h b1 a b c d u:=by
 obtain ⟨⟨u1,a1,c1,d1⟩,⟨u2,a2,c2,d2⟩,⟨u3,a3,c3,d3⟩,⟨u4,a4,c4,d4⟩⟩:=o;exact ⟨⟨u1,a1,c1,d1.mono hb⟩,⟨u2,a2,c2,d2.mono hb⟩,⟨u3,a3,c3,d3.mono hb⟩,⟨u4,a4,c4,d4.mono hb⟩⟩
theorem SL.at_ {h:Hp} {b:Nat} {e:TypeId} {sz:Nat} {p:Option Addr} {l c:Nat} {xs:List (List Value)} (s:SL h b e sz p l c xs) {i:Nat} (hi:i<xs.length):∃ a,p=some a∧aG h (a.add (i*sz)) 0 xs[i]:=Sx.SL.cells s hi
theorem JC.at {h:Hp} {b:Nat} {p:Option Addr} {l c:Nat} {us:List (bI × bw)} (s:JC h b p l c us) (hn:us.length≤65535):A8 h p l (us.map (·.2)):=by
 refine ⟨by rw [s.len,List.length_map],by rw [List.length_map]; omega,fun i hi=>?_⟩;rw [List.length_map] at hi;obtain ⟨a,ha,hc⟩:=SL.at_ s.sl (i:=i) (by rw [List.length_map]; exact hi);rw [List.getElem_map] at hc ⊢;exact ⟨a,_,_,_,ha,hc,(s.ok _ (List.getElem_mem hi)).at (s.own _ (List.getElem_mem hi))⟩
theorem K1.at {h:Hp} {b:Nat} {p:Option Addr} {l c:Nat} {us:List (bI × nh)} (s:K1 h b p l c us) (hn:us.length≤65535):Jf h p l (us.map (·.2)):=by
 refine ⟨by rw [s.len,List.length_map],by rw [List.length_map]; omega,fun i hi=>?_⟩;rw [List.length_map] at hi;obtain ⟨a,ha,hc⟩:=SL.at_ s.sl (i:=i) (by rw [List.length_map]; exact hi);rw [List.getElem_map] at hc ⊢;have ok:=s.ok _ (List.getElem_mem hi);exact ⟨a,_,_,_,ha,hc,ok.1.at (s.own _ (List.getElem_mem hi)),by have:=ok.2; unfold maxLen; omega⟩
theorem KR.at {h:Hp} {b:Nat} {p:Option Addr} {l c:Nat} {us:List (bI × ByteArray)} (s:KR h b p l c us) (hn:us.length≤65535):G8 h p l (us.map (·.2)):=by
 refine ⟨by rw [s.len,List.length_map],by rw [List.length_map]; omega,fun i hi=>?_⟩;rw [List.length_map] at hi;obtain ⟨a,ha,hc⟩:=SL.at_ s.sl (i:=i) (by rw [List.length_map]; exact hi);rw [List.getElem_map] at hc ⊢;have ok:=s.ok _ (List.getElem_mem hi);exact ⟨a,ha,hc,by unfold maxLen; omega⟩
theorem gS.at {h:Hp} {b0:Nat} {a b c d:bI} {u:jv} (o:gS h b0 a b c d u):iO h a b c d u:=by
 obtain ⟨⟨u1,a1,c1,d1⟩,⟨u2,a2,c2,d2⟩,⟨u3,a3,c3,d3⟩,⟨u4,a4,c4,d4⟩⟩:=o;exact ⟨by rw [← a1]; exact JC.at d1 c1,by rw [← a2]; exact JC.at d2 c2,by rw [← a3]; exact K1.at d3 c3,by rw [← a4]; exact KR.at d4 c4⟩
def zU:List Value:=[.slice none 0 0,.slice none 0 0,.slice none 0 0,.slice none 0 0]
theorem eQ {a b:Nat} (h:(((a:Nat):Int)==((b:Nat):Int))=true):a=b:=by
 have:=eq_of_beq h
 omega
theorem fx {a b:Nat} (h:(((a:Nat):Int)==((b:Nat):Int))=false):¬ a=b:=by
 rintro rfl;simp at h
def nk (h:Hp) (w:Value) (e:Option (Nat × Nat)):Prop :=
 match e with
 | none=>w=.nilIface
 | some e=>∃ a,w=.iface 59 (ptr a)∧aN h a 63 [.int .i64 (e.1:Nat),.int .i64 (e.2:Nat)]
theorem G9 {x y:bw} (r1:x.kind=y.kind) (r2:x.name=y.name) (r3:x.inst=y.inst) (r4:x.e=y.e) (r5:x.n=y.n):x=y:=by
 cases x;cases y
 simp_all
theorem nD {L:Lp} {K:Value→Hp→Prop} {h:Hp} {b:Bool} {t u:T} (hu:b=false→u L K h) (ht:b=true→t L K h):(cond b t u) L K h:=af ht hu
def Iw (l0 l1:Nat) (body:Int→T→T):T :=
 cond ((l0:Int) != (l1:Int))
 (T.ret (.bool false))
 (T.loop [(false,[.bool]),(false,[.int .i64])] [.bool false,.int .i64 (0:Int)] <| fun (b2:Bool) (n3:Int) =>
 cond (decide (n3<(l0:Int)))
  (body n3 (T.again 0 [.bool b2,.int .i64 (IntKind.wrap .i64 (n3+(1:Int)))]))
  (T.ret (.bool true)))
theorem LL {α:Type} {xs ys:List α} (e:xs=ys) {i:Nat} (h1:i<xs.length) (h2:i<ys.length):xs[i]=ys[i]:=by
 subst e;rfl
def IS {α:Type} (x y:α) (h:Hp) (w:Value) (h':Hp):Prop:=∃ b:Bool,w=.bool b∧(b=true↔x=y)∧Ext h h'
theorem Gz {α:Type} {xs ys:List α} {l0 l1:Nat} (h0:l0=xs.length) (h1:l1=ys.length) (hm:xs.length≤2^60) {body:Int→T→T} {h:Hp}
  (hb:∀ (L:Lp) (h':Hp) (i:Nat) (hi:i<xs.length) (hj:i<ys.length) (k:T),Ext h h'→(xs[i]=ys[i]→∀ h'',Ext h h''→k L (IS xs ys h) h'')→(xs[i]≠ys[i]→∀ h'',Ext h h''→IS xs ys h (.bool false) h'')→body (i:Int) k L (IS xs ys h) h') :
  Iw l0 l1 body [] (IS xs ys h) h:=by
 subst h0 h1;unfold Iw;refine af (fun q=>?_) (fun q=>?_)
 ·refine ⟨false,rfl,⟨fun h=>(by cases h),fun e=>?_⟩,Ch.refl _ _⟩;rw [e] at q;simp at q
 have q:xs.length=ys.length:=by
  have:(((xs.length:Nat):Int)==((ys.length:Nat):Int))=true:=by
   simpa using q
  exact eQ this
 refine bC (cs:=[(false,[.bool]),(false,[.int .i64])]) (fun y m h'=>∃ i:Nat,y.1=false∧y.2.1=(i:Int)∧m=xs.length-i∧i≤xs.length∧Ext h h'∧∀ j,(hj:j<i)→(h1:j<xs.length)→(h2:j<ys.length)→xs[j]=ys[j]) (false,(0:Int),()) xs.length rfl
  ⟨0,rfl,rfl,rfl,by omega,Ch.refl _ _,fun j hj=>by omega⟩ ?_
 rintro ⟨b2,n3,⟨⟩⟩ m h1 ⟨i,hy1,hy2,rfl,hi,e1,hj⟩;simp only at hy1 hy2;subst hy1 hy2;dsimp only [flat,aA,ai,nA,cA];refine af (fun r=>?_) (fun r=>?_)
 ·have r:=of_decide_eq_true r;refine hb _ h1 i (by omega) (by omega) _ e1 (fun he h2 e2=>?_) (fun hne h2 e2=>?_)
  ·rw [wrap_i64 (by omega) (by omega)];refine aL (cs:=[(false,[.bool]),(false,[.int .i64])]) (false,((i+1:Nat):Int),()) (xs.length-(i+1)) rfl (by omega) rfl ?_;refine ⟨i+1,rfl,rfl,rfl,by omega,e2,fun j hj' a b=>?_⟩
   by_cases hji:j<i
   ·exact hj j hji a b
   ·have:j=i:=by omega
    subst this;exact he
  ·exact ⟨false,rfl,⟨fun h=>(by cases h),fun e=>absurd (LL e (by omega) (by omega)) hne⟩,e2⟩
 ·have r:=of_decide_eq_false r;refine ⟨true,rfl,⟨fun _=>?_,fun _=>rfl⟩,e1⟩;exact List.ext_getElem q fun j a b=>hj j (by omega) a b
theorem Kb (s t:ByteArray):(ByteArray.toList s==ByteArray.toList t)=decide (s=t):=by
 rw [ByteArray.toList_eq,ByteArray.toList_eq]
 by_cases h:s=t
 ·rw [decide_eq_true h,h]; simp
 ·rw [decide_eq_false h]
  have:¬ s.data.toList=t.data.toList:=fun e=>h (kB e)
  simpa using this
theorem zq (x y:eJ):j1 x y=true↔x=y:=by
 obtain ⟨a,b⟩:=x;obtain ⟨c,d⟩:=y;unfold j1
 simp
 exact and_comm
theorem H6 (x y:Operand) (i j:Ins) (h:Hp) (K:Value→Hp→Prop) (hk:K (.bool (decide (i=j))) h) :
  aE Tryz.prog (Sx.bJ (BinOp.eql) 90 x y (.agg (rm i).toArray) (.agg (rm j).toArray)) h K:=by
 refine GG IJ (by kernel_rfl) (by kernel_rfl) (by kernel_rfl) K ?_;have he:(FK Tryz.prog 90).all (F9 (rm i).toArray (rm j).toArray)=(i.op==j.op && (i.a==j.a && (i.b==j.b && (i.n==j.n && (i.form==j.form && true))))):=by
  rw [← Array.all_toList]
  kernel_rfl
 rw [he,Bool.and_true]
 have:(i.op==j.op && (i.a==j.a && (i.b==j.b && (i.n==j.n && i.form==j.form))))=decide (i=j):=by
  rcases i with ⟨a1,a2,a3,a4,a5⟩
  rcases j with ⟨c1,c2,c3,c4,c5⟩
  simp only [cz,Ins.mk.injEq]
  by_cases h1:a1=c1 <;> by_cases h2:a2=c2 <;> by_cases h3:a3=c3 <;> by_cases h4:a4=c4 <;> by_cases h5:a5=c5 <;> simp [h1,h2,h3,h4,h5]
 rw [this];exact hk
theorem Al {h:Hp} {p q:Option Addr} {l c m d:Nat} {x y:bw} (v:jz h p l x.e) (w:jz h q m y.e):HC Tryz.prog 61 #[pV p l c x,pV q m d y] h (IS x y h):=by
 refine aI (args:=[pV p l c x,pV q m d y]) mixed Tryz.func61 (by kernel_rfl) (iE x.kind x.name x.inst.op x.inst.a x.inst.b x.inst.n x.inst.form p l c x.e.num x.n y.kind y.name y.inst.op y.inst.a y.inst.b y.inst.n y.inst.form q m d y.e.num y.n) ?_;unfold fq;refine aT ?_;intro h1 b1 e1 z1;refine aT ?_;intro h2 b2 e2 z2;have b1:aN h2 h.size 96 (encI p l c x):=b1.ah e2 (by simp);have b2:aN h2 h1.size 96 (encI q m d y):=b2;have e:=e1.trans e2;have no:∀ h',Ext h h'→x≠y→IS x y h (.bool false) h':=fun h' e hn=>⟨false,rfl,⟨fun h=>(by cases h),fun e=>absurd e hn⟩,e⟩
 simp only [ao];refine ad b1 (x.kind,()) rfl ?_;dsimp only [flat,aA,ai,nA,cA];refine ad b2 (y.kind,()) rfl ?_;dsimp only [flat,aA,ai,nA,cA];refine nD (fun r1=>?_) (fun r1=>?_)
 ·have r1:¬ x.kind=y.kind:=by simpa using r1
  exact no h2 e (fun e=>r1 (by rw [e]))
 have r1:x.kind=y.kind:=by simpa using r1
 refine ad b1 (x.name,()) rfl ?_;dsimp only [flat,aA,ai,nA,cA];refine ad b2 (y.name,()) rfl ?_;dsimp only [flat,aA,ai,nA,cA];rw [Kb];refine nD (fun r2=>?_) (fun r2=>?_)
 ·have r2:¬ x.name=y.name:=by simpa using r2
  exact no h2 e (fun e=>r2 (by rw [e]))
 have r2:x.name=y.name:=by simpa using r2
 refine ad b1 (x.inst.op,x.inst.a,x.inst.b,x.inst.n,x.inst.form,()) rfl ?_;dsimp only [flat,aA,ai,nA,cA];refine ad b2 (y.inst.op,y.inst.a,y.inst.b,y.inst.n,y.inst.form,()) rfl ?_;dsimp only [flat,aA,ai,nA,cA];refine bD (fun K' hK=>H6 _ _ x.inst y.inst h2 K' hK) ?_;refine nD (fun r3=>?_) (fun r3=>?_)
 ·have r3:¬ x.inst=y.inst:=by simpa using r3
  exact no h2 e (fun e=>r3 (by rw [e]))
 have r3:x.inst=y.inst:=by simpa using r3
 refine ad b1 ((p,l,c),(x.e.num:Int),()) rfl ?_;dsimp only [flat,aA,ai,nA,cA];refine ad b2 ((q,m,d),(y.e.num:Int),()) rfl ?_;dsimp only [flat,aA,ai,nA,cA];refine aC (D4 (c:=c) (d:=d) (v.ah e).vw (w.ah e).vw v.many) ?_;rintro _ h3 ⟨rfl,e3⟩;refine ⟨(j1 x.e y.e,()),rfl,?_⟩;dsimp only [flat,aA,ai,nA,cA];refine nD (fun r4=>?_) (fun r4=>?_)
 ·refine no h3 (e.trans e3) (fun e=>?_);rw [(zq _ _).2 (by rw [e])] at r4;cases r4
 have r4:=(zq _ _).1 r4;refine ad (b1.ah e3 (by simp)) (x.n,()) rfl ?_;dsimp only [flat,aA,ai,nA,cA];refine ad (b2.ah e3 (by simp)) (y.n,()) rfl ?_;refine ⟨x.n==y.n,rfl,⟨fun r5=>?_,fun e=>by rw [e]; simp⟩,e.trans e3⟩;have r5:x.n=y.n:=by simpa using r5
 exact G9 r1 r2 r3 r4 r5
theorem qI {h:Hp} {p q:Option Addr} {l c m d:Nat} {xs ys:List bw} (v:A8 h p l xs) (w:A8 h q m ys):HC Tryz.prog 31 #[.slice p l c,.slice q m d] h (IS xs ys h):=by
 refine aI (args:=[.slice p l c,.slice q m d]) mixed Tryz.func31 (by kernel_rfl) (ig p l c q m d) ?_;refine Gz (body:=fun n3 k=>T.need (((0:Int)≤n3)∧(n3<(l:Int))) <|
  T.au p <| fun (a4:Addr) =>
  T.ae (a4.add ((Int.toNat n3)*10)) [.int .i64,.string,.int .i64,.int .i64,.int .i64,.int .i32,.int .i64,.slice 109,.int .u32,.int .i64] <| fun (n5:Int) (s6:ByteArray) (n7:Int) (n8:Int) (n9:Int) (n10:Int) (n11:Int) (p12:Option Addr) (l13:Nat) (l14:Nat) (n15:Int) (n16:Int) =>
  T.need (((0:Int)≤n3)∧(n3<(m:Int))) <|
  T.au q <| fun (a17:Addr) =>
  T.ae (a17.add ((Int.toNat n3)*10)) [.int .i64,.string,.int .i64,.int .i64,.int .i64,.int .i32,.int .i64,.slice 109,.int .u32,.int .i64] <| fun (n18:Int) (s19:ByteArray) (n20:Int) (n21:Int) (n22:Int) (n23:Int) (n24:Int) (p25:Option Addr) (l26:Nat) (l27:Nat) (n28:Int) (n29:Int) =>
  T.call Tryz.prog 61 [.agg #[.int .i64 n5,.string s6,.int .i64 n7,.int .i64 n8,.int .i64 n9,.int .i32 n10,.int .i64 n11,.slice p12 l13 l14,.int .u32 n15,.int .i64 n16],.agg #[.int .i64 n18,.string s19,.int .i64 n20,.int .i64 n21,.int .i64 n22,.int .i32 n23,.int .i64 n24,.slice p25 l26 l27,.int .u32 n28,.int .i64 n29]] false [(false,[.bool])] <| fun (b30:Bool) =>
  cond (!b30)
  (T.ret (.bool false)) k) v.len w.len v.many ?_
 intro L h' i hi hj k e1 hk hn;have vl:=v.len;have wl:=w.len;obtain ⟨a,p1,l1,c1,rfl,hc,va⟩:=(v.ah e1).cells i hi;obtain ⟨b,q1,m1,d1,rfl,hd,wa⟩:=(w.ah e1).cells i hj;refine aB ⟨by omega,by omega⟩ ?_;refine an rfl ?_;refine aH (xs[i].kind,xs[i].name,xs[i].inst.op,xs[i].inst.a,xs[i].inst.b,xs[i].inst.n,xs[i].inst.form,(p1,l1,c1),(xs[i].e.num:Int),xs[i].n,()) hc ?_;dsimp only [flat,aA,ai,nA,cA];refine aB ⟨by omega,by omega⟩ ?_;refine an rfl ?_;refine aH (ys[i].kind,ys[i].name,ys[i].inst.op,ys[i].inst.a,ys[i].inst.b,ys[i].inst.n,ys[i].inst.form,(q1,m1,d1),(ys[i].e.num:Int),ys[i].n,()) hd ?_;dsimp only [flat,aA,ai,nA,cA];refine aC (Al (c:=c1) (d:=d1) va.wb wa.wb) ?_;rintro _ h2 ⟨b,rfl,hb,e2⟩;refine ⟨(b,()),rfl,?_⟩;dsimp only [flat,aA,ai,nA,cA];refine af (fun u=>?_) (fun u=>?_)
 ·have u:b=false:=by simpa using u
  refine hn (fun e=>?_) h2 (e1.trans e2);rw [hb.2 e] at u;cases u
 ·have u:b=true:=by simpa using u
  exact hk (hb.1 u) h2 (e1.trans e2)
open Go.Proofs Go.Proofs.YtfkjiiapldkoeaaGreatDoor
open Go.ChangeShapes Go.WideShapes Go.ChangeAt Go.WideMaps Go.WideElems Go.RowKit
def Aj (P:Program) (t:TypeId):Option (List (TypeId × Nat)):=(P.underlying t).bind fun d=>match d with | .struct fs=>some (fs.toList.map fun f=>(f.type,f.offset)) | _=>none
section
variable {H:Type} {enc:TypeId × Value→H} {P:Program} {W:World} {base fuel:Nat} {sp:Nat→Bool} {held:Bool} {t:TypeId} {cs:List Value} {y:DataW H × List MemPlace}
theorem Aa {l:List (TypeId × Nat)} (hu:Aj P t=some l) (h:DataW.trod enc P W base sp held fuel t cs=some y) :
  ∃ (xs:List (DataW H × List MemPlace)) (n:Nat),y.1=.agg (xs.map (·.1))∧cs.length=P.cellsOf t∧xs.length=l.length∧∀ (i:Nat) (p:TypeId × Nat),l[i]?=some p→∃ x,xs[i]?=some x∧DataW.trod enc P W base sp held n p.1 ((cs.drop p.2).take (P.cellsOf p.1))=some x:=by
 unfold Aj at hu;cases hd:P.underlying t with
 | none=>rw [hd] at hu; cases hu
 | some d =>
  rw [hd] at hu;simp only [Option.bind_some] at hu;split at hu
  ·rename_i fs;simp only [Option.some.injEq] at hu;obtain ⟨xs,n,_,hy,hl,hlen,hf⟩:=DataW.trod_struct hd h;refine ⟨xs,n,by rw [hy],hl,by rw [← hu,List.length_map,hlen,Array.length_toList],fun i p hp=>?_⟩;rw [← hu,List.getElem?_map,Option.map_eq_some_iff] at hp;obtain ⟨f,hf1,rfl⟩:=hp;rw [Array.getElem?_toList] at hf1;have h1:=hf i f hf1;cases hx:xs[i]? with
   | none =>
    rw [List.getElem?_eq_none_iff] at hx
    have:i<fs.size:=by
     by_cases g:i<fs.size
     ·exact g
     ·rw [Array.getElem?_eq_none (by omega)] at hf1;cases hf1
    omega
   | some x=>rw [hx] at h1; exact ⟨x,rfl,h1⟩
  ·cases hu
end
theorem zc {P:Program} {f:FuncId} {args:Array Value} {W:World} {R:Value→Hp→Prop} (h:HC P f args W.heap R) (he:∀ v h',R v h'→Ext W.heap h'):Calls P f args W fun e w'=>∃ v,e=.returned v∧Below W.heap.size W w'∧R v w'.heap:=by
 refine (h W rfl).mono fun e w' ⟨v,hv,hs,hr⟩=>⟨v,hv,⟨hs.os,hs.tape,hs.output,(he v _ hr).size,fun k hk=>(he v _ hr).same k hk (by simp)⟩,hr⟩
theorem B' {W W':World} (hB:Below W.heap.size W W') {p:MemPlace} (hp:p.block<W.heap.size):W.sameAt W' p:=by
 cases p with
 | cell b off =>
  show W'.cell? _=W.cell? _;unfold World.cell?;rw [hB.block b hp]
 | map b=>exact hB.block b hp
end Go.Sx.Ob
set_option linter.unusedVariables false
set_option maxRecDepth 100000
namespace Go.Proofs
open Go.RowKit Go.Shelf
attribute [local go_sem] Oper.semAt_some
theorem Dm {W W':World} {n B:Nat} {t:TypeId} {v:Value} (h:Boxed W B t v) (hb:Below n W W') (hn:B<n):Boxed W' B t v:=(hb.block B hn).trans h
theorem tQ {n f:Nat} {args:Array Value} {W:World} {R:Value→Sx.Hp→Prop} {K:Ending→World→Prop} (h:Sx.HC Tryz.prog f args W.heap R) (he:∀ v h',R v h'→Sx.Ext W.heap h') (hK:∀ v w',Below W.heap.size W w'→R v w'.heap→K (.returned v) w'):Fence.wide.fn f∧CallsIn Fence.wide n Tryz.prog f args W K :=
 ⟨trivial,(callsIn_wide.2 (Sx.Ob.zc h he)).mono fun e w' ⟨v,hv,hb,hr⟩=>by subst hv; exact hK v w' hb hr⟩
def Marks (b:Nat) (dl:List Deferred) (w:World):Prop:=∃ Ds:List Nat,dl=Ds.map (fun D=>{ target:=.collected D,args:=#[] })∧Ds.Nodup∧∀ D∈Ds,b≤D∧w.heap[D]?=some (.deferred (some []))
theorem Marks.leaves {F:Fence} {n b:Nat} {P:Program} {fn:Func} {tmps:Array Value} {R:Ending→World→Prop} {dl:List Deferred} {w:World} (h:Marks b dl w) (hK:∀ w':World,Below b w w'→(∀ B:Nat,w.heap[B]?≠some (Obj.deferred (some []))→w'.heap[B]?=w.heap[B]?)→LeavesIn F n P fn tmps R [] .returning w'):LeavesInM F n P fn tmps R dl .returning w:=by
 obtain ⟨Ds,rfl,hn,hD⟩:=h
 induction Ds generalizing w with
 | nil=>exact hK w (Below.refl _ _) (fun _ _=>rfl)
 | cons D Ds ih =>
  obtain ⟨hnD,hn⟩:=List.nodup_cons.1 hn;obtain ⟨hb,hd⟩:=hD D (List.mem_cons_self ..);have hlt:D<w.heap.size:=(Array.getElem?_eq_some_iff.1 hd).1;have hput:∀ B,B≠D→(w.putObj D (.deferred none)).heap[B]?=w.heap[B]?:=fun B hB=>by
   simp only [World.putObj];rw [Array.getElem?_setIfInBounds_ne (Ne.symm hB)]
  refine ⟨by simp,.inl ⟨D,_,rfl,run_takeDeferred hd,ih (fun w' hb' hk'=>hK w' ?_ fun B hB=>?_) hn (fun E hE=>?_)⟩⟩
  ·refine Below.trans (b:=w.putObj D (.deferred none)) ⟨rfl,rfl,rfl,?_,fun k hk=>hput k (by omega)⟩ hb';simp [World.putObj]
  ·have hBD:B≠D:=fun e=>hB (by rw [e]; exact hd)
   rw [hk' B (by rw [hput B hBD]; exact hB),hput B hBD]
  ·obtain ⟨h1,h2⟩:=hD E (List.mem_cons_of_mem _ hE);exact ⟨h1,(hput E (fun e=>hnD (e▸hE))).trans h2⟩
theorem Marks.below {b:Nat} {dl:List Deferred} {w w':World} (h:Marks b dl w) (hb:Below w.heap.size w w'):Marks b dl w':=by
 obtain ⟨Ds,e,hn,hD⟩:=h;exact ⟨Ds,e,hn,fun D hd=>⟨(hD D hd).1,(hb.block D ((Array.getElem?_eq_some_iff.1 (hD D hd).2).1)).trans (hD D hd).2⟩⟩
theorem Marks.keeps {b:Nat} {dl:List Deferred} {w w':World} (h:Marks b dl w) (hb:KeepsOthers w w'):Marks b dl w':=by
 obtain ⟨Ds,e,hn,hD⟩:=h;exact ⟨Ds,e,hn,fun D hd=>⟨(hD D hd).1,hb.same D _ (hD D hd).2 rfl⟩⟩
def eZ (n x:Nat) (w w':World):Prop:=w.heap.size≤w'.heap.size∧∀ k,k<n→k≠x→w'.heap[k]?=w.heap[k]?
theorem Ak {β:Type} {n x B:Nat} {w:World} (hB:n≤B) (hn:n≤w.heap.size):OwnFrom B (fun (_:β) W=>eZ n x w W):=fun s A C row hs hg hr=>by
 refine ⟨Nat.le_trans hs.1 hg.size,fun k hk hx=>(hg.block k (by have:=hs.1; omega) (fun e=>?_)).trans (hs.2 k hk hx)⟩
 have:=(hr k e.symm).1
 omega
theorem eZ.set {n x:Nat} {w w':World} (h:Below n w w') (hn:n≤w.heap.size) (v:Value):eZ n x w (w'.setCell ⟨x,0,none⟩ v) :=
 ⟨by simpa using h.size,fun k hk hx=>((grownBy_setCell' w' x v).block k (by have:=h.size; omega) (fun e=>hx (by cases e; rfl))).trans (h.block k hk)⟩
theorem Marks.cons {b D:Nat} {dl:List Deferred} {w:World} (h:Marks b dl w) (hD:b≤D) (hK:w.heap[D]?=some (.deferred (some []))) (hne:∀ E,({ target:=.collected E,args:=#[] }:Deferred)∈dl→E≠D):Marks b ({ target:=.collected D,args:=#[] }::dl) w:=by
 obtain ⟨Ds,rfl,hn,hd⟩:=h;refine ⟨D::Ds,rfl,List.nodup_cons.2 ⟨fun hm=>hne D (List.mem_map.2 ⟨D,hm,rfl⟩) rfl,hn⟩,fun E hE=>?_⟩;rcases List.mem_cons.1 hE with rfl | hE
 ·exact ⟨hD,hK⟩
 ·exact hd E hE
theorem Hf {w:World} {a:Addr} {v:Value} (h:w.cell? a=some v):a.block<w.heap.size:=by
 unfold World.cell? at h;split at h
 ·rename_i hg; exact (Array.getElem?_eq_some_iff.1 hg).1
 ·cases h
theorem fg:∀ (f n:Nat) (s:ByteArray),(aR f n s).length≤f
 | 0,_,_=>by simp [aR]
 | f+1,n,s=>by
  unfold aR;split
  ·simp
  ·have:=fg f (n+1) (mC s)
   simp; omega
end Go.Proofs
set_option linter.unusedVariables false
set_option linter.unusedSimpArgs false
set_option maxRecDepth 100000
namespace Go.Sx.Ob
open Go.Proofs
structure LC (h:Hp) (p:Option Addr) (l:Nat) (us:List jv):Prop where
 len:l=us.length
 many:us.length≤2^60
 cells:∀ i,(hi:i<us.length)→∃ a sa sb sc sd,p=some a∧aG h (a.add (i*4)) 0 [bI.v sa,bI.v sb,bI.v sc,bI.v sd]∧iO h sa sb sc sd us[i]
theorem LC.ah {h h':Hp} {p:Option Addr} {l:Nat} {us:List jv} (v:LC h p l us) (k:Ext h h'):LC h' p l us :=
 ⟨v.len,v.many,fun i hi=>by
  obtain ⟨a,sa,sb,sc,sd,ha,hc,hv⟩:=v.cells i hi;exact ⟨a,sa,sb,sc,sd,ha,bk k (by simp) _ _ hc,hv.ah k⟩⟩
def Kv (u:jv):Nat:=u.text.length+u.data.length+u.aZ.length
def L0 (us:List jv):Nat:=(us.map Kv).sum
end Go.Sx.Ob
set_option linter.unusedVariables false
set_option linter.unusedSimpArgs false
set_option maxRecDepth 100000
namespace Go.Sx
open Go.Proofs
end Go.Sx
set_option linter.unusedVariables false
set_option linter.unusedSimpArgs false
set_option maxRecDepth 100000
namespace Go.Sx.Ob
open Go.Proofs
def JK:Array (Nat × Value):=#[(0,.agg #[.string ⟨#[110,111,112]⟩,.int .u8 (0:Int),.int .i64 (1:Int)]),(1,.agg #[.string ⟨#[104,97,108,116]⟩,.int .u8 (1:Int),.int .i64 (1:Int)]),(2,.agg #[.string ⟨#[114,101,116]⟩,.int .u8 (2:Int),.int .i64 (1:Int)]),(3,.agg #[.string ⟨#[112,114,105,110,116]⟩,.int .u8 (3:Int),.int .i64 (2:Int)]),(4,.agg #[.string ⟨#[105,110]⟩,.int .u8 (4:Int),.int .i64 (2:Int)]),(5,.agg #[.string ⟨#[112,117,115,104]⟩,.int .u8 (5:Int),.int .i64 (2:Int)]),(6,.agg #[.string ⟨#[112,111,112]⟩,.int .u8 (6:Int),.int .i64 (2:Int)]),(7,.agg #[.string ⟨#[106,114]⟩,.int .u8 (7:Int),.int .i64 (2:Int)]),(8,.agg #[.string ⟨#[110,101,103]⟩,.int .u8 (8:Int),.int .i64 (2:Int)]),(9,.agg #[.string ⟨#[110,111,116]⟩,.int .u8 (9:Int),.int .i64 (2:Int)]),(10,.agg #[.string ⟨#[122,116,117,114,110]⟩,.int .u8 (10:Int),.int .i64 (3:Int)]),(11,.agg #[.string ⟨#[122,99,111,110,106]⟩,.int .u8 (11:Int),.int .i64 (3:Int)]),(12,.agg #[.string ⟨#[109,111,118]⟩,.int .u8 (16:Int),.int .i64 (4:Int)]),(13,.agg #[.string ⟨#[97,100,100]⟩,.int .u8 (17:Int),.int .i64 (4:Int)]),(14,.agg #[.string ⟨#[115,117,98]⟩,.int .u8 (18:Int),.int .i64 (4:Int)]),(15,.agg #[.string ⟨#[109,117,108]⟩,.int .u8 (19:Int),.int .i64 (4:Int)]),(16,.agg #[.string ⟨#[100,105,118]⟩,.int .u8 (20:Int),.int .i64 (4:Int)]),(17,.agg #[.string ⟨#[97,110,100]⟩,.int .u8 (21:Int),.int .i64 (4:Int)]),(18,.agg #[.string ⟨#[111,114]⟩,.int .u8 (22:Int),.int .i64 (4:Int)]),(19,.agg #[.string ⟨#[120,111,114]⟩,.int .u8 (23:Int),.int .i64 (4:Int)]),(20,.agg #[.string ⟨#[115,104,108]⟩,.int .u8 (24:Int),.int .i64 (4:Int)]),(21,.agg #[.string ⟨#[115,104,114]⟩,.int .u8 (25:Int),.int .i64 (4:Int)]),(22,.agg #[.string ⟨#[108,116]⟩,.int .u8 (26:Int),.int .i64 (4:Int)]),(23,.agg #[.string ⟨#[101,113]⟩,.int .u8 (27:Int),.int .i64 (4:Int)]),(24,.agg #[.string ⟨#[108,100,98]⟩,.int .u8 (28:Int),.int .i64 (4:Int)]),(25,.agg #[.string ⟨#[108,100,119]⟩,.int .u8 (29:Int),.int .i64 (4:Int)]),(26,.agg #[.string ⟨#[108,100,109]⟩,.int .u8 (30:Int),.int .i64 (4:Int)]),(27,.agg #[.string ⟨#[115,116,109]⟩,.int .u8 (31:Int),.int .i64 (4:Int)]),(28,.agg #[.string ⟨#[122,109,111,118]⟩,.int .u8 (32:Int),.int .i64 (5:Int)]),(29,.agg #[.string ⟨#[122,97,100,100]⟩,.int .u8 (33:Int),.int .i64 (5:Int)]),(30,.agg #[.string ⟨#[122,115,117,98]⟩,.int .u8 (34:Int),.int .i64 (5:Int)]),(31,.agg #[.string ⟨#[122,109,117,108]⟩,.int .u8 (35:Int),.int .i64 (5:Int)]),(32,.agg #[.string ⟨#[122,114,101]⟩,.int .u8 (36:Int),.int .i64 (6:Int)]),(33,.agg #[.string ⟨#[122,105,109]⟩,.int .u8 (37:Int),.int .i64 (6:Int)]),(34,.agg #[.string ⟨#[122,115,101,116]⟩,.int .u8 (38:Int),.int .i64 (7:Int)]),(35,.agg #[.string ⟨#[108,105,115]⟩,.int .u8 (48:Int),.int .i64 (8:Int)]),(36,.agg #[.string ⟨#[116,114,97,112]⟩,.int .u8 (49:Int),.int .i64 (9:Int)]),(37,.agg #[.string ⟨#[108,105]⟩,.int .u8 (50:Int),.int .i64 (10:Int)]),(38,.agg #[.string ⟨#[108,100,112]⟩,.int .u8 (51:Int),.int .i64 (11:Int)]),(39,.agg #[.string ⟨#[106,109,112]⟩,.int .u8 (64:Int),.int .i64 (12:Int)]),(40,.agg #[.string ⟨#[99,97,108,108]⟩,.int .u8 (67:Int),.int .i64 (12:Int)]),(41,.agg #[.string ⟨#[106,122]⟩,.int .u8 (70:Int),.int .i64 (13:Int)]),(42,.agg #[.string ⟨#[106,110,122]⟩,.int .u8 (73:Int),.int .i64 (13:Int)])]
def bX (k:Nat):ByteArray:=match JK[k]? with | some (_,.agg #[.string s,_,_])=>s | _=>⟨#[]⟩
def bZ (k:Nat):Int:=match JK[k]? with | some (_,.agg #[_,.int _ b,_])=>b | _=>0
end Go.Sx.Ob
