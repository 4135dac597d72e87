/- Contracts over heaps, and plain laws, for the functions that the laws of chapter 9 call, part 3: Same, slices.Equal, append of terms, over heaps. The operations over heaps: thei Condition: as each statement says. -/
import Derived.Test.YtfkjiiapldkoeaaGreatDoorP2
import Derived.Test.YtfkjiiapldkoeaaGreatDoorAobjT
import Derived.Test.YtfkjiiapldkoeaaGreatDoorAobjU
import Derived.Test.YtfkjiiapldkoeaaGreatDoorAobjTa
import Derived.Test.YtfkjiiapldkoeaaGreatDoorRows
import Derived.ProofKit
import Derived.LaidMore
import Derived.LaidLaws
import Derived.OpenShut
import Derived.ChangeSame
import Derived.ChangeStays
import Derived.ChangeOld
import Derived.ChangeSlices
import Derived.ChangeMaps5
import Derived.JoinedCond
import Derived.Lib.LaidTab
import Derived.Stop.Joined
set_option linter.unusedVariables false
set_option linter.unusedSimpArgs false
set_option maxRecDepth 100000
namespace Go.Sx
open Go.Proofs
theorem Lz:Tryz.prog.underlying 109=some (.struct (GG Tryz.prog 109)):=by kernel_rfl
theorem Hk (x y:Operand) (a:ByteArray) (b:Int) (a':ByteArray) (b':Int) (h:Hp) (K:Value→Hp→Prop) (hk:K (.bool !(a==a' && b==b')) h) :
  aJ Tryz.prog (Sx.bU (BinOp.neq) 109 x y (.agg #[.string a,.int .u32 b]) (.agg #[.string a',.int .u32 b'])) h K:=by
 refine BH Lz (by kernel_rfl) (by kernel_rfl) (by kernel_rfl) K ?_;have he:(GG Tryz.prog 109).all (Gx #[.string a,.int .u32 b] #[.string a',.int .u32 b'])=(a==a' && (b==b' && true)):=by
  rw [← Array.all_toList]
  kernel_rfl
 rw [he,Bool.and_true];exact hk
theorem Ii (t u:ByteArray × Nat):(!(t.1==u.1 && (t.2:Int)==(u.2:Int)))=decide (t≠u):=by
 obtain ⟨a,b⟩:=t;obtain ⟨a',b'⟩:=u
 by_cases h1:a=a'
 ·subst h1;rw [bytes_beq]
  by_cases h2:b=b'
  ·subst h2
   simp
  ·have h3:¬ ((b:Int)=(b':Int)):=by omega
   have h4:((b:Int)==(b':Int))=false:=by simpa using h3
   simp [h2,h4]
 ·have h3:(a==a')=false:=by
   obtain ⟨d⟩:=a;obtain ⟨d'⟩:=a';show (d==d')=false;have h4:¬ d=d':=fun e=>h1 (by rw [e])
   simpa using h4
  simp [h1,h3]
theorem xp {α:Type} {l m:List α} {i:Nat} (hi:i<l.length) (hj:i<m.length) (h:l[i]≠m[i]):l≠m:=by
 rintro rfl;exact h rfl
theorem tf {α:Type} {l m:List α} {i:Nat} (hi:i<l.length) (hj:i<m.length) (h:l[i]=m[i]):(l.drop i=m.drop i)↔(l.drop (i+1)=m.drop (i+1)):=by
 rw [List.drop_eq_getElem_cons hi,List.drop_eq_getElem_cons hj,h];exact ⟨fun e=>(List.cons.inj e).2,fun e=>by rw [e]⟩
instance:DecidableEq dw:=inferInstance
theorem Dk {h:Hp} {p q:Option Addr} {l m c d:Nat} {us vs:dw} (v:qf h p l us) (w:qf h q m vs) (hl:us.length≤2^60):uj Tryz.prog 117 [.slice p l c,.slice q m d] h (.bool (decide (us=vs))):=by
 refine dU mixed Tryz.func117 (by kernel_rfl) (eH p l c q m d) ?_;unfold df;have h1:=v.len;have h2:=w.len;refine ah (fun g1=>?_) (fun g1=>?_)
 ·have g1:¬ (l:Int)=(m:Int):=by simpa using g1
  exact ⟨by rw [decide_eq_false (fun e=>by rw [e] at h1; omega)],rfl⟩
 ·have g1:(l:Int)=(m:Int):=by simpa using g1
  refine aY (cs:=[(false,[.bool]),(false,[.int .i64])]) (fun y n h'=>∃ (i:Nat),y.2.1=(i:Int)∧i≤us.length∧n=us.length-i∧h=h'∧(us=vs↔us.drop i=vs.drop i)) (false,(0:Int),()) us.length rfl
   ⟨0,rfl,by omega,by omega,rfl,Iff.rfl⟩ ?_
  rintro ⟨b8,n8,⟨⟩⟩ n h2 ⟨i,hi,hile,rfl,rfl,hq⟩;simp only at hi;subst hi;dsimp only [flat,aD,aj,nA,cA];refine ah (fun g2=>?_) (fun g2=>?_)
  ·have g2:=of_decide_eq_true g2;have hi1:i<us.length:=by omega
   have hi2:i<vs.length:=by omega
   obtain ⟨a,rfl,hc⟩:=v.cells i hi1;obtain ⟨a',rfl,hc'⟩:=w.cells i hi2;have hst:=tf hi1 hi2;have hno:=xp hi1 hi2;generalize us[i]=t at hc hst hno;generalize vs[i]=u at hc' hst hno;refine aA ⟨by omega,by omega⟩ (ai rfl ?_);rw [show Int.toNat (i:Int)=i by omega];refine aE (t.1,(t.2:Int),()) hc ?_;dsimp only [flat,aD,aj,nA,cA];refine aA ⟨by omega,by omega⟩ (ai rfl ?_);refine aE (u.1,(u.2:Int),()) hc' ?_;dsimp only [flat,aD,aj,nA,cA];refine bK (b:=decide (t≠u)) (fun K' hk=>Hk _ _ _ _ _ _ _ _ (by rw [Ii]; exact hk)) ?_;refine ah (fun g3=>?_) (fun g3=>?_)
   ·exact ⟨by rw [decide_eq_false (hno (of_decide_eq_true g3))],rfl⟩
   ·have g3:t=u:=by simpa using g3
    have hw:IntKind.wrap .i64 ((i:Int)+1)=((i+1:Nat):Int):=by rw [wrap_i64 (by omega) (by omega)]; omega
    exact aK (cs:=[(false,[.bool]),(false,[.int .i64])]) (b8,((i+1:Nat):Int),()) (us.length-(i+1)) rfl (by omega) (congrArg (fun z=>[Value.bool b8,Value.int .i64 z]) hw) ⟨i+1,rfl,by omega,rfl,rfl,hq.trans (hst g3)⟩
  ·have g2:=of_decide_eq_false g2;refine ⟨?_,rfl⟩;rw [decide_eq_true (hq.2 (by rw [List.drop_eq_nil_of_le (by omega),List.drop_eq_nil_of_le (by omega)]))]
def jr (x y:fa):Bool:=decide (x.num=y.num) && decide (x.aC=y.aC)
theorem EQ (x:fa):jr x x=true:=by unfold jr; simp
theorem yB {h : Hp} {p q : Option Addr} {l m c d : Nat} {x y : fa} (v : qf h p l x.aC) (w : qf h q m y.aC) (hl : x.aC.length ≤ 2 ^ 60) :
    HC Tryz.prog 80 #[lW p l c x, lW q m d y] h fun r h' => r = .bool (jr x y) ∧ Ext h h' := by
  refine aL (args := [.agg #[.slice p l c, .int .u32 x.num], .agg #[.slice q m d, .int .u32 y.num]]) mixed Tryz.func80 (by kernel_rfl) (xg p l c x.num q m d y.num) ?_;unfold uF;refine aW ?_;intro h1 b1 e1 z1;refine aW ?_;intro h2 b2 e2 z2;have b1 := b1.af e2 (by simp);have e02 := e1.trans e2;rw [au, au];refine ad b1 ((x.num : Int), ()) rfl ?_;dsimp only [flat, aD, aj, nA, cA];refine ad b2 ((y.num : Int), ()) rfl ?_;dsimp only [flat, aD, aj, nA, cA];refine ah (fun g1 => ?_) (fun g1 => ?_)
  · have g1 : x.num = y.num := by have : (x.num : Int) = y.num := by simpa using g1
                                  omega
    refine ad b1 ((p, l, c), ()) rfl ?_;dsimp only [flat, aD, aj, nA, cA];refine ad b2 ((q, m, d), ()) rfl ?_;dsimp only [flat, aD, aj, nA, cA];refine aI (Dk (v.af e02 (by simp)) (w.af e02 (by simp)) hl) ?_;refine ⟨?_, e02⟩;unfold jr;rw [decide_eq_true g1];rfl
  · have g1 : ¬ x.num = y.num := by have : ¬ (x.num : Int) = y.num := by simpa using g1
                                    omega
    refine ⟨?_, e02⟩;unfold jr;rw [decide_eq_false g1];rfl
theorem zG {h : Hp} {p q : Option Addr} {l m c d : Nat} {x y : fa} (v : qf h p l x.aC) (w : qf h q m y.aC) (hl : x.aC.length ≤ 2 ^ 60) :
    HC Tryz.prog 75 #[lW p l c x, lW q m d y] h fun r h' => r = .bool (jr x y) ∧ Ext h h' := by
  refine aL (args := [.agg #[.slice p l c, .int .u32 x.num], .agg #[.slice q m d, .int .u32 y.num]]) mixed Tryz.func75 (by kernel_rfl) (mj p l c x.num q m d y.num) ?_;unfold iQ;refine aW ?_;intro h1 b1 e1 z1;refine aW ?_;intro h2 b2 e2 z2;have b1 := b1.af e2 (by simp);have e02 := e1.trans e2;have v := v.af e02 (by simp);have w := w.af e02 (by simp);have hv := v.len;have hw := w.len;rw [au, au];refine ad b1 ((x.num : Int), ()) rfl ?_;dsimp only [flat, aD, aj, nA, cA];refine ad b2 ((y.num : Int), ()) rfl ?_;dsimp only [flat, aD, aj, nA, cA];refine ah (fun g1 => ?_) (fun g1 => ?_)
  · have g1 : ¬ x.num = y.num := by have : ¬ (x.num : Int) = y.num := by simpa using g1
                                    omega
    refine ⟨?_, e02⟩;unfold jr;rw [decide_eq_false g1];rfl
  · have g1 : x.num = y.num := by have : (x.num : Int) = y.num := by simpa using g1
                                  omega
    have hB : jr x y = decide (x.aC = y.aC) := by
      unfold jr;rw [decide_eq_true g1];rfl
    rw [hB];refine ad b1 ((p, l, c), ()) rfl ?_;dsimp only [flat, aD, aj, nA, cA];refine ad b2 ((q, m, d), ()) rfl ?_;dsimp only [flat, aD, aj, nA, cA];refine ah (fun g2 => ?_) (fun g2 => ?_)
    · have g2 : ¬ (l : Int) = (m : Int) := by simpa using g2
      exact ⟨by rw [decide_eq_false (fun e => by rw [e] at hv; omega)], e02⟩
    · have g2 : (l : Int) = (m : Int) := by simpa using g2
      refine aY (cs := [(false, [.bool]), (false, [.int .i64])]) (fun z n h' => ∃ (i : Nat), z.2.1 = (i : Int) ∧ i ≤ x.aC.length ∧ n = x.aC.length - i ∧ h2 = h' ∧ (x.aC = y.aC ↔ x.aC.drop i = y.aC.drop i)) (false, (0 : Int), ()) x.aC.length rfl
        ⟨0, rfl, by omega, by omega, rfl, Iff.rfl⟩ ?_
      rintro ⟨b8, n8, ⟨⟩⟩ n h3 ⟨i, hi, hile, rfl, rfl, hq⟩;simp only at hi;subst hi;dsimp only [flat, aD, aj, nA, cA];refine ad b1 ((p, l, c), ()) rfl ?_;dsimp only [flat, aD, aj, nA, cA];refine ah (fun g2 => ?_) (fun g2 => ?_)
      · have g2 := of_decide_eq_true g2
        have hi1 : i < x.aC.length := by omega
        have hi2 : i < y.aC.length := by omega
        obtain ⟨a, rfl, hc⟩ := v.cells i hi1;obtain ⟨a', rfl, hc'⟩ := w.cells i hi2;have hst := tf hi1 hi2;have hno := xp hi1 hi2;generalize x.aC[i] = t at hc hst hno;generalize y.aC[i] = u at hc' hst hno;refine ad b1 ((some a, l, c), ()) rfl ?_;dsimp only [flat, aD, aj, nA, cA];refine aA ⟨by omega, by omega⟩ (ai rfl ?_);rw [show Int.toNat (i : Int) = i by omega];refine aE (t.1, (t.2 : Int), ()) hc ?_;dsimp only [flat, aD, aj, nA, cA];refine ad b2 ((some a', m, d), ()) rfl ?_;dsimp only [flat, aD, aj, nA, cA];refine aA ⟨by omega, by omega⟩ (ai rfl ?_);refine aE (u.1, (u.2 : Int), ()) hc' ?_;dsimp only [flat, aD, aj, nA, cA];refine bK (b := decide (t ≠ u)) (fun K' hk => Hk _ _ _ _ _ _ _ _ (by rw [Ii]; exact hk)) ?_;refine ⟨⟨b2.cells _ rfl, b1.cells _ rfl, trivial⟩, ?_⟩;refine ah (fun g3 => ?_) (fun g3 => ?_)
        · exact ⟨by rw [decide_eq_false (hno (of_decide_eq_true g3))], e02⟩
        · have g3 : t = u := by simpa using g3
          have hw : IntKind.wrap .i64 ((i : Int) + 1) = ((i + 1 : Nat) : Int) := by rw [wrap_i64 (by omega) (by omega)]; omega
          exact aK (cs := [(false, [.bool]), (false, [.int .i64])]) (b8, ((i + 1 : Nat) : Int), ()) (x.aC.length - (i + 1)) rfl (by omega) (congrArg (fun z => [Value.bool b8, Value.int .i64 z]) hw) ⟨i + 1, rfl, by omega, rfl, rfl, hq.trans (hst g3)⟩
      · have g2 := of_decide_eq_false g2
        refine ⟨?_, e02⟩;rw [decide_eq_true (hq.2 (by rw [List.drop_eq_nil_of_le (by omega), List.drop_eq_nil_of_le (by omega)]))]
theorem Ep {P:Program} {L:Lp} {K:Value→Hp→Prop} {h:Hp} {k:Option Addr→Nat→Nat→T} {t e:TypeId} {z:Value} {sz by':Nat} (ht:P.underlying t=some (.slice e)) (hinf:(P.info? e).map (fun i=>(i.zero,i.size,i.bytes))=some (some z,sz,by'))
  (hk:∀ h' ,SL h' h.size e sz (some ⟨h.size,0,none⟩) 0 0 []→Ext h h'→k (some ⟨h.size,0,none⟩) 0 0 L K h'):T.aS P (Instr.buildSlice t 0 #[]) false [(false,[.slice 0])] k L K h:=by
 obtain ⟨i,hi,hz,rfl,rfl⟩:=fF hinf;refine bN ?_;unfold Instr.buildSlice;rw [ak,ay ht];simp only;rw [ak,aT hi];simp only [Nat.zero_mul];rw [if_neg (by omega)];have h0:∀ f:Nat→Value,Array.map f (Array.range 0)=#[]:=fun f=>by simp
 simp only [h0];refine ⟨_,_,_,rfl,hk _ ?_ (Ext.push h _)⟩;exact ⟨rfl,by simp,h.size,[],[],rfl,Nat.le_refl _,⟨Nat.le_refl _,by omega⟩,by simpa using aM.new h e [],by simp⟩
theorem rP {h:Hp} {a:Addr}:∀ (us:dw) (k:Nat),(∀ i,(hi:i<us.length)→aH h (a.add ((k+i)*2)) 0 (cj us[i]))→aH h a (k*2) (us.map cj).flatten
 | [],_,_=>trivial
 | t::us,k,hc=>by
  have h0:=hc 0 (by simp);obtain ⟨h1,h2,_⟩:=h0;rw [add_add] at h1 h2;have ih:=rP us (k+1) (fun i hi=>by
   have:=hc (i+1) (by simpa using hi)
   rw [show k+(i+1)=k+1+i by omega] at this;exact this)
  rw [show (k+1)*2=k*2+1+1 by omega] at ih;exact ⟨h1,by simpa using h2,ih⟩
theorem qf.flat {h:Hp} {a:Addr} {l:Nat} {us:dw} (v:qf h (some a) l us):aH h a 0 (us.map cj).flatten:=by
 have:=rP (h:=h) (a:=a) us 0 (fun i hi=>by
  obtain ⟨a',e,hc⟩:=v.cells i hi;cases e;rw [Nat.zero_add];exact hc)
 simpa using this
theorem C' (us:dw):(us.map cj).flatten.all dA=true:=by
 rw [List.all_eq_true];intro v hv;obtain ⟨x,hx,hv⟩:=List.mem_flatten.1 hv;obtain ⟨t,_,rfl⟩:=List.mem_map.1 hx;simp only [cj,List.mem_cons,List.not_mem_nil,or_false] at hv;rcases hv with rfl | rfl <;> rfl
end Go.Sx
set_option linter.unusedVariables false
set_option linter.unusedSimpArgs false
set_option maxRecDepth 100000
namespace Go.Sx.Ob
open Go.Proofs
variable {h':Hp} {e1 e2:TypeId} {sec:Nat}
theorem _root_.Go.Sx.Ch.st {h a b:Hp} {g:Nat} (e:Ext h a) (k:Ch [g] a b) (hg:h.size≤g):Ext h b:=Ch.trans e k (fun i hi hl=>by simp at hi; omega)
def mX (nm:Nat→ByteArray) (x9:Nat→Int):List Value:=(List.range 43).flatMap fun k=>[.string (nm k),.int .u8 (x9 k),.int .i64 (bX.getD k 0:Nat)]
def zK (h:Hp):Prop:=∃ nm x9 e f,h[1]?=some (.cells (mX nm x9).toArray e f)
theorem zK.af {ws:List Nat} {h:Hp} (t:zK h) (k:Ch ws h h') (hw:1∉ws):zK h':=by
 obtain ⟨nm,x9,e,f,ht⟩:=t;exact ⟨nm,x9,e,f,k.get ht hw⟩
theorem xL {α β:Type} (f:α→List β) (m:Nat) (hf:∀ x,(f x).length=m):∀ (l:List α) (i j:Nat),j<m→(l.flatMap f)[i*m+j]?=(l[i]?).bind fun x=>(f x)[j]?
 | [],i,j,hj=>by simp
 | x::l,0,j,hj=>by
  rw [List.flatMap_cons,List.getElem?_append_left (by rw [hf]; omega)]
  simp
 | x::l,i+1,j,hj=>by
  rw [List.flatMap_cons,List.getElem?_append_right (by rw [hf,Nat.add_mul]; omega),hf,show (i+1)*m+j-m=i*m+j by rw [Nat.add_mul]; omega,xL f m hf l i j hj]
  simp
theorem zK.cells {h:Hp} (t:zK h) {k:Nat} (hk:k<43):∃ (s:ByteArray) (b:Int),aH h ((⟨1,0,none⟩:Addr).add (k*3)) 0 [.string s,.int .u8 b,.int .i64 (bX.getD k 0:Nat)]:=by
 obtain ⟨nm,x9,e,f,ht⟩:=t;refine ⟨nm k,x9 k,?_⟩;have hg:∀ j,j<3→(mX nm x9)[k*3+j]?=([.string (nm k),.int .u8 (x9 k),.int .i64 (bX.getD k 0:Nat)]:List Value)[j]?:=by
  intro j hj;unfold mX;rw [xL _ 3 (by simp) _ _ _ hj];simp [hk]
 rw [au];refine ⟨?_,?_,?_,trivial⟩
 ·rw [au,lH ht]
  have:=hg 0 (by omega)
  simpa using this
 ·rw [au,lH ht]
  have:=hg 1 (by omega)
  simpa using this
 ·rw [au,lH ht]
  have:=hg 2 (by omega)
  simpa using this
theorem DO {h:Hp} (t:zK h) (op:Int) (h1:-9223372036854775808≤op) (h2:op≤9223372036854775807) :
  HC Tryz.prog 90 #[.int .i64 op] h fun w h'=>∃ (s:ByteArray) (b:Int),w=.tuple #[.agg #[.string s,.int .u8 b,.int .i64 (cY op:Nat)],.bool (decide (cY op≠0))]∧Ext h h':=by
 refine aL (args:=[.int .i64 op]) mixed Tryz.func90 (by kernel_rfl) (Cp op) ?_;unfold BQ;refine aW ?_;intro g1 b1 e1 z1;have hz:∀ (hh:cY op=0),(∃ (s:ByteArray) (b:Int),(Value.tuple #[.agg #[.string ⟨#[]⟩,.int .u8 0,.int .i64 0],.bool false])=.tuple #[.agg #[.string s,.int .u8 b,.int .i64 (cY op:Nat)],.bool (decide (cY op≠0))]) :=
  fun hh=>⟨⟨#[]⟩,0,by rw [hh]; rfl⟩
 refine ah (fun q=>?_) (fun q=>?_)
 ·have q:=of_decide_eq_true q;refine an b1 rfl (by simp) ?_;intro g2 b2 k2 z2;refine ad b2 ((⟨#[]⟩:ByteArray),(0:Int),(0:Int),()) rfl ?_;obtain ⟨s,b,e⟩:=hz (by unfold cY; rw [if_pos q]);exact ⟨s,b,e,Ch.trans e1 k2 (fun i hi hl=>by simp at hi; omega)⟩
 refine ah (fun r=>?_) (fun r=>?_)
 ·have r:=of_decide_eq_true r;refine an b1 rfl (by simp) ?_;intro g2 b2 k2 z2;refine ad b2 ((⟨#[]⟩:ByteArray),(0:Int),(0:Int),()) rfl ?_;obtain ⟨s,b,e⟩:=hz (by
   by_cases g:cY op=0
   ·exact g
   ·have:=Hf op g
    omega)
  exact ⟨s,b,e,Ch.trans e1 k2 (fun i hi hl=>by simp at hi; omega)⟩
 ·have q:=of_decide_eq_false q;have r:=of_decide_eq_false r;rw [wrap_i64 (by omega) (by omega)];refine aA ⟨by omega,by omega⟩ ?_;obtain ⟨s,b,hc⟩:=(t.af e1 (by simp)).cells (k:=(op-1).toNat) (by omega);refine aE (s,b,((bX.getD (op-1).toNat 0:Nat):Int),()) hc ?_;dsimp only [flat,aD,aj,nA,cA];refine an b1 rfl (by simp) ?_;intro g2 b2 k2 z2;refine ad b2 (s,b,((bX.getD (op-1).toNat 0:Nat):Int),()) rfl ?_;refine ⟨s,b,?_,Ch.trans e1 k2 (fun i hi hl=>by simp at hi; omega)⟩;have h3:cY op=bX.getD (op-1).toNat 0:=by unfold cY; rw [if_neg (by omega)]
  have h4:cY op≠0:=by
   rw [h3]
   have:∀ k:Fin 43,bX.getD k.1 0≠0:=by decide
   exact this ⟨(op-1).toNat,by omega⟩
  rw [decide_eq_true h4,h3]
theorem Bz {h:Hp} (t:zK h) (op:Int) (h1:-9223372036854775808≤op) (h2:op≤9223372036854775807) :
  HC Tryz.prog 51 #[.int .i64 op] h fun w h'=>w=.bool (DJ op)∧Ext h h':=by
 refine aL (args:=[.int .i64 op]) mixed Tryz.func51 (by kernel_rfl) (wS op) ?_;unfold uo;refine aF (DO t op h1 h2) ?_;rintro _ g1 ⟨s,b,rfl,e1⟩;refine ⟨(s,b,((cY op:Nat):Int),decide (cY op≠0),()),rfl,?_⟩;dsimp only [flat,aD,aj,nA,cA];refine aW ?_;intro g2 b2 e2 z2;refine an b2 rfl (by simp) ?_;intro g3 b3 k3 z3;have e3:=(e1.trans e2).st k3 (by have:=e1.size; omega);have b3:aM g3 g1.size 158 [.string s,.int .u8 b,.int .i64 (cY op:Nat)]:=b3;rw [au];refine ad b3 (((cY op:Nat):Int),()) rfl ?_;dsimp only [flat,aD,aj,nA,cA];have hc:=tq op;refine ah (fun q=>?_) (fun q=>?_)
 ·have q:((cY op:Nat):Int)=12:=by simpa using q
  refine ⟨?_,e3⟩;unfold DJ;rw [decide_eq_true (by omega)]
 ·have q:¬ ((cY op:Nat):Int)=12:=by simpa using q
  refine ad b3 (((cY op:Nat):Int),()) rfl ?_;refine ⟨?_,e3⟩;unfold DJ
  by_cases r:cY op=13
  ·rw [r]; rfl
  ·rw [decide_eq_false (by omega)]
   congr 1
   simp
   omega
theorem C2 (n:Int):(n==IntKind.wrap .i32 (IntKind.wrap .i8 n))=(decide (-128≤n) && decide (n≤127)):=by
 have h1:IntKind.wrap .i8 n=if n % 256<128 then n % 256 else n % 256-256:=by
  simp only [IntKind.wrap,IntKind.bits,IntKind.signed,Bool.true_and];split <;> rename_i hh
  ·have:=of_decide_eq_true hh
   rw [if_neg (by omega)];rfl
  ·have:¬ _:=fun h=>hh (decide_eq_true h)
   rw [if_pos (by omega)];rfl
 have h2:IntKind.wrap .i32 (IntKind.wrap .i8 n)=IntKind.wrap .i8 n:=by
  have:-128≤IntKind.wrap .i8 n∧IntKind.wrap .i8 n≤127:=by rw [h1]; split <;> omega
  generalize IntKind.wrap .i8 n=m at this;simp only [IntKind.wrap,IntKind.bits,IntKind.signed,Bool.true_and];split <;> rename_i hh
  ·have:=of_decide_eq_true hh; omega
  ·have:¬ _:=fun h=>hh (decide_eq_true h); omega
 rw [h2,h1]
 by_cases g:-128≤n∧n≤127
 ·rw [decide_eq_true g.1,decide_eq_true g.2]
  simp
  split <;> omega
 ·have:(decide (-128≤n) && decide (n≤127))=false:=by
   rw [Bool.and_eq_false_iff]
   simp
   omega
  rw [this]
  simp
  split <;> omega
theorem Bl (n:Int):(n==IntKind.wrap .i32 (IntKind.wrap .i16 n))=(decide (-32768≤n) && decide (n≤32767)):=by
 have h1:IntKind.wrap .i16 n=if n % 65536<32768 then n % 65536 else n % 65536-65536:=by
  simp only [IntKind.wrap,IntKind.bits,IntKind.signed,Bool.true_and];split <;> rename_i hh
  ·have:=of_decide_eq_true hh
   rw [if_neg (by omega)];rfl
  ·have:¬ _:=fun h=>hh (decide_eq_true h)
   rw [if_pos (by omega)];rfl
 have h2:IntKind.wrap .i32 (IntKind.wrap .i16 n)=IntKind.wrap .i16 n:=by
  have:-32768≤IntKind.wrap .i16 n∧IntKind.wrap .i16 n≤32767:=by rw [h1]; split <;> omega
  generalize IntKind.wrap .i16 n=m at this;simp only [IntKind.wrap,IntKind.bits,IntKind.signed,Bool.true_and];split <;> rename_i hh
  ·have:=of_decide_eq_true hh; omega
  ·have:¬ _:=fun h=>hh (decide_eq_true h); omega
 rw [h2,h1]
 by_cases g:-32768≤n∧n≤32767
 ·rw [decide_eq_true g.1,decide_eq_true g.2]
  simp
  split <;> omega
 ·have:(decide (-32768≤n) && decide (n≤32767))=false:=by
   rw [Bool.and_eq_false_iff]
   simp
   omega
  rw [this]
  simp
  split <;> omega
theorem bf (h:Hp) (n f:Int):uj Tryz.prog 173 [.int .i32 n,.int .i64 f] h (.bool (oU n f)):=by
 refine dU mixed Tryz.func173 (by kernel_rfl) (tp n f) ?_;unfold qC;rw [C2,Bl];refine ah (fun q=>?_) (fun q=>?_)
 ·have q:f=1:=by simpa using q
  exact ⟨by unfold oU; rw [if_pos q],rfl⟩
 have q:¬ f=1:=by simpa using q
 refine ah (fun r=>?_) (fun r=>?_)
 ·have r:f=2:=by simpa using r
  exact ⟨by unfold oU; rw [if_neg q,if_pos r],rfl⟩
 have r:¬ f=2:=by simpa using r
 exact ⟨by unfold oU; rw [if_neg q,if_neg r]; rfl,rfl⟩
theorem vM (h:Hp) (n:Int):uj Tryz.prog 79 [.int .i64 n] h (.bool (qG n)):=by
 refine dU mixed Tryz.func79 (by kernel_rfl) (vf n) ?_;unfold rN;have hf:¬ (1≤n∧n≤256)→qG n=false:=by
  intro g;cases hp:qG n with
  | false=>rfl
  | true =>
   exfalso;unfold qG at hp;simp only [Bool.or_eq_true,decide_eq_true_eq] at hp;omega
 refine ah (fun q=>?_) (fun q=>?_)
 ·have q:=of_decide_eq_true q;refine ah (fun r=>?_) (fun r=>?_)
  ·have r:=of_decide_eq_true r;refine ⟨?_,rfl⟩;obtain ⟨k,rfl,hk⟩:∃ k:Nat,n=((k+1:Nat):Int)∧k<256:=⟨(n-1).toNat,by omega,by omega⟩
   have:∀ k:Fin 256,(IntKind.wrap .i64 (((BitVec.toNat ((BitVec.ofInt 64 ((k.1+1:Nat):Int)) &&& (BitVec.ofInt 64 (IntKind.wrap .i64 (((k.1+1:Nat):Int)-(1:Int)))))):Nat):Int)==(0:Int))=qG ((k.1+1:Nat):Int):=by
    decide +kernel
   rw [this ⟨k,hk⟩]
  ·have r:=of_decide_eq_false r;exact ⟨by rw [hf (by omega)],rfl⟩
 ·have q:=of_decide_eq_false q;exact ⟨by rw [hf (by omega)],rfl⟩
theorem bI (h:Hp) (n m:Int):uj Tryz.prog 172 [.int .i64 n,.int .i64 m] h (.bool (pH n m)):=by
 refine dU mixed Tryz.func172 (by kernel_rfl) (xh n m) ?_;unfold uH;refine ah (fun q=>?_) (fun q=>?_)
 ·have q:=of_decide_eq_true q;refine ⟨?_,rfl⟩;unfold pH;rw [decide_eq_true (show 0≤n by omega)];rfl
 ·have q:=of_decide_eq_false q;refine ⟨?_,rfl⟩;unfold pH;rw [decide_eq_false (show ¬ 0≤n by omega)];rfl
theorem cL (a b:Int):(a==b)=decide (a=b):=rfl
def cH (op a b n form:Int):Value:=.agg #[.int .i64 op,.int .i64 a,.int .i64 b,.int .i32 n,.int .i64 form]
theorem GM (h:Hp) (op a b n form:Int):HC Tryz.prog 143 #[cH op a b n form,.int .i64 1] h fun w h'=>w=.bool (bG 1 a b n)∧Ext h h':=by
 refine aL (args:=[cH op a b n form,.int .i64 1]) mixed Tryz.func143 (by kernel_rfl) (ni op a b n form) ?_;unfold jy;refine aW ?_;intro g1 b1 e1 z1
 try simp only [au]
 repeat' (first
  | (refine ad b1 (_,()) rfl ?_; dsimp only [flat,aD,aj,nA,cA])
  | (refine aI (bI _ _ _) ?_)
  | (refine aI (bf _ _ _) ?_)
  | (refine ah (fun q=>?_) (fun q=>?_)))
 all_goals (refine ⟨?_,e1⟩; first | (simp_all [bG,cL]; done) | (simp_all [bG,cL] <;> simp [pH] <;> omega))
theorem JP (h:Hp) (op a b n form:Int):HC Tryz.prog 144 #[cH op a b n form,.int .i64 1] h fun w h'=>w=.bool (nR 1 n form)∧Ext h h':=by
 refine aL (args:=[cH op a b n form,.int .i64 1]) mixed Tryz.func144 (by kernel_rfl) (rb op a b n form) ?_;unfold mP;refine aW ?_;intro g1 b1 e1 z1
 try simp only [au]
 repeat' (first
  | (refine ad b1 (_,()) rfl ?_; dsimp only [flat,aD,aj,nA,cA])
  | (refine aI (bI _ _ _) ?_)
  | (refine aI (bf _ _ _) ?_)
  | (refine ah (fun q=>?_) (fun q=>?_)))
 all_goals (refine ⟨?_,e1⟩; first | (simp_all [nR,cL]; done) | (simp_all [nR,cL] <;> omega))
theorem GK (h:Hp) (op a b n form:Int):HC Tryz.prog 143 #[cH op a b n form,.int .i64 2] h fun w h'=>w=.bool (bG 2 a b n)∧Ext h h':=by
 refine aL (args:=[cH op a b n form,.int .i64 2]) mixed Tryz.func143 (by kernel_rfl) (nk op a b n form) ?_;unfold jl;refine aW ?_;intro g1 b1 e1 z1
 try simp only [au]
 repeat' (first
  | (refine ad b1 (_,()) rfl ?_; dsimp only [flat,aD,aj,nA,cA])
  | (refine aI (bI _ _ _) ?_)
  | (refine aI (bf _ _ _) ?_)
  | (refine ah (fun q=>?_) (fun q=>?_)))
 all_goals (refine ⟨?_,e1⟩; first | (simp_all [bG,cL]; done) | (simp_all [bG,cL] <;> simp [pH] <;> omega))
theorem I8 (h:Hp) (op a b n form:Int):HC Tryz.prog 144 #[cH op a b n form,.int .i64 2] h fun w h'=>w=.bool (nR 2 n form)∧Ext h h':=by
 refine aL (args:=[cH op a b n form,.int .i64 2]) mixed Tryz.func144 (by kernel_rfl) (qR op a b n form) ?_;unfold mY;refine aW ?_;intro g1 b1 e1 z1
 try simp only [au]
 repeat' (first
  | (refine ad b1 (_,()) rfl ?_; dsimp only [flat,aD,aj,nA,cA])
  | (refine aI (bI _ _ _) ?_)
  | (refine aI (bf _ _ _) ?_)
  | (refine ah (fun q=>?_) (fun q=>?_)))
 all_goals (refine ⟨?_,e1⟩; first | (simp_all [nR,cL]; done) | (simp_all [nR,cL] <;> omega))
theorem Gn (h:Hp) (op a b n form:Int):HC Tryz.prog 143 #[cH op a b n form,.int .i64 3] h fun w h'=>w=.bool (bG 3 a b n)∧Ext h h':=by
 refine aL (args:=[cH op a b n form,.int .i64 3]) mixed Tryz.func143 (by kernel_rfl) (nw op a b n form) ?_;unfold jP;refine aW ?_;intro g1 b1 e1 z1
 try simp only [au]
 repeat' (first
  | (refine ad b1 (_,()) rfl ?_; dsimp only [flat,aD,aj,nA,cA])
  | (refine aI (bI _ _ _) ?_)
  | (refine aI (bf _ _ _) ?_)
  | (refine ah (fun q=>?_) (fun q=>?_)))
 all_goals (refine ⟨?_,e1⟩; first | (simp_all [bG,cL]; done) | (simp_all [bG,cL] <;> simp [pH] <;> omega))
theorem Jy (h:Hp) (op a b n form:Int):HC Tryz.prog 144 #[cH op a b n form,.int .i64 3] h fun w h'=>w=.bool (nR 3 n form)∧Ext h h':=by
 refine aL (args:=[cH op a b n form,.int .i64 3]) mixed Tryz.func144 (by kernel_rfl) (rn op a b n form) ?_;unfold mS;refine aW ?_;intro g1 b1 e1 z1
 try simp only [au]
 repeat' (first
  | (refine ad b1 (_,()) rfl ?_; dsimp only [flat,aD,aj,nA,cA])
  | (refine aI (bI _ _ _) ?_)
  | (refine aI (bf _ _ _) ?_)
  | (refine ah (fun q=>?_) (fun q=>?_)))
 all_goals (refine ⟨?_,e1⟩; first | (simp_all [nR,cL]; done) | (simp_all [nR,cL] <;> omega))
theorem F8 (h:Hp) (op a b n form:Int):HC Tryz.prog 143 #[cH op a b n form,.int .i64 4] h fun w h'=>w=.bool (bG 4 a b n)∧Ext h h':=by
 refine aL (args:=[cH op a b n form,.int .i64 4]) mixed Tryz.func143 (by kernel_rfl) (nj op a b n form) ?_;unfold jE;refine aW ?_;intro g1 b1 e1 z1
 try simp only [au]
 repeat' (first
  | (refine ad b1 (_,()) rfl ?_; dsimp only [flat,aD,aj,nA,cA])
  | (refine aI (bI _ _ _) ?_)
  | (refine aI (bf _ _ _) ?_)
  | (refine ah (fun q=>?_) (fun q=>?_)))
 all_goals (refine ⟨?_,e1⟩; first | (simp_all [bG,cL]; done) | (simp_all [bG,cL] <;> simp [pH] <;> omega))
theorem I6 (h:Hp) (op a b n form:Int):HC Tryz.prog 144 #[cH op a b n form,.int .i64 4] h fun w h'=>w=.bool (nR 4 n form)∧Ext h h':=by
 refine aL (args:=[cH op a b n form,.int .i64 4]) mixed Tryz.func144 (by kernel_rfl) (rp op a b n form) ?_;unfold na;refine aW ?_;intro g1 b1 e1 z1
 try simp only [au]
 repeat' (first
  | (refine ad b1 (_,()) rfl ?_; dsimp only [flat,aD,aj,nA,cA])
  | (refine aI (bI _ _ _) ?_)
  | (refine aI (bf _ _ _) ?_)
  | (refine ah (fun q=>?_) (fun q=>?_)))
 all_goals (refine ⟨?_,e1⟩; first | (simp_all [nR,cL]; done) | (simp_all [nR,cL] <;> omega))
theorem F2 (h:Hp) (op a b n form:Int):HC Tryz.prog 143 #[cH op a b n form,.int .i64 5] h fun w h'=>w=.bool (bG 5 a b n)∧Ext h h':=by
 refine aL (args:=[cH op a b n form,.int .i64 5]) mixed Tryz.func143 (by kernel_rfl) (nt op a b n form) ?_;unfold jA;refine aW ?_;intro g1 b1 e1 z1
 try simp only [au]
 repeat' (first
  | (refine ad b1 (_,()) rfl ?_; dsimp only [flat,aD,aj,nA,cA])
  | (refine aI (bI _ _ _) ?_)
  | (refine aI (bf _ _ _) ?_)
  | (refine ah (fun q=>?_) (fun q=>?_)))
 all_goals (refine ⟨?_,e1⟩; first | (simp_all [bG,cL]; done) | (simp_all [bG,cL] <;> simp [pH] <;> omega))
theorem Jm (h:Hp) (op a b n form:Int):HC Tryz.prog 144 #[cH op a b n form,.int .i64 5] h fun w h'=>w=.bool (nR 5 n form)∧Ext h h':=by
 refine aL (args:=[cH op a b n form,.int .i64 5]) mixed Tryz.func144 (by kernel_rfl) (qQ op a b n form) ?_;unfold mT;refine aW ?_;intro g1 b1 e1 z1
 try simp only [au]
 repeat' (first
  | (refine ad b1 (_,()) rfl ?_; dsimp only [flat,aD,aj,nA,cA])
  | (refine aI (bI _ _ _) ?_)
  | (refine aI (bf _ _ _) ?_)
  | (refine ah (fun q=>?_) (fun q=>?_)))
 all_goals (refine ⟨?_,e1⟩; first | (simp_all [nR,cL]; done) | (simp_all [nR,cL] <;> omega))
theorem Hj (h:Hp) (op a b n form:Int):HC Tryz.prog 143 #[cH op a b n form,.int .i64 6] h fun w h'=>w=.bool (bG 6 a b n)∧Ext h h':=by
 refine aL (args:=[cH op a b n form,.int .i64 6]) mixed Tryz.func143 (by kernel_rfl) (nC op a b n form) ?_;unfold jL;refine aW ?_;intro g1 b1 e1 z1
 try simp only [au]
 repeat' (first
  | (refine ad b1 (_,()) rfl ?_; dsimp only [flat,aD,aj,nA,cA])
  | (refine aI (bI _ _ _) ?_)
  | (refine aI (bf _ _ _) ?_)
  | (refine ah (fun q=>?_) (fun q=>?_)))
 all_goals (refine ⟨?_,e1⟩; first | (simp_all [bG,cL]; done) | (simp_all [bG,cL] <;> simp [pH] <;> omega))
theorem J5 (h:Hp) (op a b n form:Int):HC Tryz.prog 144 #[cH op a b n form,.int .i64 6] h fun w h'=>w=.bool (nR 6 n form)∧Ext h h':=by
 refine aL (args:=[cH op a b n form,.int .i64 6]) mixed Tryz.func144 (by kernel_rfl) (rh op a b n form) ?_;unfold mM;refine aW ?_;intro g1 b1 e1 z1
 try simp only [au]
 repeat' (first
  | (refine ad b1 (_,()) rfl ?_; dsimp only [flat,aD,aj,nA,cA])
  | (refine aI (bI _ _ _) ?_)
  | (refine aI (bf _ _ _) ?_)
  | (refine ah (fun q=>?_) (fun q=>?_)))
 all_goals (refine ⟨?_,e1⟩; first | (simp_all [nR,cL]; done) | (simp_all [nR,cL] <;> omega))
theorem Hi (h:Hp) (op a b n form:Int):HC Tryz.prog 143 #[cH op a b n form,.int .i64 7] h fun w h'=>w=.bool (bG 7 a b n)∧Ext h h':=by
 refine aL (args:=[cH op a b n form,.int .i64 7]) mixed Tryz.func143 (by kernel_rfl) (nz op a b n form) ?_;unfold jq;refine aW ?_;intro g1 b1 e1 z1
 try simp only [au]
 repeat' (first
  | (refine ad b1 (_,()) rfl ?_; dsimp only [flat,aD,aj,nA,cA])
  | (refine aI (bI _ _ _) ?_)
  | (refine aI (bf _ _ _) ?_)
  | (refine ah (fun q=>?_) (fun q=>?_)))
 all_goals (refine ⟨?_,e1⟩; first | (simp_all [bG,cL]; done) | (simp_all [bG,cL] <;> simp [pH] <;> omega))
theorem I4 (h:Hp) (op a b n form:Int):HC Tryz.prog 144 #[cH op a b n form,.int .i64 7] h fun w h'=>w=.bool (nR 7 n form)∧Ext h h':=by
 refine aL (args:=[cH op a b n form,.int .i64 7]) mixed Tryz.func144 (by kernel_rfl) (rk op a b n form) ?_;unfold mV;refine aW ?_;intro g1 b1 e1 z1
 try simp only [au]
 repeat' (first
  | (refine ad b1 (_,()) rfl ?_; dsimp only [flat,aD,aj,nA,cA])
  | (refine aI (bI _ _ _) ?_)
  | (refine aI (bf _ _ _) ?_)
  | (refine ah (fun q=>?_) (fun q=>?_)))
 all_goals (refine ⟨?_,e1⟩; first | (simp_all [nR,cL]; done) | (simp_all [nR,cL] <;> omega))
theorem G3 (h:Hp) (op a b n form:Int):HC Tryz.prog 143 #[cH op a b n form,.int .i64 8] h fun w h'=>w=.bool (bG 8 a b n)∧Ext h h':=by
 refine aL (args:=[cH op a b n form,.int .i64 8]) mixed Tryz.func143 (by kernel_rfl) (nF op a b n form) ?_;unfold jV;refine aW ?_;intro g1 b1 e1 z1
 try simp only [au]
 repeat' (first
  | (refine ad b1 (_,()) rfl ?_; dsimp only [flat,aD,aj,nA,cA])
  | (refine aI (bI _ _ _) ?_)
  | (refine aI (bf _ _ _) ?_)
  | (refine ah (fun q=>?_) (fun q=>?_)))
 all_goals (refine ⟨?_,e1⟩; first | (simp_all [bG,cL]; done) | (simp_all [bG,cL] <;> simp [pH] <;> omega))
theorem IT (h:Hp) (op a b n form:Int):HC Tryz.prog 144 #[cH op a b n form,.int .i64 8] h fun w h'=>w=.bool (nR 8 n form)∧Ext h h':=by
 refine aL (args:=[cH op a b n form,.int .i64 8]) mixed Tryz.func144 (by kernel_rfl) (qI op a b n form) ?_;unfold nh;refine aW ?_;intro g1 b1 e1 z1
 try simp only [au]
 repeat' (first
  | (refine ad b1 (_,()) rfl ?_; dsimp only [flat,aD,aj,nA,cA])
  | (refine aI (bI _ _ _) ?_)
  | (refine aI (bf _ _ _) ?_)
  | (refine ah (fun q=>?_) (fun q=>?_)))
 all_goals (refine ⟨?_,e1⟩; first | (simp_all [nR,cL]; done) | (simp_all [nR,cL] <;> omega))
theorem HD (h:Hp) (op a b n form:Int):HC Tryz.prog 143 #[cH op a b n form,.int .i64 9] h fun w h'=>w=.bool (bG 9 a b n)∧Ext h h':=by
 refine aL (args:=[cH op a b n form,.int .i64 9]) mixed Tryz.func143 (by kernel_rfl) (nH op a b n form) ?_;unfold jX;refine aW ?_;intro g1 b1 e1 z1
 try simp only [au]
 repeat' (first
  | (refine ad b1 (_,()) rfl ?_; dsimp only [flat,aD,aj,nA,cA])
  | (refine aI (bI _ _ _) ?_)
  | (refine aI (bf _ _ _) ?_)
  | (refine ah (fun q=>?_) (fun q=>?_)))
 all_goals (refine ⟨?_,e1⟩; first | (simp_all [bG,cL]; done) | (simp_all [bG,cL] <;> simp [pH] <;> omega))
theorem Jp (h:Hp) (op a b n form:Int):HC Tryz.prog 144 #[cH op a b n form,.int .i64 9] h fun w h'=>w=.bool (nR 9 n form)∧Ext h h':=by
 refine aL (args:=[cH op a b n form,.int .i64 9]) mixed Tryz.func144 (by kernel_rfl) (rm op a b n form) ?_;unfold mQ;refine aW ?_;intro g1 b1 e1 z1
 try simp only [au]
 repeat' (first
  | (refine ad b1 (_,()) rfl ?_; dsimp only [flat,aD,aj,nA,cA])
  | (refine aI (bI _ _ _) ?_)
  | (refine aI (bf _ _ _) ?_)
  | (refine ah (fun q=>?_) (fun q=>?_)))
 all_goals (refine ⟨?_,e1⟩; first | (simp_all [nR,cL]; done) | (simp_all [nR,cL] <;> omega))
theorem Fc (h:Hp) (op a b n form:Int):HC Tryz.prog 143 #[cH op a b n form,.int .i64 10] h fun w h'=>w=.bool (bG 10 a b n)∧Ext h h':=by
 refine aL (args:=[cH op a b n form,.int .i64 10]) mixed Tryz.func143 (by kernel_rfl) (ml op a b n form) ?_;unfold iV;refine aW ?_;intro g1 b1 e1 z1
 try simp only [au]
 repeat' (first
  | (refine ad b1 (_,()) rfl ?_; dsimp only [flat,aD,aj,nA,cA])
  | (refine aI (bI _ _ _) ?_)
  | (refine aI (bf _ _ _) ?_)
  | (refine ah (fun q=>?_) (fun q=>?_)))
 all_goals (refine ⟨?_,e1⟩; first | (simp_all [bG,cL]; done) | (simp_all [bG,cL] <;> simp [pH] <;> omega))
theorem FW (h:Hp) (op a b n form:Int):HC Tryz.prog 144 #[cH op a b n form,.int .i64 10] h fun w h'=>w=.bool (nR 10 n form)∧Ext h h':=by
 refine aL (args:=[cH op a b n form,.int .i64 10]) mixed Tryz.func144 (by kernel_rfl) (pR op a b n form) ?_;unfold lQ;refine aW ?_;intro g1 b1 e1 z1
 try simp only [au]
 repeat' (first
  | (refine ad b1 (_,()) rfl ?_; dsimp only [flat,aD,aj,nA,cA])
  | (refine aI (bI _ _ _) ?_)
  | (refine aI (bf _ _ _) ?_)
  | (refine ah (fun q=>?_) (fun q=>?_)))
 all_goals (refine ⟨?_,e1⟩; first | (simp_all [nR,cL]; done) | (simp_all [nR,cL] <;> omega))
theorem Fl (h:Hp) (op a b n form:Int):HC Tryz.prog 143 #[cH op a b n form,.int .i64 11] h fun w h'=>w=.bool (bG 11 a b n)∧Ext h h':=by
 refine aL (args:=[cH op a b n form,.int .i64 11]) mixed Tryz.func143 (by kernel_rfl) (mK op a b n form) ?_;unfold iR;refine aW ?_;intro g1 b1 e1 z1
 try simp only [au]
 repeat' (first
  | (refine ad b1 (_,()) rfl ?_; dsimp only [flat,aD,aj,nA,cA])
  | (refine aI (bI _ _ _) ?_)
  | (refine aI (bf _ _ _) ?_)
  | (refine ah (fun q=>?_) (fun q=>?_)))
 all_goals (refine ⟨?_,e1⟩; first | (simp_all [bG,cL]; done) | (simp_all [bG,cL] <;> simp [pH] <;> omega))
theorem GA (h:Hp) (op a b n form:Int):HC Tryz.prog 144 #[cH op a b n form,.int .i64 11] h fun w h'=>w=.bool (nR 11 n form)∧Ext h h':=by
 refine aL (args:=[cH op a b n form,.int .i64 11]) mixed Tryz.func144 (by kernel_rfl) (pY op a b n form) ?_;unfold lX;refine aW ?_;intro g1 b1 e1 z1
 try simp only [au]
 repeat' (first
  | (refine ad b1 (_,()) rfl ?_; dsimp only [flat,aD,aj,nA,cA])
  | (refine aI (bI _ _ _) ?_)
  | (refine aI (bf _ _ _) ?_)
  | (refine ah (fun q=>?_) (fun q=>?_)))
 all_goals (refine ⟨?_,e1⟩; first | (simp_all [nR,cL]; done) | (simp_all [nR,cL] <;> omega))
theorem EX (h:Hp) (op a b n form:Int):HC Tryz.prog 143 #[cH op a b n form,.int .i64 12] h fun w h'=>w=.bool (bG 12 a b n)∧Ext h h':=by
 refine aL (args:=[cH op a b n form,.int .i64 12]) mixed Tryz.func143 (by kernel_rfl) (mf op a b n form) ?_;unfold iU;refine aW ?_;intro g1 b1 e1 z1
 try simp only [au]
 repeat' (first
  | (refine ad b1 (_,()) rfl ?_; dsimp only [flat,aD,aj,nA,cA])
  | (refine aI (bI _ _ _) ?_)
  | (refine aI (bf _ _ _) ?_)
  | (refine ah (fun q=>?_) (fun q=>?_)))
 all_goals (refine ⟨?_,e1⟩; first | (simp_all [bG,cL]; done) | (simp_all [bG,cL] <;> simp [pH] <;> omega))
theorem HT (h:Hp) (op a b n form:Int):HC Tryz.prog 144 #[cH op a b n form,.int .i64 12] h fun w h'=>w=.bool (nR 12 n form)∧Ext h h':=by
 refine aL (args:=[cH op a b n form,.int .i64 12]) mixed Tryz.func144 (by kernel_rfl) (pX op a b n form) ?_;unfold lB;refine aW ?_;intro g1 b1 e1 z1
 try simp only [au]
 repeat' (first
  | (refine ad b1 (_,()) rfl ?_; dsimp only [flat,aD,aj,nA,cA])
  | (refine aI (bI _ _ _) ?_)
  | (refine aI (bf _ _ _) ?_)
  | (refine ah (fun q=>?_) (fun q=>?_)))
 all_goals (refine ⟨?_,e1⟩; first | (simp_all [nR,cL]; done) | (simp_all [nR,cL] <;> omega))
theorem Fg (h:Hp) (op a b n form:Int):HC Tryz.prog 143 #[cH op a b n form,.int .i64 13] h fun w h'=>w=.bool (bG 13 a b n)∧Ext h h':=by
 refine aL (args:=[cH op a b n form,.int .i64 13]) mixed Tryz.func143 (by kernel_rfl) (mw op a b n form) ?_;unfold iO;refine aW ?_;intro g1 b1 e1 z1
 try simp only [au]
 repeat' (first
  | (refine ad b1 (_,()) rfl ?_; dsimp only [flat,aD,aj,nA,cA])
  | (refine aI (bI _ _ _) ?_)
  | (refine aI (bf _ _ _) ?_)
  | (refine ah (fun q=>?_) (fun q=>?_)))
 all_goals (refine ⟨?_,e1⟩; first | (simp_all [bG,cL]; done) | (simp_all [bG,cL] <;> simp [pH] <;> omega))
theorem Gh (h:Hp) (op a b n form:Int):HC Tryz.prog 144 #[cH op a b n form,.int .i64 13] h fun w h'=>w=.bool (nR 13 n form)∧Ext h h':=by
 refine aL (args:=[cH op a b n form,.int .i64 13]) mixed Tryz.func144 (by kernel_rfl) (pV op a b n form) ?_;unfold lI;refine aW ?_;intro g1 b1 e1 z1
 try simp only [au]
 repeat' (first
  | (refine ad b1 (_,()) rfl ?_; dsimp only [flat,aD,aj,nA,cA])
  | (refine aI (bI _ _ _) ?_)
  | (refine aI (bf _ _ _) ?_)
  | (refine ah (fun q=>?_) (fun q=>?_)))
 all_goals (refine ⟨?_,e1⟩; first | (simp_all [nR,cL]; done) | (simp_all [nR,cL] <;> omega))
theorem zN (h:Hp) (op a b n form:Int) {s:Nat} (h1:1≤s) (h2:s≤13):HC Tryz.prog 143 #[cH op a b n form,.int .i64 s] h fun w h'=>w=.bool (bG s a b n)∧Ext h h':=by
 have hs:s=1∨s=2∨s=3∨s=4∨s=5∨s=6∨s=7∨s=8∨s=9∨s=10∨s=11∨s=12∨s=13:=by omega
 clear h1 h2;rcases hs with rfl | rfl | rfl | rfl | rfl | rfl | rfl | rfl | rfl | rfl | rfl | rfl | rfl
 ·exact GM h op a b n form
 ·exact GK h op a b n form
 ·exact Gn h op a b n form
 ·exact F8 h op a b n form
 ·exact F2 h op a b n form
 ·exact Hj h op a b n form
 ·exact Hi h op a b n form
 ·exact G3 h op a b n form
 ·exact HD h op a b n form
 ·exact Fc h op a b n form
 ·exact Fl h op a b n form
 ·exact EX h op a b n form
 ·exact Fg h op a b n form
theorem pj (h:Hp) (op a b n form:Int) {s:Nat} (h1:1≤s) (h2:s≤13):HC Tryz.prog 144 #[cH op a b n form,.int .i64 s] h fun w h'=>w=.bool (nR s n form)∧Ext h h':=by
 have hs:s=1∨s=2∨s=3∨s=4∨s=5∨s=6∨s=7∨s=8∨s=9∨s=10∨s=11∨s=12∨s=13:=by omega
 clear h1 h2;rcases hs with rfl | rfl | rfl | rfl | rfl | rfl | rfl | rfl | rfl | rfl | rfl | rfl | rfl
 ·exact JP h op a b n form
 ·exact I8 h op a b n form
 ·exact Jy h op a b n form
 ·exact I6 h op a b n form
 ·exact Jm h op a b n form
 ·exact J5 h op a b n form
 ·exact I4 h op a b n form
 ·exact IT h op a b n form
 ·exact Jp h op a b n form
 ·exact FW h op a b n form
 ·exact GA h op a b n form
 ·exact HT h op a b n form
 ·exact Gh h op a b n form
def Sm (n:Int):Prop:=-9223372036854775808≤n∧n≤9223372036854775807
theorem BY {h:Hp} (t:zK h) (op a b n form:Int) (ho:Sm op) :
  HC Tryz.prog 116 #[cH op a b n form] h fun w h'=>w=.int .i64 (qa ⟨op,a,b,n,form⟩)∧Ext h h':=by
 refine aL (args:=[cH op a b n form]) mixed Tryz.func116 (by kernel_rfl) (xY op a b n form) ?_;unfold tZ;refine aW ?_;intro g1 b1 e1 z1;refine ad b1 (op,()) rfl ?_;dsimp only [flat,aD,aj,nA,cA];refine aF (DO (t.af e1 (by simp)) op ho.1 ho.2) ?_;rintro _ g2 ⟨s,y,rfl,e2⟩;refine ⟨(s,y,((cY op:Nat):Int),decide (cY op≠0),()),rfl,?_⟩;dsimp only [flat,aD,aj,nA,cA];refine aW ?_;intro g3 b3 e3 z3;refine an b3 rfl (by simp) ?_;intro g4 b4 k4 z4;have b4:aM g4 g2.size 158 [.string s,.int .u8 y,.int .i64 (cY op:Nat)]:=b4;have e4:=((e1.trans e2).trans e3).st k4 (by have:=e1.size; have:=e2.size; omega);have b1:=b1.af ((e2.trans e3).st k4 (by have:=e2.size; omega)) (by simp);unfold qa;simp only [au];refine ah (fun q=>?_) (fun q=>?_)
 ·have q:cY op=0:=by simpa using q
  exact ⟨by rw [if_pos q],e4⟩
 have q:¬ cY op=0:=by simpa using q
 rw [if_neg q];refine ad b1 (op,a,b,n,form,()) rfl ?_;dsimp only [flat,aD,aj,nA,cA];refine ad b4 (((cY op:Nat):Int),()) rfl ?_;dsimp only [flat,aD,aj,nA,cA];have hs:=tq op;refine aF (zN g4 op a b n form (s:=cY op) (by omega) (by omega)) ?_;rintro _ g5 ⟨rfl,e5⟩;refine ⟨(bG (cY op) a b n,()),rfl,?_⟩;dsimp only [flat,aD,aj,nA,cA];have e45:=e4.trans e5;refine ah (fun q=>?_) (fun q=>?_)
 ·have q:bG (cY op) a b n=false:=by simpa using q
  exact ⟨by rw [if_pos q],e45⟩
 have q:bG (cY op) a b n=true:=by simpa using q
 rw [if_neg (by rw [q]; simp)];have b1:=b1.af e5 (by simp);have b4:=b4.af e5 (by simp);refine ad b1 (op,()) rfl ?_;dsimp only [flat,aD,aj,nA,cA];refine aF (Bz (t.af e45 (by simp)) op ho.1 ho.2) ?_;rintro _ g6 ⟨rfl,e6⟩;refine ⟨(DJ op,()),rfl,?_⟩;dsimp only [flat,aD,aj,nA,cA];have e46:=e45.trans e6;have b1:=b1.af e6 (by simp);have b4:=b4.af e6 (by simp);refine ah (fun q=>?_) (fun q=>?_)
 ·have q:DJ op=false:=by simpa using q
  refine ad b1 (form,()) rfl ?_;dsimp only [flat,aD,aj,nA,cA];refine ah (fun r=>?_) (fun r=>?_)
  ·have r:¬ form=0:=by simpa using r
   exact ⟨by rw [q]; simp [r],e46⟩
  have r:form=0:=by simpa using r
  refine ad b1 (op,a,b,n,form,()) rfl ?_;dsimp only [flat,aD,aj,nA,cA];refine ad b4 (((cY op:Nat):Int),()) rfl ?_;dsimp only [flat,aD,aj,nA,cA];refine aF (pj g6 op a b n form (s:=cY op) (by omega) (by omega)) ?_;rintro _ g7 ⟨rfl,e7⟩;refine ⟨(nR (cY op) n form,()),rfl,?_⟩;dsimp only [flat,aD,aj,nA,cA];refine ah (fun p=>?_) (fun p=>?_)
  ·exact ⟨by rw [q]; simp_all,e46.trans e7⟩
  ·exact ⟨by rw [q]; simp_all,e46.trans e7⟩
 ·have q:DJ op=true:=by simpa using q
  refine ad b1 (op,a,b,n,form,()) rfl ?_;dsimp only [flat,aD,aj,nA,cA];refine ad b4 (((cY op:Nat):Int),()) rfl ?_;dsimp only [flat,aD,aj,nA,cA];refine aF (pj g6 op a b n form (s:=cY op) (by omega) (by omega)) ?_;rintro _ g7 ⟨rfl,e7⟩;refine ⟨(nR (cY op) n form,()),rfl,?_⟩;dsimp only [flat,aD,aj,nA,cA];refine ah (fun p=>?_) (fun p=>?_)
  ·exact ⟨by rw [q]; simp_all,e46.trans e7⟩
  ·exact ⟨by rw [q]; simp_all,e46.trans e7⟩
def encI (p:Option Addr) (l c:Nat) (x:bD):List Value:=[.int .i64 x.kind,.string x.name,.int .i64 x.inst.op,.int .i64 x.inst.a,.int .i64 x.inst.b,.int .i32 x.inst.n,.int .i64 x.inst.form,.slice p l c,.int .u32 x.e.num,.int .i64 x.n]
def sN (p:Option Addr) (l c:Nat) (x:bD):Value:=.agg (encI p l c x).toArray
structure kz (h:Hp) (p:Option Addr) (l:Nat) (x:fa):Prop where
 vw:qf h p l x.aC
 many:x.aC.length≤2^60
 names:∀ t,t∈x.aC→t.1.size≤maxLen
theorem kz.af {h:Hp} {p:Option Addr} {l:Nat} {x:fa} (v:kz h p l x) (k:Ext h h'):kz h' p l x:=⟨v.vw.af k (by simp),v.many,v.names⟩
theorem qf.none (h:Hp):qf h none 0 []:=⟨rfl,fun i hi=>absurd hi (by simp)⟩
theorem kz.none (h:Hp) (n:Nat):kz h none 0 ⟨[],n⟩:=⟨qf.none h,by simp,by simp⟩
theorem ph (x:fa):jr x dZ=KX x:=by
 unfold jr KX dZ;rw [Bool.and_comm]
def DQ (g k:Nat):T :=
 T.ae ⟨g,5,none⟩ [.int .i32] <| fun (n16:Int) =>
 cond (n16==(0:Int))
  (T.ae ⟨k,0,none⟩ [.int .i64,.int .i64,.int .i64,.int .i32,.int .i64] <| fun (n17:Int) (n18:Int) (n19:Int) (n20:Int) (n21:Int) =>
  T.call Tryz.prog 116 [.agg #[.int .i64 n17,.int .i64 n18,.int .i64 n19,.int .i32 n20,.int .i64 n21]] false [(false,[.int .i64])] <| fun (n22:Int) =>
  cond (n22==(0:Int))
  (T.ae ⟨g,7,none⟩ [.slice 109,.int .u32] <| fun (p23:Option Addr) (l24:Nat) (l25:Nat) (n26:Int) =>
  T.call Tryz.prog 46 [.agg #[.slice p23 l24 l25,.int .u32 n26]] false [(false,[.bool])] <| fun (b27:Bool) =>
  T.ret (.bool b27))
  (T.ret (.bool false)))
  (T.ret (.bool false))
def F3 (g k:Nat):T :=
 T.ae ⟨k,0,none⟩ [.int .i64,.int .i64,.int .i64,.int .i32,.int .i64] <| fun (n16:Int) (n17:Int) (n18:Int) (n19:Int) (n20:Int) =>
 T.call Tryz.prog 116 [.agg #[.int .i64 n16,.int .i64 n17,.int .i64 n18,.int .i32 n19,.int .i64 n20]] false [(false,[.int .i64])] <| fun (n21:Int) =>
 cond (n21==(0:Int))
  (T.ae ⟨g,7,none⟩ [.slice 109,.int .u32] <| fun (p22:Option Addr) (l23:Nat) (l24:Nat) (n25:Int) =>
  T.call Tryz.prog 80 [.agg #[.slice p22 l23 l24,.int .u32 n25],.agg #[.slice none 0 0,.int .u32 (0:Int)]] false [(false,[.bool])] <| fun (b26:Bool) =>
  T.ret (.bool b26))
  (T.ret (.bool false))
def tU (i:Ins):List Value:=[.int .i64 i.op,.int .i64 i.a,.int .i64 i.b,.int .i32 i.n,.int .i64 i.form]
theorem Bv {L:Lp} {h0 h:Hp} (t:zK h) {x:bD} {p:Option Addr} {l c g k:Nat} {i:Ins} (b1:aM h g e1 (encI p l c x)) (b2:aM h k e2 (tU i)) (v:kz h p l x.e) (ho:Sm i.op) (e:Ext h0 h) :
  DQ g k L (fun w h'=>w=.bool (decide (x.inst.n=0) && decide (qa i=0) && uA none x.e.aC)∧Ext h0 h') h:=by
 unfold DQ;refine ad b1 (x.inst.n,()) rfl ?_;dsimp only [flat,aD,aj,nA,cA];refine ah (fun q=>?_) (fun q=>?_)
 ·have q:x.inst.n=0:=by simpa using q
  refine ad b2 (i.op,i.a,i.b,i.n,i.form,()) rfl ?_;dsimp only [flat,aD,aj,nA,cA];refine aF (BY t i.op i.a i.b i.n i.form ho) ?_;rintro _ g2 ⟨rfl,e2⟩;refine ⟨(qa i,()),rfl,?_⟩;dsimp only [flat,aD,aj,nA,cA];refine ah (fun r=>?_) (fun r=>?_)
  ·have r:qa i=0:=by simpa using r
   refine ad (b1.af e2 (by simp)) ((p,l,c),(x.e.num:Int),()) rfl ?_;dsimp only [flat,aD,aj,nA,cA];refine aF (rc (c:=c) (v.af e2).vw (by have:=v.many; omega) v.names) ?_;rintro _ g3 ⟨rfl,e3⟩;refine ⟨(uA none x.e.aC,()),rfl,?_⟩;exact ⟨by rw [decide_eq_true q,decide_eq_true r]; rfl,(e.trans e2).trans e3⟩
  ·have r:¬ qa i=0:=by simpa using r
   exact ⟨by rw [decide_eq_false r,Bool.and_false]; rfl,e.trans e2⟩
 ·have q:¬ x.inst.n=0:=by simpa using q
  exact ⟨by rw [decide_eq_false q]; rfl,e⟩
theorem GR {L:Lp} {h0 h:Hp} (t:zK h) {x:bD} {p:Option Addr} {l c g k:Nat} {i:Ins} (b1:aM h g e1 (encI p l c x)) (b2:aM h k e2 (tU i)) (v:kz h p l x.e) (ho:Sm i.op) (e:Ext h0 h) :
  F3 g k L (fun w h'=>w=.bool (decide (qa i=0) && KX x.e)∧Ext h0 h') h:=by
 unfold F3;refine ad b2 (i.op,i.a,i.b,i.n,i.form,()) rfl ?_;dsimp only [flat,aD,aj,nA,cA];refine aF (BY t i.op i.a i.b i.n i.form ho) ?_;rintro _ g2 ⟨rfl,e2⟩;refine ⟨(qa i,()),rfl,?_⟩;dsimp only [flat,aD,aj,nA,cA];refine ah (fun r=>?_) (fun r=>?_)
 ·have r:qa i=0:=by simpa using r
  refine ad (b1.af e2 (by simp)) ((p,l,c),(x.e.num:Int),()) rfl ?_;dsimp only [flat,aD,aj,nA,cA];refine aF (yB (c:=c) (d:=0) (y:=dZ) (v.af e2).vw (qf.none g2) v.many) ?_;rintro _ g3 ⟨rfl,e3⟩;refine ⟨(jr x.e dZ,()),rfl,?_⟩;exact ⟨by rw [decide_eq_true r,ph]; rfl,(e.trans e2).trans e3⟩
 ·have r:¬ qa i=0:=by simpa using r
  exact ⟨by rw [decide_eq_false r]; rfl,e.trans e2⟩
theorem instruction_hc {h:Hp} (t:zK h) {x:bD} {p:Option Addr} {l c:Nat} (v:kz h p l x.e) (ho:Sm x.inst.op) :
  HC Tryz.prog 78 #[sN p l c x] h fun w h'=>w=.bool (Am x.inst x.e)∧Ext h h':=by
 refine aL (args:=[sN p l c x]) mixed Tryz.func78 (by kernel_rfl) (nI x.kind x.name x.inst.op x.inst.a x.inst.b x.inst.n x.inst.form p l c x.e.num x.n) ?_;unfold jD;refine aW ?_;intro g1 b1 e1 z1;have b1:aM g1 h.size 96 (encI p l c x):=b1;simp only [au];refine ad b1 (x.inst.op,()) rfl ?_;dsimp only [flat,aD,aj,nA,cA];refine aF (DO (t.af e1 (by simp)) x.inst.op ho.1 ho.2) ?_;rintro _ g2 ⟨s,y,rfl,e2⟩;refine ⟨(s,y,((cY x.inst.op:Nat):Int),decide (cY x.inst.op≠0),()),rfl,?_⟩;dsimp only [flat,aD,aj,nA,cA];refine aW ?_;intro g3 b3 e3 z3;refine an b3 rfl (by simp) ?_;intro g4 b4 k4 z4;have b4:aM g4 g2.size 158 [.string s,.int .u8 y,.int .i64 (cY x.inst.op:Nat)]:=b4;have s1:=e1.size;have s2:=e2.size;have e14:=(e2.trans e3).st k4 (by omega);have e4:=e1.trans e14;have b1:=b1.af e14 (by simp);unfold Am;refine ah (fun q=>?_) (fun q=>?_)
 ·have q:cY x.inst.op=0:=by simpa using q
  exact ⟨by rw [q]; rfl,e4⟩
 have q:cY x.inst.op≠0:=by simpa using q
 rw [decide_eq_true q,Bool.true_and];refine ad b1 (x.inst.form,()) rfl ?_;dsimp only [flat,aD,aj,nA,cA];refine ah (fun r=>?_) (fun r=>?_)
 ·have r:¬ x.inst.form=0:=by simpa using r
  exact ⟨by rw [decide_eq_false r]; rfl,e4⟩
 have r:x.inst.form=0:=by simpa using r
 rw [decide_eq_true r,Bool.true_and];refine ad b1 (x.inst.op,x.inst.a,x.inst.b,x.inst.n,x.inst.form,()) rfl ?_;dsimp only [flat,aD,aj,nA,cA];refine aW ?_;intro g5 b5 e5 z5;refine an b5 rfl (by simp) ?_;intro g6 b6 k6 z6;have b6:aM g6 g4.size 90 (tU x.inst):=b6;have e46:=e5.st k6 (by omega);have e6:=e4.trans e46;have b1:=b1.af e46 (by simp);have b4:=b4.af e46 (by simp);simp only [au];have hs:=tq x.inst.op;refine ad b4 (((cY x.inst.op:Nat):Int),()) rfl ?_;dsimp only [flat,aD,aj,nA,cA];generalize hB:(if Ic x.inst.op=true then decide (x.inst.n=0) && decide (qa { x.inst with form:=if DJ x.inst.op=true then 1 else 0 }=0) && uA none x.e.aC else decide (qa x.inst=0) && KX x.e)=B;have hF:{ x.inst with form:=0 }=x.inst:=by
  rcases hx:x.inst with ⟨a1,a2,a3,a4,a5⟩
  rw [hx] at r;simp only at r;rw [r]
 have hA:12≤cY x.inst.op→T.ao ⟨g4.size,4,none⟩ [.int .i64 1] (DQ h.size g4.size) [] (fun w h'=>w=.bool B∧Ext h h') g6:=by
  intro hh;refine an b6 rfl (by simp [tU]) ?_;intro g7 b7 k7 z7;have b7:aM g7 g4.size 90 (tU { x.inst with form:=1 }):=b7;have e67:Ext g4 g7:=e46.st k7 (by omega);have e7:=e4.trans e67;have hw:Ic x.inst.op=true:=decide_eq_true (by omega);have hp:DJ x.inst.op=true:=decide_eq_true hh;rw [if_pos hw,if_pos hp] at hB
  have:=Bv (L:=[]) (h0:=h) (t.af e7 (by simp)) (b1.af k7 (by simp; omega)) b7 (v.af e7) ho e7
  rw [hB] at this;exact this
 have hR:cY x.inst.op=10∨cY x.inst.op=11→DQ h.size g4.size [] (fun w h'=>w=.bool B∧Ext h h') g6:=by
  intro hh;have hw:Ic x.inst.op=true:=decide_eq_true (by omega);have hp:¬ DJ x.inst.op=true:=by unfold DJ; rw [decide_eq_false (by omega)]; simp
  rw [if_pos hw,if_neg hp,hF] at hB
  have:=Bv (L:=[]) (h0:=h) (t.af e6 (by simp)) b1 b6 (v.af e6) ho e6
  rw [hB] at this;exact this
 have hS:cY x.inst.op<10→F3 h.size g4.size [] (fun w h'=>w=.bool B∧Ext h h') g6:=by
  intro hh;have hw:¬ Ic x.inst.op=true:=by unfold Ic; rw [decide_eq_false (by omega)]; simp
  rw [if_neg hw] at hB
  have:=GR (L:=[]) (h0:=h) (t.af e6 (by simp)) b1 b6 (v.af e6) ho e6
  rw [hB] at this;exact this
 clear hB;refine ah (fun q1=>?_) (fun q1=>?_)
 ·have q1:((cY x.inst.op:Nat):Int)=12:=by simpa using q1
  refine ah (fun q2=>hA (by omega)) (fun q2=>?_);have q2:¬ ((cY x.inst.op:Nat):Int)=12:=by simpa using q2
  exact absurd q1 q2
 have q1:¬ ((cY x.inst.op:Nat):Int)=12:=by simpa using q1
 refine ah (fun q2=>?_) (fun q2=>?_)
 ·have q2:((cY x.inst.op:Nat):Int)=13:=by simpa using q2
  exact hA (by omega)
 have q2:¬ ((cY x.inst.op:Nat):Int)=13:=by simpa using q2
 refine ah (fun q3=>?_) (fun q3=>?_)
 ·have q3:((cY x.inst.op:Nat):Int)=10:=by simpa using q3
  refine ah (fun q2=>hR (by omega)) (fun q4=>?_);have q4:¬ ((cY x.inst.op:Nat):Int)=10:=by simpa using q4
  exact absurd q3 q4
 have q3:¬ ((cY x.inst.op:Nat):Int)=10:=by simpa using q3
 refine ah (fun q4=>?_) (fun q4=>?_)
 ·have q4:((cY x.inst.op:Nat):Int)=11:=by simpa using q4
  exact hR (by omega)
 have q4:¬ ((cY x.inst.op:Nat):Int)=11:=by simpa using q4
 exact hS (by omega)
structure ur (h:Hp) (p:Option Addr) (l:Nat) (x:bD):Prop where
 uU:kz h p l x.e
 name:x.name.size≤maxLen
 op:Sm x.inst.op
theorem ur.af {h:Hp} {p:Option Addr} {l:Nat} {x:bD} (v:ur h p l x) (k:Ext h h'):ur h' p l x:=⟨v.uU.af k,v.name,v.op⟩
def iS (x y:bD):Bool:=decide (x.name=y.name) && decide (x.inst=y.inst) && decide (x.n=y.n) && jr x.e y.e
theorem Ky:Tryz.prog.underlying 90=some (.struct (GG Tryz.prog 90)):=by kernel_rfl
theorem KW (x y:Operand) (i j:Ins) (h:Hp) (K:Value→Hp→Prop) (hk:K (.bool !(decide (i=j))) h) :
  aJ Tryz.prog (Sx.bU (BinOp.neq) 90 x y (.agg (tU i).toArray) (.agg (tU j).toArray)) h K:=by
 refine BH Ky (by kernel_rfl) (by kernel_rfl) (by kernel_rfl) K ?_;have he:(GG Tryz.prog 90).all (Gx (tU i).toArray (tU j).toArray)=(i.op==j.op && (i.a==j.a && (i.b==j.b && (i.n==j.n && (i.form==j.form && true))))):=by
  rw [← Array.all_toList]
  kernel_rfl
 rw [he,Bool.and_true]
 have:(i.op==j.op && (i.a==j.a && (i.b==j.b && (i.n==j.n && i.form==j.form))))=decide (i=j):=by
  rcases i with ⟨a1,a2,a3,a4,a5⟩
  rcases j with ⟨c1,c2,c3,c4,c5⟩
  simp only [cL,Ins.mk.injEq]
  by_cases h1:a1=c1 <;> by_cases h2:a2=c2 <;> by_cases h3:a3=c3 <;> by_cases h4:a4=c4 <;> by_cases h5:a5=c5 <;> simp [h1,h2,h3,h4,h5]
 rw [this];exact hk
def NN (g k:Nat):T :=
 T.ae ⟨g,1,none⟩ [.string] <| fun (s8:ByteArray) =>
 T.ae ⟨k,1,none⟩ [.string] <| fun (s9:ByteArray) =>
 cond (!((ByteArray.toList s8)==(ByteArray.toList s9)))
  (T.ret (.int .i64 (31:Int)))
  (T.ae ⟨g,2,none⟩ [.int .i64,.int .i64,.int .i64,.int .i32,.int .i64] <| fun (n10:Int) (n11:Int) (n12:Int) (n13:Int) (n14:Int) =>
  T.ae ⟨k,2,none⟩ [.int .i64,.int .i64,.int .i64,.int .i32,.int .i64] <| fun (n15:Int) (n16:Int) (n17:Int) (n18:Int) (n19:Int) =>
  T.aS Tryz.prog (Sx.bU (BinOp.neq) 90 (Operand.tmp 109) (Operand.tmp 111) (.agg #[.int .i64 n10,.int .i64 n11,.int .i64 n12,.int .i32 n13,.int .i64 n14]) (.agg #[.int .i64 n15,.int .i64 n16,.int .i64 n17,.int .i32 n18,.int .i64 n19])) false [(false,[.bool])] <| fun (b20:Bool) =>
  cond b20
  (T.ret (.int .i64 (31:Int)))
  (T.ae ⟨g,9,none⟩ [.int .i64] <| fun (n21:Int) =>
  T.ae ⟨k,9,none⟩ [.int .i64] <| fun (n22:Int) =>
  cond (n21 != n22)
   (T.ret (.int .i64 (31:Int)))
   (T.ae ⟨g,7,none⟩ [.slice 109,.int .u32] <| fun (p23:Option Addr) (l24:Nat) (l25:Nat) (n26:Int) =>
   T.ae ⟨k,7,none⟩ [.slice 109,.int .u32] <| fun (p27:Option Addr) (l28:Nat) (l29:Nat) (n30:Int) =>
   T.call Tryz.prog 80 [.agg #[.slice p23 l24 l25,.int .u32 n26],.agg #[.slice p27 l28 l29,.int .u32 n30]] false [(false,[.bool])] <| fun (b31:Bool) =>
   cond (!b31)
   (T.ret (.int .i64 (31:Int)))
   (T.ret (.int .i64 (0:Int))))))
def JQ (b:Bool):Value:=.int .i64 (if b then 0 else 31)
theorem mv {L:Lp} {h0 h:Hp} {x y:bD} {p q:Option Addr} {l c m d g k:Nat} (b1:aM h g e1 (encI p l c x)) (b2:aM h k e2 (encI q m d y)) (v:kz h p l x.e) (w:qf h q m y.e.aC) (e:Ext h0 h) :
  NN g k L (fun w h'=>w=JQ (iS x y)∧Ext h0 h') h:=by
 unfold NN iS;refine ad b1 (x.name,()) rfl ?_;dsimp only [flat,aD,aj,nA,cA];refine ad b2 (y.name,()) rfl ?_;dsimp only [flat,aD,aj,nA,cA];rw [ByteArray.toList_eq,ByteArray.toList_eq];refine ah (fun r=>?_) (fun r=>?_)
 ·have r:¬ x.name=y.name:=fun he=>by rw [he] at r; simp at r
  exact ⟨by rw [decide_eq_false r]; rfl,e⟩
 have r:x.name=y.name:=mh (by simpa using r);rw [decide_eq_true r,Bool.true_and];refine ad b1 (x.inst.op,x.inst.a,x.inst.b,x.inst.n,x.inst.form,()) rfl ?_;dsimp only [flat,aD,aj,nA,cA];refine ad b2 (y.inst.op,y.inst.a,y.inst.b,y.inst.n,y.inst.form,()) rfl ?_;dsimp only [flat,aD,aj,nA,cA];refine bK (fun K' hK=>KW _ _ x.inst y.inst h K' hK) ?_;refine ah (fun r=>?_) (fun r=>?_)
 ·have r:¬ x.inst=y.inst:=by simpa using r
  exact ⟨by rw [decide_eq_false r]; rfl,e⟩
 have r:x.inst=y.inst:=by simpa using r
 rw [decide_eq_true r,Bool.true_and];refine ad b1 (x.n,()) rfl ?_;dsimp only [flat,aD,aj,nA,cA];refine ad b2 (y.n,()) rfl ?_;dsimp only [flat,aD,aj,nA,cA];refine ah (fun r=>?_) (fun r=>?_)
 ·have r:¬ x.n=y.n:=by simpa using r
  exact ⟨by rw [decide_eq_false r]; rfl,e⟩
 have r:x.n=y.n:=by simpa using r
 rw [decide_eq_true r,Bool.true_and];refine ad b1 ((p,l,c),(x.e.num:Int),()) rfl ?_;dsimp only [flat,aD,aj,nA,cA];refine ad b2 ((q,m,d),(y.e.num:Int),()) rfl ?_;dsimp only [flat,aD,aj,nA,cA];refine aF (yB (c:=c) (d:=d) v.vw w v.many) ?_;rintro _ g3 ⟨rfl,e3⟩;refine ⟨(jr x.e y.e,()),rfl,?_⟩;dsimp only [flat,aD,aj,nA,cA];refine ah (fun r=>?_) (fun r=>?_)
 ·have r:jr x.e y.e=false:=by simpa using r
  exact ⟨by rw [r]; rfl,e.trans e3⟩
 ·have r:jr x.e y.e=true:=by simpa using r
  exact ⟨by rw [r]; rfl,e.trans e3⟩
theorem qM (x:fa):jr x x=true:=EQ x
theorem Df {x:bD} (hk:x.kind=1):dj x sec=(bo x.name.data.toList && iS x { cU x.kind with name:=x.name }):=by
 unfold dj iS;simp only [hk,cU,qM,ph,z1,z2,z3,z4];simp (decide:=true) only [if_true,if_false,decide_true,Bool.true_and,Bool.and_true]
 try simp only [Bool.and_assoc,Bool.and_comm,Bool.and_left_comm]
theorem HF {x:bD} (hk:x.kind=2):dj x sec=(decide (sec=0) && Am x.inst x.e && iS x { cU x.kind with inst:=x.inst,e:=x.e }):=by
 unfold dj iS;simp only [hk,cU,qM,ph,z1,z2,z3,z4];simp (decide:=true) only [if_true,if_false,decide_true,Bool.true_and,Bool.and_true]
 try simp only [Bool.and_assoc,Bool.and_comm,Bool.and_left_comm]
theorem Ix {x:bD} (hk:x.kind=3):dj x sec=(qG x.n && iS x { cU x.kind with n:=x.n }):=by
 unfold dj iS;simp only [hk,cU,qM,ph,z1,z2,z3,z4];simp (decide:=true) only [if_true,if_false,decide_true,Bool.true_and,Bool.and_true]
 try simp only [Bool.and_assoc,Bool.and_comm,Bool.and_left_comm]
theorem It {x:bD} (hk:x.kind=4):dj x sec=(decide (sec=0) && iS x (cU x.kind)):=by
 unfold dj iS;simp only [hk,cU,qM,ph,z1,z2,z3,z4];simp (decide:=true) only [if_true,if_false,decide_true,Bool.true_and,Bool.and_true]
 try simp only [Bool.and_assoc,Bool.and_comm,Bool.and_left_comm]
theorem Iq {x:bD} (hk:x.kind=5):dj x sec=(decide (sec=1) && decide (-128≤x.n) && decide (x.n≤255) && iS x { cU x.kind with n:=x.n }):=by
 unfold dj iS;simp only [hk,cU,qM,ph,z1,z2,z3,z4];simp (decide:=true) only [if_true,if_false,decide_true,Bool.true_and,Bool.and_true]
 try simp only [Bool.and_assoc,Bool.and_comm,Bool.and_left_comm]
theorem Ib {x:bD} (hk:x.kind=6):dj x sec=(decide (sec=1) && uA none x.e.aC && iS x { cU x.kind with e:=x.e }):=by
 unfold dj iS;simp only [hk,cU,qM,ph,z1,z2,z3,z4];simp (decide:=true) only [if_true,if_false,decide_true,Bool.true_and,Bool.and_true]
 try simp only [Bool.and_assoc,Bool.and_comm,Bool.and_left_comm]
theorem GX {x:bD} (hk:x.kind=7):dj x sec=(decide (sec=1) && decide (0≤x.n) && decide (x.n≤1048576) && iS x { cU x.kind with n:=x.n }):=by
 unfold dj iS;simp only [hk,cU,qM,ph,z1,z2,z3,z4];simp (decide:=true) only [if_true,if_false,decide_true,Bool.true_and,Bool.and_true]
 try simp only [Bool.and_assoc,Bool.and_comm,Bool.and_left_comm]
theorem Em {x:bD} (h1:x.kind≠1) (h2:x.kind≠2) (h3:x.kind≠3) (h4:x.kind≠4) (h5:x.kind≠5) (h6:x.kind≠6) (h7:x.kind≠7):dj x sec=false:=by
 unfold dj;rw [if_neg h1,if_neg h2,if_neg h3,if_neg h4,if_neg h5,if_neg h6,if_neg h7]
theorem GF {h:Hp} (t:zK h) {x:bD} {p:Option Addr} {l c:Nat} (v:ur h p l x) :
  HC Tryz.prog 44 #[sN p l c x,.int .i64 0] h fun w h'=>w=JQ (dj x 0)∧Ext h h':=by
 refine aL (args:=[sN p l c x,.int .i64 0]) mixed Tryz.func44 (by kernel_rfl) (qZ x.kind x.name x.inst.op x.inst.a x.inst.b x.inst.n x.inst.form p l c x.e.num x.n) ?_;unfold mN;refine aW ?_;intro g1 b1 e1 z1;have b1:aM g1 h.size 96 (encI p l c x):=b1;refine ad b1 (x.kind,()) rfl ?_;dsimp only [flat,aD,aj,nA,cA];refine aW ?_;intro g2 b2 e2 z2;refine an b2 rfl (by simp) ?_;intro g3 b3 k3 z3;have b3:aM g3 g1.size 96 (encI none 0 0 (cU x.kind)):=b3;have s1:=e1.size;have e13:=e2.st k3 (Nat.le_refl _);have e3:=e1.trans e13;have b1:=b1.af e13 (by simp);simp only [au];refine ad b1 (x.kind,()) rfl ?_;dsimp only [flat,aD,aj,nA,cA];refine ah (fun q=>?_) (fun q=>?_)
 ·have q:x.kind=1:=by simpa using q
  rw [Df q];refine ad b1 (x.name,()) rfl ?_;dsimp only [flat,aD,aj,nA,cA];refine an b3 rfl (by simp [encI]) ?_;intro g4 b4 k4 z4;have b4:aM g4 g1.size 96 (encI none 0 0 { cU x.kind with name:=x.name }):=b4;have e4:=e3.st k4 (by omega);have b1:=b1.af k4 (by simp; omega);refine ad b1 (x.name,()) rfl ?_;dsimp only [flat,aD,aj,nA,cA];refine aI (lG x.name g4 (by have:=v.name; have:maxLen=9223372036854775807:=rfl; omega)) ?_;refine ah (fun r=>?_) (fun r=>?_)
  ·have r:bo x.name.data.toList=false:=by simpa using r
   exact ⟨by rw [r]; rfl,e4⟩
  have r:bo x.name.data.toList=true:=by simpa using r
  rw [r,Bool.true_and];have hh:=mv (L:=[]) (h0:=h) (y:={ cU x.kind with name:=x.name }) b1 b4 (v.uU.af e4) (qf.none g4) e4;exact hh
 have q1:x.kind≠1:=by simpa using q
 refine ah (fun q=>?_) (fun q=>?_)
 ·have q:x.kind=2:=by simpa using q
  rw [HF q];refine ad b1 (x.inst.op,x.inst.a,x.inst.b,x.inst.n,x.inst.form,()) rfl ?_;dsimp only [flat,aD,aj,nA,cA];refine ad b1 ((p,l,c),(x.e.num:Int),()) rfl ?_;dsimp only [flat,aD,aj,nA,cA];refine an b3 rfl (by simp [encI]) ?_;intro g4 b4 k4 z4;have e4:=e3.st k4 (by omega);have b1:=b1.af k4 (by simp; omega);refine ⟨⟨b1.cells [.slice p l c,.int .u32 x.e.num] rfl,trivial⟩,?_⟩;refine an b4 rfl (by simp [encI,eI]) ?_;intro g5 b5 k5 z5;have b5:aM g5 g1.size 96 (encI p l c { cU x.kind with inst:=x.inst,e:=x.e }):=b5;have e5:=e4.st k5 (by omega);have b1:=b1.af k5 (by simp; omega);refine ad b1 (x.kind,x.name,x.inst.op,x.inst.a,x.inst.b,x.inst.n,x.inst.form,(p,l,c),(x.e.num:Int),x.n,()) rfl ?_;dsimp only [flat,aD,aj,nA,cA];refine aF (instruction_hc (c:=c) (t.af e5 (by simp)) (v.uU.af e5) v.op) ?_;rintro _ g6 ⟨rfl,e6'⟩;refine ⟨(Am x.inst x.e,()),rfl,?_⟩;dsimp only [flat,aD,aj,nA,cA];have e6:=e5.trans e6';refine ah (fun r=>?_) (fun r=>?_)
  ·have r:Am x.inst x.e=false:=by simpa using r
   exact ⟨by rw [r]; rfl,e6⟩
  have r:Am x.inst x.e=true:=by simpa using r
  rw [r];have b1:=b1.af e6' (by simp);have b5:=b5.af e6' (by simp);have hh:=mv (L:=[]) (h0:=h) (y:={ cU x.kind with inst:=x.inst,e:=x.e }) b1 b5 (v.uU.af e6) (v.uU.af e6).vw e6;exact hh
 have q2:x.kind≠2:=by simpa using q
 refine ah (fun q=>?_) (fun q=>?_)
 ·have q:x.kind=3:=by simpa using q
  rw [Ix q];refine ad b1 (x.n,()) rfl ?_;dsimp only [flat,aD,aj,nA,cA];refine an b3 rfl (by simp [encI]) ?_;intro g4 b4 k4 z4;have b4:aM g4 g1.size 96 (encI none 0 0 { cU x.kind with n:=x.n }):=b4;have e4:=e3.st k4 (by omega);have b1:=b1.af k4 (by simp; omega);refine ad b1 (x.n,()) rfl ?_;dsimp only [flat,aD,aj,nA,cA];refine aI (vM g4 x.n) ?_;refine ah (fun r=>?_) (fun r=>?_)
  ·have r:qG x.n=false:=by simpa using r
   exact ⟨by rw [r]; rfl,e4⟩
  have r:qG x.n=true:=by simpa using r
  rw [r,Bool.true_and];have hh:=mv (L:=[]) (h0:=h) (y:={ cU x.kind with n:=x.n }) b1 b4 (v.uU.af e4) (qf.none g4) e4;exact hh
 have q3:x.kind≠3:=by simpa using q
 refine ah (fun q=>?_) (fun q=>?_)
 ·have q:x.kind=4:=by simpa using q
  rw [It q];have hh:=mv (L:=[]) (h0:=h) (y:=(cU x.kind)) b1 b3 (v.uU.af e3) (qf.none g3) e3;exact hh
 have q4:x.kind≠4:=by simpa using q
 refine ah (fun q=>?_) (fun q=>?_)
 ·have q:x.kind=5:=by simpa using q
  rw [Iq q];refine ad b1 (x.n,()) rfl ?_;dsimp only [flat,aD,aj,nA,cA];refine an b3 rfl (by simp [encI]) ?_;intro g4 b4 k4 z4;have b4:aM g4 g1.size 96 (encI none 0 0 { cU x.kind with n:=x.n }):=b4;have e4:=e3.st k4 (by omega);have b1:=b1.af k4 (by simp; omega);exact ⟨rfl,e4⟩
 have q5:x.kind≠5:=by simpa using q
 refine ah (fun q=>?_) (fun q=>?_)
 ·have q:x.kind=6:=by simpa using q
  rw [Ib q];refine ad b1 ((p,l,c),(x.e.num:Int),()) rfl ?_;dsimp only [flat,aD,aj,nA,cA];refine an b3 rfl (by simp [encI]) ?_;intro g4 b4 k4 z4;have b4:aM g4 g1.size 96 (encI p l c { cU x.kind with e:=x.e }):=b4;have e4:=e3.st k4 (by omega);have b1:=b1.af k4 (by simp; omega);exact ⟨rfl,e4⟩
 have q6:x.kind≠6:=by simpa using q
 refine ah (fun q=>?_) (fun q=>?_)
 ·have q:x.kind=7:=by simpa using q
  rw [GX q];refine ad b1 (x.n,()) rfl ?_;dsimp only [flat,aD,aj,nA,cA];refine an b3 rfl (by simp [encI]) ?_;intro g4 b4 k4 z4;have b4:aM g4 g1.size 96 (encI none 0 0 { cU x.kind with n:=x.n }):=b4;have e4:=e3.st k4 (by omega);have b1:=b1.af k4 (by simp; omega);exact ⟨rfl,e4⟩
 have q7:x.kind≠7:=by simpa using q
 exact ⟨by rw [Em q1 q2 q3 q4 q5 q6 q7]; rfl,e3⟩
theorem F4 {h:Hp} (t:zK h) {x:bD} {p:Option Addr} {l c:Nat} (v:ur h p l x) :
  HC Tryz.prog 44 #[sN p l c x,.int .i64 1] h fun w h'=>w=JQ (dj x 1)∧Ext h h':=by
 refine aL (args:=[sN p l c x,.int .i64 1]) mixed Tryz.func44 (by kernel_rfl) (re x.kind x.name x.inst.op x.inst.a x.inst.b x.inst.n x.inst.form p l c x.e.num x.n) ?_;unfold mZ;refine aW ?_;intro g1 b1 e1 z1;have b1:aM g1 h.size 96 (encI p l c x):=b1;refine ad b1 (x.kind,()) rfl ?_;dsimp only [flat,aD,aj,nA,cA];refine aW ?_;intro g2 b2 e2 z2;refine an b2 rfl (by simp) ?_;intro g3 b3 k3 z3;have b3:aM g3 g1.size 96 (encI none 0 0 (cU x.kind)):=b3;have s1:=e1.size;have e13:=e2.st k3 (Nat.le_refl _);have e3:=e1.trans e13;have b1:=b1.af e13 (by simp);simp only [au];refine ad b1 (x.kind,()) rfl ?_;dsimp only [flat,aD,aj,nA,cA];refine ah (fun q=>?_) (fun q=>?_)
 ·have q:x.kind=1:=by simpa using q
  rw [Df q];refine ad b1 (x.name,()) rfl ?_;dsimp only [flat,aD,aj,nA,cA];refine an b3 rfl (by simp [encI]) ?_;intro g4 b4 k4 z4;have b4:aM g4 g1.size 96 (encI none 0 0 { cU x.kind with name:=x.name }):=b4;have e4:=e3.st k4 (by omega);have b1:=b1.af k4 (by simp; omega);refine ad b1 (x.name,()) rfl ?_;dsimp only [flat,aD,aj,nA,cA];refine aI (lG x.name g4 (by have:=v.name; have:maxLen=9223372036854775807:=rfl; omega)) ?_;refine ah (fun r=>?_) (fun r=>?_)
  ·have r:bo x.name.data.toList=false:=by simpa using r
   exact ⟨by rw [r]; rfl,e4⟩
  have r:bo x.name.data.toList=true:=by simpa using r
  rw [r,Bool.true_and];have hh:=mv (L:=[]) (h0:=h) (y:={ cU x.kind with name:=x.name }) b1 b4 (v.uU.af e4) (qf.none g4) e4;exact hh
 have q1:x.kind≠1:=by simpa using q
 refine ah (fun q=>?_) (fun q=>?_)
 ·have q:x.kind=2:=by simpa using q
  rw [HF q];refine ad b1 (x.inst.op,x.inst.a,x.inst.b,x.inst.n,x.inst.form,()) rfl ?_;dsimp only [flat,aD,aj,nA,cA];refine ad b1 ((p,l,c),(x.e.num:Int),()) rfl ?_;dsimp only [flat,aD,aj,nA,cA];refine an b3 rfl (by simp [encI]) ?_;intro g4 b4 k4 z4;have e4:=e3.st k4 (by omega);have b1:=b1.af k4 (by simp; omega);refine ⟨⟨b1.cells [.slice p l c,.int .u32 x.e.num] rfl,trivial⟩,?_⟩;refine an b4 rfl (by simp [encI,eI]) ?_;intro g5 b5 k5 z5;have b5:aM g5 g1.size 96 (encI p l c { cU x.kind with inst:=x.inst,e:=x.e }):=b5;have e5:=e4.st k5 (by omega);have b1:=b1.af k5 (by simp; omega);exact ⟨rfl,e5⟩
 have q2:x.kind≠2:=by simpa using q
 refine ah (fun q=>?_) (fun q=>?_)
 ·have q:x.kind=3:=by simpa using q
  rw [Ix q];refine ad b1 (x.n,()) rfl ?_;dsimp only [flat,aD,aj,nA,cA];refine an b3 rfl (by simp [encI]) ?_;intro g4 b4 k4 z4;have b4:aM g4 g1.size 96 (encI none 0 0 { cU x.kind with n:=x.n }):=b4;have e4:=e3.st k4 (by omega);have b1:=b1.af k4 (by simp; omega);refine ad b1 (x.n,()) rfl ?_;dsimp only [flat,aD,aj,nA,cA];refine aI (vM g4 x.n) ?_;refine ah (fun r=>?_) (fun r=>?_)
  ·have r:qG x.n=false:=by simpa using r
   exact ⟨by rw [r]; rfl,e4⟩
  have r:qG x.n=true:=by simpa using r
  rw [r,Bool.true_and];have hh:=mv (L:=[]) (h0:=h) (y:={ cU x.kind with n:=x.n }) b1 b4 (v.uU.af e4) (qf.none g4) e4;exact hh
 have q3:x.kind≠3:=by simpa using q
 refine ah (fun q=>?_) (fun q=>?_)
 ·have q:x.kind=4:=by simpa using q
  rw [It q];exact ⟨rfl,e3⟩
 have q4:x.kind≠4:=by simpa using q
 refine ah (fun q=>?_) (fun q=>?_)
 ·have q:x.kind=5:=by simpa using q
  rw [Iq q];refine ad b1 (x.n,()) rfl ?_;dsimp only [flat,aD,aj,nA,cA];refine an b3 rfl (by simp [encI]) ?_;intro g4 b4 k4 z4;have b4:aM g4 g1.size 96 (encI none 0 0 { cU x.kind with n:=x.n }):=b4;have e4:=e3.st k4 (by omega);have b1:=b1.af k4 (by simp; omega);refine ad b1 (x.n,()) rfl ?_;dsimp only [flat,aD,aj,nA,cA];refine ah (fun r=>?_) (fun r=>?_)
  ·have r:=of_decide_eq_true r;refine ad b1 (x.n,()) rfl ?_;dsimp only [flat,aD,aj,nA,cA];refine ah (fun r2=>?_) (fun r2=>?_)
   ·have r2:¬ x.n≤255:=by simpa using r2
    exact ⟨by rw [decide_eq_false r2,Bool.and_false]; rfl,e4⟩
   have r2:x.n≤255:=by simpa using r2
   rw [decide_eq_true r2,decide_eq_true (show -128≤x.n from r)];have hh:=mv (L:=[]) (h0:=h) (y:={ cU x.kind with n:=x.n }) b1 b4 (v.uU.af e4) (qf.none g4) e4;exact hh
  ·have r:=of_decide_eq_false r;exact ⟨by rw [decide_eq_false (show ¬ -128≤x.n from r),Bool.and_false]; rfl,e4⟩
 have q5:x.kind≠5:=by simpa using q
 refine ah (fun q=>?_) (fun q=>?_)
 ·have q:x.kind=6:=by simpa using q
  rw [Ib q];refine ad b1 ((p,l,c),(x.e.num:Int),()) rfl ?_;dsimp only [flat,aD,aj,nA,cA];refine an b3 rfl (by simp [encI]) ?_;intro g4 b4 k4 z4;have b4:aM g4 g1.size 96 (encI p l c { cU x.kind with e:=x.e }):=b4;have e4:=e3.st k4 (by omega);have b1:=b1.af k4 (by simp; omega);refine ad b1 ((p,l,c),(x.e.num:Int),()) rfl ?_;dsimp only [flat,aD,aj,nA,cA];refine aF (rc (c:=c) (v.uU.af e4).vw (by have:=v.uU.many; omega) v.uU.names) ?_;rintro _ g6 ⟨rfl,e6'⟩;refine ⟨(uA none x.e.aC,()),rfl,?_⟩;dsimp only [flat,aD,aj,nA,cA];have e6:=e4.trans e6';refine ah (fun r=>?_) (fun r=>?_)
  ·have r:uA none x.e.aC=false:=by simpa using r
   exact ⟨by rw [r]; rfl,e6⟩
  have r:uA none x.e.aC=true:=by simpa using r
  rw [r];have b1:=b1.af e6' (by simp);have b4:=b4.af e6' (by simp);have hh:=mv (L:=[]) (h0:=h) (y:={ cU x.kind with e:=x.e }) b1 b4 (v.uU.af e6) (v.uU.af e6).vw e6;exact hh
 have q6:x.kind≠6:=by simpa using q
 refine ah (fun q=>?_) (fun q=>?_)
 ·have q:x.kind=7:=by simpa using q
  rw [GX q];refine ad b1 (x.n,()) rfl ?_;dsimp only [flat,aD,aj,nA,cA];refine an b3 rfl (by simp [encI]) ?_;intro g4 b4 k4 z4;have b4:aM g4 g1.size 96 (encI none 0 0 { cU x.kind with n:=x.n }):=b4;have e4:=e3.st k4 (by omega);have b1:=b1.af k4 (by simp; omega);refine ad b1 (x.n,()) rfl ?_;dsimp only [flat,aD,aj,nA,cA];refine ah (fun r=>?_) (fun r=>?_)
  ·have r:=of_decide_eq_true r;refine ad b1 (x.n,()) rfl ?_;dsimp only [flat,aD,aj,nA,cA];refine ah (fun r2=>?_) (fun r2=>?_)
   ·have r2:¬ x.n≤1048576:=by simpa using r2
    exact ⟨by rw [decide_eq_false r2,Bool.and_false]; rfl,e4⟩
   have r2:x.n≤1048576:=by simpa using r2
   rw [decide_eq_true r2,decide_eq_true (show 0≤x.n from r)];have hh:=mv (L:=[]) (h0:=h) (y:={ cU x.kind with n:=x.n }) b1 b4 (v.uU.af e4) (qf.none g4) e4;exact hh
  ·have r:=of_decide_eq_false r;exact ⟨by rw [decide_eq_false (show ¬ 0≤x.n from r),Bool.and_false]; rfl,e4⟩
 have q7:x.kind≠7:=by simpa using q
 exact ⟨by rw [Em q1 q2 q3 q4 q5 q6 q7]; rfl,e3⟩
section
variable {α:Type}
def vE (en:α→Value) (D:List (ByteArray × α)):List (ByteArray × Value):=D.map fun p=>(p.1,en p.2)
def gE (D:List (ByteArray × α)) (s:ByteArray):Option α:=(D.find? fun p=>decide (s=p.1)).map (·.2)
def pE (D:List (ByteArray × α)) (s:ByteArray) (v:α):List (ByteArray × α):=if (gE D s).isSome then D.map fun p=>if s=p.1 then (p.1,v) else p else D++[(s,v)]
theorem Ey (en:α→Value) (D:List (ByteArray × α)) (s:ByteArray):look (vE en D) s=(gE D s).map en:=by
 unfold look gE vE
 induction D with
 | nil=>rfl
 | cons p D ih =>
  by_cases h:s=p.1
  ·simp [h]
  ·simp only [List.map_cons,List.find?_cons,decide_eq_false h];exact ih
theorem Lj (en:α→Value) (D:List (ByteArray × α)) (s:ByteArray) (v:α):FT (vE en D) s (en v)=vE en (pE D s v):=by
 unfold FT pE;rw [Ey];cases h:gE D s with
 | none=>simp [vE]
 | some q =>
  simp only [Option.map_some,Option.isSome_some,if_true,vE,List.map_map];refine List.map_congr_left fun p hp=>?_
  simp only [Function.comp];split <;> simp_all
theorem EM (D:List (ByteArray × α)) (s:ByteArray) (v:α):(pE D s v).length=if (gE D s).isSome then D.length else D.length+1:=by
 unfold pE;split <;> simp
theorem FH (D:List (ByteArray × α)) (s t:ByteArray) (v:α):gE (D++[(s,v)]) t=(gE D t).or (if t=s then some v else none):=by
 unfold gE;rw [List.find?_append];cases h:D.find? (fun p=>decide (t=p.1)) with
 | some q=>simp
 | none =>
  simp only [Option.none_or,Option.map_none,List.find?_cons,List.find?_nil]
  by_cases e:t=s
  ·simp [e]
  ·simp [e]
theorem Lc (D:List (ByteArray × α)) (s t:ByteArray) (v:α) (hs:(gE D s).isSome):gE (D.map fun p=>if s=p.1 then (p.1,v) else p) t=if t=s then some v else gE D t:=by
 unfold gE at *
 induction D with
 | nil=>simp at hs
 | cons p D ih =>
  by_cases h:s=p.1
  ·by_cases e:t=s
   ·simp [h,e]
   ·have e2:¬ t=p.1:=fun k=>e (k.trans h.symm)
    have hg:∀ l:List (ByteArray × α),(List.find? (fun p=>decide (t=p.1)) (List.map (fun p=>if s=p.1 then (p.1,v) else p) l)).map (·.2)=(List.find? (fun p=>decide (t=p.1)) l).map (·.2):=by
     intro l
     induction l with
     | nil=>rfl
     | cons q l ihl =>
      by_cases hq:s=q.1
      ·have:¬ t=q.1:=fun k=>e (k.trans hq.symm)
       simp only [List.map_cons,List.find?_cons,if_pos hq,decide_eq_false this];exact ihl
      ·simp only [List.map_cons,List.find?_cons,if_neg hq]
       by_cases ht:t=q.1
       ·simp [ht]
       ·simp only [decide_eq_false ht];exact ihl
    simp only [List.map_cons,List.find?_cons,if_pos h,decide_eq_false e2,if_neg e];exact hg D
  ·have hs2:(Option.map (fun x=>x.2) (List.find? (fun p=>decide (s=p.1)) D)).isSome:=by
    simpa [List.find?_cons,decide_eq_false h] using hs
   simp only [List.map_cons,List.find?_cons,if_neg h]
   by_cases ht:t=p.1
   ·have:¬ t=s:=fun k=>h (k.symm.trans ht)
    simp [ht,if_neg (ht▸this)]
   ·simp only [decide_eq_false ht];exact ih hs2
theorem Mz (D:List (ByteArray × α)) (s:ByteArray) (v:α) (t:ByteArray):gE (pE D s v) t=if t=s then some v else gE D t:=by
 unfold pE;split
 ·rename_i h;exact Lc D s t v h
 ·rename_i h;rw [FH]
  by_cases e:t=s
  ·subst e
   have:gE D t=none:=by simpa using h
   rw [this]; simp
  ·simp [e]
def KT (f:ByteArray→Option α) (s:ByteArray) (v:α):ByteArray→Option α:=fun t=>if t=s then some v else f t
def to (en:α→Value) (h:Hp) (g:Nat) (f:ByteArray→Option α) (n:Nat):Prop:=∃ D:List (ByteArray × α),fc h g (vE en D)∧(∀ s,gE D s=f s)∧D.length=n
theorem to.af {en:α→Value} {ws:List Nat} {h h':Hp} {g:Nat} {f:ByteArray→Option α} {n:Nat} (m:to en h g f n) (k:Ch ws h h') (hw:g∉ws):to en h' g f n:=by
 obtain ⟨D,m,r⟩:=m;exact ⟨D,m.af k hw,r⟩
theorem to.lt {en:α→Value} {h:Hp} {g:Nat} {f:ByteArray→Option α} {n:Nat} (m:to en h g f n):g<h.size:=by
 obtain ⟨D,m,r⟩:=m;exact m.lt
theorem to.new {en:α→Value} {h:Hp} {g:Nat} (m:fc h g []):to en h g (fun _=>none) 0:=⟨[],m,fun s=>rfl,rfl⟩
theorem to.FT {en:α→Value} {h':Hp} {g:Nat} {f:ByteArray→Option α} {n:Nat} {D:List (ByteArray × α)} (hD:∀ s,gE D s=f s) (hn:D.length=n) {s:ByteArray} {v:α} (m:fc h' g (Sx.FT (vE en D) s (en v))):to en h' g (KT f s v) (if (f s).isSome then n else n+1):=by
 rw [Lj] at m;refine ⟨_,m,fun t=>?_,?_⟩
 ·rw [Mz,hD t]; rfl
 ·rw [EM,hD s,hn]
end
def eB (b:Bool):Value:=.bool b
theorem KC:Tryz.prog.underlying 70=some (.map 9 4):=by kernel_rfl
theorem EU:Tryz.prog.underlying 9=some .string:=by kernel_rfl
theorem LS:(Tryz.prog.info? 4).bind (·.zero)=some (.bool false):=by kernel_rfl
def qc (h:Hp) (g:Nat) (D:List ByteArray):Prop:=∃ n,to eB h g (fun s=>if fJ D s then some true else none) n
theorem qc.af {ws:List Nat} {h h':Hp} {g:Nat} {D:List ByteArray} (m:qc h g D) (k:Ch ws h h') (hw:g∉ws):qc h' g D:=by
 obtain ⟨n,m⟩:=m;exact ⟨n,m.af k hw⟩
theorem qc.lt {h:Hp} {g:Nat} {D:List ByteArray} (m:qc h g D):g<h.size:=by
 obtain ⟨n,m⟩:=m;exact m.lt
section
variable {L:Lp} {K:Value→Hp→Prop} {h:Hp} {g:Nat} {D:List ByteArray}
theorem xw (m:qc h g D) (s:ByteArray) {k:Bool→T} (hk:k (fJ D s) L K h):T.aS Tryz.prog (Instr.lookup 70 (.map (some g)) (.string s) false) false [(false,[.bool])] k L K h:=by
 obtain ⟨n,D',m,hD,hn⟩:=m;refine yC KC EU LS m s false _ ?_;refine ⟨(fJ D s,()),?_,hk⟩;simp only [Bool.false_eq_true,if_false];rw [Ey,hD s];dsimp only
 all_goals (cases fJ D s <;> rfl)
theorem GV (m:qc h g D) {s:ByteArray} (hs:s.size≤maxLen) {k:T} (hk:∀ h',qc h' g (s::D)→Ch [g] h h'→h'.size=h.size→k L K h') :
  T.nr Tryz.prog (Instr.mapUpdate 70 (.map (some g)) (.string s) (.bool true)) k L K h:=by
 obtain ⟨n,D',m,hD,hn⟩:=m;refine rY KC EU m hs _ _ ?_;intro h' m' c' z'
 have:=to.FT (en:=eB) hD hn (v:=true) m'
 have he:KT (fun t=>if fJ D t then some true else none) s true=fun t=>if fJ (s::D) t then some true else none:=by
  funext t
  unfold KT fJ
  by_cases h1:t=s
  ·rw [if_pos h1,if_pos];simp [h1]
  ·rw [if_neg h1]
   have:¬ s=t:=fun e=>h1 e.symm
   rw [List.any_cons,decide_eq_false this,Bool.false_or]
 rw [he] at this;exact hk h' ⟨_,this⟩ c' z'
theorem Kp {t:TypeId} {k:Option Nat→T} (hk:∀ h',qc h' h.size []→Ext h h'→h'.size=h.size+1→k (some h.size) L K h'):T.aS Tryz.prog (Instr.makeMap t none) false [(false,[.map 0 0])] k L K h:=by
 refine qS _ ?_;intro h' m e z;exact ⟨(some h.size,()),rfl,hk h' ⟨0,to.new m⟩ e z⟩
end
/-! Lists in memory. -/
structure AH (h:Hp) (p:Option Addr) (l:Nat) (us:List bD):Prop where
 len:l=us.length
 many:us.length≤2^60
 cells:∀ i,(hi:i<us.length)→∃ a q m c,p=some a∧aH h (a.add (i*10)) 0 (encI q m c us[i])∧ur h q m us[i]
theorem AH.af {h h':Hp} {p:Option Addr} {l:Nat} {us:List bD} (v:AH h p l us) (k:Ext h h'):AH h' p l us :=
 ⟨v.len,v.many,fun i hi=>by
  obtain ⟨a,q,m,c,ha,hc,hv⟩:=v.cells i hi;exact ⟨a,q,m,c,ha,bj k (by simp) _ _ hc,hv.af k⟩⟩
def rQ (p:Option Addr) (l c:Nat) (x:kl):List Value:=[.string x.1,.slice p l c,.int .u32 x.2.num]
structure Iy (h:Hp) (p:Option Addr) (l:Nat) (us:List kl):Prop where
 len:l=us.length
 many:us.length≤2^60
 cells:∀ i,(hi:i<us.length)→∃ a q m c,p=some a∧aH h (a.add (i*3)) 0 (rQ q m c us[i])∧kz h q m us[i].2∧us[i].1.size≤maxLen
theorem Iy.af {h h':Hp} {p:Option Addr} {l:Nat} {us:List kl} (v:Iy h p l us) (k:Ext h h'):Iy h' p l us :=
 ⟨v.len,v.many,fun i hi=>by
  obtain ⟨a,q,m,c,ha,hc,hv,hs⟩:=v.cells i hi;exact ⟨a,q,m,c,ha,bj k (by simp) _ _ hc,hv.af k,hs⟩⟩
structure FK (h:Hp) (p:Option Addr) (l:Nat) (us:List ByteArray):Prop where
 len:l=us.length
 many:us.length≤2^60
 cells:∀ i,(hi:i<us.length)→∃ a,p=some a∧aH h (a.add (i*1)) 0 [.string us[i]]∧us[i].size≤maxLen
theorem FK.af {h h':Hp} {p:Option Addr} {l:Nat} {us:List ByteArray} (v:FK h p l us) (k:Ext h h'):FK h' p l us :=
 ⟨v.len,v.many,fun i hi=>by
  obtain ⟨a,ha,hc,hs⟩:=v.cells i hi;exact ⟨a,ha,bj k (by simp) _ _ hc,hs⟩⟩
structure bE where
 p:Option Addr
 l:Nat
 c:Nat
def bE.v (s:bE):Value:=.slice s.p s.l s.c
structure eZ (h:Hp) (a b c d:bE) (u:fU):Prop where
 text:AH h a.p a.l u.text
 data:AH h b.p b.l u.data
 aQ:Iy h c.p c.l u.aQ
 aG:FK h d.p d.l u.aG
theorem eZ.af {h h':Hp} {a b c d:bE} {u:fU} (v:eZ h a b c d u) (k:Ext h h'):eZ h' a b c d u:=⟨v.text.af k,v.data.af k,v.aQ.af k,v.aG.af k⟩
def jM (a b c d:bE):Value:=.agg #[a.v,b.v,c.v,d.v]
theorem Ks:Tryz.prog.underlying 100=some (.slice 23):=by kernel_rfl
theorem Mj:(Tryz.prog.info? 23).map (fun i=>(i.zero,i.size,i.bytes))=some (some (.slice none 0 0),1,24):=by kernel_rfl
theorem Km (p1:Option Addr) (l1 c1:Nat) (p2:Option Addr) (l2 c2:Nat):Instr.fill (fun j=>some (j*1,1)) ((Array.range (2*1)).map ((Value.slice none 0 0).cells[· % (Value.slice none 0 0).cells.size]!)) [(0,.slice p1 l1 c1),(1,.slice p2 l2 c2)]=some ([.slice p1 l1 c1,.slice p2 l2 c2]:List Value).toArray:=by kernel_rfl
/-! The sections,one behind the other. -/
def Fv (u:fU) (k:Nat):List bD:=if k=0 then u.text else u.data
def ri (u:fU) (k:Nat):List ByteArray:=if k=0 then [] else if k=1 then bH [] u.text else bH (bH [] u.text) u.data
def xK (u:fU) (k:Nat):Bool:=if k=0 then DM u else if k=1 then (gA 1 (bH [] u.text) u.data && (jK (bH (bH [] u.text) u.data) u.aQ && fC u.names bT u.aG)) else (jK (bH (bH [] u.text) u.data) u.aQ && fC u.names bT u.aG)
theorem ER (u:fU) {k:Nat} (hk:k<2):xK u k=(gA k (ri u k) (Fv u k) && xK u (k+1)):=by
 have:k=0∨k=1:=by omega
 rcases this with rfl | rfl
 ·simp [xK,ri,Fv,DM,Bool.and_assoc]
 ·simp [xK,ri,Fv]
theorem Fw (u:fU) {k:Nat} (hk:k<2):ri u (k+1)=bH (ri u k) (Fv u k):=by
 have:k=0∨k=1:=by omega
 rcases this with rfl | rfl <;> rfl
theorem Cx (D:List ByteArray) (l:List bD) {i:Nat} (hi:i<l.length):bH D (l.take (i+1))=As (bH D (l.take i)) l[i]:=by
 unfold bH;rw [List.take_succ_eq_append_getElem hi,List.foldl_append];rfl
theorem Co (D:List ByteArray) (l:List kl) {i:Nat} (hi:i<l.length):ib D (l.take (i+1))=l[i].1::ib D (l.take i):=by
 unfold ib;rw [List.take_succ_eq_append_getElem hi,List.foldl_append];rfl
theorem zO (sec:Nat) (D:List ByteArray) (l:List bD) {i:Nat} (hi:i<l.length):gA sec D (l.drop i)=(yw sec D l[i] && gA sec (As D l[i]) (l.drop (i+1))):=by
 rw [List.drop_eq_getElem_cons hi,gA]
theorem A8 (D:List ByteArray) (l:List kl) {i:Nat} (hi:i<l.length):jK D (l.drop i)=(Ea D l[i] && jK (l[i].1::D) (l.drop (i+1))):=by
 rw [List.drop_eq_getElem_cons hi,jK]
def sZ (l:List ByteArray) (i:Nat):ByteArray:=if i=0 then bT else l.getD (i-1) bT
theorem Ae (D:List ByteArray) (l:List ByteArray) {i:Nat} (hi:i<l.length):fC D (sZ l i) (l.drop i)=(MO D (sZ l i) l[i] && fC D (sZ l (i+1)) (l.drop (i+1))):=by
 rw [List.drop_eq_getElem_cons hi,fC]
 congr 2
 unfold sZ;rw [if_neg (by omega),Nat.add_sub_cancel,List.getD_eq_getElem?_getD,List.getElem?_eq_getElem hi];rfl
def Cs (h:Hp) (g:Nat) (D:List ByteArray):Prop:=qc h g D∧∀ s,s∈D→bo s.data.toList=true
theorem Cs.af {ws:List Nat} {h h':Hp} {g:Nat} {D:List ByteArray} (m:Cs h g D) (k:Ch ws h h') (hw:g∉ws):Cs h' g D:=⟨m.1.af k hw,m.2⟩
theorem GO {s:ByteArray} (h:bo s.data.toList=true):kP bT s:=by
 unfold bo at h;simp only [Bool.and_eq_true,decide_eq_true_eq] at h;have h2:=h.1.1.1.1;show (bT.data.toList:List UInt8)<s.data.toList
 have:(bT.data.toList:List UInt8)=[]:=rfl
 rw [this];cases hs:s.data.toList with
 | nil=>rw [hs] at h2; simp at h2
 | cons a l=>exact List.Lex.nil
theorem IG {D:List ByteArray} {s:ByteArray} (h:fJ D s=true):s∈D:=by
 unfold fJ at h;simp only [List.any_eq_true,decide_eq_true_eq] at h;obtain ⟨y,hy,rfl⟩:=h;exact hy
theorem J8 {h:Hp} (t:zK h) {x:bD} {p:Option Addr} {l c k:Nat} (v:ur h p l x) (hk:k<2) :
  HC Tryz.prog 44 #[sN p l c x,.int .i64 (k:Int)] h fun w h'=>w=JQ (dj x k)∧Ext h h':=by
 have:k=0∨k=1:=by omega
 rcases this with rfl | rfl
 ·exact GF t v
 ·exact F4 t v
theorem mi {h:Hp} (t:zK h) {a b c d:bE} {u:fU} (v:eZ h a b c d u):HC Tryz.prog 18 #[jM a b c d] h fun w h'=>w=.int .i64 (sC u:Nat)∧Ext h h':=by
 refine aL (args:=[jM a b c d]) mixed Tryz.func18 (by kernel_rfl) (uY a.p a.l a.c b.p b.l b.c c.p c.l c.c d.p d.l d.c) ?_;unfold rW;refine aW ?_;intro g1 b1 e1 z1;have b1:aM g1 h.size 27 [a.v,b.v,c.v,d.v]:=b1;have m1:=v.text.many;have m2:=v.data.many;have m3:=v.aQ.many;have m4:=v.aG.many;have n1:=v.text.len;have n2:=v.data.len;have n3:=v.aQ.len;have n4:=v.aG.len;have s1:=e1.size;simp only [au];refine ad b1 ((a.p,a.l,a.c),()) rfl ?_;dsimp only [flat,aD,aj,nA,cA];refine ad b1 ((b.p,b.l,b.c),()) rfl ?_;dsimp only [flat,aD,aj,nA,cA];rw [wrap_i64 (by omega) (by omega)];unfold sC vy;refine ah (fun q=>?_) (fun q=>?_)
 ·have q:=of_decide_eq_true q;exact ⟨by rw [decide_eq_true (show 8192<u.text.length+u.data.length by omega)]; rfl,e1⟩
 have q:=of_decide_eq_false q;rw [decide_eq_false (show ¬ 8192<u.text.length+u.data.length by omega),Bool.false_or];refine ad b1 ((c.p,c.l,c.c),()) rfl ?_;dsimp only [flat,aD,aj,nA,cA];refine ah (fun q=>?_) (fun q=>?_)
 ·have q:=of_decide_eq_true q;exact ⟨by rw [decide_eq_true (show 8192<u.aQ.length by omega)]; rfl,e1⟩
 have q:=of_decide_eq_false q;rw [decide_eq_false (show ¬ 8192<u.aQ.length by omega),if_neg (by simp)];refine Kp ?_;intro g2 m e2 z2;have b2:=b1.af e2 (by simp);refine ad b2 ((a.p,a.l,a.c),()) rfl ?_;dsimp only [flat,aD,aj,nA,cA];refine ad b2 ((b.p,b.l,b.c),()) rfl ?_;dsimp only [flat,aD,aj,nA,cA];refine dY Ks Mj (by omega) (by omega) (Km a.p a.l a.c b.p b.l b.c) ?_;intro g3 b3 e3 z3;have m:=m.af e3 (by have:=m.lt; simp);have e03:=(e1.trans e2).trans e3;have b3':=b2.af e3 (by simp);have s2:=e2.size;clear b1 b2;have hsec:∀ k,k<2→∃ s:bE,([a.v,b.v]:List Value).drop k=s.v::([a.v,b.v]:List Value).drop (k+1)∧AH h s.p s.l (Fv u k):=by
  intro k hk
  have:k=0∨k=1:=by omega
  rcases this with rfl | rfl
  ·exact ⟨a,rfl,v.text⟩
  ·exact ⟨b,rfl,v.data⟩
 have s3:=e3.size;have b3:aM g3 g2.size 23 [a.v,b.v]:=b3;generalize hU:DM u=U;refine aY (cs:=[(false,[.int .i64]),(false,[.int .i64])]) (fun y w h'=>∃ k:Nat,y.2.1=(k:Int)∧k≤2∧w=2-k∧Ext h h'∧aM h' h.size 27 [a.v,b.v,c.v,d.v]∧aM h' g2.size 23 [a.v,b.v]∧Cs h' g1.size (ri u k)∧U=xK u k) ((0:Int),(0:Int),()) 2 rfl
  ⟨0,rfl,by omega,by omega,e03,b3',b3,⟨m,by simp [ri]⟩,hU.symm⟩ ?_
 rintro ⟨n21,n22,⟨⟩⟩ w h4 ⟨k,hk,hk2,rfl,e4,b1,b2,m,hu⟩;simp only at hk;subst hk;dsimp only [flat,aD,aj,nA,cA];refine ah (fun q=>?_) (fun q=>?_)
 ·have q:=of_decide_eq_true q;have hk:k<2:=by omega
  obtain ⟨sl,hsl,vs⟩:=hsec k hk;refine aA ⟨by omega,by omega⟩ (ai rfl ?_);rw [au];refine ad b2 ((sl.p,sl.l,sl.c),()) (by rw [show 0+(k:Int).toNat*1=k by omega,hsl]; rfl) ?_;dsimp only [flat,aD,aj,nA,cA];have lk:=vs.len;have mk:=vs.many;generalize hl:Fv u k=l at vs lk mk;have hu2:U=(gA k (bH (ri u k) (l.take 0)) (l.drop 0) && xK u (k+1)):=by
   rw [hu,ER u hk,hl];rfl
  refine aY (cs:=[(false,[.int .i64]),(false,[.int .i64])]) (fun y w h'=>∃ i:Nat,y.2.1=(i:Int)∧i≤l.length∧w=l.length-i∧Ext h h'∧aM h' h.size 27 [a.v,b.v,c.v,d.v]∧aM h' g2.size 23 [a.v,b.v]∧Cs h' g1.size (bH (ri u k) (l.take i))∧U=(gA k (bH (ri u k) (l.take i)) (l.drop i) && xK u (k+1))) (n21,(0:Int),()) l.length rfl
   ⟨0,rfl,by omega,by omega,e4,b1,b2,m,hu2⟩ ?_
  clear hu hu2 m b1 b2 e4;rintro ⟨n27,n28,⟨⟩⟩ w h5 ⟨i,hi,hile,rfl,e5,b1,b2,m,hu⟩;simp only at hi;subst hi;dsimp only [flat,aD,aj,nA,cA];refine ah (fun q2=>?_) (fun q2=>?_)
  ·have q2:=of_decide_eq_true q2;have hil:i<l.length:=by omega
   obtain ⟨aa,pp,ll,cc,kR,hc,va⟩:=(vs.af e5).cells i hil;rw [zO k _ l hil] at hu;have hnt:=Cx (ri u k) l hil;generalize l[i]=x at hc va hu hnt;refine aA ⟨by omega,by omega⟩ (ai kR ?_);rw [show Int.toNat (i:Int)=i by omega];refine aE (x.kind,x.name,x.inst.op,x.inst.a,x.inst.b,x.inst.n,x.inst.form,(pp,ll,cc),(x.e.num:Int),x.n,()) hc ?_;dsimp only [flat,aD,aj,nA,cA];refine aW ?_;intro h6 b6 e6 z6;refine an b6 rfl (by simp) ?_;intro h7 b7 k7 z7;have b7:aM h7 h5.size 96 (encI pp ll cc x):=b7;have e57:Ext h5 h7:=e6.st k7 (Nat.le_refl _);have e7:=e5.trans e57;simp only [au];refine ad b7 (x.kind,x.name,x.inst.op,x.inst.a,x.inst.b,x.inst.n,x.inst.form,(pp,ll,cc),(x.e.num:Int),x.n,()) rfl ?_;dsimp only [flat,aD,aj,nA,cA];refine aF (J8 (c:=cc) (t.af e7 (by simp)) (va.af e57) hk) ?_;rintro _ h8 ⟨rfl,e8⟩;refine ⟨((if dj x k then 0 else 31:Int),()),rfl,?_⟩;dsimp only [flat,aD,aj,nA,cA];have e58:=e57.trans e8;have e08:=e5.trans e58;have b1:=b1.af e58 (by simp);have b2:=b2.af e58 (by simp);have m:=m.af e58 (by simp);have b8:=b7.af e8 (by simp);refine ah (fun r=>?_) (fun r=>?_)
   ·have r:dj x k=false:=by
     cases hr:dj x k with
     | false=>rfl
     | true=>rw [hr] at r; simp at r
    exact ⟨by rw [hu,yw,r]; rfl,e08⟩
   have r:dj x k=true:=by
    cases hr:dj x k with
    | true=>rfl
    | false=>rw [hr] at r; simp at r
   have hno:∀ D,yw k D x=!(decide (x.kind=1) && fJ D x.name):=fun D=>by rw [yw,r]; rfl
   rw [hno] at hu;refine ad b8 (x.kind,()) rfl ?_;dsimp only [flat,aD,aj,nA,cA];refine ah (fun r1=>?_) (fun r1=>?_)
   ·have r1:x.kind=1:=by simpa using r1
    rw [decide_eq_true r1,Bool.true_and] at hu;have hle:bo x.name.data.toList=true:=by
     rw [Df r1,Bool.and_eq_true] at r;exact r.1
    refine ad b8 (x.name,()) rfl ?_;dsimp only [flat,aD,aj,nA,cA];refine xw m.1 x.name ?_;refine ah (fun r2=>?_) (fun r2=>?_)
    ·exact ⟨by rw [hu,r2]; rfl,e08⟩
    rw [r2] at hu;refine ad b8 (x.kind,()) rfl ?_;dsimp only [flat,aD,aj,nA,cA];refine bC (by simpa using r1) ?_;refine ad b8 (x.name,()) rfl ?_;dsimp only [flat,aD,aj,nA,cA];refine GV m.1 va.name ?_;intro h9 m9 k9 z9;have e09:Ext h h9:=e08.st k9 (by omega);have s5:=e5.size;have hadd:As (bH (ri u k) (l.take i)) x=x.name::bH (ri u k) (l.take i):=by unfold As; rw [if_pos r1]
    refine aK (cs:=[(false,[.int .i64]),(false,[.int .i64])]) (n27,((i+1:Nat):Int),()) (l.length-(i+1)) rfl (by omega) (by rw [wrap_i64 (by omega) (by omega)]; rfl) ?_;refine ⟨i+1,rfl,by omega,rfl,e09,b1.af k9 (by simp; omega),b2.af k9 (by simp; omega),by rw [hnt,hadd]; exact ⟨m9,fun s hs=>(List.mem_cons.1 hs).elim (fun e=>by rw [e]; exact hle) (m.2 s)⟩,by rw [hu,hnt]; rfl⟩
   ·have r1:¬ x.kind=1:=by simpa using r1
    rw [decide_eq_false r1] at hu;refine ad b8 (x.kind,()) rfl ?_;dsimp only [flat,aD,aj,nA,cA];refine bw (by simpa using r1) ?_;have hadd:As (bH (ri u k) (l.take i)) x=bH (ri u k) (l.take i):=by unfold As; rw [if_neg r1]
    refine aK (cs:=[(false,[.int .i64]),(false,[.int .i64])]) (n27,((i+1:Nat):Int),()) (l.length-(i+1)) rfl (by omega) (by rw [wrap_i64 (by omega) (by omega)]; rfl) ?_;refine ⟨i+1,rfl,by omega,rfl,e08,b1,b2,by rw [hnt,hadd]; exact m,by rw [hu,hnt]; rfl⟩
  ·have q2:=of_decide_eq_false q2;have hil:i=l.length:=by omega
   subst hil;rw [List.take_length] at m hu;rw [List.drop_length,gA,Bool.true_and] at hu;refine aK (cs:=[(false,[.int .i64]),(false,[.int .i64])]) (n27,((k+1:Nat):Int),()) (2-(k+1)) rfl (by omega) (by rw [wrap_i64 (by omega) (by omega)]; rfl) ?_;refine ⟨k+1,rfl,by omega,rfl,e5,b1,b2,by rw [Fw u hk,hl]; exact m,hu⟩
 ·have q:=of_decide_eq_false q;have hk:k=2:=by omega
  subst hk;have hu:U=(jK (bH (bH [] u.text) u.data) u.aQ && fC u.names bT u.aG):=hu;have m:Cs h4 g1.size (bH (bH [] u.text) u.data):=m;generalize hD:bH (bH [] u.text) u.data=D at hu m;have hN:u.names=ib D u.aQ:=by rw [← hD]; rfl
  rw [hN] at hu;refine ad b1 ((c.p,c.l,c.c),()) rfl ?_;dsimp only [flat,aD,aj,nA,cA];have hu2:U=(jK (ib D (u.aQ.take 0)) (u.aQ.drop 0) && fC (ib D u.aQ) bT u.aG):=hu;refine aY (cs:=[(false,[.int .i64]),(false,[.int .i64])]) (fun y w h'=>∃ i:Nat,y.2.1=(i:Int)∧i≤u.aQ.length∧w=u.aQ.length-i∧Ext h h'∧aM h' h.size 27 [a.v,b.v,c.v,d.v]∧Cs h' g1.size (ib D (u.aQ.take i))∧U=(jK (ib D (u.aQ.take i)) (u.aQ.drop i) && fC (ib D u.aQ) bT u.aG)) (n21,(0:Int),()) u.aQ.length rfl
   ⟨0,rfl,by omega,by omega,e4,b1,m,hu2⟩ ?_
  clear hu hu2 m b1 b2 e4;rintro ⟨n27,n28,⟨⟩⟩ w h5 ⟨i,hi,hile,rfl,e5,b1,m,hu⟩;simp only at hi;subst hi;dsimp only [flat,aD,aj,nA,cA];have s5:=e5.size;refine ah (fun q2=>?_) (fun q2=>?_)
  ·have q2:=of_decide_eq_true q2;have hil:i<u.aQ.length:=by omega
   obtain ⟨aa,pp,ll,cc,kR,hc,va,vn⟩:=(v.aQ.af e5).cells i hil;rw [A8 _ _ hil] at hu;have hnt:=Co D u.aQ hil;generalize u.aQ[i]=x at hc va vn hu hnt;refine aA ⟨by omega,by omega⟩ (ai kR ?_);rw [show Int.toNat (i:Int)=i by omega];refine aE (x.1,(pp,ll,cc),(x.2.num:Int),()) hc ?_;dsimp only [flat,aD,aj,nA,cA];refine aW ?_;intro h6 b6 e6 z6;refine an b6 rfl (by simp) ?_;intro h7 b7 k7 z7;have b7:aM h7 h5.size 99 (rQ pp ll cc x):=b7;have e57:Ext h5 h7:=e6.st k7 (Nat.le_refl _);have e7:=e5.trans e57;simp only [au];have b1:=b1.af e57 (by simp);have m:=m.af e57 (by simp);unfold Ea at hu;refine ad b7 (x.1,()) rfl ?_;dsimp only [flat,aD,aj,nA,cA];refine xw m.1 x.1 ?_;refine ah (fun r=>?_) (fun r=>?_)
   ·exact ⟨by rw [hu,r]; rfl,e7⟩
   rw [r] at hu;refine ad b7 (x.1,()) rfl ?_;dsimp only [flat,aD,aj,nA,cA];refine aI (lG x.1 h7 (by have:maxLen=9223372036854775807:=rfl; omega)) ?_;refine ah (fun r=>?_) (fun r=>?_)
   ·have r:bo x.1.data.toList=false:=by simpa using r
    exact ⟨by rw [hu,r]; rfl,e7⟩
   have hle:bo x.1.data.toList=true:=by simpa using r
   rw [hle] at hu;refine ad b7 ((pp,ll,cc),(x.2.num:Int),()) rfl ?_;dsimp only [flat,aD,aj,nA,cA];refine aF (rc (c:=cc) (va.af e57).vw (by have:=va.many; omega) va.names) ?_;rintro _ h8 ⟨rfl,e8⟩;refine ⟨(uA none x.2.aC,()),rfl,?_⟩;dsimp only [flat,aD,aj,nA,cA];have e08:=e7.trans e8;have b1:=b1.af e8 (by simp);have m:=m.af e8 (by simp);have b8:=b7.af e8 (by simp);refine ah (fun r=>?_) (fun r=>?_)
   ·have r:uA none x.2.aC=false:=by simpa using r
    exact ⟨by rw [hu,r]; rfl,e08⟩
   have r:uA none x.2.aC=true:=by simpa using r
   rw [r] at hu;refine ad b8 (x.1,()) rfl ?_;dsimp only [flat,aD,aj,nA,cA];refine GV m.1 vn ?_;intro h9 m9 k9 z9;have e09:Ext h h9:=e08.st k9 (by omega);refine aK (cs:=[(false,[.int .i64]),(false,[.int .i64])]) (n27,((i+1:Nat):Int),()) (u.aQ.length-(i+1)) rfl (by omega) (by rw [wrap_i64 (by omega) (by omega)]; rfl) ?_;refine ⟨i+1,rfl,by omega,rfl,e09,b1.af k9 (by simp; omega),by rw [hnt]; exact ⟨m9,fun s hs=>(List.mem_cons.1 hs).elim (fun e=>by rw [e]; exact hle) (m.2 s)⟩,by rw [hu,hnt]; rfl⟩
  have q2:=of_decide_eq_false q2;have hil:i=u.aQ.length:=by omega
  subst hil;rw [List.take_length] at m hu;rw [List.drop_length,jK,Bool.true_and] at hu;generalize hE:ib D u.aQ=E at m hu;refine ad b1 ((d.p,d.l,d.c),()) rfl ?_;dsimp only [flat,aD,aj,nA,cA];have hu2:U=fC E (sZ u.aG 0) (u.aG.drop 0):=hu;refine aY (cs:=[(false,[.int .i64]),(false,[.int .i64])]) (fun y w h'=>∃ i:Nat,y.2.1=(i:Int)∧i≤u.aG.length∧w=u.aG.length-i∧Ext h h'∧aM h' h.size 27 [a.v,b.v,c.v,d.v]∧Cs h' g1.size E∧U=fC E (sZ u.aG i) (u.aG.drop i)) (n27,(0:Int),()) u.aG.length rfl
   ⟨0,rfl,by omega,by omega,e5,b1,m,hu2⟩ ?_
  clear hu hu2 m b1 e5 s5;rintro ⟨n31,n32,⟨⟩⟩ w h6 ⟨i,hi,hile,rfl,e6,b1,m,hu⟩;simp only at hi;subst hi;dsimp only [flat,aD,aj,nA,cA];refine ah (fun q3=>?_) (fun q3=>?_)
  ·have q3:=of_decide_eq_true q3;have hil:i<u.aG.length:=by omega
   obtain ⟨aa,kR,hc,va⟩:=(v.aG.af e6).cells i hil;rw [Ae _ _ hil] at hu;unfold MO at hu;refine aA ⟨by omega,by omega⟩ (ai kR ?_);rw [show Int.toNat (i:Int)=i by omega];refine aE (u.aG[i],()) hc ?_;dsimp only [flat,aD,aj,nA,cA];refine xw m.1 _ ?_;refine ah (fun r=>?_) (fun r=>?_)
   ·have r:fJ E u.aG[i]=false:=by simpa using r
    exact ⟨by rw [hu,r]; rfl,e6⟩
   have r:fJ E u.aG[i]=true:=by simpa using r
   rw [r,Bool.true_and] at hu;refine ah (fun r2=>?_) (fun r2=>?_)
   ·have r2:=of_decide_eq_true r2;refine ad b1 ((d.p,d.l,d.c),()) rfl ?_;dsimp only [flat,aD,aj,nA,cA];rw [wrap_i64 (by omega) (by omega)];obtain ⟨ab,rfl'',hc',va'⟩:=(v.aG.af e6).cells (i-1) (by omega);refine aA ⟨by omega,by omega⟩ (ai rfl'' ?_);rw [show Int.toNat ((i:Int)-1)=i-1 by omega];refine aE (u.aG[i-1],()) hc' ?_;dsimp only [flat,aD,aj,nA,cA];have hla:sZ u.aG i=u.aG[i-1]:=by
     unfold sZ;rw [if_neg (by omega),List.getD_eq_getElem?_getD,List.getElem?_eq_getElem (by omega)];rfl
    rw [leB];rw [hla] at hu;refine ah (fun r3=>?_) (fun r3=>?_)
    ·have r3:decide (kP u.aG[i-1] u.aG[i])=false:=by simpa using r3
     exact ⟨by rw [hu,r3]; rfl,e6⟩
    ·have r3:decide (kP u.aG[i-1] u.aG[i])=true:=by simpa using r3
     rw [r3,Bool.true_and] at hu;refine aK (cs:=[(false,[.int .i64]),(false,[.int .i64])]) (n31,((i+1:Nat):Int),()) (u.aG.length-(i+1)) rfl (by omega) (by rw [wrap_i64 (by omega) (by omega)]; rfl) ?_;exact ⟨i+1,rfl,by omega,rfl,e6,b1,m,hu⟩
   ·have r2:=of_decide_eq_false r2;have hi0:i=0:=by omega
    subst hi0;have hg:decide (kP (sZ u.aG 0) u.aG[0])=true:=decide_eq_true (GO (m.2 _ (IG r)));rw [hg,Bool.true_and] at hu;refine aK (cs:=[(false,[.int .i64]),(false,[.int .i64])]) (n31,((0+1:Nat):Int),()) (u.aG.length-(0+1)) rfl (by omega) (by rw [wrap_i64 (by omega) (by omega)]; rfl) ?_;exact ⟨0+1,rfl,by omega,rfl,e6,b1,m,hu⟩
  ·have q3:=of_decide_eq_false q3;have hil:i=u.aG.length:=by omega
   subst hil;rw [List.drop_length] at hu;exact ⟨by rw [hu]; rfl,e6⟩
def yo (l:List UInt8):List (List Value):=l.map fun b=>[.int .u8 (b.toNat:Int)]
theorem wU (l:List UInt8):(yo l).length=l.length:=by simp [yo]
theorem Ed (l:List UInt8):∀ y,y∈yo l→y.length=1:=by
 intro y hy;obtain ⟨b,_,rfl⟩:=List.mem_map.1 hy;rfl
theorem AP (l:List UInt8):(yo l).flatten=l.map fun b=>.int .u8 (b.toNat:Int):=by
 induction l with
 | nil=>rfl
 | cons a l ih =>
  have:yo (a::l)=[.int .u8 (a.toNat:Int)]::yo l:=rfl
  rw [this,List.flatten_cons,ih];rfl
theorem Fz (l:List UInt8):(yo l).flatten.all dA=true:=by
 rw [AP];simp [dA]
theorem GU:Tryz.prog.underlying 42=some (.slice 5):=by kernel_rfl
theorem Nl:(Tryz.prog.info? 5).map (fun i=>(i.zero,i.size,i.bytes))=some (some (.int .u8 0),1,1):=by kernel_rfl
def IA (g:Nat) (h:Hp) (p:Option Addr) (h':Hp) (p':Option Addr):Prop:=Ch (g::az p) h h'∧(p'=p∨∃ a,p'=some a∧h.size≤a.block)
theorem IA.refl (g:Nat) (h:Hp) (p:Option Addr):IA g h p h p:=⟨Ch.refl _ _,.inl rfl⟩
theorem IA.trans {g:Nat} {h h1 h2:Hp} {p p1 p2:Option Addr} (a:IA g h p h1 p1) (b:IA g h1 p1 h2 p2):IA g h p h2 p2:=by
 refine ⟨a.1.trans b.1 ?_,?_⟩
 ·intro i hi hl;rcases List.mem_cons.1 hi with rfl | hi
  ·simp
  ·rcases a.2 with h1 | ⟨q,h1,h3⟩
   ·rw [h1] at hi;exact List.mem_cons_of_mem _ hi
   ·rw [h1] at hi;simp [az] at hi;omega
 ·rcases b.2 with h3 | ⟨q,h3,h4⟩
  ·rcases a.2 with h5 | ⟨r,h5,h6⟩
   ·exact .inl (h3.trans h5)
   ·exact .inr ⟨r,h3.trans h5,h6⟩
  ·exact .inr ⟨q,h3,Nat.le_trans a.1.size h4⟩
theorem IA.of {g:Nat} {h h':Hp} (e:Ext h h') (p:Option Addr):IA g h p h' p:=⟨e.mono (by simp),.inl rfl⟩
theorem SL.bR {h:Hp} {b:Nat} {e:TypeId} {sz:Nat} {p:Option Addr} {l c:Nat} {xs:List (List Value)} (s:SL h b e sz p l c xs):∀ i,i∈az p→b≤i∧i<h.size:=by
 intro i hi;cases p with
 | none=>simp [az] at hi
 | some a =>
  obtain ⟨g,pre,rest,rfl,hb,_,hbox,_⟩:=s.2.2;simp [az] at hi;exact ⟨by omega,by rw [hi]; exact hbox.lt⟩
theorem IA.box {g k:Nat} {h h':Hp} {p p':Option Addr} {e:TypeId} {xs:List Value} (b:aM h k e xs) (hk:k∉g::az p) (s:IA g h p h' p'):aM h' k e xs∧k∉g::az p':=by
 refine ⟨b.af s.1 hk,?_⟩;rcases s.2 with h3 | ⟨a,h3,h4⟩
 ·rw [h3]; exact hk
 ·rw [h3]
  have:=b.lt
  have h5:k≠g:=fun e=>hk (by rw [e]; simp)
  simp [az];omega
theorem wrap_u32 (n:Int):IntKind.wrap .u32 n=((u32 n:Nat):Int):=by
 simp only [IntKind.wrap,IntKind.bits,IntKind.signed,Bool.false_and,Bool.false_eq_true,if_false];unfold u32;omega
theorem LW (a:Int):Instr.fill (fun j=>some (j*1,1)) ((Array.range (1*1)).map ((Value.int .u8 0).cells[· % (Value.int .u8 0).cells.size]!)) [(0,.int .u8 a)]=some ([.int .u8 a]:List Value).toArray:=by kernel_rfl
structure Iz (h:Hp) (p:Option Addr) (l:Nat) (us:Bt):Prop where
 len:l=us.length
 cells:∀ i,(hi:i<us.length)→∃ a,p=some a∧aH h (a.add (i*1)) 0 [.int .u8 (us[i].toNat:Int)]
theorem Iz.af {h h':Hp} {p:Option Addr} {l:Nat} {us:Bt} (v:Iz h p l us) (k:Ext h h'):Iz h' p l us :=
 ⟨v.len,fun i hi=>by
  obtain ⟨a,ha,hc⟩:=v.cells i hi;exact ⟨a,ha,bj k (by simp) _ _ hc⟩⟩
theorem zE {P:Program} {h:Hp} (a:Addr) (l:List UInt8) (cap:Nat) (K:Value→Hp→Prop) (hc:aH h a 0 (l.map gU)) (hk:K (.string ⟨l.toArray⟩) h):aJ P (Conv.bytesToString (.slice (some a) l.length cap)) h K:=by
 unfold Conv.bytesToString;simp only;rw [ak];refine cz (by simp) hc _ ?_;rw [ak,← Array.forIn_toList]
 have key:∀ (l:List UInt8) (s:ByteArray) (K':ByteArray→Hp→Prop),K' ⟨s.data++l.toArray⟩ h→aJ P (forIn (l.map gU) s fun c r=>match c with
   | .int .u8 n=>(pure (ForInStep.yield (r.push (UInt8.ofNat n.toNat))):Sem (ForInStep ByteArray))
   | _ => stuck "bytesToString: byte expected") h K' := by
  intro l
  induction l with
  | nil =>
   intro s K' hk;have e:(⟨s.data++([]:List UInt8).toArray⟩:ByteArray)=s:=by simp
   rw [e] at hk;exact hk
  | cons c l ih =>
   intro s K' hk;rw [List.map_cons,List.forIn_cons];rw [ak];show aJ P (forIn (List.map gU l) (s.push (UInt8.ofNat ((c.toNat:Nat):Int).toNat)) _) h K';have e1:UInt8.ofNat ((c.toNat:Nat):Int).toNat=c:=by simp
   rw [e1];refine ih (s.push c) K' ?_
   have:(⟨(s.push c).data++l.toArray⟩:ByteArray)=⟨s.data++(c::l).toArray⟩:=by
    congr 1
    apply Array.toList_inj.1
    simp
   rw [this]; exact hk
 refine key l ByteArray.empty _ ?_;have e:(⟨ByteArray.empty.data++l.toArray⟩:ByteArray)=⟨l.toArray⟩:=by
  congr 1
  apply Array.toList_inj.1
  simp
 rw [e];exact hk
theorem Iz.from {h:Hp} {a:Addr} {l:Nat} {us:Bt} (v:Iz h (some a) l us):∀ (n i:Nat),i+n≤us.length→aH h (a.add (i*1)) 0 (((us.drop i).take n).map gU):=by
 have key:∀ (n i k:Nat),i+k+n≤us.length→aH h (a.add (i*1)) k (((us.drop (i+k)).take n).map gU):=by
  intro n
  induction n with
  | zero=>intro i k _; trivial
  | succ n ih =>
   intro i k hk;rw [List.drop_eq_getElem_cons (by omega),List.take_succ_cons,List.map_cons];obtain ⟨b,hb,hc⟩:=v.cells (i+k) (by omega);cases hb;refine ⟨?_,?_⟩
   ·have:=hc.1
    rw [show (a.add ((i+k)*1)).add 0=(a.add (i*1)).add k by rw [Go.Sx.add_add,Go.Sx.add_add]; congr 1; omega] at this;exact this
   ·have:=ih i (k+1) (by omega)
    rw [← Nat.add_assoc] at this;exact this
 intro n i hi;exact key n i 0 (by omega)
abbrev St:=Except (Nat × Nat) Bt
def Lb (h:Hp) (g gm:Nat) (full:Bt) (at_:Nat) (no:Option Addr):St→Prop
 | .ok r=>no=none∧full.drop at_=r
 | .error e=>e.1≤full.length∧∃ a,no=some ⟨a,0,none⟩∧aM h a 63 [.int .i64 ((full.length-e.1:Nat):Int),.int .i64 (e.2:Nat)]∧a≠g∧a≠gm
theorem Lb.af {ws:List Nat} {h h':Hp} {g gm:Nat} {full:Bt} {at_:Nat} {no:Option Addr} {st:St} (n:Lb h g gm full at_ no st) (k:Ch ws h h') (hw:∀ i,i∈ws→i<h.size→i=g∨i=gm):Lb h' g gm full at_ no st:=by
 cases st with
 | ok r=>exact n
 | error e =>
  obtain ⟨h1,a,h2,h3,h4,h5⟩:=n;exact ⟨h1,a,h2,h3.af k (fun hi=>(hw a hi h3.lt).elim (fun e=>h4 e) (fun e=>h5 e)),h4,h5⟩
def vC {α:Type} (f:Bt→Rd α) (st:St) (x:α) (st':St):Prop :=
 match st with
 | .error e=>st'=.error e
 | .ok r=>match f r with
  | .ok q=>x=q.1∧st'=.ok q.2
  | .error e=>st'=.error e
theorem vC.off {α:Type} (f:Bt→Rd α) (e:Nat × Nat) (x:α):vC f (.error e) x (.error e):=rfl
theorem vC.and {α β:Type} {f:Bt→Rd α} {k:α→Bt→Rd β} {st st1 st2:St} {x:α} {y:β} (h1:vC f st x st1) (h2:vC (k x) st1 y st2):vC (fun r=>eS (f r) k) st y st2:=by
 cases st with
 | error e =>
  have h1:st1=.error e:=h1;rw [h1] at h2;exact h2
 | ok r =>
  unfold vC at h1 ⊢;simp only at h1 ⊢;cases hf:f r with
  | error e =>
   rw [hf] at h1;have h1:st1=.error e:=h1;rw [h1] at h2;exact h2
  | ok q =>
   rw [hf] at h1;obtain ⟨rfl,h1⟩:=h1;rw [h1] at h2;exact h2
theorem vC.ret {α:Type} (x:α) (st:St):vC (fun r=>.ok (x,r)) st x st:=by
 cases st with
 | error e=>rfl
 | ok r=>exact ⟨rfl,rfl⟩
def K8 (full:Bt) (at_ why:Nat):St→St
 | .ok _=>.error (full.length-at_,why)
 | .error e=>.error e
structure uz (x:fa):Prop where
 many:x.aC.length≤65535
 aC:∀ u,u∈x.aC→u.1.size<65536∧u.2<4294967296
 num:x.num<4294967296
structure zk (x:bD):Prop where
 uU:uz x.e
 name:x.name.size<65536
 op:Sm x.inst.op
theorem uz.zero:uz dZ:=⟨by decide,by simp [dZ],by decide⟩
theorem uz.at {h:Hp} {b:Nat} {e:TypeId} {p:Option Addr} {l c:Nat} {x:fa} (r:uz x) (s:SL h b e 2 p l c (x.aC.map cj)):kz h p l x :=
 ⟨Sx.SL.G1 s,by have:=r.many; omega,fun t ht=>by have:=(r.aC t ht).1; unfold maxLen; omega⟩
theorem zk.at {h:Hp} {b:Nat} {e:TypeId} {p:Option Addr} {l c:Nat} {x:bD} (r:zk x) (s:SL h b e 2 p l c (x.e.aC.map cj)):ur h p l x :=
 ⟨r.uU.at s,by have:=r.name; unfold maxLen; omega,r.op⟩
def iz:List Value:=[.int .i64 (0:Int),.string ⟨#[]⟩,.int .i64 (0:Int),.int .i64 (0:Int),.int .i64 (0:Int),.int .i32 (0:Int),.int .i64 (0:Int),.slice none 0 0,.int .u32 (0:Int),.int .i64 (0:Int)]
structure Ls {α:Type} (e:TypeId) (sz:Nat) (enc:bE→α→List Value) (tm:α→dw) (ok:α→Prop) (h:Hp) (b:Nat) (p:Option Addr) (l c:Nat) (us:List (bE × α)):Prop where
 sl:SL h b e sz p l c (us.map fun u=>enc u.1 u.2)
 own:∀ u,u∈us→SL h b 109 2 u.1.p u.1.l u.1.c ((tm u.2).map cj)
 ok:∀ u,u∈us→ok u.2
section
variable {α:Type} {e:TypeId} {sz:Nat} {enc:bE→α→List Value} {tm:α→dw} {ok:α→Prop} {h h':Hp} {b b':Nat} {p:Option Addr} {l c:Nat} {us:List (bE × α)}
theorem Ls.nil (h:Hp) (b:Nat):Ls e sz enc tm ok h b none 0 0 []:=⟨SL.nil _ _ _ _,by simp,by simp⟩
theorem SL.lZ {ws:List Nat} {h h':Hp} {b:Nat} {e:TypeId} {sz:Nat} {p:Option Addr} {l c:Nat} {xs:List (List Value)} (s:SL h b e sz p l c xs) (k:Ch ws h h') (hw:∀ i,i∈ws→i<h.size→i<b):SL h' b e sz p l c xs :=
 Sx.SL.aO s k (fun i hi hm=>by have:=Sx.SL.bR s hi; have:=hw i hm this.2; omega)
theorem Ls.af {ws:List Nat} (s:Ls e sz enc tm ok h b p l c us) (k:Ch ws h h') (hw:∀ i,i∈ws→i<h.size→i<b):Ls e sz enc tm ok h' b p l c us :=
 ⟨SL.lZ s.sl k hw,fun u hu=>SL.lZ (s.own u hu) k hw,s.ok⟩
theorem Ls.mono (s:Ls e sz enc tm ok h b p l c us) (hb:b'≤b):Ls e sz enc tm ok h b' p l c us :=
 ⟨Sx.SL.mono s.sl hb,fun u hu=>Sx.SL.mono (s.own u hu) hb,s.ok⟩
theorem Ls.len (s:Ls e sz enc tm ok h b p l c us):l=us.length:=by rw [s.sl.1,List.length_map]
end
theorem vC.many {α:Type} {most:Option Nat} {f:Nat→Bt→Rd α} {full:Bt} {fr:Nat} {st st1:St} {n:Nat} (p:vC (pW 2) st n st1) (ho:over most n=true) (hat:∀ r,st=.ok r→full.length-fr=r.length) (x:α):vC (yb most f) st x (K8 full fr 4 st1):=by
 cases st with
 | error e =>
  have p:st1=.error e:=p;rw [p];rfl
 | ok r =>
  unfold vC at p ⊢;simp only at p ⊢;unfold yb;cases hf:pW 2 r with
  | error e =>
   rw [hf] at p;have p:st1=.error e:=p;rw [p];rfl
  | ok q =>
   rw [hf] at p;obtain ⟨rfl,p⟩:=p;obtain ⟨q1,q2⟩:=q;rw [Gt,if_pos (show over most q1=true from ho),p];show K8 full fr 4 (.ok q2)=.error (r.length,4);unfold K8;simp only;rw [hat r rfl]
abbrev ptr (g:Nat):Value:=.pointer (some ⟨g,0,none⟩)
theorem Kw:Tryz.prog.underlying 24=some (.slice 99):=by kernel_rfl
theorem vW:Tryz.prog.underlying 25=some (.slice 9):=by kernel_rfl
theorem Mq:(Tryz.prog.info? 96).map (fun i=>(i.zero,i.size,i.bytes))=some (some (.agg iz.toArray),10,104):=by kernel_rfl
theorem MX:(Tryz.prog.info? 99).map (fun i=>(i.zero,i.size,i.bytes))=some (some (.agg #[.string ⟨#[]⟩,.slice none 0 0,.int .u32 (0:Int)]),3,48):=by kernel_rfl
theorem Ja:(Tryz.prog.info? 9).map (fun i=>(i.zero,i.size,i.bytes))=some (some (.string ⟨#[]⟩),1,16):=by kernel_rfl
theorem SL.yq {h:Hp} {b:Nat} {e:TypeId} {sz:Nat} {p:Option Addr} {l c:Nat} {xs:List (List Value)} (s:SL h b e sz p l c xs):∀ i,i∈az p→∃ xs,aM h i e xs:=by
 intro i hi;cases p with
 | none=>simp [az] at hi
 | some a =>
  obtain ⟨g,pre,rest,rfl,hb,_,hbox,_⟩:=s.2.2;simp [az] at hi;subst hi;exact ⟨_,hbox⟩
theorem SL.wu {ws:List Nat} {h h':Hp} {b:Nat} {e e':TypeId} {sz:Nat} {p:Option Addr} {l c:Nat} {xs:List (List Value)} (s:SL h b e sz p l c xs) (k:Ch ws h h') (hw:∀ i,i∈ws→∃ ys,aM h i e' ys) (he:e≠e'):SL h' b e sz p l c xs:=by
 refine Sx.SL.aO s k (fun i hi hm=>?_);obtain ⟨ys,b1⟩:=SL.yq s i hi;obtain ⟨zs,b2⟩:=hw i hm;unfold aM at b1 b2;rw [b1] at b2;simp only [Option.some.injEq,Obj.cells.injEq] at b2;exact he b2.2.1
section
variable {h0 h:Hp} {g gm:Nat} {bp:Option Addr} {bl bc:Nat} {full:Bt} {st:St} {D:List ByteArray}
abbrev KS:=Ls 96 10 (fun s x=>encI s.p s.l s.c x) (fun x=>x.e.aC) zk
abbrev LC:=Ls 99 3 (fun s (x:kl)=>rQ s.p s.l s.c x) (fun x=>x.2.aC) (fun x=>uz x.2∧x.1.size<65536)
abbrev L4:=Ls 9 1 (fun _ (x:ByteArray)=>[.string x]) (fun _=>[]) (fun x=>x.size<65536)
end
def LG (a b:bE):Prop:=∀ i,i∈az a.p→i∉az b.p
theorem LG.zero:LG ⟨none,0,0⟩ ⟨none,0,0⟩:=fun i hi=>by simp [az] at hi
structure gY (h:Hp) (b0:Nat) (a b c d:bE) (u:fU):Prop where
 text:∃ us,us.map (·.2)=u.text∧us.length≤65535∧KS h b0 a.p a.l a.c us
 data:∃ us,us.map (·.2)=u.data∧us.length≤65535∧KS h b0 b.p b.l b.c us
 aQ:∃ us,us.map (·.2)=u.aQ∧us.length≤65535∧LC h b0 c.p c.l c.c us
 aG:∃ us,us.map (·.2)=u.aG∧us.length≤65535∧L4 h b0 d.p d.l d.c us
def fV:bE:=⟨none,0,0⟩
theorem gY.zero (h:Hp) (b0:Nat):gY h b0 fV fV fV fV tS :=
 ⟨⟨[],rfl,by simp,Ls.nil _ _⟩,⟨[],rfl,by simp,Ls.nil _ _⟩,⟨[],rfl,by simp,Ls.nil _ _⟩,⟨[],rfl,by simp,Ls.nil _ _⟩⟩
theorem gY.af {ws:List Nat} {h h':Hp} {b0:Nat} {a b c d:bE} {u:fU} (o:gY h b0 a b c d u) (k:Ch ws h h') (hw:∀ i,i∈ws→i<h.size→i<b0):gY h' b0 a b c d u:=by
 obtain ⟨⟨u1,a1,c1,d1⟩,⟨u2,a2,c2,d2⟩,⟨u3,a3,c3,d3⟩,⟨u4,a4,c4,d4⟩⟩:=o;exact ⟨⟨u1,a1,c1,d1.af k hw⟩,⟨u2,a2,c2,d2.af k hw⟩,⟨u3,a3,c3,d3.af k hw⟩,⟨u4,a4,c4,d4.af k hw⟩⟩
theorem gY.mono {h:Hp} {b0 b1:Nat} {a b c d:bE} {u:fU} (o:gY h b0 a b c d u) (hb:b1≤b0):gY h b1 a b c d u:=by
 obtain ⟨⟨u1,a1,c1,d1⟩,⟨u2,a2,c2,d2⟩,⟨u3,a3,c3,d3⟩,⟨u4,a4,c4,d4⟩⟩:=o;exact ⟨⟨u1,a1,c1,d1.mono hb⟩,⟨u2,a2,c2,d2.mono hb⟩,⟨u3,a3,c3,d3.mono hb⟩,⟨u4,a4,c4,d4.mono hb⟩⟩
theorem SL.at_ {h:Hp} {b:Nat} {e:TypeId} {sz:Nat} {p:Option Addr} {l c:Nat} {xs:List (List Value)} (s:SL h b e sz p l c xs) {i:Nat} (hi:i<xs.length):∃ a,p=some a∧aH h (a.add (i*sz)) 0 xs[i]:=Sx.SL.cells s hi
theorem KS.at {h:Hp} {b:Nat} {p:Option Addr} {l c:Nat} {us:List (bE × bD)} (s:KS h b p l c us) (hn:us.length≤65535):AH h p l (us.map (·.2)):=by
 refine ⟨by rw [s.len,List.length_map],by rw [List.length_map]; omega,fun i hi=>?_⟩;rw [List.length_map] at hi;obtain ⟨a,ha,hc⟩:=SL.at_ s.sl (i:=i) (by rw [List.length_map]; exact hi);rw [List.getElem_map] at hc ⊢;exact ⟨a,_,_,_,ha,hc,(s.ok _ (List.getElem_mem hi)).at (s.own _ (List.getElem_mem hi))⟩
theorem LC.at {h:Hp} {b:Nat} {p:Option Addr} {l c:Nat} {us:List (bE × kl)} (s:LC h b p l c us) (hn:us.length≤65535):Iy h p l (us.map (·.2)):=by
 refine ⟨by rw [s.len,List.length_map],by rw [List.length_map]; omega,fun i hi=>?_⟩;rw [List.length_map] at hi;obtain ⟨a,ha,hc⟩:=SL.at_ s.sl (i:=i) (by rw [List.length_map]; exact hi);rw [List.getElem_map] at hc ⊢;have ok:=s.ok _ (List.getElem_mem hi);exact ⟨a,_,_,_,ha,hc,ok.1.at (s.own _ (List.getElem_mem hi)),by have:=ok.2; unfold maxLen; omega⟩
theorem L4.at {h:Hp} {b:Nat} {p:Option Addr} {l c:Nat} {us:List (bE × ByteArray)} (s:L4 h b p l c us) (hn:us.length≤65535):FK h p l (us.map (·.2)):=by
 refine ⟨by rw [s.len,List.length_map],by rw [List.length_map]; omega,fun i hi=>?_⟩;rw [List.length_map] at hi;obtain ⟨a,ha,hc⟩:=SL.at_ s.sl (i:=i) (by rw [List.length_map]; exact hi);rw [List.getElem_map] at hc ⊢;have ok:=s.ok _ (List.getElem_mem hi);exact ⟨a,ha,hc,by unfold maxLen; omega⟩
theorem gY.at {h:Hp} {b0:Nat} {a b c d:bE} {u:fU} (o:gY h b0 a b c d u):eZ h a b c d u:=by
 obtain ⟨⟨u1,a1,c1,d1⟩,⟨u2,a2,c2,d2⟩,⟨u3,a3,c3,d3⟩,⟨u4,a4,c4,d4⟩⟩:=o;exact ⟨by rw [← a1]; exact KS.at d1 c1,by rw [← a2]; exact KS.at d2 c2,by rw [← a3]; exact LC.at d3 c3,by rw [← a4]; exact L4.at d4 c4⟩
def NR (t d:List bD) (e:List kl) (g:List ByteArray) (r:Bt):Rd fU:=.ok (⟨t,d,e,g⟩,r)
def NP (t d:List bD) (e:List kl) (r:Bt):Rd fU:=eS (yb none (fun n=>DE (ib (bH (bH [] t) d) e) n bT) r) (NR t d e)
def NU (t d:List bD) (r:Bt):Rd fU:=eS (yb (some 8192) (fun n=>H' n (bH (bH [] t) d)) r) (NP t d)
def NT (t:List bD) (r:Bt):Rd fU:=eS (yb (some (8192-t.length)) (fun n=>xZ 1 n (bH [] t)) r) (NU t)
def LK (r:Bt):Rd fU:=eS (yb (some 8192) (fun n=>xZ 0 n []) r) NT
theorem vC.tail {st st1 st2 st3 st4:St} {t d:List bD} {e:List kl} {g:List ByteArray} (p1:vC (yb (some 8192) (fun n=>xZ 0 n [])) st t st1) (p2:vC (yb (some (8192-t.length)) (fun n=>xZ 1 n (bH [] t))) st1 d st2)
  (p3:vC (yb (some 8192) (fun n=>H' n (bH (bH [] t) d))) st2 e st3) (p4:vC (yb none (fun n=>DE (ib (bH (bH [] t) d) e) n bT)) st3 g st4):vC LK st ⟨t,d,e,g⟩ st4 :=
 vC.and (k:=NT) p1 (vC.and (k:=NU t) p2 (vC.and (k:=NP t d) p3 (vC.and (k:=NR t d e) p4 (vC.ret _ _))))
def zU:List Value:=[.slice none 0 0,.slice none 0 0,.slice none 0 0,.slice none 0 0]
theorem Ls.Cw {α:Type} {e:TypeId} {sz:Nat} {enc:bE→α→List Value} {tm:α→dw} {ok:α→Prop} {h h':Hp} {b:Nat} {p:Option Addr} {l c:Nat} {us:List (bE × α)} {ws:List Nat} (s:Ls e sz enc tm ok h b p l c us) (k:Ch ws h h') (hw:∀ i,i∈ws→i<h.size→i<b∨∃ e' ys,aM h i e' ys∧e'≠e∧e'≠109):Ls e sz enc tm ok h' b p l c us:=by
 have go:∀ {d:TypeId} {z:Nat} {p:Option Addr} {l c:Nat} {xs:List (List Value)},SL h b d z p l c xs→(d=e∨d=109)→SL h' b d z p l c xs:=by
  intro d z p l c xs s hd;refine Sx.SL.aO s k (fun i hi hm=>?_);have hb:=Sx.SL.bR s hi;rcases hw i hm hb.2 with h1 | ⟨e',ys,b2,h2,h3⟩
  ·omega
  ·obtain ⟨zs,b1⟩:=SL.yq s i hi;unfold aM at b1 b2;rw [b1] at b2;simp only [Option.some.injEq,Obj.cells.injEq] at b2;rcases hd with rfl | rfl
   ·exact h2 b2.2.1.symm
   ·exact h3 b2.2.1.symm
 exact ⟨go s.sl (.inl rfl),fun u hu=>go (s.own u hu) (.inr rfl),s.ok⟩
theorem fp {a b:Nat} (h:(((a:Nat):Int)==((b:Nat):Int))=true):a=b:=by
 have:=eq_of_beq h
 omega
theorem fR {a b:Nat} (h:(((a:Nat):Int)==((b:Nat):Int))=false):¬ a=b:=by
 rintro rfl;simp at h
def oR (h:Hp) (w:Value) (e:Option (Nat × Nat)):Prop :=
 match e with
 | none=>w=.nilIface
 | some e=>∃ a,w=.iface 59 (ptr a)∧aM h a 63 [.int .i64 (e.1:Nat),.int .i64 (e.2:Nat)]
theorem I9 {x y:bD} (r1:x.kind=y.kind) (r2:x.name=y.name) (r3:x.inst=y.inst) (r4:x.e=y.e) (r5:x.n=y.n):x=y:=by
 cases x;cases y
 simp_all
theorem Jn {x y:fU} (r1:x.text=y.text) (r2:x.data=y.data) (r3:x.aQ=y.aQ) (r4:x.aG=y.aG):x=y:=by
 cases x;cases y
 simp_all
theorem jf {L:Lp} {K:Value→Hp→Prop} {h:Hp} {b:Bool} {t u:T} (hu:b=false→u L K h) (ht:b=true→t L K h):(cond b t u) L K h:=ah ht hu
def Ku (l0 l1:Nat) (body:Int→T→T):T :=
 cond ((l0:Int) != (l1:Int))
 (T.ret (.bool false))
 (T.loop [(false,[.bool]),(false,[.int .i64])] [.bool false,.int .i64 (0:Int)] <| fun (b2:Bool) (n3:Int) =>
 cond (decide (n3<(l0:Int)))
  (body n3 (T.again 0 [.bool b2,.int .i64 (IntKind.wrap .i64 (n3+(1:Int)))]))
  (T.ret (.bool true)))
theorem Nb {α:Type} {xs ys:List α} (e:xs=ys) {i:Nat} (h1:i<xs.length) (h2:i<ys.length):xs[i]=ys[i]:=by
 subst e;rfl
theorem nS {h:Hp} {a:Addr}:∀ (vs:List Value) (o i:Nat),aH h a (o+i) vs→aH h (a.add o) i vs
 | [],_,_,_=>trivial
 | v::vs,o,i,hc=>⟨by rw [add_add]; exact hc.1,nS vs o (i+1) hc.2⟩
def GI {α:Type} (x y:α) (h:Hp) (w:Value) (h':Hp):Prop:=∃ b:Bool,w=.bool b∧(b=true↔x=y)∧Ext h h'
theorem xm {α:Type} {xs ys:List α} {l0 l1:Nat} (h0:l0=xs.length) (h1:l1=ys.length) (hm:xs.length≤2^60) {body:Int→T→T} {h:Hp}
  (hb:∀ (L:Lp) (h':Hp) (i:Nat) (hi:i<xs.length) (hj:i<ys.length) (k:T),Ext h h'→(xs[i]=ys[i]→∀ h'',Ext h h''→k L (GI xs ys h) h'')→(xs[i]≠ys[i]→∀ h'',Ext h h''→GI xs ys h (.bool false) h'')→body (i:Int) k L (GI xs ys h) h') :
  Ku l0 l1 body [] (GI xs ys h) h:=by
 subst h0 h1;unfold Ku;refine ah (fun q=>?_) (fun q=>?_)
 ·refine ⟨false,rfl,⟨fun h=>(by cases h),fun e=>?_⟩,Ch.refl _ _⟩;rw [e] at q;simp at q
 have q:xs.length=ys.length:=by
  have:(((xs.length:Nat):Int)==((ys.length:Nat):Int))=true:=by
   simpa using q
  exact fp this
 refine aY (cs:=[(false,[.bool]),(false,[.int .i64])]) (fun y m h'=>∃ i:Nat,y.1=false∧y.2.1=(i:Int)∧m=xs.length-i∧i≤xs.length∧Ext h h'∧∀ j,(hj:j<i)→(h1:j<xs.length)→(h2:j<ys.length)→xs[j]=ys[j]) (false,(0:Int),()) xs.length rfl
  ⟨0,rfl,rfl,rfl,by omega,Ch.refl _ _,fun j hj=>by omega⟩ ?_
 rintro ⟨b2,n3,⟨⟩⟩ m h1 ⟨i,hy1,hy2,rfl,hi,e1,hj⟩;simp only at hy1 hy2;subst hy1 hy2;dsimp only [flat,aD,aj,nA,cA];refine ah (fun r=>?_) (fun r=>?_)
 ·have r:=of_decide_eq_true r;refine hb _ h1 i (by omega) (by omega) _ e1 (fun he h2 e2=>?_) (fun hne h2 e2=>?_)
  ·rw [wrap_i64 (by omega) (by omega)];refine aK (cs:=[(false,[.bool]),(false,[.int .i64])]) (false,((i+1:Nat):Int),()) (xs.length-(i+1)) rfl (by omega) rfl ?_;refine ⟨i+1,rfl,rfl,rfl,by omega,e2,fun j hj' a b=>?_⟩
   by_cases hji:j<i
   ·exact hj j hji a b
   ·have:j=i:=by omega
    subst this;exact he
  ·exact ⟨false,rfl,⟨fun h=>(by cases h),fun e=>absurd (Nb e (by omega) (by omega)) hne⟩,e2⟩
 ·have r:=of_decide_eq_false r;refine ⟨true,rfl,⟨fun _=>?_,fun _=>rfl⟩,e1⟩;exact List.ext_getElem q fun j a b=>hj j (by omega) a b
theorem Jb (s t:ByteArray):(ByteArray.toList s==ByteArray.toList t)=decide (s=t):=by
 rw [ByteArray.toList_eq,ByteArray.toList_eq]
 by_cases h:s=t
 ·rw [decide_eq_true h,h]; simp
 ·rw [decide_eq_false h]
  have:¬ s.data.toList=t.data.toList:=fun e=>h (mh e)
  simpa using this
theorem sV (x y:fa):jr x y=true↔x=y:=by
 obtain ⟨a,b⟩:=x;obtain ⟨c,d⟩:=y;unfold jr
 simp
 exact and_comm
theorem Dp {h:Hp} {p q:Option Addr} {l c m d:Nat} {xs ys:List ByteArray} (v:FK h p l xs) (w:FK h q m ys):HC Tryz.prog 15 #[.slice p l c,.slice q m d] h (GI xs ys h):=by
 refine aL (args:=[.slice p l c,.slice q m d]) mixed Tryz.func15 (by kernel_rfl) (dS p l c q m d) ?_;refine xm (body:=fun n3 k=>T.need (((0:Int)≤n3)∧(n3<(l:Int))) <|
  T.aw p <| fun (a4:Addr) =>
  T.ae (a4.add ((Int.toNat n3)*1)) [.string] <| fun (s5:ByteArray) =>
  T.need (((0:Int)≤n3)∧(n3<(m:Int))) <|
  T.aw q <| fun (a6:Addr) =>
  T.ae (a6.add ((Int.toNat n3)*1)) [.string] <| fun (s7:ByteArray) =>
  cond (!((ByteArray.toList s5)==(ByteArray.toList s7)))
  (T.ret (.bool false)) k) v.len w.len v.many ?_
 intro L h' i hi hj k e1 hk hn;have vl:=v.len;have wl:=w.len;obtain ⟨a,rfl,hc,_⟩:=(v.af e1).cells i hi;obtain ⟨b,rfl,hd,_⟩:=(w.af e1).cells i hj;refine aA ⟨by omega,by omega⟩ ?_;refine ai rfl ?_;refine aE (xs[i],()) hc ?_;dsimp only [flat,aD,aj,nA,cA];refine aA ⟨by omega,by omega⟩ ?_;refine ai rfl ?_;refine aE (ys[i],()) hd ?_;dsimp only [flat,aD,aj,nA,cA];rw [Jb];refine ah (fun r=>?_) (fun r=>?_)
 ·exact hn (by simpa using r) h' e1
 ·exact hk (by simpa using r) h' e1
theorem Cm {h:Hp} {p q:Option Addr} {l c m d:Nat} {xs ys:List kl} (v:Iy h p l xs) (w:Iy h q m ys):HC Tryz.prog 41 #[.slice p l c,.slice q m d] h (GI xs ys h):=by
 refine aL (args:=[.slice p l c,.slice q m d]) mixed Tryz.func41 (by kernel_rfl) (jQ p l c q m d) ?_;refine xm (body:=fun n3 k=>T.need (((0:Int)≤n3)∧(n3<(l:Int))) <|
  T.aw p <| fun (a4:Addr) =>
  T.ae (a4.add ((Int.toNat n3)*3)) [.string] <| fun (s5:ByteArray) =>
  T.need (((0:Int)≤n3)∧(n3<(m:Int))) <|
  T.aw q <| fun (a6:Addr) =>
  T.ae (a6.add ((Int.toNat n3)*3)) [.string] <| fun (s7:ByteArray) =>
  cond (!((ByteArray.toList s5)==(ByteArray.toList s7)))
  (T.ret (.bool false))
  (T.need (((0:Int)≤n3)∧(n3<(l:Int))) <|
  T.aw p <| fun (a8:Addr) =>
  T.ae ((a8.add ((Int.toNat n3)*3)).add 1) [.slice 109,.int .u32] <| fun (p9:Option Addr) (l10:Nat) (l11:Nat) (n12:Int) =>
  T.need (((0:Int)≤n3)∧(n3<(m:Int))) <|
  T.aw q <| fun (a13:Addr) =>
  T.ae ((a13.add ((Int.toNat n3)*3)).add 1) [.slice 109,.int .u32] <| fun (p14:Option Addr) (l15:Nat) (l16:Nat) (n17:Int) =>
  T.call Tryz.prog 75 [.agg #[.slice p9 l10 l11,.int .u32 n12],.agg #[.slice p14 l15 l16,.int .u32 n17]] false [(false,[.bool])] <| fun (b18:Bool) =>
  T.aB [((a6.add ((Int.toNat n3)*3)),[.string s7]),((a4.add ((Int.toNat n3)*3)),[.string s5])] <|
  cond (!b18)
   (T.ret (.bool false)) k)) v.len w.len v.many ?_
 intro L h' i hi hj k e1 hk hn;have vl:=v.len;have wl:=w.len;obtain ⟨a,p1,l1,c1,rfl,hc,va,_⟩:=(v.af e1).cells i hi;obtain ⟨b,q1,m1,d1,rfl,hd,wa,_⟩:=(w.af e1).cells i hj;refine aA ⟨by omega,by omega⟩ ?_;refine ai rfl ?_;refine aE (xs[i].1,()) ⟨hc.1,trivial⟩ ?_;dsimp only [flat,aD,aj,nA,cA];refine aA ⟨by omega,by omega⟩ ?_;refine ai rfl ?_;refine aE (ys[i].1,()) ⟨hd.1,trivial⟩ ?_;dsimp only [flat,aD,aj,nA,cA];rw [Jb];refine ah (fun r=>?_) (fun r=>?_)
 ·have r:¬ xs[i].1=ys[i].1:=by simpa using r
  exact hn (fun e=>r (by rw [e])) h' e1
 have r:xs[i].1=ys[i].1:=by simpa using r
 refine aA ⟨by omega,by omega⟩ ?_;refine ai rfl ?_;refine aE ((p1,l1,c1),(xs[i].2.num:Int),()) (nS _ 1 0 hc.2) ?_;dsimp only [flat,aD,aj,nA,cA];refine aA ⟨by omega,by omega⟩ ?_;refine ai rfl ?_;refine aE ((q1,m1,d1),(ys[i].2.num:Int),()) (nS _ 1 0 hd.2) ?_;dsimp only [flat,aD,aj,nA,cA];refine aF (zG (c:=c1) (d:=d1) va.vw wa.vw va.many) ?_;rintro _ h2 ⟨rfl,e2⟩;refine ⟨(jr xs[i].2 ys[i].2,()),rfl,?_⟩;dsimp only [flat,aD,aj,nA,cA];refine ⟨⟨⟨dt hd.1 e2 (by simp),trivial⟩,⟨dt hc.1 e2 (by simp),trivial⟩,trivial⟩,?_⟩;refine ah (fun u=>?_) (fun u=>?_)
 ·have u:jr xs[i].2 ys[i].2=false:=by simpa using u
  refine hn (fun e=>?_) h2 (e1.trans e2);rw [(sV _ _).2 (by rw [e])] at u;cases u
 ·have u:jr xs[i].2 ys[i].2=true:=by simpa using u
  exact hk (Prod.ext r ((sV _ _).1 u)) h2 (e1.trans e2)
theorem Jj (x y:Operand) (i j:Ins) (h:Hp) (K:Value→Hp→Prop) (hk:K (.bool (decide (i=j))) h) :
  aJ Tryz.prog (Sx.bU (BinOp.eql) 90 x y (.agg (tU i).toArray) (.agg (tU j).toArray)) h K:=by
 refine G' Ky (by kernel_rfl) (by kernel_rfl) (by kernel_rfl) K ?_;have he:(GG Tryz.prog 90).all (Gx (tU i).toArray (tU j).toArray)=(i.op==j.op && (i.a==j.a && (i.b==j.b && (i.n==j.n && (i.form==j.form && true))))):=by
  rw [← Array.all_toList]
  kernel_rfl
 rw [he,Bool.and_true]
 have:(i.op==j.op && (i.a==j.a && (i.b==j.b && (i.n==j.n && i.form==j.form))))=decide (i=j):=by
  rcases i with ⟨a1,a2,a3,a4,a5⟩
  rcases j with ⟨c1,c2,c3,c4,c5⟩
  simp only [cL,Ins.mk.injEq]
  by_cases h1:a1=c1 <;> by_cases h2:a2=c2 <;> by_cases h3:a3=c3 <;> by_cases h4:a4=c4 <;> by_cases h5:a5=c5 <;> simp [h1,h2,h3,h4,h5]
 rw [this];exact hk
theorem BJ {h:Hp} {p q:Option Addr} {l c m d:Nat} {x y:bD} (v:kz h p l x.e) (w:kz h q m y.e):HC Tryz.prog 61 #[sN p l c x,sN q m d y] h (GI x y h):=by
 refine aL (args:=[sN p l c x,sN q m d y]) mixed Tryz.func61 (by kernel_rfl) (jz x.kind x.name x.inst.op x.inst.a x.inst.b x.inst.n x.inst.form p l c x.e.num x.n y.kind y.name y.inst.op y.inst.a y.inst.b y.inst.n y.inst.form q m d y.e.num y.n) ?_;unfold fS;refine aW ?_;intro h1 b1 e1 z1;refine aW ?_;intro h2 b2 e2 z2;have b1:aM h2 h.size 96 (encI p l c x):=b1.af e2 (by simp);have b2:aM h2 h1.size 96 (encI q m d y):=b2;have e:=e1.trans e2;have no:∀ h',Ext h h'→x≠y→GI x y h (.bool false) h':=fun h' e hn=>⟨false,rfl,⟨fun h=>(by cases h),fun e=>absurd e hn⟩,e⟩
 simp only [au];refine ad b1 (x.kind,()) rfl ?_;dsimp only [flat,aD,aj,nA,cA];refine ad b2 (y.kind,()) rfl ?_;dsimp only [flat,aD,aj,nA,cA];refine jf (fun r1=>?_) (fun r1=>?_)
 ·have r1:¬ x.kind=y.kind:=by simpa using r1
  exact no h2 e (fun e=>r1 (by rw [e]))
 have r1:x.kind=y.kind:=by simpa using r1
 refine ad b1 (x.name,()) rfl ?_;dsimp only [flat,aD,aj,nA,cA];refine ad b2 (y.name,()) rfl ?_;dsimp only [flat,aD,aj,nA,cA];rw [Jb];refine jf (fun r2=>?_) (fun r2=>?_)
 ·have r2:¬ x.name=y.name:=by simpa using r2
  exact no h2 e (fun e=>r2 (by rw [e]))
 have r2:x.name=y.name:=by simpa using r2
 refine ad b1 (x.inst.op,x.inst.a,x.inst.b,x.inst.n,x.inst.form,()) rfl ?_;dsimp only [flat,aD,aj,nA,cA];refine ad b2 (y.inst.op,y.inst.a,y.inst.b,y.inst.n,y.inst.form,()) rfl ?_;dsimp only [flat,aD,aj,nA,cA];refine bK (fun K' hK=>Jj _ _ x.inst y.inst h2 K' hK) ?_;refine jf (fun r3=>?_) (fun r3=>?_)
 ·have r3:¬ x.inst=y.inst:=by simpa using r3
  exact no h2 e (fun e=>r3 (by rw [e]))
 have r3:x.inst=y.inst:=by simpa using r3
 refine ad b1 ((p,l,c),(x.e.num:Int),()) rfl ?_;dsimp only [flat,aD,aj,nA,cA];refine ad b2 ((q,m,d),(y.e.num:Int),()) rfl ?_;dsimp only [flat,aD,aj,nA,cA];refine aF (zG (c:=c) (d:=d) (v.af e).vw (w.af e).vw v.many) ?_;rintro _ h3 ⟨rfl,e3⟩;refine ⟨(jr x.e y.e,()),rfl,?_⟩;dsimp only [flat,aD,aj,nA,cA];refine jf (fun r4=>?_) (fun r4=>?_)
 ·refine no h3 (e.trans e3) (fun e=>?_);rw [(sV _ _).2 (by rw [e])] at r4;cases r4
 have r4:=(sV _ _).1 r4;refine ad (b1.af e3 (by simp)) (x.n,()) rfl ?_;dsimp only [flat,aD,aj,nA,cA];refine ad (b2.af e3 (by simp)) (y.n,()) rfl ?_;refine ⟨x.n==y.n,rfl,⟨fun r5=>?_,fun e=>by rw [e]; simp⟩,e.trans e3⟩;have r5:x.n=y.n:=by simpa using r5
 exact I9 r1 r2 r3 r4 r5
theorem rD {h:Hp} {p q:Option Addr} {l c m d:Nat} {xs ys:List bD} (v:AH h p l xs) (w:AH h q m ys):HC Tryz.prog 31 #[.slice p l c,.slice q m d] h (GI xs ys h):=by
 refine aL (args:=[.slice p l c,.slice q m d]) mixed Tryz.func31 (by kernel_rfl) (iZ p l c q m d) ?_;refine xm (body:=fun n3 k=>T.need (((0:Int)≤n3)∧(n3<(l:Int))) <|
  T.aw p <| fun (a4:Addr) =>
  T.ae (a4.add ((Int.toNat n3)*10)) [.int .i64,.string,.int .i64,.int .i64,.int .i64,.int .i32,.int .i64,.slice 109,.int .u32,.int .i64] <| fun (n5:Int) (s6:ByteArray) (n7:Int) (n8:Int) (n9:Int) (n10:Int) (n11:Int) (p12:Option Addr) (l13:Nat) (l14:Nat) (n15:Int) (n16:Int) =>
  T.need (((0:Int)≤n3)∧(n3<(m:Int))) <|
  T.aw q <| fun (a17:Addr) =>
  T.ae (a17.add ((Int.toNat n3)*10)) [.int .i64,.string,.int .i64,.int .i64,.int .i64,.int .i32,.int .i64,.slice 109,.int .u32,.int .i64] <| fun (n18:Int) (s19:ByteArray) (n20:Int) (n21:Int) (n22:Int) (n23:Int) (n24:Int) (p25:Option Addr) (l26:Nat) (l27:Nat) (n28:Int) (n29:Int) =>
  T.call Tryz.prog 61 [.agg #[.int .i64 n5,.string s6,.int .i64 n7,.int .i64 n8,.int .i64 n9,.int .i32 n10,.int .i64 n11,.slice p12 l13 l14,.int .u32 n15,.int .i64 n16],.agg #[.int .i64 n18,.string s19,.int .i64 n20,.int .i64 n21,.int .i64 n22,.int .i32 n23,.int .i64 n24,.slice p25 l26 l27,.int .u32 n28,.int .i64 n29]] false [(false,[.bool])] <| fun (b30:Bool) =>
  cond (!b30)
  (T.ret (.bool false)) k) v.len w.len v.many ?_
 intro L h' i hi hj k e1 hk hn;have vl:=v.len;have wl:=w.len;obtain ⟨a,p1,l1,c1,rfl,hc,va⟩:=(v.af e1).cells i hi;obtain ⟨b,q1,m1,d1,rfl,hd,wa⟩:=(w.af e1).cells i hj;refine aA ⟨by omega,by omega⟩ ?_;refine ai rfl ?_;refine aE (xs[i].kind,xs[i].name,xs[i].inst.op,xs[i].inst.a,xs[i].inst.b,xs[i].inst.n,xs[i].inst.form,(p1,l1,c1),(xs[i].e.num:Int),xs[i].n,()) hc ?_;dsimp only [flat,aD,aj,nA,cA];refine aA ⟨by omega,by omega⟩ ?_;refine ai rfl ?_;refine aE (ys[i].kind,ys[i].name,ys[i].inst.op,ys[i].inst.a,ys[i].inst.b,ys[i].inst.n,ys[i].inst.form,(q1,m1,d1),(ys[i].e.num:Int),ys[i].n,()) hd ?_;dsimp only [flat,aD,aj,nA,cA];refine aF (BJ (c:=c1) (d:=d1) va.uU wa.uU) ?_;rintro _ h2 ⟨b,rfl,hb,e2⟩;refine ⟨(b,()),rfl,?_⟩;dsimp only [flat,aD,aj,nA,cA];refine ah (fun u=>?_) (fun u=>?_)
 ·have u:b=false:=by simpa using u
  refine hn (fun e=>?_) h2 (e1.trans e2);rw [hb.2 e] at u;cases u
 ·have u:b=true:=by simpa using u
  exact hk (hb.1 u) h2 (e1.trans e2)
theorem uu {h:Hp} {a b c d a' b' c' d':bE} {u v:fU} (x:eZ h a b c d u) (y:eZ h a' b' c' d' v):HC Tryz.prog 13 #[jM a b c d,jM a' b' c' d'] h (GI u v h):=by
 refine aL (args:=[jM a b c d,jM a' b' c' d']) mixed Tryz.func13 (by kernel_rfl) (jC a.p a.l a.c b.p b.l b.c c.p c.l c.c d.p d.l d.c a'.p a'.l a'.c b'.p b'.l b'.c c'.p c'.l c'.c d'.p d'.l d'.c) ?_;unfold fM;refine aW ?_;intro h1 b1 e1 z1;refine aW ?_;intro h2 b2 e2 z2;have b1:aM h2 h.size 27 [a.v,b.v,c.v,d.v]:=b1.af e2 (by simp);have b2:aM h2 h1.size 27 [a'.v,b'.v,c'.v,d'.v]:=b2;have e:=e1.trans e2;have no:∀ h',Ext h h'→u≠v→GI u v h (.bool false) h':=fun h' e hn=>⟨false,rfl,⟨fun h=>(by cases h),fun e=>absurd e hn⟩,e⟩
 simp only [au];refine ad b1 ((a.p,a.l,a.c),()) rfl ?_;dsimp only [flat,aD,aj,nA,cA];refine ad b2 ((a'.p,a'.l,a'.c),()) rfl ?_;dsimp only [flat,aD,aj,nA,cA];refine aF (rD (x.text.af e) (y.text.af e)) ?_;rintro _ h3 ⟨r1,rfl,i1,e3⟩;refine ⟨(r1,()),rfl,?_⟩;dsimp only [flat,aD,aj,nA,cA];have e:=e.trans e3;have b1:=b1.af e3 (by simp);have b2:=b2.af e3 (by simp);refine jf (fun q1=>?_) (fun q1=>?_)
 ·refine no _ e (fun e=>?_);rw [i1.2 (by rw [e])] at q1;cases q1
 have i1:=i1.1 q1;refine ad b1 ((b.p,b.l,b.c),()) rfl ?_;dsimp only [flat,aD,aj,nA,cA];refine ad b2 ((b'.p,b'.l,b'.c),()) rfl ?_;dsimp only [flat,aD,aj,nA,cA];refine aF (rD (x.data.af e) (y.data.af e)) ?_;rintro _ h4 ⟨r2,rfl,i2,e4⟩;refine ⟨(r2,()),rfl,?_⟩;dsimp only [flat,aD,aj,nA,cA];have e:=e.trans e4;have b1:=b1.af e4 (by simp);have b2:=b2.af e4 (by simp);refine jf (fun q2=>?_) (fun q2=>?_)
 ·refine no _ e (fun e=>?_);rw [i2.2 (by rw [e])] at q2;cases q2
 have i2:=i2.1 q2;refine ad b1 ((c.p,c.l,c.c),()) rfl ?_;dsimp only [flat,aD,aj,nA,cA];refine ad b2 ((c'.p,c'.l,c'.c),()) rfl ?_;dsimp only [flat,aD,aj,nA,cA];refine aF (Cm (x.aQ.af e) (y.aQ.af e)) ?_;rintro _ h5 ⟨r3,rfl,i3,e5⟩;refine ⟨(r3,()),rfl,?_⟩;dsimp only [flat,aD,aj,nA,cA];have e:=e.trans e5;have b1:=b1.af e5 (by simp);have b2:=b2.af e5 (by simp);refine jf (fun q3=>?_) (fun q3=>?_)
 ·refine no _ e (fun e=>?_);rw [i3.2 (by rw [e])] at q3;cases q3
 have i3:=i3.1 q3;refine ad b1 ((d.p,d.l,d.c),()) rfl ?_;dsimp only [flat,aD,aj,nA,cA];refine ad b2 ((d'.p,d'.l,d'.c),()) rfl ?_;dsimp only [flat,aD,aj,nA,cA];refine aF (Dp (x.aG.af e) (y.aG.af e)) ?_;rintro _ h6 ⟨r4,rfl,i4,e6⟩;refine ⟨(r4,()),rfl,?_⟩;refine ⟨r4,rfl,⟨fun q=>?_,fun e=>i4.2 (by rw [e])⟩,e.trans e6⟩;have i4:=i4.1 q;exact Jn i1 i2 i3 i4
open Go.Proofs Go.Proofs.YtfkjiiapldkoeaaGreatDoor
open Go.ChangeShapes Go.WideShapes Go.ChangeAt Go.WideMaps Go.WideElems Go.RowKit
def Ct (P:Program) (t:TypeId):Option (List (TypeId × Nat)):=(P.underlying t).bind fun d=>match d with | .struct fs=>some (fs.toList.map fun f=>(f.type,f.offset)) | _=>none
section
variable {H:Type} {enc:TypeId × Value→H} {P:Program} {W:World} {base fuel:Nat} {sp:Nat→Bool} {held:Bool} {t:TypeId} {cs:List Value} {y:DataW H × List MemPlace}
theorem AR {l:List (TypeId × Nat)} (hu:Ct P t=some l) (h:DataW.trod enc P W base sp held fuel t cs=some y) :
  ∃ (xs:List (DataW H × List MemPlace)) (n:Nat),y.1=.agg (xs.map (·.1))∧cs.length=P.cellsOf t∧xs.length=l.length∧∀ (i:Nat) (p:TypeId × Nat),l[i]?=some p→∃ x,xs[i]?=some x∧DataW.trod enc P W base sp held n p.1 ((cs.drop p.2).take (P.cellsOf p.1))=some x:=by
 unfold Ct at hu;cases hd:P.underlying t with
 | none=>rw [hd] at hu; cases hu
 | some d =>
  rw [hd] at hu;simp only [Option.bind_some] at hu;split at hu
  ·rename_i fs;simp only [Option.some.injEq] at hu;obtain ⟨xs,n,_,hy,hl,hlen,hf⟩:=DataW.trod_struct hd h;refine ⟨xs,n,by rw [hy],hl,by rw [← hu,List.length_map,hlen,Array.length_toList],fun i p hp=>?_⟩;rw [← hu,List.getElem?_map,Option.map_eq_some_iff] at hp;obtain ⟨f,hf1,rfl⟩:=hp;rw [Array.getElem?_toList] at hf1;have h1:=hf i f hf1;cases hx:xs[i]? with
   | none =>
    rw [List.getElem?_eq_none_iff] at hx
    have:i<fs.size:=by
     by_cases g:i<fs.size
     ·exact g
     ·rw [Array.getElem?_eq_none (by omega)] at hf1;cases hf1
    omega
   | some x=>rw [hx] at h1; exact ⟨x,rfl,h1⟩
  ·cases hu
end
theorem CC {P:Program} {f:FuncId} {args:Array Value} {W:World} {R:Value→Hp→Prop} (h:HC P f args W.heap R) (he:∀ v h',R v h'→Ext W.heap h'):Calls P f args W fun e w'=>∃ v,e=.returned v∧Below W.heap.size W w'∧R v w'.heap:=by
 refine (h W rfl).mono fun e w' ⟨v,hv,hs,hr⟩=>⟨v,hv,⟨hs.os,hs.tape,hs.output,(he v _ hr).size,fun k hk=>(he v _ hr).same k hk (by simp)⟩,hr⟩
theorem Di {W W':World} (hB:Below W.heap.size W W') {p:MemPlace} (hp:p.block<W.heap.size):W.sameAt W' p:=by
 cases p with
 | cell b off =>
  show W'.cell? _=W.cell? _;unfold World.cell?;rw [hB.block b hp]
 | map b=>exact hB.block b hp
end Go.Sx.Ob
