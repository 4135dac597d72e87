/- Contracts over heaps, and plain laws, for the functions that the laws of chapter 9 call, part 4: An item that may stand in a section, over heaps. Maps with texts for keys; sets  Condition: as each statement says. -/
import Derived.Test.YtfkjiiapldkoeaaGreatDoorP3
import Derived.Test.YtfkjiiapldkoeaaGreatDoorAobjTa
import Derived.Test.YtfkjiiapldkoeaaGreatDoorArT
import Derived.Test.YtfkjiiapldkoeaaGreatDoorArW
import Derived.Test.YtfkjiiapldkoeaaGreatDoorArX
import Derived.Test.YtfkjiiapldkoeaaGreatDoorRows
import Derived.ProofKit
import Derived.LaidMore
import Derived.LaidLaws
import Derived.OpenShut
import Derived.ChangeSame
import Derived.ChangeStays
import Derived.ChangeOld
import Derived.ChangeSlices
import Derived.ChangeMaps5
import Derived.JoinedCond
import Derived.Lib.LaidTab
import Derived.Stop.Joined
import Derived.RangeFuncFrom
import Derived.IntWalk
set_option linter.unusedVariables false
set_option linter.unusedSimpArgs false
set_option maxRecDepth 100000
namespace Go.Sx.Ob
open Go.Proofs
structure ItmAt (h:Hp) (p:Option Addr) (l:Nat) (x:Itm):Prop where
 lin:LinAt h p l x.e
 name:x.name.size≤maxLen
 op:Sm x.inst.op
theorem ItmAt.keep {h h':Hp} {p:Option Addr} {l:Nat} {x:Itm} (v:ItmAt h p l x) (k:Ext h h'):ItmAt h' p l x:=⟨v.lin.keep k,v.name,v.op⟩
def sameI (x y:Itm):Bool:=decide (x.name=y.name) && decide (x.inst=y.inst) && decide (x.n=y.n) && linB x.e y.e
theorem ins77:Tryz.prog.underlying 90=some (.struct (flds Tryz.prog 90)):=by kernel_rfl
theorem cmpIns (x y:Operand) (i j:Ins) (h:Hp) (K:Value→Hp→Prop) (hk:K (.bool !(decide (i=j))) h) :
  semW Tryz.prog (Sx.cmpS (BinOp.neq) 90 x y (.agg (insC i).toArray) (.agg (insC j).toArray)) h K:=by
 refine cmpS_neq ins77 (by kernel_rfl) (by kernel_rfl) (by kernel_rfl) K ?_
 have he:(flds Tryz.prog 90).all (eqF (insC i).toArray (insC j).toArray)=(i.op==j.op && (i.a==j.a && (i.b==j.b && (i.n==j.n && (i.form==j.form && true))))):=by
  rw [← Array.all_toList]
  kernel_rfl
 rw [he,Bool.and_true]
 have:(i.op==j.op && (i.a==j.a && (i.b==j.b && (i.n==j.n && i.form==j.form))))=decide (i=j):=by
  rcases i with ⟨a1,a2,a3,a4,a5⟩
  rcases j with ⟨c1,c2,c3,c4,c5⟩
  simp only [beqD,Ins.mk.injEq]
  by_cases h1:a1=c1 <;> by_cases h2:a2=c2 <;> by_cases h3:a3=c3 <;> by_cases h4:a4=c4 <;> by_cases h5:a5=c5 <;> simp [h1,h2,h3,h4,h5]
 rw [this]
 exact hk
def rtT (g k:Nat):T :=
 T.loads ⟨g,1,none⟩ [.string] <| fun (s8:ByteArray) =>
 T.loads ⟨k,1,none⟩ [.string] <| fun (s9:ByteArray) =>
 cond (!((ByteArray.toList s8)==(ByteArray.toList s9)))
  (T.ret (.int .i64 (31:Int)))
  (T.loads ⟨g,2,none⟩ [.int .i64,.int .i64,.int .i64,.int .i32,.int .i64] <| fun (n10:Int) (n11:Int) (n12:Int) (n13:Int) (n14:Int) =>
  T.loads ⟨k,2,none⟩ [.int .i64,.int .i64,.int .i64,.int .i32,.int .i64] <| fun (n15:Int) (n16:Int) (n17:Int) (n18:Int) (n19:Int) =>
  T.sem Tryz.prog (Sx.cmpS (BinOp.neq) 90 (Operand.tmp 109) (Operand.tmp 111) (.agg #[.int .i64 n10,.int .i64 n11,.int .i64 n12,.int .i32 n13,.int .i64 n14]) (.agg #[.int .i64 n15,.int .i64 n16,.int .i64 n17,.int .i32 n18,.int .i64 n19])) false [(false,[.bool])] <| fun (b20:Bool) =>
  cond b20
  (T.ret (.int .i64 (31:Int)))
  (T.loads ⟨g,9,none⟩ [.int .i64] <| fun (n21:Int) =>
  T.loads ⟨k,9,none⟩ [.int .i64] <| fun (n22:Int) =>
  cond (n21 != n22)
   (T.ret (.int .i64 (31:Int)))
   (T.loads ⟨g,7,none⟩ [.slice 109,.int .u32] <| fun (p23:Option Addr) (l24:Nat) (l25:Nat) (n26:Int) =>
   T.loads ⟨k,7,none⟩ [.slice 109,.int .u32] <| fun (p27:Option Addr) (l28:Nat) (l29:Nat) (n30:Int) =>
   T.call Tryz.prog 80 [.agg #[.slice p23 l24 l25,.int .u32 n26],.agg #[.slice p27 l28 l29,.int .u32 n30]] false [(false,[.bool])] <| fun (b31:Bool) =>
   cond (!b31)
   (T.ret (.int .i64 (31:Int)))
   (T.ret (.int .i64 (0:Int))))))
def no31 (b:Bool):Value:=.int .i64 (if b then 0 else 31)
theorem rtT_of {L:Lp} {h0 h:Hp} {x y:Itm} {p q:Option Addr} {l c m d g k:Nat} {e1 e2:TypeId} (b1:Box h g e1 (encI p l c x)) (b2:Box h k e2 (encI q m d y)) (v:LinAt h p l x.e) (w:VwT h q m y.e.terms) (e:Ext h0 h) :
  rtT g k L (fun w h'=>w=no31 (sameI x y)∧Ext h0 h') h:=by
 unfold rtT sameI
 refine loads_box b1 (x.name,()) rfl ?_
 dsimp only [flat,unc,unc1,nA,cA]
 refine loads_box b2 (y.name,()) rfl ?_
 dsimp only [flat,unc,unc1,nA,cA]
 rw [ByteArray.toList_eq,ByteArray.toList_eq]
 refine cond_mk (fun r=>?_) (fun r=>?_)
 ·have r:¬ x.name=y.name:=fun he=>by rw [he] at r; simp at r
  exact ⟨by rw [decide_eq_false r]; rfl,e⟩
 have r:x.name=y.name:=ba_ext (by simpa using r)
 rw [decide_eq_true r,Bool.true_and]
 refine loads_box b1 (x.inst.op,x.inst.a,x.inst.b,x.inst.n,x.inst.form,()) rfl ?_
 dsimp only [flat,unc,unc1,nA,cA]
 refine loads_box b2 (y.inst.op,y.inst.a,y.inst.b,y.inst.n,y.inst.form,()) rfl ?_
 dsimp only [flat,unc,unc1,nA,cA]
 refine sem_bool (fun K' hK=>cmpIns _ _ x.inst y.inst h K' hK) ?_
 refine cond_mk (fun r=>?_) (fun r=>?_)
 ·have r:¬ x.inst=y.inst:=by simpa using r
  exact ⟨by rw [decide_eq_false r]; rfl,e⟩
 have r:x.inst=y.inst:=by simpa using r
 rw [decide_eq_true r,Bool.true_and]
 refine loads_box b1 (x.n,()) rfl ?_
 dsimp only [flat,unc,unc1,nA,cA]
 refine loads_box b2 (y.n,()) rfl ?_
 dsimp only [flat,unc,unc1,nA,cA]
 refine cond_mk (fun r=>?_) (fun r=>?_)
 ·have r:¬ x.n=y.n:=by simpa using r
  exact ⟨by rw [decide_eq_false r]; rfl,e⟩
 have r:x.n=y.n:=by simpa using r
 rw [decide_eq_true r,Bool.true_and]
 refine loads_box b1 ((p,l,c),(x.e.num:Int),()) rfl ?_
 dsimp only [flat,unc,unc1,nA,cA]
 refine loads_box b2 ((q,m,d),(y.e.num:Int),()) rfl ?_
 dsimp only [flat,unc,unc1,nA,cA]
 refine call_of (same64_hc (c:=c) (d:=d) v.vw w v.many) ?_
 rintro _ g3 ⟨rfl,e3⟩
 refine ⟨(linB x.e y.e,()),rfl,?_⟩
 dsimp only [flat,unc,unc1,nA,cA]
 refine cond_mk (fun r=>?_) (fun r=>?_)
 ·have r:linB x.e y.e=false:=by simpa using r
  exact ⟨by rw [r]; rfl,e.trans e3⟩
 ·have r:linB x.e y.e=true:=by simpa using r
  exact ⟨by rw [r]; rfl,e.trans e3⟩
theorem linB_r (x:Lin):linB x x=true:=linB_refl x
theorem itmR_1 {x:Itm} {sec:Nat} (hk:x.kind=1):itmR x sec=(legalL x.name.data.toList && sameI x { itm x.kind with name:=x.name }):=by
 unfold itmR sameI
 simp only [hk,itm,linB_r,linB_0,z1,z2,z3,z4]
 simp (decide:=true) only [if_true,if_false,decide_true,Bool.true_and,Bool.and_true]
 try simp only [Bool.and_assoc,Bool.and_comm,Bool.and_left_comm]
theorem itmR_2 {x:Itm} {sec:Nat} (hk:x.kind=2):itmR x sec=(decide (sec=0) && insR x.inst x.e && sameI x { itm x.kind with inst:=x.inst,e:=x.e }):=by
 unfold itmR sameI
 simp only [hk,itm,linB_r,linB_0,z1,z2,z3,z4]
 simp (decide:=true) only [if_true,if_false,decide_true,Bool.true_and,Bool.and_true]
 try simp only [Bool.and_assoc,Bool.and_comm,Bool.and_left_comm]
theorem itmR_3 {x:Itm} {sec:Nat} (hk:x.kind=3):itmR x sec=(pow2 x.n && sameI x { itm x.kind with n:=x.n }):=by
 unfold itmR sameI
 simp only [hk,itm,linB_r,linB_0,z1,z2,z3,z4]
 simp (decide:=true) only [if_true,if_false,decide_true,Bool.true_and,Bool.and_true]
 try simp only [Bool.and_assoc,Bool.and_comm,Bool.and_left_comm]
theorem itmR_4 {x:Itm} {sec:Nat} (hk:x.kind=4):itmR x sec=(decide (sec=0) && sameI x (itm x.kind)):=by
 unfold itmR sameI
 simp only [hk,itm,linB_r,linB_0,z1,z2,z3,z4]
 simp (decide:=true) only [if_true,if_false,decide_true,Bool.true_and,Bool.and_true]
 try simp only [Bool.and_assoc,Bool.and_comm,Bool.and_left_comm]
theorem itmR_5 {x:Itm} {sec:Nat} (hk:x.kind=5):itmR x sec=(decide (sec=1) && decide (-128≤x.n) && decide (x.n≤255) && sameI x { itm x.kind with n:=x.n }):=by
 unfold itmR sameI
 simp only [hk,itm,linB_r,linB_0,z1,z2,z3,z4]
 simp (decide:=true) only [if_true,if_false,decide_true,Bool.true_and,Bool.and_true]
 try simp only [Bool.and_assoc,Bool.and_comm,Bool.and_left_comm]
theorem itmR_6 {x:Itm} {sec:Nat} (hk:x.kind=6):itmR x sec=(decide (sec=1) && rtR none x.e.terms && sameI x { itm x.kind with e:=x.e }):=by
 unfold itmR sameI
 simp only [hk,itm,linB_r,linB_0,z1,z2,z3,z4]
 simp (decide:=true) only [if_true,if_false,decide_true,Bool.true_and,Bool.and_true]
 try simp only [Bool.and_assoc,Bool.and_comm,Bool.and_left_comm]
theorem itmR_7 {x:Itm} {sec:Nat} (hk:x.kind=7):itmR x sec=(decide (sec=1) && decide (0≤x.n) && decide (x.n≤1048576) && sameI x { itm x.kind with n:=x.n }):=by
 unfold itmR sameI
 simp only [hk,itm,linB_r,linB_0,z1,z2,z3,z4]
 simp (decide:=true) only [if_true,if_false,decide_true,Bool.true_and,Bool.and_true]
 try simp only [Bool.and_assoc,Bool.and_comm,Bool.and_left_comm]
theorem itmR_no {x:Itm} {sec:Nat} (h1:x.kind≠1) (h2:x.kind≠2) (h3:x.kind≠3) (h4:x.kind≠4) (h5:x.kind≠5) (h6:x.kind≠6) (h7:x.kind≠7):itmR x sec=false:=by
 unfold itmR
 rw [if_neg h1,if_neg h2,if_neg h3,if_neg h4,if_neg h5,if_neg h6,if_neg h7]
theorem item0_hc {h:Hp} (t:Tab h) {x:Itm} {p:Option Addr} {l c:Nat} (v:ItmAt h p l x) :
  HC Tryz.prog 44 #[itmV p l c x,.int .i64 0] h fun w h'=>w=no31 (itmR x 0)∧Ext h h':=by
 refine hcr_of (args:=[itmV p l c x,.int .i64 0]) mixed Tryz.func44 (by kernel_rfl) (t_item_Right_c0_eq x.kind x.name x.inst.op x.inst.a x.inst.b x.inst.n x.inst.form p l c x.e.num x.n) ?_
 unfold t_item_Right_c0
 refine newB ?_
 intro g1 b1 e1 z1
 have b1:Box g1 h.size 96 (encI p l c x):=b1
 refine loads_box b1 (x.kind,()) rfl ?_
 dsimp only [flat,unc,unc1,nA,cA]
 refine newB ?_
 intro g2 b2 e2 z2
 refine stores_of b2 rfl (by simp) ?_
 intro g3 b3 k3 z3
 have b3:Box g3 g1.size 96 (encI none 0 0 (itm x.kind)):=b3
 have s1:=e1.size
 have e13:=e2.st k3 (Nat.le_refl _)
 have e3:=e1.trans e13
 have b1:=b1.keep e13 (by simp)
 simp only [add_box]
 refine loads_box b1 (x.kind,()) rfl ?_
 dsimp only [flat,unc,unc1,nA,cA]
 refine cond_mk (fun q=>?_) (fun q=>?_)
 ·have q:x.kind=1:=by simpa using q
  rw [itmR_1 q]
  refine loads_box b1 (x.name,()) rfl ?_
  dsimp only [flat,unc,unc1,nA,cA]
  refine stores_of b3 rfl (by simp [encI]) ?_
  intro g4 b4 k4 z4
  have b4:Box g4 g1.size 96 (encI none 0 0 { itm x.kind with name:=x.name }):=b4
  have e4:=e3.st k4 (by omega)
  have b1:=b1.keep k4 (by simp; omega)
  refine loads_box b1 (x.name,()) rfl ?_
  dsimp only [flat,unc,unc1,nA,cA]
  refine call_bool (legal_hc x.name g4 (by have:=v.name; have:maxLen=9223372036854775807:=rfl; omega)) ?_
  refine cond_mk (fun r=>?_) (fun r=>?_)
  ·have r:legalL x.name.data.toList=false:=by simpa using r
   exact ⟨by rw [r]; rfl,e4⟩
  have r:legalL x.name.data.toList=true:=by simpa using r
  rw [r,Bool.true_and]
  have hh:=rtT_of (L:=[]) (h0:=h) (y:={ itm x.kind with name:=x.name }) b1 b4 (v.lin.keep e4) (VwT.none g4) e4
  exact hh
 have q1:x.kind≠1:=by simpa using q
 refine cond_mk (fun q=>?_) (fun q=>?_)
 ·have q:x.kind=2:=by simpa using q
  rw [itmR_2 q]
  refine loads_box b1 (x.inst.op,x.inst.a,x.inst.b,x.inst.n,x.inst.form,()) rfl ?_
  dsimp only [flat,unc,unc1,nA,cA]
  refine loads_box b1 ((p,l,c),(x.e.num:Int),()) rfl ?_
  dsimp only [flat,unc,unc1,nA,cA]
  refine stores_of b3 rfl (by simp [encI]) ?_
  intro g4 b4 k4 z4
  have e4:=e3.st k4 (by omega)
  have b1:=b1.keep k4 (by simp; omega)
  refine ⟨⟨b1.cells [.slice p l c,.int .u32 x.e.num] rfl,trivial⟩,?_⟩
  refine stores_of b4 rfl (by simp [encI,setL]) ?_
  intro g5 b5 k5 z5
  have b5:Box g5 g1.size 96 (encI p l c { itm x.kind with inst:=x.inst,e:=x.e }):=b5
  have e5:=e4.st k5 (by omega)
  have b1:=b1.keep k5 (by simp; omega)
  refine loads_box b1 (x.kind,x.name,x.inst.op,x.inst.a,x.inst.b,x.inst.n,x.inst.form,(p,l,c),(x.e.num:Int),x.n,()) rfl ?_
  dsimp only [flat,unc,unc1,nA,cA]
  refine call_of (instruction_hc (c:=c) (t.keep e5 (by simp)) (v.lin.keep e5) v.op) ?_
  rintro _ g6 ⟨rfl,e6'⟩
  refine ⟨(insR x.inst x.e,()),rfl,?_⟩
  dsimp only [flat,unc,unc1,nA,cA]
  have e6:=e5.trans e6'
  refine cond_mk (fun r=>?_) (fun r=>?_)
  ·have r:insR x.inst x.e=false:=by simpa using r
   exact ⟨by rw [r]; rfl,e6⟩
  have r:insR x.inst x.e=true:=by simpa using r
  rw [r]
  have b1:=b1.keep e6' (by simp)
  have b5:=b5.keep e6' (by simp)
  have hh:=rtT_of (L:=[]) (h0:=h) (y:={ itm x.kind with inst:=x.inst,e:=x.e }) b1 b5 (v.lin.keep e6) (v.lin.keep e6).vw e6
  exact hh
 have q2:x.kind≠2:=by simpa using q
 refine cond_mk (fun q=>?_) (fun q=>?_)
 ·have q:x.kind=3:=by simpa using q
  rw [itmR_3 q]
  refine loads_box b1 (x.n,()) rfl ?_
  dsimp only [flat,unc,unc1,nA,cA]
  refine stores_of b3 rfl (by simp [encI]) ?_
  intro g4 b4 k4 z4
  have b4:Box g4 g1.size 96 (encI none 0 0 { itm x.kind with n:=x.n }):=b4
  have e4:=e3.st k4 (by omega)
  have b1:=b1.keep k4 (by simp; omega)
  refine loads_box b1 (x.n,()) rfl ?_
  dsimp only [flat,unc,unc1,nA,cA]
  refine call_bool (power_hc g4 x.n) ?_
  refine cond_mk (fun r=>?_) (fun r=>?_)
  ·have r:pow2 x.n=false:=by simpa using r
   exact ⟨by rw [r]; rfl,e4⟩
  have r:pow2 x.n=true:=by simpa using r
  rw [r,Bool.true_and]
  have hh:=rtT_of (L:=[]) (h0:=h) (y:={ itm x.kind with n:=x.n }) b1 b4 (v.lin.keep e4) (VwT.none g4) e4
  exact hh
 have q3:x.kind≠3:=by simpa using q
 refine cond_mk (fun q=>?_) (fun q=>?_)
 ·have q:x.kind=4:=by simpa using q
  rw [itmR_4 q]
  have hh:=rtT_of (L:=[]) (h0:=h) (y:=(itm x.kind)) b1 b3 (v.lin.keep e3) (VwT.none g3) e3
  exact hh
 have q4:x.kind≠4:=by simpa using q
 refine cond_mk (fun q=>?_) (fun q=>?_)
 ·have q:x.kind=5:=by simpa using q
  rw [itmR_5 q]
  refine loads_box b1 (x.n,()) rfl ?_
  dsimp only [flat,unc,unc1,nA,cA]
  refine stores_of b3 rfl (by simp [encI]) ?_
  intro g4 b4 k4 z4
  have b4:Box g4 g1.size 96 (encI none 0 0 { itm x.kind with n:=x.n }):=b4
  have e4:=e3.st k4 (by omega)
  have b1:=b1.keep k4 (by simp; omega)
  exact ⟨rfl,e4⟩
 have q5:x.kind≠5:=by simpa using q
 refine cond_mk (fun q=>?_) (fun q=>?_)
 ·have q:x.kind=6:=by simpa using q
  rw [itmR_6 q]
  refine loads_box b1 ((p,l,c),(x.e.num:Int),()) rfl ?_
  dsimp only [flat,unc,unc1,nA,cA]
  refine stores_of b3 rfl (by simp [encI]) ?_
  intro g4 b4 k4 z4
  have b4:Box g4 g1.size 96 (encI p l c { itm x.kind with e:=x.e }):=b4
  have e4:=e3.st k4 (by omega)
  have b1:=b1.keep k4 (by simp; omega)
  exact ⟨rfl,e4⟩
 have q6:x.kind≠6:=by simpa using q
 refine cond_mk (fun q=>?_) (fun q=>?_)
 ·have q:x.kind=7:=by simpa using q
  rw [itmR_7 q]
  refine loads_box b1 (x.n,()) rfl ?_
  dsimp only [flat,unc,unc1,nA,cA]
  refine stores_of b3 rfl (by simp [encI]) ?_
  intro g4 b4 k4 z4
  have b4:Box g4 g1.size 96 (encI none 0 0 { itm x.kind with n:=x.n }):=b4
  have e4:=e3.st k4 (by omega)
  have b1:=b1.keep k4 (by simp; omega)
  exact ⟨rfl,e4⟩
 have q7:x.kind≠7:=by simpa using q
 exact ⟨by rw [itmR_no q1 q2 q3 q4 q5 q6 q7]; rfl,e3⟩
theorem item1_hc {h:Hp} (t:Tab h) {x:Itm} {p:Option Addr} {l c:Nat} (v:ItmAt h p l x) :
  HC Tryz.prog 44 #[itmV p l c x,.int .i64 1] h fun w h'=>w=no31 (itmR x 1)∧Ext h h':=by
 refine hcr_of (args:=[itmV p l c x,.int .i64 1]) mixed Tryz.func44 (by kernel_rfl) (t_item_Right_c1_eq x.kind x.name x.inst.op x.inst.a x.inst.b x.inst.n x.inst.form p l c x.e.num x.n) ?_
 unfold t_item_Right_c1
 refine newB ?_
 intro g1 b1 e1 z1
 have b1:Box g1 h.size 96 (encI p l c x):=b1
 refine loads_box b1 (x.kind,()) rfl ?_
 dsimp only [flat,unc,unc1,nA,cA]
 refine newB ?_
 intro g2 b2 e2 z2
 refine stores_of b2 rfl (by simp) ?_
 intro g3 b3 k3 z3
 have b3:Box g3 g1.size 96 (encI none 0 0 (itm x.kind)):=b3
 have s1:=e1.size
 have e13:=e2.st k3 (Nat.le_refl _)
 have e3:=e1.trans e13
 have b1:=b1.keep e13 (by simp)
 simp only [add_box]
 refine loads_box b1 (x.kind,()) rfl ?_
 dsimp only [flat,unc,unc1,nA,cA]
 refine cond_mk (fun q=>?_) (fun q=>?_)
 ·have q:x.kind=1:=by simpa using q
  rw [itmR_1 q]
  refine loads_box b1 (x.name,()) rfl ?_
  dsimp only [flat,unc,unc1,nA,cA]
  refine stores_of b3 rfl (by simp [encI]) ?_
  intro g4 b4 k4 z4
  have b4:Box g4 g1.size 96 (encI none 0 0 { itm x.kind with name:=x.name }):=b4
  have e4:=e3.st k4 (by omega)
  have b1:=b1.keep k4 (by simp; omega)
  refine loads_box b1 (x.name,()) rfl ?_
  dsimp only [flat,unc,unc1,nA,cA]
  refine call_bool (legal_hc x.name g4 (by have:=v.name; have:maxLen=9223372036854775807:=rfl; omega)) ?_
  refine cond_mk (fun r=>?_) (fun r=>?_)
  ·have r:legalL x.name.data.toList=false:=by simpa using r
   exact ⟨by rw [r]; rfl,e4⟩
  have r:legalL x.name.data.toList=true:=by simpa using r
  rw [r,Bool.true_and]
  have hh:=rtT_of (L:=[]) (h0:=h) (y:={ itm x.kind with name:=x.name }) b1 b4 (v.lin.keep e4) (VwT.none g4) e4
  exact hh
 have q1:x.kind≠1:=by simpa using q
 refine cond_mk (fun q=>?_) (fun q=>?_)
 ·have q:x.kind=2:=by simpa using q
  rw [itmR_2 q]
  refine loads_box b1 (x.inst.op,x.inst.a,x.inst.b,x.inst.n,x.inst.form,()) rfl ?_
  dsimp only [flat,unc,unc1,nA,cA]
  refine loads_box b1 ((p,l,c),(x.e.num:Int),()) rfl ?_
  dsimp only [flat,unc,unc1,nA,cA]
  refine stores_of b3 rfl (by simp [encI]) ?_
  intro g4 b4 k4 z4
  have e4:=e3.st k4 (by omega)
  have b1:=b1.keep k4 (by simp; omega)
  refine ⟨⟨b1.cells [.slice p l c,.int .u32 x.e.num] rfl,trivial⟩,?_⟩
  refine stores_of b4 rfl (by simp [encI,setL]) ?_
  intro g5 b5 k5 z5
  have b5:Box g5 g1.size 96 (encI p l c { itm x.kind with inst:=x.inst,e:=x.e }):=b5
  have e5:=e4.st k5 (by omega)
  have b1:=b1.keep k5 (by simp; omega)
  exact ⟨rfl,e5⟩
 have q2:x.kind≠2:=by simpa using q
 refine cond_mk (fun q=>?_) (fun q=>?_)
 ·have q:x.kind=3:=by simpa using q
  rw [itmR_3 q]
  refine loads_box b1 (x.n,()) rfl ?_
  dsimp only [flat,unc,unc1,nA,cA]
  refine stores_of b3 rfl (by simp [encI]) ?_
  intro g4 b4 k4 z4
  have b4:Box g4 g1.size 96 (encI none 0 0 { itm x.kind with n:=x.n }):=b4
  have e4:=e3.st k4 (by omega)
  have b1:=b1.keep k4 (by simp; omega)
  refine loads_box b1 (x.n,()) rfl ?_
  dsimp only [flat,unc,unc1,nA,cA]
  refine call_bool (power_hc g4 x.n) ?_
  refine cond_mk (fun r=>?_) (fun r=>?_)
  ·have r:pow2 x.n=false:=by simpa using r
   exact ⟨by rw [r]; rfl,e4⟩
  have r:pow2 x.n=true:=by simpa using r
  rw [r,Bool.true_and]
  have hh:=rtT_of (L:=[]) (h0:=h) (y:={ itm x.kind with n:=x.n }) b1 b4 (v.lin.keep e4) (VwT.none g4) e4
  exact hh
 have q3:x.kind≠3:=by simpa using q
 refine cond_mk (fun q=>?_) (fun q=>?_)
 ·have q:x.kind=4:=by simpa using q
  rw [itmR_4 q]
  exact ⟨rfl,e3⟩
 have q4:x.kind≠4:=by simpa using q
 refine cond_mk (fun q=>?_) (fun q=>?_)
 ·have q:x.kind=5:=by simpa using q
  rw [itmR_5 q]
  refine loads_box b1 (x.n,()) rfl ?_
  dsimp only [flat,unc,unc1,nA,cA]
  refine stores_of b3 rfl (by simp [encI]) ?_
  intro g4 b4 k4 z4
  have b4:Box g4 g1.size 96 (encI none 0 0 { itm x.kind with n:=x.n }):=b4
  have e4:=e3.st k4 (by omega)
  have b1:=b1.keep k4 (by simp; omega)
  refine loads_box b1 (x.n,()) rfl ?_
  dsimp only [flat,unc,unc1,nA,cA]
  refine cond_mk (fun r=>?_) (fun r=>?_)
  ·have r:=of_decide_eq_true r
   refine loads_box b1 (x.n,()) rfl ?_
   dsimp only [flat,unc,unc1,nA,cA]
   refine cond_mk (fun r2=>?_) (fun r2=>?_)
   ·have r2:¬ x.n≤255:=by simpa using r2
    exact ⟨by rw [decide_eq_false r2,Bool.and_false]; rfl,e4⟩
   have r2:x.n≤255:=by simpa using r2
   rw [decide_eq_true r2,decide_eq_true (show -128≤x.n from r)]
   have hh:=rtT_of (L:=[]) (h0:=h) (y:={ itm x.kind with n:=x.n }) b1 b4 (v.lin.keep e4) (VwT.none g4) e4
   exact hh
  ·have r:=of_decide_eq_false r
   exact ⟨by rw [decide_eq_false (show ¬ -128≤x.n from r),Bool.and_false]; rfl,e4⟩
 have q5:x.kind≠5:=by simpa using q
 refine cond_mk (fun q=>?_) (fun q=>?_)
 ·have q:x.kind=6:=by simpa using q
  rw [itmR_6 q]
  refine loads_box b1 ((p,l,c),(x.e.num:Int),()) rfl ?_
  dsimp only [flat,unc,unc1,nA,cA]
  refine stores_of b3 rfl (by simp [encI]) ?_
  intro g4 b4 k4 z4
  have b4:Box g4 g1.size 96 (encI p l c { itm x.kind with e:=x.e }):=b4
  have e4:=e3.st k4 (by omega)
  have b1:=b1.keep k4 (by simp; omega)
  refine loads_box b1 ((p,l,c),(x.e.num:Int),()) rfl ?_
  dsimp only [flat,unc,unc1,nA,cA]
  refine call_of (right63_hc (c:=c) (v.lin.keep e4).vw (by have:=v.lin.many; omega) v.lin.names) ?_
  rintro _ g6 ⟨rfl,e6'⟩
  refine ⟨(rtR none x.e.terms,()),rfl,?_⟩
  dsimp only [flat,unc,unc1,nA,cA]
  have e6:=e4.trans e6'
  refine cond_mk (fun r=>?_) (fun r=>?_)
  ·have r:rtR none x.e.terms=false:=by simpa using r
   exact ⟨by rw [r]; rfl,e6⟩
  have r:rtR none x.e.terms=true:=by simpa using r
  rw [r]
  have b1:=b1.keep e6' (by simp)
  have b4:=b4.keep e6' (by simp)
  have hh:=rtT_of (L:=[]) (h0:=h) (y:={ itm x.kind with e:=x.e }) b1 b4 (v.lin.keep e6) (v.lin.keep e6).vw e6
  exact hh
 have q6:x.kind≠6:=by simpa using q
 refine cond_mk (fun q=>?_) (fun q=>?_)
 ·have q:x.kind=7:=by simpa using q
  rw [itmR_7 q]
  refine loads_box b1 (x.n,()) rfl ?_
  dsimp only [flat,unc,unc1,nA,cA]
  refine stores_of b3 rfl (by simp [encI]) ?_
  intro g4 b4 k4 z4
  have b4:Box g4 g1.size 96 (encI none 0 0 { itm x.kind with n:=x.n }):=b4
  have e4:=e3.st k4 (by omega)
  have b1:=b1.keep k4 (by simp; omega)
  refine loads_box b1 (x.n,()) rfl ?_
  dsimp only [flat,unc,unc1,nA,cA]
  refine cond_mk (fun r=>?_) (fun r=>?_)
  ·have r:=of_decide_eq_true r
   refine loads_box b1 (x.n,()) rfl ?_
   dsimp only [flat,unc,unc1,nA,cA]
   refine cond_mk (fun r2=>?_) (fun r2=>?_)
   ·have r2:¬ x.n≤1048576:=by simpa using r2
    exact ⟨by rw [decide_eq_false r2,Bool.and_false]; rfl,e4⟩
   have r2:x.n≤1048576:=by simpa using r2
   rw [decide_eq_true r2,decide_eq_true (show 0≤x.n from r)]
   have hh:=rtT_of (L:=[]) (h0:=h) (y:={ itm x.kind with n:=x.n }) b1 b4 (v.lin.keep e4) (VwT.none g4) e4
   exact hh
  ·have r:=of_decide_eq_false r
   exact ⟨by rw [decide_eq_false (show ¬ 0≤x.n from r),Bool.and_false]; rfl,e4⟩
 have q7:x.kind≠7:=by simpa using q
 exact ⟨by rw [itmR_no q1 q2 q3 q4 q5 q6 q7]; rfl,e3⟩
section
variable {α:Type}
def vE (en:α→Value) (D:List (ByteArray × α)):List (ByteArray × Value):=D.map fun p=>(p.1,en p.2)
def gE (D:List (ByteArray × α)) (s:ByteArray):Option α:=(D.find? fun p=>decide (s=p.1)).map (·.2)
def pE (D:List (ByteArray × α)) (s:ByteArray) (v:α):List (ByteArray × α):=if (gE D s).isSome then D.map fun p=>if s=p.1 then (p.1,v) else p else D++[(s,v)]
theorem look_vE (en:α→Value) (D:List (ByteArray × α)) (s:ByteArray):look (vE en D) s=(gE D s).map en:=by
 unfold look gE vE
 induction D with
 | nil=>rfl
 | cons p D ih =>
  by_cases h:s=p.1
  ·simp [h]
  ·simp only [List.map_cons,List.find?_cons,decide_eq_false h]
   exact ih
theorem upd_vE (en:α→Value) (D:List (ByteArray × α)) (s:ByteArray) (v:α):upd (vE en D) s (en v)=vE en (pE D s v):=by
 unfold upd pE
 rw [look_vE]
 cases h:gE D s with
 | none=>simp [vE]
 | some q =>
  simp only [Option.map_some,Option.isSome_some,if_true,vE,List.map_map]
  refine List.map_congr_left fun p hp=>?_
  simp only [Function.comp]
  split <;> simp_all
theorem pE_length (D:List (ByteArray × α)) (s:ByteArray) (v:α):(pE D s v).length=if (gE D s).isSome then D.length else D.length+1:=by
 unfold pE
 split <;> simp
theorem gE_append (D:List (ByteArray × α)) (s t:ByteArray) (v:α):gE (D++[(s,v)]) t=(gE D t).or (if t=s then some v else none):=by
 unfold gE
 rw [List.find?_append]
 cases h:D.find? (fun p=>decide (t=p.1)) with
 | some q=>simp
 | none =>
  simp only [Option.none_or,Option.map_none,List.find?_cons,List.find?_nil]
  by_cases e:t=s
  ·simp [e]
  ·simp [e]
theorem gE_map (D:List (ByteArray × α)) (s t:ByteArray) (v:α) (hs:(gE D s).isSome):gE (D.map fun p=>if s=p.1 then (p.1,v) else p) t=if t=s then some v else gE D t:=by
 unfold gE at *
 induction D with
 | nil=>simp at hs
 | cons p D ih =>
  by_cases h:s=p.1
  ·by_cases e:t=s
   ·simp [h,e]
   ·have e2:¬ t=p.1:=fun k=>e (k.trans h.symm)
    have hg:∀ l:List (ByteArray × α),(List.find? (fun p=>decide (t=p.1)) (List.map (fun p=>if s=p.1 then (p.1,v) else p) l)).map (·.2)=(List.find? (fun p=>decide (t=p.1)) l).map (·.2):=by
     intro l
     induction l with
     | nil=>rfl
     | cons q l ihl =>
      by_cases hq:s=q.1
      ·have:¬ t=q.1:=fun k=>e (k.trans hq.symm)
       simp only [List.map_cons,List.find?_cons,if_pos hq,decide_eq_false this]
       exact ihl
      ·simp only [List.map_cons,List.find?_cons,if_neg hq]
       by_cases ht:t=q.1
       ·simp [ht]
       ·simp only [decide_eq_false ht]
        exact ihl
    simp only [List.map_cons,List.find?_cons,if_pos h,decide_eq_false e2,if_neg e]
    exact hg D
  ·have hs2:(Option.map (fun x=>x.2) (List.find? (fun p=>decide (s=p.1)) D)).isSome:=by
    simpa [List.find?_cons,decide_eq_false h] using hs
   simp only [List.map_cons,List.find?_cons,if_neg h]
   by_cases ht:t=p.1
   ·have:¬ t=s:=fun k=>h (k.symm.trans ht)
    simp [ht,if_neg (ht▸this)]
   ·simp only [decide_eq_false ht]
    exact ih hs2
theorem gE_pE (D:List (ByteArray × α)) (s:ByteArray) (v:α) (t:ByteArray):gE (pE D s v) t=if t=s then some v else gE D t:=by
 unfold pE
 split
 ·rename_i h
  exact gE_map D s t v h
 ·rename_i h
  rw [gE_append]
  by_cases e:t=s
  ·subst e
   have:gE D t=none:=by simpa using h
   rw [this]; simp
  ·simp [e]
def fset (f:ByteArray→Option α) (s:ByteArray) (v:α):ByteArray→Option α:=fun t=>if t=s then some v else f t
def MapF (en:α→Value) (h:Hp) (g:Nat) (f:ByteArray→Option α) (n:Nat):Prop:=∃ D:List (ByteArray × α),MapB h g (vE en D)∧(∀ s,gE D s=f s)∧D.length=n
theorem MapF.keep {en:α→Value} {ws:List Nat} {h h':Hp} {g:Nat} {f:ByteArray→Option α} {n:Nat} (m:MapF en h g f n) (k:Ch ws h h') (hw:g∉ws):MapF en h' g f n:=by
 obtain ⟨D,m,r⟩:=m
 exact ⟨D,m.keep k hw,r⟩
theorem MapF.lt {en:α→Value} {h:Hp} {g:Nat} {f:ByteArray→Option α} {n:Nat} (m:MapF en h g f n):g<h.size:=by
 obtain ⟨D,m,r⟩:=m
 exact m.lt
theorem MapF.new {en:α→Value} {h:Hp} {g:Nat} (m:MapB h g []):MapF en h g (fun _=>none) 0:=⟨[],m,fun s=>rfl,rfl⟩
theorem MapF.upd {en:α→Value} {h':Hp} {g:Nat} {f:ByteArray→Option α} {n:Nat} {D:List (ByteArray × α)} (hD:∀ s,gE D s=f s) (hn:D.length=n) {s:ByteArray} {v:α} (m:MapB h' g (Sx.upd (vE en D) s (en v))):MapF en h' g (fset f s v) (if (f s).isSome then n else n+1):=by
 rw [upd_vE] at m
 refine ⟨_,m,fun t=>?_,?_⟩
 ·rw [gE_pE,hD t]; rfl
 ·rw [pE_length,hD s,hn]
end
def eB (b:Bool):Value:=.bool b
theorem und64:Tryz.prog.underlying 70=some (.map 9 4):=by kernel_rfl
theorem und9:Tryz.prog.underlying 9=some .string:=by kernel_rfl
theorem infoB:(Tryz.prog.info? 4).bind (·.zero)=some (.bool false):=by kernel_rfl
def SetB (h:Hp) (g:Nat) (D:List ByteArray):Prop:=∃ n,MapF eB h g (fun s=>if inN D s then some true else none) n
theorem SetB.keep {ws:List Nat} {h h':Hp} {g:Nat} {D:List ByteArray} (m:SetB h g D) (k:Ch ws h h') (hw:g∉ws):SetB h' g D:=by
 obtain ⟨n,m⟩:=m
 exact ⟨n,m.keep k hw⟩
theorem SetB.lt {h:Hp} {g:Nat} {D:List ByteArray} (m:SetB h g D):g<h.size:=by
 obtain ⟨n,m⟩:=m
 exact m.lt
section
variable {L:Lp} {K:Value→Hp→Prop} {h:Hp} {g:Nat} {D:List ByteArray}
theorem lookS (m:SetB h g D) (s:ByteArray) {k:Bool→T} (hk:k (inN D s) L K h):T.sem Tryz.prog (Instr.lookup 70 (.map (some g)) (.string s) false) false [(false,[.bool])] k L K h:=by
 obtain ⟨n,D',m,hD,hn⟩:=m
 refine lookup_of und64 und9 infoB m s false _ ?_
 refine ⟨(inN D s,()),?_,hk⟩
 simp only [Bool.false_eq_true,if_false]
 rw [look_vE,hD s]
 dsimp only
 all_goals (cases inN D s <;> rfl)
theorem putS (m:SetB h g D) {s:ByteArray} (hs:s.size≤maxLen) {k:T} (hk:∀ h',SetB h' g (s::D)→Ch [g] h h'→h'.size=h.size→k L K h') :
  T.semU Tryz.prog (Instr.mapUpdate 70 (.map (some g)) (.string s) (.bool true)) k L K h:=by
 obtain ⟨n,D',m,hD,hn⟩:=m
 refine mapUpdate_of und64 und9 m hs _ _ ?_
 intro h' m' c' z'
 have:=MapF.upd (en:=eB) hD hn (v:=true) m'
 have he:fset (fun t=>if inN D t then some true else none) s true=fun t=>if inN (s::D) t then some true else none:=by
  funext t
  unfold fset inN
  by_cases h1:t=s
  ·rw [if_pos h1,if_pos]
   simp [h1]
  ·rw [if_neg h1]
   have:¬ s=t:=fun e=>h1 e.symm
   rw [List.any_cons,decide_eq_false this,Bool.false_or]
 rw [he] at this
 exact hk h' ⟨_,this⟩ c' z'
theorem makeS {t:TypeId} {k:Option Nat→T} (hk:∀ h',SetB h' h.size []→Ext h h'→h'.size=h.size+1→k (some h.size) L K h'):T.sem Tryz.prog (Instr.makeMap t none) false [(false,[.map 0 0])] k L K h:=by
 refine makeMap_of _ ?_
 intro h' m e z
 exact ⟨(some h.size,()),rfl,hk h' ⟨0,MapF.new m⟩ e z⟩
end
/-! Lists in memory. -/
structure VwI (h:Hp) (p:Option Addr) (l:Nat) (us:List Itm):Prop where
 len:l=us.length
 many:us.length≤2^60
 cells:∀ i,(hi:i<us.length)→∃ a q m c,p=some a∧cellsAt h (a.add (i*10)) 0 (encI q m c us[i])∧ItmAt h q m us[i]
theorem VwI.keep {h h':Hp} {p:Option Addr} {l:Nat} {us:List Itm} (v:VwI h p l us) (k:Ext h h'):VwI h' p l us :=
 ⟨v.len,v.many,fun i hi=>by
  obtain ⟨a,q,m,c,ha,hc,hv⟩:=v.cells i hi
  exact ⟨a,q,m,c,ha,cellsAt_keep k (by simp) _ _ hc,hv.keep k⟩⟩
def encE (p:Option Addr) (l c:Nat) (x:Eqn):List Value:=[.string x.1,.slice p l c,.int .u32 x.2.num]
structure VwE (h:Hp) (p:Option Addr) (l:Nat) (us:List Eqn):Prop where
 len:l=us.length
 many:us.length≤2^60
 cells:∀ i,(hi:i<us.length)→∃ a q m c,p=some a∧cellsAt h (a.add (i*3)) 0 (encE q m c us[i])∧LinAt h q m us[i].2∧us[i].1.size≤maxLen
theorem VwE.keep {h h':Hp} {p:Option Addr} {l:Nat} {us:List Eqn} (v:VwE h p l us) (k:Ext h h'):VwE h' p l us :=
 ⟨v.len,v.many,fun i hi=>by
  obtain ⟨a,q,m,c,ha,hc,hv,hs⟩:=v.cells i hi
  exact ⟨a,q,m,c,ha,cellsAt_keep k (by simp) _ _ hc,hv.keep k,hs⟩⟩
structure VwS (h:Hp) (p:Option Addr) (l:Nat) (us:List ByteArray):Prop where
 len:l=us.length
 many:us.length≤2^60
 cells:∀ i,(hi:i<us.length)→∃ a,p=some a∧cellsAt h (a.add (i*1)) 0 [.string us[i]]∧us[i].size≤maxLen
theorem VwS.keep {h h':Hp} {p:Option Addr} {l:Nat} {us:List ByteArray} (v:VwS h p l us) (k:Ext h h'):VwS h' p l us :=
 ⟨v.len,v.many,fun i hi=>by
  obtain ⟨a,ha,hc,hs⟩:=v.cells i hi
  exact ⟨a,ha,cellsAt_keep k (by simp) _ _ hc,hs⟩⟩
structure Sli where
 p:Option Addr
 l:Nat
 c:Nat
def Sli.v (s:Sli):Value:=.slice s.p s.l s.c
structure UntAt (h:Hp) (a b c d:Sli) (u:Unt):Prop where
 text:VwI h a.p a.l u.text
 data:VwI h b.p b.l u.data
 equs:VwE h c.p c.l u.equs
 globs:VwS h d.p d.l u.globs
theorem UntAt.keep {h h':Hp} {a b c d:Sli} {u:Unt} (v:UntAt h a b c d u) (k:Ext h h'):UntAt h' a b c d u:=⟨v.text.keep k,v.data.keep k,v.equs.keep k,v.globs.keep k⟩
def untV (a b c d:Sli):Value:=.agg #[a.v,b.v,c.v,d.v]
theorem und75:Tryz.prog.underlying 100=some (.slice 23):=by kernel_rfl
theorem slZ:(Tryz.prog.info? 23).map (fun i=>(i.zero,i.size,i.bytes))=some (some (.slice none 0 0),1,24):=by kernel_rfl
theorem fillU (p1:Option Addr) (l1 c1:Nat) (p2:Option Addr) (l2 c2:Nat):Instr.fill (fun j=>some (j*1,1)) ((Array.range (2*1)).map ((Value.slice none 0 0).cells[· % (Value.slice none 0 0).cells.size]!)) [(0,.slice p1 l1 c1),(1,.slice p2 l2 c2)]=some ([.slice p1 l1 c1,.slice p2 l2 c2]:List Value).toArray:=by kernel_rfl
/-! The sections,one behind the other. -/
def secL (u:Unt) (k:Nat):List Itm:=if k=0 then u.text else u.data
def secN (u:Unt) (k:Nat):List ByteArray:=if k=0 then [] else if k=1 then namesI [] u.text else namesI (namesI [] u.text) u.data
def secR' (u:Unt) (k:Nat):Bool:=if k=0 then untOk u else if k=1 then (itemsOk 1 (namesI [] u.text) u.data && (equsOk (namesI (namesI [] u.text) u.data) u.equs && globsOk u.names nam0 u.globs)) else (equsOk (namesI (namesI [] u.text) u.data) u.equs && globsOk u.names nam0 u.globs)
theorem secR_step (u:Unt) {k:Nat} (hk:k<2):secR' u k=(itemsOk k (secN u k) (secL u k) && secR' u (k+1)):=by
 have:k=0∨k=1:=by omega
 rcases this with rfl | rfl
 ·simp [secR',secN,secL,untOk,Bool.and_assoc]
 ·simp [secR',secN,secL]
theorem secN_step (u:Unt) {k:Nat} (hk:k<2):secN u (k+1)=namesI (secN u k) (secL u k):=by
 have:k=0∨k=1:=by omega
 rcases this with rfl | rfl <;> rfl
theorem namesI_take (D:List ByteArray) (l:List Itm) {i:Nat} (hi:i<l.length):namesI D (l.take (i+1))=addN (namesI D (l.take i)) l[i]:=by
 unfold namesI
 rw [List.take_succ_eq_append_getElem hi,List.foldl_append]
 rfl
theorem namesE_take (D:List ByteArray) (l:List Eqn) {i:Nat} (hi:i<l.length):namesE D (l.take (i+1))=l[i].1::namesE D (l.take i):=by
 unfold namesE
 rw [List.take_succ_eq_append_getElem hi,List.foldl_append]
 rfl
theorem itemsOk_step (sec:Nat) (D:List ByteArray) (l:List Itm) {i:Nat} (hi:i<l.length):itemsOk sec D (l.drop i)=(itmOk sec D l[i] && itemsOk sec (addN D l[i]) (l.drop (i+1))):=by
 rw [List.drop_eq_getElem_cons hi,itemsOk]
theorem equsOk_step (D:List ByteArray) (l:List Eqn) {i:Nat} (hi:i<l.length):equsOk D (l.drop i)=(equOk D l[i] && equsOk (l[i].1::D) (l.drop (i+1))):=by
 rw [List.drop_eq_getElem_cons hi,equsOk]
def lastG (l:List ByteArray) (i:Nat):ByteArray:=if i=0 then nam0 else l.getD (i-1) nam0
theorem globsOk_step (D:List ByteArray) (l:List ByteArray) {i:Nat} (hi:i<l.length):globsOk D (lastG l i) (l.drop i)=(gOk D (lastG l i) l[i] && globsOk D (lastG l (i+1)) (l.drop (i+1))):=by
 rw [List.drop_eq_getElem_cons hi,globsOk]
 congr 2
 unfold lastG
 rw [if_neg (by omega),Nat.add_sub_cancel,List.getD_eq_getElem?_getD,List.getElem?_eq_getElem hi]
 rfl
def SetL (h:Hp) (g:Nat) (D:List ByteArray):Prop:=SetB h g D∧∀ s,s∈D→legalL s.data.toList=true
theorem SetL.keep {ws:List Nat} {h h':Hp} {g:Nat} {D:List ByteArray} (m:SetL h g D) (k:Ch ws h h') (hw:g∉ws):SetL h' g D:=⟨m.1.keep k hw,m.2⟩
theorem legal_gt {s:ByteArray} (h:legalL s.data.toList=true):ltN nam0 s:=by
 unfold legalL at h
 simp only [Bool.and_eq_true,decide_eq_true_eq] at h
 have h2:=h.1.1.1.1
 show (nam0.data.toList:List UInt8)<s.data.toList
 have:(nam0.data.toList:List UInt8)=[]:=rfl
 rw [this]
 cases hs:s.data.toList with
 | nil=>rw [hs] at h2; simp at h2
 | cons a l=>exact List.Lex.nil
theorem inN_mem {D:List ByteArray} {s:ByteArray} (h:inN D s=true):s∈D:=by
 unfold inN at h
 simp only [List.any_eq_true,decide_eq_true_eq] at h
 obtain ⟨y,hy,rfl⟩:=h
 exact hy
theorem item_hc {h:Hp} (t:Tab h) {x:Itm} {p:Option Addr} {l c k:Nat} (v:ItmAt h p l x) (hk:k<2) :
  HC Tryz.prog 44 #[itmV p l c x,.int .i64 (k:Int)] h fun w h'=>w=no31 (itmR x k)∧Ext h h':=by
 have:k=0∨k=1:=by omega
 rcases this with rfl | rfl
 ·exact item0_hc t v
 ·exact item1_hc t v
theorem unitRight_hc {h:Hp} (t:Tab h) {a b c d:Sli} {u:Unt} (v:UntAt h a b c d u):HC Tryz.prog 18 #[untV a b c d] h fun w h'=>w=.int .i64 (untR u:Nat)∧Ext h h':=by
 refine hcr_of (args:=[untV a b c d]) mixed Tryz.func18 (by kernel_rfl) (t_unit_Right_eq a.p a.l a.c b.p b.l b.c c.p c.l c.c d.p d.l d.c) ?_
 unfold t_unit_Right
 refine newB ?_
 intro g1 b1 e1 z1
 have b1:Box g1 h.size 27 [a.v,b.v,c.v,d.v]:=b1
 have m1:=v.text.many
 have m2:=v.data.many
 have m3:=v.equs.many
 have m4:=v.globs.many
 have n1:=v.text.len
 have n2:=v.data.len
 have n3:=v.equs.len
 have n4:=v.globs.len
 have s1:=e1.size
 simp only [add_box]
 refine loads_box b1 ((a.p,a.l,a.c),()) rfl ?_
 dsimp only [flat,unc,unc1,nA,cA]
 refine loads_box b1 ((b.p,b.l,b.c),()) rfl ?_
 dsimp only [flat,unc,unc1,nA,cA]
 rw [wrap_i64 (by omega) (by omega)]
 unfold untR untMany
 refine cond_mk (fun q=>?_) (fun q=>?_)
 ·have q:=of_decide_eq_true q
  exact ⟨by rw [decide_eq_true (show 8192<u.text.length+u.data.length by omega)]; rfl,e1⟩
 have q:=of_decide_eq_false q
 rw [decide_eq_false (show ¬ 8192<u.text.length+u.data.length by omega),Bool.false_or]
 refine loads_box b1 ((c.p,c.l,c.c),()) rfl ?_
 dsimp only [flat,unc,unc1,nA,cA]
 refine cond_mk (fun q=>?_) (fun q=>?_)
 ·have q:=of_decide_eq_true q
  exact ⟨by rw [decide_eq_true (show 8192<u.equs.length by omega)]; rfl,e1⟩
 have q:=of_decide_eq_false q
 rw [decide_eq_false (show ¬ 8192<u.equs.length by omega),if_neg (by simp)]
 refine makeS ?_
 intro g2 m e2 z2
 have b2:=b1.keep e2 (by simp)
 refine loads_box b2 ((a.p,a.l,a.c),()) rfl ?_
 dsimp only [flat,unc,unc1,nA,cA]
 refine loads_box b2 ((b.p,b.l,b.c),()) rfl ?_
 dsimp only [flat,unc,unc1,nA,cA]
 refine lit_of und75 slZ (by omega) (by omega) (fillU a.p a.l a.c b.p b.l b.c) ?_
 intro g3 b3 e3 z3
 have m:=m.keep e3 (by have:=m.lt; simp)
 have e03:=(e1.trans e2).trans e3
 have b3':=b2.keep e3 (by simp)
 have s2:=e2.size
 clear b1 b2
 have hsec:∀ k,k<2→∃ s:Sli,([a.v,b.v]:List Value).drop k=s.v::([a.v,b.v]:List Value).drop (k+1)∧VwI h s.p s.l (secL u k):=by
  intro k hk
  have:k=0∨k=1:=by omega
  rcases this with rfl | rfl
  ·exact ⟨a,rfl,v.text⟩
  ·exact ⟨b,rfl,v.data⟩
 have s3:=e3.size
 have b3:Box g3 g2.size 23 [a.v,b.v]:=b3
 generalize hU:untOk u=U
 refine loop_of (cs:=[(false,[.int .i64]),(false,[.int .i64])]) (fun y w h'=>∃ k:Nat,y.2.1=(k:Int)∧k≤2∧w=2-k∧Ext h h'∧Box h' h.size 27 [a.v,b.v,c.v,d.v]∧Box h' g2.size 23 [a.v,b.v]∧SetL h' g1.size (secN u k)∧U=secR' u k) ((0:Int),(0:Int),()) 2 rfl
  ⟨0,rfl,by omega,by omega,e03,b3',b3,⟨m,by simp [secN]⟩,hU.symm⟩ ?_
 rintro ⟨n21,n22,⟨⟩⟩ w h4 ⟨k,hk,hk2,rfl,e4,b1,b2,m,hu⟩
 simp only at hk
 subst hk
 dsimp only [flat,unc,unc1,nA,cA]
 refine cond_mk (fun q=>?_) (fun q=>?_)
 ·have q:=of_decide_eq_true q
  have hk:k<2:=by omega
  obtain ⟨sl,hsl,vs⟩:=hsec k hk
  refine need_of ⟨by omega,by omega⟩ (osome_mk rfl ?_)
  rw [add_box]
  refine loads_box b2 ((sl.p,sl.l,sl.c),()) (by rw [show 0+(k:Int).toNat*1=k by omega,hsl]; rfl) ?_
  dsimp only [flat,unc,unc1,nA,cA]
  have lk:=vs.len
  have mk:=vs.many
  generalize hl:secL u k=l at vs lk mk
  have hu2:U=(itemsOk k (namesI (secN u k) (l.take 0)) (l.drop 0) && secR' u (k+1)):=by
   rw [hu,secR_step u hk,hl]
   rfl
  refine loop_of (cs:=[(false,[.int .i64]),(false,[.int .i64])]) (fun y w h'=>∃ i:Nat,y.2.1=(i:Int)∧i≤l.length∧w=l.length-i∧Ext h h'∧Box h' h.size 27 [a.v,b.v,c.v,d.v]∧Box h' g2.size 23 [a.v,b.v]∧SetL h' g1.size (namesI (secN u k) (l.take i))∧U=(itemsOk k (namesI (secN u k) (l.take i)) (l.drop i) && secR' u (k+1))) (n21,(0:Int),()) l.length rfl
   ⟨0,rfl,by omega,by omega,e4,b1,b2,m,hu2⟩ ?_
  clear hu hu2 m b1 b2 e4
  rintro ⟨n27,n28,⟨⟩⟩ w h5 ⟨i,hi,hile,rfl,e5,b1,b2,m,hu⟩
  simp only at hi
  subst hi
  dsimp only [flat,unc,unc1,nA,cA]
  refine cond_mk (fun q2=>?_) (fun q2=>?_)
  ·have q2:=of_decide_eq_true q2
   have hil:i<l.length:=by omega
   obtain ⟨aa,pp,ll,cc,rfl',hc,va⟩:=(vs.keep e5).cells i hil
   rw [itemsOk_step k _ l hil] at hu
   have hnt:=namesI_take (secN u k) l hil
   generalize l[i]=x at hc va hu hnt
   refine need_of ⟨by omega,by omega⟩ (osome_mk rfl' ?_)
   rw [show Int.toNat (i:Int)=i by omega]
   refine loads_of (x.kind,x.name,x.inst.op,x.inst.a,x.inst.b,x.inst.n,x.inst.form,(pp,ll,cc),(x.e.num:Int),x.n,()) hc ?_
   dsimp only [flat,unc,unc1,nA,cA]
   refine newB ?_
   intro h6 b6 e6 z6
   refine stores_of b6 rfl (by simp) ?_
   intro h7 b7 k7 z7
   have b7:Box h7 h5.size 96 (encI pp ll cc x):=b7
   have e57:Ext h5 h7:=e6.st k7 (Nat.le_refl _)
   have e7:=e5.trans e57
   simp only [add_box]
   refine loads_box b7 (x.kind,x.name,x.inst.op,x.inst.a,x.inst.b,x.inst.n,x.inst.form,(pp,ll,cc),(x.e.num:Int),x.n,()) rfl ?_
   dsimp only [flat,unc,unc1,nA,cA]
   refine call_of (item_hc (c:=cc) (t.keep e7 (by simp)) (va.keep e57) hk) ?_
   rintro _ h8 ⟨rfl,e8⟩
   refine ⟨((if itmR x k then 0 else 31:Int),()),rfl,?_⟩
   dsimp only [flat,unc,unc1,nA,cA]
   have e58:=e57.trans e8
   have e08:=e5.trans e58
   have b1:=b1.keep e58 (by simp)
   have b2:=b2.keep e58 (by simp)
   have m:=m.keep e58 (by simp)
   have b8:=b7.keep e8 (by simp)
   refine cond_mk (fun r=>?_) (fun r=>?_)
   ·have r:itmR x k=false:=by
     cases hr:itmR x k with
     | false=>rfl
     | true=>rw [hr] at r; simp at r
    exact ⟨by rw [hu,itmOk,r]; rfl,e08⟩
   have r:itmR x k=true:=by
    cases hr:itmR x k with
    | true=>rfl
    | false=>rw [hr] at r; simp at r
   have hno:∀ D,itmOk k D x=!(decide (x.kind=1) && inN D x.name):=fun D=>by rw [itmOk,r]; rfl
   rw [hno] at hu
   refine loads_box b8 (x.kind,()) rfl ?_
   dsimp only [flat,unc,unc1,nA,cA]
   refine cond_mk (fun r1=>?_) (fun r1=>?_)
   ·have r1:x.kind=1:=by simpa using r1
    rw [decide_eq_true r1,Bool.true_and] at hu
    have hle:legalL x.name.data.toList=true:=by
     rw [itmR_1 r1,Bool.and_eq_true] at r
     exact r.1
    refine loads_box b8 (x.name,()) rfl ?_
    dsimp only [flat,unc,unc1,nA,cA]
    refine lookS m.1 x.name ?_
    refine cond_mk (fun r2=>?_) (fun r2=>?_)
    ·exact ⟨by rw [hu,r2]; rfl,e08⟩
    rw [r2] at hu
    refine loads_box b8 (x.kind,()) rfl ?_
    dsimp only [flat,unc,unc1,nA,cA]
    refine cond_t (by simpa using r1) ?_
    refine loads_box b8 (x.name,()) rfl ?_
    dsimp only [flat,unc,unc1,nA,cA]
    refine putS m.1 va.name ?_
    intro h9 m9 k9 z9
    have e09:Ext h h9:=e08.st k9 (by omega)
    have s5:=e5.size
    have hadd:addN (namesI (secN u k) (l.take i)) x=x.name::namesI (secN u k) (l.take i):=by unfold addN; rw [if_pos r1]
    refine again_mk (cs:=[(false,[.int .i64]),(false,[.int .i64])]) (n27,((i+1:Nat):Int),()) (l.length-(i+1)) rfl (by omega) (by rw [wrap_i64 (by omega) (by omega)]; rfl) ?_
    refine ⟨i+1,rfl,by omega,rfl,e09,b1.keep k9 (by simp; omega),b2.keep k9 (by simp; omega),by rw [hnt,hadd]; exact ⟨m9,fun s hs=>(List.mem_cons.1 hs).elim (fun e=>by rw [e]; exact hle) (m.2 s)⟩,by rw [hu,hnt]; rfl⟩
   ·have r1:¬ x.kind=1:=by simpa using r1
    rw [decide_eq_false r1] at hu
    refine loads_box b8 (x.kind,()) rfl ?_
    dsimp only [flat,unc,unc1,nA,cA]
    refine cond_f (by simpa using r1) ?_
    have hadd:addN (namesI (secN u k) (l.take i)) x=namesI (secN u k) (l.take i):=by unfold addN; rw [if_neg r1]
    refine again_mk (cs:=[(false,[.int .i64]),(false,[.int .i64])]) (n27,((i+1:Nat):Int),()) (l.length-(i+1)) rfl (by omega) (by rw [wrap_i64 (by omega) (by omega)]; rfl) ?_
    refine ⟨i+1,rfl,by omega,rfl,e08,b1,b2,by rw [hnt,hadd]; exact m,by rw [hu,hnt]; rfl⟩
  ·have q2:=of_decide_eq_false q2
   have hil:i=l.length:=by omega
   subst hil
   rw [List.take_length] at m hu
   rw [List.drop_length,itemsOk,Bool.true_and] at hu
   refine again_mk (cs:=[(false,[.int .i64]),(false,[.int .i64])]) (n27,((k+1:Nat):Int),()) (2-(k+1)) rfl (by omega) (by rw [wrap_i64 (by omega) (by omega)]; rfl) ?_
   refine ⟨k+1,rfl,by omega,rfl,e5,b1,b2,by rw [secN_step u hk,hl]; exact m,hu⟩
 ·have q:=of_decide_eq_false q
  have hk:k=2:=by omega
  subst hk
  have hu:U=(equsOk (namesI (namesI [] u.text) u.data) u.equs && globsOk u.names nam0 u.globs):=hu
  have m:SetL h4 g1.size (namesI (namesI [] u.text) u.data):=m
  generalize hD:namesI (namesI [] u.text) u.data=D at hu m
  have hN:u.names=namesE D u.equs:=by rw [← hD]; rfl
  rw [hN] at hu
  refine loads_box b1 ((c.p,c.l,c.c),()) rfl ?_
  dsimp only [flat,unc,unc1,nA,cA]
  have hu2:U=(equsOk (namesE D (u.equs.take 0)) (u.equs.drop 0) && globsOk (namesE D u.equs) nam0 u.globs):=hu
  refine loop_of (cs:=[(false,[.int .i64]),(false,[.int .i64])]) (fun y w h'=>∃ i:Nat,y.2.1=(i:Int)∧i≤u.equs.length∧w=u.equs.length-i∧Ext h h'∧Box h' h.size 27 [a.v,b.v,c.v,d.v]∧SetL h' g1.size (namesE D (u.equs.take i))∧U=(equsOk (namesE D (u.equs.take i)) (u.equs.drop i) && globsOk (namesE D u.equs) nam0 u.globs)) (n21,(0:Int),()) u.equs.length rfl
   ⟨0,rfl,by omega,by omega,e4,b1,m,hu2⟩ ?_
  clear hu hu2 m b1 b2 e4
  rintro ⟨n27,n28,⟨⟩⟩ w h5 ⟨i,hi,hile,rfl,e5,b1,m,hu⟩
  simp only at hi
  subst hi
  dsimp only [flat,unc,unc1,nA,cA]
  have s5:=e5.size
  refine cond_mk (fun q2=>?_) (fun q2=>?_)
  ·have q2:=of_decide_eq_true q2
   have hil:i<u.equs.length:=by omega
   obtain ⟨aa,pp,ll,cc,rfl',hc,va,vn⟩:=(v.equs.keep e5).cells i hil
   rw [equsOk_step _ _ hil] at hu
   have hnt:=namesE_take D u.equs hil
   generalize u.equs[i]=x at hc va vn hu hnt
   refine need_of ⟨by omega,by omega⟩ (osome_mk rfl' ?_)
   rw [show Int.toNat (i:Int)=i by omega]
   refine loads_of (x.1,(pp,ll,cc),(x.2.num:Int),()) hc ?_
   dsimp only [flat,unc,unc1,nA,cA]
   refine newB ?_
   intro h6 b6 e6 z6
   refine stores_of b6 rfl (by simp) ?_
   intro h7 b7 k7 z7
   have b7:Box h7 h5.size 99 (encE pp ll cc x):=b7
   have e57:Ext h5 h7:=e6.st k7 (Nat.le_refl _)
   have e7:=e5.trans e57
   simp only [add_box]
   have b1:=b1.keep e57 (by simp)
   have m:=m.keep e57 (by simp)
   unfold equOk at hu
   refine loads_box b7 (x.1,()) rfl ?_
   dsimp only [flat,unc,unc1,nA,cA]
   refine lookS m.1 x.1 ?_
   refine cond_mk (fun r=>?_) (fun r=>?_)
   ·exact ⟨by rw [hu,r]; rfl,e7⟩
   rw [r] at hu
   refine loads_box b7 (x.1,()) rfl ?_
   dsimp only [flat,unc,unc1,nA,cA]
   refine call_bool (legal_hc x.1 h7 (by have:maxLen=9223372036854775807:=rfl; omega)) ?_
   refine cond_mk (fun r=>?_) (fun r=>?_)
   ·have r:legalL x.1.data.toList=false:=by simpa using r
    exact ⟨by rw [hu,r]; rfl,e7⟩
   have hle:legalL x.1.data.toList=true:=by simpa using r
   rw [hle] at hu
   refine loads_box b7 ((pp,ll,cc),(x.2.num:Int),()) rfl ?_
   dsimp only [flat,unc,unc1,nA,cA]
   refine call_of (right63_hc (c:=cc) (va.keep e57).vw (by have:=va.many; omega) va.names) ?_
   rintro _ h8 ⟨rfl,e8⟩
   refine ⟨(rtR none x.2.terms,()),rfl,?_⟩
   dsimp only [flat,unc,unc1,nA,cA]
   have e08:=e7.trans e8
   have b1:=b1.keep e8 (by simp)
   have m:=m.keep e8 (by simp)
   have b8:=b7.keep e8 (by simp)
   refine cond_mk (fun r=>?_) (fun r=>?_)
   ·have r:rtR none x.2.terms=false:=by simpa using r
    exact ⟨by rw [hu,r]; rfl,e08⟩
   have r:rtR none x.2.terms=true:=by simpa using r
   rw [r] at hu
   refine loads_box b8 (x.1,()) rfl ?_
   dsimp only [flat,unc,unc1,nA,cA]
   refine putS m.1 vn ?_
   intro h9 m9 k9 z9
   have e09:Ext h h9:=e08.st k9 (by omega)
   refine again_mk (cs:=[(false,[.int .i64]),(false,[.int .i64])]) (n27,((i+1:Nat):Int),()) (u.equs.length-(i+1)) rfl (by omega) (by rw [wrap_i64 (by omega) (by omega)]; rfl) ?_
   refine ⟨i+1,rfl,by omega,rfl,e09,b1.keep k9 (by simp; omega),by rw [hnt]; exact ⟨m9,fun s hs=>(List.mem_cons.1 hs).elim (fun e=>by rw [e]; exact hle) (m.2 s)⟩,by rw [hu,hnt]; rfl⟩
  have q2:=of_decide_eq_false q2
  have hil:i=u.equs.length:=by omega
  subst hil
  rw [List.take_length] at m hu
  rw [List.drop_length,equsOk,Bool.true_and] at hu
  generalize hE:namesE D u.equs=E at m hu
  refine loads_box b1 ((d.p,d.l,d.c),()) rfl ?_
  dsimp only [flat,unc,unc1,nA,cA]
  have hu2:U=globsOk E (lastG u.globs 0) (u.globs.drop 0):=hu
  refine loop_of (cs:=[(false,[.int .i64]),(false,[.int .i64])]) (fun y w h'=>∃ i:Nat,y.2.1=(i:Int)∧i≤u.globs.length∧w=u.globs.length-i∧Ext h h'∧Box h' h.size 27 [a.v,b.v,c.v,d.v]∧SetL h' g1.size E∧U=globsOk E (lastG u.globs i) (u.globs.drop i)) (n27,(0:Int),()) u.globs.length rfl
   ⟨0,rfl,by omega,by omega,e5,b1,m,hu2⟩ ?_
  clear hu hu2 m b1 e5 s5
  rintro ⟨n31,n32,⟨⟩⟩ w h6 ⟨i,hi,hile,rfl,e6,b1,m,hu⟩
  simp only at hi
  subst hi
  dsimp only [flat,unc,unc1,nA,cA]
  refine cond_mk (fun q3=>?_) (fun q3=>?_)
  ·have q3:=of_decide_eq_true q3
   have hil:i<u.globs.length:=by omega
   obtain ⟨aa,rfl',hc,va⟩:=(v.globs.keep e6).cells i hil
   rw [globsOk_step _ _ hil] at hu
   unfold gOk at hu
   refine need_of ⟨by omega,by omega⟩ (osome_mk rfl' ?_)
   rw [show Int.toNat (i:Int)=i by omega]
   refine loads_of (u.globs[i],()) hc ?_
   dsimp only [flat,unc,unc1,nA,cA]
   refine lookS m.1 _ ?_
   refine cond_mk (fun r=>?_) (fun r=>?_)
   ·have r:inN E u.globs[i]=false:=by simpa using r
    exact ⟨by rw [hu,r]; rfl,e6⟩
   have r:inN E u.globs[i]=true:=by simpa using r
   rw [r,Bool.true_and] at hu
   refine cond_mk (fun r2=>?_) (fun r2=>?_)
   ·have r2:=of_decide_eq_true r2
    refine loads_box b1 ((d.p,d.l,d.c),()) rfl ?_
    dsimp only [flat,unc,unc1,nA,cA]
    rw [wrap_i64 (by omega) (by omega)]
    obtain ⟨ab,rfl'',hc',va'⟩:=(v.globs.keep e6).cells (i-1) (by omega)
    refine need_of ⟨by omega,by omega⟩ (osome_mk rfl'' ?_)
    rw [show Int.toNat ((i:Int)-1)=i-1 by omega]
    refine loads_of (u.globs[i-1],()) hc' ?_
    dsimp only [flat,unc,unc1,nA,cA]
    have hla:lastG u.globs i=u.globs[i-1]:=by
     unfold lastG
     rw [if_neg (by omega),List.getD_eq_getElem?_getD,List.getElem?_eq_getElem (by omega)]
     rfl
    rw [leB]
    rw [hla] at hu
    refine cond_mk (fun r3=>?_) (fun r3=>?_)
    ·have r3:decide (ltN u.globs[i-1] u.globs[i])=false:=by simpa using r3
     exact ⟨by rw [hu,r3]; rfl,e6⟩
    ·have r3:decide (ltN u.globs[i-1] u.globs[i])=true:=by simpa using r3
     rw [r3,Bool.true_and] at hu
     refine again_mk (cs:=[(false,[.int .i64]),(false,[.int .i64])]) (n31,((i+1:Nat):Int),()) (u.globs.length-(i+1)) rfl (by omega) (by rw [wrap_i64 (by omega) (by omega)]; rfl) ?_
     exact ⟨i+1,rfl,by omega,rfl,e6,b1,m,hu⟩
   ·have r2:=of_decide_eq_false r2
    have hi0:i=0:=by omega
    subst hi0
    have hg:decide (ltN (lastG u.globs 0) u.globs[0])=true:=decide_eq_true (legal_gt (m.2 _ (inN_mem r)))
    rw [hg,Bool.true_and] at hu
    refine again_mk (cs:=[(false,[.int .i64]),(false,[.int .i64])]) (n31,((0+1:Nat):Int),()) (u.globs.length-(0+1)) rfl (by omega) (by rw [wrap_i64 (by omega) (by omega)]; rfl) ?_
    exact ⟨0+1,rfl,by omega,rfl,e6,b1,m,hu⟩
  ·have q3:=of_decide_eq_false q3
   have hil:i=u.globs.length:=by omega
   subst hil
   rw [List.drop_length] at hu
   exact ⟨by rw [hu]; rfl,e6⟩
def byC (l:List UInt8):List (List Value):=l.map fun b=>[.int .u8 (b.toNat:Int)]
theorem byC_length (l:List UInt8):(byC l).length=l.length:=by simp [byC]
theorem byC_len (l:List UInt8):∀ y,y∈byC l→y.length=1:=by
 intro y hy
 obtain ⟨b,_,rfl⟩:=List.mem_map.1 hy
 rfl
theorem byC_flat (l:List UInt8):(byC l).flatten=l.map fun b=>.int .u8 (b.toNat:Int):=by
 induction l with
 | nil=>rfl
 | cons a l ih =>
  have:byC (a::l)=[.int .u8 (a.toNat:Int)]::byC l:=rfl
  rw [this,List.flatten_cons,ih]
  rfl
theorem byC_plain (l:List UInt8):(byC l).flatten.all plainV=true:=by
 rw [byC_flat]
 simp [plainV]
theorem und22:Tryz.prog.underlying 42=some (.slice 5):=by kernel_rfl
theorem byZ:(Tryz.prog.info? 5).map (fun i=>(i.zero,i.size,i.bytes))=some (some (.int .u8 0),1,1):=by kernel_rfl
def Wst (g:Nat) (h:Hp) (p:Option Addr) (h':Hp) (p':Option Addr):Prop:=Ch (g::blkOf p) h h'∧(p'=p∨∃ a,p'=some a∧h.size≤a.block)
theorem Wst.refl (g:Nat) (h:Hp) (p:Option Addr):Wst g h p h p:=⟨Ch.refl _ _,.inl rfl⟩
theorem Wst.trans {g:Nat} {h h1 h2:Hp} {p p1 p2:Option Addr} (a:Wst g h p h1 p1) (b:Wst g h1 p1 h2 p2):Wst g h p h2 p2:=by
 refine ⟨a.1.trans b.1 ?_,?_⟩
 ·intro i hi hl
  rcases List.mem_cons.1 hi with rfl | hi
  ·simp
  ·rcases a.2 with h1 | ⟨q,h1,h3⟩
   ·rw [h1] at hi
    exact List.mem_cons_of_mem _ hi
   ·rw [h1] at hi
    simp [blkOf] at hi
    omega
 ·rcases b.2 with h3 | ⟨q,h3,h4⟩
  ·rcases a.2 with h5 | ⟨r,h5,h6⟩
   ·exact .inl (h3.trans h5)
   ·exact .inr ⟨r,h3.trans h5,h6⟩
  ·exact .inr ⟨q,h3,Nat.le_trans a.1.size h4⟩
theorem Wst.of {g:Nat} {h h':Hp} (e:Ext h h') (p:Option Addr):Wst g h p h' p:=⟨e.mono (by simp),.inl rfl⟩
theorem SL.blk {h:Hp} {b:Nat} {e:TypeId} {sz:Nat} {p:Option Addr} {l c:Nat} {xs:List (List Value)} (s:SL h b e sz p l c xs):∀ i,i∈blkOf p→b≤i∧i<h.size:=by
 intro i hi
 cases p with
 | none=>simp [blkOf] at hi
 | some a =>
  obtain ⟨g,pre,rest,rfl,hb,_,hbox,_⟩:=s.2.2
  simp [blkOf] at hi
  exact ⟨by omega,by rw [hi]; exact hbox.lt⟩
theorem Wst.box {g k:Nat} {h h':Hp} {p p':Option Addr} {e:TypeId} {xs:List Value} (b:Box h k e xs) (hk:k∉g::blkOf p) (s:Wst g h p h' p'):Box h' k e xs∧k∉g::blkOf p':=by
 refine ⟨b.keep s.1 hk,?_⟩
 rcases s.2 with h3 | ⟨a,h3,h4⟩
 ·rw [h3]; exact hk
 ·rw [h3]
  have:=b.lt
  have h5:k≠g:=fun e=>hk (by rw [e]; simp)
  simp [blkOf]
  omega
theorem wrap_u32 (n:Int):IntKind.wrap .u32 n=((u32 n:Nat):Int):=by
 simp only [IntKind.wrap,IntKind.bits,IntKind.signed,Bool.false_and,Bool.false_eq_true,if_false]
 unfold u32
 omega
theorem fill1 (a:Int):Instr.fill (fun j=>some (j*1,1)) ((Array.range (1*1)).map ((Value.int .u8 0).cells[· % (Value.int .u8 0).cells.size]!)) [(0,.int .u8 a)]=some ([.int .u8 a]:List Value).toArray:=by kernel_rfl
structure VwB (h:Hp) (p:Option Addr) (l:Nat) (us:Bt):Prop where
 len:l=us.length
 cells:∀ i,(hi:i<us.length)→∃ a,p=some a∧cellsAt h (a.add (i*1)) 0 [.int .u8 (us[i].toNat:Int)]
theorem VwB.keep {h h':Hp} {p:Option Addr} {l:Nat} {us:Bt} (v:VwB h p l us) (k:Ext h h'):VwB h' p l us :=
 ⟨v.len,fun i hi=>by
  obtain ⟨a,ha,hc⟩:=v.cells i hi
  exact ⟨a,ha,cellsAt_keep k (by simp) _ _ hc⟩⟩
theorem bytesBack {P:Program} {h:Hp} (a:Addr) (l:List UInt8) (cap:Nat) (K:Value→Hp→Prop) (hc:cellsAt h a 0 (l.map byteV)) (hk:K (.string ⟨l.toArray⟩) h):semW P (Conv.bytesToString (.slice (some a) l.length cap)) h K:=by
 unfold Conv.bytesToString
 simp only
 rw [semW_bind']
 refine semW_loadCells (by simp) hc _ ?_
 rw [semW_bind',← Array.forIn_toList]
 have key:∀ (l:List UInt8) (s:ByteArray) (K':ByteArray→Hp→Prop),K' ⟨s.data++l.toArray⟩ h→semW P (forIn (l.map byteV) s fun c r=>match c with
   | .int .u8 n=>(pure (ForInStep.yield (r.push (UInt8.ofNat n.toNat))):Sem (ForInStep ByteArray))
   | _ => stuck "bytesToString: byte expected") h K' := by
  intro l
  induction l with
  | nil =>
   intro s K' hk
   have e:(⟨s.data++([]:List UInt8).toArray⟩:ByteArray)=s:=by simp
   rw [e] at hk
   exact hk
  | cons c l ih =>
   intro s K' hk
   rw [List.map_cons,List.forIn_cons]
   rw [semW_bind']
   show semW P (forIn (List.map byteV l) (s.push (UInt8.ofNat ((c.toNat:Nat):Int).toNat)) _) h K'
   have e1:UInt8.ofNat ((c.toNat:Nat):Int).toNat=c:=by simp
   rw [e1]
   refine ih (s.push c) K' ?_
   have:(⟨(s.push c).data++l.toArray⟩:ByteArray)=⟨s.data++(c::l).toArray⟩:=by
    congr 1
    apply Array.toList_inj.1
    simp
   rw [this]; exact hk
 refine key l ByteArray.empty _ ?_
 have e:(⟨ByteArray.empty.data++l.toArray⟩:ByteArray)=⟨l.toArray⟩:=by
  congr 1
  apply Array.toList_inj.1
  simp
 rw [e]
 exact hk
theorem VwB.from {h:Hp} {a:Addr} {l:Nat} {us:Bt} (v:VwB h (some a) l us):∀ (n i:Nat),i+n≤us.length→cellsAt h (a.add (i*1)) 0 (((us.drop i).take n).map byteV):=by
 have key:∀ (n i k:Nat),i+k+n≤us.length→cellsAt h (a.add (i*1)) k (((us.drop (i+k)).take n).map byteV):=by
  intro n
  induction n with
  | zero=>intro i k _; trivial
  | succ n ih =>
   intro i k hk
   rw [List.drop_eq_getElem_cons (by omega),List.take_succ_cons,List.map_cons]
   obtain ⟨b,hb,hc⟩:=v.cells (i+k) (by omega)
   cases hb
   refine ⟨?_,?_⟩
   ·have:=hc.1
    rw [show (a.add ((i+k)*1)).add 0=(a.add (i*1)).add k by rw [Go.Sx.add_add,Go.Sx.add_add]; congr 1; omega] at this
    exact this
   ·have:=ih i (k+1) (by omega)
    rw [← Nat.add_assoc] at this
    exact this
 intro n i hi
 exact key n i 0 (by omega)
abbrev St:=Except (Nat × Nat) Bt
def noAt (h:Hp) (g gm:Nat) (full:Bt) (at_:Nat) (no:Option Addr):St→Prop
 | .ok r=>no=none∧full.drop at_=r
 | .error e=>e.1≤full.length∧∃ a,no=some ⟨a,0,none⟩∧Box h a 63 [.int .i64 ((full.length-e.1:Nat):Int),.int .i64 (e.2:Nat)]∧a≠g∧a≠gm
theorem noAt.keep {ws:List Nat} {h h':Hp} {g gm:Nat} {full:Bt} {at_:Nat} {no:Option Addr} {st:St} (n:noAt h g gm full at_ no st) (k:Ch ws h h') (hw:∀ i,i∈ws→i<h.size→i=g∨i=gm):noAt h' g gm full at_ no st:=by
 cases st with
 | ok r=>exact n
 | error e =>
  obtain ⟨h1,a,h2,h3,h4,h5⟩:=n
  exact ⟨h1,a,h2,h3.keep k (fun hi=>(hw a hi h3.lt).elim (fun e=>h4 e) (fun e=>h5 e)),h4,h5⟩
def Stp {α:Type} (f:Bt→Rd α) (st:St) (x:α) (st':St):Prop :=
 match st with
 | .error e=>st'=.error e
 | .ok r=>match f r with
  | .ok q=>x=q.1∧st'=.ok q.2
  | .error e=>st'=.error e
theorem Stp.off {α:Type} (f:Bt→Rd α) (e:Nat × Nat) (x:α):Stp f (.error e) x (.error e):=rfl
theorem Stp.and {α β:Type} {f:Bt→Rd α} {k:α→Bt→Rd β} {st st1 st2:St} {x:α} {y:β} (h1:Stp f st x st1) (h2:Stp (k x) st1 y st2):Stp (fun r=>andR (f r) k) st y st2:=by
 cases st with
 | error e =>
  have h1:st1=.error e:=h1
  rw [h1] at h2
  exact h2
 | ok r =>
  unfold Stp at h1 ⊢
  simp only at h1 ⊢
  cases hf:f r with
  | error e =>
   rw [hf] at h1
   have h1:st1=.error e:=h1
   rw [h1] at h2
   exact h2
  | ok q =>
   rw [hf] at h1
   obtain ⟨rfl,h1⟩:=h1
   rw [h1] at h2
   exact h2
theorem Stp.ret {α:Type} (x:α) (st:St):Stp (fun r=>.ok (x,r)) st x st:=by
 cases st with
 | error e=>rfl
 | ok r=>exact ⟨rfl,rfl⟩
def refS (full:Bt) (at_ why:Nat):St→St
 | .ok _=>.error (full.length-at_,why)
 | .error e=>.error e
theorem Stp.terms {n:Nat} {st st1 st2 st3:St} {s:ByteArray} {c:Nat} {ts:Tms} (h1:Stp textR st s st1) (h2:Stp (numR 4) st1 c st2) (h3:Stp (termsR n) st2 ts st3):Stp (termsR (n+1)) st ((s,c)::ts) st3 :=
 Stp.and (f:=textR) h1 (Stp.and (f:=numR 4) h2 (Stp.and (f:=termsR n) h3 (Stp.ret _ _)))
structure LinRd (x:Lin):Prop where
 many:x.terms.length≤65535
 terms:∀ u,u∈x.terms→u.1.size<65536∧u.2<4294967296
 num:x.num<4294967296
structure ItmRd (x:Itm):Prop where
 lin:LinRd x.e
 name:x.name.size<65536
 op:Sm x.inst.op
theorem LinRd.zero:LinRd lin0:=⟨by decide,by simp [lin0],by decide⟩
theorem LinRd.at {h:Hp} {b:Nat} {e:TypeId} {p:Option Addr} {l c:Nat} {x:Lin} (r:LinRd x) (s:SL h b e 2 p l c (x.terms.map encT)):LinAt h p l x :=
 ⟨Sx.SL.vwT s,by have:=r.many; omega,fun t ht=>by have:=(r.terms t ht).1; unfold maxLen; omega⟩
theorem ItmRd.at {h:Hp} {b:Nat} {e:TypeId} {p:Option Addr} {l c:Nat} {x:Itm} (r:ItmRd x) (s:SL h b e 2 p l c (x.e.terms.map encT)):ItmAt h p l x :=
 ⟨r.lin.at s,by have:=r.name; unfold maxLen; omega,r.op⟩
def iz:List Value:=[.int .i64 (0:Int),.string ⟨#[]⟩,.int .i64 (0:Int),.int .i64 (0:Int),.int .i64 (0:Int),.int .i32 (0:Int),.int .i64 (0:Int),.slice none 0 0,.int .u32 (0:Int),.int .i64 (0:Int)]
structure Ls {α:Type} (e:TypeId) (sz:Nat) (enc:Sli→α→List Value) (tm:α→Tms) (ok:α→Prop) (h:Hp) (b:Nat) (p:Option Addr) (l c:Nat) (us:List (Sli × α)):Prop where
 sl:SL h b e sz p l c (us.map fun u=>enc u.1 u.2)
 own:∀ u,u∈us→SL h b 109 2 u.1.p u.1.l u.1.c ((tm u.2).map encT)
 ok:∀ u,u∈us→ok u.2
section
variable {α:Type} {e:TypeId} {sz:Nat} {enc:Sli→α→List Value} {tm:α→Tms} {ok:α→Prop} {h h':Hp} {b b':Nat} {p:Option Addr} {l c:Nat} {us:List (Sli × α)}
theorem Ls.nil (h:Hp) (b:Nat):Ls e sz enc tm ok h b none 0 0 []:=⟨SL.nil _ _ _ _,by simp,by simp⟩
theorem SL.keepN {ws:List Nat} {h h':Hp} {b:Nat} {e:TypeId} {sz:Nat} {p:Option Addr} {l c:Nat} {xs:List (List Value)} (s:SL h b e sz p l c xs) (k:Ch ws h h') (hw:∀ i,i∈ws→i<h.size→i<b):SL h' b e sz p l c xs :=
 Sx.SL.keep' s k (fun i hi hm=>by have:=Sx.SL.blk s hi; have:=hw i hm this.2; omega)
theorem Ls.keep {ws:List Nat} (s:Ls e sz enc tm ok h b p l c us) (k:Ch ws h h') (hw:∀ i,i∈ws→i<h.size→i<b):Ls e sz enc tm ok h' b p l c us :=
 ⟨SL.keepN s.sl k hw,fun u hu=>SL.keepN (s.own u hu) k hw,s.ok⟩
theorem Ls.mono (s:Ls e sz enc tm ok h b p l c us) (hb:b'≤b):Ls e sz enc tm ok h b' p l c us :=
 ⟨Sx.SL.mono s.sl hb,fun u hu=>Sx.SL.mono (s.own u hu) hb,s.ok⟩
theorem Ls.len (s:Ls e sz enc tm ok h b p l c us):l=us.length:=by rw [s.sl.1,List.length_map]
end
theorem Stp.many {α:Type} {most:Option Nat} {f:Nat→Bt→Rd α} {full:Bt} {fr:Nat} {st st1:St} {n:Nat} (p:Stp (numR 2) st n st1) (ho:over most n=true) (hat:∀ r,st=.ok r→full.length-fr=r.length) (x:α):Stp (cntR most f) st x (refS full fr 4 st1):=by
 cases st with
 | error e =>
  have p:st1=.error e:=p
  rw [p]
  rfl
 | ok r =>
  unfold Stp at p ⊢
  simp only at p ⊢
  unfold cntR
  cases hf:numR 2 r with
  | error e =>
   rw [hf] at p
   have p:st1=.error e:=p
   rw [p]
   rfl
  | ok q =>
   rw [hf] at p
   obtain ⟨rfl,p⟩:=p
   obtain ⟨q1,q2⟩:=q
   rw [andR_okk,if_pos (show over most q1=true from ho),p]
   show refS full fr 4 (.ok q2)=.error (r.length,4)
   unfold refS
   simp only
   rw [hat r rfl]
abbrev ptr (g:Nat):Value:=.pointer (some ⟨g,0,none⟩)
theorem und28:Tryz.prog.underlying 25=some (.slice 9):=by kernel_rfl
theorem itmZ:(Tryz.prog.info? 96).map (fun i=>(i.zero,i.size,i.bytes))=some (some (.agg iz.toArray),10,104):=by kernel_rfl
theorem strZ:(Tryz.prog.info? 9).map (fun i=>(i.zero,i.size,i.bytes))=some (some (.string ⟨#[]⟩),1,16):=by kernel_rfl
section
variable {h0 h:Hp} {g gm:Nat} {bp:Option Addr} {bl bc:Nat} {full:Bt} {st:St} {D:List ByteArray}
abbrev LsI:=Ls 96 10 (fun s x=>encI s.p s.l s.c x) (fun x=>x.e.terms) ItmRd
abbrev LsE:=Ls 99 3 (fun s (x:Eqn)=>encE s.p s.l s.c x) (fun x=>x.2.terms) (fun x=>LinRd x.2∧x.1.size<65536)
abbrev LsS:=Ls 9 1 (fun _ (x:ByteArray)=>[.string x]) (fun _=>[]) (fun x=>x.size<65536)
end
def Apt (a b:Sli):Prop:=∀ i,i∈blkOf a.p→i∉blkOf b.p
theorem Apt.zero:Apt ⟨none,0,0⟩ ⟨none,0,0⟩:=fun i hi=>by simp [blkOf] at hi
structure UntOwn (h:Hp) (b0:Nat) (a b c d:Sli) (u:Unt):Prop where
 text:∃ us,us.map (·.2)=u.text∧us.length≤65535∧LsI h b0 a.p a.l a.c us
 data:∃ us,us.map (·.2)=u.data∧us.length≤65535∧LsI h b0 b.p b.l b.c us
 equs:∃ us,us.map (·.2)=u.equs∧us.length≤65535∧LsE h b0 c.p c.l c.c us
 globs:∃ us,us.map (·.2)=u.globs∧us.length≤65535∧LsS h b0 d.p d.l d.c us
def sl0:Sli:=⟨none,0,0⟩
theorem UntOwn.zero (h:Hp) (b0:Nat):UntOwn h b0 sl0 sl0 sl0 sl0 unt0 :=
 ⟨⟨[],rfl,by simp,Ls.nil _ _⟩,⟨[],rfl,by simp,Ls.nil _ _⟩,⟨[],rfl,by simp,Ls.nil _ _⟩,⟨[],rfl,by simp,Ls.nil _ _⟩⟩
theorem UntOwn.keep {ws:List Nat} {h h':Hp} {b0:Nat} {a b c d:Sli} {u:Unt} (o:UntOwn h b0 a b c d u) (k:Ch ws h h') (hw:∀ i,i∈ws→i<h.size→i<b0):UntOwn h' b0 a b c d u:=by
 obtain ⟨⟨u1,a1,c1,d1⟩,⟨u2,a2,c2,d2⟩,⟨u3,a3,c3,d3⟩,⟨u4,a4,c4,d4⟩⟩:=o
 exact ⟨⟨u1,a1,c1,d1.keep k hw⟩,⟨u2,a2,c2,d2.keep k hw⟩,⟨u3,a3,c3,d3.keep k hw⟩,⟨u4,a4,c4,d4.keep k hw⟩⟩
theorem UntOwn.mono {h:Hp} {b0 b1:Nat} {a b c d:Sli} {u:Unt} (o:UntOwn h b0 a b c d u) (hb:b1≤b0):UntOwn h b1 a b c d u:=by
 obtain ⟨⟨u1,a1,c1,d1⟩,⟨u2,a2,c2,d2⟩,⟨u3,a3,c3,d3⟩,⟨u4,a4,c4,d4⟩⟩:=o
 exact ⟨⟨u1,a1,c1,d1.mono hb⟩,⟨u2,a2,c2,d2.mono hb⟩,⟨u3,a3,c3,d3.mono hb⟩,⟨u4,a4,c4,d4.mono hb⟩⟩
theorem SL.at_ {h:Hp} {b:Nat} {e:TypeId} {sz:Nat} {p:Option Addr} {l c:Nat} {xs:List (List Value)} (s:SL h b e sz p l c xs) {i:Nat} (hi:i<xs.length):∃ a,p=some a∧cellsAt h (a.add (i*sz)) 0 xs[i]:=Sx.SL.cells s hi
theorem LsI.at {h:Hp} {b:Nat} {p:Option Addr} {l c:Nat} {us:List (Sli × Itm)} (s:LsI h b p l c us) (hn:us.length≤65535):VwI h p l (us.map (·.2)):=by
 refine ⟨by rw [s.len,List.length_map],by rw [List.length_map]; omega,fun i hi=>?_⟩
 rw [List.length_map] at hi
 obtain ⟨a,ha,hc⟩:=SL.at_ s.sl (i:=i) (by rw [List.length_map]; exact hi)
 rw [List.getElem_map] at hc ⊢
 exact ⟨a,_,_,_,ha,hc,(s.ok _ (List.getElem_mem hi)).at (s.own _ (List.getElem_mem hi))⟩
theorem LsE.at {h:Hp} {b:Nat} {p:Option Addr} {l c:Nat} {us:List (Sli × Eqn)} (s:LsE h b p l c us) (hn:us.length≤65535):VwE h p l (us.map (·.2)):=by
 refine ⟨by rw [s.len,List.length_map],by rw [List.length_map]; omega,fun i hi=>?_⟩
 rw [List.length_map] at hi
 obtain ⟨a,ha,hc⟩:=SL.at_ s.sl (i:=i) (by rw [List.length_map]; exact hi)
 rw [List.getElem_map] at hc ⊢
 have ok:=s.ok _ (List.getElem_mem hi)
 exact ⟨a,_,_,_,ha,hc,ok.1.at (s.own _ (List.getElem_mem hi)),by have:=ok.2; unfold maxLen; omega⟩
theorem LsS.at {h:Hp} {b:Nat} {p:Option Addr} {l c:Nat} {us:List (Sli × ByteArray)} (s:LsS h b p l c us) (hn:us.length≤65535):VwS h p l (us.map (·.2)):=by
 refine ⟨by rw [s.len,List.length_map],by rw [List.length_map]; omega,fun i hi=>?_⟩
 rw [List.length_map] at hi
 obtain ⟨a,ha,hc⟩:=SL.at_ s.sl (i:=i) (by rw [List.length_map]; exact hi)
 rw [List.getElem_map] at hc ⊢
 have ok:=s.ok _ (List.getElem_mem hi)
 exact ⟨a,ha,hc,by unfold maxLen; omega⟩
theorem UntOwn.at {h:Hp} {b0:Nat} {a b c d:Sli} {u:Unt} (o:UntOwn h b0 a b c d u):UntAt h a b c d u:=by
 obtain ⟨⟨u1,a1,c1,d1⟩,⟨u2,a2,c2,d2⟩,⟨u3,a3,c3,d3⟩,⟨u4,a4,c4,d4⟩⟩:=o
 exact ⟨by rw [← a1]; exact LsI.at d1 c1,by rw [← a2]; exact LsI.at d2 c2,by rw [← a3]; exact LsE.at d3 c3,by rw [← a4]; exact LsS.at d4 c4⟩
def zU:List Value:=[.slice none 0 0,.slice none 0 0,.slice none 0 0,.slice none 0 0]
theorem eqN_t {a b:Nat} (h:(((a:Nat):Int)==((b:Nat):Int))=true):a=b:=by
 have:=eq_of_beq h
 omega
theorem eqN_f {a b:Nat} (h:(((a:Nat):Int)==((b:Nat):Int))=false):¬ a=b:=by
 rintro rfl
 simp at h
def ErrAt (h:Hp) (w:Value) (e:Option (Nat × Nat)):Prop :=
 match e with
 | none=>w=.nilIface
 | some e=>∃ a,w=.iface 59 (ptr a)∧Box h a 63 [.int .i64 (e.1:Nat),.int .i64 (e.2:Nat)]
theorem itm_ext {x y:Itm} (r1:x.kind=y.kind) (r2:x.name=y.name) (r3:x.inst=y.inst) (r4:x.e=y.e) (r5:x.n=y.n):x=y:=by
 cases x
 cases y
 simp_all
theorem unt_ext {x y:Unt} (r1:x.text=y.text) (r2:x.data=y.data) (r3:x.equs=y.equs) (r4:x.globs=y.globs):x=y:=by
 cases x
 cases y
 simp_all
theorem cond_sw {L:Lp} {K:Value→Hp→Prop} {h:Hp} {b:Bool} {t u:T} (hu:b=false→u L K h) (ht:b=true→t L K h):(cond b t u) L K h:=cond_mk ht hu
def sameT (l0 l1:Nat) (body:Int→T→T):T :=
 cond ((l0:Int) != (l1:Int))
 (T.ret (.bool false))
 (T.loop [(false,[.bool]),(false,[.int .i64])] [.bool false,.int .i64 (0:Int)] <| fun (b2:Bool) (n3:Int) =>
 cond (decide (n3<(l0:Int)))
  (body n3 (T.again 0 [.bool b2,.int .i64 (IntKind.wrap .i64 (n3+(1:Int)))]))
  (T.ret (.bool true)))
theorem getE {α:Type} {xs ys:List α} (e:xs=ys) {i:Nat} (h1:i<xs.length) (h2:i<ys.length):xs[i]=ys[i]:=by
 subst e
 rfl
theorem cellsAt_add {h:Hp} {a:Addr}:∀ (vs:List Value) (o i:Nat),cellsAt h a (o+i) vs→cellsAt h (a.add o) i vs
 | [],_,_,_=>trivial
 | v::vs,o,i,hc=>⟨by rw [add_add]; exact hc.1,cellsAt_add vs o (i+1) hc.2⟩
def Eqw {α:Type} (x y:α) (h:Hp) (w:Value) (h':Hp):Prop:=∃ b:Bool,w=.bool b∧(b=true↔x=y)∧Ext h h'
theorem sameT_of {α:Type} {xs ys:List α} {l0 l1:Nat} (h0:l0=xs.length) (h1:l1=ys.length) (hm:xs.length≤2^60) {body:Int→T→T} {h:Hp}
  (hb:∀ (L:Lp) (h':Hp) (i:Nat) (hi:i<xs.length) (hj:i<ys.length) (k:T),Ext h h'→(xs[i]=ys[i]→∀ h'',Ext h h''→k L (Eqw xs ys h) h'')→(xs[i]≠ys[i]→∀ h'',Ext h h''→Eqw xs ys h (.bool false) h'')→body (i:Int) k L (Eqw xs ys h) h') :
  sameT l0 l1 body [] (Eqw xs ys h) h:=by
 subst h0 h1
 unfold sameT
 refine cond_mk (fun q=>?_) (fun q=>?_)
 ·refine ⟨false,rfl,⟨fun h=>(by cases h),fun e=>?_⟩,Ch.refl _ _⟩
  rw [e] at q
  simp at q
 have q:xs.length=ys.length:=by
  have:(((xs.length:Nat):Int)==((ys.length:Nat):Int))=true:=by
   simpa using q
  exact eqN_t this
 refine loop_of (cs:=[(false,[.bool]),(false,[.int .i64])]) (fun y m h'=>∃ i:Nat,y.1=false∧y.2.1=(i:Int)∧m=xs.length-i∧i≤xs.length∧Ext h h'∧∀ j,(hj:j<i)→(h1:j<xs.length)→(h2:j<ys.length)→xs[j]=ys[j]) (false,(0:Int),()) xs.length rfl
  ⟨0,rfl,rfl,rfl,by omega,Ch.refl _ _,fun j hj=>by omega⟩ ?_
 rintro ⟨b2,n3,⟨⟩⟩ m h1 ⟨i,hy1,hy2,rfl,hi,e1,hj⟩
 simp only at hy1 hy2
 subst hy1 hy2
 dsimp only [flat,unc,unc1,nA,cA]
 refine cond_mk (fun r=>?_) (fun r=>?_)
 ·have r:=of_decide_eq_true r
  refine hb _ h1 i (by omega) (by omega) _ e1 (fun he h2 e2=>?_) (fun hne h2 e2=>?_)
  ·rw [wrap_i64 (by omega) (by omega)]
   refine again_mk (cs:=[(false,[.bool]),(false,[.int .i64])]) (false,((i+1:Nat):Int),()) (xs.length-(i+1)) rfl (by omega) rfl ?_
   refine ⟨i+1,rfl,rfl,rfl,by omega,e2,fun j hj' a b=>?_⟩
   by_cases hji:j<i
   ·exact hj j hji a b
   ·have:j=i:=by omega
    subst this
    exact he
  ·exact ⟨false,rfl,⟨fun h=>(by cases h),fun e=>absurd (getE e (by omega) (by omega)) hne⟩,e2⟩
 ·have r:=of_decide_eq_false r
  refine ⟨true,rfl,⟨fun _=>?_,fun _=>rfl⟩,e1⟩
  exact List.ext_getElem q fun j a b=>hj j (by omega) a b
theorem beqL (s t:ByteArray):(ByteArray.toList s==ByteArray.toList t)=decide (s=t):=by
 rw [ByteArray.toList_eq,ByteArray.toList_eq]
 by_cases h:s=t
 ·rw [decide_eq_true h,h]; simp
 ·rw [decide_eq_false h]
  have:¬ s.data.toList=t.data.toList:=fun e=>h (ba_ext e)
  simpa using this
theorem linB_iff (x y:Lin):linB x y=true↔x=y:=by
 obtain ⟨a,b⟩:=x
 obtain ⟨c,d⟩:=y
 unfold linB
 simp
 exact and_comm
theorem sameStr_hc {h:Hp} {p q:Option Addr} {l c m d:Nat} {xs ys:List ByteArray} (v:VwS h p l xs) (w:VwS h q m ys):HC Tryz.prog 15 #[.slice p l c,.slice q m d] h (Eqw xs ys h):=by
 refine hcr_of (args:=[.slice p l c,.slice q m d]) mixed Tryz.func15 (by kernel_rfl) (t_spandrelbook_Same_string__eq p l c q m d) ?_
 refine sameT_of (body:=fun n3 k=>T.need (((0:Int)≤n3)∧(n3<(l:Int))) <|
  T.osome p <| fun (a4:Addr) =>
  T.loads (a4.add ((Int.toNat n3)*1)) [.string] <| fun (s5:ByteArray) =>
  T.need (((0:Int)≤n3)∧(n3<(m:Int))) <|
  T.osome q <| fun (a6:Addr) =>
  T.loads (a6.add ((Int.toNat n3)*1)) [.string] <| fun (s7:ByteArray) =>
  cond (!((ByteArray.toList s5)==(ByteArray.toList s7)))
  (T.ret (.bool false)) k) v.len w.len v.many ?_
 intro L h' i hi hj k e1 hk hn
 have vl:=v.len
 have wl:=w.len
 obtain ⟨a,rfl,hc,_⟩:=(v.keep e1).cells i hi
 obtain ⟨b,rfl,hd,_⟩:=(w.keep e1).cells i hj
 refine need_of ⟨by omega,by omega⟩ ?_
 refine osome_mk rfl ?_
 refine loads_of (xs[i],()) hc ?_
 dsimp only [flat,unc,unc1,nA,cA]
 refine need_of ⟨by omega,by omega⟩ ?_
 refine osome_mk rfl ?_
 refine loads_of (ys[i],()) hd ?_
 dsimp only [flat,unc,unc1,nA,cA]
 rw [beqL]
 refine cond_mk (fun r=>?_) (fun r=>?_)
 ·exact hn (by simpa using r) h' e1
 ·exact hk (by simpa using r) h' e1
theorem sameEqus_hc {h:Hp} {p q:Option Addr} {l c m d:Nat} {xs ys:List Eqn} (v:VwE h p l xs) (w:VwE h q m ys):HC Tryz.prog 41 #[.slice p l c,.slice q m d] h (Eqw xs ys h):=by
 refine hcr_of (args:=[.slice p l c,.slice q m d]) mixed Tryz.func41 (by kernel_rfl) (t_spandrelkeep_SameEqus_eq p l c q m d) ?_
 refine sameT_of (body:=fun n3 k=>T.need (((0:Int)≤n3)∧(n3<(l:Int))) <|
  T.osome p <| fun (a4:Addr) =>
  T.loads (a4.add ((Int.toNat n3)*3)) [.string] <| fun (s5:ByteArray) =>
  T.need (((0:Int)≤n3)∧(n3<(m:Int))) <|
  T.osome q <| fun (a6:Addr) =>
  T.loads (a6.add ((Int.toNat n3)*3)) [.string] <| fun (s7:ByteArray) =>
  cond (!((ByteArray.toList s5)==(ByteArray.toList s7)))
  (T.ret (.bool false))
  (T.need (((0:Int)≤n3)∧(n3<(l:Int))) <|
  T.osome p <| fun (a8:Addr) =>
  T.loads ((a8.add ((Int.toNat n3)*3)).add 1) [.slice 109,.int .u32] <| fun (p9:Option Addr) (l10:Nat) (l11:Nat) (n12:Int) =>
  T.need (((0:Int)≤n3)∧(n3<(m:Int))) <|
  T.osome q <| fun (a13:Addr) =>
  T.loads ((a13.add ((Int.toNat n3)*3)).add 1) [.slice 109,.int .u32] <| fun (p14:Option Addr) (l15:Nat) (l16:Nat) (n17:Int) =>
  T.call Tryz.prog 75 [.agg #[.slice p9 l10 l11,.int .u32 n12],.agg #[.slice p14 l15 l16,.int .u32 n17]] false [(false,[.bool])] <| fun (b18:Bool) =>
  T.stable [((a6.add ((Int.toNat n3)*3)),[.string s7]),((a4.add ((Int.toNat n3)*3)),[.string s5])] <|
  cond (!b18)
   (T.ret (.bool false)) k)) v.len w.len v.many ?_
 intro L h' i hi hj k e1 hk hn
 have vl:=v.len
 have wl:=w.len
 obtain ⟨a,p1,l1,c1,rfl,hc,va,_⟩:=(v.keep e1).cells i hi
 obtain ⟨b,q1,m1,d1,rfl,hd,wa,_⟩:=(w.keep e1).cells i hj
 refine need_of ⟨by omega,by omega⟩ ?_
 refine osome_mk rfl ?_
 refine loads_of (xs[i].1,()) ⟨hc.1,trivial⟩ ?_
 dsimp only [flat,unc,unc1,nA,cA]
 refine need_of ⟨by omega,by omega⟩ ?_
 refine osome_mk rfl ?_
 refine loads_of (ys[i].1,()) ⟨hd.1,trivial⟩ ?_
 dsimp only [flat,unc,unc1,nA,cA]
 rw [beqL]
 refine cond_mk (fun r=>?_) (fun r=>?_)
 ·have r:¬ xs[i].1=ys[i].1:=by simpa using r
  exact hn (fun e=>r (by rw [e])) h' e1
 have r:xs[i].1=ys[i].1:=by simpa using r
 refine need_of ⟨by omega,by omega⟩ ?_
 refine osome_mk rfl ?_
 refine loads_of ((p1,l1,c1),(xs[i].2.num:Int),()) (cellsAt_add _ 1 0 hc.2) ?_
 dsimp only [flat,unc,unc1,nA,cA]
 refine need_of ⟨by omega,by omega⟩ ?_
 refine osome_mk rfl ?_
 refine loads_of ((q1,m1,d1),(ys[i].2.num:Int),()) (cellsAt_add _ 1 0 hd.2) ?_
 dsimp only [flat,unc,unc1,nA,cA]
 refine call_of (same48_hc (c:=c1) (d:=d1) va.vw wa.vw va.many) ?_
 rintro _ h2 ⟨rfl,e2⟩
 refine ⟨(linB xs[i].2 ys[i].2,()),rfl,?_⟩
 dsimp only [flat,unc,unc1,nA,cA]
 refine ⟨⟨⟨hcell_keep hd.1 e2 (by simp),trivial⟩,⟨hcell_keep hc.1 e2 (by simp),trivial⟩,trivial⟩,?_⟩
 refine cond_mk (fun u=>?_) (fun u=>?_)
 ·have u:linB xs[i].2 ys[i].2=false:=by simpa using u
  refine hn (fun e=>?_) h2 (e1.trans e2)
  rw [(linB_iff _ _).2 (by rw [e])] at u
  cases u
 ·have u:linB xs[i].2 ys[i].2=true:=by simpa using u
  exact hk (Prod.ext r ((linB_iff _ _).1 u)) h2 (e1.trans e2)
theorem cmpInsE (x y:Operand) (i j:Ins) (h:Hp) (K:Value→Hp→Prop) (hk:K (.bool (decide (i=j))) h) :
  semW Tryz.prog (Sx.cmpS (BinOp.eql) 90 x y (.agg (insC i).toArray) (.agg (insC j).toArray)) h K:=by
 refine cmpS_eql ins77 (by kernel_rfl) (by kernel_rfl) (by kernel_rfl) K ?_
 have he:(flds Tryz.prog 90).all (eqF (insC i).toArray (insC j).toArray)=(i.op==j.op && (i.a==j.a && (i.b==j.b && (i.n==j.n && (i.form==j.form && true))))):=by
  rw [← Array.all_toList]
  kernel_rfl
 rw [he,Bool.and_true]
 have:(i.op==j.op && (i.a==j.a && (i.b==j.b && (i.n==j.n && i.form==j.form))))=decide (i=j):=by
  rcases i with ⟨a1,a2,a3,a4,a5⟩
  rcases j with ⟨c1,c2,c3,c4,c5⟩
  simp only [beqD,Ins.mk.injEq]
  by_cases h1:a1=c1 <;> by_cases h2:a2=c2 <;> by_cases h3:a3=c3 <;> by_cases h4:a4=c4 <;> by_cases h5:a5=c5 <;> simp [h1,h2,h3,h4,h5]
 rw [this]
 exact hk
theorem sameItem_hc {h:Hp} {p q:Option Addr} {l c m d:Nat} {x y:Itm} (v:LinAt h p l x.e) (w:LinAt h q m y.e):HC Tryz.prog 61 #[itmV p l c x,itmV q m d y] h (Eqw x y h):=by
 refine hcr_of (args:=[itmV p l c x,itmV q m d y]) mixed Tryz.func61 (by kernel_rfl) (t_spandrelkeep_SameItem_eq x.kind x.name x.inst.op x.inst.a x.inst.b x.inst.n x.inst.form p l c x.e.num x.n y.kind y.name y.inst.op y.inst.a y.inst.b y.inst.n y.inst.form q m d y.e.num y.n) ?_
 unfold t_spandrelkeep_SameItem
 refine newB ?_
 intro h1 b1 e1 z1
 refine newB ?_
 intro h2 b2 e2 z2
 have b1:Box h2 h.size 96 (encI p l c x):=b1.keep e2 (by simp)
 have b2:Box h2 h1.size 96 (encI q m d y):=b2
 have e:=e1.trans e2
 have no:∀ h',Ext h h'→x≠y→Eqw x y h (.bool false) h':=fun h' e hn=>⟨false,rfl,⟨fun h=>(by cases h),fun e=>absurd e hn⟩,e⟩
 simp only [add_box]
 refine loads_box b1 (x.kind,()) rfl ?_
 dsimp only [flat,unc,unc1,nA,cA]
 refine loads_box b2 (y.kind,()) rfl ?_
 dsimp only [flat,unc,unc1,nA,cA]
 refine cond_sw (fun r1=>?_) (fun r1=>?_)
 ·have r1:¬ x.kind=y.kind:=by simpa using r1
  exact no h2 e (fun e=>r1 (by rw [e]))
 have r1:x.kind=y.kind:=by simpa using r1
 refine loads_box b1 (x.name,()) rfl ?_
 dsimp only [flat,unc,unc1,nA,cA]
 refine loads_box b2 (y.name,()) rfl ?_
 dsimp only [flat,unc,unc1,nA,cA]
 rw [beqL]
 refine cond_sw (fun r2=>?_) (fun r2=>?_)
 ·have r2:¬ x.name=y.name:=by simpa using r2
  exact no h2 e (fun e=>r2 (by rw [e]))
 have r2:x.name=y.name:=by simpa using r2
 refine loads_box b1 (x.inst.op,x.inst.a,x.inst.b,x.inst.n,x.inst.form,()) rfl ?_
 dsimp only [flat,unc,unc1,nA,cA]
 refine loads_box b2 (y.inst.op,y.inst.a,y.inst.b,y.inst.n,y.inst.form,()) rfl ?_
 dsimp only [flat,unc,unc1,nA,cA]
 refine sem_bool (fun K' hK=>cmpInsE _ _ x.inst y.inst h2 K' hK) ?_
 refine cond_sw (fun r3=>?_) (fun r3=>?_)
 ·have r3:¬ x.inst=y.inst:=by simpa using r3
  exact no h2 e (fun e=>r3 (by rw [e]))
 have r3:x.inst=y.inst:=by simpa using r3
 refine loads_box b1 ((p,l,c),(x.e.num:Int),()) rfl ?_
 dsimp only [flat,unc,unc1,nA,cA]
 refine loads_box b2 ((q,m,d),(y.e.num:Int),()) rfl ?_
 dsimp only [flat,unc,unc1,nA,cA]
 refine call_of (same48_hc (c:=c) (d:=d) (v.keep e).vw (w.keep e).vw v.many) ?_
 rintro _ h3 ⟨rfl,e3⟩
 refine ⟨(linB x.e y.e,()),rfl,?_⟩
 dsimp only [flat,unc,unc1,nA,cA]
 refine cond_sw (fun r4=>?_) (fun r4=>?_)
 ·refine no h3 (e.trans e3) (fun e=>?_)
  rw [(linB_iff _ _).2 (by rw [e])] at r4
  cases r4
 have r4:=(linB_iff _ _).1 r4
 refine loads_box (b1.keep e3 (by simp)) (x.n,()) rfl ?_
 dsimp only [flat,unc,unc1,nA,cA]
 refine loads_box (b2.keep e3 (by simp)) (y.n,()) rfl ?_
 refine ⟨x.n==y.n,rfl,⟨fun r5=>?_,fun e=>by rw [e]; simp⟩,e.trans e3⟩
 have r5:x.n=y.n:=by simpa using r5
 exact itm_ext r1 r2 r3 r4 r5
theorem sameItems_hc {h:Hp} {p q:Option Addr} {l c m d:Nat} {xs ys:List Itm} (v:VwI h p l xs) (w:VwI h q m ys):HC Tryz.prog 31 #[.slice p l c,.slice q m d] h (Eqw xs ys h):=by
 refine hcr_of (args:=[.slice p l c,.slice q m d]) mixed Tryz.func31 (by kernel_rfl) (t_spandrelkeep_SameItems_eq p l c q m d) ?_
 refine sameT_of (body:=fun n3 k=>T.need (((0:Int)≤n3)∧(n3<(l:Int))) <|
  T.osome p <| fun (a4:Addr) =>
  T.loads (a4.add ((Int.toNat n3)*10)) [.int .i64,.string,.int .i64,.int .i64,.int .i64,.int .i32,.int .i64,.slice 109,.int .u32,.int .i64] <| fun (n5:Int) (s6:ByteArray) (n7:Int) (n8:Int) (n9:Int) (n10:Int) (n11:Int) (p12:Option Addr) (l13:Nat) (l14:Nat) (n15:Int) (n16:Int) =>
  T.need (((0:Int)≤n3)∧(n3<(m:Int))) <|
  T.osome q <| fun (a17:Addr) =>
  T.loads (a17.add ((Int.toNat n3)*10)) [.int .i64,.string,.int .i64,.int .i64,.int .i64,.int .i32,.int .i64,.slice 109,.int .u32,.int .i64] <| fun (n18:Int) (s19:ByteArray) (n20:Int) (n21:Int) (n22:Int) (n23:Int) (n24:Int) (p25:Option Addr) (l26:Nat) (l27:Nat) (n28:Int) (n29:Int) =>
  T.call Tryz.prog 61 [.agg #[.int .i64 n5,.string s6,.int .i64 n7,.int .i64 n8,.int .i64 n9,.int .i32 n10,.int .i64 n11,.slice p12 l13 l14,.int .u32 n15,.int .i64 n16],.agg #[.int .i64 n18,.string s19,.int .i64 n20,.int .i64 n21,.int .i64 n22,.int .i32 n23,.int .i64 n24,.slice p25 l26 l27,.int .u32 n28,.int .i64 n29]] false [(false,[.bool])] <| fun (b30:Bool) =>
  cond (!b30)
  (T.ret (.bool false)) k) v.len w.len v.many ?_
 intro L h' i hi hj k e1 hk hn
 have vl:=v.len
 have wl:=w.len
 obtain ⟨a,p1,l1,c1,rfl,hc,va⟩:=(v.keep e1).cells i hi
 obtain ⟨b,q1,m1,d1,rfl,hd,wa⟩:=(w.keep e1).cells i hj
 refine need_of ⟨by omega,by omega⟩ ?_
 refine osome_mk rfl ?_
 refine loads_of (xs[i].kind,xs[i].name,xs[i].inst.op,xs[i].inst.a,xs[i].inst.b,xs[i].inst.n,xs[i].inst.form,(p1,l1,c1),(xs[i].e.num:Int),xs[i].n,()) hc ?_
 dsimp only [flat,unc,unc1,nA,cA]
 refine need_of ⟨by omega,by omega⟩ ?_
 refine osome_mk rfl ?_
 refine loads_of (ys[i].kind,ys[i].name,ys[i].inst.op,ys[i].inst.a,ys[i].inst.b,ys[i].inst.n,ys[i].inst.form,(q1,m1,d1),(ys[i].e.num:Int),ys[i].n,()) hd ?_
 dsimp only [flat,unc,unc1,nA,cA]
 refine call_of (sameItem_hc (c:=c1) (d:=d1) va.lin wa.lin) ?_
 rintro _ h2 ⟨b,rfl,hb,e2⟩
 refine ⟨(b,()),rfl,?_⟩
 dsimp only [flat,unc,unc1,nA,cA]
 refine cond_mk (fun u=>?_) (fun u=>?_)
 ·have u:b=false:=by simpa using u
  refine hn (fun e=>?_) h2 (e1.trans e2)
  rw [hb.2 e] at u
  cases u
 ·have u:b=true:=by simpa using u
  exact hk (hb.1 u) h2 (e1.trans e2)
theorem sameUnit_hc {h:Hp} {a b c d a' b' c' d':Sli} {u v:Unt} (x:UntAt h a b c d u) (y:UntAt h a' b' c' d' v):HC Tryz.prog 13 #[untV a b c d,untV a' b' c' d'] h (Eqw u v h):=by
 refine hcr_of (args:=[untV a b c d,untV a' b' c' d']) mixed Tryz.func13 (by kernel_rfl) (t_spandrelkeep_SameUnit_eq a.p a.l a.c b.p b.l b.c c.p c.l c.c d.p d.l d.c a'.p a'.l a'.c b'.p b'.l b'.c c'.p c'.l c'.c d'.p d'.l d'.c) ?_
 unfold t_spandrelkeep_SameUnit
 refine newB ?_
 intro h1 b1 e1 z1
 refine newB ?_
 intro h2 b2 e2 z2
 have b1:Box h2 h.size 27 [a.v,b.v,c.v,d.v]:=b1.keep e2 (by simp)
 have b2:Box h2 h1.size 27 [a'.v,b'.v,c'.v,d'.v]:=b2
 have e:=e1.trans e2
 have no:∀ h',Ext h h'→u≠v→Eqw u v h (.bool false) h':=fun h' e hn=>⟨false,rfl,⟨fun h=>(by cases h),fun e=>absurd e hn⟩,e⟩
 simp only [add_box]
 refine loads_box b1 ((a.p,a.l,a.c),()) rfl ?_
 dsimp only [flat,unc,unc1,nA,cA]
 refine loads_box b2 ((a'.p,a'.l,a'.c),()) rfl ?_
 dsimp only [flat,unc,unc1,nA,cA]
 refine call_of (sameItems_hc (x.text.keep e) (y.text.keep e)) ?_
 rintro _ h3 ⟨r1,rfl,i1,e3⟩
 refine ⟨(r1,()),rfl,?_⟩
 dsimp only [flat,unc,unc1,nA,cA]
 have e:=e.trans e3
 have b1:=b1.keep e3 (by simp)
 have b2:=b2.keep e3 (by simp)
 refine cond_sw (fun q1=>?_) (fun q1=>?_)
 ·refine no _ e (fun e=>?_)
  rw [i1.2 (by rw [e])] at q1
  cases q1
 have i1:=i1.1 q1
 refine loads_box b1 ((b.p,b.l,b.c),()) rfl ?_
 dsimp only [flat,unc,unc1,nA,cA]
 refine loads_box b2 ((b'.p,b'.l,b'.c),()) rfl ?_
 dsimp only [flat,unc,unc1,nA,cA]
 refine call_of (sameItems_hc (x.data.keep e) (y.data.keep e)) ?_
 rintro _ h4 ⟨r2,rfl,i2,e4⟩
 refine ⟨(r2,()),rfl,?_⟩
 dsimp only [flat,unc,unc1,nA,cA]
 have e:=e.trans e4
 have b1:=b1.keep e4 (by simp)
 have b2:=b2.keep e4 (by simp)
 refine cond_sw (fun q2=>?_) (fun q2=>?_)
 ·refine no _ e (fun e=>?_)
  rw [i2.2 (by rw [e])] at q2
  cases q2
 have i2:=i2.1 q2
 refine loads_box b1 ((c.p,c.l,c.c),()) rfl ?_
 dsimp only [flat,unc,unc1,nA,cA]
 refine loads_box b2 ((c'.p,c'.l,c'.c),()) rfl ?_
 dsimp only [flat,unc,unc1,nA,cA]
 refine call_of (sameEqus_hc (x.equs.keep e) (y.equs.keep e)) ?_
 rintro _ h5 ⟨r3,rfl,i3,e5⟩
 refine ⟨(r3,()),rfl,?_⟩
 dsimp only [flat,unc,unc1,nA,cA]
 have e:=e.trans e5
 have b1:=b1.keep e5 (by simp)
 have b2:=b2.keep e5 (by simp)
 refine cond_sw (fun q3=>?_) (fun q3=>?_)
 ·refine no _ e (fun e=>?_)
  rw [i3.2 (by rw [e])] at q3
  cases q3
 have i3:=i3.1 q3
 refine loads_box b1 ((d.p,d.l,d.c),()) rfl ?_
 dsimp only [flat,unc,unc1,nA,cA]
 refine loads_box b2 ((d'.p,d'.l,d'.c),()) rfl ?_
 dsimp only [flat,unc,unc1,nA,cA]
 refine call_of (sameStr_hc (x.globs.keep e) (y.globs.keep e)) ?_
 rintro _ h6 ⟨r4,rfl,i4,e6⟩
 refine ⟨(r4,()),rfl,?_⟩
 refine ⟨r4,rfl,⟨fun q=>?_,fun e=>i4.2 (by rw [e])⟩,e.trans e6⟩
 have i4:=i4.1 q
 exact unt_ext i1 i2 i3 i4
open Go.Proofs Go.Proofs.YtfkjiiapldkoeaaGreatDoor
open Go.ChangeShapes Go.WideShapes Go.ChangeAt Go.WideMaps Go.WideElems Go.RowKit
def flds2 (P:Program) (t:TypeId):Option (List (TypeId × Nat)):=(P.underlying t).bind fun d=>match d with | .struct fs=>some (fs.toList.map fun f=>(f.type,f.offset)) | _=>none
section
variable {H:Type} {enc:TypeId × Value→H} {P:Program} {W:World} {base fuel:Nat} {sp:Nat→Bool} {held:Bool} {t:TypeId} {cs:List Value} {y:DataW H × List MemPlace}
theorem open_struct {l:List (TypeId × Nat)} (hu:flds2 P t=some l) (h:DataW.trod enc P W base sp held fuel t cs=some y) :
  ∃ (xs:List (DataW H × List MemPlace)) (n:Nat),y.1=.agg (xs.map (·.1))∧cs.length=P.cellsOf t∧xs.length=l.length∧∀ (i:Nat) (p:TypeId × Nat),l[i]?=some p→∃ x,xs[i]?=some x∧DataW.trod enc P W base sp held n p.1 ((cs.drop p.2).take (P.cellsOf p.1))=some x:=by
 unfold flds2 at hu
 cases hd:P.underlying t with
 | none=>rw [hd] at hu; cases hu
 | some d =>
  rw [hd] at hu
  simp only [Option.bind_some] at hu
  split at hu
  ·rename_i fs
   simp only [Option.some.injEq] at hu
   obtain ⟨xs,n,_,hy,hl,hlen,hf⟩:=DataW.trod_struct hd h
   refine ⟨xs,n,by rw [hy],hl,by rw [← hu,List.length_map,hlen,Array.length_toList],fun i p hp=>?_⟩
   rw [← hu,List.getElem?_map,Option.map_eq_some_iff] at hp
   obtain ⟨f,hf1,rfl⟩:=hp
   rw [Array.getElem?_toList] at hf1
   have h1:=hf i f hf1
   cases hx:xs[i]? with
   | none =>
    rw [List.getElem?_eq_none_iff] at hx
    have:i<fs.size:=by
     by_cases g:i<fs.size
     ·exact g
     ·rw [Array.getElem?_eq_none (by omega)] at hf1
      cases hf1
    omega
   | some x=>rw [hx] at h1; exact ⟨x,rfl,h1⟩
  ·cases hu
end
theorem calls_of {P:Program} {f:FuncId} {args:Array Value} {W:World} {R:Value→Hp→Prop} (h:HC P f args W.heap R) (he:∀ v h',R v h'→Ext W.heap h'):Calls P f args W fun e w'=>∃ v,e=.returned v∧Below W.heap.size W w'∧R v w'.heap:=by
 refine (h W rfl).mono fun e w' ⟨v,hv,hs,hr⟩=>⟨v,hv,⟨hs.os,hs.tape,hs.output,(he v _ hr).size,fun k hk=>(he v _ hr).same k hk (by simp)⟩,hr⟩
theorem below_same {W W':World} (hB:Below W.heap.size W W') {p:MemPlace} (hp:p.block<W.heap.size):W.sameAt W' p:=by
 cases p with
 | cell b off =>
  show W'.cell? _=W.cell? _
  unfold World.cell?
  rw [hB.block b hp]
 | map b=>exact hB.block b hp
end Go.Sx.Ob
set_option linter.unusedVariables false
set_option maxRecDepth 100000
namespace Go.Proofs
open Go.RowKit Go.Shelf
attribute [local go_sem] Oper.semAt_some
theorem box_below {W W':World} {n B:Nat} {t:TypeId} {v:Value} (h:Boxed W B t v) (hb:Below n W W') (hn:B<n):Boxed W' B t v:=(hb.block B hn).trans h
theorem calls_wide {n f:Nat} {args:Array Value} {W:World} {R:Value→Sx.Hp→Prop} {K:Ending→World→Prop} (h:Sx.HC Tryz.prog f args W.heap R) (he:∀ v h',R v h'→Sx.Ext W.heap h') (hK:∀ v w',Below W.heap.size W w'→R v w'.heap→K (.returned v) w'):Fence.wide.fn f∧CallsIn Fence.wide n Tryz.prog f args W K :=
 ⟨trivial,(callsIn_wide.2 (Sx.Ob.calls_of h he)).mono fun e w' ⟨v,hv,hb,hr⟩=>by subst hv; exact hK v w' hb hr⟩
def Marks (b:Nat) (dl:List Deferred) (w:World):Prop:=∃ Ds:List Nat,dl=Ds.map (fun D=>{ target:=.collected D,args:=#[] })∧Ds.Nodup∧∀ D∈Ds,b≤D∧w.heap[D]?=some (.deferred (some []))
theorem Marks.leaves {F:Fence} {n b:Nat} {P:Program} {fn:Func} {tmps:Array Value} {R:Ending→World→Prop} {dl:List Deferred} {w:World} (h:Marks b dl w) (hK:∀ w':World,Below b w w'→(∀ B:Nat,w.heap[B]?≠some (Obj.deferred (some []))→w'.heap[B]?=w.heap[B]?)→LeavesIn F n P fn tmps R [] .returning w'):LeavesInM F n P fn tmps R dl .returning w:=by
 obtain ⟨Ds,rfl,hn,hD⟩:=h
 induction Ds generalizing w with
 | nil=>exact hK w (Below.refl _ _) (fun _ _=>rfl)
 | cons D Ds ih =>
  obtain ⟨hnD,hn⟩:=List.nodup_cons.1 hn
  obtain ⟨hb,hd⟩:=hD D (List.mem_cons_self ..)
  have hlt:D<w.heap.size:=(Array.getElem?_eq_some_iff.1 hd).1
  have hput:∀ B,B≠D→(w.putObj D (.deferred none)).heap[B]?=w.heap[B]?:=fun B hB=>by
   simp only [World.putObj]
   rw [Array.getElem?_setIfInBounds_ne (Ne.symm hB)]
  refine ⟨by simp,.inl ⟨D,_,rfl,run_takeDeferred hd,ih (fun w' hb' hk'=>hK w' ?_ fun B hB=>?_) hn (fun E hE=>?_)⟩⟩
  ·refine Below.trans (b:=w.putObj D (.deferred none)) ⟨rfl,rfl,rfl,?_,fun k hk=>hput k (by omega)⟩ hb'
   simp [World.putObj]
  ·have hBD:B≠D:=fun e=>hB (by rw [e]; exact hd)
   rw [hk' B (by rw [hput B hBD]; exact hB),hput B hBD]
  ·obtain ⟨h1,h2⟩:=hD E (List.mem_cons_of_mem _ hE)
   exact ⟨h1,(hput E (fun e=>hnD (e▸hE))).trans h2⟩
theorem Marks.below {b:Nat} {dl:List Deferred} {w w':World} (h:Marks b dl w) (hb:Below w.heap.size w w'):Marks b dl w':=by
 obtain ⟨Ds,e,hn,hD⟩:=h
 exact ⟨Ds,e,hn,fun D hd=>⟨(hD D hd).1,(hb.block D ((Array.getElem?_eq_some_iff.1 (hD D hd).2).1)).trans (hD D hd).2⟩⟩
theorem Marks.keeps {b:Nat} {dl:List Deferred} {w w':World} (h:Marks b dl w) (hb:KeepsOthers w w'):Marks b dl w':=by
 obtain ⟨Ds,e,hn,hD⟩:=h
 exact ⟨Ds,e,hn,fun D hd=>⟨(hD D hd).1,hb.same D _ (hD D hd).2 rfl⟩⟩
def SaveFor (n x:Nat) (w w':World):Prop:=w.heap.size≤w'.heap.size∧∀ k,k<n→k≠x→w'.heap[k]?=w.heap[k]?
theorem saveFor_own {β:Type} {n x B:Nat} {w:World} (hB:n≤B) (hn:n≤w.heap.size):OwnFrom B (fun (_:β) W=>SaveFor n x w W):=fun s A C row hs hg hr=>by
 refine ⟨Nat.le_trans hs.1 hg.size,fun k hk hx=>(hg.block k (by have:=hs.1; omega) (fun e=>?_)).trans (hs.2 k hk hx)⟩
 have:=(hr k e.symm).1
 omega
theorem SaveFor.set {n x:Nat} {w w':World} (h:Below n w w') (hn:n≤w.heap.size) (v:Value):SaveFor n x w (w'.setCell ⟨x,0,none⟩ v) :=
 ⟨by simpa using h.size,fun k hk hx=>((grownBy_setCell' w' x v).block k (by have:=h.size; omega) (fun e=>hx (by cases e; rfl))).trans (h.block k hk)⟩
theorem Marks.cons {b D:Nat} {dl:List Deferred} {w:World} (h:Marks b dl w) (hD:b≤D) (hK:w.heap[D]?=some (.deferred (some []))) (hne:∀ E,({ target:=.collected E,args:=#[] }:Deferred)∈dl→E≠D):Marks b ({ target:=.collected D,args:=#[] }::dl) w:=by
 obtain ⟨Ds,rfl,hn,hd⟩:=h
 refine ⟨D::Ds,rfl,List.nodup_cons.2 ⟨fun hm=>hne D (List.mem_map.2 ⟨D,hm,rfl⟩) rfl,hn⟩,fun E hE=>?_⟩
 rcases List.mem_cons.1 hE with rfl | hE
 ·exact ⟨hD,hK⟩
 ·exact hd E hE
theorem cell_lt {w:World} {a:Addr} {v:Value} (h:w.cell? a=some v):a.block<w.heap.size:=by
 unfold World.cell? at h
 split at h
 ·rename_i hg; exact (Array.getElem?_eq_some_iff.1 hg).1
 ·cases h
theorem linesF_len:∀ (f n:Nat) (s:ByteArray),(linesF f n s).length≤f
 | 0,_,_=>by simp [linesF]
 | f+1,n,s=>by
  unfold linesF
  split
  ·simp
  ·have:=linesF_len f (n+1) (cutB s)
   simp; omega
end Go.Proofs
set_option linter.unusedVariables false
set_option linter.unusedSimpArgs false
set_option maxRecDepth 100000
namespace Go.Sx.Ob
open Go.Proofs
structure VwU (h:Hp) (p:Option Addr) (l:Nat) (us:List Unt):Prop where
 len:l=us.length
 many:us.length≤2^60
 cells:∀ i,(hi:i<us.length)→∃ a sa sb sc sd,p=some a∧cellsAt h (a.add (i*4)) 0 [Sli.v sa,Sli.v sb,Sli.v sc,Sli.v sd]∧UntAt h sa sb sc sd us[i]
theorem VwU.keep {h h':Hp} {p:Option Addr} {l:Nat} {us:List Unt} (v:VwU h p l us) (k:Ext h h'):VwU h' p l us :=
 ⟨v.len,v.many,fun i hi=>by
  obtain ⟨a,sa,sb,sc,sd,ha,hc,hv⟩:=v.cells i hi
  exact ⟨a,sa,sb,sc,sd,ha,cellsAt_keep k (by simp) _ _ hc,hv.keep k⟩⟩
def sizeU (u:Unt):Nat:=u.text.length+u.data.length+u.equs.length
def sizes (us:List Unt):Nat:=(us.map sizeU).sum
end Go.Sx.Ob
set_option linter.unusedVariables false
set_option linter.unusedSimpArgs false
set_option maxRecDepth 100000
namespace Go.Sx
open Go.Proofs
end Go.Sx
set_option linter.unusedVariables false
set_option linter.unusedSimpArgs false
set_option maxRecDepth 100000
namespace Go.Sx.Ob
open Go.Proofs
def opsP:Array (Nat × Value):=#[(0,.agg #[.string ⟨#[110,111,112]⟩,.int .u8 (0:Int),.int .i64 (1:Int)]),(1,.agg #[.string ⟨#[104,97,108,116]⟩,.int .u8 (1:Int),.int .i64 (1:Int)]),(2,.agg #[.string ⟨#[114,101,116]⟩,.int .u8 (2:Int),.int .i64 (1:Int)]),(3,.agg #[.string ⟨#[112,114,105,110,116]⟩,.int .u8 (3:Int),.int .i64 (2:Int)]),(4,.agg #[.string ⟨#[105,110]⟩,.int .u8 (4:Int),.int .i64 (2:Int)]),(5,.agg #[.string ⟨#[112,117,115,104]⟩,.int .u8 (5:Int),.int .i64 (2:Int)]),(6,.agg #[.string ⟨#[112,111,112]⟩,.int .u8 (6:Int),.int .i64 (2:Int)]),(7,.agg #[.string ⟨#[106,114]⟩,.int .u8 (7:Int),.int .i64 (2:Int)]),(8,.agg #[.string ⟨#[110,101,103]⟩,.int .u8 (8:Int),.int .i64 (2:Int)]),(9,.agg #[.string ⟨#[110,111,116]⟩,.int .u8 (9:Int),.int .i64 (2:Int)]),(10,.agg #[.string ⟨#[122,116,117,114,110]⟩,.int .u8 (10:Int),.int .i64 (3:Int)]),(11,.agg #[.string ⟨#[122,99,111,110,106]⟩,.int .u8 (11:Int),.int .i64 (3:Int)]),(12,.agg #[.string ⟨#[109,111,118]⟩,.int .u8 (16:Int),.int .i64 (4:Int)]),(13,.agg #[.string ⟨#[97,100,100]⟩,.int .u8 (17:Int),.int .i64 (4:Int)]),(14,.agg #[.string ⟨#[115,117,98]⟩,.int .u8 (18:Int),.int .i64 (4:Int)]),(15,.agg #[.string ⟨#[109,117,108]⟩,.int .u8 (19:Int),.int .i64 (4:Int)]),(16,.agg #[.string ⟨#[100,105,118]⟩,.int .u8 (20:Int),.int .i64 (4:Int)]),(17,.agg #[.string ⟨#[97,110,100]⟩,.int .u8 (21:Int),.int .i64 (4:Int)]),(18,.agg #[.string ⟨#[111,114]⟩,.int .u8 (22:Int),.int .i64 (4:Int)]),(19,.agg #[.string ⟨#[120,111,114]⟩,.int .u8 (23:Int),.int .i64 (4:Int)]),(20,.agg #[.string ⟨#[115,104,108]⟩,.int .u8 (24:Int),.int .i64 (4:Int)]),(21,.agg #[.string ⟨#[115,104,114]⟩,.int .u8 (25:Int),.int .i64 (4:Int)]),(22,.agg #[.string ⟨#[108,116]⟩,.int .u8 (26:Int),.int .i64 (4:Int)]),(23,.agg #[.string ⟨#[101,113]⟩,.int .u8 (27:Int),.int .i64 (4:Int)]),(24,.agg #[.string ⟨#[108,100,98]⟩,.int .u8 (28:Int),.int .i64 (4:Int)]),(25,.agg #[.string ⟨#[108,100,119]⟩,.int .u8 (29:Int),.int .i64 (4:Int)]),(26,.agg #[.string ⟨#[108,100,109]⟩,.int .u8 (30:Int),.int .i64 (4:Int)]),(27,.agg #[.string ⟨#[115,116,109]⟩,.int .u8 (31:Int),.int .i64 (4:Int)]),(28,.agg #[.string ⟨#[122,109,111,118]⟩,.int .u8 (32:Int),.int .i64 (5:Int)]),(29,.agg #[.string ⟨#[122,97,100,100]⟩,.int .u8 (33:Int),.int .i64 (5:Int)]),(30,.agg #[.string ⟨#[122,115,117,98]⟩,.int .u8 (34:Int),.int .i64 (5:Int)]),(31,.agg #[.string ⟨#[122,109,117,108]⟩,.int .u8 (35:Int),.int .i64 (5:Int)]),(32,.agg #[.string ⟨#[122,114,101]⟩,.int .u8 (36:Int),.int .i64 (6:Int)]),(33,.agg #[.string ⟨#[122,105,109]⟩,.int .u8 (37:Int),.int .i64 (6:Int)]),(34,.agg #[.string ⟨#[122,115,101,116]⟩,.int .u8 (38:Int),.int .i64 (7:Int)]),(35,.agg #[.string ⟨#[108,105,115]⟩,.int .u8 (48:Int),.int .i64 (8:Int)]),(36,.agg #[.string ⟨#[116,114,97,112]⟩,.int .u8 (49:Int),.int .i64 (9:Int)]),(37,.agg #[.string ⟨#[108,105]⟩,.int .u8 (50:Int),.int .i64 (10:Int)]),(38,.agg #[.string ⟨#[108,100,112]⟩,.int .u8 (51:Int),.int .i64 (11:Int)]),(39,.agg #[.string ⟨#[106,109,112]⟩,.int .u8 (64:Int),.int .i64 (12:Int)]),(40,.agg #[.string ⟨#[99,97,108,108]⟩,.int .u8 (67:Int),.int .i64 (12:Int)]),(41,.agg #[.string ⟨#[106,122]⟩,.int .u8 (70:Int),.int .i64 (13:Int)]),(42,.agg #[.string ⟨#[106,110,122]⟩,.int .u8 (73:Int),.int .i64 (13:Int)])]
def opsN (k:Nat):ByteArray:=match opsP[k]? with | some (_,.agg #[.string s,_,_])=>s | _=>⟨#[]⟩
def opsB (k:Nat):Int:=match opsP[k]? with | some (_,.agg #[_,.int _ b,_])=>b | _=>0
structure Thg where
 kind:Nat
 items:List Itm
 name:ByteArray
 e:Lin
 sec:Nat
def thg0:Thg:=⟨0,[],nam0,lin0,0⟩
def regA (z:Bool):List Tok→Except Nat Int
 | [t]=>if t.kind=1∧(regL t.text.data.toList).2.2=true∧(regL t.text.data.toList).2.1=z then .ok (regL t.text.data.toList).1 else .error 20
 | _=>.error 20
def numA (lo hi:Int) (ts:List Tok):Except Nat Int :=
 match parseX ts with
 | .error e=>.error e
 | .ok x=>if x.terms≠[]∨s32 x.num<lo∨hi<s32 x.num then .error 21 else .ok (s32 x.num)
def namA:List Tok→Except Nat ByteArray
 | [t]=>if t.kind=1∧legalL t.text.data.toList=true then .ok t.text else .error 20
 | _=>.error 20
inductive Rdr where
 | reg (z second third:Bool)
 | con (lo hi:Int)
 | val (pool:Bool)
def rdrs (s:Nat):List Rdr :=
 if s=1 then []
 else if s=2 then [.reg false false false]
 else if s=3 then [.reg true false false]
 else if s=4 then [.reg false false false,.reg false true false]
 else if s=5 then [.reg true false false,.reg true true false]
 else if s=6 then [.reg false false false,.reg true true false]
 else if s=7 then [.reg true false false,.reg false true false,.reg false false true]
 else if s=8 then [.reg false false false,.con (-128) 127]
 else if s=9 then [.con 0 255]
 else if s=11 then [.reg false false false,.val true]
 else if s=12 then [.val false]
 else [.reg false false false,.val false]
def putN (x:Itm) (n:Int):Itm:={ x with inst:={ x.inst with n:=n } }
def putA (x:Itm) (n:Int):Itm:={ x with inst:={ x.inst with a:=n } }
def putB (x:Itm) (n:Int):Itm:={ x with inst:={ x.inst with b:=n } }
def putE (x:Itm) (e:Lin):Itm:={ x with e:=e }
def valA (pool:Bool) (ts:List Tok):Except Nat Lin :=
 match pool with
 | false=>parseX ts
 | true=>match ts with
  | []=>.error 20
  | t::r=>if isS t 61=true then parseX r else .error 20
def argA (x:Itm) (r:Rdr) (ts:List Tok):Except Nat Itm :=
 match r with
 | .reg z second third=>match regA z ts with
  | .error e=>.error e
  | .ok n=>.ok (if third then putN x n else if second then putB x n else putA x n)
 | .con lo hi=>match numA lo hi ts with
  | .error e=>.error e
  | .ok n=>.ok (putN x n)
 | .val pool=>match valA pool ts with
  | .error e=>.error e
  | .ok y=>.ok (putE x y)
def codeL:Itm→List Rdr→List (List Tok)→Except Nat Itm
 | x,r::rs,t::ts=>match argA x r t with
  | .error e=>.error e
  | .ok y=>codeL y rs ts
 | x,_,_=>.ok x
def code0 (op:Int):Itm:={ itm 2 with inst:={ ins0 with op:=op } }
def codeA (op:Int) (args:List (List Tok)):Except Nat Itm :=
 if (rdrs (shp op)).length≠args.length then .error 20 else codeL (code0 op) (rdrs (shp op)) args
def itemA (k:Nat) (ts:List Tok):Except Nat Itm :=
 if k=5 then match numA (-128) 255 ts with
  | .error e=>.error e
  | .ok n=>.ok { itm 5 with n:=n }
 else match parseX ts with
  | .error e=>.error e
  | .ok x=>.ok { itm k with e:=x }
def itemsA (k:Nat):List (List Tok)→Except Nat (List Itm)
 | []=>.ok []
 | t::ts=>match itemA k t with
  | .error e=>.error e
  | .ok x=>match itemsA k ts with
   | .error e=>.error e
   | .ok l=>.ok (x::l)
def cntA (op:ByteArray):Int :=
 let o:=op.data.toList
 if o=[112,111,111,108] then 0
 else if o=[97,108,105,103,110]∨o=[115,112,97,99,101]∨o=[103,108,111,98,97,108]∨o=[115,101,99,116,105,111,110] then 1
 else if o=[101,113,117] then 2
 else if o=[98,121,116,101]∨o=[119,111,114,100] then -1
 else -2
def oneT (x:Itm):Thg:={ thg0 with kind:=1,items:=[x] }
def ag (args:List (List Tok)) (i:Nat):List Tok:=args.getD i []
def dirA (op:ByteArray) (args:List (List Tok)):Except Nat (Thg × Nat) :=
 let o:=op.data.toList
 if cntA op=-2∨(0≤cntA op∧(args.length:Int)≠cntA op) then .error 20
 else if o=[112,111,111,108] then .ok (oneT (itm 4),0)
 else if o=[97,108,105,103,110] then match numA 1 256 (ag args 0) with
  | .error e=>.error e
  | .ok n=>if pow2 n then .ok (oneT { itm 3 with n:=n },2) else .error 21
 else if o=[115,112,97,99,101] then match numA 0 1048576 (ag args 0) with
  | .error e=>.error e
  | .ok n=>.ok (oneT { itm 7 with n:=n },1)
 else if o=[98,121,116,101] then if args=[] then .error 20 else match itemsA 5 args with
  | .error e=>.error e
  | .ok l=>.ok ({ thg0 with kind:=2,items:=l },1)
 else if o=[119,111,114,100] then if args=[] then .error 20 else match itemsA 6 args with
  | .error e=>.error e
  | .ok l=>.ok ({ thg0 with kind:=2,items:=l },1)
 else if o=[101,113,117] then match namA (ag args 0) with
  | .error e=>.error e
  | .ok s=>match parseX (ag args 1) with
   | .error e=>.error e
   | .ok x=>.ok ({ thg0 with kind:=3,name:=s,e:=x },2)
 else if o=[103,108,111,98,97,108] then match namA (ag args 0) with
  | .error e=>.error e
  | .ok s=>.ok ({ thg0 with kind:=4,name:=s },2)
 else match ag args 0 with
  | [t]=>if t.kind=1∧t.text.data.toList=[116,101,120,116] then .ok ({ thg0 with kind:=5 },2) else if t.kind=1∧t.text.data.toList=[100,97,116,97] then .ok ({ thg0 with kind:=5,sec:=1 },2) else .error 20
  | _=>.error 20
def findL (nm:Nat→List UInt8) (s:List UInt8):Nat→Nat
 | 0=>0
 | k+1=>match findL nm s k with
  | 0=>if nm k=s then k+1 else 0
  | n=>n
def opNm (k:Nat):List UInt8:=(opsN k).data.toList
def findA (op:ByteArray):Nat:=findL opNm op.data.toList 43
def readA (l:Ln) (data:Bool):Except Nat Thg :=
 if l.op=nam0 then .ok thg0
 else if findA l.op≠0 then match codeA (findA l.op) l.args with
  | .error e=>.error e
  | .ok x=>if data then .error 21 else .ok (oneT x)
 else match dirA l.op l.args with
  | .error e=>.error e
  | .ok (t,w)=>if w=2∨w=(if data then 1 else 0) then .ok t else .error 21
/-! What is read is right. -/
theorem regA_le {z:Bool} {ts:List Tok} {n:Int} (h:regA z ts=.ok n):0≤n∧n<(if z then 4 else 8):=by
 unfold regA at h
 split at h
 ·rename_i t
  split at h
  ·rename_i hh
   injection h with h
   subst h
   obtain ⟨_,h2,h3⟩:=hh
   generalize t.text.data.toList=s at h2 h3
   unfold regL at h2 h3 ⊢
   split
   ·rename_i a b
    simp only at h2 h3
    split at h2
    ·rename_i g
     rw [if_pos g] at h3 ⊢
     simp only at h3 ⊢
     rw [← h3]
     simp
     omega
    ·rename_i g
     rw [if_neg g] at h3 ⊢
     split at h2
     ·rename_i g2
      rw [if_pos g2] at h3 ⊢
      simp only at h3 ⊢
      rw [← h3]
      simp
      omega
     ·cases h2
   ·rename_i hno
    exfalso
    split at h2
    ·rename_i a b
     exact hno a b rfl
    ·cases h2
  ·cases h
 ·cases h
theorem numA_le {lo hi n:Int} {ts:List Tok} (h:numA lo hi ts=.ok n):lo≤n∧n≤hi:=by
 unfold numA at h
 split at h
 ·cases h
 ·split at h
  ·cases h
  ·injection h with h
   omega
theorem parseX_good {ts:List Tok} {x:Lin} (hw:Wf ts) (h:parseX ts=.ok x):Good x:=by
 unfold parseX at h
 have:=sumD_fine 32 ts hw
 cases hs:sumD 32 ts with
 | error e=>rw [hs] at h; cases h
 | ok q =>
  rw [hs] at h this
  simp only at h
  split at h
  ·injection h with h
   subst h
   exact this.1
  ·cases h
theorem valA_good {pool:Bool} {ts:List Tok} {x:Lin} (hw:Wf ts) (h:valA pool ts=.ok x):Good x:=by
 unfold valA at h
 split at h
 ·exact parseX_good hw h
 ·split at h
  ·cases h
  ·split at h
   ·exact parseX_good hw.tail h
   ·cases h
theorem len0 {α:Type} {l:List α} (h:0=l.length):l=[]:=List.eq_nil_of_length_eq_zero h.symm
theorem len1 {α:Type} {l:List α} (h:0+1=l.length):∃ a,l=[a]:=by
 match l,h with
 | [a],_=>exact ⟨a,rfl⟩
theorem len2 {α:Type} {l:List α} (h:0+1+1=l.length):∃ a b,l=[a,b]:=by
 match l,h with
 | [a,b],_=>exact ⟨a,b,rfl⟩
theorem len3 {α:Type} {l:List α} (h:0+1+1+1=l.length):∃ a b c,l=[a,b,c]:=by
 match l,h with
 | [a,b,c],_=>exact ⟨a,b,c,rfl⟩
theorem codeA_right {op : Nat} {args : List (List Tok)} {x : Itm} (h1 : 1 ≤ op) (h2 : op ≤ 43) (hw : ∀ a, a ∈ args → Wf a) (h : codeA (op : Int) args = .ok x) : itmR x 0 = true ∧ Good x.e := by
  have hs : ∀ k : Fin 44, 1 ≤ k.1 → 1 ≤ shp (k.1 : Int) ∧ shp (k.1 : Int) ≤ 13 := by decide
  have hs' := hs ⟨op, by omega⟩ h1
  simp only at hs'
  have gz : Good lin0 := Good.z
  have key : ∀ (y : Itm), y.kind = 2 → y.name = nam0 → y.n = 0 → y.inst.op = op → y.inst.form = 0 → Good y.e → regsR (shp op) y.inst.a y.inst.b y.inst.n = true →
      (if wnt op then y.inst.n = 0 else nR (shp op) y.inst.n 0 = true ∧ y.e = lin0) → itmR y 0 = true := by
    intro y k1 k2 k3 k4 k5 k6 k7 k8
    have hz : shp (op : Int) ≠ 0 := by omega
    unfold itmR
    rw [if_neg (by rw [k1]; decide), if_pos k1]
    unfold insR z1 z4
    rw [k4, k2, k3, k5]
    simp only [decide_true, Bool.true_and, Bool.and_true, decide_eq_true hz]
    by_cases hwn : wnt (op : Int) = true
    · rw [if_pos hwn] at k8 ⊢
      rw [good_rt k6, k8]
      simp only [decide_true, Bool.true_and, Bool.and_true]
      refine decide_eq_true ?_
      unfold chkR
      simp only [k4]
      rw [k8] at k7
      rw [if_neg hz, if_neg (by rw [k7]; decide), if_neg]
      unfold spn wnt at *
      unfold nR nReach
      have hw' := of_decide_eq_true hwn
      by_cases g : 12 ≤ shp (op : Int)
      · rw [decide_eq_true g]
        have : shp (op : Int) = 12 ∨ shp (op : Int) = 13 := by omega
        rcases this with e | e <;> rw [e] <;> simp
      · rw [decide_eq_false g]
        have : shp (op : Int) = 10 ∨ shp (op : Int) = 11 := by omega
        rcases this with e | e <;> rw [e] <;> simp
    · rw [if_neg hwn] at k8 ⊢
      rw [k8.2, isZ0, Bool.and_true]
      refine decide_eq_true ?_
      unfold chkR
      rw [k4, if_neg hz, if_neg (by rw [k7]; decide), k5, k8.1]
      simp
  unfold codeA at h
  split at h
  · cases h
  rename_i hlen0
  have hlen : (rdrs (shp op)).length = args.length := by omega
  clear hlen0
  have hc0 : ∀ a b n : Int, ({ (code0 (op : Int)) with inst := ⟨op, a, b, n, 0⟩ } : Itm).kind = 2 := fun _ _ _ => rfl
  have hw' : wnt (op : Int) = decide (10 ≤ shp (op : Int)) := rfl
  generalize shp (op : Int) = s at *
  have : s = 1 ∨ s = 9 ∨ s = 2 ∨ s = 3 ∨ s = 4 ∨ s = 5 ∨ s = 6 ∨ s = 7 ∨ s = 8 ∨ s = 10 ∨ s = 11 ∨ s = 12 ∨ s = 13 := by omega
  rcases this with rfl | rfl | this
  · obtain rfl := len0 hlen
    have h : Except.ok (code0 (op : Int)) = (Except.ok x : Except Nat Itm) := h
    injection h with h
    subst h
    refine ⟨key _ rfl rfl rfl rfl rfl gz (by simp [regsR, code0, itm, ins0]) ?_, gz⟩
    rw [if_neg (by rw [hw']; decide)]
    exact ⟨by simp [nR, code0, itm, ins0], rfl⟩
  · obtain ⟨a, rfl⟩ := len1 hlen
    cases hn : numA 0 255 a with
    | error e =>
      simp [codeL, rdrs, argA, hn] at h
    | ok n =>
      simp [codeL, rdrs, argA, hn] at h
      subst h
      have hn := numA_le hn
      refine ⟨key _ rfl rfl rfl rfl rfl gz (by simp [regsR, putN, code0, itm, ins0]) ?_, gz⟩
      rw [if_neg (by rw [hw']; decide)]
      refine ⟨?_, rfl⟩
      simp [nR, putN, code0, itm, ins0]
      exact ⟨decide_eq_true hn.1, decide_eq_true hn.2⟩
  rcases this with rfl | rfl | rfl | rfl | rfl | rfl | rfl | rfl | rfl | rfl | rfl
  all_goals
    simp only [rdrs, Nat.reduceEqDiff, if_true, if_false, List.length_cons, List.length_nil] at h hlen
    simp only [hw'] at key
    first
    | (obtain rfl := len0 hlen
       · simp only [codeL] at h
         injection h with h
         subst h
         exact ⟨key _ rfl rfl rfl rfl rfl gz (by decide) (by rw [if_neg (by decide)]; exact ⟨by decide, rfl⟩), gz⟩)
    | (obtain ⟨a, rfl⟩ := len1 hlen
       ·
        simp only [codeL, argA] at h
        split at h
        · cases h
        rename_i y hy
        split at hy
        · cases hy
        rename_i n hn
        injection hy with hy
        injection h with h
        subst hy
        subst h
        first
        | (have hn := regA_le hn
           simp at hn
           refine ⟨key _ rfl rfl rfl rfl rfl gz (by simp [regsR, blw, putA, putB, putN, code0, itm, ins0, lin0] <;> omega) (by simp [nR, putA, putB, putN, code0, itm, ins0, lin0] <;> omega), gz⟩)
        | (have hn := numA_le hn
           refine ⟨key _ rfl rfl rfl rfl rfl gz (by simp [regsR, blw, putA, putB, putN, code0, itm, ins0, lin0] <;> omega) (by simp [nR, putA, putB, putN, code0, itm, ins0, lin0] <;> omega), gz⟩)
        | (have hg := valA_good (hw a (by simp)) hn
           exact ⟨key _ rfl rfl rfl rfl rfl hg (by simp [regsR, blw, putA, putB, putN, putE, code0, itm, ins0, lin0] <;> omega) (by simp [putA, putB, putN, putE, code0, itm, ins0, lin0] <;> omega), hg⟩))
    | (obtain ⟨a, b, rfl⟩ := len2 hlen
       ·
        simp only [codeL, argA] at h
        split at h
        · cases h
        rename_i y hy
        split at hy
        · cases hy
        rename_i n hn
        injection hy with hy
        subst hy
        split at h
        · cases h
        rename_i y2 hy2
        split at hy2
        · cases hy2
        rename_i m hm
        injection hy2 with hy2
        subst hy2
        injection h with h
        subst h
        have hn := regA_le hn
        simp at hn
        first
        | (have hm := regA_le hm
           simp at hm
           refine ⟨key _ rfl rfl rfl rfl rfl gz (by simp [regsR, blw, putA, putB, putN, code0, itm, ins0, lin0] <;> omega) (by simp [nR, putA, putB, putN, code0, itm, ins0, lin0] <;> omega), gz⟩)
        | (have hm := numA_le hm
           refine ⟨key _ rfl rfl rfl rfl rfl gz (by simp [regsR, blw, putA, putB, putN, code0, itm, ins0, lin0] <;> omega) (by simp [nR, nReach, putA, putB, putN, code0, itm, ins0, lin0] <;> omega), gz⟩)
        | (have hg := valA_good (hw b (by simp)) hm
           exact ⟨key _ rfl rfl rfl rfl rfl hg (by simp [regsR, blw, putA, putB, putN, putE, code0, itm, ins0, lin0] <;> omega) (by simp [putA, putB, putN, putE, code0, itm, ins0, lin0] <;> omega), hg⟩))
    | (obtain ⟨a, b, c, rfl⟩ := len3 hlen
       ·
        simp only [codeL, argA] at h
        split at h
        · cases h
        rename_i y hy
        split at hy
        · cases hy
        rename_i n hn
        injection hy with hy
        subst hy
        split at h
        · cases h
        rename_i y2 hy2
        split at hy2
        · cases hy2
        rename_i m hm
        injection hy2 with hy2
        subst hy2
        split at h
        · cases h
        rename_i y3 hy3
        split at hy3
        · cases hy3
        rename_i k hk
        injection hy3 with hy3
        subst hy3
        injection h with h
        subst h
        have hn := regA_le hn
        have hm := regA_le hm
        have hk := regA_le hk
        simp at hn hm hk
        refine ⟨key _ rfl rfl rfl rfl rfl gz (by simp [regsR, blw, putA, putB, putN, code0, itm, ins0, lin0] <;> omega) (by simp [nR, putA, putB, putN, code0, itm, ins0, lin0] <;> omega), gz⟩)
theorem itemA_right {k:Nat} (hk:k=5∨k=6) {ts:List Tok} {x:Itm} (hw:Wf ts) (h:itemA k ts=.ok x):itmR x 1=true∧Good x.e:=by
 unfold itemA at h
 rcases hk with rfl | rfl
 ·rw [if_pos rfl] at h
  split at h
  ·cases h
  rename_i n hn
  injection h with h
  subst h
  have hn:=numA_le hn
  refine ⟨?_,Good.z⟩
  simp [itmR,itm,z1,z2,z3,isZ0]
  omega
 ·rw [if_neg (by decide)] at h
  split at h
  ·cases h
  rename_i y hy
  injection h with h
  subst h
  have hg:=parseX_good hw hy
  refine ⟨?_,hg⟩
  simp [itmR,itm,z1,z2,z4,good_rt hg]
theorem itemsA_right {k:Nat} (hk:k=5∨k=6):∀ {args:List (List Tok)} {l:List Itm},(∀ a,a∈args→Wf a)→itemsA k args=.ok l→∀ x,x∈l→itmR x 1=true∧Good x.e
 | [],l,_,h,x,hx=>by
  simp only [itemsA] at h
  injection h with h
  subst h
  simp at hx
 | t::ts,l,hw,h,x,hx=>by
  simp only [itemsA] at h
  split at h
  ·cases h
  rename_i y hy
  split at h
  ·cases h
  rename_i r hr
  injection h with h
  subst h
  rcases List.mem_cons.1 hx with rfl | hx
  ·exact itemA_right hk (hw t (by simp)) hy
  ·exact itemsA_right hk (fun a ha=>hw a (by simp [ha])) hr x hx
structure ThgOk (t:Thg) (data:Bool):Prop where
 items:∀ x,x∈t.items→itmR x (if data then 1 else 0)=true∧Good x.e
 kind:t.kind≤5
 single:t.kind=1↔(t.items.length=1∧t.kind≠2)
 name:t.kind=3∨t.kind=4→legalL t.name.data.toList=true
 e:Good t.e
 sec:t.sec≤1
theorem ThgOk.z (data:Bool):ThgOk thg0 data:=⟨by simp [thg0],by simp [thg0],by simp [thg0],by simp [thg0],Good.z,by simp [thg0]⟩
theorem ThgOk.one1 {x:Itm} {data:Bool} (h:itmR x (if data then 1 else 0)=true) (g:Good x.e):ThgOk (oneT x) data :=
 ⟨by simpa [oneT] using ⟨h,g⟩,by simp [oneT],by simp [oneT],by simp [oneT],Good.z,by simp [oneT,thg0]⟩
theorem namA_legal {ts:List Tok} {s:ByteArray} (h:namA ts=.ok s):legalL s.data.toList=true:=by
 unfold namA at h
 split at h
 ·split at h
  ·rename_i hh
   injection h with h
   subst h
   exact hh.2
  ·cases h
 ·cases h
theorem dirA_right {op:ByteArray} {args:List (List Tok)} {t:Thg} {w:Nat} {data:Bool} (hw:∀ a,a∈args→Wf a) (h:dirA op args=.ok (t,w)) (hd:w=2∨w=(if data then 1 else 0)):ThgOk t data:=by
 have hag:∀ i,Wf (ag args i):=by
  intro i
  unfold ag
  rw [List.getD_eq_getElem?_getD]
  cases hh:args[i]? with
  | none=>exact fun t ht=>by simp at ht
  | some a=>exact hw a (List.mem_of_getElem? hh)
 unfold dirA at h
 simp only at h
 split at h
 ·cases h
 split at h
 ·injection h with h
  injection h with h1 h2
  subst h1 h2
  have hd:data=false:=by cases data <;> simp_all
  subst hd
  exact ThgOk.one1 (by simp [itmR,itm,z1,z2,z3,z4,isZ0]) Good.z
 split at h
 ·split at h
  ·cases h
  rename_i n hn
  split at h
  ·rename_i hp
   injection h with h
   injection h with h1 h2
   subst h1 h2
   exact ThgOk.one1 (by simp [itmR,itm,z1,z2,z3,z4,isZ0,hp]) Good.z
  ·cases h
 split at h
 ·split at h
  ·cases h
  rename_i n hn
  injection h with h
  injection h with h1 h2
  subst h1 h2
  have hd:data=true:=by cases data <;> simp_all
  subst hd
  have hn:=numA_le hn
  exact ThgOk.one1 (by simp [itmR,itm,z1,z2,z3,z4,isZ0]; omega) Good.z
 split at h
 ·split at h
  ·cases h
  split at h
  ·cases h
  rename_i l hl
  injection h with h
  injection h with h1 h2
  subst h1 h2
  have hd:data=true:=by cases data <;> simp_all
  subst hd
  exact ⟨fun x hx=>itemsA_right (.inl rfl) hw hl x hx,by simp,by simp,by simp,Good.z,by simp [thg0]⟩
 split at h
 ·split at h
  ·cases h
  split at h
  ·cases h
  rename_i l hl
  injection h with h
  injection h with h1 h2
  subst h1 h2
  have hd:data=true:=by cases data <;> simp_all
  subst hd
  exact ⟨fun x hx=>itemsA_right (.inr rfl) hw hl x hx,by simp,by simp,by simp,Good.z,by simp [thg0]⟩
 split at h
 ·split at h
  ·cases h
  rename_i s hs
  split at h
  ·cases h
  rename_i x hx
  injection h with h
  injection h with h1 h2
  subst h1 h2
  exact ⟨by simp [thg0],by simp,by simp [thg0],fun _=>namA_legal hs,parseX_good (hag 1) hx,by simp [thg0]⟩
 split at h
 ·split at h
  ·cases h
  rename_i s hs
  injection h with h
  injection h with h1 h2
  subst h1 h2
  exact ⟨by simp [thg0],by simp,by simp [thg0],fun _=>namA_legal hs,Good.z,by simp [thg0]⟩
 split at h
 ·split at h
  ·injection h with h
   injection h with h1 h2
   subst h1 h2
   exact ⟨by simp [thg0],by simp,by simp [thg0],by simp,Good.z,by simp [thg0]⟩
  ·split at h
   ·injection h with h
    injection h with h1 h2
    subst h1 h2
    exact ⟨by simp [thg0],by simp,by simp [thg0],by simp,Good.z,by simp⟩
   ·cases h
 ·cases h
theorem findL_le (nm:Nat→List UInt8) (s:List UInt8):∀ k,findL nm s k≤k
 | 0=>Nat.le_refl _
 | k+1=>by
  unfold findL
  have:=findL_le nm s k
  split
  ·split <;> omega
  ·omega
theorem readA_right {l:Ln} {data:Bool} {t:Thg} (hw:∀ a,a∈l.args→Wf a) (h:readA l data=.ok t):ThgOk t data:=by
 unfold readA at h
 split at h
 ·injection h with h
  subst h
  exact ThgOk.z data
 split at h
 ·rename_i hf
  split at h
  ·cases h
  rename_i x hx
  cases data with
  | true=>cases h
  | false =>
   injection h with h
   subst h
   have:=codeA_right (op:=findA l.op) (by omega) (findL_le _ _ _) hw hx
   exact ThgOk.one1 this.1 this.2
 ·split at h
  ·cases h
  rename_i t' w hd
  by_cases hh:w=2∨w=(if data=true then 1 else 0)
  ·rw [if_pos hh] at h
   injection h with h
   subst h
   exact dirA_right hw hd hh
  ·rw [if_neg hh] at h
   cases h
end Go.Sx.Ob
