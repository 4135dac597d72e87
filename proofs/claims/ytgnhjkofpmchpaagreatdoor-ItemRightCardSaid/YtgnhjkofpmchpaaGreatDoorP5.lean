/- Contracts over heaps, and plain laws, for the functions that the laws of chapter 8 call, part 5: Instructions over heaps. An item that may stand in a section, over heaps. Maps w Condition: as each statement says. -/
import Derived.Test.YtgnhjkofpmchpaaGreatDoorP4
import Derived.Test.YtgnhjkofpmchpaaGreatDoorIobjTa
import Derived.Test.YtgnhjkofpmchpaaGreatDoorIrT
import Derived.Test.YtgnhjkofpmchpaaGreatDoorIrW
import Derived.Test.YtgnhjkofpmchpaaGreatDoorIrX
set_option linter.unusedVariables false
set_option linter.unusedSimpArgs false
set_option maxRecDepth 100000
namespace Go.Sx.Ob
open Go.Proofs
def encI (p:Option Addr) (l c:Nat) (x:Itm):List Value:=[.int .i64 x.kind,.string x.name,.int .i64 x.inst.op,.int .i64 x.inst.a,.int .i64 x.inst.b,.int .i32 x.inst.n,.int .i64 x.inst.form,.slice p l c,.int .u32 x.e.num,.int .i64 x.n]
def itmV (p:Option Addr) (l c:Nat) (x:Itm):Value:=.agg (encI p l c x).toArray
structure LinAt (h:Hp) (p:Option Addr) (l:Nat) (x:Lin):Prop where
 vw:VwT h p l x.terms
 many:x.terms.length≤2^60
 names:∀ t,t∈x.terms→t.1.size≤maxLen
theorem LinAt.keep {h h':Hp} {p:Option Addr} {l:Nat} {x:Lin} (v:LinAt h p l x) (k:Ext h h'):LinAt h' p l x:=⟨v.vw.keep k (by simp),v.many,v.names⟩
theorem VwT.none (h:Hp):VwT h none 0 []:=⟨rfl,fun i hi=>absurd hi (by simp)⟩
theorem LinAt.none (h:Hp) (n:Nat):LinAt h none 0 ⟨[],n⟩:=⟨VwT.none h,by simp,by simp⟩
theorem linB_0 (x:Lin):linB x lin0=isZ x:=by
 unfold linB isZ lin0
 rw [Bool.and_comm]
def insRT (g k:Nat):T :=
 T.loads ⟨g,5,none⟩ [.int .i32] <| fun (n16:Int) =>
 cond (n16==(0:Int))
  (T.loads ⟨k,0,none⟩ [.int .i64,.int .i64,.int .i64,.int .i32,.int .i64] <| fun (n17:Int) (n18:Int) (n19:Int) (n20:Int) (n21:Int) =>
  T.call Tryz.prog 64 [.agg #[.int .i64 n17,.int .i64 n18,.int .i64 n19,.int .i32 n20,.int .i64 n21]] false [(false,[.int .i64])] <| fun (n22:Int) =>
  cond (n22==(0:Int))
  (T.loads ⟨g,7,none⟩ [.slice 50,.int .u32] <| fun (p23:Option Addr) (l24:Nat) (l25:Nat) (n26:Int) =>
  T.call Tryz.prog 37 [.agg #[.slice p23 l24 l25,.int .u32 n26]] false [(false,[.bool])] <| fun (b27:Bool) =>
  T.ret (.bool b27))
  (T.ret (.bool false)))
  (T.ret (.bool false))
def insST (g k:Nat):T :=
 T.loads ⟨k,0,none⟩ [.int .i64,.int .i64,.int .i64,.int .i32,.int .i64] <| fun (n16:Int) (n17:Int) (n18:Int) (n19:Int) (n20:Int) =>
 T.call Tryz.prog 64 [.agg #[.int .i64 n16,.int .i64 n17,.int .i64 n18,.int .i32 n19,.int .i64 n20]] false [(false,[.int .i64])] <| fun (n21:Int) =>
 cond (n21==(0:Int))
  (T.loads ⟨g,7,none⟩ [.slice 50,.int .u32] <| fun (p22:Option Addr) (l23:Nat) (l24:Nat) (n25:Int) =>
  T.call Tryz.prog 38 [.agg #[.slice p22 l23 l24,.int .u32 n25],.agg #[.slice none 0 0,.int .u32 (0:Int)]] false [(false,[.bool])] <| fun (b26:Bool) =>
  T.ret (.bool b26))
  (T.ret (.bool false))
def insC (i:Ins):List Value:=[.int .i64 i.op,.int .i64 i.a,.int .i64 i.b,.int .i32 i.n,.int .i64 i.form]
theorem insRT_of {L:Lp} {h0 h:Hp} (t:Tab h) {x:Itm} {p:Option Addr} {l c g k:Nat} {i:Ins} {e1 e2:TypeId} (b1:Box h g e1 (encI p l c x)) (b2:Box h k e2 (insC i)) (v:LinAt h p l x.e) (ho:Sm i.op) (e:Ext h0 h) :
  insRT g k L (fun w h'=>w=.bool (decide (x.inst.n=0) && decide (chkR i=0) && rtR none x.e.terms)∧Ext h0 h') h:=by
 unfold insRT
 refine loads_box b1 (x.inst.n,()) rfl ?_
 dsimp only [flat,unc,unc1,nA,cA]
 refine cond_mk (fun q=>?_) (fun q=>?_)
 ·have q:x.inst.n=0:=by simpa using q
  refine loads_box b2 (i.op,i.a,i.b,i.n,i.form,()) rfl ?_
  dsimp only [flat,unc,unc1,nA,cA]
  refine call_of (check_hc t i.op i.a i.b i.n i.form ho) ?_
  rintro _ g2 ⟨rfl,e2⟩
  refine ⟨(chkR i,()),rfl,?_⟩
  dsimp only [flat,unc,unc1,nA,cA]
  refine cond_mk (fun r=>?_) (fun r=>?_)
  ·have r:chkR i=0:=by simpa using r
   refine loads_box (b1.keep e2 (by simp)) ((p,l,c),(x.e.num:Int),()) rfl ?_
   dsimp only [flat,unc,unc1,nA,cA]
   refine call_of (right63_hc (c:=c) (v.keep e2).vw (by have:=v.many; omega) v.names) ?_
   rintro _ g3 ⟨rfl,e3⟩
   refine ⟨(rtR none x.e.terms,()),rfl,?_⟩
   exact ⟨by rw [decide_eq_true q,decide_eq_true r]; rfl,(e.trans e2).trans e3⟩
  ·have r:¬ chkR i=0:=by simpa using r
   exact ⟨by rw [decide_eq_false r,Bool.and_false]; rfl,e.trans e2⟩
 ·have q:¬ x.inst.n=0:=by simpa using q
  exact ⟨by rw [decide_eq_false q]; rfl,e⟩
theorem insST_of {L:Lp} {h0 h:Hp} (t:Tab h) {x:Itm} {p:Option Addr} {l c g k:Nat} {i:Ins} {e1 e2:TypeId} (b1:Box h g e1 (encI p l c x)) (b2:Box h k e2 (insC i)) (v:LinAt h p l x.e) (ho:Sm i.op) (e:Ext h0 h) :
  insST g k L (fun w h'=>w=.bool (decide (chkR i=0) && isZ x.e)∧Ext h0 h') h:=by
 unfold insST
 refine loads_box b2 (i.op,i.a,i.b,i.n,i.form,()) rfl ?_
 dsimp only [flat,unc,unc1,nA,cA]
 refine call_of (check_hc t i.op i.a i.b i.n i.form ho) ?_
 rintro _ g2 ⟨rfl,e2⟩
 refine ⟨(chkR i,()),rfl,?_⟩
 dsimp only [flat,unc,unc1,nA,cA]
 refine cond_mk (fun r=>?_) (fun r=>?_)
 ·have r:chkR i=0:=by simpa using r
  refine loads_box (b1.keep e2 (by simp)) ((p,l,c),(x.e.num:Int),()) rfl ?_
  dsimp only [flat,unc,unc1,nA,cA]
  refine call_of (same64_hc (c:=c) (d:=0) (y:=lin0) (v.keep e2).vw (VwT.none g2) v.many) ?_
  rintro _ g3 ⟨rfl,e3⟩
  refine ⟨(linB x.e lin0,()),rfl,?_⟩
  exact ⟨by rw [decide_eq_true r,linB_0]; rfl,(e.trans e2).trans e3⟩
 ·have r:¬ chkR i=0:=by simpa using r
  exact ⟨by rw [decide_eq_false r]; rfl,e.trans e2⟩
theorem instruction_hc {h:Hp} (t:Tab h) {x:Itm} {p:Option Addr} {l c:Nat} (v:LinAt h p l x.e) (ho:Sm x.inst.op) :
  HC Tryz.prog 35 #[itmV p l c x] h fun w h'=>w=.bool (insR x.inst x.e)∧Ext h h':=by
 refine hcr_of (args:=[itmV p l c x]) mixed Tryz.func35 (by kernel_rfl) (t_item_instruction_eq x.kind x.name x.inst.op x.inst.a x.inst.b x.inst.n x.inst.form p l c x.e.num x.n) ?_
 unfold t_item_instruction
 refine newB ?_
 intro g1 b1 e1 z1
 have b1:Box g1 h.size 54 (encI p l c x):=b1
 simp only [add_box]
 refine loads_box b1 (x.inst.op,()) rfl ?_
 dsimp only [flat,unc,unc1,nA,cA]
 refine call_of (at_hc (t.keep e1 (by simp)) x.inst.op ho.1 ho.2) ?_
 rintro _ g2 ⟨s,y,rfl,e2⟩
 refine ⟨(s,y,((shp x.inst.op:Nat):Int),decide (shp x.inst.op≠0),()),rfl,?_⟩
 dsimp only [flat,unc,unc1,nA,cA]
 refine newB ?_
 intro g3 b3 e3 z3
 refine stores_of b3 rfl (by simp) ?_
 intro g4 b4 k4 z4
 have b4:Box g4 g2.size 112 [.string s,.int .u8 y,.int .i64 (shp x.inst.op:Nat)]:=b4
 have s1:=e1.size
 have s2:=e2.size
 have e14:=(e2.trans e3).st k4 (by omega)
 have e4:=e1.trans e14
 have b1:=b1.keep e14 (by simp)
 unfold insR
 refine cond_mk (fun q=>?_) (fun q=>?_)
 ·have q:shp x.inst.op=0:=by simpa using q
  exact ⟨by rw [q]; rfl,e4⟩
 have q:shp x.inst.op≠0:=by simpa using q
 rw [decide_eq_true q,Bool.true_and]
 refine loads_box b1 (x.inst.form,()) rfl ?_
 dsimp only [flat,unc,unc1,nA,cA]
 refine cond_mk (fun r=>?_) (fun r=>?_)
 ·have r:¬ x.inst.form=0:=by simpa using r
  exact ⟨by rw [decide_eq_false r]; rfl,e4⟩
 have r:x.inst.form=0:=by simpa using r
 rw [decide_eq_true r,Bool.true_and]
 refine loads_box b1 (x.inst.op,x.inst.a,x.inst.b,x.inst.n,x.inst.form,()) rfl ?_
 dsimp only [flat,unc,unc1,nA,cA]
 refine newB ?_
 intro g5 b5 e5 z5
 refine stores_of b5 rfl (by simp) ?_
 intro g6 b6 k6 z6
 have b6:Box g6 g4.size 52 (insC x.inst):=b6
 have e46:=e5.st k6 (by omega)
 have e6:=e4.trans e46
 have b1:=b1.keep e46 (by simp)
 have b4:=b4.keep e46 (by simp)
 simp only [add_box]
 have hs:=shp_cases x.inst.op
 refine loads_box b4 (((shp x.inst.op:Nat):Int),()) rfl ?_
 dsimp only [flat,unc,unc1,nA,cA]
 generalize hB:(if wnt x.inst.op=true then decide (x.inst.n=0) && decide (chkR { x.inst with form:=if spn x.inst.op=true then 1 else 0 }=0) && rtR none x.e.terms else decide (chkR x.inst=0) && isZ x.e)=B
 have hF:{ x.inst with form:=0 }=x.inst:=by
  rcases hx:x.inst with ⟨a1,a2,a3,a4,a5⟩
  rw [hx] at r
  simp only at r
  rw [r]
 have hA:12≤shp x.inst.op→T.stores ⟨g4.size,4,none⟩ [.int .i64 1] (insRT h.size g4.size) [] (fun w h'=>w=.bool B∧Ext h h') g6:=by
  intro hh
  refine stores_of b6 rfl (by simp [insC]) ?_
  intro g7 b7 k7 z7
  have b7:Box g7 g4.size 52 (insC { x.inst with form:=1 }):=b7
  have e67:Ext g4 g7:=e46.st k7 (by omega)
  have e7:=e4.trans e67
  have hw:wnt x.inst.op=true:=decide_eq_true (by omega)
  have hp:spn x.inst.op=true:=decide_eq_true hh
  rw [if_pos hw,if_pos hp] at hB
  have:=insRT_of (L:=[]) (h0:=h) (t.keep e7 (by simp)) (b1.keep k7 (by simp; omega)) b7 (v.keep e7) ho e7
  rw [hB] at this
  exact this
 have hR:shp x.inst.op=10∨shp x.inst.op=11→insRT h.size g4.size [] (fun w h'=>w=.bool B∧Ext h h') g6:=by
  intro hh
  have hw:wnt x.inst.op=true:=decide_eq_true (by omega)
  have hp:¬ spn x.inst.op=true:=by unfold spn; rw [decide_eq_false (by omega)]; simp
  rw [if_pos hw,if_neg hp,hF] at hB
  have:=insRT_of (L:=[]) (h0:=h) (t.keep e6 (by simp)) b1 b6 (v.keep e6) ho e6
  rw [hB] at this
  exact this
 have hS:shp x.inst.op<10→insST h.size g4.size [] (fun w h'=>w=.bool B∧Ext h h') g6:=by
  intro hh
  have hw:¬ wnt x.inst.op=true:=by unfold wnt; rw [decide_eq_false (by omega)]; simp
  rw [if_neg hw] at hB
  have:=insST_of (L:=[]) (h0:=h) (t.keep e6 (by simp)) b1 b6 (v.keep e6) ho e6
  rw [hB] at this
  exact this
 clear hB
 refine cond_mk (fun q1=>?_) (fun q1=>?_)
 ·have q1:((shp x.inst.op:Nat):Int)=12:=by simpa using q1
  refine cond_mk (fun q2=>hA (by omega)) (fun q2=>?_)
  have q2:¬ ((shp x.inst.op:Nat):Int)=12:=by simpa using q2
  exact absurd q1 q2
 have q1:¬ ((shp x.inst.op:Nat):Int)=12:=by simpa using q1
 refine cond_mk (fun q2=>?_) (fun q2=>?_)
 ·have q2:((shp x.inst.op:Nat):Int)=13:=by simpa using q2
  exact hA (by omega)
 have q2:¬ ((shp x.inst.op:Nat):Int)=13:=by simpa using q2
 refine cond_mk (fun q3=>?_) (fun q3=>?_)
 ·have q3:((shp x.inst.op:Nat):Int)=10:=by simpa using q3
  refine cond_mk (fun q2=>hR (by omega)) (fun q4=>?_)
  have q4:¬ ((shp x.inst.op:Nat):Int)=10:=by simpa using q4
  exact absurd q3 q4
 have q3:¬ ((shp x.inst.op:Nat):Int)=10:=by simpa using q3
 refine cond_mk (fun q4=>?_) (fun q4=>?_)
 ·have q4:((shp x.inst.op:Nat):Int)=11:=by simpa using q4
  exact hR (by omega)
 have q4:¬ ((shp x.inst.op:Nat):Int)=11:=by simpa using q4
 exact hS (by omega)
structure ItmAt (h:Hp) (p:Option Addr) (l:Nat) (x:Itm):Prop where
 lin:LinAt h p l x.e
 name:x.name.size≤maxLen
 op:Sm x.inst.op
theorem ItmAt.keep {h h':Hp} {p:Option Addr} {l:Nat} {x:Itm} (v:ItmAt h p l x) (k:Ext h h'):ItmAt h' p l x:=⟨v.lin.keep k,v.name,v.op⟩
def sameI (x y:Itm):Bool:=decide (x.name=y.name) && decide (x.inst=y.inst) && decide (x.n=y.n) && linB x.e y.e
theorem ins77:Tryz.prog.underlying 52=some (.struct (flds Tryz.prog 52)):=by kernel_rfl
theorem cmpIns (x y:Operand) (i j:Ins) (h:Hp) (K:Value→Hp→Prop) (hk:K (.bool !(decide (i=j))) h) :
  semW Tryz.prog (Sx.cmpS (BinOp.neq) 52 x y (.agg (insC i).toArray) (.agg (insC j).toArray)) h K:=by
 refine cmpS_neq ins77 (by kernel_rfl) (by kernel_rfl) (by kernel_rfl) K ?_
 have he:(flds Tryz.prog 52).all (eqF (insC i).toArray (insC j).toArray)=(i.op==j.op && (i.a==j.a && (i.b==j.b && (i.n==j.n && (i.form==j.form && true))))):=by
  rw [← Array.all_toList]
  kernel_rfl
 rw [he,Bool.and_true]
 have:(i.op==j.op && (i.a==j.a && (i.b==j.b && (i.n==j.n && i.form==j.form))))=decide (i=j):=by
  rcases i with ⟨a1,a2,a3,a4,a5⟩
  rcases j with ⟨c1,c2,c3,c4,c5⟩
  simp only [beqD,Ins.mk.injEq]
  by_cases h1:a1=c1 <;> by_cases h2:a2=c2 <;> by_cases h3:a3=c3 <;> by_cases h4:a4=c4 <;> by_cases h5:a5=c5 <;> simp [h1,h2,h3,h4,h5]
 rw [this]
 exact hk
def rtT (g k:Nat):T :=
 T.loads ⟨g,1,none⟩ [.string] <| fun (s8:ByteArray) =>
 T.loads ⟨k,1,none⟩ [.string] <| fun (s9:ByteArray) =>
 cond (!((ByteArray.toList s8)==(ByteArray.toList s9)))
  (T.ret (.int .i64 (31:Int)))
  (T.loads ⟨g,2,none⟩ [.int .i64,.int .i64,.int .i64,.int .i32,.int .i64] <| fun (n10:Int) (n11:Int) (n12:Int) (n13:Int) (n14:Int) =>
  T.loads ⟨k,2,none⟩ [.int .i64,.int .i64,.int .i64,.int .i32,.int .i64] <| fun (n15:Int) (n16:Int) (n17:Int) (n18:Int) (n19:Int) =>
  T.sem Tryz.prog (Sx.cmpS (BinOp.neq) 52 (Operand.tmp 109) (Operand.tmp 111) (.agg #[.int .i64 n10,.int .i64 n11,.int .i64 n12,.int .i32 n13,.int .i64 n14]) (.agg #[.int .i64 n15,.int .i64 n16,.int .i64 n17,.int .i32 n18,.int .i64 n19])) false [(false,[.bool])] <| fun (b20:Bool) =>
  cond b20
  (T.ret (.int .i64 (31:Int)))
  (T.loads ⟨g,9,none⟩ [.int .i64] <| fun (n21:Int) =>
  T.loads ⟨k,9,none⟩ [.int .i64] <| fun (n22:Int) =>
  cond (n21 != n22)
   (T.ret (.int .i64 (31:Int)))
   (T.loads ⟨g,7,none⟩ [.slice 50,.int .u32] <| fun (p23:Option Addr) (l24:Nat) (l25:Nat) (n26:Int) =>
   T.loads ⟨k,7,none⟩ [.slice 50,.int .u32] <| fun (p27:Option Addr) (l28:Nat) (l29:Nat) (n30:Int) =>
   T.call Tryz.prog 38 [.agg #[.slice p23 l24 l25,.int .u32 n26],.agg #[.slice p27 l28 l29,.int .u32 n30]] false [(false,[.bool])] <| fun (b31:Bool) =>
   cond (!b31)
   (T.ret (.int .i64 (31:Int)))
   (T.ret (.int .i64 (0:Int))))))
def no31 (b:Bool):Value:=.int .i64 (if b then 0 else 31)
theorem rtT_of {L:Lp} {h0 h:Hp} {x y:Itm} {p q:Option Addr} {l c m d g k:Nat} {e1 e2:TypeId} (b1:Box h g e1 (encI p l c x)) (b2:Box h k e2 (encI q m d y)) (v:LinAt h p l x.e) (w:VwT h q m y.e.terms) (e:Ext h0 h) :
  rtT g k L (fun w h'=>w=no31 (sameI x y)∧Ext h0 h') h:=by
 unfold rtT sameI
 refine loads_box b1 (x.name,()) rfl ?_
 dsimp only [flat,unc,unc1,nA,cA]
 refine loads_box b2 (y.name,()) rfl ?_
 dsimp only [flat,unc,unc1,nA,cA]
 rw [ByteArray.toList_eq,ByteArray.toList_eq]
 refine cond_mk (fun r=>?_) (fun r=>?_)
 ·have r:¬ x.name=y.name:=fun he=>by rw [he] at r; simp at r
  exact ⟨by rw [decide_eq_false r]; rfl,e⟩
 have r:x.name=y.name:=ba_ext (by simpa using r)
 rw [decide_eq_true r,Bool.true_and]
 refine loads_box b1 (x.inst.op,x.inst.a,x.inst.b,x.inst.n,x.inst.form,()) rfl ?_
 dsimp only [flat,unc,unc1,nA,cA]
 refine loads_box b2 (y.inst.op,y.inst.a,y.inst.b,y.inst.n,y.inst.form,()) rfl ?_
 dsimp only [flat,unc,unc1,nA,cA]
 refine sem_bool (fun K' hK=>cmpIns _ _ x.inst y.inst h K' hK) ?_
 refine cond_mk (fun r=>?_) (fun r=>?_)
 ·have r:¬ x.inst=y.inst:=by simpa using r
  exact ⟨by rw [decide_eq_false r]; rfl,e⟩
 have r:x.inst=y.inst:=by simpa using r
 rw [decide_eq_true r,Bool.true_and]
 refine loads_box b1 (x.n,()) rfl ?_
 dsimp only [flat,unc,unc1,nA,cA]
 refine loads_box b2 (y.n,()) rfl ?_
 dsimp only [flat,unc,unc1,nA,cA]
 refine cond_mk (fun r=>?_) (fun r=>?_)
 ·have r:¬ x.n=y.n:=by simpa using r
  exact ⟨by rw [decide_eq_false r]; rfl,e⟩
 have r:x.n=y.n:=by simpa using r
 rw [decide_eq_true r,Bool.true_and]
 refine loads_box b1 ((p,l,c),(x.e.num:Int),()) rfl ?_
 dsimp only [flat,unc,unc1,nA,cA]
 refine loads_box b2 ((q,m,d),(y.e.num:Int),()) rfl ?_
 dsimp only [flat,unc,unc1,nA,cA]
 refine call_of (same64_hc (c:=c) (d:=d) v.vw w v.many) ?_
 rintro _ g3 ⟨rfl,e3⟩
 refine ⟨(linB x.e y.e,()),rfl,?_⟩
 dsimp only [flat,unc,unc1,nA,cA]
 refine cond_mk (fun r=>?_) (fun r=>?_)
 ·have r:linB x.e y.e=false:=by simpa using r
  exact ⟨by rw [r]; rfl,e.trans e3⟩
 ·have r:linB x.e y.e=true:=by simpa using r
  exact ⟨by rw [r]; rfl,e.trans e3⟩
theorem linB_r (x:Lin):linB x x=true:=linB_refl x
theorem itmR_1 {x:Itm} {sec:Nat} (hk:x.kind=1):itmR x sec=(legalL x.name.data.toList && sameI x { itm x.kind with name:=x.name }):=by
 unfold itmR sameI
 simp only [hk,itm,linB_r,linB_0,z1,z2,z3,z4]
 simp (decide:=true) only [if_true,if_false,decide_true,Bool.true_and,Bool.and_true]
 try simp only [Bool.and_assoc,Bool.and_comm,Bool.and_left_comm]
theorem itmR_2 {x:Itm} {sec:Nat} (hk:x.kind=2):itmR x sec=(decide (sec=0) && insR x.inst x.e && sameI x { itm x.kind with inst:=x.inst,e:=x.e }):=by
 unfold itmR sameI
 simp only [hk,itm,linB_r,linB_0,z1,z2,z3,z4]
 simp (decide:=true) only [if_true,if_false,decide_true,Bool.true_and,Bool.and_true]
 try simp only [Bool.and_assoc,Bool.and_comm,Bool.and_left_comm]
theorem itmR_3 {x:Itm} {sec:Nat} (hk:x.kind=3):itmR x sec=(pow2 x.n && sameI x { itm x.kind with n:=x.n }):=by
 unfold itmR sameI
 simp only [hk,itm,linB_r,linB_0,z1,z2,z3,z4]
 simp (decide:=true) only [if_true,if_false,decide_true,Bool.true_and,Bool.and_true]
 try simp only [Bool.and_assoc,Bool.and_comm,Bool.and_left_comm]
theorem itmR_4 {x:Itm} {sec:Nat} (hk:x.kind=4):itmR x sec=(decide (sec=0) && sameI x (itm x.kind)):=by
 unfold itmR sameI
 simp only [hk,itm,linB_r,linB_0,z1,z2,z3,z4]
 simp (decide:=true) only [if_true,if_false,decide_true,Bool.true_and,Bool.and_true]
 try simp only [Bool.and_assoc,Bool.and_comm,Bool.and_left_comm]
theorem itmR_5 {x:Itm} {sec:Nat} (hk:x.kind=5):itmR x sec=(decide (sec=1) && decide (-128≤x.n) && decide (x.n≤255) && sameI x { itm x.kind with n:=x.n }):=by
 unfold itmR sameI
 simp only [hk,itm,linB_r,linB_0,z1,z2,z3,z4]
 simp (decide:=true) only [if_true,if_false,decide_true,Bool.true_and,Bool.and_true]
 try simp only [Bool.and_assoc,Bool.and_comm,Bool.and_left_comm]
theorem itmR_6 {x:Itm} {sec:Nat} (hk:x.kind=6):itmR x sec=(decide (sec=1) && rtR none x.e.terms && sameI x { itm x.kind with e:=x.e }):=by
 unfold itmR sameI
 simp only [hk,itm,linB_r,linB_0,z1,z2,z3,z4]
 simp (decide:=true) only [if_true,if_false,decide_true,Bool.true_and,Bool.and_true]
 try simp only [Bool.and_assoc,Bool.and_comm,Bool.and_left_comm]
theorem itmR_7 {x:Itm} {sec:Nat} (hk:x.kind=7):itmR x sec=(decide (sec=1) && decide (0≤x.n) && decide (x.n≤1048576) && sameI x { itm x.kind with n:=x.n }):=by
 unfold itmR sameI
 simp only [hk,itm,linB_r,linB_0,z1,z2,z3,z4]
 simp (decide:=true) only [if_true,if_false,decide_true,Bool.true_and,Bool.and_true]
 try simp only [Bool.and_assoc,Bool.and_comm,Bool.and_left_comm]
theorem itmR_no {x:Itm} {sec:Nat} (h1:x.kind≠1) (h2:x.kind≠2) (h3:x.kind≠3) (h4:x.kind≠4) (h5:x.kind≠5) (h6:x.kind≠6) (h7:x.kind≠7):itmR x sec=false:=by
 unfold itmR
 rw [if_neg h1,if_neg h2,if_neg h3,if_neg h4,if_neg h5,if_neg h6,if_neg h7]
theorem item0_hc {h:Hp} (t:Tab h) {x:Itm} {p:Option Addr} {l c:Nat} (v:ItmAt h p l x) :
  HC Tryz.prog 19 #[itmV p l c x,.int .i64 0] h fun w h'=>w=no31 (itmR x 0)∧Ext h h':=by
 refine hcr_of (args:=[itmV p l c x,.int .i64 0]) mixed Tryz.func19 (by kernel_rfl) (t_item_Right_c0_eq x.kind x.name x.inst.op x.inst.a x.inst.b x.inst.n x.inst.form p l c x.e.num x.n) ?_
 unfold t_item_Right_c0
 refine newB ?_
 intro g1 b1 e1 z1
 have b1:Box g1 h.size 54 (encI p l c x):=b1
 refine loads_box b1 (x.kind,()) rfl ?_
 dsimp only [flat,unc,unc1,nA,cA]
 refine newB ?_
 intro g2 b2 e2 z2
 refine stores_of b2 rfl (by simp) ?_
 intro g3 b3 k3 z3
 have b3:Box g3 g1.size 54 (encI none 0 0 (itm x.kind)):=b3
 have s1:=e1.size
 have e13:=e2.st k3 (Nat.le_refl _)
 have e3:=e1.trans e13
 have b1:=b1.keep e13 (by simp)
 simp only [add_box]
 refine loads_box b1 (x.kind,()) rfl ?_
 dsimp only [flat,unc,unc1,nA,cA]
 refine cond_mk (fun q=>?_) (fun q=>?_)
 ·have q:x.kind=1:=by simpa using q
  rw [itmR_1 q]
  refine loads_box b1 (x.name,()) rfl ?_
  dsimp only [flat,unc,unc1,nA,cA]
  refine stores_of b3 rfl (by simp [encI]) ?_
  intro g4 b4 k4 z4
  have b4:Box g4 g1.size 54 (encI none 0 0 { itm x.kind with name:=x.name }):=b4
  have e4:=e3.st k4 (by omega)
  have b1:=b1.keep k4 (by simp; omega)
  refine loads_box b1 (x.name,()) rfl ?_
  dsimp only [flat,unc,unc1,nA,cA]
  refine call_bool (legal_hc x.name g4 (by have:=v.name; have:maxLen=9223372036854775807:=rfl; omega)) ?_
  refine cond_mk (fun r=>?_) (fun r=>?_)
  ·have r:legalL x.name.data.toList=false:=by simpa using r
   exact ⟨by rw [r]; rfl,e4⟩
  have r:legalL x.name.data.toList=true:=by simpa using r
  rw [r,Bool.true_and]
  have hh:=rtT_of (L:=[]) (h0:=h) (y:={ itm x.kind with name:=x.name }) b1 b4 (v.lin.keep e4) (VwT.none g4) e4
  exact hh
 have q1:x.kind≠1:=by simpa using q
 refine cond_mk (fun q=>?_) (fun q=>?_)
 ·have q:x.kind=2:=by simpa using q
  rw [itmR_2 q]
  refine loads_box b1 (x.inst.op,x.inst.a,x.inst.b,x.inst.n,x.inst.form,()) rfl ?_
  dsimp only [flat,unc,unc1,nA,cA]
  refine loads_box b1 ((p,l,c),(x.e.num:Int),()) rfl ?_
  dsimp only [flat,unc,unc1,nA,cA]
  refine stores_of b3 rfl (by simp [encI]) ?_
  intro g4 b4 k4 z4
  have e4:=e3.st k4 (by omega)
  have b1:=b1.keep k4 (by simp; omega)
  refine ⟨⟨b1.cells [.slice p l c,.int .u32 x.e.num] rfl,trivial⟩,?_⟩
  refine stores_of b4 rfl (by simp [encI,setL]) ?_
  intro g5 b5 k5 z5
  have b5:Box g5 g1.size 54 (encI p l c { itm x.kind with inst:=x.inst,e:=x.e }):=b5
  have e5:=e4.st k5 (by omega)
  have b1:=b1.keep k5 (by simp; omega)
  refine loads_box b1 (x.kind,x.name,x.inst.op,x.inst.a,x.inst.b,x.inst.n,x.inst.form,(p,l,c),(x.e.num:Int),x.n,()) rfl ?_
  dsimp only [flat,unc,unc1,nA,cA]
  refine call_of (instruction_hc (c:=c) (t.keep e5 (by simp)) (v.lin.keep e5) v.op) ?_
  rintro _ g6 ⟨rfl,e6'⟩
  refine ⟨(insR x.inst x.e,()),rfl,?_⟩
  dsimp only [flat,unc,unc1,nA,cA]
  have e6:=e5.trans e6'
  refine cond_mk (fun r=>?_) (fun r=>?_)
  ·have r:insR x.inst x.e=false:=by simpa using r
   exact ⟨by rw [r]; rfl,e6⟩
  have r:insR x.inst x.e=true:=by simpa using r
  rw [r]
  have b1:=b1.keep e6' (by simp)
  have b5:=b5.keep e6' (by simp)
  have hh:=rtT_of (L:=[]) (h0:=h) (y:={ itm x.kind with inst:=x.inst,e:=x.e }) b1 b5 (v.lin.keep e6) (v.lin.keep e6).vw e6
  exact hh
 have q2:x.kind≠2:=by simpa using q
 refine cond_mk (fun q=>?_) (fun q=>?_)
 ·have q:x.kind=3:=by simpa using q
  rw [itmR_3 q]
  refine loads_box b1 (x.n,()) rfl ?_
  dsimp only [flat,unc,unc1,nA,cA]
  refine stores_of b3 rfl (by simp [encI]) ?_
  intro g4 b4 k4 z4
  have b4:Box g4 g1.size 54 (encI none 0 0 { itm x.kind with n:=x.n }):=b4
  have e4:=e3.st k4 (by omega)
  have b1:=b1.keep k4 (by simp; omega)
  refine loads_box b1 (x.n,()) rfl ?_
  dsimp only [flat,unc,unc1,nA,cA]
  refine call_bool (power_hc g4 x.n) ?_
  refine cond_mk (fun r=>?_) (fun r=>?_)
  ·have r:pow2 x.n=false:=by simpa using r
   exact ⟨by rw [r]; rfl,e4⟩
  have r:pow2 x.n=true:=by simpa using r
  rw [r,Bool.true_and]
  have hh:=rtT_of (L:=[]) (h0:=h) (y:={ itm x.kind with n:=x.n }) b1 b4 (v.lin.keep e4) (VwT.none g4) e4
  exact hh
 have q3:x.kind≠3:=by simpa using q
 refine cond_mk (fun q=>?_) (fun q=>?_)
 ·have q:x.kind=4:=by simpa using q
  rw [itmR_4 q]
  have hh:=rtT_of (L:=[]) (h0:=h) (y:=(itm x.kind)) b1 b3 (v.lin.keep e3) (VwT.none g3) e3
  exact hh
 have q4:x.kind≠4:=by simpa using q
 refine cond_mk (fun q=>?_) (fun q=>?_)
 ·have q:x.kind=5:=by simpa using q
  rw [itmR_5 q]
  refine loads_box b1 (x.n,()) rfl ?_
  dsimp only [flat,unc,unc1,nA,cA]
  refine stores_of b3 rfl (by simp [encI]) ?_
  intro g4 b4 k4 z4
  have b4:Box g4 g1.size 54 (encI none 0 0 { itm x.kind with n:=x.n }):=b4
  have e4:=e3.st k4 (by omega)
  have b1:=b1.keep k4 (by simp; omega)
  exact ⟨rfl,e4⟩
 have q5:x.kind≠5:=by simpa using q
 refine cond_mk (fun q=>?_) (fun q=>?_)
 ·have q:x.kind=6:=by simpa using q
  rw [itmR_6 q]
  refine loads_box b1 ((p,l,c),(x.e.num:Int),()) rfl ?_
  dsimp only [flat,unc,unc1,nA,cA]
  refine stores_of b3 rfl (by simp [encI]) ?_
  intro g4 b4 k4 z4
  have b4:Box g4 g1.size 54 (encI p l c { itm x.kind with e:=x.e }):=b4
  have e4:=e3.st k4 (by omega)
  have b1:=b1.keep k4 (by simp; omega)
  exact ⟨rfl,e4⟩
 have q6:x.kind≠6:=by simpa using q
 refine cond_mk (fun q=>?_) (fun q=>?_)
 ·have q:x.kind=7:=by simpa using q
  rw [itmR_7 q]
  refine loads_box b1 (x.n,()) rfl ?_
  dsimp only [flat,unc,unc1,nA,cA]
  refine stores_of b3 rfl (by simp [encI]) ?_
  intro g4 b4 k4 z4
  have b4:Box g4 g1.size 54 (encI none 0 0 { itm x.kind with n:=x.n }):=b4
  have e4:=e3.st k4 (by omega)
  have b1:=b1.keep k4 (by simp; omega)
  exact ⟨rfl,e4⟩
 have q7:x.kind≠7:=by simpa using q
 exact ⟨by rw [itmR_no q1 q2 q3 q4 q5 q6 q7]; rfl,e3⟩
theorem item1_hc {h:Hp} (t:Tab h) {x:Itm} {p:Option Addr} {l c:Nat} (v:ItmAt h p l x) :
  HC Tryz.prog 19 #[itmV p l c x,.int .i64 1] h fun w h'=>w=no31 (itmR x 1)∧Ext h h':=by
 refine hcr_of (args:=[itmV p l c x,.int .i64 1]) mixed Tryz.func19 (by kernel_rfl) (t_item_Right_c1_eq x.kind x.name x.inst.op x.inst.a x.inst.b x.inst.n x.inst.form p l c x.e.num x.n) ?_
 unfold t_item_Right_c1
 refine newB ?_
 intro g1 b1 e1 z1
 have b1:Box g1 h.size 54 (encI p l c x):=b1
 refine loads_box b1 (x.kind,()) rfl ?_
 dsimp only [flat,unc,unc1,nA,cA]
 refine newB ?_
 intro g2 b2 e2 z2
 refine stores_of b2 rfl (by simp) ?_
 intro g3 b3 k3 z3
 have b3:Box g3 g1.size 54 (encI none 0 0 (itm x.kind)):=b3
 have s1:=e1.size
 have e13:=e2.st k3 (Nat.le_refl _)
 have e3:=e1.trans e13
 have b1:=b1.keep e13 (by simp)
 simp only [add_box]
 refine loads_box b1 (x.kind,()) rfl ?_
 dsimp only [flat,unc,unc1,nA,cA]
 refine cond_mk (fun q=>?_) (fun q=>?_)
 ·have q:x.kind=1:=by simpa using q
  rw [itmR_1 q]
  refine loads_box b1 (x.name,()) rfl ?_
  dsimp only [flat,unc,unc1,nA,cA]
  refine stores_of b3 rfl (by simp [encI]) ?_
  intro g4 b4 k4 z4
  have b4:Box g4 g1.size 54 (encI none 0 0 { itm x.kind with name:=x.name }):=b4
  have e4:=e3.st k4 (by omega)
  have b1:=b1.keep k4 (by simp; omega)
  refine loads_box b1 (x.name,()) rfl ?_
  dsimp only [flat,unc,unc1,nA,cA]
  refine call_bool (legal_hc x.name g4 (by have:=v.name; have:maxLen=9223372036854775807:=rfl; omega)) ?_
  refine cond_mk (fun r=>?_) (fun r=>?_)
  ·have r:legalL x.name.data.toList=false:=by simpa using r
   exact ⟨by rw [r]; rfl,e4⟩
  have r:legalL x.name.data.toList=true:=by simpa using r
  rw [r,Bool.true_and]
  have hh:=rtT_of (L:=[]) (h0:=h) (y:={ itm x.kind with name:=x.name }) b1 b4 (v.lin.keep e4) (VwT.none g4) e4
  exact hh
 have q1:x.kind≠1:=by simpa using q
 refine cond_mk (fun q=>?_) (fun q=>?_)
 ·have q:x.kind=2:=by simpa using q
  rw [itmR_2 q]
  refine loads_box b1 (x.inst.op,x.inst.a,x.inst.b,x.inst.n,x.inst.form,()) rfl ?_
  dsimp only [flat,unc,unc1,nA,cA]
  refine loads_box b1 ((p,l,c),(x.e.num:Int),()) rfl ?_
  dsimp only [flat,unc,unc1,nA,cA]
  refine stores_of b3 rfl (by simp [encI]) ?_
  intro g4 b4 k4 z4
  have e4:=e3.st k4 (by omega)
  have b1:=b1.keep k4 (by simp; omega)
  refine ⟨⟨b1.cells [.slice p l c,.int .u32 x.e.num] rfl,trivial⟩,?_⟩
  refine stores_of b4 rfl (by simp [encI,setL]) ?_
  intro g5 b5 k5 z5
  have b5:Box g5 g1.size 54 (encI p l c { itm x.kind with inst:=x.inst,e:=x.e }):=b5
  have e5:=e4.st k5 (by omega)
  have b1:=b1.keep k5 (by simp; omega)
  exact ⟨rfl,e5⟩
 have q2:x.kind≠2:=by simpa using q
 refine cond_mk (fun q=>?_) (fun q=>?_)
 ·have q:x.kind=3:=by simpa using q
  rw [itmR_3 q]
  refine loads_box b1 (x.n,()) rfl ?_
  dsimp only [flat,unc,unc1,nA,cA]
  refine stores_of b3 rfl (by simp [encI]) ?_
  intro g4 b4 k4 z4
  have b4:Box g4 g1.size 54 (encI none 0 0 { itm x.kind with n:=x.n }):=b4
  have e4:=e3.st k4 (by omega)
  have b1:=b1.keep k4 (by simp; omega)
  refine loads_box b1 (x.n,()) rfl ?_
  dsimp only [flat,unc,unc1,nA,cA]
  refine call_bool (power_hc g4 x.n) ?_
  refine cond_mk (fun r=>?_) (fun r=>?_)
  ·have r:pow2 x.n=false:=by simpa using r
   exact ⟨by rw [r]; rfl,e4⟩
  have r:pow2 x.n=true:=by simpa using r
  rw [r,Bool.true_and]
  have hh:=rtT_of (L:=[]) (h0:=h) (y:={ itm x.kind with n:=x.n }) b1 b4 (v.lin.keep e4) (VwT.none g4) e4
  exact hh
 have q3:x.kind≠3:=by simpa using q
 refine cond_mk (fun q=>?_) (fun q=>?_)
 ·have q:x.kind=4:=by simpa using q
  rw [itmR_4 q]
  exact ⟨rfl,e3⟩
 have q4:x.kind≠4:=by simpa using q
 refine cond_mk (fun q=>?_) (fun q=>?_)
 ·have q:x.kind=5:=by simpa using q
  rw [itmR_5 q]
  refine loads_box b1 (x.n,()) rfl ?_
  dsimp only [flat,unc,unc1,nA,cA]
  refine stores_of b3 rfl (by simp [encI]) ?_
  intro g4 b4 k4 z4
  have b4:Box g4 g1.size 54 (encI none 0 0 { itm x.kind with n:=x.n }):=b4
  have e4:=e3.st k4 (by omega)
  have b1:=b1.keep k4 (by simp; omega)
  refine loads_box b1 (x.n,()) rfl ?_
  dsimp only [flat,unc,unc1,nA,cA]
  refine cond_mk (fun r=>?_) (fun r=>?_)
  ·have r:=of_decide_eq_true r
   refine loads_box b1 (x.n,()) rfl ?_
   dsimp only [flat,unc,unc1,nA,cA]
   refine cond_mk (fun r2=>?_) (fun r2=>?_)
   ·have r2:¬ x.n≤255:=by simpa using r2
    exact ⟨by rw [decide_eq_false r2,Bool.and_false]; rfl,e4⟩
   have r2:x.n≤255:=by simpa using r2
   rw [decide_eq_true r2,decide_eq_true (show -128≤x.n from r)]
   have hh:=rtT_of (L:=[]) (h0:=h) (y:={ itm x.kind with n:=x.n }) b1 b4 (v.lin.keep e4) (VwT.none g4) e4
   exact hh
  ·have r:=of_decide_eq_false r
   exact ⟨by rw [decide_eq_false (show ¬ -128≤x.n from r),Bool.and_false]; rfl,e4⟩
 have q5:x.kind≠5:=by simpa using q
 refine cond_mk (fun q=>?_) (fun q=>?_)
 ·have q:x.kind=6:=by simpa using q
  rw [itmR_6 q]
  refine loads_box b1 ((p,l,c),(x.e.num:Int),()) rfl ?_
  dsimp only [flat,unc,unc1,nA,cA]
  refine stores_of b3 rfl (by simp [encI]) ?_
  intro g4 b4 k4 z4
  have b4:Box g4 g1.size 54 (encI p l c { itm x.kind with e:=x.e }):=b4
  have e4:=e3.st k4 (by omega)
  have b1:=b1.keep k4 (by simp; omega)
  refine loads_box b1 ((p,l,c),(x.e.num:Int),()) rfl ?_
  dsimp only [flat,unc,unc1,nA,cA]
  refine call_of (right63_hc (c:=c) (v.lin.keep e4).vw (by have:=v.lin.many; omega) v.lin.names) ?_
  rintro _ g6 ⟨rfl,e6'⟩
  refine ⟨(rtR none x.e.terms,()),rfl,?_⟩
  dsimp only [flat,unc,unc1,nA,cA]
  have e6:=e4.trans e6'
  refine cond_mk (fun r=>?_) (fun r=>?_)
  ·have r:rtR none x.e.terms=false:=by simpa using r
   exact ⟨by rw [r]; rfl,e6⟩
  have r:rtR none x.e.terms=true:=by simpa using r
  rw [r]
  have b1:=b1.keep e6' (by simp)
  have b4:=b4.keep e6' (by simp)
  have hh:=rtT_of (L:=[]) (h0:=h) (y:={ itm x.kind with e:=x.e }) b1 b4 (v.lin.keep e6) (v.lin.keep e6).vw e6
  exact hh
 have q6:x.kind≠6:=by simpa using q
 refine cond_mk (fun q=>?_) (fun q=>?_)
 ·have q:x.kind=7:=by simpa using q
  rw [itmR_7 q]
  refine loads_box b1 (x.n,()) rfl ?_
  dsimp only [flat,unc,unc1,nA,cA]
  refine stores_of b3 rfl (by simp [encI]) ?_
  intro g4 b4 k4 z4
  have b4:Box g4 g1.size 54 (encI none 0 0 { itm x.kind with n:=x.n }):=b4
  have e4:=e3.st k4 (by omega)
  have b1:=b1.keep k4 (by simp; omega)
  refine loads_box b1 (x.n,()) rfl ?_
  dsimp only [flat,unc,unc1,nA,cA]
  refine cond_mk (fun r=>?_) (fun r=>?_)
  ·have r:=of_decide_eq_true r
   refine loads_box b1 (x.n,()) rfl ?_
   dsimp only [flat,unc,unc1,nA,cA]
   refine cond_mk (fun r2=>?_) (fun r2=>?_)
   ·have r2:¬ x.n≤1048576:=by simpa using r2
    exact ⟨by rw [decide_eq_false r2,Bool.and_false]; rfl,e4⟩
   have r2:x.n≤1048576:=by simpa using r2
   rw [decide_eq_true r2,decide_eq_true (show 0≤x.n from r)]
   have hh:=rtT_of (L:=[]) (h0:=h) (y:={ itm x.kind with n:=x.n }) b1 b4 (v.lin.keep e4) (VwT.none g4) e4
   exact hh
  ·have r:=of_decide_eq_false r
   exact ⟨by rw [decide_eq_false (show ¬ 0≤x.n from r),Bool.and_false]; rfl,e4⟩
 have q7:x.kind≠7:=by simpa using q
 exact ⟨by rw [itmR_no q1 q2 q3 q4 q5 q6 q7]; rfl,e3⟩
section
variable {α:Type}
def vE (en:α→Value) (D:List (ByteArray × α)):List (ByteArray × Value):=D.map fun p=>(p.1,en p.2)
def gE (D:List (ByteArray × α)) (s:ByteArray):Option α:=(D.find? fun p=>decide (s=p.1)).map (·.2)
def MapF (en:α→Value) (h:Hp) (g:Nat) (f:ByteArray→Option α) (n:Nat):Prop:=∃ D:List (ByteArray × α),MapB h g (vE en D)∧(∀ s,gE D s=f s)∧D.length=n
theorem MapF.lt {en:α→Value} {h:Hp} {g:Nat} {f:ByteArray→Option α} {n:Nat} (m:MapF en h g f n):g<h.size:=by
 obtain ⟨D,m,r⟩:=m
 exact m.lt
theorem MapF.new {en:α→Value} {h:Hp} {g:Nat} (m:MapB h g []):MapF en h g (fun _=>none) 0:=⟨[],m,fun s=>rfl,rfl⟩
end
def eB (b:Bool):Value:=.bool b
theorem und9:Tryz.prog.underlying 9=some .string:=by kernel_rfl
def SetB (h:Hp) (g:Nat) (D:List ByteArray):Prop:=∃ n,MapF eB h g (fun s=>if inN D s then some true else none) n
theorem SetB.lt {h:Hp} {g:Nat} {D:List ByteArray} (m:SetB h g D):g<h.size:=by
 obtain ⟨n,m⟩:=m
 exact m.lt
section
variable {L:Lp} {K:Value→Hp→Prop} {h:Hp} {g:Nat} {D:List ByteArray}
end
/-! Lists in memory. -/
structure VwI (h:Hp) (p:Option Addr) (l:Nat) (us:List Itm):Prop where
 len:l=us.length
 many:us.length≤2^60
 cells:∀ i,(hi:i<us.length)→∃ a q m c,p=some a∧cellsAt h (a.add (i*10)) 0 (encI q m c us[i])∧ItmAt h q m us[i]
theorem VwI.keep {h h':Hp} {p:Option Addr} {l:Nat} {us:List Itm} (v:VwI h p l us) (k:Ext h h'):VwI h' p l us :=
 ⟨v.len,v.many,fun i hi=>by
  obtain ⟨a,q,m,c,ha,hc,hv⟩:=v.cells i hi
  exact ⟨a,q,m,c,ha,cellsAt_keep k (by simp) _ _ hc,hv.keep k⟩⟩
structure VwS (h:Hp) (p:Option Addr) (l:Nat) (us:List ByteArray):Prop where
 len:l=us.length
 many:us.length≤2^60
 cells:∀ i,(hi:i<us.length)→∃ a,p=some a∧cellsAt h (a.add (i*1)) 0 [.string us[i]]∧us[i].size≤maxLen
structure Sli where
 p:Option Addr
 l:Nat
 c:Nat
def Sli.v (s:Sli):Value:=.slice s.p s.l s.c
theorem slZ:(Tryz.prog.info? 22).map (fun i=>(i.zero,i.size,i.bytes))=some (some (.slice none 0 0),1,24):=by kernel_rfl
/-! The sections,one behind the other. -/
def secL (u:Unt) (k:Nat):List Itm:=if k=0 then u.text else u.data
def secN (u:Unt) (k:Nat):List ByteArray:=if k=0 then [] else if k=1 then namesI [] u.text else namesI (namesI [] u.text) u.data
def secR' (u:Unt) (k:Nat):Bool:=if k=0 then untOk u else if k=1 then (itemsOk 1 (namesI [] u.text) u.data && (equsOk (namesI (namesI [] u.text) u.data) u.equs && globsOk u.names nam0 u.globs)) else (equsOk (namesI (namesI [] u.text) u.data) u.equs && globsOk u.names nam0 u.globs)
theorem secR_step (u:Unt) {k:Nat} (hk:k<2):secR' u k=(itemsOk k (secN u k) (secL u k) && secR' u (k+1)):=by
 have:k=0∨k=1:=by omega
 rcases this with rfl | rfl
 ·simp [secR',secN,secL,untOk,Bool.and_assoc]
 ·simp [secR',secN,secL]
theorem item_hc {h:Hp} (t:Tab h) {x:Itm} {p:Option Addr} {l c k:Nat} (v:ItmAt h p l x) (hk:k<2) :
  HC Tryz.prog 19 #[itmV p l c x,.int .i64 (k:Int)] h fun w h'=>w=no31 (itmR x k)∧Ext h h':=by
 have:k=0∨k=1:=by omega
 rcases this with rfl | rfl
 ·exact item0_hc t v
 ·exact item1_hc t v
def Wst (g:Nat) (h:Hp) (p:Option Addr) (h':Hp) (p':Option Addr):Prop:=Ch (g::blkOf p) h h'∧(p'=p∨∃ a,p'=some a∧h.size≤a.block)
theorem Wst.trans {g:Nat} {h h1 h2:Hp} {p p1 p2:Option Addr} (a:Wst g h p h1 p1) (b:Wst g h1 p1 h2 p2):Wst g h p h2 p2:=by
 refine ⟨a.1.trans b.1 ?_,?_⟩
 ·intro i hi hl
  rcases List.mem_cons.1 hi with rfl | hi
  ·simp
  ·rcases a.2 with h1 | ⟨q,h1,h3⟩
   ·rw [h1] at hi
    exact List.mem_cons_of_mem _ hi
   ·rw [h1] at hi
    simp [blkOf] at hi
    omega
 ·rcases b.2 with h3 | ⟨q,h3,h4⟩
  ·rcases a.2 with h5 | ⟨r,h5,h6⟩
   ·exact .inl (h3.trans h5)
   ·exact .inr ⟨r,h3.trans h5,h6⟩
  ·exact .inr ⟨q,h3,Nat.le_trans a.1.size h4⟩
theorem Wst.of {g:Nat} {h h':Hp} (e:Ext h h') (p:Option Addr):Wst g h p h' p:=⟨e.mono (by simp),.inl rfl⟩
theorem SL.blk {h:Hp} {b:Nat} {e:TypeId} {sz:Nat} {p:Option Addr} {l c:Nat} {xs:List (List Value)} (s:SL h b e sz p l c xs):∀ i,i∈blkOf p→b≤i∧i<h.size:=by
 intro i hi
 cases p with
 | none=>simp [blkOf] at hi
 | some a =>
  obtain ⟨g,pre,rest,rfl,hb,_,hbox,_⟩:=s.2.2
  simp [blkOf] at hi
  exact ⟨by omega,by rw [hi]; exact hbox.lt⟩
theorem wrap_u32 (n:Int):IntKind.wrap .u32 n=((u32 n:Nat):Int):=by
 simp only [IntKind.wrap,IntKind.bits,IntKind.signed,Bool.false_and,Bool.false_eq_true,if_false]
 unfold u32
 omega
structure VwB (h:Hp) (p:Option Addr) (l:Nat) (us:Bt):Prop where
 len:l=us.length
 cells:∀ i,(hi:i<us.length)→∃ a,p=some a∧cellsAt h (a.add (i*1)) 0 [.int .u8 (us[i].toNat:Int)]
theorem VwB.from {h:Hp} {a:Addr} {l:Nat} {us:Bt} (v:VwB h (some a) l us):∀ (n i:Nat),i+n≤us.length→cellsAt h (a.add (i*1)) 0 (((us.drop i).take n).map byteV):=by
 have key:∀ (n i k:Nat),i+k+n≤us.length→cellsAt h (a.add (i*1)) k (((us.drop (i+k)).take n).map byteV):=by
  intro n
  induction n with
  | zero=>intro i k _; trivial
  | succ n ih =>
   intro i k hk
   rw [List.drop_eq_getElem_cons (by omega),List.take_succ_cons,List.map_cons]
   obtain ⟨b,hb,hc⟩:=v.cells (i+k) (by omega)
   cases hb
   refine ⟨?_,?_⟩
   ·have:=hc.1
    rw [show (a.add ((i+k)*1)).add 0=(a.add (i*1)).add k by rw [Go.Sx.add_add,Go.Sx.add_add]; congr 1; omega] at this
    exact this
   ·have:=ih i (k+1) (by omega)
    rw [← Nat.add_assoc] at this
    exact this
 intro n i hi
 exact key n i 0 (by omega)
abbrev St:=Except (Nat × Nat) Bt
def Stp {α:Type} (f:Bt→Rd α) (st:St) (x:α) (st':St):Prop :=
 match st with
 | .error e=>st'=.error e
 | .ok r=>match f r with
  | .ok q=>x=q.1∧st'=.ok q.2
  | .error e=>st'=.error e
theorem Stp.off {α:Type} (f:Bt→Rd α) (e:Nat × Nat) (x:α):Stp f (.error e) x (.error e):=rfl
theorem Stp.and {α β:Type} {f:Bt→Rd α} {k:α→Bt→Rd β} {st st1 st2:St} {x:α} {y:β} (h1:Stp f st x st1) (h2:Stp (k x) st1 y st2):Stp (fun r=>andR (f r) k) st y st2:=by
 cases st with
 | error e =>
  have h1:st1=.error e:=h1
  rw [h1] at h2
  exact h2
 | ok r =>
  unfold Stp at h1 ⊢
  simp only at h1 ⊢
  cases hf:f r with
  | error e =>
   rw [hf] at h1
   have h1:st1=.error e:=h1
   rw [h1] at h2
   exact h2
  | ok q =>
   rw [hf] at h1
   obtain ⟨rfl,h1⟩:=h1
   rw [h1] at h2
   exact h2
theorem Stp.ret {α:Type} (x:α) (st:St):Stp (fun r=>.ok (x,r)) st x st:=by
 cases st with
 | error e=>rfl
 | ok r=>exact ⟨rfl,rfl⟩
def refS (full:Bt) (at_ why:Nat):St→St
 | .ok _=>.error (full.length-at_,why)
 | .error e=>.error e
theorem Stp.terms {n:Nat} {st st1 st2 st3:St} {s:ByteArray} {c:Nat} {ts:Tms} (h1:Stp textR st s st1) (h2:Stp (numR 4) st1 c st2) (h3:Stp (termsR n) st2 ts st3):Stp (termsR (n+1)) st ((s,c)::ts) st3 :=
 Stp.and (f:=textR) h1 (Stp.and (f:=numR 4) h2 (Stp.and (f:=termsR n) h3 (Stp.ret _ _)))
structure LinRd (x:Lin):Prop where
 many:x.terms.length≤65535
 terms:∀ u,u∈x.terms→u.1.size<65536∧u.2<4294967296
 num:x.num<4294967296
theorem neK {k c:Nat} (h:k≠c):(((k:Nat):Int)==(c:Int))=false:=by
 simp only [beq_eq_false_iff_ne,ne_eq]
 omega
structure ItmRd (x:Itm):Prop where
 lin:LinRd x.e
 name:x.name.size<65536
 op:Sm x.inst.op
theorem LinRd.zero:LinRd lin0:=⟨by decide,by simp [lin0],by decide⟩
theorem LinRd.at {h:Hp} {b:Nat} {e:TypeId} {p:Option Addr} {l c:Nat} {x:Lin} (r:LinRd x) (s:SL h b e 2 p l c (x.terms.map encT)):LinAt h p l x :=
 ⟨Sx.SL.vwT s,by have:=r.many; omega,fun t ht=>by have:=(r.terms t ht).1; unfold maxLen; omega⟩
theorem ItmRd.at {h:Hp} {b:Nat} {e:TypeId} {p:Option Addr} {l c:Nat} {x:Itm} (r:ItmRd x) (s:SL h b e 2 p l c (x.e.terms.map encT)):ItmAt h p l x :=
 ⟨r.lin.at s,by have:=r.name; unfold maxLen; omega,r.op⟩
structure Ls {α:Type} (e:TypeId) (sz:Nat) (enc:Sli→α→List Value) (tm:α→Tms) (ok:α→Prop) (h:Hp) (b:Nat) (p:Option Addr) (l c:Nat) (us:List (Sli × α)):Prop where
 sl:SL h b e sz p l c (us.map fun u=>enc u.1 u.2)
 own:∀ u,u∈us→SL h b 50 2 u.1.p u.1.l u.1.c ((tm u.2).map encT)
 ok:∀ u,u∈us→ok u.2
section
variable {α:Type} {e:TypeId} {sz:Nat} {enc:Sli→α→List Value} {tm:α→Tms} {ok:α→Prop} {h h':Hp} {b b':Nat} {p:Option Addr} {l c:Nat} {us:List (Sli × α)}
theorem Ls.nil (h:Hp) (b:Nat):Ls e sz enc tm ok h b none 0 0 []:=⟨SL.nil _ _ _ _,by simp,by simp⟩
theorem SL.keepN {ws:List Nat} {h h':Hp} {b:Nat} {e:TypeId} {sz:Nat} {p:Option Addr} {l c:Nat} {xs:List (List Value)} (s:SL h b e sz p l c xs) (k:Ch ws h h') (hw:∀ i,i∈ws→i<h.size→i<b):SL h' b e sz p l c xs :=
 Sx.SL.keep' s k (fun i hi hm=>by have:=Sx.SL.blk s hi; have:=hw i hm this.2; omega)
theorem Ls.mono (s:Ls e sz enc tm ok h b p l c us) (hb:b'≤b):Ls e sz enc tm ok h b' p l c us :=
 ⟨Sx.SL.mono s.sl hb,fun u hu=>Sx.SL.mono (s.own u hu) hb,s.ok⟩
theorem Ls.len (s:Ls e sz enc tm ok h b p l c us):l=us.length:=by rw [s.sl.1,List.length_map]
end
theorem Stp.many {α:Type} {most:Option Nat} {f:Nat→Bt→Rd α} {full:Bt} {fr:Nat} {st st1:St} {n:Nat} (p:Stp (numR 2) st n st1) (ho:over most n=true) (hat:∀ r,st=.ok r→full.length-fr=r.length) (x:α):Stp (cntR most f) st x (refS full fr 4 st1):=by
 cases st with
 | error e =>
  have p:st1=.error e:=p
  rw [p]
  rfl
 | ok r =>
  unfold Stp at p ⊢
  simp only at p ⊢
  unfold cntR
  cases hf:numR 2 r with
  | error e =>
   rw [hf] at p
   have p:st1=.error e:=p
   rw [p]
   rfl
  | ok q =>
   rw [hf] at p
   obtain ⟨rfl,p⟩:=p
   obtain ⟨q1,q2⟩:=q
   rw [andR_okk,if_pos (show over most q1=true from ho),p]
   show refS full fr 4 (.ok q2)=.error (r.length,4)
   unfold refS
   simp only
   rw [hat r rfl]
abbrev ptr (g:Nat):Value:=.pointer (some ⟨g,0,none⟩)
section
variable {h0 h:Hp} {g gm:Nat} {bp:Option Addr} {bl bc:Nat} {full:Bt} {st:St} {D:List ByteArray}
abbrev LsI:=Ls 54 10 (fun s x=>encI s.p s.l s.c x) (fun x=>x.e.terms) ItmRd
abbrev LsS:=Ls 9 1 (fun _ (x:ByteArray)=>[.string x]) (fun _=>[]) (fun x=>x.size<65536)
end
def Apt (a b:Sli):Prop:=∀ i,i∈blkOf a.p→i∉blkOf b.p
theorem Apt.zero:Apt ⟨none,0,0⟩ ⟨none,0,0⟩:=fun i hi=>by simp [blkOf] at hi
theorem SL.at_ {h:Hp} {b:Nat} {e:TypeId} {sz:Nat} {p:Option Addr} {l c:Nat} {xs:List (List Value)} (s:SL h b e sz p l c xs) {i:Nat} (hi:i<xs.length):∃ a,p=some a∧cellsAt h (a.add (i*sz)) 0 xs[i]:=Sx.SL.cells s hi
theorem LsI.at {h:Hp} {b:Nat} {p:Option Addr} {l c:Nat} {us:List (Sli × Itm)} (s:LsI h b p l c us) (hn:us.length≤65535):VwI h p l (us.map (·.2)):=by
 refine ⟨by rw [s.len,List.length_map],by rw [List.length_map]; omega,fun i hi=>?_⟩
 rw [List.length_map] at hi
 obtain ⟨a,ha,hc⟩:=SL.at_ s.sl (i:=i) (by rw [List.length_map]; exact hi)
 rw [List.getElem_map] at hc ⊢
 exact ⟨a,_,_,_,ha,hc,(s.ok _ (List.getElem_mem hi)).at (s.own _ (List.getElem_mem hi))⟩
theorem LsS.at {h:Hp} {b:Nat} {p:Option Addr} {l c:Nat} {us:List (Sli × ByteArray)} (s:LsS h b p l c us) (hn:us.length≤65535):VwS h p l (us.map (·.2)):=by
 refine ⟨by rw [s.len,List.length_map],by rw [List.length_map]; omega,fun i hi=>?_⟩
 rw [List.length_map] at hi
 obtain ⟨a,ha,hc⟩:=SL.at_ s.sl (i:=i) (by rw [List.length_map]; exact hi)
 rw [List.getElem_map] at hc ⊢
 have ok:=s.ok _ (List.getElem_mem hi)
 exact ⟨a,ha,hc,by unfold maxLen; omega⟩
theorem eqN_t {a b:Nat} (h:(((a:Nat):Int)==((b:Nat):Int))=true):a=b:=by
 have:=eq_of_beq h
 omega
theorem eqN_f {a b:Nat} (h:(((a:Nat):Int)==((b:Nat):Int))=false):¬ a=b:=by
 rintro rfl
 simp at h
theorem itm_ext {x y:Itm} (r1:x.kind=y.kind) (r2:x.name=y.name) (r3:x.inst=y.inst) (r4:x.e=y.e) (r5:x.n=y.n):x=y:=by
 cases x
 cases y
 simp_all
theorem cond_sw {L:Lp} {K:Value→Hp→Prop} {h:Hp} {b:Bool} {t u:T} (hu:b=false→u L K h) (ht:b=true→t L K h):(cond b t u) L K h:=cond_mk ht hu
def sameT (l0 l1:Nat) (body:Int→T→T):T :=
 cond ((l0:Int) != (l1:Int))
 (T.ret (.bool false))
 (T.loop [(false,[.bool]),(false,[.int .i64])] [.bool false,.int .i64 (0:Int)] <| fun (b2:Bool) (n3:Int) =>
 cond (decide (n3<(l0:Int)))
  (body n3 (T.again 0 [.bool b2,.int .i64 (IntKind.wrap .i64 (n3+(1:Int)))]))
  (T.ret (.bool true)))
theorem getE {α:Type} {xs ys:List α} (e:xs=ys) {i:Nat} (h1:i<xs.length) (h2:i<ys.length):xs[i]=ys[i]:=by
 subst e
 rfl
theorem cellsAt_add {h:Hp} {a:Addr}:∀ (vs:List Value) (o i:Nat),cellsAt h a (o+i) vs→cellsAt h (a.add o) i vs
 | [],_,_,_=>trivial
 | v::vs,o,i,hc=>⟨by rw [add_add]; exact hc.1,cellsAt_add vs o (i+1) hc.2⟩
def Eqw {α:Type} (x y:α) (h:Hp) (w:Value) (h':Hp):Prop:=∃ b:Bool,w=.bool b∧(b=true↔x=y)∧Ext h h'
theorem sameT_of {α:Type} {xs ys:List α} {l0 l1:Nat} (h0:l0=xs.length) (h1:l1=ys.length) (hm:xs.length≤2^60) {body:Int→T→T} {h:Hp}
  (hb:∀ (L:Lp) (h':Hp) (i:Nat) (hi:i<xs.length) (hj:i<ys.length) (k:T),Ext h h'→(xs[i]=ys[i]→∀ h'',Ext h h''→k L (Eqw xs ys h) h'')→(xs[i]≠ys[i]→∀ h'',Ext h h''→Eqw xs ys h (.bool false) h'')→body (i:Int) k L (Eqw xs ys h) h') :
  sameT l0 l1 body [] (Eqw xs ys h) h:=by
 subst h0 h1
 unfold sameT
 refine cond_mk (fun q=>?_) (fun q=>?_)
 ·refine ⟨false,rfl,⟨fun h=>(by cases h),fun e=>?_⟩,Ch.refl _ _⟩
  rw [e] at q
  simp at q
 have q:xs.length=ys.length:=by
  have:(((xs.length:Nat):Int)==((ys.length:Nat):Int))=true:=by
   simpa using q
  exact eqN_t this
 refine loop_of (cs:=[(false,[.bool]),(false,[.int .i64])]) (fun y m h'=>∃ i:Nat,y.1=false∧y.2.1=(i:Int)∧m=xs.length-i∧i≤xs.length∧Ext h h'∧∀ j,(hj:j<i)→(h1:j<xs.length)→(h2:j<ys.length)→xs[j]=ys[j]) (false,(0:Int),()) xs.length rfl
  ⟨0,rfl,rfl,rfl,by omega,Ch.refl _ _,fun j hj=>by omega⟩ ?_
 rintro ⟨b2,n3,⟨⟩⟩ m h1 ⟨i,hy1,hy2,rfl,hi,e1,hj⟩
 simp only at hy1 hy2
 subst hy1 hy2
 dsimp only [flat,unc,unc1,nA,cA]
 refine cond_mk (fun r=>?_) (fun r=>?_)
 ·have r:=of_decide_eq_true r
  refine hb _ h1 i (by omega) (by omega) _ e1 (fun he h2 e2=>?_) (fun hne h2 e2=>?_)
  ·rw [wrap_i64 (by omega) (by omega)]
   refine again_mk (cs:=[(false,[.bool]),(false,[.int .i64])]) (false,((i+1:Nat):Int),()) (xs.length-(i+1)) rfl (by omega) rfl ?_
   refine ⟨i+1,rfl,rfl,rfl,by omega,e2,fun j hj' a b=>?_⟩
   by_cases hji:j<i
   ·exact hj j hji a b
   ·have:j=i:=by omega
    subst this
    exact he
  ·exact ⟨false,rfl,⟨fun h=>(by cases h),fun e=>absurd (getE e (by omega) (by omega)) hne⟩,e2⟩
 ·have r:=of_decide_eq_false r
  refine ⟨true,rfl,⟨fun _=>?_,fun _=>rfl⟩,e1⟩
  exact List.ext_getElem q fun j a b=>hj j (by omega) a b
theorem beqL (s t:ByteArray):(ByteArray.toList s==ByteArray.toList t)=decide (s=t):=by
 rw [ByteArray.toList_eq,ByteArray.toList_eq]
 by_cases h:s=t
 ·rw [decide_eq_true h,h]; simp
 ·rw [decide_eq_false h]
  have:¬ s.data.toList=t.data.toList:=fun e=>h (ba_ext e)
  simpa using this
theorem linB_iff (x y:Lin):linB x y=true↔x=y:=by
 obtain ⟨a,b⟩:=x
 obtain ⟨c,d⟩:=y
 unfold linB
 simp
 exact and_comm
theorem cmpInsE (x y:Operand) (i j:Ins) (h:Hp) (K:Value→Hp→Prop) (hk:K (.bool (decide (i=j))) h) :
  semW Tryz.prog (Sx.cmpS (BinOp.eql) 52 x y (.agg (insC i).toArray) (.agg (insC j).toArray)) h K:=by
 refine cmpS_eql ins77 (by kernel_rfl) (by kernel_rfl) (by kernel_rfl) K ?_
 have he:(flds Tryz.prog 52).all (eqF (insC i).toArray (insC j).toArray)=(i.op==j.op && (i.a==j.a && (i.b==j.b && (i.n==j.n && (i.form==j.form && true))))):=by
  rw [← Array.all_toList]
  kernel_rfl
 rw [he,Bool.and_true]
 have:(i.op==j.op && (i.a==j.a && (i.b==j.b && (i.n==j.n && i.form==j.form))))=decide (i=j):=by
  rcases i with ⟨a1,a2,a3,a4,a5⟩
  rcases j with ⟨c1,c2,c3,c4,c5⟩
  simp only [beqD,Ins.mk.injEq]
  by_cases h1:a1=c1 <;> by_cases h2:a2=c2 <;> by_cases h3:a3=c3 <;> by_cases h4:a4=c4 <;> by_cases h5:a5=c5 <;> simp [h1,h2,h3,h4,h5]
 rw [this]
 exact hk
theorem sameItem_hc {h:Hp} {p q:Option Addr} {l c m d:Nat} {x y:Itm} (v:LinAt h p l x.e) (w:LinAt h q m y.e):HC Tryz.prog 53 #[itmV p l c x,itmV q m d y] h (Eqw x y h):=by
 refine hcr_of (args:=[itmV p l c x,itmV q m d y]) mixed Tryz.func53 (by kernel_rfl) (t_spandrelkeep_SameItem_eq x.kind x.name x.inst.op x.inst.a x.inst.b x.inst.n x.inst.form p l c x.e.num x.n y.kind y.name y.inst.op y.inst.a y.inst.b y.inst.n y.inst.form q m d y.e.num y.n) ?_
 unfold t_spandrelkeep_SameItem
 refine newB ?_
 intro h1 b1 e1 z1
 refine newB ?_
 intro h2 b2 e2 z2
 have b1:Box h2 h.size 54 (encI p l c x):=b1.keep e2 (by simp)
 have b2:Box h2 h1.size 54 (encI q m d y):=b2
 have e:=e1.trans e2
 have no:∀ h',Ext h h'→x≠y→Eqw x y h (.bool false) h':=fun h' e hn=>⟨false,rfl,⟨fun h=>(by cases h),fun e=>absurd e hn⟩,e⟩
 simp only [add_box]
 refine loads_box b1 (x.kind,()) rfl ?_
 dsimp only [flat,unc,unc1,nA,cA]
 refine loads_box b2 (y.kind,()) rfl ?_
 dsimp only [flat,unc,unc1,nA,cA]
 refine cond_sw (fun r1=>?_) (fun r1=>?_)
 ·have r1:¬ x.kind=y.kind:=by simpa using r1
  exact no h2 e (fun e=>r1 (by rw [e]))
 have r1:x.kind=y.kind:=by simpa using r1
 refine loads_box b1 (x.name,()) rfl ?_
 dsimp only [flat,unc,unc1,nA,cA]
 refine loads_box b2 (y.name,()) rfl ?_
 dsimp only [flat,unc,unc1,nA,cA]
 rw [beqL]
 refine cond_sw (fun r2=>?_) (fun r2=>?_)
 ·have r2:¬ x.name=y.name:=by simpa using r2
  exact no h2 e (fun e=>r2 (by rw [e]))
 have r2:x.name=y.name:=by simpa using r2
 refine loads_box b1 (x.inst.op,x.inst.a,x.inst.b,x.inst.n,x.inst.form,()) rfl ?_
 dsimp only [flat,unc,unc1,nA,cA]
 refine loads_box b2 (y.inst.op,y.inst.a,y.inst.b,y.inst.n,y.inst.form,()) rfl ?_
 dsimp only [flat,unc,unc1,nA,cA]
 refine sem_bool (fun K' hK=>cmpInsE _ _ x.inst y.inst h2 K' hK) ?_
 refine cond_sw (fun r3=>?_) (fun r3=>?_)
 ·have r3:¬ x.inst=y.inst:=by simpa using r3
  exact no h2 e (fun e=>r3 (by rw [e]))
 have r3:x.inst=y.inst:=by simpa using r3
 refine loads_box b1 ((p,l,c),(x.e.num:Int),()) rfl ?_
 dsimp only [flat,unc,unc1,nA,cA]
 refine loads_box b2 ((q,m,d),(y.e.num:Int),()) rfl ?_
 dsimp only [flat,unc,unc1,nA,cA]
 refine call_of (same48_hc (c:=c) (d:=d) (v.keep e).vw (w.keep e).vw v.many) ?_
 rintro _ h3 ⟨rfl,e3⟩
 refine ⟨(linB x.e y.e,()),rfl,?_⟩
 dsimp only [flat,unc,unc1,nA,cA]
 refine cond_sw (fun r4=>?_) (fun r4=>?_)
 ·refine no h3 (e.trans e3) (fun e=>?_)
  rw [(linB_iff _ _).2 (by rw [e])] at r4
  cases r4
 have r4:=(linB_iff _ _).1 r4
 refine loads_box (b1.keep e3 (by simp)) (x.n,()) rfl ?_
 dsimp only [flat,unc,unc1,nA,cA]
 refine loads_box (b2.keep e3 (by simp)) (y.n,()) rfl ?_
 refine ⟨x.n==y.n,rfl,⟨fun r5=>?_,fun e=>by rw [e]; simp⟩,e.trans e3⟩
 have r5:x.n=y.n:=by simpa using r5
 exact itm_ext r1 r2 r3 r4 r5
theorem sameItems_hc {h:Hp} {p q:Option Addr} {l c m d:Nat} {xs ys:List Itm} (v:VwI h p l xs) (w:VwI h q m ys):HC Tryz.prog 25 #[.slice p l c,.slice q m d] h (Eqw xs ys h):=by
 refine hcr_of (args:=[.slice p l c,.slice q m d]) mixed Tryz.func25 (by kernel_rfl) (t_spandrelkeep_SameItems_eq p l c q m d) ?_
 refine sameT_of (body:=fun n3 k=>T.need (((0:Int)≤n3)∧(n3<(l:Int))) <|
  T.osome p <| fun (a4:Addr) =>
  T.loads (a4.add ((Int.toNat n3)*10)) [.int .i64,.string,.int .i64,.int .i64,.int .i64,.int .i32,.int .i64,.slice 50,.int .u32,.int .i64] <| fun (n5:Int) (s6:ByteArray) (n7:Int) (n8:Int) (n9:Int) (n10:Int) (n11:Int) (p12:Option Addr) (l13:Nat) (l14:Nat) (n15:Int) (n16:Int) =>
  T.need (((0:Int)≤n3)∧(n3<(m:Int))) <|
  T.osome q <| fun (a17:Addr) =>
  T.loads (a17.add ((Int.toNat n3)*10)) [.int .i64,.string,.int .i64,.int .i64,.int .i64,.int .i32,.int .i64,.slice 50,.int .u32,.int .i64] <| fun (n18:Int) (s19:ByteArray) (n20:Int) (n21:Int) (n22:Int) (n23:Int) (n24:Int) (p25:Option Addr) (l26:Nat) (l27:Nat) (n28:Int) (n29:Int) =>
  T.call Tryz.prog 53 [.agg #[.int .i64 n5,.string s6,.int .i64 n7,.int .i64 n8,.int .i64 n9,.int .i32 n10,.int .i64 n11,.slice p12 l13 l14,.int .u32 n15,.int .i64 n16],.agg #[.int .i64 n18,.string s19,.int .i64 n20,.int .i64 n21,.int .i64 n22,.int .i32 n23,.int .i64 n24,.slice p25 l26 l27,.int .u32 n28,.int .i64 n29]] false [(false,[.bool])] <| fun (b30:Bool) =>
  cond (!b30)
  (T.ret (.bool false)) k) v.len w.len v.many ?_
 intro L h' i hi hj k e1 hk hn
 have vl:=v.len
 have wl:=w.len
 obtain ⟨a,p1,l1,c1,rfl,hc,va⟩:=(v.keep e1).cells i hi
 obtain ⟨b,q1,m1,d1,rfl,hd,wa⟩:=(w.keep e1).cells i hj
 refine need_of ⟨by omega,by omega⟩ ?_
 refine osome_mk rfl ?_
 refine loads_of (xs[i].kind,xs[i].name,xs[i].inst.op,xs[i].inst.a,xs[i].inst.b,xs[i].inst.n,xs[i].inst.form,(p1,l1,c1),(xs[i].e.num:Int),xs[i].n,()) hc ?_
 dsimp only [flat,unc,unc1,nA,cA]
 refine need_of ⟨by omega,by omega⟩ ?_
 refine osome_mk rfl ?_
 refine loads_of (ys[i].kind,ys[i].name,ys[i].inst.op,ys[i].inst.a,ys[i].inst.b,ys[i].inst.n,ys[i].inst.form,(q1,m1,d1),(ys[i].e.num:Int),ys[i].n,()) hd ?_
 dsimp only [flat,unc,unc1,nA,cA]
 refine call_of (sameItem_hc (c:=c1) (d:=d1) va.lin wa.lin) ?_
 rintro _ h2 ⟨b,rfl,hb,e2⟩
 refine ⟨(b,()),rfl,?_⟩
 dsimp only [flat,unc,unc1,nA,cA]
 refine cond_mk (fun u=>?_) (fun u=>?_)
 ·have u:b=false:=by simpa using u
  refine hn (fun e=>?_) h2 (e1.trans e2)
  rw [hb.2 e] at u
  cases u
 ·have u:b=true:=by simpa using u
  exact hk (hb.1 u) h2 (e1.trans e2)
def sizeU (u:Unt):Nat:=u.text.length+u.data.length+u.equs.length
def sizes (us:List Unt):Nat:=(us.map sizeU).sum
end Go.Sx.Ob
set_option linter.unusedVariables false
set_option linter.unusedSimpArgs false
set_option maxRecDepth 100000
namespace Go.Sx
open Go.Proofs
end Go.Sx
set_option linter.unusedVariables false
set_option linter.unusedSimpArgs false
set_option maxRecDepth 100000
namespace Go.Sx.Ob
open Go.Proofs
def opsP:Array (Nat × Value):=#[(0,.agg #[.string ⟨#[110,111,112]⟩,.int .u8 (0:Int),.int .i64 (1:Int)]),(1,.agg #[.string ⟨#[104,97,108,116]⟩,.int .u8 (1:Int),.int .i64 (1:Int)]),(2,.agg #[.string ⟨#[114,101,116]⟩,.int .u8 (2:Int),.int .i64 (1:Int)]),(3,.agg #[.string ⟨#[112,114,105,110,116]⟩,.int .u8 (3:Int),.int .i64 (2:Int)]),(4,.agg #[.string ⟨#[105,110]⟩,.int .u8 (4:Int),.int .i64 (2:Int)]),(5,.agg #[.string ⟨#[112,117,115,104]⟩,.int .u8 (5:Int),.int .i64 (2:Int)]),(6,.agg #[.string ⟨#[112,111,112]⟩,.int .u8 (6:Int),.int .i64 (2:Int)]),(7,.agg #[.string ⟨#[106,114]⟩,.int .u8 (7:Int),.int .i64 (2:Int)]),(8,.agg #[.string ⟨#[110,101,103]⟩,.int .u8 (8:Int),.int .i64 (2:Int)]),(9,.agg #[.string ⟨#[110,111,116]⟩,.int .u8 (9:Int),.int .i64 (2:Int)]),(10,.agg #[.string ⟨#[122,116,117,114,110]⟩,.int .u8 (10:Int),.int .i64 (3:Int)]),(11,.agg #[.string ⟨#[122,99,111,110,106]⟩,.int .u8 (11:Int),.int .i64 (3:Int)]),(12,.agg #[.string ⟨#[109,111,118]⟩,.int .u8 (16:Int),.int .i64 (4:Int)]),(13,.agg #[.string ⟨#[97,100,100]⟩,.int .u8 (17:Int),.int .i64 (4:Int)]),(14,.agg #[.string ⟨#[115,117,98]⟩,.int .u8 (18:Int),.int .i64 (4:Int)]),(15,.agg #[.string ⟨#[109,117,108]⟩,.int .u8 (19:Int),.int .i64 (4:Int)]),(16,.agg #[.string ⟨#[100,105,118]⟩,.int .u8 (20:Int),.int .i64 (4:Int)]),(17,.agg #[.string ⟨#[97,110,100]⟩,.int .u8 (21:Int),.int .i64 (4:Int)]),(18,.agg #[.string ⟨#[111,114]⟩,.int .u8 (22:Int),.int .i64 (4:Int)]),(19,.agg #[.string ⟨#[120,111,114]⟩,.int .u8 (23:Int),.int .i64 (4:Int)]),(20,.agg #[.string ⟨#[115,104,108]⟩,.int .u8 (24:Int),.int .i64 (4:Int)]),(21,.agg #[.string ⟨#[115,104,114]⟩,.int .u8 (25:Int),.int .i64 (4:Int)]),(22,.agg #[.string ⟨#[108,116]⟩,.int .u8 (26:Int),.int .i64 (4:Int)]),(23,.agg #[.string ⟨#[101,113]⟩,.int .u8 (27:Int),.int .i64 (4:Int)]),(24,.agg #[.string ⟨#[108,100,98]⟩,.int .u8 (28:Int),.int .i64 (4:Int)]),(25,.agg #[.string ⟨#[108,100,119]⟩,.int .u8 (29:Int),.int .i64 (4:Int)]),(26,.agg #[.string ⟨#[108,100,109]⟩,.int .u8 (30:Int),.int .i64 (4:Int)]),(27,.agg #[.string ⟨#[115,116,109]⟩,.int .u8 (31:Int),.int .i64 (4:Int)]),(28,.agg #[.string ⟨#[122,109,111,118]⟩,.int .u8 (32:Int),.int .i64 (5:Int)]),(29,.agg #[.string ⟨#[122,97,100,100]⟩,.int .u8 (33:Int),.int .i64 (5:Int)]),(30,.agg #[.string ⟨#[122,115,117,98]⟩,.int .u8 (34:Int),.int .i64 (5:Int)]),(31,.agg #[.string ⟨#[122,109,117,108]⟩,.int .u8 (35:Int),.int .i64 (5:Int)]),(32,.agg #[.string ⟨#[122,114,101]⟩,.int .u8 (36:Int),.int .i64 (6:Int)]),(33,.agg #[.string ⟨#[122,105,109]⟩,.int .u8 (37:Int),.int .i64 (6:Int)]),(34,.agg #[.string ⟨#[122,115,101,116]⟩,.int .u8 (38:Int),.int .i64 (7:Int)]),(35,.agg #[.string ⟨#[108,105,115]⟩,.int .u8 (48:Int),.int .i64 (8:Int)]),(36,.agg #[.string ⟨#[116,114,97,112]⟩,.int .u8 (49:Int),.int .i64 (9:Int)]),(37,.agg #[.string ⟨#[108,105]⟩,.int .u8 (50:Int),.int .i64 (10:Int)]),(38,.agg #[.string ⟨#[108,100,112]⟩,.int .u8 (51:Int),.int .i64 (11:Int)]),(39,.agg #[.string ⟨#[106,109,112]⟩,.int .u8 (64:Int),.int .i64 (12:Int)]),(40,.agg #[.string ⟨#[99,97,108,108]⟩,.int .u8 (67:Int),.int .i64 (12:Int)]),(41,.agg #[.string ⟨#[106,122]⟩,.int .u8 (70:Int),.int .i64 (13:Int)]),(42,.agg #[.string ⟨#[106,110,122]⟩,.int .u8 (73:Int),.int .i64 (13:Int)])]
def opsN (k:Nat):ByteArray:=match opsP[k]? with | some (_,.agg #[.string s,_,_])=>s | _=>⟨#[]⟩
def opsB (k:Nat):Int:=match opsP[k]? with | some (_,.agg #[_,.int _ b,_])=>b | _=>0
theorem u168:Tryz.prog.underlying 135=some (.slice 137):=by kernel_rfl
theorem opZ:(Tryz.prog.info? 137).map (fun i=>(i.zero,i.size,i.bytes))=some (some (.agg #[.string ⟨#[]⟩,.int .u8 0,.int .i64 0]),3,32):=by kernel_rfl
theorem fillOps:Instr.fill (fun j=>some (j*3,3)) ((Array.range (43*3)).map ((Value.agg #[.string ⟨#[]⟩,.int .u8 0,.int .i64 0]).cells[· % (Value.agg #[.string ⟨#[]⟩,.int .u8 0,.int .i64 0]).cells.size]!)) opsP.toList=some (rowsV opsN opsB).toArray:=by kernel_rfl
theorem ops_hc (h:Hp):HC Tryz.prog 73 #[] h fun v h'=>v=.slice (some ⟨h.size,0,none⟩) 43 43∧Box h' h.size 137 (rowsV opsN opsB)∧Ext h h':=by
 refine hcr_of (args:=[]) mixed Tryz.func73 (by kernel_rfl) t_spandrelref5_Ops_eq ?_
 show (T.sem Tryz.prog (Instr.buildSlice 135 43 opsP) false [(false,[.slice 0])] <| fun (p0:Option Addr) (l1:Nat) (l2:Nat)=>T.ret (.slice p0 l1 l2)) [] _ h
 refine lit_of u168 opZ (by omega) (by omega) fillOps ?_
 intro h1 b1 e1 z1
 exact ⟨rfl,b1,e1⟩
theorem rowsV_shp {nm:Nat→ByteArray} {by_:Nat→Int} {k:Nat} (hk:k<43):(rowsV nm by_)[k*3+2]?=some (.int .i64 (shpL.getD k 0:Nat)):=by
 unfold rowsV
 rw [flat_get _ 3 (by simp) _ _ _ (by omega)]
 simp [hk]
theorem shape_hc (h:Hp) (op:Int) (ho:Sm op):HC Tryz.prog 69 #[.int .i64 op] h fun w h'=>w=.int .i64 (shp op:Nat)∧Ext h h':=by
 refine hcr_of (args:=[.int .i64 op]) mixed Tryz.func69 (by kernel_rfl) (t_spandrelref5_Shape_eq op) ?_
 unfold t_spandrelref5_Shape
 refine call_of (ops_hc h) ?_
 rintro _ h1 ⟨rfl,b1,e1⟩
 refine ⟨((some ⟨h.size,0,none⟩,43,43),()),rfl,?_⟩
 dsimp only [flat,unc,unc1,nA,cA]
 have z0:op<1∨43<op→shp op=0:=by
  intro hh
  by_cases h0:shp op=0
  ·exact h0
  ·have:=shp_le op h0
   omega
 refine cond_mk (fun q=>?_) (fun q=>?_)
 ·have q:=of_decide_eq_true q
  rw [z0 (.inl q)]
  exact ⟨rfl,e1⟩
 have q:=of_decide_eq_false q
 refine cond_mk (fun r=>?_) (fun r=>?_)
 ·have r:op>((43:Nat):Int):=of_decide_eq_true r
  rw [z0 (.inr (by omega))]
  exact ⟨rfl,e1⟩
 have r:¬ op>((43:Nat):Int):=of_decide_eq_false r
 obtain ⟨k,hk⟩:∃ k:Nat,op=(k:Int)+1:=⟨(op-1).toNat,by omega⟩
 rw [wrap_i64 (by omega) (by omega),show op-1=(k:Int) by omega]
 have hk43:k<43:=by omega
 refine need_of ⟨by omega,by omega⟩ ?_
 refine osome_mk rfl ?_
 rw [show Int.toNat (k:Int)=k from rfl,add_box,add_box]
 have hs:shp op=shpL.getD k 0:=by
  unfold shp
  rw [if_neg (by omega),show (op-1).toNat=k by omega]
 refine loads_box b1 (((shpL.getD k 0:Nat):Int),()) ?_ ?_
 ·show List.take 1 (List.drop (0+k*3+2) (rowsV opsN opsB))=[.int .i64 ((shpL.getD k 0:Nat):Int)]
  have:=rowsV_shp (nm:=opsN) (by_:=opsB) hk43
  rw [Nat.zero_add]
  obtain ⟨hlt,hv⟩:=List.getElem?_eq_some_iff.1 this
  rw [List.drop_eq_getElem_cons hlt,List.take_succ_cons,List.take_zero,hv]
 ·rw [hs]
  exact ⟨rfl,e1⟩
theorem spans2_hc (h:Hp) (op:Int) (ho:Sm op):HC Tryz.prog 41 #[.int .i64 op] h fun w h'=>w=.bool (spn op)∧Ext h h':=by
 refine hcr_of (args:=[.int .i64 op]) mixed Tryz.func41 (by kernel_rfl) (t_spandrelref5_Spans_eq op) ?_
 unfold t_spandrelref5_Spans
 have hc:=shp_cases op
 refine call_of (shape_hc h op ho) ?_
 rintro _ h1 ⟨rfl,e1⟩
 refine ⟨(((shp op:Nat):Int),()),rfl,?_⟩
 dsimp only [flat,unc,unc1,nA,cA]
 refine cond_mk (fun q=>?_) (fun q=>?_)
 ·have q:shp op=12:=eqN_t q
  exact ⟨by unfold spn; rw [q]; rfl,e1⟩
 have q:¬ shp op=12:=eqN_f q
 refine call_of (shape_hc h1 op ho) ?_
 rintro _ h2 ⟨rfl,e2⟩
 refine ⟨(((shp op:Nat):Int),()),rfl,?_⟩
 refine ⟨?_,e1.trans e2⟩
 congr 1
 unfold spn
 by_cases g:shp op=13
 ·rw [g]; rfl
 ·rw [decide_eq_false (by omega)]
  exact neK (c:=13) g
theorem hasE_hc (h:Hp) (op:Int) (ho:Sm op):HC Tryz.prog 43 #[.int .i64 op] h fun w h'=>w=.bool (wnt op)∧Ext h h':=by
 refine hcr_of (args:=[.int .i64 op]) mixed Tryz.func43 (by kernel_rfl) (t_spandrelref8_HasE_eq op) ?_
 unfold t_spandrelref8_HasE
 have hc:=shp_cases op
 refine call_of (shape_hc h op ho) ?_
 rintro _ h1 ⟨rfl,e1⟩
 refine ⟨(((shp op:Nat):Int),()),rfl,?_⟩
 dsimp only [flat,unc,unc1,nA,cA]
 refine cond_mk (fun q=>?_) (fun q1=>?_)
 ·have q:shp op=10:=eqN_t q
  exact ⟨by unfold wnt; rw [q]; rfl,e1⟩
 have q1:¬ shp op=10:=eqN_f q1
 refine cond_mk (fun q=>?_) (fun q2=>?_)
 ·have q:shp op=11:=eqN_t q
  exact ⟨by unfold wnt; rw [q]; rfl,e1⟩
 have q2:¬ shp op=11:=eqN_f q2
 refine cond_mk (fun q=>?_) (fun q3=>?_)
 ·have q:shp op=12:=eqN_t q
  exact ⟨by unfold wnt; rw [q]; rfl,e1⟩
 have q3:¬ shp op=12:=eqN_f q3
 refine ⟨?_,e1⟩
 congr 1
 unfold wnt
 by_cases g:shp op=13
 ·rw [g]; rfl
 ·rw [decide_eq_false (by omega)]
  exact neK (c:=13) g
theorem fits_hc (h:Hp) (n w:Int):HCp Tryz.prog 71 [.int .i32 n,.int .i64 w] h (.bool ((decide (w=1) || decide (w=2) || decide (w=4)) && nReach n w)):=by
 refine hcp_of mixed Tryz.func71 (by kernel_rfl) (t_spandrelref1_Fits_eq n w) ?_
 unfold t_spandrelref1_Fits nReach
 refine cond_mk (fun q=>?_) (fun q1=>?_)
 ·have q:w=1:=by simpa using q
  rw [if_pos q,q]
  refine cond_mk (fun r=>⟨?_,rfl⟩) (fun r=>⟨?_,rfl⟩)
  ·have r:=of_decide_eq_true r
   rw [decide_eq_true (show -128≤n from r)]
   simp
  ·have r:=of_decide_eq_false r
   rw [decide_eq_false (show ¬ -128≤n from r)]
   simp
 have q1:¬ w=1:=by simpa using q1
 rw [if_neg q1]
 refine cond_mk (fun q=>?_) (fun q2=>?_)
 ·have q:w=2:=by simpa using q
  rw [if_pos q,q]
  refine cond_mk (fun r=>⟨?_,rfl⟩) (fun r=>⟨?_,rfl⟩)
  ·have r:=of_decide_eq_true r
   rw [decide_eq_true (show -32768≤n from r)]
   simp
  ·have r:=of_decide_eq_false r
   rw [decide_eq_false (show ¬ -32768≤n from r)]
   simp
 have q2:¬ w=2:=by simpa using q2
 rw [if_neg q2]
 refine cond_mk (fun q=>?_) (fun q3=>?_)
 ·have q:w=4:=by simpa using q
  rw [q]
  exact ⟨rfl,rfl⟩
 ·have q3:¬ w=4:=by simpa using q3
  rw [decide_eq_false q1,decide_eq_false q2,decide_eq_false q3]
  exact ⟨rfl,rfl⟩
structure Thg where
 kind:Nat
 items:List Itm
 name:ByteArray
 e:Lin
 sec:Nat
def thg0:Thg:=⟨0,[],nam0,lin0,0⟩
def regA (z:Bool):List Tok→Except Nat Int
 | [t]=>if t.kind=1∧(regL t.text.data.toList).2.2=true∧(regL t.text.data.toList).2.1=z then .ok (regL t.text.data.toList).1 else .error 20
 | _=>.error 20
def numA (lo hi:Int) (ts:List Tok):Except Nat Int :=
 match parseX ts with
 | .error e=>.error e
 | .ok x=>if x.terms≠[]∨s32 x.num<lo∨hi<s32 x.num then .error 21 else .ok (s32 x.num)
def namA:List Tok→Except Nat ByteArray
 | [t]=>if t.kind=1∧legalL t.text.data.toList=true then .ok t.text else .error 20
 | _=>.error 20
inductive Rdr where
 | reg (z second third:Bool)
 | con (lo hi:Int)
 | val (pool:Bool)
def rdrs (s:Nat):List Rdr :=
 if s=1 then []
 else if s=2 then [.reg false false false]
 else if s=3 then [.reg true false false]
 else if s=4 then [.reg false false false,.reg false true false]
 else if s=5 then [.reg true false false,.reg true true false]
 else if s=6 then [.reg false false false,.reg true true false]
 else if s=7 then [.reg true false false,.reg false true false,.reg false false true]
 else if s=8 then [.reg false false false,.con (-128) 127]
 else if s=9 then [.con 0 255]
 else if s=11 then [.reg false false false,.val true]
 else if s=12 then [.val false]
 else [.reg false false false,.val false]
def putN (x:Itm) (n:Int):Itm:={ x with inst:={ x.inst with n:=n } }
def putA (x:Itm) (n:Int):Itm:={ x with inst:={ x.inst with a:=n } }
def putB (x:Itm) (n:Int):Itm:={ x with inst:={ x.inst with b:=n } }
def putE (x:Itm) (e:Lin):Itm:={ x with e:=e }
def valA (pool:Bool) (ts:List Tok):Except Nat Lin :=
 match pool with
 | false=>parseX ts
 | true=>match ts with
  | []=>.error 20
  | t::r=>if isS t 61=true then parseX r else .error 20
def argA (x:Itm) (r:Rdr) (ts:List Tok):Except Nat Itm :=
 match r with
 | .reg z second third=>match regA z ts with
  | .error e=>.error e
  | .ok n=>.ok (if third then putN x n else if second then putB x n else putA x n)
 | .con lo hi=>match numA lo hi ts with
  | .error e=>.error e
  | .ok n=>.ok (putN x n)
 | .val pool=>match valA pool ts with
  | .error e=>.error e
  | .ok y=>.ok (putE x y)
def codeL:Itm→List Rdr→List (List Tok)→Except Nat Itm
 | x,r::rs,t::ts=>match argA x r t with
  | .error e=>.error e
  | .ok y=>codeL y rs ts
 | x,_,_=>.ok x
def code0 (op:Int):Itm:={ itm 2 with inst:={ ins0 with op:=op } }
def codeA (op:Int) (args:List (List Tok)):Except Nat Itm :=
 if (rdrs (shp op)).length≠args.length then .error 20 else codeL (code0 op) (rdrs (shp op)) args
def itemA (k:Nat) (ts:List Tok):Except Nat Itm :=
 if k=5 then match numA (-128) 255 ts with
  | .error e=>.error e
  | .ok n=>.ok { itm 5 with n:=n }
 else match parseX ts with
  | .error e=>.error e
  | .ok x=>.ok { itm k with e:=x }
def itemsA (k:Nat):List (List Tok)→Except Nat (List Itm)
 | []=>.ok []
 | t::ts=>match itemA k t with
  | .error e=>.error e
  | .ok x=>match itemsA k ts with
   | .error e=>.error e
   | .ok l=>.ok (x::l)
def cntA (op:ByteArray):Int :=
 let o:=op.data.toList
 if o=[112,111,111,108] then 0
 else if o=[97,108,105,103,110]∨o=[115,112,97,99,101]∨o=[103,108,111,98,97,108]∨o=[115,101,99,116,105,111,110] then 1
 else if o=[101,113,117] then 2
 else if o=[98,121,116,101]∨o=[119,111,114,100] then -1
 else -2
def oneT (x:Itm):Thg:={ thg0 with kind:=1,items:=[x] }
def ag (args:List (List Tok)) (i:Nat):List Tok:=args.getD i []
def dirA (op:ByteArray) (args:List (List Tok)):Except Nat (Thg × Nat) :=
 let o:=op.data.toList
 if cntA op=-2∨(0≤cntA op∧(args.length:Int)≠cntA op) then .error 20
 else if o=[112,111,111,108] then .ok (oneT (itm 4),0)
 else if o=[97,108,105,103,110] then match numA 1 256 (ag args 0) with
  | .error e=>.error e
  | .ok n=>if pow2 n then .ok (oneT { itm 3 with n:=n },2) else .error 21
 else if o=[115,112,97,99,101] then match numA 0 1048576 (ag args 0) with
  | .error e=>.error e
  | .ok n=>.ok (oneT { itm 7 with n:=n },1)
 else if o=[98,121,116,101] then if args=[] then .error 20 else match itemsA 5 args with
  | .error e=>.error e
  | .ok l=>.ok ({ thg0 with kind:=2,items:=l },1)
 else if o=[119,111,114,100] then if args=[] then .error 20 else match itemsA 6 args with
  | .error e=>.error e
  | .ok l=>.ok ({ thg0 with kind:=2,items:=l },1)
 else if o=[101,113,117] then match namA (ag args 0) with
  | .error e=>.error e
  | .ok s=>match parseX (ag args 1) with
   | .error e=>.error e
   | .ok x=>.ok ({ thg0 with kind:=3,name:=s,e:=x },2)
 else if o=[103,108,111,98,97,108] then match namA (ag args 0) with
  | .error e=>.error e
  | .ok s=>.ok ({ thg0 with kind:=4,name:=s },2)
 else match ag args 0 with
  | [t]=>if t.kind=1∧t.text.data.toList=[116,101,120,116] then .ok ({ thg0 with kind:=5 },2) else if t.kind=1∧t.text.data.toList=[100,97,116,97] then .ok ({ thg0 with kind:=5,sec:=1 },2) else .error 20
  | _=>.error 20
def findL (nm:Nat→List UInt8) (s:List UInt8):Nat→Nat
 | 0=>0
 | k+1=>match findL nm s k with
  | 0=>if nm k=s then k+1 else 0
  | n=>n
def opNm (k:Nat):List UInt8:=(opsN k).data.toList
def findA (op:ByteArray):Nat:=findL opNm op.data.toList 43
def readA (l:Ln) (data:Bool):Except Nat Thg :=
 if l.op=nam0 then .ok thg0
 else if findA l.op≠0 then match codeA (findA l.op) l.args with
  | .error e=>.error e
  | .ok x=>if data then .error 21 else .ok (oneT x)
 else match dirA l.op l.args with
  | .error e=>.error e
  | .ok (t,w)=>if w=2∨w=(if data then 1 else 0) then .ok t else .error 21
/-! What is read is right. -/
theorem regA_le {z:Bool} {ts:List Tok} {n:Int} (h:regA z ts=.ok n):0≤n∧n<(if z then 4 else 8):=by
 unfold regA at h
 split at h
 ·rename_i t
  split at h
  ·rename_i hh
   injection h with h
   subst h
   obtain ⟨_,h2,h3⟩:=hh
   generalize t.text.data.toList=s at h2 h3
   unfold regL at h2 h3 ⊢
   split
   ·rename_i a b
    simp only at h2 h3
    split at h2
    ·rename_i g
     rw [if_pos g] at h3 ⊢
     simp only at h3 ⊢
     rw [← h3]
     simp
     omega
    ·rename_i g
     rw [if_neg g] at h3 ⊢
     split at h2
     ·rename_i g2
      rw [if_pos g2] at h3 ⊢
      simp only at h3 ⊢
      rw [← h3]
      simp
      omega
     ·cases h2
   ·rename_i hno
    exfalso
    split at h2
    ·rename_i a b
     exact hno a b rfl
    ·cases h2
  ·cases h
 ·cases h
theorem numA_le {lo hi n:Int} {ts:List Tok} (h:numA lo hi ts=.ok n):lo≤n∧n≤hi:=by
 unfold numA at h
 split at h
 ·cases h
 ·split at h
  ·cases h
  ·injection h with h
   omega
theorem parseX_good {ts:List Tok} {x:Lin} (hw:Wf ts) (h:parseX ts=.ok x):Good x:=by
 unfold parseX at h
 have:=sumD_fine 32 ts hw
 cases hs:sumD 32 ts with
 | error e=>rw [hs] at h; cases h
 | ok q =>
  rw [hs] at h this
  simp only at h
  split at h
  ·injection h with h
   subst h
   exact this.1
  ·cases h
theorem valA_good {pool:Bool} {ts:List Tok} {x:Lin} (hw:Wf ts) (h:valA pool ts=.ok x):Good x:=by
 unfold valA at h
 split at h
 ·exact parseX_good hw h
 ·split at h
  ·cases h
  ·split at h
   ·exact parseX_good hw.tail h
   ·cases h
theorem len0 {α:Type} {l:List α} (h:0=l.length):l=[]:=List.eq_nil_of_length_eq_zero h.symm
theorem len1 {α:Type} {l:List α} (h:0+1=l.length):∃ a,l=[a]:=by
 match l,h with
 | [a],_=>exact ⟨a,rfl⟩
theorem len2 {α:Type} {l:List α} (h:0+1+1=l.length):∃ a b,l=[a,b]:=by
 match l,h with
 | [a,b],_=>exact ⟨a,b,rfl⟩
theorem len3 {α:Type} {l:List α} (h:0+1+1+1=l.length):∃ a b c,l=[a,b,c]:=by
 match l,h with
 | [a,b,c],_=>exact ⟨a,b,c,rfl⟩
theorem codeA_right {op : Nat} {args : List (List Tok)} {x : Itm} (h1 : 1 ≤ op) (h2 : op ≤ 43) (hw : ∀ a, a ∈ args → Wf a) (h : codeA (op : Int) args = .ok x) : itmR x 0 = true ∧ Good x.e := by
  have hs : ∀ k : Fin 44, 1 ≤ k.1 → 1 ≤ shp (k.1 : Int) ∧ shp (k.1 : Int) ≤ 13 := by decide
  have hs' := hs ⟨op, by omega⟩ h1
  simp only at hs'
  have gz : Good lin0 := Good.z
  have key : ∀ (y : Itm), y.kind = 2 → y.name = nam0 → y.n = 0 → y.inst.op = op → y.inst.form = 0 → Good y.e → regsR (shp op) y.inst.a y.inst.b y.inst.n = true →
      (if wnt op then y.inst.n = 0 else nR (shp op) y.inst.n 0 = true ∧ y.e = lin0) → itmR y 0 = true := by
    intro y k1 k2 k3 k4 k5 k6 k7 k8
    have hz : shp (op : Int) ≠ 0 := by omega
    unfold itmR
    rw [if_neg (by rw [k1]; decide), if_pos k1]
    unfold insR z1 z4
    rw [k4, k2, k3, k5]
    simp only [decide_true, Bool.true_and, Bool.and_true, decide_eq_true hz]
    by_cases hwn : wnt (op : Int) = true
    · rw [if_pos hwn] at k8 ⊢
      rw [good_rt k6, k8]
      simp only [decide_true, Bool.true_and, Bool.and_true]
      refine decide_eq_true ?_
      unfold chkR
      simp only [k4]
      rw [k8] at k7
      rw [if_neg hz, if_neg (by rw [k7]; decide), if_neg]
      unfold spn wnt at *
      unfold nR nReach
      have hw' := of_decide_eq_true hwn
      by_cases g : 12 ≤ shp (op : Int)
      · rw [decide_eq_true g]
        have : shp (op : Int) = 12 ∨ shp (op : Int) = 13 := by omega
        rcases this with e | e <;> rw [e] <;> simp
      · rw [decide_eq_false g]
        have : shp (op : Int) = 10 ∨ shp (op : Int) = 11 := by omega
        rcases this with e | e <;> rw [e] <;> simp
    · rw [if_neg hwn] at k8 ⊢
      rw [k8.2, isZ0, Bool.and_true]
      refine decide_eq_true ?_
      unfold chkR
      rw [k4, if_neg hz, if_neg (by rw [k7]; decide), k5, k8.1]
      simp
  unfold codeA at h
  split at h
  · cases h
  rename_i hlen0
  have hlen : (rdrs (shp op)).length = args.length := by omega
  clear hlen0
  have hc0 : ∀ a b n : Int, ({ (code0 (op : Int)) with inst := ⟨op, a, b, n, 0⟩ } : Itm).kind = 2 := fun _ _ _ => rfl
  have hw' : wnt (op : Int) = decide (10 ≤ shp (op : Int)) := rfl
  generalize shp (op : Int) = s at *
  have : s = 1 ∨ s = 9 ∨ s = 2 ∨ s = 3 ∨ s = 4 ∨ s = 5 ∨ s = 6 ∨ s = 7 ∨ s = 8 ∨ s = 10 ∨ s = 11 ∨ s = 12 ∨ s = 13 := by omega
  rcases this with rfl | rfl | this
  · obtain rfl := len0 hlen
    have h : Except.ok (code0 (op : Int)) = (Except.ok x : Except Nat Itm) := h
    injection h with h
    subst h
    refine ⟨key _ rfl rfl rfl rfl rfl gz (by simp [regsR, code0, itm, ins0]) ?_, gz⟩
    rw [if_neg (by rw [hw']; decide)]
    exact ⟨by simp [nR, code0, itm, ins0], rfl⟩
  · obtain ⟨a, rfl⟩ := len1 hlen
    cases hn : numA 0 255 a with
    | error e =>
      simp [codeL, rdrs, argA, hn] at h
    | ok n =>
      simp [codeL, rdrs, argA, hn] at h
      subst h
      have hn := numA_le hn
      refine ⟨key _ rfl rfl rfl rfl rfl gz (by simp [regsR, putN, code0, itm, ins0]) ?_, gz⟩
      rw [if_neg (by rw [hw']; decide)]
      refine ⟨?_, rfl⟩
      simp [nR, putN, code0, itm, ins0]
      exact ⟨decide_eq_true hn.1, decide_eq_true hn.2⟩
  rcases this with rfl | rfl | rfl | rfl | rfl | rfl | rfl | rfl | rfl | rfl | rfl
  all_goals
    simp only [rdrs, Nat.reduceEqDiff, if_true, if_false, List.length_cons, List.length_nil] at h hlen
    simp only [hw'] at key
    first
    | (obtain rfl := len0 hlen
       · simp only [codeL] at h
         injection h with h
         subst h
         exact ⟨key _ rfl rfl rfl rfl rfl gz (by decide) (by rw [if_neg (by decide)]; exact ⟨by decide, rfl⟩), gz⟩)
    | (obtain ⟨a, rfl⟩ := len1 hlen
       ·
        simp only [codeL, argA] at h
        split at h
        · cases h
        rename_i y hy
        split at hy
        · cases hy
        rename_i n hn
        injection hy with hy
        injection h with h
        subst hy
        subst h
        first
        | (have hn := regA_le hn
           simp at hn
           refine ⟨key _ rfl rfl rfl rfl rfl gz (by simp [regsR, blw, putA, putB, putN, code0, itm, ins0, lin0] <;> omega) (by simp [nR, putA, putB, putN, code0, itm, ins0, lin0] <;> omega), gz⟩)
        | (have hn := numA_le hn
           refine ⟨key _ rfl rfl rfl rfl rfl gz (by simp [regsR, blw, putA, putB, putN, code0, itm, ins0, lin0] <;> omega) (by simp [nR, putA, putB, putN, code0, itm, ins0, lin0] <;> omega), gz⟩)
        | (have hg := valA_good (hw a (by simp)) hn
           exact ⟨key _ rfl rfl rfl rfl rfl hg (by simp [regsR, blw, putA, putB, putN, putE, code0, itm, ins0, lin0] <;> omega) (by simp [putA, putB, putN, putE, code0, itm, ins0, lin0] <;> omega), hg⟩))
    | (obtain ⟨a, b, rfl⟩ := len2 hlen
       ·
        simp only [codeL, argA] at h
        split at h
        · cases h
        rename_i y hy
        split at hy
        · cases hy
        rename_i n hn
        injection hy with hy
        subst hy
        split at h
        · cases h
        rename_i y2 hy2
        split at hy2
        · cases hy2
        rename_i m hm
        injection hy2 with hy2
        subst hy2
        injection h with h
        subst h
        have hn := regA_le hn
        simp at hn
        first
        | (have hm := regA_le hm
           simp at hm
           refine ⟨key _ rfl rfl rfl rfl rfl gz (by simp [regsR, blw, putA, putB, putN, code0, itm, ins0, lin0] <;> omega) (by simp [nR, putA, putB, putN, code0, itm, ins0, lin0] <;> omega), gz⟩)
        | (have hm := numA_le hm
           refine ⟨key _ rfl rfl rfl rfl rfl gz (by simp [regsR, blw, putA, putB, putN, code0, itm, ins0, lin0] <;> omega) (by simp [nR, nReach, putA, putB, putN, code0, itm, ins0, lin0] <;> omega), gz⟩)
        | (have hg := valA_good (hw b (by simp)) hm
           exact ⟨key _ rfl rfl rfl rfl rfl hg (by simp [regsR, blw, putA, putB, putN, putE, code0, itm, ins0, lin0] <;> omega) (by simp [putA, putB, putN, putE, code0, itm, ins0, lin0] <;> omega), hg⟩))
    | (obtain ⟨a, b, c, rfl⟩ := len3 hlen
       ·
        simp only [codeL, argA] at h
        split at h
        · cases h
        rename_i y hy
        split at hy
        · cases hy
        rename_i n hn
        injection hy with hy
        subst hy
        split at h
        · cases h
        rename_i y2 hy2
        split at hy2
        · cases hy2
        rename_i m hm
        injection hy2 with hy2
        subst hy2
        split at h
        · cases h
        rename_i y3 hy3
        split at hy3
        · cases hy3
        rename_i k hk
        injection hy3 with hy3
        subst hy3
        injection h with h
        subst h
        have hn := regA_le hn
        have hm := regA_le hm
        have hk := regA_le hk
        simp at hn hm hk
        refine ⟨key _ rfl rfl rfl rfl rfl gz (by simp [regsR, blw, putA, putB, putN, code0, itm, ins0, lin0] <;> omega) (by simp [nR, putA, putB, putN, code0, itm, ins0, lin0] <;> omega), gz⟩)
theorem itemA_right {k:Nat} (hk:k=5∨k=6) {ts:List Tok} {x:Itm} (hw:Wf ts) (h:itemA k ts=.ok x):itmR x 1=true∧Good x.e:=by
 unfold itemA at h
 rcases hk with rfl | rfl
 ·rw [if_pos rfl] at h
  split at h
  ·cases h
  rename_i n hn
  injection h with h
  subst h
  have hn:=numA_le hn
  refine ⟨?_,Good.z⟩
  simp [itmR,itm,z1,z2,z3,isZ0]
  omega
 ·rw [if_neg (by decide)] at h
  split at h
  ·cases h
  rename_i y hy
  injection h with h
  subst h
  have hg:=parseX_good hw hy
  refine ⟨?_,hg⟩
  simp [itmR,itm,z1,z2,z4,good_rt hg]
theorem itemsA_right {k:Nat} (hk:k=5∨k=6):∀ {args:List (List Tok)} {l:List Itm},(∀ a,a∈args→Wf a)→itemsA k args=.ok l→∀ x,x∈l→itmR x 1=true∧Good x.e
 | [],l,_,h,x,hx=>by
  simp only [itemsA] at h
  injection h with h
  subst h
  simp at hx
 | t::ts,l,hw,h,x,hx=>by
  simp only [itemsA] at h
  split at h
  ·cases h
  rename_i y hy
  split at h
  ·cases h
  rename_i r hr
  injection h with h
  subst h
  rcases List.mem_cons.1 hx with rfl | hx
  ·exact itemA_right hk (hw t (by simp)) hy
  ·exact itemsA_right hk (fun a ha=>hw a (by simp [ha])) hr x hx
structure ThgOk (t:Thg) (data:Bool):Prop where
 items:∀ x,x∈t.items→itmR x (if data then 1 else 0)=true∧Good x.e
 kind:t.kind≤5
 single:t.kind=1↔(t.items.length=1∧t.kind≠2)
 name:t.kind=3∨t.kind=4→legalL t.name.data.toList=true
 e:Good t.e
 sec:t.sec≤1
theorem ThgOk.z (data:Bool):ThgOk thg0 data:=⟨by simp [thg0],by simp [thg0],by simp [thg0],by simp [thg0],Good.z,by simp [thg0]⟩
theorem ThgOk.one1 {x:Itm} {data:Bool} (h:itmR x (if data then 1 else 0)=true) (g:Good x.e):ThgOk (oneT x) data :=
 ⟨by simpa [oneT] using ⟨h,g⟩,by simp [oneT],by simp [oneT],by simp [oneT],Good.z,by simp [oneT,thg0]⟩
theorem namA_legal {ts:List Tok} {s:ByteArray} (h:namA ts=.ok s):legalL s.data.toList=true:=by
 unfold namA at h
 split at h
 ·split at h
  ·rename_i hh
   injection h with h
   subst h
   exact hh.2
  ·cases h
 ·cases h
theorem dirA_right {op:ByteArray} {args:List (List Tok)} {t:Thg} {w:Nat} {data:Bool} (hw:∀ a,a∈args→Wf a) (h:dirA op args=.ok (t,w)) (hd:w=2∨w=(if data then 1 else 0)):ThgOk t data:=by
 have hag:∀ i,Wf (ag args i):=by
  intro i
  unfold ag
  rw [List.getD_eq_getElem?_getD]
  cases hh:args[i]? with
  | none=>exact fun t ht=>by simp at ht
  | some a=>exact hw a (List.mem_of_getElem? hh)
 unfold dirA at h
 simp only at h
 split at h
 ·cases h
 split at h
 ·injection h with h
  injection h with h1 h2
  subst h1 h2
  have hd:data=false:=by cases data <;> simp_all
  subst hd
  exact ThgOk.one1 (by simp [itmR,itm,z1,z2,z3,z4,isZ0]) Good.z
 split at h
 ·split at h
  ·cases h
  rename_i n hn
  split at h
  ·rename_i hp
   injection h with h
   injection h with h1 h2
   subst h1 h2
   exact ThgOk.one1 (by simp [itmR,itm,z1,z2,z3,z4,isZ0,hp]) Good.z
  ·cases h
 split at h
 ·split at h
  ·cases h
  rename_i n hn
  injection h with h
  injection h with h1 h2
  subst h1 h2
  have hd:data=true:=by cases data <;> simp_all
  subst hd
  have hn:=numA_le hn
  exact ThgOk.one1 (by simp [itmR,itm,z1,z2,z3,z4,isZ0]; omega) Good.z
 split at h
 ·split at h
  ·cases h
  split at h
  ·cases h
  rename_i l hl
  injection h with h
  injection h with h1 h2
  subst h1 h2
  have hd:data=true:=by cases data <;> simp_all
  subst hd
  exact ⟨fun x hx=>itemsA_right (.inl rfl) hw hl x hx,by simp,by simp,by simp,Good.z,by simp [thg0]⟩
 split at h
 ·split at h
  ·cases h
  split at h
  ·cases h
  rename_i l hl
  injection h with h
  injection h with h1 h2
  subst h1 h2
  have hd:data=true:=by cases data <;> simp_all
  subst hd
  exact ⟨fun x hx=>itemsA_right (.inr rfl) hw hl x hx,by simp,by simp,by simp,Good.z,by simp [thg0]⟩
 split at h
 ·split at h
  ·cases h
  rename_i s hs
  split at h
  ·cases h
  rename_i x hx
  injection h with h
  injection h with h1 h2
  subst h1 h2
  exact ⟨by simp [thg0],by simp,by simp [thg0],fun _=>namA_legal hs,parseX_good (hag 1) hx,by simp [thg0]⟩
 split at h
 ·split at h
  ·cases h
  rename_i s hs
  injection h with h
  injection h with h1 h2
  subst h1 h2
  exact ⟨by simp [thg0],by simp,by simp [thg0],fun _=>namA_legal hs,Good.z,by simp [thg0]⟩
 split at h
 ·split at h
  ·injection h with h
   injection h with h1 h2
   subst h1 h2
   exact ⟨by simp [thg0],by simp,by simp [thg0],by simp,Good.z,by simp [thg0]⟩
  ·split at h
   ·injection h with h
    injection h with h1 h2
    subst h1 h2
    exact ⟨by simp [thg0],by simp,by simp [thg0],by simp,Good.z,by simp⟩
   ·cases h
 ·cases h
theorem findL_le (nm:Nat→List UInt8) (s:List UInt8):∀ k,findL nm s k≤k
 | 0=>Nat.le_refl _
 | k+1=>by
  unfold findL
  have:=findL_le nm s k
  split
  ·split <;> omega
  ·omega
theorem readA_right {l:Ln} {data:Bool} {t:Thg} (hw:∀ a,a∈l.args→Wf a) (h:readA l data=.ok t):ThgOk t data:=by
 unfold readA at h
 split at h
 ·injection h with h
  subst h
  exact ThgOk.z data
 split at h
 ·rename_i hf
  split at h
  ·cases h
  rename_i x hx
  cases data with
  | true=>cases h
  | false =>
   injection h with h
   subst h
   have:=codeA_right (op:=findA l.op) (by omega) (findL_le _ _ _) hw hx
   exact ThgOk.one1 this.1 this.2
 ·split at h
  ·cases h
  rename_i t' w hd
  by_cases hh:w=2∨w=(if data=true then 1 else 0)
  ·rw [if_pos hh] at h
   injection h with h
   subst h
   exact dirA_right hw hd hh
  ·rw [if_neg hh] at h
   cases h
end Go.Sx.Ob
