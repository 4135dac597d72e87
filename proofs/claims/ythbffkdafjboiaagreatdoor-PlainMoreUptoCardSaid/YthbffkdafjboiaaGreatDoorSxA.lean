/- Part of the framework. No condition. -/
import Derived.KernelRfl
import Derived.WalkKit
set_option linter.all false
set_option maxHeartbeats 4000000
def ad {p : Prop} (h : p := by omega) : p := h
def aj {p : Prop} (h : p := by simp) : p := h
def bZ {p : Prop} (h : p := by decide) : p := h
def ax {p : Prop} (h : p := by kernel_rfl) : p := h
namespace Go.Sx
abbrev Xaa:=ByteArray
abbrev Xab:=Value
abbrev Xac:=Option Addr
abbrev Xax:=Addr
def YZ:type_of% @Option.bind_eq_some_iff:=@Option.bind_eq_some_iff
def Y0:type_of% @List.length_map:=@List.length_map
def Y1:type_of% @List.getElem?_eq_getElem:=@List.getElem?_eq_getElem
def Y2:type_of% @if_neg:=@if_neg
def Y3:type_of% @List.take_succ_eq_append_getElem:=@List.take_succ_eq_append_getElem
def Y4:type_of% @List.length_append:=@List.length_append
def Y5:type_of% @of_decide_eq_true:=@of_decide_eq_true
def Y6:type_of% @decide_eq_true:=@decide_eq_true
def Y7:type_of% @decide_eq_false:=@decide_eq_false
def Y8:type_of% @if_pos:=@if_pos
def Y9:type_of% @List.getElem_mem:=@List.getElem_mem
def Za:type_of% @List.mem_map:=@List.mem_map
def Zb:type_of% @List.getElem_map:=@List.getElem_map
def Zc:type_of% @of_decide_eq_false:=@of_decide_eq_false
def Zd:type_of% @List.mem_cons_of_mem:=@List.mem_cons_of_mem
def Ze:type_of% @List.map_append:=@List.map_append
def Zf:type_of% @Nat.eq_of_beq_eq_true:=@Nat.eq_of_beq_eq_true
def Zg:type_of% @List.drop_eq_getElem_cons:=@List.drop_eq_getElem_cons
def Zh:type_of% @Nat.le_refl:=@Nat.le_refl
def Zi:type_of% @List.mem_singleton:=@List.mem_singleton
def Zj:type_of% @List.getElem?_eq_some_iff:=@List.getElem?_eq_some_iff
def Zk:type_of% @List.mem_append:=@List.mem_append
def Zl:type_of% @congrArg:=@congrArg
def Zm:type_of% @List.mem_map_of_mem:=@List.mem_map_of_mem
def Zn:type_of% @Option.some.inj:=@Option.some.inj
def Zo:type_of% @List.mem_cons:=@List.mem_cons
def Zp:type_of% @List.length_take:=@List.length_take
def Zq:type_of% @List.mem_append_left:=@List.mem_append_left
def Zr:type_of% @List.append_assoc:=@List.append_assoc
def Zs:type_of% @List.findIdx?_eq_some_iff_getElem:=@List.findIdx?_eq_some_iff_getElem
def Zt:type_of% @Bool.true_and:=@Bool.true_and
def Zu:type_of% @List.getElem_of_mem:=@List.getElem_of_mem
def Zv:type_of% @List.map_map:=@List.map_map
def Zw:type_of% @Nat.le_of_ble_eq_true:=@Nat.le_of_ble_eq_true
def Zx:type_of% @List.all_eq_true:=@List.all_eq_true
def Zy:type_of% @List.take_of_length_le:=@List.take_of_length_le
def Zz:type_of% @Bool.and_eq_true:=@Bool.and_eq_true
def ZA:type_of% @List.take_length:=@List.take_length
def ZB:type_of% @List.findIdx?_eq_none_iff:=@List.findIdx?_eq_none_iff
def ZC:type_of% @List.getElem?_append_right:=@List.getElem?_append_right
def ZD:type_of% @List.getElem?_append_left:=@List.getElem?_append_left
def ZE:type_of% @List.mem_append_right:=@List.mem_append_right
def ZF:type_of% @List.map_cons:=@List.map_cons
def ZG:type_of% @List.flatMap_cons:=@List.flatMap_cons
def ZH:type_of% @List.foldl_cons:=@List.foldl_cons
def ZI:type_of% @List.getElem?_eq_none:=@List.getElem?_eq_none
def ZJ:type_of% @Nat.zero_add:=@Nat.zero_add
def ZK:type_of% @Array.toList_inj:=@Array.toList_inj
def ZL:type_of% @List.take_append_drop:=@List.take_append_drop
def ZM:type_of% @List.map_congr_left:=@List.map_congr_left
def ZN:type_of% @List.findSome?_eq_none_iff:=@List.findSome?_eq_none_iff
def ZO:type_of% @List.getElem?_map:=@List.getElem?_map
def ZP:type_of% @List.length_cons:=@List.length_cons
def ZQ:type_of% @List.append_nil:=@List.append_nil
def ZR:type_of% @List.mem_of_getElem?:=@List.mem_of_getElem?
def ZS:type_of% @Nat.lt_or_ge:=@Nat.lt_or_ge
def ZT:type_of% @Array.getElem?_eq_none:=@Array.getElem?_eq_none
def ZU:type_of% @List.sum_cons:=@List.sum_cons
def ZV:type_of% @List.getD_eq_getElem?_getD:=@List.getD_eq_getElem?_getD
def ZW:type_of% @Nat.le_trans:=@Nat.le_trans
def ZX:type_of% @List.nodup_append:=@List.nodup_append
def ZY:type_of% @List.foldl_append:=@List.foldl_append
def ZZ:type_of% @List.drop_eq_nil_of_le:=@List.drop_eq_nil_of_le
def Z0:type_of% @Option.isSome_iff_exists:=@Option.isSome_iff_exists
def Z1:type_of% @List.getElem_append_left:=@List.getElem_append_left
def Z2:type_of% @List.length_drop:=@List.length_drop
def Z3:type_of% @List.pairwise_map:=@List.pairwise_map
def Z4:type_of% @List.eq_nil_of_length_eq_zero:=@List.eq_nil_of_length_eq_zero
def Z5:type_of% @List.length_set:=@List.length_set
def Z6:type_of% @Option.bind_some:=@Option.bind_some
def Z7:type_of% @List.mem_of_mem_take:=@List.mem_of_mem_take
def Z8:type_of% @List.length_filter_le:=@List.length_filter_le
def Z9:type_of% @Nat.add_mul:=@Nat.add_mul
def aa9:type_of% @Array.length_toList:=@Array.length_toList
def ab9:type_of% @List.flatMap_append:=@List.flatMap_append
def ac9:type_of% @Nat.min_eq_left:=@Nat.min_eq_left
def ad9:type_of% @Array.all_toList:=@Array.all_toList
def ae9:type_of% @List.ext_getElem?:=@List.ext_getElem?
def af9:type_of% @Bool.and_true:=@Bool.and_true
def ag9:type_of% @Nat.mul_le_mul_right:=@Nat.mul_le_mul_right
def ah9:type_of% @Array.getElem?_eq_getElem:=@Array.getElem?_eq_getElem
def ai9:type_of% @List.mem_or_eq_of_mem_set:=@List.mem_or_eq_of_mem_set
def aj9:type_of% @List.getElem_append_right:=@List.getElem_append_right
def ak9:type_of% @Array.getElem?_setIfInBounds:=@Array.getElem?_setIfInBounds
def al9:type_of% @List.drop_length:=@List.drop_length
def am9:type_of% @List.getElem?_range:=@List.getElem?_range
def an9:type_of% @Array.getElem?_toList:=@Array.getElem?_toList
def ao9:type_of% @List.pairwise_cons:=@List.pairwise_cons
def ap9:type_of% @List.getElem?_set_ne:=@List.getElem?_set_ne
def aq9:type_of% @List.nil_append:=@List.nil_append
def ar9:type_of% @List.drop_of_length_le:=@List.drop_of_length_le
def as9:type_of% @List.any_eq_true:=@List.any_eq_true
def au9:type_of% @ByteArray.size_append:=@ByteArray.size_append
def av9:type_of% @List.mem_filterMap:=@List.mem_filterMap
def aw9:type_of% @List.mem_range:=@List.mem_range
def ax9:type_of% @List.nodup_iff_pairwise_ne:=@List.nodup_iff_pairwise_ne
def ay9:type_of% @List.length_range:=@List.length_range
def az9:type_of% @List.nodup_cons:=@List.nodup_cons
def bb9:type_of% @List.filterMap_append:=@List.filterMap_append
def bc9:type_of% @List.getElem?_drop:=@List.getElem?_drop
def bd9:type_of% @List.mem_cons_self:=@List.mem_cons_self
def be9:type_of% @Nat.add_mod:=@Nat.add_mod
def bf9:type_of% @List.findIdx?_append:=@List.findIdx?_append
def bg9:type_of% @List.flatten_cons:=@List.flatten_cons
def bh9:type_of% @List.find?_append:=@List.find?_append
def bi9:type_of% @List.length_eq_zero_iff:=@List.length_eq_zero_iff
def bj9:type_of% @List.getElem?_set_self:=@List.getElem?_set_self
def bk9:type_of% @Option.map_eq_some_iff:=@Option.map_eq_some_iff
def bl9:type_of% @Bool.false_or:=@Bool.false_or
def bm9:type_of% @Prod.mk.inj:=@Prod.mk.inj
def bn9:type_of% @List.cons_append:=@List.cons_append
def bo9:type_of% @Nat.mod_eq_of_lt:=@Nat.mod_eq_of_lt
def bp9:type_of% @List.getElem?_take:=@List.getElem?_take
def bq9:type_of% @List.drop_left:=@List.drop_left
def br9:type_of% @List.getElem?_toArray:=@List.getElem?_toArray
def bs9:type_of% @List.pairwise_iff_getElem:=@List.pairwise_iff_getElem
def bt9:type_of% @Classical.byContradiction:=@Classical.byContradiction
def bu9:type_of% @List.length_flatMap:=@List.length_flatMap
def bv9:type_of% @List.getElem?_cons_succ:=@List.getElem?_cons_succ
def bw9:type_of% @List.take_left:=@List.take_left
def by9:type_of% @List.mem_flatten:=@List.mem_flatten
def bz9:type_of% @Bool.and_false:=@Bool.and_false
def ca9:type_of% @List.map_set:=@List.map_set
def cb9:type_of% @Bool.eq_iff_iff:=@Bool.eq_iff_iff
def cc9:type_of% @List.find?_cons:=@List.find?_cons
def cd9:type_of% @Int.natCast_add:=@Int.natCast_add
def ce9:type_of% @List.findSome?_append:=@List.findSome?_append
def cf9:type_of% @List.findIdx?_map:=@List.findIdx?_map
def cg9:type_of% @Nat.zero_le:=@Nat.zero_le
def ch9:type_of% @Nat.mul_mod:=@Nat.mul_mod
def ci9:type_of% @decide_eq_decide:=@decide_eq_decide
def cj9:type_of% @List.mem_flatMap:=@List.mem_flatMap
def ck9:type_of% @Nat.zero_mul:=@Nat.zero_mul
def cl9:type_of% @Nat.sub_self:=@Nat.sub_self
def cm9:type_of% @List.ext_getElem:=@List.ext_getElem
def cn9:type_of% @List.all_cons:=@List.all_cons
def cp9:type_of% @List.sum_append:=@List.sum_append
def cq9:type_of% @List.any_append:=@List.any_append
def cr9:type_of% @Option.map_some:=@Option.map_some
def cs9:type_of% @List.range_succ:=@List.range_succ
def ct9:type_of% @Nat.mod_lt:=@Nat.mod_lt
def cu9:type_of% @decide_true:=@decide_true
def cv9:type_of% @Nat.add_zero:=@Nat.add_zero
def cw9:type_of% @Nat.mul_comm:=@Nat.mul_comm
def cx9:type_of% @Nat.sub_zero:=@Nat.sub_zero
def cy9:type_of% @Nat.mod_mod:=@Nat.mod_mod
abbrev Hp:=Array Obj
def ij (h:Hp) (a:Addr):Option Value :=
 match h[a.block]? with
 | some (.cells c _ _)=>if a.spot.isSome then none else c[a.off]?
 | _=>none
def vu (h:Hp) (a:Addr):Bool :=
 match h[a.block]? with
 | some (.cells _ _ (j,hi))=>j<=a.off && a.off<hi
 | _=>false
def kR (h:Hp) (a:Addr) (v:Value):Hp :=
 h.modify a.block fun
  | .cells c elem frozen=>.cells (if a.spot.isSome then c else c.setIfInBounds a.off v) elem frozen
  | o=>o
def UE (h:Hp) (r:Nat):Option (TypeId × Nat) :=
 match h[r]? with
 | some (.cells c elem _)=>some (elem,c.size)
 | _=>none
def CE (h:Hp) (a:Addr) (n:Nat):Hp :=
 if n=0 then h else
 h.modify a.block fun
  | .cells c elem (j,hi)=>.cells c elem (if j==hi then (a.off,a.off+n) else (min j a.off,max hi (a.off+n)))
  | o=>o
def Kq (w:World) (a:Addr):w.cell? a=ij w.heap a:=rfl
def Ey (w:World) (a:Addr) (n:Nat):(w.freeze a n).heap=CE w.heap a n:=by
 unfold World.freeze CE; split <;> rfl
structure dI (w w':World):Prop where
 os:w'.os=w.os
 tape:w'.tape=w.tape
 output:w'.output=w.output
def dI.refl (w:World):dI w w:=⟨rfl,rfl,rfl⟩
def dI.trans {a b c:World} (h:dI a b) (k:dI b c):dI a c:=⟨k.os.trans h.os,k.tape.trans h.tape,k.output.trans h.output⟩
def dI.freeze {w j:World} (h:dI j w) (a:Addr) (n:Nat):dI j (w.freeze a n):=by
 unfold World.freeze; split
 ·exact h
 ·exact ⟨h.os,h.tape,h.output⟩
def cO:Value->Bool
 | .agg _=>false
 | .tuple _=>false
 | _=>true
def aS (P:Program) {α:Type}:Sem α->Hp->(α->Hp->Prop)->Prop
 | .pure a,h,K=>K a h
 | .load _ a k,h,K=>∃ v,ij h a=some v/\aS P (k v) h K
 | .store _ a v k,h,K=>cO v=true/\(∃ u,ij h a=some u)/\vu h a=false/\aS P k (kR h a v) K
 | .new o k,h,K=>aS P (k h.size) (h.push o) K
 | .shape r k,h,K=>aS P (k (UE h r)) h K
 | .freeze a n k,h,K=>aS P k (CE h a n) K
 | .frozen a k,h,K=>aS P (k (vu h a)) h K
 | .getObj r k,h,K=>∃ o,h[r]?=some o/\(∀ c e f,o≠.cells c e f)/\aS P (k o) h K
 | .setObj r o k,h,K=>(∃ o',h[r]?=some o'/\∀ c e f,o'≠.cells c e f)/\aS P k (h.setIfInBounds r o) K
 | .choose q k,h,K=>if q.forced then aS P (k 0) h K else ∀ t,aS P (k (q.cut t)) h K
 | .sys _ _,_,_=>False
 | .program k,h,K=>aS P (k P) h K
 | .mark _ k,h,K=>aS P k h K
 | .halt _,_,_=>False
def oX {P:Program} {α:Type} (s:Sem α):∀ (w:World) (K:α->Hp->Prop),aS P s w.heap K ->
  ∃ a w',s.run P w=.ok a w'/\dI w w'/\K a w'.heap:=by
 induction s with
 | pure a=>intro w K h; exact ⟨a,w,rfl,dI.refl w,h⟩
 | load m a k j =>
  intro w K h;obtain ⟨v,hv,hk⟩:=h
  have:w.cell? a=some v:=hv
  obtain ⟨x,w',h1,h2,h3⟩:=j v w K hk;exact ⟨x,w',by simp only [Sem.run,this,h1],h2,h3⟩
 | store m a v k j =>
  intro w K h;obtain ⟨X,⟨u,hu⟩,Y,hk⟩:=h;have O:w.cell? a=some u:=hu;have U:w.frozen? a=false:=Y;obtain ⟨x,w',h1,h2,h3⟩:=j (w.setCell a v) K hk;refine ⟨x,w',?_,⟨h2.os,h2.tape,h2.output⟩,h3⟩;cases v <;> first | (simp [cO] at X; done) | (simp only [Sem.run,O,U]; exact h1)
 | new o k j =>
  intro w K h;obtain ⟨x,w',h1,h2,h3⟩:=j w.heap.size { w with heap:=w.heap.push o } K h;exact ⟨x,w',h1,⟨h2.os,h2.tape,h2.output⟩,h3⟩
 | shape r k j=>intro w K h; exact j _ w K h
 | freeze a n k j =>
  intro w K h;obtain ⟨x,w',h1,h2,h3⟩:=j (w.freeze a n) K (by rw [Ey]; exact h);exact ⟨x,w',h1,dI.trans ((dI.refl w).freeze a n) h2,h3⟩
 | frozen a k j=>intro w K h; exact j _ w K h
 | getObj r k j =>
  intro w K h;obtain ⟨o,V,G,hk⟩:=h;obtain ⟨x,w',h1,h2,h3⟩:=j o w K hk;refine ⟨x,w',?_,h2,h3⟩;simp only [Sem.run,V];cases o <;> first | exact (G _ _ _ rfl).elim | exact h1
 | setObj r o k j =>
  intro w K h;obtain ⟨⟨o',V,G⟩,hk⟩:=h;obtain ⟨x,w',h1,h2,h3⟩:=j { w with heap:=w.heap.setIfInBounds r o } K hk;refine ⟨x,w',?_,⟨h2.os,h2.tape,h2.output⟩,h3⟩;simp only [Sem.run,V];cases o' <;> first | exact (G _ _ _ rfl).elim | exact h1
 | choose q k j =>
  intro w K h;simp only [aS] at h
  by_cases J:q.forced=true
  ·rw [if_pos J] at h;obtain ⟨x,w',h1,h2,h3⟩:=j 0 w K h;exact ⟨x,w',by simp only [Sem.run,if_pos J]; exact h1,h2,h3⟩
  ·rw [if_neg J] at h;obtain ⟨x,w',h1,h2,h3⟩:=j (q.cut (w.tape w.drawn q)) { w with drawn:=w.drawn+1 } K (h _);exact ⟨x,w',by simp only [Sem.run,if_neg J]; exact h1,⟨h2.os,h2.tape,h2.output⟩,h3⟩
 | sys c k j=>intro w K h; exact h.elim
 | program k j=>intro w K h; exact j P w K h
 | mark m k j=>intro w K h; exact j w K h
 | halt x=>intro w K h; exact h.elim
def dO {P:Program} {α:Type} (s:Sem α):∀ (h:Hp) (K K':α->Hp->Prop),(∀ a h,K a h->K' a h)->aS P s h K->aS P s h K':=by
 induction s with
 | pure a=>intro h K K' m k; exact m _ _ k
 | load m a k u=>intro h K K' j ⟨v,hv,hk⟩; exact ⟨v,hv,u v h K K' j hk⟩
 | store m a v k u=>intro h K K' j ⟨h1,h2,h3,hk⟩; exact ⟨h1,h2,h3,u _ K K' j hk⟩
 | new o k u=>intro h K K' j hk; exact u _ _ K K' j hk
 | shape r k u=>intro h K K' j hk; exact u _ _ K K' j hk
 | freeze a n k u=>intro h K K' j hk; exact u _ K K' j hk
 | frozen a k u=>intro h K K' j hk; exact u _ _ K K' j hk
 | getObj r k u=>intro h K K' j ⟨o,h1,h2,hk⟩; exact ⟨o,h1,h2,u _ _ K K' j hk⟩
 | setObj r o k u=>intro h K K' j ⟨h1,hk⟩; exact ⟨h1,u _ K K' j hk⟩
 | choose q k u =>
  intro h K K' j hk;simp only [aS] at hk ⊢;split
  ·rename_i G; rw [if_pos G] at hk; exact u _ _ K K' j hk
  ·rename_i G; rw [if_neg G] at hk; exact fun t=>u _ _ K K' j (hk t)
 | sys c k u=>intro h K K' j hk; exact hk.elim
 | program k u=>intro h K K' j hk; exact u _ _ K K' j hk
 | mark m k u=>intro h K K' j hk; exact u _ K K' j hk
 | halt x=>intro h K K' j hk; exact hk.elim
def Kt {P:Program} {α β:Type} (s:Sem α) (f:α->Sem β):∀ (h:Hp) (K:β->Hp->Prop),
  aS P (s.bind f) h K=aS P s h (fun a h'=>aS P (f a) h' K):=by
 induction s with
 | pure a=>intro h K; rfl
 | load m a k j=>intro h K; simp only [Sem.bind,aS,j]
 | store m a v k j=>intro h K; simp only [Sem.bind,aS,j]
 | new o k j=>intro h K; simp only [Sem.bind,aS,j]
 | shape r k j=>intro h K; simp only [Sem.bind,aS,j]
 | freeze a n k j=>intro h K; simp only [Sem.bind,aS,j]
 | frozen a k j=>intro h K; simp only [Sem.bind,aS,j]
 | getObj r k j=>intro h K; simp only [Sem.bind,aS,j]
 | setObj r o k j=>intro h K; simp only [Sem.bind,aS,j]
 | choose q k j=>intro h K; simp only [Sem.bind,aS,j]
 | sys c k j=>intro h K; rfl
 | program k j=>intro h K; simp only [Sem.bind,aS,j]
 | mark m k j=>intro h K; simp only [Sem.bind,aS,j]
 | halt x=>intro h K; rfl
def ao {P:Program} {α β:Type} (s:Sem α) (f:α->Sem β) (h:Hp) (K:β->Hp->Prop) :
  aS P (s >>= f) h K=aS P s h (fun a h'=>aS P (f a) h' K):=Kt s f h K
def KA {P:Program} {α:Type} (a:α) (h:Hp) (K:α->Hp->Prop):aS P (pure a) h K=K a h:=rfl
def HC (P:Program) (f:FuncId) (args:Array Value) (h:Hp) (R:Value->Hp->Prop):Prop :=
 ∀ w:World,w.heap=h->Calls P f args w fun e w'=>∃ v,e=.returned v/\dI w w'/\R v w'.heap
def HC.mono {P:Program} {f:FuncId} {args:Array Value} {h:Hp} {R R':Value->Hp->Prop} (hc:HC P f args h R) (m:∀ v h',R v h'->R' v h') :
  HC P f args h R':=fun w hw=>(hc w hw).mono fun e w' ⟨v,h1,h2,h3⟩=>⟨v,h1,h2,m _ _ h3⟩
def Cm (P:Program) (K:Value->Hp->Prop):Next->Hp->Prop
 | .value v,h=>K v h
 | .skip,h=>K undef h
 | .enter f args,h=>HC P f args h K
 | _,_=>False
def Xj (P:Program) (o:Oper) (ev:Operand->Value) (h:Hp) (K:Value->Hp->Prop):Prop:=aS P (execOp ev o) h (Cm P K)
def xn {P:Program} {o:Oper} {a:Act} {w:World} {K:Value->Hp->Prop} {next:Act->World->Prop} {Q:Exit->Act->World->Prop}
  (hk:Xj P o a.eval w.heap K) (hn:∀ v w',dI w w'->K v w'.heap->next (a.put o.dst v) w'):o.wp P a w next Q:=by
 obtain ⟨n,w',h1,h2,h3⟩:=oX _ w _ hk;unfold Oper.wp;rw [h1];cases n <;> simp only [Cm] at h3
 case value v=>exact hn v w' h2 h3
 case skip=>exact hn undef w' h2 h3
 case enter f args =>
  exact (h3 w' rfl).mono fun e j ⟨v,u,hs,G⟩=>by subst u; exact hn v j (h2.trans hs) G
def cW (P:Program) (c:Code) (Q:Exit->Act->Hp->Prop) (a:Act) (h:Hp):Prop :=
 ∀ j w:World,dI j w->w.heap=h->c.wp P (fun e a' w'=>dI j w'/\Q e a' w'.heap) a w
def r7 {P:Program} {c:Code} {Q j:Exit->Act->Hp->Prop} {a:Act} {h:Hp} (m:∀ e a h,Q e a h->j e a h) (hc:cW P c Q a h):cW P c j a h :=
 fun u w hs hw=>Code.wp_mono (fun _ _ _ ⟨h1,h2⟩=>⟨h1,m _ _ _ h2⟩) (hc u w hs hw)
def IN {P:Program} {Q:Exit->Act->Hp->Prop} {a:Act} {h:Hp} (j:Q .normal a h):cW P .skip Q a h:=fun u w hs hw=>wp_skip ⟨hs,hw▸j⟩
def EK {P:Program} {Q:Exit->Act->Hp->Prop} {a:Act} {h:Hp} {l:Nat} (j:Q .normal a h):cW P (.label l) Q a h:=fun u w hs hw=>wp_label ⟨hs,hw▸j⟩
def IP {P:Program} {Q:Exit->Act->Hp->Prop} {a:Act} {h:Hp} {i:Nat} (j:Q (.exit i) a h):cW P (.exit i) Q a h:=fun u w hs hw=>wp_exit ⟨hs,hw▸j⟩
def Ic {P:Program} {Q:Exit->Act->Hp->Prop} {a:Act} {h:Hp} {i:Nat} (j:Q (.goto i) a h):cW P (.goto i) Q a h:=fun u w hs hw=>wp_goto ⟨hs,hw▸j⟩
def NO {P:Program} {Q:Exit->Act->Hp->Prop} {a:Act} {h:Hp} (j:Q .ret a h):cW P .ret Q a h:=fun u w hs hw=>wp_ret ⟨hs,hw▸j⟩
def OJ (next:Act->Hp->Prop) (Q:Exit->Act->Hp->Prop):Exit->Act->Hp->Prop
 | .normal,a,h=>next a h
 | e,a,h=>Q e a h
def CN {P:Program} {x y:Code} {Q:Exit->Act->Hp->Prop} {a:Act} {h:Hp} (hx:cW P x (OJ (cW P y Q) Q) a h):cW P (.seq x y) Q a h :=
 fun j w hs hw=>wp_seq (Code.wp_mono (fun e a' w' ⟨h1,h2⟩=>by
  cases e <;> first | exact h2 j w' h1 rfl | exact ⟨h1,h2⟩) (hx j w hs hw))
def Dm {P:Program} {c:Operand} {x y:Code} {b:Bool} {Q:Exit->Act->Hp->Prop} {a:Act} {h:Hp} (hc:a.eval c=.bool b)
  (u:b=true->cW P x Q a h) (G:b=false->cW P y Q a h):cW P (.cond c x y) Q a h :=
 fun j w hs hw=>wp_cond_split hc (fun e=>u e j w hs hw) (fun e=>G e j w hs hw)
def lW (id:Nat) (Q:Exit->Act->Hp->Prop):Exit->Act->Hp->Prop
 | .exit j,a,h=>if j=id then Q .normal a h else Q (.exit j) a h
 | e,a,h=>Q e a h
def Fm {P:Program} {id:Nat} {c:Code} {Q:Exit->Act->Hp->Prop} {a:Act} {h:Hp} (hc:cW P c (lW id Q) a h):cW P (.block id c) Q a h :=
 fun j w hs hw=>wp_block (Code.wp_mono (fun e a' w' ⟨h1,h2⟩=>by
  cases e <;> first
   | (simp only [Exit.inBlock,lW] at h2 ⊢; split <;> rename_i u <;> simp only [u,if_true,if_false] at h2 <;> exact ⟨h1,h2⟩)
   | exact ⟨h1,h2⟩) (hc j w hs hw))
def It {P : Program} {c : Code} {Q : Exit -> Act -> Hp -> Prop} {a : Act} {h : Hp} (I : Nat -> Act -> Hp -> Prop) (h0 : ∃ n, I n a h)
    (round : ∀ n a h, I n a h -> cW P c (OJ (fun a' h' => ∃ m, m < n /\ I m a' h') Q) a h) : cW P (.loop c) Q a h := by
  intro U w hs hw
  have key : ∀ n a w, dI U w -> I n a w.heap -> (Code.loop c).wp P (fun e a' w' => dI U w' /\ Q e a' w'.heap) a w := by
    intro n a w hs hI
    have := wp_loop (P := P) (c := c) (a := a) (w := w) (Q := fun e a' w' => dI U w' /\ Q e a' w'.heap)
      (fun a w => ∃ n, dI U w /\ I n a w.heap)
      (fun a w => by
        classical
        exact if hx : ∃ n, I n a w.heap then Classical.choose (show ∃ n, I n a w.heap /\ ∀ m, I m a w.heap -> n <= m from by
          obtain ⟨n, hn⟩ := hx
          induction n using Nat.strongRecOn with
          | _ n V =>
            by_cases G : ∃ m, m < n /\ I m a w.heap
            · obtain ⟨m, hm, j⟩ := G; exact V m hm j
            · exact ⟨n, hn, fun m hm => Nat.le_of_not_lt fun u => G ⟨m, u, hm⟩⟩) else 0)
      ⟨n, hs, hI⟩
      (by
        rintro a w ⟨n0, Y, Z⟩;have hx : ∃ n, I n a w.heap := ⟨n0, Z⟩
        have J := Classical.choose_spec (show ∃ n, I n a w.heap /\ ∀ m, I m a w.heap -> n <= m from by
          obtain ⟨n, hn⟩ := hx
          induction n using Nat.strongRecOn with
          | _ n V =>
            by_cases G : ∃ m, m < n /\ I m a w.heap
            · obtain ⟨m, hm, j⟩ := G; exact V m hm j
            · exact ⟨n, hn, fun m hm => Nat.le_of_not_lt fun u => G ⟨m, u, hm⟩⟩)
        rw [dif_pos hx];refine Code.wp_mono ?_ (round _ a w.heap J.1 U w Y rfl);intro e a' w' ⟨h1, h2⟩
        cases e <;> first
          | exact ⟨h1, h2⟩
          | (obtain ⟨m, hm, O⟩ := h2
             refine ⟨⟨m, h1, O⟩, ?_⟩;have X : ∃ n, I n a' w'.heap := ⟨m, O⟩
             rw [dif_pos X];refine Nat.lt_of_le_of_lt ?_ hm;exact (Classical.choose_spec (show ∃ n, I n a' w'.heap /\ ∀ m, I m a' w'.heap -> n <= m from by
              obtain ⟨n, hn⟩ := X
              induction n using Nat.strongRecOn with
              | _ n V =>
                by_cases G : ∃ m, m < n /\ I m a' w'.heap
                · obtain ⟨m, hm, j⟩ := G; exact V m hm j
                · exact ⟨n, hn, fun m hm => Nat.le_of_not_lt fun u => G ⟨m, u, hm⟩⟩)).2 m O))
    exact this
  obtain ⟨n, hn⟩ := h0;exact key n a w hs (hw ▸ hn)
abbrev vI (n:Int):Value:=.int .i64 n
abbrev yI (t:TypeId):List TypeDesc:=[.int .i64,.string,.int .i64,.int .i64,.int .i64,.int .i32,.int .i64,.slice t,.int .u32,.int .i64]
abbrev yL (t:TypeId):List TypeDesc:=[.slice t,.int .u32]
abbrev yU (t u:TypeId):List TypeDesc:=[.slice t,.slice t,.slice u,.slice 9]
def nA {α:Type} (l:List α):[]++l=l:=rfl
def cA {α:Type} (a:α) (k l:List α):(a::k)++l=a::(k++l):=rfl
end Go.Sx
