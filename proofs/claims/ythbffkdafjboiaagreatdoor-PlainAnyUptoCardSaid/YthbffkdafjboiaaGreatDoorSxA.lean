/- Part of the framework. No condition. -/
import Derived.KernelRfl
import Derived.WalkKit
set_option linter.all false
set_option maxHeartbeats 4000000
def ad {p : Prop} (h : p := by omega) : p := h
def aj {p : Prop} (h : p := by simp) : p := h
def cm {p : Prop} (h : p := by decide) : p := h
def az {p : Prop} (h : p := by kernel_rfl) : p := h
namespace Go.Sx
abbrev Xaa:=ByteArray
abbrev Xab:=Value
abbrev Xac:=Option Addr
abbrev Xax:=Addr
def Yt:type_of% @Option.bind_eq_some_iff:=@Option.bind_eq_some_iff
def Yu:type_of% @List.length_map:=@List.length_map
def Yv:type_of% @List.getElem?_eq_getElem:=@List.getElem?_eq_getElem
def Yw:type_of% @List.take_succ_eq_append_getElem:=@List.take_succ_eq_append_getElem
def Yx:type_of% @if_neg:=@if_neg
def Yy:type_of% @List.length_append:=@List.length_append
def Yz:type_of% @of_decide_eq_true:=@of_decide_eq_true
def YA:type_of% @decide_eq_true:=@decide_eq_true
def YB:type_of% @decide_eq_false:=@decide_eq_false
def YC:type_of% @if_pos:=@if_pos
def YD:type_of% @List.getElem_mem:=@List.getElem_mem
def YE:type_of% @List.getElem_map:=@List.getElem_map
def YF:type_of% @List.mem_map:=@List.mem_map
def YG:type_of% @of_decide_eq_false:=@of_decide_eq_false
def YH:type_of% @List.map_append:=@List.map_append
def YI:type_of% @Nat.le_refl:=@Nat.le_refl
def YJ:type_of% @congrArg:=@congrArg
def YK:type_of% @List.drop_eq_getElem_cons:=@List.drop_eq_getElem_cons
def YL:type_of% @Nat.eq_of_beq_eq_true:=@Nat.eq_of_beq_eq_true
def YM:type_of% @List.mem_cons_of_mem:=@List.mem_cons_of_mem
def YN:type_of% @List.mem_append:=@List.mem_append
def YO:type_of% @List.getElem?_eq_some_iff:=@List.getElem?_eq_some_iff
def YP:type_of% @List.mem_singleton:=@List.mem_singleton
def YQ:type_of% @List.length_take:=@List.length_take
def YR:type_of% @Option.some.inj:=@Option.some.inj
def YS:type_of% @List.mem_cons:=@List.mem_cons
def YT:type_of% @List.mem_map_of_mem:=@List.mem_map_of_mem
def YU:type_of% @Bool.true_and:=@Bool.true_and
def YV:type_of% @List.append_assoc:=@List.append_assoc
def YW:type_of% @List.take_of_length_le:=@List.take_of_length_le
def YX:type_of% @List.findIdx?_eq_some_iff_getElem:=@List.findIdx?_eq_some_iff_getElem
def YY:type_of% @List.map_map:=@List.map_map
def YZ:type_of% @Bool.and_eq_true:=@Bool.and_eq_true
def Y0:type_of% @List.getElem_of_mem:=@List.getElem_of_mem
def Y1:type_of% @List.all_eq_true:=@List.all_eq_true
def Y2:type_of% @Nat.le_of_ble_eq_true:=@Nat.le_of_ble_eq_true
def Y3:type_of% @List.mem_append_left:=@List.mem_append_left
def Y4:type_of% @List.take_length:=@List.take_length
def Y5:type_of% @List.getElem?_append_right:=@List.getElem?_append_right
def Y6:type_of% @List.foldl_cons:=@List.foldl_cons
def Y7:type_of% @Nat.zero_add:=@Nat.zero_add
def Y8:type_of% @List.mem_append_right:=@List.mem_append_right
def Y9:type_of% @List.getElem?_eq_none:=@List.getElem?_eq_none
def Za:type_of% @List.getElem?_append_left:=@List.getElem?_append_left
def Zb:type_of% @List.map_cons:=@List.map_cons
def Zc:type_of% @List.take_append_drop:=@List.take_append_drop
def Zd:type_of% @List.flatMap_cons:=@List.flatMap_cons
def Ze:type_of% @List.findIdx?_eq_none_iff:=@List.findIdx?_eq_none_iff
def Zf:type_of% @List.eq_nil_of_length_eq_zero:=@List.eq_nil_of_length_eq_zero
def Zg:type_of% @Array.toList_inj:=@Array.toList_inj
def Zh:type_of% @List.getD_eq_getElem?_getD:=@List.getD_eq_getElem?_getD
def Zi:type_of% @List.length_cons:=@List.length_cons
def Zj:type_of% @List.getElem?_map:=@List.getElem?_map
def Zk:type_of% @List.foldl_append:=@List.foldl_append
def Zl:type_of% @List.length_drop:=@List.length_drop
def Zm:type_of% @List.map_congr_left:=@List.map_congr_left
def Zn:type_of% @Nat.lt_or_ge:=@Nat.lt_or_ge
def Zo:type_of% @List.drop_eq_nil_of_le:=@List.drop_eq_nil_of_le
def Zp:type_of% @List.mem_of_getElem?:=@List.mem_of_getElem?
def Zq:type_of% @Nat.le_trans:=@Nat.le_trans
def Zr:type_of% @List.nodup_append:=@List.nodup_append
def Zs:type_of% @List.append_nil:=@List.append_nil
def Zt:type_of% @Array.getElem?_eq_none:=@Array.getElem?_eq_none
def Zu:type_of% @Option.isSome_iff_exists:=@Option.isSome_iff_exists
def Zv:type_of% @List.sum_cons:=@List.sum_cons
def Zw:type_of% @List.pairwise_map:=@List.pairwise_map
def Zx:type_of% @List.findSome?_eq_none_iff:=@List.findSome?_eq_none_iff
def Zy:type_of% @List.length_set:=@List.length_set
def Zz:type_of% @Nat.min_eq_left:=@Nat.min_eq_left
def ZA:type_of% @Nat.add_mul:=@Nat.add_mul
def ZB:type_of% @List.mem_of_mem_take:=@List.mem_of_mem_take
def ZC:type_of% @Nat.mul_le_mul_right:=@Nat.mul_le_mul_right
def ZD:type_of% @List.getElem_append_left:=@List.getElem_append_left
def ZE:type_of% @Array.length_toList:=@Array.length_toList
def ZF:type_of% @List.ext_getElem?:=@List.ext_getElem?
def ZG:type_of% @Array.getElem?_eq_getElem:=@Array.getElem?_eq_getElem
def ZH:type_of% @List.mem_or_eq_of_mem_set:=@List.mem_or_eq_of_mem_set
def ZI:type_of% @Array.getElem?_setIfInBounds:=@Array.getElem?_setIfInBounds
def ZJ:type_of% @List.drop_length:=@List.drop_length
def ZK:type_of% @Bool.and_true:=@Bool.and_true
def ZL:type_of% @List.any_eq_true:=@List.any_eq_true
def ZM:type_of% @Option.bind_some:=@Option.bind_some
def ZN:type_of% @List.getElem?_range:=@List.getElem?_range
def ZO:type_of% @Array.getElem?_toList:=@Array.getElem?_toList
def ZP:type_of% @List.length_filter_le:=@List.length_filter_le
def ZQ:type_of% @List.mem_filterMap:=@List.mem_filterMap
def ZR:type_of% @List.pairwise_cons:=@List.pairwise_cons
def ZS:type_of% @List.getElem?_set_ne:=@List.getElem?_set_ne
def ZT:type_of% @List.nil_append:=@List.nil_append
def ZU:type_of% @List.drop_of_length_le:=@List.drop_of_length_le
def ZV:type_of% @Array.all_toList:=@Array.all_toList
def ZW:type_of% @List.getElem_append_right:=@List.getElem_append_right
def ZX:type_of% @List.length_range:=@List.length_range
def ZY:type_of% @ByteArray.size_append:=@ByteArray.size_append
def ZZ:type_of% @List.length_eq_zero_iff:=@List.length_eq_zero_iff
def Z0:type_of% @List.flatten_cons:=@List.flatten_cons
def Z1:type_of% @List.nodup_iff_pairwise_ne:=@List.nodup_iff_pairwise_ne
def Z2:type_of% @List.flatMap_append:=@List.flatMap_append
def Z3:type_of% @Bool.eq_iff_iff:=@Bool.eq_iff_iff
def Z4:type_of% @List.nodup_cons:=@List.nodup_cons
def Z5:type_of% @List.filterMap_append:=@List.filterMap_append
def Z6:type_of% @List.getElem?_drop:=@List.getElem?_drop
def Z7:type_of% @List.mem_cons_self:=@List.mem_cons_self
def Z8:type_of% @Nat.add_mod:=@Nat.add_mod
def Z9:type_of% @List.find?_append:=@List.find?_append
def aa9:type_of% @List.getElem?_set_self:=@List.getElem?_set_self
def ab9:type_of% @Nat.zero_mul:=@Nat.zero_mul
def ac9:type_of% @Option.map_eq_some_iff:=@Option.map_eq_some_iff
def ad9:type_of% @Bool.false_or:=@Bool.false_or
def ae9:type_of% @List.cons_append:=@List.cons_append
def af9:type_of% @Nat.mod_eq_of_lt:=@Nat.mod_eq_of_lt
def ag9:type_of% @List.mem_range:=@List.mem_range
def ah9:type_of% @List.getElem?_take:=@List.getElem?_take
def ai9:type_of% @List.drop_left:=@List.drop_left
def aj9:type_of% @Bool.and_false:=@Bool.and_false
def ak9:type_of% @UInt8.toNat_ofNat':=@UInt8.toNat_ofNat'
def al9:type_of% @List.getElem?_toArray:=@List.getElem?_toArray
def am9:type_of% @List.pairwise_iff_getElem:=@List.pairwise_iff_getElem
def an9:type_of% @Classical.byContradiction:=@Classical.byContradiction
def ao9:type_of% @Nat.sub_self:=@Nat.sub_self
def ap9:type_of% @List.filterMap_cons:=@List.filterMap_cons
def aq9:type_of% @List.flatten_append:=@List.flatten_append
def ar9:type_of% @List.length_flatMap:=@List.length_flatMap
def as9:type_of% @List.getElem?_cons_succ:=@List.getElem?_cons_succ
def au9:type_of% @List.take_left:=@List.take_left
def av9:type_of% @List.mem_flatten:=@List.mem_flatten
def aw9:type_of% @Prod.mk.inj:=@Prod.mk.inj
def ax9:type_of% @List.map_set:=@List.map_set
def ay9:type_of% @Nat.sub_zero:=@Nat.sub_zero
def az9:type_of% @List.find?_cons:=@List.find?_cons
def bb9:type_of% @Int.natCast_add:=@Int.natCast_add
def bc9:type_of% @List.any_append:=@List.any_append
def bd9:type_of% @List.all_cons:=@List.all_cons
def be9:type_of% @List.set_append_right:=@List.set_append_right
def bf9:type_of% @List.length_replicate:=@List.length_replicate
def bg9:type_of% @List.findSome?_append:=@List.findSome?_append
def bh9:type_of% @List.length_singleton:=@List.length_singleton
def bi9:type_of% @List.findIdx?_map:=@List.findIdx?_map
def bj9:type_of% @Nat.zero_le:=@Nat.zero_le
def bk9:type_of% @Nat.mul_mod:=@Nat.mul_mod
def bl9:type_of% @List.findIdx?_append:=@List.findIdx?_append
def bm9:type_of% @Nat.add_zero:=@Nat.add_zero
def bn9:type_of% @decide_eq_decide:=@decide_eq_decide
def bo9:type_of% @Nat.mul_comm:=@Nat.mul_comm
def bp9:type_of% @List.mem_flatMap:=@List.mem_flatMap
def bq9:type_of% @List.ext_getElem:=@List.ext_getElem
def br9:type_of% @Option.map_some:=@Option.map_some
def bs9:type_of% @Nat.mod_lt:=@Nat.mod_lt
def bt9:type_of% @decide_true:=@decide_true
def bu9:type_of% @Bool.false_and:=@Bool.false_and
def bv9:type_of% @Nat.mod_mod:=@Nat.mod_mod
abbrev Hp:=Array Obj
def iD (h:Hp) (a:Addr):Option Value :=
 match h[a.block]? with
 | some (.cells c _ _)=>if a.spot.isSome then none else c[a.off]?
 | _=>none
def vN (h:Hp) (a:Addr):Bool :=
 match h[a.block]? with
 | some (.cells _ _ (d,hi))=>d<=a.off && a.off<hi
 | _=>false
def la (h:Hp) (a:Addr) (v:Value):Hp :=
 h.modify a.block fun
  | .cells c elem frozen=>.cells (if a.spot.isSome then c else c.setIfInBounds a.off v) elem frozen
  | o=>o
def U0 (h:Hp) (r:Nat):Option (TypeId × Nat) :=
 match h[r]? with
 | some (.cells c elem _)=>some (elem,c.size)
 | _=>none
def CZ (h:Hp) (a:Addr) (n:Nat):Hp :=
 if n=0 then h else
 h.modify a.block fun
  | .cells c elem (d,hi)=>.cells c elem (if d==hi then (a.off,a.off+n) else (min d a.off,max hi (a.off+n)))
  | o=>o
def KI (w:World) (a:Addr):w.cell? a=iD w.heap a:=rfl
def EO (w:World) (a:Addr) (n:Nat):(w.freeze a n).heap=CZ w.heap a n:=by
 unfold World.freeze CZ; split <;> rfl
structure dK (w w':World):Prop where
 os:w'.os=w.os
 tape:w'.tape=w.tape
 output:w'.output=w.output
def dK.refl (w:World):dK w w:=⟨rfl,rfl,rfl⟩
def dK.trans {a b c:World} (h:dK a b) (k:dK b c):dK a c:=⟨k.os.trans h.os,k.tape.trans h.tape,k.output.trans h.output⟩
def dK.freeze {w d:World} (h:dK d w) (a:Addr) (n:Nat):dK d (w.freeze a n):=by
 unfold World.freeze; split
 ·exact h
 ·exact ⟨h.os,h.tape,h.output⟩
def cU:Value->Bool
 | .agg _=>false
 | .tuple _=>false
 | _=>true
def aU (P:Program) {α:Type}:Sem α->Hp->(α->Hp->Prop)->Prop
 | .pure a,h,K=>K a h
 | .load _ a k,h,K=>∃ v,iD h a=some v/\aU P (k v) h K
 | .store _ a v k,h,K=>cU v=true/\(∃ u,iD h a=some u)/\vN h a=false/\aU P k (la h a v) K
 | .new o k,h,K=>aU P (k h.size) (h.push o) K
 | .shape r k,h,K=>aU P (k (U0 h r)) h K
 | .freeze a n k,h,K=>aU P k (CZ h a n) K
 | .frozen a k,h,K=>aU P (k (vN h a)) h K
 | .getObj r k,h,K=>∃ o,h[r]?=some o/\(∀ c e f,o≠.cells c e f)/\aU P (k o) h K
 | .setObj r o k,h,K=>(∃ o',h[r]?=some o'/\∀ c e f,o'≠.cells c e f)/\aU P k (h.setIfInBounds r o) K
 | .choose q k,h,K=>if q.forced then aU P (k 0) h K else ∀ t,aU P (k (q.cut t)) h K
 | .sys _ _,_,_=>False
 | .program k,h,K=>aU P (k P) h K
 | .mark _ k,h,K=>aU P k h K
 | .halt _,_,_=>False
def pz {P:Program} {α:Type} (s:Sem α):∀ (w:World) (K:α->Hp->Prop),aU P s w.heap K ->
  ∃ a w',s.run P w=.ok a w'/\dK w w'/\K a w'.heap:=by
 induction s with
 | pure a=>intro w K h; exact ⟨a,w,rfl,dK.refl w,h⟩
 | load m a k d =>
  intro w K h;obtain ⟨v,hv,hk⟩:=h
  have:w.cell? a=some v:=hv
  obtain ⟨x,w',h1,h2,h3⟩:=d v w K hk;exact ⟨x,w',by simp only [Sem.run,this,h1],h2,h3⟩
 | store m a v k d =>
  intro w K h;obtain ⟨U,⟨u,hu⟩,V,hk⟩:=h;have G:w.cell? a=some u:=hu;have J:w.frozen? a=false:=V;obtain ⟨x,w',h1,h2,h3⟩:=d (w.setCell a v) K hk;refine ⟨x,w',?_,⟨h2.os,h2.tape,h2.output⟩,h3⟩;cases v <;> first | (simp [cU] at U; done) | (simp only [Sem.run,G,J]; exact h1)
 | new o k d =>
  intro w K h;obtain ⟨x,w',h1,h2,h3⟩:=d w.heap.size { w with heap:=w.heap.push o } K h;exact ⟨x,w',h1,⟨h2.os,h2.tape,h2.output⟩,h3⟩
 | shape r k d=>intro w K h; exact d _ w K h
 | freeze a n k d =>
  intro w K h;obtain ⟨x,w',h1,h2,h3⟩:=d (w.freeze a n) K (by rw [EO]; exact h);exact ⟨x,w',h1,dK.trans ((dK.refl w).freeze a n) h2,h3⟩
 | frozen a k d=>intro w K h; exact d _ w K h
 | getObj r k d =>
  intro w K h;obtain ⟨o,O,j,hk⟩:=h;obtain ⟨x,w',h1,h2,h3⟩:=d o w K hk;refine ⟨x,w',?_,h2,h3⟩;simp only [Sem.run,O];cases o <;> first | exact (j _ _ _ rfl).elim | exact h1
 | setObj r o k d =>
  intro w K h;obtain ⟨⟨o',O,j⟩,hk⟩:=h;obtain ⟨x,w',h1,h2,h3⟩:=d { w with heap:=w.heap.setIfInBounds r o } K hk;refine ⟨x,w',?_,⟨h2.os,h2.tape,h2.output⟩,h3⟩;simp only [Sem.run,O];cases o' <;> first | exact (j _ _ _ rfl).elim | exact h1
 | choose q k d =>
  intro w K h;simp only [aU] at h
  by_cases F:q.forced=true
  ·rw [if_pos F] at h;obtain ⟨x,w',h1,h2,h3⟩:=d 0 w K h;exact ⟨x,w',by simp only [Sem.run,if_pos F]; exact h1,h2,h3⟩
  ·rw [if_neg F] at h;obtain ⟨x,w',h1,h2,h3⟩:=d (q.cut (w.tape w.drawn q)) { w with drawn:=w.drawn+1 } K (h _);exact ⟨x,w',by simp only [Sem.run,if_neg F]; exact h1,⟨h2.os,h2.tape,h2.output⟩,h3⟩
 | sys c k d=>intro w K h; exact h.elim
 | program k d=>intro w K h; exact d P w K h
 | mark m k d=>intro w K h; exact d w K h
 | halt x=>intro w K h; exact h.elim
def dA {P:Program} {α:Type} (s:Sem α):∀ (h:Hp) (K K':α->Hp->Prop),(∀ a h,K a h->K' a h)->aU P s h K->aU P s h K':=by
 induction s with
 | pure a=>intro h K K' m k; exact m _ _ k
 | load m a k j=>intro h K K' d ⟨v,hv,hk⟩; exact ⟨v,hv,j v h K K' d hk⟩
 | store m a v k j=>intro h K K' d ⟨h1,h2,h3,hk⟩; exact ⟨h1,h2,h3,j _ K K' d hk⟩
 | new o k j=>intro h K K' d hk; exact j _ _ K K' d hk
 | shape r k j=>intro h K K' d hk; exact j _ _ K K' d hk
 | freeze a n k j=>intro h K K' d hk; exact j _ K K' d hk
 | frozen a k j=>intro h K K' d hk; exact j _ _ K K' d hk
 | getObj r k j=>intro h K K' d ⟨o,h1,h2,hk⟩; exact ⟨o,h1,h2,j _ _ K K' d hk⟩
 | setObj r o k j=>intro h K K' d ⟨h1,hk⟩; exact ⟨h1,j _ K K' d hk⟩
 | choose q k j =>
  intro h K K' d hk;simp only [aU] at hk ⊢;split
  ·rename_i u; rw [if_pos u] at hk; exact j _ _ K K' d hk
  ·rename_i u; rw [if_neg u] at hk; exact fun t=>j _ _ K K' d (hk t)
 | sys c k j=>intro h K K' d hk; exact hk.elim
 | program k j=>intro h K K' d hk; exact j _ _ K K' d hk
 | mark m k j=>intro h K K' d hk; exact j _ K K' d hk
 | halt x=>intro h K K' d hk; exact hk.elim
def KL {P:Program} {α β:Type} (s:Sem α) (f:α->Sem β):∀ (h:Hp) (K:β->Hp->Prop),
  aU P (s.bind f) h K=aU P s h (fun a h'=>aU P (f a) h' K):=by
 induction s with
 | pure a=>intro h K; rfl
 | load m a k d=>intro h K; simp only [Sem.bind,aU,d]
 | store m a v k d=>intro h K; simp only [Sem.bind,aU,d]
 | new o k d=>intro h K; simp only [Sem.bind,aU,d]
 | shape r k d=>intro h K; simp only [Sem.bind,aU,d]
 | freeze a n k d=>intro h K; simp only [Sem.bind,aU,d]
 | frozen a k d=>intro h K; simp only [Sem.bind,aU,d]
 | getObj r k d=>intro h K; simp only [Sem.bind,aU,d]
 | setObj r o k d=>intro h K; simp only [Sem.bind,aU,d]
 | choose q k d=>intro h K; simp only [Sem.bind,aU,d]
 | sys c k d=>intro h K; rfl
 | program k d=>intro h K; simp only [Sem.bind,aU,d]
 | mark m k d=>intro h K; simp only [Sem.bind,aU,d]
 | halt x=>intro h K; rfl
def ao {P:Program} {α β:Type} (s:Sem α) (f:α->Sem β) (h:Hp) (K:β->Hp->Prop) :
  aU P (s >>= f) h K=aU P s h (fun a h'=>aU P (f a) h' K):=KL s f h K
def KQ {P:Program} {α:Type} (a:α) (h:Hp) (K:α->Hp->Prop):aU P (pure a) h K=K a h:=rfl
def HC (P:Program) (f:FuncId) (args:Array Value) (h:Hp) (R:Value->Hp->Prop):Prop :=
 ∀ w:World,w.heap=h->Calls P f args w fun e w'=>∃ v,e=.returned v/\dK w w'/\R v w'.heap
def HC.mono {P:Program} {f:FuncId} {args:Array Value} {h:Hp} {R R':Value->Hp->Prop} (hc:HC P f args h R) (m:∀ v h',R v h'->R' v h') :
  HC P f args h R':=fun w hw=>(hc w hw).mono fun e w' ⟨v,h1,h2,h3⟩=>⟨v,h1,h2,m _ _ h3⟩
def CH (P:Program) (K:Value->Hp->Prop):Next->Hp->Prop
 | .value v,h=>K v h
 | .skip,h=>K undef h
 | .enter f args,h=>HC P f args h K
 | _,_=>False
def W3 (P:Program) (o:Oper) (ev:Operand->Value) (h:Hp) (K:Value->Hp->Prop):Prop:=aU P (execOp ev o) h (CH P K)
def xB {P:Program} {o:Oper} {a:Act} {w:World} {K:Value->Hp->Prop} {next:Act->World->Prop} {Q:Exit->Act->World->Prop}
  (hk:W3 P o a.eval w.heap K) (hn:∀ v w',dK w w'->K v w'.heap->next (a.put o.dst v) w'):o.wp P a w next Q:=by
 obtain ⟨n,w',h1,h2,h3⟩:=pz _ w _ hk;unfold Oper.wp;rw [h1];cases n <;> simp only [CH] at h3
 case value v=>exact hn v w' h2 h3
 case skip=>exact hn undef w' h2 h3
 case enter f args =>
  exact (h3 w' rfl).mono fun e d ⟨v,j,hs,u⟩=>by subst j; exact hn v d (h2.trans hs) u
def cW (P:Program) (c:Code) (Q:Exit->Act->Hp->Prop) (a:Act) (h:Hp):Prop :=
 ∀ d w:World,dK d w->w.heap=h->c.wp P (fun e a' w'=>dK d w'/\Q e a' w'.heap) a w
def sH {P:Program} {c:Code} {Q d:Exit->Act->Hp->Prop} {a:Act} {h:Hp} (m:∀ e a h,Q e a h->d e a h) (hc:cW P c Q a h):cW P c d a h :=
 fun j w hs hw=>Code.wp_mono (fun _ _ _ ⟨h1,h2⟩=>⟨h1,m _ _ _ h2⟩) (hc j w hs hw)
def I9 {P:Program} {Q:Exit->Act->Hp->Prop} {a:Act} {h:Hp} (d:Q .normal a h):cW P .skip Q a h:=fun j w hs hw=>wp_skip ⟨hs,hw▸d⟩
def E4 {P:Program} {Q:Exit->Act->Hp->Prop} {a:Act} {h:Hp} {l:Nat} (d:Q .normal a h):cW P (.label l) Q a h:=fun j w hs hw=>wp_label ⟨hs,hw▸d⟩
def Ja {P:Program} {Q:Exit->Act->Hp->Prop} {a:Act} {h:Hp} {i:Nat} (d:Q (.exit i) a h):cW P (.exit i) Q a h:=fun j w hs hw=>wp_exit ⟨hs,hw▸d⟩
def Iv {P:Program} {Q:Exit->Act->Hp->Prop} {a:Act} {h:Hp} {i:Nat} (d:Q (.goto i) a h):cW P (.goto i) Q a h:=fun j w hs hw=>wp_goto ⟨hs,hw▸d⟩
def Of {P:Program} {Q:Exit->Act->Hp->Prop} {a:Act} {h:Hp} (d:Q .ret a h):cW P .ret Q a h:=fun j w hs hw=>wp_ret ⟨hs,hw▸d⟩
def O7 (next:Act->Hp->Prop) (Q:Exit->Act->Hp->Prop):Exit->Act->Hp->Prop
 | .normal,a,h=>next a h
 | e,a,h=>Q e a h
def C8 {P:Program} {x y:Code} {Q:Exit->Act->Hp->Prop} {a:Act} {h:Hp} (hx:cW P x (O7 (cW P y Q) Q) a h):cW P (.seq x y) Q a h :=
 fun d w hs hw=>wp_seq (Code.wp_mono (fun e a' w' ⟨h1,h2⟩=>by
  cases e <;> first | exact h2 d w' h1 rfl | exact ⟨h1,h2⟩) (hx d w hs hw))
def DE {P:Program} {c:Operand} {x y:Code} {b:Bool} {Q:Exit->Act->Hp->Prop} {a:Act} {h:Hp} (hc:a.eval c=.bool b)
  (j:b=true->cW P x Q a h) (u:b=false->cW P y Q a h):cW P (.cond c x y) Q a h :=
 fun d w hs hw=>wp_cond_split hc (fun e=>j e d w hs hw) (fun e=>u e d w hs hw)
def mz (id:Nat) (Q:Exit->Act->Hp->Prop):Exit->Act->Hp->Prop
 | .exit d,a,h=>if d=id then Q .normal a h else Q (.exit d) a h
 | e,a,h=>Q e a h
def FG {P:Program} {id:Nat} {c:Code} {Q:Exit->Act->Hp->Prop} {a:Act} {h:Hp} (hc:cW P c (mz id Q) a h):cW P (.block id c) Q a h :=
 fun d w hs hw=>wp_block (Code.wp_mono (fun e a' w' ⟨h1,h2⟩=>by
  cases e <;> first
   | (simp only [Exit.inBlock,mz] at h2 ⊢; split <;> rename_i j <;> simp only [j,if_true,if_false] at h2 <;> exact ⟨h1,h2⟩)
   | exact ⟨h1,h2⟩) (hc d w hs hw))
def II {P : Program} {c : Code} {Q : Exit -> Act -> Hp -> Prop} {a : Act} {h : Hp} (I : Nat -> Act -> Hp -> Prop) (h0 : ∃ n, I n a h)
    (round : ∀ n a h, I n a h -> cW P c (O7 (fun a' h' => ∃ m, m < n /\ I m a' h') Q) a h) : cW P (.loop c) Q a h := by
  intro J w hs hw
  have key : ∀ n a w, dK J w -> I n a w.heap -> (Code.loop c).wp P (fun e a' w' => dK J w' /\ Q e a' w'.heap) a w := by
    intro n a w hs Y
    have := wp_loop (P := P) (c := c) (a := a) (w := w) (Q := fun e a' w' => dK J w' /\ Q e a' w'.heap)
      (fun a w => ∃ n, dK J w /\ I n a w.heap)
      (fun a w => by
        classical
        exact if hx : ∃ n, I n a w.heap then Classical.choose (show ∃ n, I n a w.heap /\ ∀ m, I m a w.heap -> n <= m from by
          obtain ⟨n, hn⟩ := hx
          induction n using Nat.strongRecOn with
          | _ n O =>
            by_cases u : ∃ m, m < n /\ I m a w.heap
            · obtain ⟨m, hm, d⟩ := u; exact O m hm d
            · exact ⟨n, hn, fun m hm => Nat.le_of_not_lt fun j => u ⟨m, j, hm⟩⟩) else 0)
      ⟨n, hs, Y⟩
      (by
        rintro a w ⟨Z, V, X⟩;have hx : ∃ n, I n a w.heap := ⟨Z, X⟩
        have F := Classical.choose_spec (show ∃ n, I n a w.heap /\ ∀ m, I m a w.heap -> n <= m from by
          obtain ⟨n, hn⟩ := hx
          induction n using Nat.strongRecOn with
          | _ n O =>
            by_cases u : ∃ m, m < n /\ I m a w.heap
            · obtain ⟨m, hm, d⟩ := u; exact O m hm d
            · exact ⟨n, hn, fun m hm => Nat.le_of_not_lt fun j => u ⟨m, j, hm⟩⟩)
        rw [dif_pos hx];refine Code.wp_mono ?_ (round _ a w.heap F.1 J w V rfl);intro e a' w' ⟨h1, h2⟩
        cases e <;> first
          | exact ⟨h1, h2⟩
          | (obtain ⟨m, hm, G⟩ := h2
             refine ⟨⟨m, h1, G⟩, ?_⟩;have U : ∃ n, I n a' w'.heap := ⟨m, G⟩
             rw [dif_pos U];refine Nat.lt_of_le_of_lt ?_ hm;exact (Classical.choose_spec (show ∃ n, I n a' w'.heap /\ ∀ m, I m a' w'.heap -> n <= m from by
              obtain ⟨n, hn⟩ := U
              induction n using Nat.strongRecOn with
              | _ n O =>
                by_cases u : ∃ m, m < n /\ I m a' w'.heap
                · obtain ⟨m, hm, d⟩ := u; exact O m hm d
                · exact ⟨n, hn, fun m hm => Nat.le_of_not_lt fun j => u ⟨m, j, hm⟩⟩)).2 m G))
    exact this
  obtain ⟨n, hn⟩ := h0;exact key n a w hs (hw ▸ hn)
abbrev vI (n:Int):Value:=.int .i64 n
abbrev yI (t:TypeId):List TypeDesc:=[.int .i64,.string,.int .i64,.int .i64,.int .i64,.int .i32,.int .i64,.slice t,.int .u32,.int .i64]
abbrev yL (t:TypeId):List TypeDesc:=[.slice t,.int .u32]
abbrev yU (t u:TypeId):List TypeDesc:=[.slice t,.slice t,.slice u,.slice 9]
def nA {α:Type} (l:List α):[]++l=l:=rfl
def cA {α:Type} (a:α) (k l:List α):(a::k)++l=a::(k++l):=rfl
end Go.Sx
