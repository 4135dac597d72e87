/- Part of the framework. No condition. -/
import Derived.KernelRfl
import Derived.WalkKit
set_option linter.all false
set_option maxHeartbeats 4000000
def ad {p : Prop} (h : p := by omega) : p := h
def aj {p : Prop} (h : p := by simp) : p := h
def bY {p : Prop} (h : p := by decide) : p := h
def aw {p : Prop} (h : p := by kernel_rfl) : p := h
namespace Go.Sx
abbrev Xaa:=ByteArray
abbrev Xab:=Value
abbrev Xac:=Option Addr
abbrev Xax:=Addr
def YX:type_of% @Option.bind_eq_some_iff:=@Option.bind_eq_some_iff
def YY:type_of% @List.length_map:=@List.length_map
def YZ:type_of% @List.getElem?_eq_getElem:=@List.getElem?_eq_getElem
def Y0:type_of% @List.length_append:=@List.length_append
def Y1:type_of% @if_neg:=@if_neg
def Y2:type_of% @List.take_succ_eq_append_getElem:=@List.take_succ_eq_append_getElem
def Y3:type_of% @of_decide_eq_true:=@of_decide_eq_true
def Y4:type_of% @decide_eq_true:=@decide_eq_true
def Y5:type_of% @List.getElem_mem:=@List.getElem_mem
def Y6:type_of% @decide_eq_false:=@decide_eq_false
def Y7:type_of% @List.getElem_map:=@List.getElem_map
def Y8:type_of% @if_pos:=@if_pos
def Y9:type_of% @List.mem_map:=@List.mem_map
def Za:type_of% @List.map_append:=@List.map_append
def Zb:type_of% @List.mem_append:=@List.mem_append
def Zc:type_of% @Nat.le_refl:=@Nat.le_refl
def Zd:type_of% @Nat.eq_of_beq_eq_true:=@Nat.eq_of_beq_eq_true
def Ze:type_of% @List.mem_cons_of_mem:=@List.mem_cons_of_mem
def Zf:type_of% @of_decide_eq_false:=@of_decide_eq_false
def Zg:type_of% @congrArg:=@congrArg
def Zh:type_of% @List.mem_singleton:=@List.mem_singleton
def Zi:type_of% @List.length_take:=@List.length_take
def Zj:type_of% @List.drop_eq_getElem_cons:=@List.drop_eq_getElem_cons
def Zl:type_of% @Option.some.inj:=@Option.some.inj
def Zm:type_of% @List.mem_map_of_mem:=@List.mem_map_of_mem
def Zn:type_of% @List.getElem?_eq_some_iff:=@List.getElem?_eq_some_iff
def Zo:type_of% @List.mem_cons:=@List.mem_cons
def Zp:type_of% @List.append_assoc:=@List.append_assoc
def Zq:type_of% @List.mem_append_left:=@List.mem_append_left
def Zr:type_of% @List.findIdx?_eq_some_iff_getElem:=@List.findIdx?_eq_some_iff_getElem
def Zs:type_of% @List.map_map:=@List.map_map
def Zt:type_of% @List.getElem_of_mem:=@List.getElem_of_mem
def Zu:type_of% @List.take_of_length_le:=@List.take_of_length_le
def Zv:type_of% @List.mem_append_right:=@List.mem_append_right
def Zw:type_of% @Nat.le_of_ble_eq_true:=@Nat.le_of_ble_eq_true
def Zx:type_of% @List.all_eq_true:=@List.all_eq_true
def Zy:type_of% @Bool.true_and:=@Bool.true_and
def Zz:type_of% @Bool.and_eq_true:=@Bool.and_eq_true
def ZA:type_of% @List.take_length:=@List.take_length
def ZB:type_of% @List.getElem?_append_right:=@List.getElem?_append_right
def ZC:type_of% @List.getElem?_eq_none:=@List.getElem?_eq_none
def ZD:type_of% @List.foldl_cons:=@List.foldl_cons
def ZE:type_of% @List.getElem?_append_left:=@List.getElem?_append_left
def ZF:type_of% @List.map_cons:=@List.map_cons
def ZG:type_of% @List.take_append_drop:=@List.take_append_drop
def ZH:type_of% @Nat.zero_add:=@Nat.zero_add
def ZI:type_of% @List.length_drop:=@List.length_drop
def ZJ:type_of% @List.findIdx?_eq_none_iff:=@List.findIdx?_eq_none_iff
def ZK:type_of% @Nat.le_trans:=@Nat.le_trans
def ZL:type_of% @List.getElem?_map:=@List.getElem?_map
def ZM:type_of% @Array.toList_inj:=@Array.toList_inj
def ZN:type_of% @List.flatMap_cons:=@List.flatMap_cons
def ZO:type_of% @List.drop_eq_nil_of_le:=@List.drop_eq_nil_of_le
def ZP:type_of% @Nat.lt_or_ge:=@Nat.lt_or_ge
def ZQ:type_of% @Nat.min_eq_left:=@Nat.min_eq_left
def ZR:type_of% @List.map_congr_left:=@List.map_congr_left
def ZS:type_of% @List.getD_eq_getElem?_getD:=@List.getD_eq_getElem?_getD
def ZT:type_of% @Nat.mul_le_mul_right:=@Nat.mul_le_mul_right
def ZU:type_of% @List.mem_of_getElem?:=@List.mem_of_getElem?
def ZV:type_of% @List.nodup_append:=@List.nodup_append
def ZW:type_of% @List.foldl_append:=@List.foldl_append
def ZX:type_of% @List.sum_cons:=@List.sum_cons
def ZY:type_of% @Array.getElem?_eq_none:=@Array.getElem?_eq_none
def ZZ:type_of% @Option.isSome_iff_exists:=@Option.isSome_iff_exists
def Z0:type_of% @List.mem_of_mem_take:=@List.mem_of_mem_take
def Z1:type_of% @List.length_cons:=@List.length_cons
def Z2:type_of% @List.append_nil:=@List.append_nil
def Z3:type_of% @List.pairwise_map:=@List.pairwise_map
def Z4:type_of% @List.findSome?_eq_none_iff:=@List.findSome?_eq_none_iff
def Z5:type_of% @Nat.add_mul:=@Nat.add_mul
def Z6:type_of% @List.eq_nil_of_length_eq_zero:=@List.eq_nil_of_length_eq_zero
def Z7:type_of% @List.length_set:=@List.length_set
def Z8:type_of% @List.nil_append:=@List.nil_append
def Z9:type_of% @List.ext_getElem?:=@List.ext_getElem?
def aa9:type_of% @List.getElem?_set_ne:=@List.getElem?_set_ne
def ab9:type_of% @Array.length_toList:=@Array.length_toList
def ac9:type_of% @List.drop_append_of_le_length:=@List.drop_append_of_le_length
def ad9:type_of% @List.take_append_of_le_length:=@List.take_append_of_le_length
def ae9:type_of% @Array.getElem?_eq_getElem:=@Array.getElem?_eq_getElem
def af9:type_of% @List.mem_or_eq_of_mem_set:=@List.mem_or_eq_of_mem_set
def ag9:type_of% @List.pairwise_iff_getElem:=@List.pairwise_iff_getElem
def ah9:type_of% @Array.getElem?_setIfInBounds:=@Array.getElem?_setIfInBounds
def ai9:type_of% @List.drop_length:=@List.drop_length
def aj9:type_of% @Array.all_toList:=@Array.all_toList
def ak9:type_of% @Option.bind_some:=@Option.bind_some
def al9:type_of% @List.getElem_append_left:=@List.getElem_append_left
def am9:type_of% @List.getElem?_range:=@List.getElem?_range
def an9:type_of% @Array.getElem?_toList:=@Array.getElem?_toList
def ao9:type_of% @List.length_filter_le:=@List.length_filter_le
def ap9:type_of% @List.mem_range:=@List.mem_range
def aq9:type_of% @List.pairwise_cons:=@List.pairwise_cons
def ar9:type_of% @List.drop_of_length_le:=@List.drop_of_length_le
def as9:type_of% @List.length_range:=@List.length_range
def au9:type_of% @Bool.and_true:=@Bool.and_true
def av9:type_of% @List.mem_filterMap:=@List.mem_filterMap
def aw9:type_of% @Nat.lt_of_lt_of_le:=@Nat.lt_of_lt_of_le
def ax9:type_of% @List.length_eq_zero_iff:=@List.length_eq_zero_iff
def ay9:type_of% @List.any_eq_true:=@List.any_eq_true
def az9:type_of% @List.nodup_iff_pairwise_ne:=@List.nodup_iff_pairwise_ne
def bb9:type_of% @List.flatMap_append:=@List.flatMap_append
def bc9:type_of% @List.nodup_cons:=@List.nodup_cons
def bd9:type_of% @List.filterMap_append:=@List.filterMap_append
def be9:type_of% @ByteArray.size_append:=@ByteArray.size_append
def bf9:type_of% @List.getElem?_drop:=@List.getElem?_drop
def bg9:type_of% @List.mem_cons_self:=@List.mem_cons_self
def bh9:type_of% @List.drop_left:=@List.drop_left
def bi9:type_of% @Nat.add_mod:=@Nat.add_mod
def bj9:type_of% @List.flatten_cons:=@List.flatten_cons
def bk9:type_of% @List.mem_range'_1:=@List.mem_range'_1
def bl9:type_of% @List.getElem?_set_self:=@List.getElem?_set_self
def bm9:type_of% @Nat.mod_eq_of_lt:=@Nat.mod_eq_of_lt
def bn9:type_of% @List.mem_flatten:=@List.mem_flatten
def bo9:type_of% @List.getElem?_take:=@List.getElem?_take
def bp9:type_of% @List.take_left:=@List.take_left
def bq9:type_of% @List.getElem?_toArray:=@List.getElem?_toArray
def br9:type_of% @Classical.byContradiction:=@Classical.byContradiction
def bs9:type_of% @List.getElem_append_right:=@List.getElem_append_right
def bt9:type_of% @Option.map_some:=@Option.map_some
def bu9:type_of% @Bool.false_or:=@Bool.false_or
def bv9:type_of% @List.flatten_append:=@List.flatten_append
def bw9:type_of% @List.length_flatMap:=@List.length_flatMap
def by9:type_of% @List.cons_append:=@List.cons_append
def bz9:type_of% @List.getElem?_cons_succ:=@List.getElem?_cons_succ
def ca9:type_of% @List.ext_getElem:=@List.ext_getElem
def cb9:type_of% @Prod.mk.inj:=@Prod.mk.inj
def cc9:type_of% @Nat.add_zero:=@Nat.add_zero
def cd9:type_of% @Nat.sub_self:=@Nat.sub_self
def ce9:type_of% @List.map_set:=@List.map_set
def cf9:type_of% @Option.map_eq_some_iff:=@Option.map_eq_some_iff
def cg9:type_of% @Bool.eq_iff_iff:=@Bool.eq_iff_iff
def ch9:type_of% @List.find?_cons:=@List.find?_cons
def ci9:type_of% @Int.natCast_add:=@Int.natCast_add
def cj9:type_of% @List.findSome?_append:=@List.findSome?_append
def ck9:type_of% @List.findIdx?_map:=@List.findIdx?_map
def cl9:type_of% @List.mem_of_mem_drop:=@List.mem_of_mem_drop
def cm9:type_of% @Nat.zero_le:=@Nat.zero_le
def cn9:type_of% @Bool.and_false:=@Bool.and_false
def cp9:type_of% @Nat.mul_mod:=@Nat.mul_mod
def cq9:type_of% @List.findIdx?_append:=@List.findIdx?_append
def cr9:type_of% @decide_eq_decide:=@decide_eq_decide
def cs9:type_of% @List.mem_flatMap:=@List.mem_flatMap
def ct9:type_of% @List.all_cons:=@List.all_cons
def cu9:type_of% @Nat.mod_lt:=@Nat.mod_lt
def cv9:type_of% @decide_true:=@decide_true
def cw9:type_of% @Nat.mul_comm:=@Nat.mul_comm
def cx9:type_of% @Nat.zero_mul:=@Nat.zero_mul
def cy9:type_of% @Nat.sub_zero:=@Nat.sub_zero
def cz9:type_of% @Nat.mod_mod:=@Nat.mod_mod
abbrev Hp:=Array Obj
def jj (h:Hp) (a:Addr):Option Value :=
 match h[a.block]? with
 | some (.cells c _ _)=>if a.spot.isSome then none else c[a.off]?
 | _=>none
def xe (h:Hp) (a:Addr):Bool :=
 match h[a.block]? with
 | some (.cells _ _ (lo,hi))=>lo<=a.off && a.off<hi
 | _=>false
def lI (h:Hp) (a:Addr) (v:Value):Hp :=
 h.modify a.block fun
  | .cells c elem frozen=>.cells (if a.spot.isSome then c else c.setIfInBounds a.off v) elem frozen
  | o=>o
def Vv (h:Hp) (r:Nat):Option (TypeId × Nat) :=
 match h[r]? with
 | some (.cells c elem _)=>some (elem,c.size)
 | _=>none
def DP (h:Hp) (a:Addr) (n:Nat):Hp :=
 if n=0 then h else
 h.modify a.block fun
  | .cells c elem (lo,hi)=>.cells c elem (if lo==hi then (a.off,a.off+n) else (min lo a.off,max hi (a.off+n)))
  | o=>o
def LO (w:World) (a:Addr):w.cell? a=jj w.heap a:=rfl
def FU (w:World) (a:Addr) (n:Nat):(w.freeze a n).heap=DP w.heap a n:=by
 unfold World.freeze DP; split <;> rfl
structure ec (w w':World):Prop where
 os:w'.os=w.os
 tape:w'.tape=w.tape
 output:w'.output=w.output
def ec.refl (w:World):ec w w:=⟨rfl,rfl,rfl⟩
def ec.trans {a b c:World} (h:ec a b) (k:ec b c):ec a c:=⟨k.os.trans h.os,k.tape.trans h.tape,k.output.trans h.output⟩
def ec.freeze {w b:World} (h:ec b w) (a:Addr) (n:Nat):ec b (w.freeze a n):=by
 unfold World.freeze; split
 ·exact h
 ·exact ⟨h.os,h.tape,h.output⟩
def da:Value->Bool
 | .agg _=>false
 | .tuple _=>false
 | _=>true
def aZ (P:Program) {α:Type}:Sem α->Hp->(α->Hp->Prop)->Prop
 | .pure a,h,K=>K a h
 | .load _ a k,h,K=>∃ v,jj h a=some v/\aZ P (k v) h K
 | .store _ a v k,h,K=>da v=true/\(∃ u,jj h a=some u)/\xe h a=false/\aZ P k (lI h a v) K
 | .new o k,h,K=>aZ P (k h.size) (h.push o) K
 | .shape r k,h,K=>aZ P (k (Vv h r)) h K
 | .freeze a n k,h,K=>aZ P k (DP h a n) K
 | .frozen a k,h,K=>aZ P (k (xe h a)) h K
 | .getObj r k,h,K=>∃ o,h[r]?=some o/\(∀ c e f,o≠.cells c e f)/\aZ P (k o) h K
 | .setObj r o k,h,K=>(∃ o',h[r]?=some o'/\∀ c e f,o'≠.cells c e f)/\aZ P k (h.setIfInBounds r o) K
 | .choose q k,h,K=>if q.forced then aZ P (k 0) h K else ∀ t,aZ P (k (q.cut t)) h K
 | .sys _ _,_,_=>False
 | .program k,h,K=>aZ P (k P) h K
 | .mark _ k,h,K=>aZ P k h K
 | .halt _,_,_=>False
variable {H:Program}
def qy {α:Type} (s:Sem α):∀ (w:World) (K:α->Hp->Prop),aZ H s w.heap K ->
  ∃ a w',s.run H w=.ok a w'/\ec w w'/\K a w'.heap:=by
 induction s with
 | pure a=>intro w K h; exact ⟨a,w,rfl,ec.refl w,h⟩
 | load m a k b =>
  intro w K h;obtain ⟨v,hv,hk⟩:=h
  have:w.cell? a=some v:=hv
  obtain ⟨x,w',h1,h2,d⟩:=b v w K hk;exact ⟨x,w',by simp only [Sem.run,this,h1],h2,d⟩
 | store m a v k b =>
  intro w K h;obtain ⟨l,⟨u,p⟩,t,hk⟩:=h;have g:w.cell? a=some u:=p;have i:w.frozen? a=false:=t;obtain ⟨x,w',h1,h2,d⟩:=b (w.setCell a v) K hk;refine ⟨x,w',?_,⟨h2.os,h2.tape,h2.output⟩,d⟩;cases v <;> first | (simp [da] at l; done) | (simp only [Sem.run,g,i]; exact h1)
 | new o k b =>
  intro w K h;obtain ⟨x,w',h1,h2,d⟩:=b w.heap.size { w with heap:=w.heap.push o } K h;exact ⟨x,w',h1,⟨h2.os,h2.tape,h2.output⟩,d⟩
 | shape r k b=>intro w K h; exact b _ w K h
 | freeze a n k b =>
  intro w K h;obtain ⟨x,w',h1,h2,d⟩:=b (w.freeze a n) K (by rw [FU]; exact h);exact ⟨x,w',h1,ec.trans ((ec.refl w).freeze a n) h2,d⟩
 | frozen a k b=>intro w K h; exact b _ w K h
 | getObj r k b =>
  intro w K h;obtain ⟨o,j,e,hk⟩:=h;obtain ⟨x,w',h1,h2,d⟩:=b o w K hk;refine ⟨x,w',?_,h2,d⟩;simp only [Sem.run,j];cases o <;> first | exact (e _ _ _ rfl).elim | exact h1
 | setObj r o k b =>
  intro w K h;obtain ⟨⟨o',j,e⟩,hk⟩:=h;obtain ⟨x,w',h1,h2,d⟩:=b { w with heap:=w.heap.setIfInBounds r o } K hk;refine ⟨x,w',?_,⟨h2.os,h2.tape,h2.output⟩,d⟩;simp only [Sem.run,j];cases o' <;> first | exact (e _ _ _ rfl).elim | exact h1
 | choose q k b =>
  intro w K h;simp only [aZ] at h
  by_cases f:q.forced=true
  ·rw [if_pos f] at h;obtain ⟨x,w',h1,h2,d⟩:=b 0 w K h;exact ⟨x,w',by simp only [Sem.run,if_pos f]; exact h1,h2,d⟩
  ·rw [if_neg f] at h;obtain ⟨x,w',h1,h2,d⟩:=b (q.cut (w.tape w.drawn q)) { w with drawn:=w.drawn+1 } K (h _);exact ⟨x,w',by simp only [Sem.run,if_neg f]; exact h1,⟨h2.os,h2.tape,h2.output⟩,d⟩
 | sys c k b=>intro w K h; exact h.elim
 | program k b=>intro w K h; exact b H w K h
 | mark m k b=>intro w K h; exact b w K h
 | halt x=>intro w K h; exact h.elim
def ek {α:Type} (s:Sem α):∀ (h:Hp) (K K':α->Hp->Prop),(∀ a h,K a h->K' a h)->aZ H s h K->aZ H s h K':=by
 induction s with
 | pure a=>intro h K K' m k; exact m _ _ k
 | load m a k d=>intro h K K' b ⟨v,hv,hk⟩; exact ⟨v,hv,d v h K K' b hk⟩
 | store m a v k d=>intro h K K' b ⟨h1,h2,f,hk⟩; exact ⟨h1,h2,f,d _ K K' b hk⟩
 | new o k d=>intro h K K' b hk; exact d _ _ K K' b hk
 | shape r k d=>intro h K K' b hk; exact d _ _ K K' b hk
 | freeze a n k d=>intro h K K' b hk; exact d _ K K' b hk
 | frozen a k d=>intro h K K' b hk; exact d _ _ K K' b hk
 | getObj r k d=>intro h K K' b ⟨o,h1,h2,hk⟩; exact ⟨o,h1,h2,d _ _ K K' b hk⟩
 | setObj r o k d=>intro h K K' b ⟨h1,hk⟩; exact ⟨h1,d _ K K' b hk⟩
 | choose q k d =>
  intro h K K' b hk;simp only [aZ] at hk ⊢;split
  ·rename_i e; rw [if_pos e] at hk; exact d _ _ K K' b hk
  ·rename_i e; rw [if_neg e] at hk; exact fun t=>d _ _ K K' b (hk t)
 | sys c k d=>intro h K K' b hk; exact hk.elim
 | program k d=>intro h K K' b hk; exact d _ _ K K' b hk
 | mark m k d=>intro h K K' b hk; exact d _ K K' b hk
 | halt x=>intro h K K' b hk; exact hk.elim
def LS {α β:Type} (s:Sem α) (f:α->Sem β):∀ (h:Hp) (K:β->Hp->Prop),
  aZ H (s.bind f) h K=aZ H s h (fun a h'=>aZ H (f a) h' K):=by
 induction s with
 | pure a=>intro h K; rfl
 | load m a k b=>intro h K; simp only [Sem.bind,aZ,b]
 | store m a v k b=>intro h K; simp only [Sem.bind,aZ,b]
 | new o k b=>intro h K; simp only [Sem.bind,aZ,b]
 | shape r k b=>intro h K; simp only [Sem.bind,aZ,b]
 | freeze a n k b=>intro h K; simp only [Sem.bind,aZ,b]
 | frozen a k b=>intro h K; simp only [Sem.bind,aZ,b]
 | getObj r k b=>intro h K; simp only [Sem.bind,aZ,b]
 | setObj r o k b=>intro h K; simp only [Sem.bind,aZ,b]
 | choose q k b=>intro h K; simp only [Sem.bind,aZ,b]
 | sys c k b=>intro h K; rfl
 | program k b=>intro h K; simp only [Sem.bind,aZ,b]
 | mark m k b=>intro h K; simp only [Sem.bind,aZ,b]
 | halt x=>intro h K; rfl
def an {α β:Type} (s:Sem α) (f:α->Sem β) (h:Hp) (K:β->Hp->Prop) :
  aZ H (s >>= f) h K=aZ H s h (fun a h'=>aZ H (f a) h' K):=LS s f h K
def LZ {α:Type} (a:α) (h:Hp) (K:α->Hp->Prop):aZ H (pure a) h K=K a h:=rfl
def HC (P:Program) (f:FuncId) (args:Array Value) (h:Hp) (R:Value->Hp->Prop):Prop :=
 ∀ w:World,w.heap=h->Calls P f args w fun e w'=>∃ v,e=.returned v/\ec w w'/\R v w'.heap
def HC.mono {P:Program} {f:FuncId} {args:Array Value} {h:Hp} {R R':Value->Hp->Prop} (hc:HC P f args h R) (m:∀ v h',R v h'->R' v h') :
  HC P f args h R':=fun w a=>(hc w a).mono fun e w' ⟨v,h1,h2,b⟩=>⟨v,h1,h2,m _ _ b⟩
def Dy (P:Program) (K:Value->Hp->Prop):Next->Hp->Prop
 | .value v,h=>K v h
 | .skip,h=>K undef h
 | .enter f args,h=>HC P f args h K
 | _,_=>False
def Xx (P:Program) (o:Oper) (ev:Operand->Value) (h:Hp) (K:Value->Hp->Prop):Prop:=aZ P (execOp ev o) h (Dy P K)
variable {I:Act}
def yG {o:Oper} {w:World} {K:Value->Hp->Prop} {next:Act->World->Prop} {Q:Exit->Act->World->Prop}
  (hk:Xx H o I.eval w.heap K) (hn:∀ v w',ec w w'->K v w'.heap->next (I.put o.dst v) w'):o.wp H I w next Q:=by
 obtain ⟨n,w',h1,h2,b⟩:=qy _ w _ hk;unfold Oper.wp;rw [h1];cases n <;> simp only [Dy] at b
 case value v=>exact hn v w' h2 b
 case skip=>exact hn undef w' h2 b
 case enter f args =>
  exact (b w' rfl).mono fun e c ⟨v,d,g,h⟩=>by subst d; exact hn v c (h2.trans g) h
def cW (P:Program) (c:Code) (Q:Exit->Act->Hp->Prop) (a:Act) (h:Hp):Prop :=
 ∀ b w:World,ec b w->w.heap=h->c.wp P (fun e a' w'=>ec b w'/\Q e a' w'.heap) a w
variable {U Y:Code} {O:Exit->Act->Hp->Prop}
def ua {b:Exit->Act->Hp->Prop} {h:Hp} (m:∀ e I h,O e I h->b e I h) (hc:cW H U O I h):cW H U b I h :=
 fun d w f g=>Code.wp_mono (fun _ _ _ ⟨h1,h2⟩=>⟨h1,m _ _ _ h2⟩) (hc d w f g)
def Ke {h:Hp} (b:O .normal I h):cW H .skip O I h:=fun e w c d=>wp_skip ⟨c,d▸b⟩
variable {V:Nat}
def F8 {h:Hp} (b:O .normal I h):cW H (.label V) O I h:=fun e w c d=>wp_label ⟨c,d▸b⟩
def Kf {h:Hp} (b:O (.exit V) I h):cW H (.exit V) O I h:=fun e w c d=>wp_exit ⟨c,d▸b⟩
def JD {h:Hp} (b:O (.goto V) I h):cW H (.goto V) O I h:=fun e w c d=>wp_goto ⟨c,d▸b⟩
def Pa {h:Hp} (b:O .ret I h):cW H .ret O I h:=fun e w c d=>wp_ret ⟨c,d▸b⟩
def P3 (next:Act->Hp->Prop) (Q:Exit->Act->Hp->Prop):Exit->Act->Hp->Prop
 | .normal,a,h=>next a h
 | e,a,h=>Q e a h
def D2 {h:Hp} (c:cW H U (P3 (cW H Y O) O) I h):cW H (.seq U Y) O I h :=
 fun b w d f=>wp_seq (Code.wp_mono (fun e a' w' ⟨h1,h2⟩=>by
  cases e <;> first | exact h2 b w' h1 rfl | exact ⟨h1,h2⟩) (c b w d f))
def ED {c:Operand} {b:Bool} {h:Hp} (hc:I.eval c=.bool b)
  (i:b=true->cW H U O I h) (j:b=false->cW H Y O I h):cW H (.cond c U Y) O I h :=
 fun d w f g=>wp_cond_split hc (fun e=>i e d w f g) (fun e=>j e d w f g)
def nz (id:Nat) (Q:Exit->Act->Hp->Prop):Exit->Act->Hp->Prop
 | .exit b,a,h=>if b=id then Q .normal a h else Q (.exit b) a h
 | e,a,h=>Q e a h
def GC {id:Nat} {h:Hp} (hc:cW H U (nz id O) I h):cW H (.block id U) O I h :=
 fun b w d f=>wp_block (Code.wp_mono (fun e a' w' ⟨h1,h2⟩=>by
  cases e <;> first
   | (simp only [Exit.inBlock,nz] at h2 ⊢; split <;> rename_i g <;> simp only [g,if_true,if_false] at h2 <;> exact ⟨h1,h2⟩)
   | exact ⟨h1,h2⟩) (hc b w d f))
def JS {Q : Exit -> Act -> Hp -> Prop} {h : Hp} (b : Nat -> Act -> Hp -> Prop) (h0 : ∃ n, b n I h)
    (round : ∀ n I h, b n I h -> cW H U (P3 (fun a' h' => ∃ m, m < n /\ b m a' h') Q) I h) : cW H (.loop U) Q I h := by
  intro k w q u
  have r : ∀ n I w, ec k w -> b n I w.heap -> (Code.loop U).wp H (fun e a' w' => ec k w' /\ Q e a' w'.heap) I w := by
    intro n I w q x
    have := wp_loop (P := H) (c := U) (a := I) (w := w) (Q := fun e a' w' => ec k w' /\ Q e a' w'.heap)
      (fun I w => ∃ n, ec k w /\ b n I w.heap)
      (fun I w => by
        classical
        exact if p : ∃ n, b n I w.heap then Classical.choose (show ∃ n, b n I w.heap /\ ∀ m, b m I w.heap -> n <= m from by
          obtain ⟨n, hn⟩ := p
          induction n using Nat.strongRecOn with
          | _ n l =>
            by_cases i : ∃ m, m < n /\ b m I w.heap
            · obtain ⟨m, d, f⟩ := i; exact l m d f
            · exact ⟨n, hn, fun m d => Nat.le_of_not_lt fun g => i ⟨m, g, d⟩⟩) else 0)
      ⟨n, q, x⟩
      (by
        rintro I w ⟨y, s, t⟩;have p : ∃ n, b n I w.heap := ⟨y, t⟩
        have hspec := Classical.choose_spec (show ∃ n, b n I w.heap /\ ∀ m, b m I w.heap -> n <= m from by
          obtain ⟨n, hn⟩ := p
          induction n using Nat.strongRecOn with
          | _ n l =>
            by_cases i : ∃ m, m < n /\ b m I w.heap
            · obtain ⟨m, d, f⟩ := i; exact l m d f
            · exact ⟨n, hn, fun m d => Nat.le_of_not_lt fun g => i ⟨m, g, d⟩⟩)
        rw [dif_pos p];refine Code.wp_mono ?_ (round _ I w.heap hspec.1 k w s rfl);intro e a' w' ⟨h1, h2⟩
        cases e <;> first
          | exact ⟨h1, h2⟩
          | (obtain ⟨m, d, j⟩ := h2
             refine ⟨⟨m, h1, j⟩, ?_⟩;have o : ∃ n, b n a' w'.heap := ⟨m, j⟩
             rw [dif_pos o];refine Nat.lt_of_le_of_lt ?_ d;exact (Classical.choose_spec (show ∃ n, b n a' w'.heap /\ ∀ m, b m a' w'.heap -> n <= m from by
              obtain ⟨n, hn⟩ := o
              induction n using Nat.strongRecOn with
              | _ n l =>
                by_cases i : ∃ m, m < n /\ b m a' w'.heap
                · obtain ⟨m, d, f⟩ := i; exact l m d f
                · exact ⟨n, hn, fun m d => Nat.le_of_not_lt fun g => i ⟨m, g, d⟩⟩)).2 m j))
    exact this
  obtain ⟨n, hn⟩ := h0;exact r n I w q (u ▸ hn)
abbrev vI (n:Int):Value:=.int .i64 n
abbrev yI (t:TypeId):List TypeDesc:=[.int .i64,.string,.int .i64,.int .i64,.int .i64,.int .i32,.int .i64,.slice t,.int .u32,.int .i64]
abbrev yL (t:TypeId):List TypeDesc:=[.slice t,.int .u32]
abbrev yU (t u:TypeId):List TypeDesc:=[.slice t,.slice t,.slice u,.slice 9]
def nA {α:Type} (l:List α):[]++l=l:=rfl
def cA {α:Type} (a:α) (k l:List α):(a::k)++l=a::(k++l):=rfl
end Go.Sx
