/- Part of the framework. No condition. -/
import Derived.KernelRfl
import Derived.WalkKit
set_option linter.all false
set_option maxHeartbeats 4000000
def ad {p : Prop} (h : p := by omega) : p := h
def ai {p : Prop} (h : p := by simp) : p := h
def bH {p : Prop} (h : p := by decide) : p := h
def av {p : Prop} (h : p := by kernel_rfl) : p := h
namespace Go.Sx
abbrev Xaa:=ByteArray
abbrev Xab:=Value
abbrev Xac:=Option Addr
abbrev Xax:=Addr
def aa9:type_of% @Option.bind_eq_some_iff:=@Option.bind_eq_some_iff
def ab9:type_of% @List.length_map:=@List.length_map
def ac9:type_of% @if_neg:=@if_neg
def ad9:type_of% @List.getElem?_eq_getElem:=@List.getElem?_eq_getElem
def ae9:type_of% @List.length_append:=@List.length_append
def af9:type_of% @List.take_succ_eq_append_getElem:=@List.take_succ_eq_append_getElem
def ag9:type_of% @if_pos:=@if_pos
def ah9:type_of% @List.getElem_mem:=@List.getElem_mem
def ai9:type_of% @of_decide_eq_true:=@of_decide_eq_true
def aj9:type_of% @List.getElem_map:=@List.getElem_map
def ak9:type_of% @decide_eq_true:=@decide_eq_true
def al9:type_of% @decide_eq_false:=@decide_eq_false
def am9:type_of% @Nat.le_refl:=@Nat.le_refl
def an9:type_of% @List.mem_singleton:=@List.mem_singleton
def ao9:type_of% @List.map_append:=@List.map_append
def ap9:type_of% @List.mem_map:=@List.mem_map
def aq9:type_of% @List.mem_cons_of_mem:=@List.mem_cons_of_mem
def ar9:type_of% @List.mem_append:=@List.mem_append
def as9:type_of% @congrArg:=@congrArg
def au9:type_of% @List.length_take:=@List.length_take
def av9:type_of% @Nat.eq_of_beq_eq_true:=@Nat.eq_of_beq_eq_true
def aw9:type_of% @of_decide_eq_false:=@of_decide_eq_false
def ax9:type_of% @List.drop_eq_getElem_cons:=@List.drop_eq_getElem_cons
def ay9:type_of% @List.mem_map_of_mem:=@List.mem_map_of_mem
def az9:type_of% @List.append_assoc:=@List.append_assoc
def bb9:type_of% @Option.some.inj:=@Option.some.inj
def bc9:type_of% @List.getElem?_eq_some_iff:=@List.getElem?_eq_some_iff
def bd9:type_of% @List.mem_cons:=@List.mem_cons
def be9:type_of% @List.mem_append_left:=@List.mem_append_left
def bf9:type_of% @List.findIdx?_eq_some_iff_getElem:=@List.findIdx?_eq_some_iff_getElem
def bg9:type_of% @List.map_map:=@List.map_map
def bh9:type_of% @List.getElem_of_mem:=@List.getElem_of_mem
def bi9:type_of% @List.mem_append_right:=@List.mem_append_right
def bj9:type_of% @List.take_length:=@List.take_length
def bk9:type_of% @Nat.le_of_ble_eq_true:=@Nat.le_of_ble_eq_true
def bl9:type_of% @Bool.true_and:=@Bool.true_and
def bm9:type_of% @Bool.and_eq_true:=@Bool.and_eq_true
def bn9:type_of% @List.all_eq_true:=@List.all_eq_true
def bo9:type_of% @List.take_of_length_le:=@List.take_of_length_le
def bp9:type_of% @List.getElem?_append_right:=@List.getElem?_append_right
def bq9:type_of% @List.map_cons:=@List.map_cons
def br9:type_of% @List.getElem_append_left:=@List.getElem_append_left
def bs9:type_of% @List.length_drop:=@List.length_drop
def bt9:type_of% @List.foldl_cons:=@List.foldl_cons
def bu9:type_of% @List.eq_nil_of_length_eq_zero:=@List.eq_nil_of_length_eq_zero
def bv9:type_of% @List.getElem?_eq_none:=@List.getElem?_eq_none
def bw9:type_of% @List.getElem?_append_left:=@List.getElem?_append_left
def by9:type_of% @Nat.zero_add:=@Nat.zero_add
def bz9:type_of% @List.findIdx?_eq_none_iff:=@List.findIdx?_eq_none_iff
def ca9:type_of% @Array.toList_inj:=@Array.toList_inj
def cb9:type_of% @List.append_nil:=@List.append_nil
def cc9:type_of% @List.take_append_drop:=@List.take_append_drop
def cd9:type_of% @Nat.le_trans:=@Nat.le_trans
def ce9:type_of% @List.drop_eq_nil_of_le:=@List.drop_eq_nil_of_le
def cf9:type_of% @List.flatMap_cons:=@List.flatMap_cons
def cg9:type_of% @List.getD_eq_getElem?_getD:=@List.getD_eq_getElem?_getD
def ch9:type_of% @List.getElem_append_right:=@List.getElem_append_right
def ci9:type_of% @List.take_append_of_le_length:=@List.take_append_of_le_length
def cj9:type_of% @Nat.lt_or_ge:=@Nat.lt_or_ge
def ck9:type_of% @List.foldl_append:=@List.foldl_append
def cl9:type_of% @List.getElem?_map:=@List.getElem?_map
def cm9:type_of% @List.map_congr_left:=@List.map_congr_left
def cn9:type_of% @List.length_cons:=@List.length_cons
def cp9:type_of% @Nat.min_eq_left:=@Nat.min_eq_left
def cq9:type_of% @Option.isSome_iff_exists:=@Option.isSome_iff_exists
def cr9:type_of% @List.mem_of_getElem?:=@List.mem_of_getElem?
def cs9:type_of% @List.pairwise_map:=@List.pairwise_map
def ct9:type_of% @List.nodup_append:=@List.nodup_append
def cu9:type_of% @List.sum_cons:=@List.sum_cons
def cv9:type_of% @List.length_set:=@List.length_set
def cw9:type_of% @List.nil_append:=@List.nil_append
def cx9:type_of% @Array.getElem?_eq_none:=@Array.getElem?_eq_none
def cy9:type_of% @List.mem_of_mem_take:=@List.mem_of_mem_take
def cz9:type_of% @Nat.mul_le_mul_right:=@Nat.mul_le_mul_right
def da9:type_of% @List.mem_cons_self:=@List.mem_cons_self
def db9:type_of% @List.findSome?_eq_none_iff:=@List.findSome?_eq_none_iff
def dc9:type_of% @List.drop_append_of_le_length:=@List.drop_append_of_le_length
def dd9:type_of% @Nat.add_mul:=@Nat.add_mul
def de9:type_of% @Array.length_toList:=@Array.length_toList
def df9:type_of% @Array.all_toList:=@Array.all_toList
def dg9:type_of% @List.drop_length:=@List.drop_length
def dh9:type_of% @List.ext_getElem?:=@List.ext_getElem?
def di9:type_of% @Bool.and_true:=@Bool.and_true
def dj9:type_of% @Array.getElem?_eq_getElem:=@Array.getElem?_eq_getElem
def dk9:type_of% @List.mem_or_eq_of_mem_set:=@List.mem_or_eq_of_mem_set
def dl9:type_of% @List.drop_of_length_le:=@List.drop_of_length_le
def dm9:type_of% @Array.getElem?_setIfInBounds:=@Array.getElem?_setIfInBounds
def do9:type_of% @Option.bind_some:=@Option.bind_some
def dp9:type_of% @List.getElem?_range:=@List.getElem?_range
def dq9:type_of% @Array.getElem?_toList:=@Array.getElem?_toList
def dr9:type_of% @List.length_filter_le:=@List.length_filter_le
def ds9:type_of% @List.pairwise_cons:=@List.pairwise_cons
def dt9:type_of% @List.getElem?_set_ne:=@List.getElem?_set_ne
def du9:type_of% @Prod.mk.inj:=@Prod.mk.inj
def dv9:type_of% @List.pairwise_iff_getElem:=@List.pairwise_iff_getElem
def dw9:type_of% @Nat.zero_le:=@Nat.zero_le
def dx9:type_of% @List.length_range:=@List.length_range
def dy9:type_of% @List.drop_left:=@List.drop_left
def dz9:type_of% @List.mem_filterMap:=@List.mem_filterMap
def ea9:type_of% @Nat.lt_of_lt_of_le:=@Nat.lt_of_lt_of_le
def eb9:type_of% @Nat.mod_eq_of_lt:=@Nat.mod_eq_of_lt
def ec9:type_of% @List.length_eq_zero_iff:=@List.length_eq_zero_iff
def ed9:type_of% @List.any_eq_true:=@List.any_eq_true
def ee9:type_of% @List.findIdx?_append:=@List.findIdx?_append
def ef9:type_of% @List.mem_range:=@List.mem_range
def eg9:type_of% @List.take_left:=@List.take_left
def eh9:type_of% @Nat.add_zero:=@Nat.add_zero
def ei9:type_of% @List.nodup_iff_pairwise_ne:=@List.nodup_iff_pairwise_ne
def ej9:type_of% @List.flatMap_append:=@List.flatMap_append
def ek9:type_of% @Bool.eq_iff_iff:=@Bool.eq_iff_iff
def el9:type_of% @List.nodup_cons:=@List.nodup_cons
def em9:type_of% @List.filterMap_append:=@List.filterMap_append
def en9:type_of% @ByteArray.size_append:=@ByteArray.size_append
def eo9:type_of% @List.getElem?_take:=@List.getElem?_take
def ep9:type_of% @List.getElem?_drop:=@List.getElem?_drop
def eq9:type_of% @Nat.add_mod:=@Nat.add_mod
def er9:type_of% @List.flatten_cons:=@List.flatten_cons
def et9:type_of% @List.length_flatMap:=@List.length_flatMap
def eu9:type_of% @List.getElem?_set_self:=@List.getElem?_set_self
def ev9:type_of% @Option.map_eq_some_iff:=@Option.map_eq_some_iff
def ew9:type_of% @List.prefix_refl:=@List.prefix_refl
def ex9:type_of% @List.getElem?_toArray:=@List.getElem?_toArray
def ey9:type_of% @Classical.byContradiction:=@Classical.byContradiction
def ez9:type_of% @Option.map_some:=@Option.map_some
def fa9:type_of% @Bool.false_or:=@Bool.false_or
def fb9:type_of% @List.flatten_append:=@List.flatten_append
def fc9:type_of% @List.cons_append:=@List.cons_append
def fd9:type_of% @List.getElem?_cons_succ:=@List.getElem?_cons_succ
def fe9:type_of% @Bool.and_false:=@Bool.and_false
def ff9:type_of% @List.mem_flatMap:=@List.mem_flatMap
def fg9:type_of% @Nat.sub_self:=@Nat.sub_self
def fh9:type_of% @List.map_set:=@List.map_set
def fi9:type_of% @ne_of_beq_false:=@ne_of_beq_false
def fj9:type_of% @List.find?_cons:=@List.find?_cons
def fk9:type_of% @Int.natCast_add:=@Int.natCast_add
def fl9:type_of% @List.all_cons:=@List.all_cons
def fm9:type_of% @List.findSome?_append:=@List.findSome?_append
def fn9:type_of% @List.findIdx?_map:=@List.findIdx?_map
def fo9:type_of% @List.drop_drop:=@List.drop_drop
def fp9:type_of% @List.mem_of_mem_drop:=@List.mem_of_mem_drop
def fq9:type_of% @List.drop_eq_nil_iff:=@List.drop_eq_nil_iff
def fr9:type_of% @List.take_take:=@List.take_take
def fs9:type_of% @Array.size_replicate:=@Array.size_replicate
def ft9:type_of% @Nat.mul_mod:=@Nat.mul_mod
def fu9:type_of% @List.pairwise_append:=@List.pairwise_append
def fv9:type_of% @Nat.mul_comm:=@Nat.mul_comm
def fw9:type_of% @decide_eq_decide:=@decide_eq_decide
def fx9:type_of% @List.mem_flatten:=@List.mem_flatten
def fy9:type_of% @List.ext_getElem:=@List.ext_getElem
def fz9:type_of% @Nat.mod_lt:=@Nat.mod_lt
def ga9:type_of% @decide_true:=@decide_true
def gb9:type_of% @Nat.sub_zero:=@Nat.sub_zero
def gc9:type_of% @Nat.mod_mod:=@Nat.mod_mod
abbrev Hp:=Array Obj
def iB (h:Hp) (a:Addr):Option Value :=
 match h[a.block]? with
 | some (.cells c _ _)=>if a.spot.isSome then none else c[a.off]?
 | _=>none
def xt (h:Hp) (a:Addr):Bool :=
 match h[a.block]? with
 | some (.cells _ _ (lo,hi))=>lo<=a.off && a.off<hi
 | _=>false
def ml (h:Hp) (a:Addr) (v:Value):Hp :=
 h.modify a.block λ
  | .cells c elem frozen=>.cells (if a.spot.isSome then c else c.setIfInBounds a.off v) elem frozen
  | o=>o
def Yb (h:Hp) (r:Nat):Option (TypeId × Nat) :=
 match h[r]? with
 | some (.cells c elem _)=>some (elem,c.size)
 | _=>none
def EF (h:Hp) (a:Addr) (n:Nat):Hp :=
 if n=0 then h else
 h.modify a.block λ
  | .cells c elem (lo,hi)=>.cells c elem (if lo==hi then (a.off,a.off+n) else (min lo a.off,max hi (a.off+n)))
  | o=>o
def Ec (w:World) (a:Addr):w.cell? a=iB w.heap a:=rfl
def GV (w:World) (a:Addr) (n:Nat):(w.freeze a n).heap=EF w.heap a n:=by
 unfold World.freeze EF; split <;> rfl
structure dO (w w':World):Prop where
 os:w'.os=w.os
 tape:w'.tape=w.tape
 output:w'.output=w.output
def dO.refl (w:World):dO w w:=⟨rfl,rfl,rfl⟩
def dO.trans {a b c:World} (h:dO a b) (k:dO b c):dO a c:=⟨k.os.trans h.os,k.tape.trans h.tape,k.output.trans h.output⟩
def dO.freeze {w b:World} (h:dO b w) (a:Addr) (n:Nat):dO b (w.freeze a n):=by
 unfold World.freeze; split
 ·exact h
 ·exact ⟨h.os,h.tape,h.output⟩
def df:Value->Bool
 | .agg _=>false
 | .tuple _=>false
 | _=>true
def aQ (P:Program) {α:Type}:Sem α->Hp->(α->Hp->Prop)->Prop
 | .pure a,h,K=>K a h
 | .load _ a k,h,K=>∃ v,iB h a=some v/\aQ P (k v) h K
 | .store _ a v k,h,K=>df v=true/\(∃ u,iB h a=some u)/\xt h a=false/\aQ P k (ml h a v) K
 | .new o k,h,K=>aQ P (k h.size) (h.push o) K
 | .shape r k,h,K=>aQ P (k (Yb h r)) h K
 | .freeze a n k,h,K=>aQ P k (EF h a n) K
 | .frozen a k,h,K=>aQ P (k (xt h a)) h K
 | .getObj r k,h,K=>∃ o,h[r]?=some o/\(∀ c e f,o≠.cells c e f)/\aQ P (k o) h K
 | .setObj r o k,h,K=>(∃ o',h[r]?=some o'/\∀ c e f,o'≠.cells c e f)/\aQ P k (h.setIfInBounds r o) K
 | .choose q k,h,K=>if q.forced then aQ P (k 0) h K else ∀ t,aQ P (k (q.cut t)) h K
 | .sys _ _,_,_=>False
 | .program k,h,K=>aQ P (k P) h K
 | .mark _ k,h,K=>aQ P k h K
 | .halt _,_,_=>False
variable {H:Program}
def qJ {α:Type} (s:Sem α):∀ (w:World) (K:α->Hp->Prop),aQ H s w.heap K ->
  ∃ a w',s.run H w=.ok a w'/\dO w w'/\K a w'.heap:=by
 induction s with
 | pure a=>intro w K h; exact ⟨a,w,rfl,dO.refl w,h⟩
 | load m a k b =>
  intro w K h;obtain ⟨v,hv,hk⟩:=h
  have:w.cell? a=some v:=hv
  obtain ⟨x,w',h1,h2,d⟩:=b v w K hk;exact ⟨x,w',by simp only [Sem.run,this,h1],h2,d⟩
 | store m a v k b =>
  intro w K h;obtain ⟨l,⟨u,p⟩,t,hk⟩:=h;have g:w.cell? a=some u:=p;have i:w.frozen? a=false:=t;obtain ⟨x,w',h1,h2,d⟩:=b (w.setCell a v) K hk;refine ⟨x,w',?_,⟨h2.os,h2.tape,h2.output⟩,d⟩;cases v <;> first | (simp [df] at l; done) | (simp only [Sem.run,g,i]; exact h1)
 | new o k b =>
  intro w K h;obtain ⟨x,w',h1,h2,d⟩:=b w.heap.size { w with heap:=w.heap.push o } K h;exact ⟨x,w',h1,⟨h2.os,h2.tape,h2.output⟩,d⟩
 | shape r k b=>intro w K h; exact b _ w K h
 | freeze a n k b =>
  intro w K h;obtain ⟨x,w',h1,h2,d⟩:=b (w.freeze a n) K (by rw [GV]; exact h);exact ⟨x,w',h1,dO.trans ((dO.refl w).freeze a n) h2,d⟩
 | frozen a k b=>intro w K h; exact b _ w K h
 | getObj r k b =>
  intro w K h;obtain ⟨o,j,e,hk⟩:=h;obtain ⟨x,w',h1,h2,d⟩:=b o w K hk;refine ⟨x,w',?_,h2,d⟩;simp only [Sem.run,j];cases o <;> first | exact (e _ _ _ rfl).elim | exact h1
 | setObj r o k b =>
  intro w K h;obtain ⟨⟨o',j,e⟩,hk⟩:=h;obtain ⟨x,w',h1,h2,d⟩:=b { w with heap:=w.heap.setIfInBounds r o } K hk;refine ⟨x,w',?_,⟨h2.os,h2.tape,h2.output⟩,d⟩;simp only [Sem.run,j];cases o' <;> first | exact (e _ _ _ rfl).elim | exact h1
 | choose q k b =>
  intro w K h;simp only [aQ] at h
  by_cases f:q.forced=true
  ·rw [if_pos f] at h;obtain ⟨x,w',h1,h2,d⟩:=b 0 w K h;exact ⟨x,w',by simp only [Sem.run,if_pos f]; exact h1,h2,d⟩
  ·rw [if_neg f] at h;obtain ⟨x,w',h1,h2,d⟩:=b (q.cut (w.tape w.drawn q)) { w with drawn:=w.drawn+1 } K (h _);exact ⟨x,w',by simp only [Sem.run,if_neg f]; exact h1,⟨h2.os,h2.tape,h2.output⟩,d⟩
 | sys c k b=>intro w K h; exact h.elim
 | program k b=>intro w K h; exact b H w K h
 | mark m k b=>intro w K h; exact b w K h
 | halt x=>intro w K h; exact h.elim
def ec {α:Type} (s:Sem α):∀ (h:Hp) (K K':α->Hp->Prop),(∀ a h,K a h->K' a h)->aQ H s h K->aQ H s h K':=by
 induction s with
 | pure a=>intro h K K' m k; exact m _ _ k
 | load m a k d=>intro h K K' b ⟨v,hv,hk⟩; exact ⟨v,hv,d v h K K' b hk⟩
 | store m a v k d=>intro h K K' b ⟨h1,h2,f,hk⟩; exact ⟨h1,h2,f,d _ K K' b hk⟩
 | new o k d=>intro h K K' b hk; exact d _ _ K K' b hk
 | shape r k d=>intro h K K' b hk; exact d _ _ K K' b hk
 | freeze a n k d=>intro h K K' b hk; exact d _ K K' b hk
 | frozen a k d=>intro h K K' b hk; exact d _ _ K K' b hk
 | getObj r k d=>intro h K K' b ⟨o,h1,h2,hk⟩; exact ⟨o,h1,h2,d _ _ K K' b hk⟩
 | setObj r o k d=>intro h K K' b ⟨h1,hk⟩; exact ⟨h1,d _ K K' b hk⟩
 | choose q k d =>
  intro h K K' b hk;simp only [aQ] at hk ⊢;split
  ·rename_i e; rw [if_pos e] at hk; exact d _ _ K K' b hk
  ·rename_i e; rw [if_neg e] at hk; exact λt=>d _ _ K K' b (hk t)
 | sys c k d=>intro h K K' b hk; exact hk.elim
 | program k d=>intro h K K' b hk; exact d _ _ K K' b hk
 | mark m k d=>intro h K K' b hk; exact d _ K K' b hk
 | halt x=>intro h K K' b hk; exact hk.elim
def Ny {α β:Type} (s:Sem α) (f:α->Sem β):∀ (h:Hp) (K:β->Hp->Prop),
  aQ H (s.bind f) h K=aQ H s h (λa h'=>aQ H (f a) h' K):=by
 induction s with
 | pure a=>intro h K; rfl
 | load m a k b=>intro h K; simp only [Sem.bind,aQ,b]
 | store m a v k b=>intro h K; simp only [Sem.bind,aQ,b]
 | new o k b=>intro h K; simp only [Sem.bind,aQ,b]
 | shape r k b=>intro h K; simp only [Sem.bind,aQ,b]
 | freeze a n k b=>intro h K; simp only [Sem.bind,aQ,b]
 | frozen a k b=>intro h K; simp only [Sem.bind,aQ,b]
 | getObj r k b=>intro h K; simp only [Sem.bind,aQ,b]
 | setObj r o k b=>intro h K; simp only [Sem.bind,aQ,b]
 | choose q k b=>intro h K; simp only [Sem.bind,aQ,b]
 | sys c k b=>intro h K; rfl
 | program k b=>intro h K; simp only [Sem.bind,aQ,b]
 | mark m k b=>intro h K; simp only [Sem.bind,aQ,b]
 | halt x=>intro h K; rfl
def an {α β:Type} (s:Sem α) (f:α->Sem β) (h:Hp) (K:β->Hp->Prop) :
  aQ H (s >>= f) h K=aQ H s h (λa h'=>aQ H (f a) h' K):=Ny s f h K
def NG {α:Type} (a:α) (h:Hp) (K:α->Hp->Prop):aQ H (pure a) h K=K a h:=rfl
def HC (P:Program) (f:FuncId) (args:Array Value) (h:Hp) (R:Value->Hp->Prop):Prop :=
 ∀ w:World,w.heap=h->Calls P f args w λe w'=>∃ v,e=.returned v/\dO w w'/\R v w'.heap
def HC.mono {P:Program} {f:FuncId} {args:Array Value} {h:Hp} {R R':Value->Hp->Prop} (hc:HC P f args h R) (m:∀ v h',R v h'->R' v h') :
  HC P f args h R':=λw a=>(hc w a).mono λe w' ⟨v,h1,h2,b⟩=>⟨v,h1,h2,m _ _ b⟩
def En (P:Program) (K:Value->Hp->Prop):Next->Hp->Prop
 | .value v,h=>K v h
 | .skip,h=>K undef h
 | .enter f args,h=>HC P f args h K
 | _,_=>False
def opW (P:Program) (o:Oper) (ev:Operand->Value) (h:Hp) (K:Value->Hp->Prop):Prop:=aQ P (execOp ev o) h (En P K)
variable {O:Act}
def yY {o:Oper} {w:World} {K:Value->Hp->Prop} {next:Act->World->Prop} {Q:Exit->Act->World->Prop}
  (hk:opW H o O.eval w.heap K) (hn:∀ v w',dO w w'->K v w'.heap->next (O.put o.dst v) w'):o.wp H O w next Q:=by
 obtain ⟨n,w',h1,h2,b⟩:=qJ _ w _ hk;unfold Oper.wp;rw [h1];cases n <;> simp only [En] at b
 case value v=>exact hn v w' h2 b
 case skip=>exact hn undef w' h2 b
 case enter f args =>
  exact (b w' rfl).mono λe c ⟨v,d,g,h⟩=>by subst d; exact hn v c (h2.trans g) h
def cW (P:Program) (c:Code) (Q:Exit->Act->Hp->Prop) (a:Act) (h:Hp):Prop :=
 ∀ b w:World,dO b w->w.heap=h->c.wp P (λe a' w'=>dO b w'/\Q e a' w'.heap) a w
variable {V Z:Code} {U:Exit->Act->Hp->Prop}
def uj {b:Exit->Act->Hp->Prop} {h:Hp} (m:∀ e O h,U e O h->b e O h) (hc:cW H V U O h):cW H V b O h :=
 λd w f g=>Code.wp_mono (λ_ _ _ ⟨h1,h2⟩=>⟨h1,m _ _ _ h2⟩) (hc d w f g)
def LF {h:Hp} (b:U .normal O h):cW H .skip U O h:=λe w c d=>wp_skip ⟨c,d▸b⟩
variable {Y:Nat}
def G9 {h:Hp} (b:U .normal O h):cW H (.label Y) U O h:=λe w c d=>wp_label ⟨c,d▸b⟩
def LG {h:Hp} (b:U (.exit Y) O h):cW H (.exit Y) U O h:=λe w c d=>wp_exit ⟨c,d▸b⟩
def KW {h:Hp} (b:U (.goto Y) O h):cW H (.goto Y) U O h:=λe w c d=>wp_goto ⟨c,d▸b⟩
def Ri {h:Hp} (b:U .ret O h):cW H .ret U O h:=λe w c d=>wp_ret ⟨c,d▸b⟩
def Sh (next:Act->Hp->Prop) (Q:Exit->Act->Hp->Prop):Exit->Act->Hp->Prop
 | .normal,a,h=>next a h
 | e,a,h=>Q e a h
def EN {h:Hp} (c:cW H V (Sh (cW H Z U) U) O h):cW H (.seq V Z) U O h :=
 λb w d f=>wp_seq (Code.wp_mono (λe a' w' ⟨h1,h2⟩=>by
  cases e <;> first | exact h2 b w' h1 rfl | exact ⟨h1,h2⟩) (c b w d f))
def Fw {c:Operand} {b:Bool} {h:Hp} (hc:O.eval c=.bool b)
  (ht:b=true->cW H V U O h) (i:b=false->cW H Z U O h):cW H (.cond c V Z) U O h :=
 λd w f g=>wp_cond_split hc (λe=>ht e d w f g) (λe=>i e d w f g)
def nN (id:Nat) (Q:Exit->Act->Hp->Prop):Exit->Act->Hp->Prop
 | .exit b,a,h=>if b=id then Q .normal a h else Q (.exit b) a h
 | e,a,h=>Q e a h
def HI {id:Nat} {h:Hp} (hc:cW H V (nN id U) O h):cW H (.block id V) U O h :=
 λb w d f=>wp_block (Code.wp_mono (λe a' w' ⟨h1,h2⟩=>by
  cases e <;> first
   | (simp only [Exit.inBlock,nN] at h2 ⊢; split <;> rename_i g <;> simp only [g,if_true,if_false] at h2 <;> exact ⟨h1,h2⟩)
   | exact ⟨h1,h2⟩) (hc b w d f))
def La {Q : Exit -> Act -> Hp -> Prop} {h : Hp} (I : Nat -> Act -> Hp -> Prop) (h0 : ∃ n, I n O h)
    (round : ∀ n O h, I n O h -> cW H V (Sh (λa' h' => ∃ m, m < n /\ I m a' h') Q) O h) : cW H (.loop V) Q O h := by
  intro j w p t
  have q : ∀ n O w, dO j w -> I n O w.heap -> (Code.loop V).wp H (λe a' w' => dO j w' /\ Q e a' w'.heap) O w := by
    intro n O w p u
    have := wp_loop (P := H) (c := V) (a := O) (w := w) (Q := λe a' w' => dO j w' /\ Q e a' w'.heap)
      (λO w => ∃ n, dO j w /\ I n O w.heap)
      (λO w => by
        classical
        exact if o : ∃ n, I n O w.heap then Classical.choose (show ∃ n, I n O w.heap /\ ∀ m, I m O w.heap -> n <= m from by
          obtain ⟨n, hn⟩ := o
          induction n using Nat.strongRecOn with
          | _ n k =>
            by_cases g : ∃ m, m < n /\ I m O w.heap
            · obtain ⟨m, b, d⟩ := g; exact k m b d
            · exact ⟨n, hn, λm b => Nat.le_of_not_lt λf => g ⟨m, f, b⟩⟩) else 0)
      ⟨n, p, u⟩
      (by
        rintro O w ⟨x, r, s⟩;have o : ∃ n, I n O w.heap := ⟨x, s⟩
        have hspec := Classical.choose_spec (show ∃ n, I n O w.heap /\ ∀ m, I m O w.heap -> n <= m from by
          obtain ⟨n, hn⟩ := o
          induction n using Nat.strongRecOn with
          | _ n k =>
            by_cases g : ∃ m, m < n /\ I m O w.heap
            · obtain ⟨m, b, d⟩ := g; exact k m b d
            · exact ⟨n, hn, λm b => Nat.le_of_not_lt λf => g ⟨m, f, b⟩⟩)
        rw [dif_pos o];refine Code.wp_mono ?_ (round _ O w.heap hspec.1 j w r rfl);intro e a' w' ⟨h1, h2⟩
        cases e <;> first
          | exact ⟨h1, h2⟩
          | (obtain ⟨m, b, i⟩ := h2
             refine ⟨⟨m, h1, i⟩, ?_⟩;have l : ∃ n, I n a' w'.heap := ⟨m, i⟩
             rw [dif_pos l];refine Nat.lt_of_le_of_lt ?_ b;exact (Classical.choose_spec (show ∃ n, I n a' w'.heap /\ ∀ m, I m a' w'.heap -> n <= m from by
              obtain ⟨n, hn⟩ := l
              induction n using Nat.strongRecOn with
              | _ n k =>
                by_cases g : ∃ m, m < n /\ I m a' w'.heap
                · obtain ⟨m, b, d⟩ := g; exact k m b d
                · exact ⟨n, hn, λm b => Nat.le_of_not_lt λf => g ⟨m, f, b⟩⟩)).2 m i))
    exact this
  obtain ⟨n, hn⟩ := h0;exact q n O w p (t ▸ hn)
abbrev vI (n:Int):Value:=.int .i64 n
abbrev yI (t:TypeId):List TypeDesc:=[.int .i64,.string,.int .i64,.int .i64,.int .i64,.int .i32,.int .i64,.slice t,.int .u32,.int .i64]
abbrev yL (t:TypeId):List TypeDesc:=[.slice t,.int .u32]
abbrev yU (t u:TypeId):List TypeDesc:=[.slice t,.slice t,.slice u,.slice 9]
def nA {α:Type} (l:List α):[]++l=l:=rfl
def cA {α:Type} (a:α) (k l:List α):(a::k)++l=a::(k++l):=rfl
end Go.Sx
