/- A framework of our own, part A: heaps, a logic of the model's memory computations over heaps alone, calls over heaps. No condition. -/
import Derived.KernelRfl
import Derived.WalkKit
set_option linter.all false
set_option maxHeartbeats 4000000
theorem ad {p : Prop} (h : p := by omega) : p := h
theorem aj {p : Prop} (h : p := by simp) : p := h
theorem bU {p : Prop} (h : p := by decide) : p := h
theorem ax {p : Prop} (h : p := by kernel_rfl) : p := h
namespace Go.Sx
abbrev ZA:=ByteArray
abbrev ZB:=Value
abbrev ZC:=Addr
theorem WO:type_of% @Option.bind_eq_some_iff:=@Option.bind_eq_some_iff
theorem WQ:type_of% @List.length_map:=@List.length_map
theorem WR:type_of% @of_decide_eq_true:=@of_decide_eq_true
theorem WS:type_of% @of_decide_eq_false:=@of_decide_eq_false
theorem WT:type_of% @List.getElem?_eq_getElem:=@List.getElem?_eq_getElem
theorem WU:type_of% @List.length_append:=@List.length_append
theorem WV:type_of% @if_neg:=@if_neg
theorem WW:type_of% @List.take_succ_eq_append_getElem:=@List.take_succ_eq_append_getElem
theorem WX:type_of% @List.mem_map:=@List.mem_map
theorem WY:type_of% @List.getElem_map:=@List.getElem_map
theorem WZ:type_of% @List.getElem_mem:=@List.getElem_mem
theorem W1:type_of% @decide_eq_true:=@decide_eq_true
theorem W2:type_of% @if_pos:=@if_pos
theorem W3:type_of% @Nat.eq_of_beq_eq_true:=@Nat.eq_of_beq_eq_true
theorem W4:type_of% @decide_eq_false:=@decide_eq_false
theorem W5:type_of% @List.map_append:=@List.map_append
theorem W6:type_of% @List.getElem?_eq_some_iff:=@List.getElem?_eq_some_iff
theorem W7:type_of% @List.mem_map_of_mem:=@List.mem_map_of_mem
theorem W8:type_of% @List.drop_eq_getElem_cons:=@List.drop_eq_getElem_cons
theorem W9:type_of% @Nat.le_refl:=@Nat.le_refl
theorem Xa:type_of% @congrArg:=@congrArg
theorem Xb:type_of% @List.mem_cons_of_mem:=@List.mem_cons_of_mem
theorem Xc:type_of% @Option.some.inj:=@Option.some.inj
theorem Xd:type_of% @List.findIdx?_eq_some_iff_getElem:=@List.findIdx?_eq_some_iff_getElem
theorem Xe:type_of% @List.length_take:=@List.length_take
theorem Xf:type_of% @List.map_map:=@List.map_map
theorem Xg:type_of% @List.getElem_of_mem:=@List.getElem_of_mem
theorem Xh:type_of% @List.append_assoc:=@List.append_assoc
theorem Xi:type_of% @Nat.le_of_ble_eq_true:=@Nat.le_of_ble_eq_true
theorem Xj:type_of% @List.mem_append:=@List.mem_append
theorem Xk:type_of% @List.mem_append_left:=@List.mem_append_left
theorem Xl:type_of% @List.getElem?_append_right:=@List.getElem?_append_right
theorem Xm:type_of% @List.getElem?_append_left:=@List.getElem?_append_left
theorem Xn:type_of% @List.all_eq_true:=@List.all_eq_true
theorem Xo:type_of% @List.mem_cons:=@List.mem_cons
theorem Xp:type_of% @List.findIdx?_eq_none_iff:=@List.findIdx?_eq_none_iff
theorem Xq:type_of% @Nat.zero_add:=@Nat.zero_add
theorem Xr:type_of% @List.mem_append_right:=@List.mem_append_right
theorem Xs:type_of% @List.getElem?_eq_none:=@List.getElem?_eq_none
theorem Xt:type_of% @List.take_of_length_le:=@List.take_of_length_le
theorem Xu:type_of% @List.mem_singleton:=@List.mem_singleton
theorem Xv:type_of% @Array.toList_inj:=@Array.toList_inj
theorem Xw:type_of% @List.take_append_drop:=@List.take_append_drop
theorem Xx:type_of% @Bool.true_and:=@Bool.true_and
theorem Xy:type_of% @List.map_cons:=@List.map_cons
theorem Xz:type_of% @List.drop_eq_nil_of_le:=@List.drop_eq_nil_of_le
theorem XA:type_of% @List.findSome?_eq_none_iff:=@List.findSome?_eq_none_iff
theorem XB:type_of% @List.getElem?_map:=@List.getElem?_map
theorem XC:type_of% @List.map_congr_left:=@List.map_congr_left
theorem XD:type_of% @List.mem_of_getElem?:=@List.mem_of_getElem?
theorem XE:type_of% @Nat.lt_or_ge:=@Nat.lt_or_ge
theorem XF:type_of% @Array.getElem?_eq_none:=@Array.getElem?_eq_none
theorem XG:type_of% @List.take_length:=@List.take_length
theorem XH:type_of% @List.flatMap_cons:=@List.flatMap_cons
theorem XI:type_of% @List.foldl_cons:=@List.foldl_cons
theorem XJ:type_of% @Option.isSome_iff_exists:=@Option.isSome_iff_exists
theorem XK:type_of% @List.getElem_append_left:=@List.getElem_append_left
theorem XL:type_of% @List.length_cons:=@List.length_cons
theorem XM:type_of% @List.pairwise_map:=@List.pairwise_map
theorem XN:type_of% @List.eq_nil_of_length_eq_zero:=@List.eq_nil_of_length_eq_zero
theorem XO:type_of% @Bool.and_eq_true:=@Bool.and_eq_true
theorem XP:type_of% @List.append_nil:=@List.append_nil
theorem XQ:type_of% @List.length_drop:=@List.length_drop
theorem XR:type_of% @Option.bind_some:=@Option.bind_some
theorem XT:type_of% @Array.length_toList:=@Array.length_toList
theorem XU:type_of% @Nat.le_trans:=@Nat.le_trans
theorem XV:type_of% @List.foldl_append:=@List.foldl_append
theorem XW:type_of% @List.sum_cons:=@List.sum_cons
theorem XX:type_of% @Nat.add_mul:=@Nat.add_mul
theorem XY:type_of% @List.mem_of_mem_take:=@List.mem_of_mem_take
theorem XZ:type_of% @Nat.mul_le_mul_right:=@Nat.mul_le_mul_right
theorem X0:type_of% @Array.getElem?_eq_getElem:=@Array.getElem?_eq_getElem
theorem X1:type_of% @List.mem_or_eq_of_mem_set:=@List.mem_or_eq_of_mem_set
theorem X3:type_of% @Array.getElem?_setIfInBounds:=@Array.getElem?_setIfInBounds
theorem X4:type_of% @List.getElem?_range:=@List.getElem?_range
theorem X5:type_of% @Array.getElem?_toList:=@Array.getElem?_toList
theorem X6:type_of% @List.nodup_append:=@List.nodup_append
theorem X7:type_of% @List.ext_getElem?:=@List.ext_getElem?
theorem X8:type_of% @List.getD_eq_getElem?_getD:=@List.getD_eq_getElem?_getD
theorem X9:type_of% @List.pairwise_cons:=@List.pairwise_cons
theorem Ya:type_of% @List.length_set:=@List.length_set
theorem Yb:type_of% @Array.all_toList:=@Array.all_toList
theorem Yc:type_of% @List.flatMap_append:=@List.flatMap_append
theorem Yd:type_of% @List.length_filter_le:=@List.length_filter_le
theorem Ye:type_of% @List.mem_filterMap:=@List.mem_filterMap
theorem Yf:type_of% @Bool.and_true:=@Bool.and_true
theorem Yg:type_of% @List.nodup_iff_pairwise_ne:=@List.nodup_iff_pairwise_ne
theorem Yh:type_of% @List.length_range:=@List.length_range
theorem Yi:type_of% @Nat.min_eq_left:=@Nat.min_eq_left
theorem Yj:type_of% @List.nil_append:=@List.nil_append
theorem Yk:type_of% @List.getElem_append_right:=@List.getElem_append_right
theorem Yl:type_of% @ByteArray.size_append:=@ByteArray.size_append
theorem Ym:type_of% @List.getElem?_drop:=@List.getElem?_drop
theorem Yn:type_of% @List.mem_cons_self:=@List.mem_cons_self
theorem Yo:type_of% @List.mem_range:=@List.mem_range
theorem Yp:type_of% @List.getElem?_set_ne:=@List.getElem?_set_ne
theorem Yq:type_of% @List.flatten_cons:=@List.flatten_cons
theorem Yr:type_of% @List.length_eq_zero_iff:=@List.length_eq_zero_iff
theorem Ys:type_of% @Prod.mk.inj:=@Prod.mk.inj
theorem Yt:type_of% @Nat.mod_eq_of_lt:=@Nat.mod_eq_of_lt
theorem Yu:type_of% @List.drop_length:=@List.drop_length
theorem Yv:type_of% @List.getElem?_take:=@List.getElem?_take
theorem Yw:type_of% @List.getElem?_toArray:=@List.getElem?_toArray
theorem Yx:type_of% @List.length_singleton:=@List.length_singleton
theorem Yy:type_of% @List.findIdx?_append:=@List.findIdx?_append
theorem Yz:type_of% @List.length_flatMap:=@List.length_flatMap
theorem YA:type_of% @List.getElem?_cons_succ:=@List.getElem?_cons_succ
theorem YB:type_of% @List.any_eq_true:=@List.any_eq_true
theorem YC:type_of% @List.drop_of_length_le:=@List.drop_of_length_le
theorem YD:type_of% @List.getElem?_set_self:=@List.getElem?_set_self
theorem YE:type_of% @Option.map_eq_some_iff:=@Option.map_eq_some_iff
theorem YF:type_of% @List.find?_cons:=@List.find?_cons
theorem YG:type_of% @List.filterMap_append:=@List.filterMap_append
theorem YH:type_of% @List.findSome?_append:=@List.findSome?_append
theorem YI:type_of% @List.findIdx?_map:=@List.findIdx?_map
theorem YJ:type_of% @List.drop_left:=@List.drop_left
theorem YK:type_of% @Nat.zero_le:=@Nat.zero_le
theorem YL:type_of% @decide_eq_decide:=@decide_eq_decide
theorem YM:type_of% @List.mem_flatten:=@List.mem_flatten
theorem YN:type_of% @List.map_set:=@List.map_set
theorem YO:type_of% @Nat.sub_self:=@Nat.sub_self
theorem YP:type_of% @List.ext_getElem:=@List.ext_getElem
theorem YQ:type_of% @Option.map_some:=@Option.map_some
theorem YR:type_of% @decide_true:=@decide_true
theorem YS:type_of% @List.take_left:=@List.take_left
theorem YT:type_of% @Nat.add_zero:=@Nat.add_zero
theorem YU:type_of% @Nat.mul_comm:=@Nat.mul_comm
theorem YV:type_of% @Bool.and_false:=@Bool.and_false
theorem YW:type_of% @Nat.sub_zero:=@Nat.sub_zero
theorem YX:type_of% @Nat.zero_mul:=@Nat.zero_mul
theorem YY:type_of% @Nat.mod_lt:=@Nat.mod_lt
abbrev Hp:=Array Obj
def gU (h:Hp) (a:Addr):Option Value :=
 match h[a.block]? with
 | some (.cells c _ _)=>if a.spot.isSome then none else c[a.off]?
 | _=>none
def vj (h:Hp) (a:Addr):Bool :=
 match h[a.block]? with
 | some (.cells _ _ (lo,hi))=>lo<=a.off && a.off<hi
 | _=>false
def kp (h:Hp) (a:Addr) (v:Value):Hp :=
 h.modify a.block fun
  | .cells c elem frozen=>.cells (if a.spot.isSome then c else c.setIfInBounds a.off v) elem frozen
  | o=>o
def RY (h:Hp) (r:Nat):Option (TypeId × Nat) :=
 match h[r]? with
 | some (.cells c elem _)=>some (elem,c.size)
 | _=>none
def CC (h:Hp) (a:Addr) (n:Nat):Hp :=
 if n=0 then h else
 h.modify a.block fun
  | .cells c elem (lo,hi)=>.cells c elem (if lo==hi then (a.off,a.off+n) else (min lo a.off,max hi (a.off+n)))
  | o=>o
theorem JB (w:World) (a:Addr):w.cell? a=gU w.heap a:=rfl
theorem Dm (w:World) (a:Addr) (n:Nat):(w.freeze a n).heap=CC w.heap a n:=by
 unfold World.freeze CC; split <;> rfl
structure dz (w w':World):Prop where
 os:w'.os=w.os
 tape:w'.tape=w.tape
 output:w'.output=w.output
theorem dz.refl (w:World):dz w w:=⟨rfl,rfl,rfl⟩
theorem dz.trans {a b c:World} (h:dz a b) (k:dz b c):dz a c:=⟨k.os.trans h.os,k.tape.trans h.tape,k.output.trans h.output⟩
theorem dz.freeze {w w₀:World} (h:dz w₀ w) (a:Addr) (n:Nat):dz w₀ (w.freeze a n):=by
 unfold World.freeze; split
 ·exact h
 ·exact ⟨h.os,h.tape,h.output⟩
def cP:Value->Bool
 | .agg _=>false
 | .tuple _=>false
 | _=>true
def aQ (P:Program) {α:Type}:Sem α->Hp->(α->Hp->Prop)->Prop
 | .pure a,h,K=>K a h
 | .load _ a k,h,K=>∃ v,gU h a=some v/\aQ P (k v) h K
 | .store _ a v k,h,K=>cP v=true/\(∃ u,gU h a=some u)/\vj h a=false/\aQ P k (kp h a v) K
 | .new o k,h,K=>aQ P (k h.size) (h.push o) K
 | .shape r k,h,K=>aQ P (k (RY h r)) h K
 | .freeze a n k,h,K=>aQ P k (CC h a n) K
 | .frozen a k,h,K=>aQ P (k (vj h a)) h K
 | .getObj r k,h,K=>∃ o,h[r]?=some o/\(∀ c e f,o≠.cells c e f)/\aQ P (k o) h K
 | .setObj r o k,h,K=>(∃ o',h[r]?=some o'/\∀ c e f,o'≠.cells c e f)/\aQ P k (h.setIfInBounds r o) K
 | .choose q k,h,K=>if q.forced then aQ P (k 0) h K else ∀ t,aQ P (k (q.cut t)) h K
 | .sys _ _,_,_=>False
 | .program k,h,K=>aQ P (k P) h K
 | .mark _ k,h,K=>aQ P k h K
 | .halt _,_,_=>False
theorem oO {P:Program} {α:Type} (s:Sem α):∀ (w:World) (K:α->Hp->Prop),aQ P s w.heap K ->
  ∃ a w',s.run P w=.ok a w'/\dz w w'/\K a w'.heap:=by
 induction s with
 | pure a=>intro w K h; exact ⟨a,w,rfl,dz.refl w,h⟩
 | load m a k ih =>
  intro w K h;obtain ⟨v,hv,hk⟩:=h
  have:w.cell? a=some v:=hv
  obtain ⟨x,w',h1,h2,h3⟩:=ih v w K hk;exact ⟨x,w',by simp only [Sem.run,this,h1],h2,h3⟩
 | store m a v k ih =>
  intro w K h;obtain ⟨hp,⟨u,hu⟩,hf,hk⟩:=h;have hu':w.cell? a=some u:=hu;have hf':w.frozen? a=false:=hf;obtain ⟨x,w',h1,h2,h3⟩:=ih (w.setCell a v) K hk;refine ⟨x,w',?_,⟨h2.os,h2.tape,h2.output⟩,h3⟩;cases v <;> first | (simp [cP] at hp; done) | (simp only [Sem.run,hu',hf']; exact h1)
 | new o k ih =>
  intro w K h;obtain ⟨x,w',h1,h2,h3⟩:=ih w.heap.size { w with heap:=w.heap.push o } K h;exact ⟨x,w',h1,⟨h2.os,h2.tape,h2.output⟩,h3⟩
 | shape r k ih=>intro w K h; exact ih _ w K h
 | freeze a n k ih =>
  intro w K h;obtain ⟨x,w',h1,h2,h3⟩:=ih (w.freeze a n) K (by rw [Dm]; exact h);exact ⟨x,w',h1,dz.trans ((dz.refl w).freeze a n) h2,h3⟩
 | frozen a k ih=>intro w K h; exact ih _ w K h
 | getObj r k ih =>
  intro w K h;obtain ⟨o,ho,hne,hk⟩:=h;obtain ⟨x,w',h1,h2,h3⟩:=ih o w K hk;refine ⟨x,w',?_,h2,h3⟩;simp only [Sem.run,ho];cases o <;> first | exact (hne _ _ _ rfl).elim | exact h1
 | setObj r o k ih =>
  intro w K h;obtain ⟨⟨o',ho,hne⟩,hk⟩:=h;obtain ⟨x,w',h1,h2,h3⟩:=ih { w with heap:=w.heap.setIfInBounds r o } K hk;refine ⟨x,w',?_,⟨h2.os,h2.tape,h2.output⟩,h3⟩;simp only [Sem.run,ho];cases o' <;> first | exact (hne _ _ _ rfl).elim | exact h1
 | choose q k ih =>
  intro w K h;simp only [aQ] at h
  by_cases hq:q.forced=true
  ·rw [if_pos hq] at h;obtain ⟨x,w',h1,h2,h3⟩:=ih 0 w K h;exact ⟨x,w',by simp only [Sem.run,if_pos hq]; exact h1,h2,h3⟩
  ·rw [if_neg hq] at h;obtain ⟨x,w',h1,h2,h3⟩:=ih (q.cut (w.tape w.drawn q)) { w with drawn:=w.drawn+1 } K (h _);exact ⟨x,w',by simp only [Sem.run,if_neg hq]; exact h1,⟨h2.os,h2.tape,h2.output⟩,h3⟩
 | sys c k ih=>intro w K h; exact h.elim
 | program k ih=>intro w K h; exact ih P w K h
 | mark m k ih=>intro w K h; exact ih w K h
 | halt x=>intro w K h; exact h.elim
theorem dE {P:Program} {α:Type} (s:Sem α):∀ (h:Hp) (K K':α->Hp->Prop),(∀ a h,K a h->K' a h)->aQ P s h K->aQ P s h K':=by
 induction s with
 | pure a=>intro h K K' m k; exact m _ _ k
 | load m a k ih=>intro h K K' mo ⟨v,hv,hk⟩; exact ⟨v,hv,ih v h K K' mo hk⟩
 | store m a v k ih=>intro h K K' mo ⟨h1,h2,h3,hk⟩; exact ⟨h1,h2,h3,ih _ K K' mo hk⟩
 | new o k ih=>intro h K K' mo hk; exact ih _ _ K K' mo hk
 | shape r k ih=>intro h K K' mo hk; exact ih _ _ K K' mo hk
 | freeze a n k ih=>intro h K K' mo hk; exact ih _ K K' mo hk
 | frozen a k ih=>intro h K K' mo hk; exact ih _ _ K K' mo hk
 | getObj r k ih=>intro h K K' mo ⟨o,h1,h2,hk⟩; exact ⟨o,h1,h2,ih _ _ K K' mo hk⟩
 | setObj r o k ih=>intro h K K' mo ⟨h1,hk⟩; exact ⟨h1,ih _ K K' mo hk⟩
 | choose q k ih =>
  intro h K K' mo hk;simp only [aQ] at hk ⊢;split
  ·rename_i hq; rw [if_pos hq] at hk; exact ih _ _ K K' mo hk
  ·rename_i hq; rw [if_neg hq] at hk; exact fun t=>ih _ _ K K' mo (hk t)
 | sys c k ih=>intro h K K' mo hk; exact hk.elim
 | program k ih=>intro h K K' mo hk; exact ih _ _ K K' mo hk
 | mark m k ih=>intro h K K' mo hk; exact ih _ K K' mo hk
 | halt x=>intro h K K' mo hk; exact hk.elim
theorem Kb {P:Program} {α β:Type} (s:Sem α) (f:α->Sem β):∀ (h:Hp) (K:β->Hp->Prop),
  aQ P (s.bind f) h K=aQ P s h (fun a h'=>aQ P (f a) h' K):=by
 induction s with
 | pure a=>intro h K; rfl
 | load m a k ih=>intro h K; simp only [Sem.bind,aQ,ih]
 | store m a v k ih=>intro h K; simp only [Sem.bind,aQ,ih]
 | new o k ih=>intro h K; simp only [Sem.bind,aQ,ih]
 | shape r k ih=>intro h K; simp only [Sem.bind,aQ,ih]
 | freeze a n k ih=>intro h K; simp only [Sem.bind,aQ,ih]
 | frozen a k ih=>intro h K; simp only [Sem.bind,aQ,ih]
 | getObj r k ih=>intro h K; simp only [Sem.bind,aQ,ih]
 | setObj r o k ih=>intro h K; simp only [Sem.bind,aQ,ih]
 | choose q k ih=>intro h K; simp only [Sem.bind,aQ,ih]
 | sys c k ih=>intro h K; rfl
 | program k ih=>intro h K; simp only [Sem.bind,aQ,ih]
 | mark m k ih=>intro h K; simp only [Sem.bind,aQ,ih]
 | halt x=>intro h K; rfl
theorem ar {P:Program} {α β:Type} (s:Sem α) (f:α->Sem β) (h:Hp) (K:β->Hp->Prop) :
  aQ P (s >>= f) h K=aQ P s h (fun a h'=>aQ P (f a) h' K):=Kb s f h K
theorem JG {P:Program} {α:Type} (a:α) (h:Hp) (K:α->Hp->Prop):aQ P (pure a) h K=K a h:=rfl
def HC (P:Program) (f:FuncId) (args:Array Value) (h:Hp) (R:Value->Hp->Prop):Prop :=
 ∀ w:World,w.heap=h->Calls P f args w fun e w'=>∃ v,e=.returned v/\dz w w'/\R v w'.heap
theorem HC.mono {P:Program} {f:FuncId} {args:Array Value} {h:Hp} {R R':Value->Hp->Prop} (hc:HC P f args h R) (m:∀ v h',R v h'->R' v h') :
  HC P f args h R':=fun w hw=>(hc w hw).mono fun e w' ⟨v,h1,h2,h3⟩=>⟨v,h1,h2,m _ _ h3⟩
def BH (P:Program) (K:Value->Hp->Prop):Next->Hp->Prop
 | .value v,h=>K v h
 | .skip,h=>K undef h
 | .enter f args,h=>HC P f args h K
 | _,_=>False
def Vl (P:Program) (o:Oper) (ev:Operand->Value) (h:Hp) (K:Value->Hp->Prop):Prop:=aQ P (execOp ev o) h (BH P K)
theorem vX {P:Program} {o:Oper} {a:Act} {w:World} {K:Value->Hp->Prop} {next:Act->World->Prop} {Q:Exit->Act->World->Prop}
  (hk:Vl P o a.eval w.heap K) (hn:∀ v w',dz w w'->K v w'.heap->next (a.put o.dst v) w'):o.wp P a w next Q:=by
 obtain ⟨n,w',h1,h2,h3⟩:=oO _ w _ hk;unfold Oper.wp;rw [h1];cases n <;> simp only [BH] at h3
 case value v=>exact hn v w' h2 h3
 case skip=>exact hn undef w' h2 h3
 case enter f args =>
  exact (h3 w' rfl).mono fun e w'' ⟨v,he,hs,hr⟩=>by subst he; exact hn v w'' (h2.trans hs) hr
def cW (P:Program) (c:Code) (Q:Exit->Act->Hp->Prop) (a:Act) (h:Hp):Prop :=
 ∀ w0 w:World,dz w0 w->w.heap=h->c.wp P (fun e a' w'=>dz w0 w'/\Q e a' w'.heap) a w
theorem rn {P:Program} {c:Code} {Q Q':Exit->Act->Hp->Prop} {a:Act} {h:Hp} (m:∀ e a h,Q e a h->Q' e a h) (hc:cW P c Q a h):cW P c Q' a h :=
 fun w0 w hs hw=>Code.wp_mono (fun _ _ _ ⟨h1,h2⟩=>⟨h1,m _ _ _ h2⟩) (hc w0 w hs hw)
theorem HD {P:Program} {Q:Exit->Act->Hp->Prop} {a:Act} {h:Hp} (hq:Q .normal a h):cW P .skip Q a h:=fun w0 w hs hw=>wp_skip ⟨hs,hw▸hq⟩
theorem Dw {P:Program} {Q:Exit->Act->Hp->Prop} {a:Act} {h:Hp} {l:Nat} (hq:Q .normal a h):cW P (.label l) Q a h:=fun w0 w hs hw=>wp_label ⟨hs,hw▸hq⟩
theorem Il {P:Program} {Q:Exit->Act->Hp->Prop} {a:Act} {h:Hp} {i:Nat} (hq:Q (.exit i) a h):cW P (.exit i) Q a h:=fun w0 w hs hw=>wp_exit ⟨hs,hw▸hq⟩
theorem IB {P:Program} {Q:Exit->Act->Hp->Prop} {a:Act} {h:Hp} {i:Nat} (hq:Q (.goto i) a h):cW P (.goto i) Q a h:=fun w0 w hs hw=>wp_goto ⟨hs,hw▸hq⟩
theorem Lo {P:Program} {Q:Exit->Act->Hp->Prop} {a:Act} {h:Hp} (hq:Q .ret a h):cW P .ret Q a h:=fun w0 w hs hw=>wp_ret ⟨hs,hw▸hq⟩
def M3 (next:Act->Hp->Prop) (Q:Exit->Act->Hp->Prop):Exit->Act->Hp->Prop
 | .normal,a,h=>next a h
 | e,a,h=>Q e a h
theorem Cn {P:Program} {x y:Code} {Q:Exit->Act->Hp->Prop} {a:Act} {h:Hp} (hx:cW P x (M3 (cW P y Q) Q) a h):cW P (.seq x y) Q a h :=
 fun w0 w hs hw=>wp_seq (Code.wp_mono (fun e a' w' ⟨h1,h2⟩=>by
  cases e <;> first | exact h2 w0 w' h1 rfl | exact ⟨h1,h2⟩) (hx w0 w hs hw))
theorem Cl {P:Program} {c:Operand} {x y:Code} {b:Bool} {Q:Exit->Act->Hp->Prop} {a:Act} {h:Hp} (hc:a.eval c=.bool b)
  (ht:b=true->cW P x Q a h) (hf:b=false->cW P y Q a h):cW P (.cond c x y) Q a h :=
 fun w0 w hs hw=>wp_cond_split hc (fun e=>ht e w0 w hs hw) (fun e=>hf e w0 w hs hw)
def kS (id:Nat) (Q:Exit->Act->Hp->Prop):Exit->Act->Hp->Prop
 | .exit id',a,h=>if id'=id then Q .normal a h else Q (.exit id') a h
 | e,a,h=>Q e a h
theorem Fi {P:Program} {id:Nat} {c:Code} {Q:Exit->Act->Hp->Prop} {a:Act} {h:Hp} (hc:cW P c (kS id Q) a h):cW P (.block id c) Q a h :=
 fun w0 w hs hw=>wp_block (Code.wp_mono (fun e a' w' ⟨h1,h2⟩=>by
  cases e <;> first
   | (simp only [Exit.inBlock,kS] at h2 ⊢; split <;> rename_i hh <;> simp only [hh,if_true,if_false] at h2 <;> exact ⟨h1,h2⟩)
   | exact ⟨h1,h2⟩) (hc w0 w hs hw))
theorem H3 {P : Program} {c : Code} {Q : Exit -> Act -> Hp -> Prop} {a : Act} {h : Hp} (I : Nat -> Act -> Hp -> Prop) (h0 : ∃ n, I n a h)
    (round : ∀ n a h, I n a h -> cW P c (M3 (fun a' h' => ∃ m, m < n /\ I m a' h') Q) a h) : cW P (.loop c) Q a h := by
  intro w0 w hs hw
  have key : ∀ n a w, dz w0 w -> I n a w.heap -> (Code.loop c).wp P (fun e a' w' => dz w0 w' /\ Q e a' w'.heap) a w := by
    intro n a w hs hI
    have := wp_loop (P := P) (c := c) (a := a) (w := w) (Q := fun e a' w' => dz w0 w' /\ Q e a' w'.heap)
      (fun a w => ∃ n, dz w0 w /\ I n a w.heap)
      (fun a w => by
        classical
        exact if hx : ∃ n, I n a w.heap then Classical.choose (show ∃ n, I n a w.heap /\ ∀ m, I m a w.heap -> n <= m from by
          obtain ⟨n, hn⟩ := hx
          induction n using Nat.strongRecOn with
          | _ n ih =>
            by_cases hh : ∃ m, m < n /\ I m a w.heap
            · obtain ⟨m, hm, hm2⟩ := hh; exact ih m hm hm2
            · exact ⟨n, hn, fun m hm => Nat.le_of_not_lt fun hlt => hh ⟨m, hlt, hm⟩⟩) else 0)
      ⟨n, hs, hI⟩
      (by
        rintro a w ⟨n0, hs1, hI1⟩;have hx : ∃ n, I n a w.heap := ⟨n0, hI1⟩
        have hspec := Classical.choose_spec (show ∃ n, I n a w.heap /\ ∀ m, I m a w.heap -> n <= m from by
          obtain ⟨n, hn⟩ := hx
          induction n using Nat.strongRecOn with
          | _ n ih =>
            by_cases hh : ∃ m, m < n /\ I m a w.heap
            · obtain ⟨m, hm, hm2⟩ := hh; exact ih m hm hm2
            · exact ⟨n, hn, fun m hm => Nat.le_of_not_lt fun hlt => hh ⟨m, hlt, hm⟩⟩)
        rw [dif_pos hx];refine Code.wp_mono ?_ (round _ a w.heap hspec.1 w0 w hs1 rfl);intro e a' w' ⟨h1, h2⟩
        cases e <;> first
          | exact ⟨h1, h2⟩
          | (obtain ⟨m, hm, hIm⟩ := h2
             refine ⟨⟨m, h1, hIm⟩, ?_⟩;have hx' : ∃ n, I n a' w'.heap := ⟨m, hIm⟩
             rw [dif_pos hx'];refine Nat.lt_of_le_of_lt ?_ hm;exact (Classical.choose_spec (show ∃ n, I n a' w'.heap /\ ∀ m, I m a' w'.heap -> n <= m from by
              obtain ⟨n, hn⟩ := hx'
              induction n using Nat.strongRecOn with
              | _ n ih =>
                by_cases hh : ∃ m, m < n /\ I m a' w'.heap
                · obtain ⟨m, hm, hm2⟩ := hh; exact ih m hm hm2
                · exact ⟨n, hn, fun m hm => Nat.le_of_not_lt fun hlt => hh ⟨m, hlt, hm⟩⟩)).2 m hIm))
    exact this
  obtain ⟨n, hn⟩ := h0;exact key n a w hs (hw ▸ hn)
abbrev vI (n:Int):Value:=.int .i64 n
abbrev yT:List TypeDesc:=[.int .i64,.slice 96,.string,.slice 109,.int .u32,.int .i64]
abbrev yI:List TypeDesc:=[.int .i64,.string,.int .i64,.int .i64,.int .i64,.int .i32,.int .i64,.slice 109,.int .u32,.int .i64]
theorem nA {α:Type} (l:List α):[]++l=l:=rfl
theorem cA {α:Type} (a:α) (k l:List α):(a::k)++l=a::(k++l):=rfl
end Go.Sx
