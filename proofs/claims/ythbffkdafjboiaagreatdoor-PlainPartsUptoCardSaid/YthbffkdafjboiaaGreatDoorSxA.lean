/- Part of the framework. No condition. -/
import Derived.KernelRfl
import Derived.WalkKit
set_option linter.all false
set_option maxHeartbeats 4000000
def ad {p : Prop} (h : p := by omega) : p := h
def aj {p : Prop} (h : p := by simp) : p := h
def cn {p : Prop} (h : p := by decide) : p := h
def az {p : Prop} (h : p := by kernel_rfl) : p := h
namespace Go.Sx
abbrev ZA:=ByteArray
abbrev ZB:=Value
abbrev ZC:=Option Addr
abbrev Zx:=Addr
def W1:type_of% @Option.bind_eq_some_iff:=@Option.bind_eq_some_iff
def W2:type_of% @of_decide_eq_true:=@of_decide_eq_true
def W3:type_of% @List.length_map:=@List.length_map
def W4:type_of% @of_decide_eq_false:=@of_decide_eq_false
def W5:type_of% @List.getElem?_eq_getElem:=@List.getElem?_eq_getElem
def W6:type_of% @if_neg:=@if_neg
def W7:type_of% @List.take_succ_eq_append_getElem:=@List.take_succ_eq_append_getElem
def W8:type_of% @List.length_append:=@List.length_append
def W9:type_of% @decide_eq_true:=@decide_eq_true
def Xa:type_of% @decide_eq_false:=@decide_eq_false
def Xb:type_of% @if_pos:=@if_pos
def Xc:type_of% @List.getElem_map:=@List.getElem_map
def Xd:type_of% @List.mem_map:=@List.mem_map
def Xe:type_of% @List.getElem_mem:=@List.getElem_mem
def Xf:type_of% @List.map_append:=@List.map_append
def Xg:type_of% @Nat.eq_of_beq_eq_true:=@Nat.eq_of_beq_eq_true
def Xh:type_of% @List.mem_cons_of_mem:=@List.mem_cons_of_mem
def Xi:type_of% @List.drop_eq_getElem_cons:=@List.drop_eq_getElem_cons
def Xj:type_of% @congrArg:=@congrArg
def Xk:type_of% @Nat.le_refl:=@Nat.le_refl
def Xl:type_of% @List.mem_append:=@List.mem_append
def Xm:type_of% @List.mem_singleton:=@List.mem_singleton
def Xn:type_of% @List.getElem?_eq_some_iff:=@List.getElem?_eq_some_iff
def Xo:type_of% @Option.some.inj:=@Option.some.inj
def Xp:type_of% @List.mem_map_of_mem:=@List.mem_map_of_mem
def Xq:type_of% @List.mem_cons:=@List.mem_cons
def Xr:type_of% @List.length_take:=@List.length_take
def Xs:type_of% @List.append_assoc:=@List.append_assoc
def Xt:type_of% @List.findIdx?_eq_some_iff_getElem:=@List.findIdx?_eq_some_iff_getElem
def Xu:type_of% @Bool.true_and:=@Bool.true_and
def Xv:type_of% @List.map_map:=@List.map_map
def Xw:type_of% @List.getElem_of_mem:=@List.getElem_of_mem
def Xx:type_of% @Nat.le_of_ble_eq_true:=@Nat.le_of_ble_eq_true
def Xy:type_of% @List.mem_append_left:=@List.mem_append_left
def Xz:type_of% @Bool.and_eq_true:=@Bool.and_eq_true
def XA:type_of% @List.all_eq_true:=@List.all_eq_true
def XB:type_of% @List.take_length:=@List.take_length
def XC:type_of% @List.getElem?_append_right:=@List.getElem?_append_right
def XD:type_of% @List.take_of_length_le:=@List.take_of_length_le
def XE:type_of% @List.foldl_cons:=@List.foldl_cons
def XF:type_of% @List.mem_append_right:=@List.mem_append_right
def XG:type_of% @List.getElem?_append_left:=@List.getElem?_append_left
def XH:type_of% @List.map_cons:=@List.map_cons
def XI:type_of% @List.getElem?_eq_none:=@List.getElem?_eq_none
def XJ:type_of% @List.flatMap_cons:=@List.flatMap_cons
def XK:type_of% @Nat.zero_add:=@Nat.zero_add
def XL:type_of% @List.findIdx?_eq_none_iff:=@List.findIdx?_eq_none_iff
def XM:type_of% @Array.toList_inj:=@Array.toList_inj
def XN:type_of% @List.take_append_drop:=@List.take_append_drop
def XO:type_of% @List.getElem?_map:=@List.getElem?_map
def XP:type_of% @List.length_cons:=@List.length_cons
def XQ:type_of% @List.map_congr_left:=@List.map_congr_left
def XR:type_of% @Nat.lt_or_ge:=@Nat.lt_or_ge
def XT:type_of% @List.getD_eq_getElem?_getD:=@List.getD_eq_getElem?_getD
def XU:type_of% @List.mem_of_getElem?:=@List.mem_of_getElem?
def XV:type_of% @Nat.le_trans:=@Nat.le_trans
def XW:type_of% @List.nodup_append:=@List.nodup_append
def XX:type_of% @List.foldl_append:=@List.foldl_append
def XY:type_of% @Array.getElem?_eq_none:=@Array.getElem?_eq_none
def XZ:type_of% @List.drop_eq_nil_of_le:=@List.drop_eq_nil_of_le
def X0:type_of% @Option.isSome_iff_exists:=@Option.isSome_iff_exists
def X1:type_of% @List.sum_cons:=@List.sum_cons
def X3:type_of% @List.length_drop:=@List.length_drop
def X4:type_of% @List.append_nil:=@List.append_nil
def X5:type_of% @List.pairwise_map:=@List.pairwise_map
def X6:type_of% @List.findSome?_eq_none_iff:=@List.findSome?_eq_none_iff
def X7:type_of% @List.eq_nil_of_length_eq_zero:=@List.eq_nil_of_length_eq_zero
def X8:type_of% @List.length_set:=@List.length_set
def X9:type_of% @List.mem_of_mem_take:=@List.mem_of_mem_take
def Ya:type_of% @Nat.add_mul:=@Nat.add_mul
def Yb:type_of% @Array.length_toList:=@Array.length_toList
def Yc:type_of% @Nat.min_eq_left:=@Nat.min_eq_left
def Yd:type_of% @List.ext_getElem?:=@List.ext_getElem?
def Ye:type_of% @Nat.mul_le_mul_right:=@Nat.mul_le_mul_right
def Yf:type_of% @Array.getElem?_eq_getElem:=@Array.getElem?_eq_getElem
def Yg:type_of% @List.mem_or_eq_of_mem_set:=@List.mem_or_eq_of_mem_set
def Yh:type_of% @Array.getElem?_setIfInBounds:=@Array.getElem?_setIfInBounds
def Yi:type_of% @List.drop_length:=@List.drop_length
def Yj:type_of% @Array.all_toList:=@Array.all_toList
def Yk:type_of% @Bool.and_true:=@Bool.and_true
def Yl:type_of% @Option.bind_some:=@Option.bind_some
def Ym:type_of% @List.getElem?_range:=@List.getElem?_range
def Yn:type_of% @Array.getElem?_toList:=@Array.getElem?_toList
def Yo:type_of% @List.length_filter_le:=@List.length_filter_le
def Yp:type_of% @List.pairwise_cons:=@List.pairwise_cons
def Yq:type_of% @List.getElem?_set_ne:=@List.getElem?_set_ne
def Yr:type_of% @List.nil_append:=@List.nil_append
def Ys:type_of% @List.drop_of_length_le:=@List.drop_of_length_le
def Yt:type_of% @List.any_eq_true:=@List.any_eq_true
def Yu:type_of% @ByteArray.size_append:=@ByteArray.size_append
def Yv:type_of% @List.getElem_append_left:=@List.getElem_append_left
def Yw:type_of% @List.mem_filterMap:=@List.mem_filterMap
def Yx:type_of% @List.nodup_iff_pairwise_ne:=@List.nodup_iff_pairwise_ne
def Yy:type_of% @List.length_range:=@List.length_range
def Yz:type_of% @List.flatMap_append:=@List.flatMap_append
def YA:type_of% @List.nodup_cons:=@List.nodup_cons
def YB:type_of% @List.filterMap_append:=@List.filterMap_append
def YC:type_of% @List.getElem?_drop:=@List.getElem?_drop
def YD:type_of% @List.mem_cons_self:=@List.mem_cons_self
def YE:type_of% @Nat.add_mod:=@Nat.add_mod
def YF:type_of% @List.flatten_cons:=@List.flatten_cons
def YG:type_of% @List.length_eq_zero_iff:=@List.length_eq_zero_iff
def YH:type_of% @List.getElem?_set_self:=@List.getElem?_set_self
def YI:type_of% @Option.map_eq_some_iff:=@Option.map_eq_some_iff
def YJ:type_of% @Bool.false_or:=@Bool.false_or
def YK:type_of% @List.cons_append:=@List.cons_append
def YL:type_of% @Nat.mod_eq_of_lt:=@Nat.mod_eq_of_lt
def YM:type_of% @List.mem_range:=@List.mem_range
def YN:type_of% @List.getElem?_take:=@List.getElem?_take
def YO:type_of% @List.drop_left:=@List.drop_left
def YP:type_of% @List.getElem?_toArray:=@List.getElem?_toArray
def YQ:type_of% @List.pairwise_iff_getElem:=@List.pairwise_iff_getElem
def YR:type_of% @Classical.byContradiction:=@Classical.byContradiction
def YS:type_of% @Bool.eq_iff_iff:=@Bool.eq_iff_iff
def YT:type_of% @List.find?_append:=@List.find?_append
def YU:type_of% @List.length_flatMap:=@List.length_flatMap
def YV:type_of% @List.getElem?_cons_succ:=@List.getElem?_cons_succ
def YW:type_of% @List.take_left:=@List.take_left
def YX:type_of% @List.mem_flatten:=@List.mem_flatten
def YY:type_of% @Bool.and_false:=@Bool.and_false
def YZ:type_of% @Prod.mk.inj:=@Prod.mk.inj
def Y0:type_of% @List.map_set:=@List.map_set
def Y1:type_of% @List.find?_cons:=@List.find?_cons
def Y2:type_of% @Int.natCast_add:=@Int.natCast_add
def Y3:type_of% @List.findSome?_append:=@List.findSome?_append
def Y4:type_of% @List.findIdx?_map:=@List.findIdx?_map
def Y5:type_of% @Nat.zero_le:=@Nat.zero_le
def Y6:type_of% @Nat.mul_mod:=@Nat.mul_mod
def Y7:type_of% @List.findIdx?_append:=@List.findIdx?_append
def Y8:type_of% @decide_eq_decide:=@decide_eq_decide
def Y9:type_of% @List.mem_flatMap:=@List.mem_flatMap
def Za:type_of% @Nat.zero_mul:=@Nat.zero_mul
def Zb:type_of% @Nat.sub_self:=@Nat.sub_self
def Zc:type_of% @List.ext_getElem:=@List.ext_getElem
def Zd:type_of% @List.all_cons:=@List.all_cons
def Ze:type_of% @List.any_append:=@List.any_append
def Zf:type_of% @Option.map_some:=@Option.map_some
def Zg:type_of% @Nat.mod_lt:=@Nat.mod_lt
def Zh:type_of% @decide_true:=@decide_true
def Zi:type_of% @Nat.add_zero:=@Nat.add_zero
def Zj:type_of% @Nat.mul_comm:=@Nat.mul_comm
def Zk:type_of% @Nat.sub_zero:=@Nat.sub_zero
def Zl:type_of% @Nat.mod_mod:=@Nat.mod_mod
abbrev Hp:=Array Obj
def iq (h:Hp) (a:Addr):Option Value :=
 match h[a.block]? with
 | some (.cells c _ _)=>if a.spot.isSome then none else c[a.off]?
 | _=>none
def uK (h:Hp) (a:Addr):Bool :=
 match h[a.block]? with
 | some (.cells _ _ (lo,hi))=>lo<=a.off && a.off<hi
 | _=>false
def kG (h:Hp) (a:Addr) (v:Value):Hp :=
 h.modify a.block fun
  | .cells c elem frozen=>.cells (if a.spot.isSome then c else c.setIfInBounds a.off v) elem frozen
  | o=>o
def Ts (h:Hp) (r:Nat):Option (TypeId × Nat) :=
 match h[r]? with
 | some (.cells c elem _)=>some (elem,c.size)
 | _=>none
def B5 (h:Hp) (a:Addr) (n:Nat):Hp :=
 if n=0 then h else
 h.modify a.block fun
  | .cells c elem (lo,hi)=>.cells c elem (if lo==hi then (a.off,a.off+n) else (min lo a.off,max hi (a.off+n)))
  | o=>o
def JI (w:World) (a:Addr):w.cell? a=iq w.heap a:=rfl
def DX (w:World) (a:Addr) (n:Nat):(w.freeze a n).heap=B5 w.heap a n:=by
 unfold World.freeze B5; split <;> rfl
structure dG (w w':World):Prop where
 os:w'.os=w.os
 tape:w'.tape=w.tape
 output:w'.output=w.output
def dG.refl (w:World):dG w w:=⟨rfl,rfl,rfl⟩
def dG.trans {a b c:World} (h:dG a b) (k:dG b c):dG a c:=⟨k.os.trans h.os,k.tape.trans h.tape,k.output.trans h.output⟩
def dG.freeze {w w₀:World} (h:dG w₀ w) (a:Addr) (n:Nat):dG w₀ (w.freeze a n):=by
 unfold World.freeze; split
 ·exact h
 ·exact ⟨h.os,h.tape,h.output⟩
def cX:Value->Bool
 | .agg _=>false
 | .tuple _=>false
 | _=>true
def aS (P:Program) {α:Type}:Sem α->Hp->(α->Hp->Prop)->Prop
 | .pure a,h,K=>K a h
 | .load _ a k,h,K=>∃ v,iq h a=some v/\aS P (k v) h K
 | .store _ a v k,h,K=>cX v=true/\(∃ u,iq h a=some u)/\uK h a=false/\aS P k (kG h a v) K
 | .new o k,h,K=>aS P (k h.size) (h.push o) K
 | .shape r k,h,K=>aS P (k (Ts h r)) h K
 | .freeze a n k,h,K=>aS P k (B5 h a n) K
 | .frozen a k,h,K=>aS P (k (uK h a)) h K
 | .getObj r k,h,K=>∃ o,h[r]?=some o/\(∀ c e f,o≠.cells c e f)/\aS P (k o) h K
 | .setObj r o k,h,K=>(∃ o',h[r]?=some o'/\∀ c e f,o'≠.cells c e f)/\aS P k (h.setIfInBounds r o) K
 | .choose q k,h,K=>if q.forced then aS P (k 0) h K else ∀ t,aS P (k (q.cut t)) h K
 | .sys _ _,_,_=>False
 | .program k,h,K=>aS P (k P) h K
 | .mark _ k,h,K=>aS P k h K
 | .halt _,_,_=>False
def oF {P:Program} {α:Type} (s:Sem α):∀ (w:World) (K:α->Hp->Prop),aS P s w.heap K ->
  ∃ a w',s.run P w=.ok a w'/\dG w w'/\K a w'.heap:=by
 induction s with
 | pure a=>intro w K h; exact ⟨a,w,rfl,dG.refl w,h⟩
 | load m a k ih =>
  intro w K h;obtain ⟨v,hv,hk⟩:=h
  have:w.cell? a=some v:=hv
  obtain ⟨x,w',h1,h2,h3⟩:=ih v w K hk;exact ⟨x,w',by simp only [Sem.run,this,h1],h2,h3⟩
 | store m a v k ih =>
  intro w K h;obtain ⟨hp,⟨u,hu⟩,hf,hk⟩:=h;have hu':w.cell? a=some u:=hu;have hf':w.frozen? a=false:=hf;obtain ⟨x,w',h1,h2,h3⟩:=ih (w.setCell a v) K hk;refine ⟨x,w',?_,⟨h2.os,h2.tape,h2.output⟩,h3⟩;cases v <;> first | (simp [cX] at hp; done) | (simp only [Sem.run,hu',hf']; exact h1)
 | new o k ih =>
  intro w K h;obtain ⟨x,w',h1,h2,h3⟩:=ih w.heap.size { w with heap:=w.heap.push o } K h;exact ⟨x,w',h1,⟨h2.os,h2.tape,h2.output⟩,h3⟩
 | shape r k ih=>intro w K h; exact ih _ w K h
 | freeze a n k ih =>
  intro w K h;obtain ⟨x,w',h1,h2,h3⟩:=ih (w.freeze a n) K (by rw [DX]; exact h);exact ⟨x,w',h1,dG.trans ((dG.refl w).freeze a n) h2,h3⟩
 | frozen a k ih=>intro w K h; exact ih _ w K h
 | getObj r k ih =>
  intro w K h;obtain ⟨o,ho,hne,hk⟩:=h;obtain ⟨x,w',h1,h2,h3⟩:=ih o w K hk;refine ⟨x,w',?_,h2,h3⟩;simp only [Sem.run,ho];cases o <;> first | exact (hne _ _ _ rfl).elim | exact h1
 | setObj r o k ih =>
  intro w K h;obtain ⟨⟨o',ho,hne⟩,hk⟩:=h;obtain ⟨x,w',h1,h2,h3⟩:=ih { w with heap:=w.heap.setIfInBounds r o } K hk;refine ⟨x,w',?_,⟨h2.os,h2.tape,h2.output⟩,h3⟩;simp only [Sem.run,ho];cases o' <;> first | exact (hne _ _ _ rfl).elim | exact h1
 | choose q k ih =>
  intro w K h;simp only [aS] at h
  by_cases hq:q.forced=true
  ·rw [if_pos hq] at h;obtain ⟨x,w',h1,h2,h3⟩:=ih 0 w K h;exact ⟨x,w',by simp only [Sem.run,if_pos hq]; exact h1,h2,h3⟩
  ·rw [if_neg hq] at h;obtain ⟨x,w',h1,h2,h3⟩:=ih (q.cut (w.tape w.drawn q)) { w with drawn:=w.drawn+1 } K (h _);exact ⟨x,w',by simp only [Sem.run,if_neg hq]; exact h1,⟨h2.os,h2.tape,h2.output⟩,h3⟩
 | sys c k ih=>intro w K h; exact h.elim
 | program k ih=>intro w K h; exact ih P w K h
 | mark m k ih=>intro w K h; exact ih w K h
 | halt x=>intro w K h; exact h.elim
def dK {P:Program} {α:Type} (s:Sem α):∀ (h:Hp) (K K':α->Hp->Prop),(∀ a h,K a h->K' a h)->aS P s h K->aS P s h K':=by
 induction s with
 | pure a=>intro h K K' m k; exact m _ _ k
 | load m a k ih=>intro h K K' mo ⟨v,hv,hk⟩; exact ⟨v,hv,ih v h K K' mo hk⟩
 | store m a v k ih=>intro h K K' mo ⟨h1,h2,h3,hk⟩; exact ⟨h1,h2,h3,ih _ K K' mo hk⟩
 | new o k ih=>intro h K K' mo hk; exact ih _ _ K K' mo hk
 | shape r k ih=>intro h K K' mo hk; exact ih _ _ K K' mo hk
 | freeze a n k ih=>intro h K K' mo hk; exact ih _ K K' mo hk
 | frozen a k ih=>intro h K K' mo hk; exact ih _ _ K K' mo hk
 | getObj r k ih=>intro h K K' mo ⟨o,h1,h2,hk⟩; exact ⟨o,h1,h2,ih _ _ K K' mo hk⟩
 | setObj r o k ih=>intro h K K' mo ⟨h1,hk⟩; exact ⟨h1,ih _ K K' mo hk⟩
 | choose q k ih =>
  intro h K K' mo hk;simp only [aS] at hk ⊢;split
  ·rename_i hq; rw [if_pos hq] at hk; exact ih _ _ K K' mo hk
  ·rename_i hq; rw [if_neg hq] at hk; exact fun t=>ih _ _ K K' mo (hk t)
 | sys c k ih=>intro h K K' mo hk; exact hk.elim
 | program k ih=>intro h K K' mo hk; exact ih _ _ K K' mo hk
 | mark m k ih=>intro h K K' mo hk; exact ih _ K K' mo hk
 | halt x=>intro h K K' mo hk; exact hk.elim
def JL {P:Program} {α β:Type} (s:Sem α) (f:α->Sem β):∀ (h:Hp) (K:β->Hp->Prop),
  aS P (s.bind f) h K=aS P s h (fun a h'=>aS P (f a) h' K):=by
 induction s with
 | pure a=>intro h K; rfl
 | load m a k ih=>intro h K; simp only [Sem.bind,aS,ih]
 | store m a v k ih=>intro h K; simp only [Sem.bind,aS,ih]
 | new o k ih=>intro h K; simp only [Sem.bind,aS,ih]
 | shape r k ih=>intro h K; simp only [Sem.bind,aS,ih]
 | freeze a n k ih=>intro h K; simp only [Sem.bind,aS,ih]
 | frozen a k ih=>intro h K; simp only [Sem.bind,aS,ih]
 | getObj r k ih=>intro h K; simp only [Sem.bind,aS,ih]
 | setObj r o k ih=>intro h K; simp only [Sem.bind,aS,ih]
 | choose q k ih=>intro h K; simp only [Sem.bind,aS,ih]
 | sys c k ih=>intro h K; rfl
 | program k ih=>intro h K; simp only [Sem.bind,aS,ih]
 | mark m k ih=>intro h K; simp only [Sem.bind,aS,ih]
 | halt x=>intro h K; rfl
def ar {P:Program} {α β:Type} (s:Sem α) (f:α->Sem β) (h:Hp) (K:β->Hp->Prop) :
  aS P (s >>= f) h K=aS P s h (fun a h'=>aS P (f a) h' K):=JL s f h K
def JR {P:Program} {α:Type} (a:α) (h:Hp) (K:α->Hp->Prop):aS P (pure a) h K=K a h:=rfl
def HC (P:Program) (f:FuncId) (args:Array Value) (h:Hp) (R:Value->Hp->Prop):Prop :=
 ∀ w:World,w.heap=h->Calls P f args w fun e w'=>∃ v,e=.returned v/\dG w w'/\R v w'.heap
def HC.mono {P:Program} {f:FuncId} {args:Array Value} {h:Hp} {R R':Value->Hp->Prop} (hc:HC P f args h R) (m:∀ v h',R v h'->R' v h') :
  HC P f args h R':=fun w hw=>(hc w hw).mono fun e w' ⟨v,h1,h2,h3⟩=>⟨v,h1,h2,m _ _ h3⟩
def BN (P:Program) (K:Value->Hp->Prop):Next->Hp->Prop
 | .value v,h=>K v h
 | .skip,h=>K undef h
 | .enter f args,h=>HC P f args h K
 | _,_=>False
def VB (P:Program) (o:Oper) (ev:Operand->Value) (h:Hp) (K:Value->Hp->Prop):Prop:=aS P (execOp ev o) h (BN P K)
def wT {P:Program} {o:Oper} {a:Act} {w:World} {K:Value->Hp->Prop} {next:Act->World->Prop} {Q:Exit->Act->World->Prop}
  (hk:VB P o a.eval w.heap K) (hn:∀ v w',dG w w'->K v w'.heap->next (a.put o.dst v) w'):o.wp P a w next Q:=by
 obtain ⟨n,w',h1,h2,h3⟩:=oF _ w _ hk;unfold Oper.wp;rw [h1];cases n <;> simp only [BN] at h3
 case value v=>exact hn v w' h2 h3
 case skip=>exact hn undef w' h2 h3
 case enter f args =>
  exact (h3 w' rfl).mono fun e w'' ⟨v,he,hs,hr⟩=>by subst he; exact hn v w'' (h2.trans hs) hr
def cW (P:Program) (c:Code) (Q:Exit->Act->Hp->Prop) (a:Act) (h:Hp):Prop :=
 ∀ w0 w:World,dG w0 w->w.heap=h->c.wp P (fun e a' w'=>dG w0 w'/\Q e a' w'.heap) a w
def rK {P:Program} {c:Code} {Q Q':Exit->Act->Hp->Prop} {a:Act} {h:Hp} (m:∀ e a h,Q e a h->Q' e a h) (hc:cW P c Q a h):cW P c Q' a h :=
 fun w0 w hs hw=>Code.wp_mono (fun _ _ _ ⟨h1,h2⟩=>⟨h1,m _ _ _ h2⟩) (hc w0 w hs hw)
def Ia {P:Program} {Q:Exit->Act->Hp->Prop} {a:Act} {h:Hp} (hq:Q .normal a h):cW P .skip Q a h:=fun w0 w hs hw=>wp_skip ⟨hs,hw▸hq⟩
def Ea {P:Program} {Q:Exit->Act->Hp->Prop} {a:Act} {h:Hp} {l:Nat} (hq:Q .normal a h):cW P (.label l) Q a h:=fun w0 w hs hw=>wp_label ⟨hs,hw▸hq⟩
def Ib {P:Program} {Q:Exit->Act->Hp->Prop} {a:Act} {h:Hp} {i:Nat} (hq:Q (.exit i) a h):cW P (.exit i) Q a h:=fun w0 w hs hw=>wp_exit ⟨hs,hw▸hq⟩
def HA {P:Program} {Q:Exit->Act->Hp->Prop} {a:Act} {h:Hp} {i:Nat} (hq:Q (.goto i) a h):cW P (.goto i) Q a h:=fun w0 w hs hw=>wp_goto ⟨hs,hw▸hq⟩
def MY {P:Program} {Q:Exit->Act->Hp->Prop} {a:Act} {h:Hp} (hq:Q .ret a h):cW P .ret Q a h:=fun w0 w hs hw=>wp_ret ⟨hs,hw▸hq⟩
def NP (next:Act->Hp->Prop) (Q:Exit->Act->Hp->Prop):Exit->Act->Hp->Prop
 | .normal,a,h=>next a h
 | e,a,h=>Q e a h
def Ce {P:Program} {x y:Code} {Q:Exit->Act->Hp->Prop} {a:Act} {h:Hp} (hx:cW P x (NP (cW P y Q) Q) a h):cW P (.seq x y) Q a h :=
 fun w0 w hs hw=>wp_seq (Code.wp_mono (fun e a' w' ⟨h1,h2⟩=>by
  cases e <;> first | exact h2 w0 w' h1 rfl | exact ⟨h1,h2⟩) (hx w0 w hs hw))
def CQ {P:Program} {c:Operand} {x y:Code} {b:Bool} {Q:Exit->Act->Hp->Prop} {a:Act} {h:Hp} (hc:a.eval c=.bool b)
  (ht:b=true->cW P x Q a h) (hf:b=false->cW P y Q a h):cW P (.cond c x y) Q a h :=
 fun w0 w hs hw=>wp_cond_split hc (fun e=>ht e w0 w hs hw) (fun e=>hf e w0 w hs hw)
def lO (id:Nat) (Q:Exit->Act->Hp->Prop):Exit->Act->Hp->Prop
 | .exit id',a,h=>if id'=id then Q .normal a h else Q (.exit id') a h
 | e,a,h=>Q e a h
def EF {P:Program} {id:Nat} {c:Code} {Q:Exit->Act->Hp->Prop} {a:Act} {h:Hp} (hc:cW P c (lO id Q) a h):cW P (.block id c) Q a h :=
 fun w0 w hs hw=>wp_block (Code.wp_mono (fun e a' w' ⟨h1,h2⟩=>by
  cases e <;> first
   | (simp only [Exit.inBlock,lO] at h2 ⊢; split <;> rename_i hh <;> simp only [hh,if_true,if_false] at h2 <;> exact ⟨h1,h2⟩)
   | exact ⟨h1,h2⟩) (hc w0 w hs hw))
def HP {P : Program} {c : Code} {Q : Exit -> Act -> Hp -> Prop} {a : Act} {h : Hp} (I : Nat -> Act -> Hp -> Prop) (h0 : ∃ n, I n a h)
    (round : ∀ n a h, I n a h -> cW P c (NP (fun a' h' => ∃ m, m < n /\ I m a' h') Q) a h) : cW P (.loop c) Q a h := by
  intro w0 w hs hw
  have key : ∀ n a w, dG w0 w -> I n a w.heap -> (Code.loop c).wp P (fun e a' w' => dG w0 w' /\ Q e a' w'.heap) a w := by
    intro n a w hs hI
    have := wp_loop (P := P) (c := c) (a := a) (w := w) (Q := fun e a' w' => dG w0 w' /\ Q e a' w'.heap)
      (fun a w => ∃ n, dG w0 w /\ I n a w.heap)
      (fun a w => by
        classical
        exact if hx : ∃ n, I n a w.heap then Classical.choose (show ∃ n, I n a w.heap /\ ∀ m, I m a w.heap -> n <= m from by
          obtain ⟨n, hn⟩ := hx
          induction n using Nat.strongRecOn with
          | _ n ih =>
            by_cases hh : ∃ m, m < n /\ I m a w.heap
            · obtain ⟨m, hm, hm2⟩ := hh; exact ih m hm hm2
            · exact ⟨n, hn, fun m hm => Nat.le_of_not_lt fun hlt => hh ⟨m, hlt, hm⟩⟩) else 0)
      ⟨n, hs, hI⟩
      (by
        rintro a w ⟨n0, hs1, hI1⟩;have hx : ∃ n, I n a w.heap := ⟨n0, hI1⟩
        have hspec := Classical.choose_spec (show ∃ n, I n a w.heap /\ ∀ m, I m a w.heap -> n <= m from by
          obtain ⟨n, hn⟩ := hx
          induction n using Nat.strongRecOn with
          | _ n ih =>
            by_cases hh : ∃ m, m < n /\ I m a w.heap
            · obtain ⟨m, hm, hm2⟩ := hh; exact ih m hm hm2
            · exact ⟨n, hn, fun m hm => Nat.le_of_not_lt fun hlt => hh ⟨m, hlt, hm⟩⟩)
        rw [dif_pos hx];refine Code.wp_mono ?_ (round _ a w.heap hspec.1 w0 w hs1 rfl);intro e a' w' ⟨h1, h2⟩
        cases e <;> first
          | exact ⟨h1, h2⟩
          | (obtain ⟨m, hm, hIm⟩ := h2
             refine ⟨⟨m, h1, hIm⟩, ?_⟩;have hx' : ∃ n, I n a' w'.heap := ⟨m, hIm⟩
             rw [dif_pos hx'];refine Nat.lt_of_le_of_lt ?_ hm;exact (Classical.choose_spec (show ∃ n, I n a' w'.heap /\ ∀ m, I m a' w'.heap -> n <= m from by
              obtain ⟨n, hn⟩ := hx'
              induction n using Nat.strongRecOn with
              | _ n ih =>
                by_cases hh : ∃ m, m < n /\ I m a' w'.heap
                · obtain ⟨m, hm, hm2⟩ := hh; exact ih m hm hm2
                · exact ⟨n, hn, fun m hm => Nat.le_of_not_lt fun hlt => hh ⟨m, hlt, hm⟩⟩)).2 m hIm))
    exact this
  obtain ⟨n, hn⟩ := h0;exact key n a w hs (hw ▸ hn)
abbrev vI (n:Int):Value:=.int .i64 n
abbrev yI (t:TypeId):List TypeDesc:=[.int .i64,.string,.int .i64,.int .i64,.int .i64,.int .i32,.int .i64,.slice t,.int .u32,.int .i64]
abbrev yL (t:TypeId):List TypeDesc:=[.slice t,.int .u32]
abbrev yU (t u:TypeId):List TypeDesc:=[.slice t,.slice t,.slice u,.slice 9]
def nA {α:Type} (l:List α):[]++l=l:=rfl
def cA {α:Type} (a:α) (k l:List α):(a::k)++l=a::(k++l):=rfl
end Go.Sx
