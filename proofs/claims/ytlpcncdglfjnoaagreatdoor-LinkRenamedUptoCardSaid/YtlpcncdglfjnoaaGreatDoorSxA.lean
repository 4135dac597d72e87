/- Part of the framework. No condition. -/
import Derived.KernelRfl
import Derived.WalkKit
set_option linter.all false
set_option maxHeartbeats 4000000
def ad {p : Prop} (h : p := by omega) : p := h
def ah {p : Prop} (h : p := by simp) : p := h
def bJ {p : Prop} (h : p := by decide) : p := h
def aw {p : Prop} (h : p := by kernel_rfl) : p := h
namespace Go.Sx
abbrev XA:=ByteArray
abbrev XB:=Value
abbrev XC:=Option Addr
abbrev YA:=Addr
def Vq:type_of% @Option.bind_eq_some_iff:=@Option.bind_eq_some_iff
def Vr:type_of% @List.length_map:=@List.length_map
def Vs:type_of% @List.length_append:=@List.length_append
def Vt:type_of% @List.take_succ_eq_append_getElem:=@List.take_succ_eq_append_getElem
def Vu:type_of% @if_neg:=@if_neg
def Vv:type_of% @of_decide_eq_true:=@of_decide_eq_true
def Vw:type_of% @decide_eq_true:=@decide_eq_true
def Vx:type_of% @decide_eq_false:=@decide_eq_false
def Vy:type_of% @List.mem_map:=@List.mem_map
def Vz:type_of% @List.mem_cons_of_mem:=@List.mem_cons_of_mem
def VA:type_of% @List.getElem_mem:=@List.getElem_mem
def VB:type_of% @List.map_append:=@List.map_append
def VC:type_of% @List.getElem?_eq_getElem:=@List.getElem?_eq_getElem
def VD:type_of% @List.getElem_map:=@List.getElem_map
def VE:type_of% @if_pos:=@if_pos
def VF:type_of% @Nat.eq_of_beq_eq_true:=@Nat.eq_of_beq_eq_true
def VG:type_of% @List.mem_append:=@List.mem_append
def VH:type_of% @List.mem_singleton:=@List.mem_singleton
def VI:type_of% @of_decide_eq_false:=@of_decide_eq_false
def VJ:type_of% @Bool.and_eq_true:=@Bool.and_eq_true
def VK:type_of% @List.mem_cons:=@List.mem_cons
def VL:type_of% @Nat.le_refl:=@Nat.le_refl
def VM:type_of% @List.mem_map_of_mem:=@List.mem_map_of_mem
def VN:type_of% @List.map_map:=@List.map_map
def VO:type_of% @congrArg:=@congrArg
def VP:type_of% @Option.some.inj:=@Option.some.inj
def VQ:type_of% @List.length_take:=@List.length_take
def VT:type_of% @List.all_eq_true:=@List.all_eq_true
def VU:type_of% @List.drop_eq_getElem_cons:=@List.drop_eq_getElem_cons
def VV:type_of% @List.getElem_of_mem:=@List.getElem_of_mem
def VW:type_of% @List.append_assoc:=@List.append_assoc
def VX:type_of% @Nat.le_of_ble_eq_true:=@Nat.le_of_ble_eq_true
def VY:type_of% @List.map_cons:=@List.map_cons
def VZ:type_of% @Bool.true_and:=@Bool.true_and
def V0:type_of% @List.take_of_length_le:=@List.take_of_length_le
def V1:type_of% @List.take_length:=@List.take_length
def V2:type_of% @List.foldl_cons:=@List.foldl_cons
def V3:type_of% @List.getD_eq_getElem?_getD:=@List.getD_eq_getElem?_getD
def V4:type_of% @List.map_congr_left:=@List.map_congr_left
def V5:type_of% @List.getElem?_eq_none:=@List.getElem?_eq_none
def V6:type_of% @List.length_drop:=@List.length_drop
def V7:type_of% @List.mem_append_left:=@List.mem_append_left
def V8:type_of% @List.getElem?_append_right:=@List.getElem?_append_right
def V9:type_of% @Nat.zero_add:=@Nat.zero_add
def Wa:type_of% @List.getElem?_map:=@List.getElem?_map
def Wb:type_of% @List.getElem?_append_left:=@List.getElem?_append_left
def Wc:type_of% @List.length_cons:=@List.length_cons
def Wd:type_of% @List.mem_append_right:=@List.mem_append_right
def We:type_of% @List.take_append_drop:=@List.take_append_drop
def Wf:type_of% @Array.toList_inj:=@Array.toList_inj
def Wg:type_of% @List.sum_cons:=@List.sum_cons
def Wh:type_of% @List.flatMap_cons:=@List.flatMap_cons
def Wi:type_of% @Nat.le_trans:=@Nat.le_trans
def Wj:type_of% @List.findIdx?_eq_some_iff_getElem:=@List.findIdx?_eq_some_iff_getElem
def Wk:type_of% @List.eq_nil_of_length_eq_zero:=@List.eq_nil_of_length_eq_zero
def Wl:type_of% @List.pairwise_map:=@List.pairwise_map
def Wm:type_of% @List.nodup_append:=@List.nodup_append
def Wn:type_of% @List.drop_length:=@List.drop_length
def Wo:type_of% @Nat.lt_or_ge:=@Nat.lt_or_ge
def Wp:type_of% @Array.getElem?_eq_none:=@Array.getElem?_eq_none
def Wq:type_of% @Nat.mul_le_mul_right:=@Nat.mul_le_mul_right
def Wr:type_of% @List.append_nil:=@List.append_nil
def Ws:type_of% @List.foldl_append:=@List.foldl_append
def Wt:type_of% @List.pairwise_cons:=@List.pairwise_cons
def Wu:type_of% @List.nodup_iff_pairwise_ne:=@List.nodup_iff_pairwise_ne
def Wv:type_of% @List.findIdx?_eq_none_iff:=@List.findIdx?_eq_none_iff
def Ww:type_of% @Option.isSome_iff_exists:=@Option.isSome_iff_exists
def Wx:type_of% @Nat.add_mul:=@Nat.add_mul
def Wy:type_of% @Array.length_toList:=@Array.length_toList
def Wz:type_of% @List.findSome?_eq_none_iff:=@List.findSome?_eq_none_iff
def WA:type_of% @List.ext_getElem?:=@List.ext_getElem?
def WB:type_of% @Array.getElem?_eq_getElem:=@Array.getElem?_eq_getElem
def WC:type_of% @Array.getElem?_setIfInBounds:=@Array.getElem?_setIfInBounds
def WD:type_of% @Nat.min_eq_left:=@Nat.min_eq_left
def WE:type_of% @Array.getElem?_toList:=@Array.getElem?_toList
def WG:type_of% @Nat.zero_le:=@Nat.zero_le
def WH:type_of% @List.mem_cons_self:=@List.mem_cons_self
def WJ:type_of% @List.length_set:=@List.length_set
def WK:type_of% @Array.all_toList:=@Array.all_toList
def WL:type_of% @Bool.and_true:=@Bool.and_true
def WM:type_of% @List.nil_append:=@List.nil_append
def WN:type_of% @List.nodup_cons:=@List.nodup_cons
def WO:type_of% @List.mem_of_mem_take:=@List.mem_of_mem_take
def WQ:type_of% @List.drop_eq_nil_of_le:=@List.drop_eq_nil_of_le
def WR:type_of% @List.map_set:=@List.map_set
def WS:type_of% @List.getElem_append_right:=@List.getElem_append_right
def WT:type_of% @List.length_filter_le:=@List.length_filter_le
def WU:type_of% @List.set_append_right:=@List.set_append_right
def WV:type_of% @List.mem_filterMap:=@List.mem_filterMap
def WW:type_of% @List.getElem?_drop:=@List.getElem?_drop
def WX:type_of% @List.any_eq_true:=@List.any_eq_true
def WY:type_of% @Option.bind_some:=@Option.bind_some
def WZ:type_of% @List.getElem_append_left:=@List.getElem_append_left
def W0:type_of% @List.getElem?_range:=@List.getElem?_range
def W1:type_of% @Nat.sub_self:=@Nat.sub_self
def W2:type_of% @Option.map_eq_some_iff:=@Option.map_eq_some_iff
def W3:type_of% @List.getElem?_take:=@List.getElem?_take
def W4:type_of% @List.getElem?_toArray:=@List.getElem?_toArray
def W5:type_of% @List.pairwise_iff_getElem:=@List.pairwise_iff_getElem
def W6:type_of% @Classical.byContradiction:=@Classical.byContradiction
def W7:type_of% @Bool.eq_iff_iff:=@Bool.eq_iff_iff
def W8:type_of% @List.all_cons:=@List.all_cons
def W9:type_of% @List.Pairwise.imp_of_mem:=@List.Pairwise.imp_of_mem
def Xa:type_of% @List.flatMap_append:=@List.flatMap_append
def Xb:type_of% @List.length_flatMap:=@List.length_flatMap
def Xc:type_of% @List.cons_append:=@List.cons_append
def Xd:type_of% @List.mem_range:=@List.mem_range
def Xe:type_of% @List.getElem?_cons_succ:=@List.getElem?_cons_succ
def Xf:type_of% @List.drop_left:=@List.drop_left
def Xg:type_of% @Prod.mk.inj:=@Prod.mk.inj
def Xh:type_of% @List.drop_of_length_le:=@List.drop_of_length_le
def Xi:type_of% @List.find?_cons:=@List.find?_cons
def Xj:type_of% @Bool.false_or:=@Bool.false_or
def Xk:type_of% @List.filterMap_append:=@List.filterMap_append
def Xl:type_of% @List.findSome?_append:=@List.findSome?_append
def Xm:type_of% @List.flatten_cons:=@List.flatten_cons
def Xn:type_of% @List.Perm.refl:=@List.Perm.refl
def Xo:type_of% @Bool.and_false:=@Bool.and_false
def Xp:type_of% @Nat.mul_mod:=@Nat.mul_mod
def Xq:type_of% @List.findIdx?_append:=@List.findIdx?_append
def Xr:type_of% @Nat.add_mod:=@Nat.add_mod
def Xs:type_of% @decide_eq_decide:=@decide_eq_decide
def Xt:type_of% @List.mem_flatten:=@List.mem_flatten
def Xu:type_of% @List.mem_filter:=@List.mem_filter
def Xv:type_of% @Int.natCast_add:=@Int.natCast_add
def Xw:type_of% @decide_true:=@decide_true
def Xx:type_of% @List.take_left:=@List.take_left
def Xy:type_of% @Nat.add_zero:=@Nat.add_zero
def Xz:type_of% @List.drop_zero:=@List.drop_zero
abbrev Hp:=Array Obj
def jr (h:Hp) (a:Addr):Option Value :=
 match h[a.block]? with
 | some (.cells c _ _)=>if a.spot.isSome then none else c[a.off]?
 | _=>none
def uM (h:Hp) (a:Addr):Bool :=
 match h[a.block]? with
 | some (.cells _ _ (b,hi))=>b<=a.off && a.off<hi
 | _=>false
def iC (h:Hp) (a:Addr) (v:Value):Hp :=
 h.modify a.block fun
  | .cells c elem frozen=>.cells (if a.spot.isSome then c else c.setIfInBounds a.off v) elem frozen
  | o=>o
def RR (h:Hp) (r:Nat):Option (TypeId × Nat) :=
 match h[r]? with
 | some (.cells c elem _)=>some (elem,c.size)
 | _=>none
def BO (h:Hp) (a:Addr) (n:Nat):Hp :=
 if n=0 then h else
 h.modify a.block fun
  | .cells c elem (b,hi)=>.cells c elem (if b==hi then (a.off,a.off+n) else (min b a.off,max hi (a.off+n)))
  | o=>o
def I7 (w:World) (a:Addr):w.cell? a=jr w.heap a:=rfl
def DD (w:World) (a:Addr) (n:Nat):(w.freeze a n).heap=BO w.heap a n:=by
 unfold World.freeze BO; split <;> rfl
structure dG (w w':World):Prop where
 os:w'.os=w.os
 tape:w'.tape=w.tape
 output:w'.output=w.output
def dG.refl (w:World):dG w w:=⟨rfl,rfl,rfl⟩
def dG.trans {a b c:World} (h:dG a b) (k:dG b c):dG a c:=⟨k.os.trans h.os,k.tape.trans h.tape,k.output.trans h.output⟩
def dG.freeze {w b:World} (h:dG b w) (a:Addr) (n:Nat):dG b (w.freeze a n):=by
 unfold World.freeze; split
 ·exact h
 ·exact ⟨h.os,h.tape,h.output⟩
def cO:Value->Bool
 | .agg _=>false
 | .tuple _=>false
 | _=>true
def aI (P:Program) {α:Type}:Sem α->Hp->(α->Hp->Prop)->Prop
 | .pure a,h,K=>K a h
 | .load _ a k,h,K=>∃ v,jr h a=some v/\aI P (k v) h K
 | .store _ a v k,h,K=>cO v=true/\(∃ u,jr h a=some u)/\uM h a=false/\aI P k (iC h a v) K
 | .new o k,h,K=>aI P (k h.size) (h.push o) K
 | .shape r k,h,K=>aI P (k (RR h r)) h K
 | .freeze a n k,h,K=>aI P k (BO h a n) K
 | .frozen a k,h,K=>aI P (k (uM h a)) h K
 | .getObj r k,h,K=>∃ o,h[r]?=some o/\(∀ c e f,o≠.cells c e f)/\aI P (k o) h K
 | .setObj r o k,h,K=>(∃ o',h[r]?=some o'/\∀ c e f,o'≠.cells c e f)/\aI P k (h.setIfInBounds r o) K
 | .choose q k,h,K=>if q.forced then aI P (k 0) h K else ∀ t,aI P (k (q.cut t)) h K
 | .sys _ _,_,_=>False
 | .program k,h,K=>aI P (k P) h K
 | .mark _ k,h,K=>aI P k h K
 | .halt _,_,_=>False
variable {H:Program}
def ov {α:Type} (s:Sem α):∀ (w:World) (K:α->Hp->Prop),aI H s w.heap K ->
  ∃ a w',s.run H w=.ok a w'/\dG w w'/\K a w'.heap:=by
 induction s with
 | pure a=>intro w K h; exact ⟨a,w,rfl,dG.refl w,h⟩
 | load m a k b =>
  intro w K h;obtain ⟨v,hv,hk⟩:=h
  have:w.cell? a=some v:=hv
  obtain ⟨x,w',h1,h2,d⟩:=b v w K hk;exact ⟨x,w',by simp only [Sem.run,this,h1],h2,d⟩
 | store m a v k b =>
  intro w K h;obtain ⟨l,⟨u,p⟩,t,hk⟩:=h;have g:w.cell? a=some u:=p;have i:w.frozen? a=false:=t;obtain ⟨x,w',h1,h2,d⟩:=b (w.setCell a v) K hk;refine ⟨x,w',?_,⟨h2.os,h2.tape,h2.output⟩,d⟩;cases v <;> first | (simp [cO] at l; done) | (simp only [Sem.run,g,i]; exact h1)
 | new o k b =>
  intro w K h;obtain ⟨x,w',h1,h2,d⟩:=b w.heap.size { w with heap:=w.heap.push o } K h;exact ⟨x,w',h1,⟨h2.os,h2.tape,h2.output⟩,d⟩
 | shape r k b=>intro w K h; exact b _ w K h
 | freeze a n k b =>
  intro w K h;obtain ⟨x,w',h1,h2,d⟩:=b (w.freeze a n) K (by rw [DD]; exact h);exact ⟨x,w',h1,dG.trans ((dG.refl w).freeze a n) h2,d⟩
 | frozen a k b=>intro w K h; exact b _ w K h
 | getObj r k b =>
  intro w K h;obtain ⟨o,j,e,hk⟩:=h;obtain ⟨x,w',h1,h2,d⟩:=b o w K hk;refine ⟨x,w',?_,h2,d⟩;simp only [Sem.run,j];cases o <;> first | exact (e _ _ _ rfl).elim | exact h1
 | setObj r o k b =>
  intro w K h;obtain ⟨⟨o',j,e⟩,hk⟩:=h;obtain ⟨x,w',h1,h2,d⟩:=b { w with heap:=w.heap.setIfInBounds r o } K hk;refine ⟨x,w',?_,⟨h2.os,h2.tape,h2.output⟩,d⟩;simp only [Sem.run,j];cases o' <;> first | exact (e _ _ _ rfl).elim | exact h1
 | choose q k b =>
  intro w K h;simp only [aI] at h
  by_cases f:q.forced=true
  ·rw [if_pos f] at h;obtain ⟨x,w',h1,h2,d⟩:=b 0 w K h;exact ⟨x,w',by simp only [Sem.run,if_pos f]; exact h1,h2,d⟩
  ·rw [if_neg f] at h;obtain ⟨x,w',h1,h2,d⟩:=b (q.cut (w.tape w.drawn q)) { w with drawn:=w.drawn+1 } K (h _);exact ⟨x,w',by simp only [Sem.run,if_neg f]; exact h1,⟨h2.os,h2.tape,h2.output⟩,d⟩
 | sys c k b=>intro w K h; exact h.elim
 | program k b=>intro w K h; exact b H w K h
 | mark m k b=>intro w K h; exact b w K h
 | halt x=>intro w K h; exact h.elim
def dH {α:Type} (s:Sem α):∀ (h:Hp) (K K':α->Hp->Prop),(∀ a h,K a h->K' a h)->aI H s h K->aI H s h K':=by
 induction s with
 | pure a=>intro h K K' m k; exact m _ _ k
 | load m a k d=>intro h K K' b ⟨v,hv,hk⟩; exact ⟨v,hv,d v h K K' b hk⟩
 | store m a v k d=>intro h K K' b ⟨h1,h2,f,hk⟩; exact ⟨h1,h2,f,d _ K K' b hk⟩
 | new o k d=>intro h K K' b hk; exact d _ _ K K' b hk
 | shape r k d=>intro h K K' b hk; exact d _ _ K K' b hk
 | freeze a n k d=>intro h K K' b hk; exact d _ K K' b hk
 | frozen a k d=>intro h K K' b hk; exact d _ _ K K' b hk
 | getObj r k d=>intro h K K' b ⟨o,h1,h2,hk⟩; exact ⟨o,h1,h2,d _ _ K K' b hk⟩
 | setObj r o k d=>intro h K K' b ⟨h1,hk⟩; exact ⟨h1,d _ K K' b hk⟩
 | choose q k d =>
  intro h K K' b hk;simp only [aI] at hk ⊢;split
  ·rename_i e; rw [if_pos e] at hk; exact d _ _ K K' b hk
  ·rename_i e; rw [if_neg e] at hk; exact fun t=>d _ _ K K' b (hk t)
 | sys c k d=>intro h K K' b hk; exact hk.elim
 | program k d=>intro h K K' b hk; exact d _ _ K K' b hk
 | mark m k d=>intro h K K' b hk; exact d _ K K' b hk
 | halt x=>intro h K K' b hk; exact hk.elim
def Ja {α β:Type} (s:Sem α) (f:α->Sem β):∀ (h:Hp) (K:β->Hp->Prop),
  aI H (s.bind f) h K=aI H s h (fun a h'=>aI H (f a) h' K):=by
 induction s with
 | pure a=>intro h K; rfl
 | load m a k b=>intro h K; simp only [Sem.bind,aI,b]
 | store m a v k b=>intro h K; simp only [Sem.bind,aI,b]
 | new o k b=>intro h K; simp only [Sem.bind,aI,b]
 | shape r k b=>intro h K; simp only [Sem.bind,aI,b]
 | freeze a n k b=>intro h K; simp only [Sem.bind,aI,b]
 | frozen a k b=>intro h K; simp only [Sem.bind,aI,b]
 | getObj r k b=>intro h K; simp only [Sem.bind,aI,b]
 | setObj r o k b=>intro h K; simp only [Sem.bind,aI,b]
 | choose q k b=>intro h K; simp only [Sem.bind,aI,b]
 | sys c k b=>intro h K; rfl
 | program k b=>intro h K; simp only [Sem.bind,aI,b]
 | mark m k b=>intro h K; simp only [Sem.bind,aI,b]
 | halt x=>intro h K; rfl
def al {α β:Type} (s:Sem α) (f:α->Sem β) (h:Hp) (K:β->Hp->Prop) :
  aI H (s >>= f) h K=aI H s h (fun a h'=>aI H (f a) h' K):=Ja s f h K
def Jh {α:Type} (a:α) (h:Hp) (K:α->Hp->Prop):aI H (pure a) h K=K a h:=rfl
def HC (P:Program) (f:FuncId) (args:Array Value) (h:Hp) (R:Value->Hp->Prop):Prop :=
 ∀ w:World,w.heap=h->Calls P f args w fun e w'=>∃ v,e=.returned v/\dG w w'/\R v w'.heap
def HC.mono {P:Program} {f:FuncId} {args:Array Value} {h:Hp} {R R':Value->Hp->Prop} (hc:HC P f args h R) (m:∀ v h',R v h'->R' v h') :
  HC P f args h R':=fun w a=>(hc w a).mono fun e w' ⟨v,h1,h2,b⟩=>⟨v,h1,h2,m _ _ b⟩
def Bz (P:Program) (K:Value->Hp->Prop):Next->Hp->Prop
 | .value v,h=>K v h
 | .skip,h=>K undef h
 | .enter f args,h=>HC P f args h K
 | _,_=>False
def T0 (P:Program) (o:Oper) (ev:Operand->Value) (h:Hp) (K:Value->Hp->Prop):Prop:=aI P (execOp ev o) h (Bz P K)
variable {I:Act}
def w5 {o:Oper} {w:World} {K:Value->Hp->Prop} {next:Act->World->Prop} {Q:Exit->Act->World->Prop}
  (hk:T0 H o I.eval w.heap K) (hn:∀ v w',dG w w'->K v w'.heap->next (I.put o.dst v) w'):o.wp H I w next Q:=by
 obtain ⟨n,w',h1,h2,b⟩:=ov _ w _ hk;unfold Oper.wp;rw [h1];cases n <;> simp only [Bz] at b
 case value v=>exact hn v w' h2 b
 case skip=>exact hn undef w' h2 b
 case enter f args =>
  exact (b w' rfl).mono fun e c ⟨v,d,g,h⟩=>by subst d; exact hn v c (h2.trans g) h
def cW (P:Program) (c:Code) (Q:Exit->Act->Hp->Prop) (a:Act) (h:Hp):Prop :=
 ∀ b w:World,dG b w->w.heap=h->c.wp P (fun e a' w'=>dG b w'/\Q e a' w'.heap) a w
variable {U Y:Code} {O:Exit->Act->Hp->Prop}
def rq {b:Exit->Act->Hp->Prop} {h:Hp} (m:∀ e I h,O e I h->b e I h) (hc:cW H U O I h):cW H U b I h :=
 fun d w f g=>Code.wp_mono (fun _ _ _ ⟨h1,h2⟩=>⟨h1,m _ _ _ h2⟩) (hc d w f g)
def HN {h:Hp} (b:O .normal I h):cW H .skip O I h:=fun e w c d=>wp_skip ⟨c,d▸b⟩
variable {V:Nat}
def DP {h:Hp} (b:O .normal I h):cW H (.label V) O I h:=fun e w c d=>wp_label ⟨c,d▸b⟩
def HO {h:Hp} (b:O (.exit V) I h):cW H (.exit V) O I h:=fun e w c d=>wp_exit ⟨c,d▸b⟩
def Hi {h:Hp} (b:O (.goto V) I h):cW H (.goto V) O I h:=fun e w c d=>wp_goto ⟨c,d▸b⟩
def Mp {h:Hp} (b:O .ret I h):cW H .ret O I h:=fun e w c d=>wp_ret ⟨c,d▸b⟩
def Ng (next:Act->Hp->Prop) (Q:Exit->Act->Hp->Prop):Exit->Act->Hp->Prop
 | .normal,a,h=>next a h
 | e,a,h=>Q e a h
def BY {h:Hp} (c:cW H U (Ng (cW H Y O) O) I h):cW H (.seq U Y) O I h :=
 fun b w d f=>wp_seq (Code.wp_mono (fun e a' w' ⟨h1,h2⟩=>by
  cases e <;> first | exact h2 b w' h1 rfl | exact ⟨h1,h2⟩) (c b w d f))
def Cw {c:Operand} {b:Bool} {h:Hp} (hc:I.eval c=.bool b)
  (i:b=true->cW H U O I h) (j:b=false->cW H Y O I h):cW H (.cond c U Y) O I h :=
 fun d w f g=>wp_cond_split hc (fun e=>i e d w f g) (fun e=>j e d w f g)
def lm (id:Nat) (Q:Exit->Act->Hp->Prop):Exit->Act->Hp->Prop
 | .exit b,a,h=>if b=id then Q .normal a h else Q (.exit b) a h
 | e,a,h=>Q e a h
def Ej {id:Nat} {h:Hp} (hc:cW H U (lm id O) I h):cW H (.block id U) O I h :=
 fun b w d f=>wp_block (Code.wp_mono (fun e a' w' ⟨h1,h2⟩=>by
  cases e <;> first
   | (simp only [Exit.inBlock,lm] at h2 ⊢; split <;> rename_i g <;> simp only [g,if_true,if_false] at h2 <;> exact ⟨h1,h2⟩)
   | exact ⟨h1,h2⟩) (hc b w d f))
def Hv {Q : Exit -> Act -> Hp -> Prop} {h : Hp} (b : Nat -> Act -> Hp -> Prop) (h0 : ∃ n, b n I h)
    (round : ∀ n I h, b n I h -> cW H U (Ng (fun a' h' => ∃ m, m < n /\ b m a' h') Q) I h) : cW H (.loop U) Q I h := by
  intro k w q u
  have r : ∀ n I w, dG k w -> b n I w.heap -> (Code.loop U).wp H (fun e a' w' => dG k w' /\ Q e a' w'.heap) I w := by
    intro n I w q x
    have := wp_loop (P := H) (c := U) (a := I) (w := w) (Q := fun e a' w' => dG k w' /\ Q e a' w'.heap)
      (fun I w => ∃ n, dG k w /\ b n I w.heap)
      (fun I w => by
        classical
        exact if p : ∃ n, b n I w.heap then Classical.choose (show ∃ n, b n I w.heap /\ ∀ m, b m I w.heap -> n <= m from by
          obtain ⟨n, hn⟩ := p
          induction n using Nat.strongRecOn with
          | _ n l =>
            by_cases i : ∃ m, m < n /\ b m I w.heap
            · obtain ⟨m, d, f⟩ := i; exact l m d f
            · exact ⟨n, hn, fun m d => Nat.le_of_not_lt fun g => i ⟨m, g, d⟩⟩) else 0)
      ⟨n, q, x⟩
      (by
        rintro I w ⟨y, s, t⟩;have p : ∃ n, b n I w.heap := ⟨y, t⟩
        have hspec := Classical.choose_spec (show ∃ n, b n I w.heap /\ ∀ m, b m I w.heap -> n <= m from by
          obtain ⟨n, hn⟩ := p
          induction n using Nat.strongRecOn with
          | _ n l =>
            by_cases i : ∃ m, m < n /\ b m I w.heap
            · obtain ⟨m, d, f⟩ := i; exact l m d f
            · exact ⟨n, hn, fun m d => Nat.le_of_not_lt fun g => i ⟨m, g, d⟩⟩)
        rw [dif_pos p];refine Code.wp_mono ?_ (round _ I w.heap hspec.1 k w s rfl);intro e a' w' ⟨h1, h2⟩
        cases e <;> first
          | exact ⟨h1, h2⟩
          | (obtain ⟨m, d, j⟩ := h2
             refine ⟨⟨m, h1, j⟩, ?_⟩;have o : ∃ n, b n a' w'.heap := ⟨m, j⟩
             rw [dif_pos o];refine Nat.lt_of_le_of_lt ?_ d;exact (Classical.choose_spec (show ∃ n, b n a' w'.heap /\ ∀ m, b m a' w'.heap -> n <= m from by
              obtain ⟨n, hn⟩ := o
              induction n using Nat.strongRecOn with
              | _ n l =>
                by_cases i : ∃ m, m < n /\ b m a' w'.heap
                · obtain ⟨m, d, f⟩ := i; exact l m d f
                · exact ⟨n, hn, fun m d => Nat.le_of_not_lt fun g => i ⟨m, g, d⟩⟩)).2 m j))
    exact this
  obtain ⟨n, hn⟩ := h0;exact r n I w q (u ▸ hn)
abbrev vI (n:Int):Value:=.int .i64 n
abbrev yI (t:TypeId):List TypeDesc:=[.int .i64,.string,.int .i64,.int .i64,.int .i64,.int .i32,.int .i64,.slice t,.int .u32,.int .i64]
abbrev yL (t:TypeId):List TypeDesc:=[.slice t,.int .u32]
abbrev yU (t u:TypeId):List TypeDesc:=[.slice t,.slice t,.slice u,.slice 9]
def nA {α:Type} (l:List α):[]++l=l:=rfl
def cA {α:Type} (a:α) (k l:List α):(a::k)++l=a::(k++l):=rfl
end Go.Sx
