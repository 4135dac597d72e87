/- Part of the framework. No condition. -/
import Derived.KernelRfl
import Derived.WalkKit
set_option linter.all false
set_option maxHeartbeats 4000000
def ae {p : Prop} (h : p := by omega) : p := h
def aj {p : Prop} (h : p := by simp) : p := h
def bO {p : Prop} (h : p := by decide) : p := h
def aB {p : Prop} (h : p := by kernel_rfl) : p := h
namespace Go.Sx
abbrev XA:=ByteArray
abbrev XB:=Value
abbrev XC:=Addr
def OE:type_of% @of_decide_eq_true:=@of_decide_eq_true
def OF:type_of% @of_decide_eq_false:=@of_decide_eq_false
def OG:type_of% @if_neg:=@if_neg
def OH:type_of% @if_pos:=@if_pos
def OI:type_of% @List.length_map:=@List.length_map
def OJ:type_of% @List.mem_singleton:=@List.mem_singleton
def OK:type_of% @decide_eq_true:=@decide_eq_true
def OL:type_of% @decide_eq_false:=@decide_eq_false
def OM:type_of% @List.drop_eq_getElem_cons:=@List.drop_eq_getElem_cons
def ON:type_of% @ne_of_beq_false:=@ne_of_beq_false
def OO:type_of% @List.getElem?_eq_getElem:=@List.getElem?_eq_getElem
def OP:type_of% @Nat.le_refl:=@Nat.le_refl
def OQ:type_of% @List.eq_nil_of_length_eq_zero:=@List.eq_nil_of_length_eq_zero
def OR:type_of% @List.length_drop:=@List.length_drop
def OS:type_of% @List.mem_append:=@List.mem_append
def OT:type_of% @List.take_succ_eq_append_getElem:=@List.take_succ_eq_append_getElem
def OU:type_of% @List.map_append:=@List.map_append
def OV:type_of% @List.getD_eq_getElem?_getD:=@List.getD_eq_getElem?_getD
def OW:type_of% @List.drop_eq_nil_of_le:=@List.drop_eq_nil_of_le
def OX:type_of% @List.length_append:=@List.length_append
def OY:type_of% @List.mem_cons_of_mem:=@List.mem_cons_of_mem
def OZ:type_of% @List.mem_cons:=@List.mem_cons
def O0:type_of% @List.length_take:=@List.length_take
def O1:type_of% @Option.some.inj:=@Option.some.inj
def O2:type_of% @List.getElem_mem:=@List.getElem_mem
def O3:type_of% @Bool.true_and:=@Bool.true_and
def O4:type_of% @List.getElem_map:=@List.getElem_map
def O5:type_of% @Array.toList_inj:=@Array.toList_inj
def O7:type_of% @congrArg:=@congrArg
def O8:type_of% @List.take_length:=@List.take_length
def O9:type_of% @List.all_eq_true:=@List.all_eq_true
def Pa:type_of% @List.mem_map:=@List.mem_map
def Pb:type_of% @Nat.le_trans:=@Nat.le_trans
def Pc:type_of% @List.suffix_cons:=@List.suffix_cons
def Pd:type_of% @beq_false_of_ne:=@beq_false_of_ne
def Pe:type_of% @List.mem_cons_self:=@List.mem_cons_self
def Pf:type_of% @List.getElem?_eq_none:=@List.getElem?_eq_none
def Pg:type_of% @List.length_cons:=@List.length_cons
def Ph:type_of% @List.map_map:=@List.map_map
def Pj:type_of% @List.mem_append_right:=@List.mem_append_right
def Pk:type_of% @List.length_eq_zero_iff:=@List.length_eq_zero_iff
def Pl:type_of% @List.mem_append_left:=@List.mem_append_left
def Pm:type_of% @Nat.pow_le_pow_right:=@Nat.pow_le_pow_right
def Pn:type_of% @Array.getElem?_eq_getElem:=@Array.getElem?_eq_getElem
def Po:type_of% @Nat.lt_or_ge:=@Nat.lt_or_ge
def Pp:type_of% @List.drop_of_length_le:=@List.drop_of_length_le
def Pq:type_of% @List.foldl_cons:=@List.foldl_cons
def Pr:type_of% @List.append_nil:=@List.append_nil
def Ps:type_of% @Nat.eq_of_beq_eq_true:=@Nat.eq_of_beq_eq_true
def Pt:type_of% @List.mem_filterMap:=@List.mem_filterMap
def Pu:type_of% @List.pairwise_cons:=@List.pairwise_cons
def Pv:type_of% @Array.getElem?_eq_none:=@Array.getElem?_eq_none
def Pw:type_of% @List.getElem?_map:=@List.getElem?_map
def Px:type_of% @List.append_assoc:=@List.append_assoc
def Py:type_of% @Bool.and_eq_true:=@Bool.and_eq_true
def Pz:type_of% @Bool.and_true:=@Bool.and_true
def PA:type_of% @List.getElem_of_mem:=@List.getElem_of_mem
def PC:type_of% @Array.getElem?_toList:=@Array.getElem?_toList
def PD:type_of% @Array.getElem?_modify:=@Array.getElem?_modify
def PE:type_of% @Nat.lt_of_lt_of_le:=@Nat.lt_of_lt_of_le
def PF:type_of% @List.suffix_refl:=@List.suffix_refl
def PG:type_of% @Option.isSome_iff_exists:=@Option.isSome_iff_exists
def PH:type_of% @Nat.mul_le_mul_right:=@Nat.mul_le_mul_right
def PI:type_of% @List.drop_eq_nil_iff:=@List.drop_eq_nil_iff
def PJ:type_of% @List.foldl_append:=@List.foldl_append
def PK:type_of% @List.ext_getElem?:=@List.ext_getElem?
def PL:type_of% @Array.getElem?_setIfInBounds:=@Array.getElem?_setIfInBounds
def PM:type_of% @UInt8.toNat_inj:=@UInt8.toNat_inj
def PN:type_of% @List.find?_cons:=@List.find?_cons
def PO:type_of% @List.mem_map_of_mem:=@List.mem_map_of_mem
def PP:type_of% @Nat.add_mul:=@Nat.add_mul
def PQ:type_of% @Nat.zero_add:=@Nat.zero_add
def PR:type_of% @if_false:=@if_false
def PS:type_of% @Array.getElem?_push_size:=@Array.getElem?_push_size
def PT:type_of% @List.takeWhile_cons:=@List.takeWhile_cons
def PU:type_of% @List.drop_length:=@List.drop_length
def PV:type_of% @List.drop_left:=@List.drop_left
def PW:type_of% @List.nil_append:=@List.nil_append
def PX:type_of% @Nat.min_eq_left:=@Nat.min_eq_left
def PY:type_of% @List.length_filter_le:=@List.length_filter_le
def PZ:type_of% @List.filterMap_append:=@List.filterMap_append
def P0:type_of% @ByteArray.size_append:=@ByteArray.size_append
def P1:type_of% @if_true:=@if_true
def P2:type_of% @List.drop_drop:=@List.drop_drop
def P3:type_of% @List.pairwise_append:=@List.pairwise_append
def P4:type_of% @Nat.add_zero:=@Nat.add_zero
def P5:type_of% @Array.all_toList:=@Array.all_toList
def P6:type_of% @List.map_cons:=@List.map_cons
def P7:type_of% @Bool.false_or:=@Bool.false_or
def P8:type_of% @List.length_set:=@List.length_set
def P9:type_of% @Nat.zero_le:=@Nat.zero_le
def Qa:type_of% @decide_true:=@decide_true
def Qb:type_of% @List.drop_zero:=@List.drop_zero
def Qc:type_of% @List.take_left:=@List.take_left
def Qd:type_of% @Bool.and_false:=@Bool.and_false
abbrev Hp:=Array Obj
def fC (h:Hp) (a:Addr):Option Value :=
 match h[a.block]? with
 | some (.cells c _ _)=>if a.spot.isSome then none else c[a.off]?
 | _=>none
def ua (h:Hp) (a:Addr):Bool :=
 match h[a.block]? with
 | some (.cells _ _ (lo,hi))=>lo<=a.off && a.off<hi
 | _=>false
def kl (h:Hp) (a:Addr) (v:Value):Hp :=
 h.modify a.block fun
  | .cells c elem frozen=>.cells (if a.spot.isSome then c else c.setIfInBounds a.off v) elem frozen
  | o=>o
def td (h:Hp) (r:Nat):Option (TypeId × Nat) :=
 match h[r]? with
 | some (.cells c elem _)=>some (elem,c.size)
 | _=>none
def gF (h:Hp) (a:Addr) (n:Nat):Hp :=
 if n=0 then h else
 h.modify a.block fun
  | .cells c elem (lo,hi)=>.cells c elem (if lo==hi then (a.off,a.off+n) else (min lo a.off,max hi (a.off+n)))
  | o=>o
def gT (w:World) (a:Addr):w.cell? a=fC w.heap a:=rfl
def BU (w:World) (a:Addr) (n:Nat):(w.freeze a n).heap=gF w.heap a n:=by
 unfold World.freeze gF; split <;> rfl
structure cY (w w':World):Prop where
 os:w'.os=w.os
 tape:w'.tape=w.tape
 output:w'.output=w.output
def cY.refl (w:World):cY w w:=⟨rfl,rfl,rfl⟩
def cY.trans {a b c:World} (h:cY a b) (k:cY b c):cY a c:=⟨k.os.trans h.os,k.tape.trans h.tape,k.output.trans h.output⟩
def cY.freeze {w w₀:World} (h:cY w₀ w) (a:Addr) (n:Nat):cY w₀ (w.freeze a n):=by
 unfold World.freeze; split
 ·exact h
 ·exact ⟨h.os,h.tape,h.output⟩
def fI:Value->Bool
 | .agg _=>false
 | .tuple _=>false
 | _=>true
def aV (P:Program) {α:Type}:Sem α->Hp->(α->Hp->Prop)->Prop
 | .pure a,h,K=>K a h
 | .load _ a k,h,K=>∃ v,fC h a=some v/\aV P (k v) h K
 | .store _ a v k,h,K=>fI v=true/\(∃ u,fC h a=some u)/\ua h a=false/\aV P k (kl h a v) K
 | .new o k,h,K=>aV P (k h.size) (h.push o) K
 | .shape r k,h,K=>aV P (k (td h r)) h K
 | .freeze a n k,h,K=>aV P k (gF h a n) K
 | .frozen a k,h,K=>aV P (k (ua h a)) h K
 | .getObj r k,h,K=>∃ o,h[r]?=some o/\(∀ c e f,o≠.cells c e f)/\aV P (k o) h K
 | .setObj r o k,h,K=>(∃ o',h[r]?=some o'/\∀ c e f,o'≠.cells c e f)/\aV P k (h.setIfInBounds r o) K
 | .choose q k,h,K=>if q.forced then aV P (k 0) h K else ∀ t,aV P (k (q.cut t)) h K
 | .sys _ _,_,_=>False
 | .program k,h,K=>aV P (k P) h K
 | .mark _ k,h,K=>aV P k h K
 | .halt _,_,_=>False
def xH {P:Program} {α:Type} (s:Sem α):∀ (w:World) (K:α->Hp->Prop),aV P s w.heap K ->
  ∃ a w',s.run P w=.ok a w'/\cY w w'/\K a w'.heap:=by
 induction s with
 | pure a=>intro w K h; exact ⟨a,w,rfl,cY.refl w,h⟩
 | load m a k ih =>
  intro w K h;obtain ⟨v,hv,hk⟩:=h
  have:w.cell? a=some v:=hv
  obtain ⟨x,w',h1,h2,h3⟩:=ih v w K hk;exact ⟨x,w',by simp only [Sem.run,this,h1],h2,h3⟩
 | store m a v k ih =>
  intro w K h;obtain ⟨hp,⟨u,hu⟩,hf,hk⟩:=h;have hu':w.cell? a=some u:=hu;have hf':w.frozen? a=false:=hf;obtain ⟨x,w',h1,h2,h3⟩:=ih (w.setCell a v) K hk;refine ⟨x,w',?_,⟨h2.os,h2.tape,h2.output⟩,h3⟩;cases v <;> first | (simp [fI] at hp; done) | (simp only [Sem.run,hu',hf']; exact h1)
 | new o k ih =>
  intro w K h;obtain ⟨x,w',h1,h2,h3⟩:=ih w.heap.size { w with heap:=w.heap.push o } K h;exact ⟨x,w',h1,⟨h2.os,h2.tape,h2.output⟩,h3⟩
 | shape r k ih=>intro w K h; exact ih _ w K h
 | freeze a n k ih =>
  intro w K h;obtain ⟨x,w',h1,h2,h3⟩:=ih (w.freeze a n) K (by rw [BU]; exact h);exact ⟨x,w',h1,cY.trans ((cY.refl w).freeze a n) h2,h3⟩
 | frozen a k ih=>intro w K h; exact ih _ w K h
 | getObj r k ih =>
  intro w K h;obtain ⟨o,ho,hne,hk⟩:=h;obtain ⟨x,w',h1,h2,h3⟩:=ih o w K hk;refine ⟨x,w',?_,h2,h3⟩;simp only [Sem.run,ho];cases o <;> first | exact (hne _ _ _ rfl).elim | exact h1
 | setObj r o k ih =>
  intro w K h;obtain ⟨⟨o',ho,hne⟩,hk⟩:=h;obtain ⟨x,w',h1,h2,h3⟩:=ih { w with heap:=w.heap.setIfInBounds r o } K hk;refine ⟨x,w',?_,⟨h2.os,h2.tape,h2.output⟩,h3⟩;simp only [Sem.run,ho];cases o' <;> first | exact (hne _ _ _ rfl).elim | exact h1
 | choose q k ih =>
  intro w K h;simp only [aV] at h
  by_cases hq:q.forced=true
  ·rw [if_pos hq] at h;obtain ⟨x,w',h1,h2,h3⟩:=ih 0 w K h;exact ⟨x,w',by simp only [Sem.run,if_pos hq]; exact h1,h2,h3⟩
  ·rw [if_neg hq] at h;obtain ⟨x,w',h1,h2,h3⟩:=ih (q.cut (w.tape w.drawn q)) { w with drawn:=w.drawn+1 } K (h _);exact ⟨x,w',by simp only [Sem.run,if_neg hq]; exact h1,⟨h2.os,h2.tape,h2.output⟩,h3⟩
 | sys c k ih=>intro w K h; exact h.elim
 | program k ih=>intro w K h; exact ih P w K h
 | mark m k ih=>intro w K h; exact ih w K h
 | halt x=>intro w K h; exact h.elim
def dP {P:Program} {α:Type} (s:Sem α):∀ (h:Hp) (K K':α->Hp->Prop),(∀ a h,K a h->K' a h)->aV P s h K->aV P s h K':=by
 induction s with
 | pure a=>intro h K K' m k; exact m _ _ k
 | load m a k ih=>intro h K K' mo ⟨v,hv,hk⟩; exact ⟨v,hv,ih v h K K' mo hk⟩
 | store m a v k ih=>intro h K K' mo ⟨h1,h2,h3,hk⟩; exact ⟨h1,h2,h3,ih _ K K' mo hk⟩
 | new o k ih=>intro h K K' mo hk; exact ih _ _ K K' mo hk
 | shape r k ih=>intro h K K' mo hk; exact ih _ _ K K' mo hk
 | freeze a n k ih=>intro h K K' mo hk; exact ih _ K K' mo hk
 | frozen a k ih=>intro h K K' mo hk; exact ih _ _ K K' mo hk
 | getObj r k ih=>intro h K K' mo ⟨o,h1,h2,hk⟩; exact ⟨o,h1,h2,ih _ _ K K' mo hk⟩
 | setObj r o k ih=>intro h K K' mo ⟨h1,hk⟩; exact ⟨h1,ih _ K K' mo hk⟩
 | choose q k ih =>
  intro h K K' mo hk;simp only [aV] at hk ⊢;split
  ·rename_i hq; rw [if_pos hq] at hk; exact ih _ _ K K' mo hk
  ·rename_i hq; rw [if_neg hq] at hk; exact fun t=>ih _ _ K K' mo (hk t)
 | sys c k ih=>intro h K K' mo hk; exact hk.elim
 | program k ih=>intro h K K' mo hk; exact ih _ _ K K' mo hk
 | mark m k ih=>intro h K K' mo hk; exact ih _ K K' mo hk
 | halt x=>intro h K K' mo hk; exact hk.elim
def F4 {P:Program} {α β:Type} (s:Sem α) (f:α->Sem β):∀ (h:Hp) (K:β->Hp->Prop),
  aV P (s.bind f) h K=aV P s h (fun a h'=>aV P (f a) h' K):=by
 induction s with
 | pure a=>intro h K; rfl
 | load m a k ih=>intro h K; simp only [Sem.bind,aV,ih]
 | store m a v k ih=>intro h K; simp only [Sem.bind,aV,ih]
 | new o k ih=>intro h K; simp only [Sem.bind,aV,ih]
 | shape r k ih=>intro h K; simp only [Sem.bind,aV,ih]
 | freeze a n k ih=>intro h K; simp only [Sem.bind,aV,ih]
 | frozen a k ih=>intro h K; simp only [Sem.bind,aV,ih]
 | getObj r k ih=>intro h K; simp only [Sem.bind,aV,ih]
 | setObj r o k ih=>intro h K; simp only [Sem.bind,aV,ih]
 | choose q k ih=>intro h K; simp only [Sem.bind,aV,ih]
 | sys c k ih=>intro h K; rfl
 | program k ih=>intro h K; simp only [Sem.bind,aV,ih]
 | mark m k ih=>intro h K; simp only [Sem.bind,aV,ih]
 | halt x=>intro h K; rfl
def aD {P:Program} {α β:Type} (s:Sem α) (f:α->Sem β) (h:Hp) (K:β->Hp->Prop) :
  aV P (s >>= f) h K=aV P s h (fun a h'=>aV P (f a) h' K):=F4 s f h K
def F' {P:Program} {α:Type} (a:α) (h:Hp) (K:α->Hp->Prop):aV P (pure a) h K=K a h:=rfl
def HC (P:Program) (f:FuncId) (args:Array Value) (h:Hp) (R:Value->Hp->Prop):Prop :=
 ∀ w:World,w.heap=h->Calls P f args w fun e w'=>∃ v,e=.returned v/\cY w w'/\R v w'.heap
def HC.mono {P:Program} {f:FuncId} {args:Array Value} {h:Hp} {R R':Value->Hp->Prop} (hc:HC P f args h R) (m:∀ v h',R v h'->R' v h') :
  HC P f args h R':=fun w hw=>(hc w hw).mono fun e w' ⟨v,h1,h2,h3⟩=>⟨v,h1,h2,m _ _ h3⟩
def As (P:Program) (K:Value->Hp->Prop):Next->Hp->Prop
 | .value v,h=>K v h
 | .skip,h=>K undef h
 | .enter f args,h=>HC P f args h K
 | _,_=>False
def No (P:Program) (o:Oper) (ev:Operand->Value) (h:Hp) (K:Value->Hp->Prop):Prop:=aV P (execOp ev o) h (As P K)
def vp {P:Program} {o:Oper} {a:Act} {w:World} {K:Value->Hp->Prop} {next:Act->World->Prop} {Q:Exit->Act->World->Prop}
  (hk:No P o a.eval w.heap K) (hn:∀ v w',cY w w'->K v w'.heap->next (a.put o.dst v) w'):o.wp P a w next Q:=by
 obtain ⟨n,w',h1,h2,h3⟩:=xH _ w _ hk;unfold Oper.wp;rw [h1];cases n <;> simp only [As] at h3
 case value v=>exact hn v w' h2 h3
 case skip=>exact hn undef w' h2 h3
 case enter f args =>
  exact (h3 w' rfl).mono fun e w'' ⟨v,he,hs,hr⟩=>by subst he; exact hn v w'' (h2.trans hs) hr
def cW (P:Program) (c:Code) (Q:Exit->Act->Hp->Prop) (a:Act) (h:Hp):Prop :=
 ∀ w0 w:World,cY w0 w->w.heap=h->c.wp P (fun e a' w'=>cY w0 w'/\Q e a' w'.heap) a w
def tZ {P:Program} {c:Code} {Q Q':Exit->Act->Hp->Prop} {a:Act} {h:Hp} (m:∀ e a h,Q e a h->Q' e a h) (hc:cW P c Q a h):cW P c Q' a h :=
 fun w0 w hs hw=>Code.wp_mono (fun _ _ _ ⟨h1,h2⟩=>⟨h1,m _ _ _ h2⟩) (hc w0 w hs hw)
def Ka {P:Program} {Q:Exit->Act->Hp->Prop} {a:Act} {h:Hp} (hq:Q .normal a h):cW P .skip Q a h:=fun w0 w hs hw=>wp_skip ⟨hs,hw▸hq⟩
def Hy {P:Program} {Q:Exit->Act->Hp->Prop} {a:Act} {h:Hp} {l:Nat} (hq:Q .normal a h):cW P (.label l) Q a h:=fun w0 w hs hw=>wp_label ⟨hs,hw▸hq⟩
def Kc {P:Program} {Q:Exit->Act->Hp->Prop} {a:Act} {h:Hp} {i:Nat} (hq:Q (.exit i) a h):cW P (.exit i) Q a h:=fun w0 w hs hw=>wp_exit ⟨hs,hw▸hq⟩
def Jw {P:Program} {Q:Exit->Act->Hp->Prop} {a:Act} {h:Hp} {i:Nat} (hq:Q (.goto i) a h):cW P (.goto i) Q a h:=fun w0 w hs hw=>wp_goto ⟨hs,hw▸hq⟩
def LH {P:Program} {Q:Exit->Act->Hp->Prop} {a:Act} {h:Hp} (hq:Q .ret a h):cW P .ret Q a h:=fun w0 w hs hw=>wp_ret ⟨hs,hw▸hq⟩
def Lb (next:Act->Hp->Prop) (Q:Exit->Act->Hp->Prop):Exit->Act->Hp->Prop
 | .normal,a,h=>next a h
 | e,a,h=>Q e a h
def Dx {P:Program} {x y:Code} {Q:Exit->Act->Hp->Prop} {a:Act} {h:Hp} (hx:cW P x (Lb (cW P y Q) Q) a h):cW P (.seq x y) Q a h :=
 fun w0 w hs hw=>wp_seq (Code.wp_mono (fun e a' w' ⟨h1,h2⟩=>by
  cases e <;> first | exact h2 w0 w' h1 rfl | exact ⟨h1,h2⟩) (hx w0 w hs hw))
def J3 {P:Program} {c:Operand} {x y:Code} {b:Bool} {Q:Exit->Act->Hp->Prop} {a:Act} {h:Hp} (hc:a.eval c=.bool b)
  (ht:b=true->cW P x Q a h) (hf:b=false->cW P y Q a h):cW P (.cond c x y) Q a h :=
 fun w0 w hs hw=>wp_cond_split hc (fun e=>ht e w0 w hs hw) (fun e=>hf e w0 w hs hw)
def uy (id:Nat) (Q:Exit->Act->Hp->Prop):Exit->Act->Hp->Prop
 | .exit id',a,h=>if id'=id then Q .normal a h else Q (.exit id') a h
 | e,a,h=>Q e a h
def Ie {P:Program} {id:Nat} {c:Code} {Q:Exit->Act->Hp->Prop} {a:Act} {h:Hp} (hc:cW P c (uy id Q) a h):cW P (.block id c) Q a h :=
 fun w0 w hs hw=>wp_block (Code.wp_mono (fun e a' w' ⟨h1,h2⟩=>by
  cases e <;> first
   | (simp only [Exit.inBlock,uy] at h2 ⊢; split <;> rename_i hh <;> simp only [hh,if_true,if_false] at h2 <;> exact ⟨h1,h2⟩)
   | exact ⟨h1,h2⟩) (hc w0 w hs hw))
def JH {P : Program} {c : Code} {Q : Exit -> Act -> Hp -> Prop} {a : Act} {h : Hp} (I : Nat -> Act -> Hp -> Prop) (h0 : ∃ n, I n a h)
    (round : ∀ n a h, I n a h -> cW P c (Lb (fun a' h' => ∃ m, m < n /\ I m a' h') Q) a h) : cW P (.loop c) Q a h := by
  intro w0 w hs hw
  have key : ∀ n a w, cY w0 w -> I n a w.heap -> (Code.loop c).wp P (fun e a' w' => cY w0 w' /\ Q e a' w'.heap) a w := by
    intro n a w hs hI
    have := wp_loop (P := P) (c := c) (a := a) (w := w) (Q := fun e a' w' => cY w0 w' /\ Q e a' w'.heap)
      (fun a w => ∃ n, cY w0 w /\ I n a w.heap)
      (fun a w => by
        classical
        exact if hx : ∃ n, I n a w.heap then Classical.choose (show ∃ n, I n a w.heap /\ ∀ m, I m a w.heap -> n <= m from by
          obtain ⟨n, hn⟩ := hx
          induction n using Nat.strongRecOn with
          | _ n ih =>
            by_cases hh : ∃ m, m < n /\ I m a w.heap
            · obtain ⟨m, hm, hm2⟩ := hh; exact ih m hm hm2
            · exact ⟨n, hn, fun m hm => Nat.le_of_not_lt fun hlt => hh ⟨m, hlt, hm⟩⟩) else 0)
      ⟨n, hs, hI⟩
      (by
        rintro a w ⟨n0, hs1, hI1⟩;have hx : ∃ n, I n a w.heap := ⟨n0, hI1⟩
        have hspec := Classical.choose_spec (show ∃ n, I n a w.heap /\ ∀ m, I m a w.heap -> n <= m from by
          obtain ⟨n, hn⟩ := hx
          induction n using Nat.strongRecOn with
          | _ n ih =>
            by_cases hh : ∃ m, m < n /\ I m a w.heap
            · obtain ⟨m, hm, hm2⟩ := hh; exact ih m hm hm2
            · exact ⟨n, hn, fun m hm => Nat.le_of_not_lt fun hlt => hh ⟨m, hlt, hm⟩⟩)
        rw [dif_pos hx];refine Code.wp_mono ?_ (round _ a w.heap hspec.1 w0 w hs1 rfl);intro e a' w' ⟨h1, h2⟩
        cases e <;> first
          | exact ⟨h1, h2⟩
          | (obtain ⟨m, hm, hIm⟩ := h2
             refine ⟨⟨m, h1, hIm⟩, ?_⟩;have hx' : ∃ n, I n a' w'.heap := ⟨m, hIm⟩
             rw [dif_pos hx'];refine Nat.lt_of_le_of_lt ?_ hm;exact (Classical.choose_spec (show ∃ n, I n a' w'.heap /\ ∀ m, I m a' w'.heap -> n <= m from by
              obtain ⟨n, hn⟩ := hx'
              induction n using Nat.strongRecOn with
              | _ n ih =>
                by_cases hh : ∃ m, m < n /\ I m a' w'.heap
                · obtain ⟨m, hm, hm2⟩ := hh; exact ih m hm hm2
                · exact ⟨n, hn, fun m hm => Nat.le_of_not_lt fun hlt => hh ⟨m, hlt, hm⟩⟩)).2 m hIm))
    exact this
  obtain ⟨n, hn⟩ := h0;exact key n a w hs (hw ▸ hn)
abbrev vI (n:Int):Value:=.int .i64 n
abbrev yI (t:TypeId):List TypeDesc:=[.int .i64,.string,.int .i64,.int .i64,.int .i64,.int .i32,.int .i64,.slice t,.int .u32,.int .i64]
abbrev yL (t:TypeId):List TypeDesc:=[.slice t,.int .u32]
abbrev yU (t u:TypeId):List TypeDesc:=[.slice t,.slice t,.slice u,.slice 9]
def nA {α:Type} (l:List α):[]++l=l:=rfl
def cA {α:Type} (a:α) (k l:List α):(a::k)++l=a::(k++l):=rfl
end Go.Sx
