/- A framework of our own, part F: from a function's tree to its call. No condition. -/
import Derived.Test.YtlpcncdglfjnoaaGreatDoorProg
import Derived.Test.YtlpcncdglfjnoaaGreatDoorSxR
set_option linter.all false
set_option maxHeartbeats 4000000
namespace Go.Sx
def ro {α:Type}:Sem α->Prop
 | .pure _=>True
 | .load _ _ k=>∀ v,ro (k v)
 | .shape _ k=>∀ v,ro (k v)
 | .frozen _ k=>∀ v,ro (k v)
 | .getObj _ k=>∀ v,ro (k v)
 | .program k=>∀ v,ro (k v)
 | .mark _ k=>ro k
 | .halt _=>True
 | _=>False
theorem GP {P:Program} {α:Type} (s:Sem α):ro s->∀ (w:World) a w',s.run P w=.ok a w'->w'=w:=by
 induction s with
 | pure a=>intro _ w b w' h; simp only [Sem.run,Result.ok.injEq] at h; exact h.2.symm
 | load m a k ih =>
  intro hr w b w' h;simp only [Sem.run] at h;cases hc:w.cell? a with
  | some v=>rw [hc] at h; exact ih v (hr v) w b w' h
  | none =>
   rw [hc] at h;simp only at h;split at h
   ·rename_i v l _; exact ih v (hr v) w b w' h
   ·cases h
 | shape r k ih=>intro hr w b w' h; exact ih _ (hr _) w b w' h
 | frozen a k ih=>intro hr w b w' h; exact ih _ (hr _) w b w' h
 | getObj r k ih =>
  intro hr w b w' h;simp only [Sem.run] at h;split at h
  ·cases h
  ·rename_i o _ _; exact ih o (hr o) w b w' h
  ·cases h
 | program k ih=>intro hr w b w' h; exact ih _ (hr _) w b w' h
 | mark m k ih=>intro hr w b w' h; exact ih hr w b w' h
 | halt x=>intro _ w b w' h; simp [Sem.run] at h
 | store m a v k ih=>intro hr; exact hr.elim
 | new o k ih=>intro hr; exact hr.elim
 | freeze a n k ih=>intro hr; exact hr.elim
 | setObj r o k ih=>intro hr; exact hr.elim
 | choose q k ih=>intro hr; exact hr.elim
 | sys c k ih=>intro hr; exact hr.elim
theorem gk {α β:Type} (s:Sem α) (f:α->Sem β) (hs:ro s) (hf:∀ a,ro (f a)):ro (s >>= f):=by
 show ro (s.bind f)
 induction s with
 | pure a=>exact hf a
 | load m a k ih=>exact fun v=>ih v (hs v)
 | shape r k ih=>exact fun v=>ih v (hs v)
 | frozen a k ih=>exact fun v=>ih v (hs v)
 | getObj r k ih=>exact fun v=>ih v (hs v)
 | program k ih=>exact fun v=>ih v (hs v)
 | mark m k ih=>exact ih hs
 | halt x=>trivial
 | store m a v k ih=>exact hs.elim
 | new o k ih=>exact hs.elim
 | freeze a n k ih=>exact hs.elim
 | setObj r o k ih=>exact hs.elim
 | choose q k ih=>exact hs.elim
 | sys c k ih=>exact hs.elim
theorem Ay (t:TypeId):ro (underlying t):=by
 unfold underlying;refine gk _ _ (fun P=>trivial) fun P=>?_
 split <;> exact trivial
theorem Eg (t:TypeId):ro (typeInfo t):=by
 unfold typeInfo;refine gk _ _ (fun P=>trivial) fun P=>?_
 split <;> exact trivial
theorem J5 (t:TypeId):ro (sizeOf t):=gk _ _ (Eg t) fun _=>trivial
theorem nz (a:YC):∀ (n i:Nat) (acc:Array YB),ro (loadCellsFrom a i n acc)
 | 0,i,acc=>trivial
 | n+1,i,acc=>gk _ _ (fun v=>trivial) fun v=>nz a n (i+1) (acc.push v)
theorem Hc (t:TypeId) (a:YC):ro (loadVar t a):=by
 unfold loadVar;refine gk _ _ ?_ fun b=>?_
 ·unfold isAgg;refine gk _ _ (Ay t) fun d=>?_
  cases d <;> exact trivial
 ·cases b
  ·exact fun v=>trivial
  ·exact gk _ _ (J5 t) fun n=>gk _ _ (nz a n 0 #[]) fun _=>trivial
section res
variable {P:Program}
def qk (tmps:Array YB):ResultVar->Sem YB
 | .tmp t=>pure (tmps.getD t undef)
 | .cell a t=>do loadVar t (<- asAddr (tmps.getD a undef))
theorem GF (fn:Func) (tmps:Array YB):results fn tmps=(do let vs <- fn.results.mapM (qk tmps); pure (if h:vs.size=1 then vs[0] else .tuple vs)):=by
 unfold results
 congr 1
def Ry (P:Program) (h:Hp) (tmps:Array YB):List ResultVar->List YB->Prop
 | [],[]=>True
 | r::rs,v::vs=>(ro (qk tmps r)/\∀ R:YB->Hp->Prop,R v h->aP P (qk tmps r) h R)/\Ry P h tmps rs vs
 | _,_=>False
theorem Bi (tmps:Array YB) {h:Hp}:∀ (rs:List ResultVar) (vs:List YB) (R:List YB->Hp->Prop),R vs h->Ry P h tmps rs vs ->
  aP P (rs.mapM (qk tmps)) h R/\ro (rs.mapM (qk tmps))
 | [],[],R,hk,_=>⟨hk,trivial⟩
 | r::rs,v::vs,R,hk,hf=>by
  rw [List.mapM_cons];obtain ⟨h3,h4⟩:=Bi tmps rs vs (fun vs h=>R (v::vs) h) hk hf.2;refine ⟨?_,gk _ _ hf.1.1 fun v=>gk _ _ h4 fun _=>trivial⟩;rw [ar];refine hf.1.2 _ ?_;show aP P (rs.mapM (qk tmps) >>= _) h R;rw [ar];exact h3
 | [],v::vs,R,_,hf=>hf.elim
 | r::rs,[],R,_,hf=>hf.elim
theorem rL {n:Nd} {a:Act} {e:Env} (g:gb n e a) {L:Lp} {K:YB->Hp->Prop} {h:Hp}:∀ {rs:List ResultVar} {k:List YB->T},vH P rs e k L K h ->
  ∃ vs,k vs L K h/\Ry P h a.tmps rs vs
 | [],k,ht=>⟨[],ht,trivial⟩
 | .tmp t::rs,k,ht=>by
  obtain ⟨v,hv,ht⟩:=br ht;obtain ⟨vs,hk,hf⟩:=rL g ht;refine ⟨v::vs,hk,⟨trivial,fun R hR=>?_⟩,hf⟩
  have:=g.get t v hv
  show R (a.tmps.getD t undef) h;rw [this]; exact hR
 | .cell q t::rs,k,ht=>by
  obtain ⟨v,hv,ht⟩:=br ht;have hq:=g.get q v hv;cases hb:cw P t with
  | none=>cases v <;> simp only [hb] at ht <;> exact ht.elim
  | some b =>
   obtain ⟨pp,rfl⟩:∃ pp,v=.pointer pp:=by
    cases v <;> cases b <;> simp only [hb] at ht <;> first | exact ht.elim | exact ⟨_,rfl⟩
   have ht':(match b with
    | true=>(bif (eO P 9 t).length==P.cellsOf t then T.bd pp fun a=>T.ah a (eO P 9 t) (jh _ fun l=>(fun (_:YC) (_:List YB) (v:YB)=>vH P rs e fun l'=>k (v::l')) a l (.agg l.toArray)) else T.fail)
    | false=>T.bd pp fun a=>T.ah a (cy P t).2 (jh _ fun l=>(fun (_:YC) (_:List YB) (v:YB)=>vH P rs e fun l'=>k (v::l')) a l (l.headD undef))) L K h:=by
    cases b <;> simp only [hb] at ht <;> exact ht
   obtain ⟨p,l,v,rfl,hc,hk,hall⟩:=BN (n:=n) (kk:=fun (_:YC) (_:List YB) (v:YB)=>vH P rs e fun l'=>k (v::l')) hb ht';obtain ⟨vs,hk,hf⟩:=rL g hk;refine ⟨v::vs,hk,⟨?_,fun R hR=>?_⟩,hf⟩
   ·show ro (asAddr (a.tmps.getD q undef) >>= fun x=>loadVar t x);rw [hq];exact Hc t p
   ·show aP P (asAddr (a.tmps.getD q undef) >>= fun x=>loadVar t x) h R;rw [hq];exact hall h R hc hR
theorem qN {fn:Func} {tmps:Array YB} {h:Hp} {K:YB->Hp->Prop} {vs:List YB}
  (hf:Ry P h tmps fn.results.toList vs) (hk:K (one vs) h):aP P (results fn tmps) h K/\ro (results fn tmps):=by
 obtain ⟨h1,h2⟩:=Bi tmps fn.results.toList vs (fun vs h=>K (one vs) h) hk hf;have e1:(fn.results.mapM (qk tmps))=(fn.results.toList.mapM (qk tmps) >>= fun l=>pure l.toArray):=by
  rw [Array.mapM_eq_mapM_toList,map_eq_pure_bind]
 rw [GF,e1];refine ⟨?_,gk _ _ (gk _ _ h2 fun _=>trivial) fun _=>trivial⟩;rw [ar,ar];refine dE _ _ _ _ ?_ h1;intro vs h hk;show K (if h:vs.toArray.size=1 then vs.toArray[0] else .tuple vs.toArray) h;rcases vs with _ | ⟨v,_ | ⟨u,l⟩⟩
 ·exact hk
 ·exact hk
 ·exact hk
theorem wB:∀ (l:List YB) (i s:Nat) (v:YB),cJ (tj i l) s=some v->i<=s/\l[s-i]?=some v
 | [],i,s,v,h=>by simp [tj,cJ] at h
 | u::l,i,s,v,h=>by
  simp only [tj,dl] at h
  by_cases hi:i=s
  ·subst hi; simp at h; subst h; simp
  ·rw [Ww hi] at h;obtain ⟨h1,h2⟩:=wB l (i+1) s v h;refine ⟨ad,?_⟩
   have:s-i=(s-(i+1))+1:=ad
   rw [this]; simpa using h2
theorem Rs {f:FuncId} {fn:Func} {cuts:List Nat} {args:List YB} {K:YB->Hp->Prop} {h:Hp} (hm:P.follows .mixedOrders=true) (hf:P.funcs[f]?=some fn) (hl:Nat.ble args.length fn.ntmps=true)
  (ht:bI P cuts fn args [] K h):HC P f args.toArray h K:=by
 unfold bI at ht;cases hb:fn.body with
 | none=>simp only [hb] at ht; exact ht.elim
 | some c =>
  simp only [hb] at ht;have hl':args.length<=fn.ntmps:=WW hl;have g:gb ⟨fn.ntmps,[]⟩ (tj 0 args) { tmps:=args.toArray++Array.replicate (fn.ntmps-args.toArray.size) undef,defers:=[] }:=by
   refine ⟨by simp; omega,rfl,fun s v hv=>?_⟩;obtain ⟨_,h2⟩:=wB args 0 s v hv;have hs:s<args.length:=by
    rcases Xg s args.length with h | h
    ·exact h
    ·simp only [Nat.sub_zero] at h2; rw [W2 h] at h2; cases h2
   simp only [Nat.sub_zero] at h2;simp [Array.getD_eq_getD_getElem?,Array.getElem?_append,hs];rw [Wu hs] at h2;exact WQ h2
  intro w hw;have hcw:cW P c (fun x a h=>(x=.normal\/x=.ret)/\a.defers=[]/\∃ vs,Ry P h a.tmps fn.results.toList vs/\K (one vs) h) { tmps:=args.toArray++Array.replicate (fn.ntmps-args.toArray.size) undef,defers:=[] } h:=by
   refine Lf (VO hm) 100000 c (tj 0 args) _ [] K _ _ h ?_ ht g;intro x e a h L' hp hx g' fr;cases x <;> simp only at hx <;> first | exact hx.elim | skip
   ·obtain ⟨vs,hk,hres⟩:=rL g' hx;exact ⟨.inl rfl,g'.defers,vs,hres,hk⟩
   ·obtain ⟨vs,hk,hres⟩:=rL g' hx;exact ⟨.inr rfl,g'.defers,vs,hres,hk⟩
  refine calls_of_wp hf hb (Code.wp_mono ?_ (hcw w w (dz.refl w) hw));rintro x a w' ⟨h1,hx,hd,vs,hres,hk⟩;obtain ⟨h2,h3⟩:=qN hres hk;obtain ⟨v,w'',hr,hs,hR⟩:=oW _ w' _ h2
  have:=GP _ h3 w' v w'' hr
  subst this;rcases hx with rfl | rfl
  ·exact ⟨hd,v,hr,v,rfl,h1,hR⟩
  ·exact ⟨hd,v,hr,v,rfl,h1,hR⟩
end res
open Go.Proofs in
abbrev aX (n : Int) (l : Nat) (p : Option YC) (k : YC -> T) : T := T.need (((0 : Int) <= n) /\ (n < (l : Int))) (T.bd p k)
open Go.Proofs in
abbrev bh (n : Int) : YB := .int .i64 (IntKind.wrap .i64 (n + (1 : Int)))
open Go.Proofs in
abbrev bm (a : Int) (b : Nat) (t u : T) : T := cond (decide (a < (b : Int))) t u
open Go.Proofs in
abbrev aH (n : Int) (k : Nat) : Nat := Int.toNat n * k
open Go.Proofs in
abbrev aU (f : FuncId) (l : List YB) (k : Bool -> T) : T := T.call Tryz.prog f l false [(false, [.bool])] k
open Go.Proofs in
abbrev cn (f : FuncId) (l : List YB) (k : Int -> T) : T := T.call Tryz.prog f l false [(false, [.int .i64])] k
open Go.Proofs in
abbrev iA (f : FuncId) (l : List YB) (k : YA -> T) : T := T.call Tryz.prog f l false [(false, [.string])] k
open Go.Proofs in
abbrev bF := @T.call Tryz.prog
open Go.Proofs in
abbrev dT (s : Sem YB) (k : Bool -> T) : T := T.dW Tryz.prog s false [(false, [.bool])] k
open Go.Proofs in
abbrev bk (s : Sem YB) (k : Option YC -> Nat -> Nat -> T) : T := T.dW Tryz.prog s false [(false, [.slice 0])] k
open Go.Proofs in
abbrev bK := @T.dW Tryz.prog
open Go.Proofs in
abbrev bj := IntKind.wrap .i64
open Go.Proofs in
abbrev bo : T := T.ret (.bool false)
open Go.Proofs in
abbrev dI : T := T.ret (.bool true)
open Go.Proofs in
abbrev bi : YB := .slice none 0 0
open Go.Proofs in
abbrev bU : YB := .string ⟨#[]⟩
open Go.Proofs in
abbrev aM : fx := (false, [.int .i64])
open Go.Proofs in
abbrev bT : fx := (false, [.bool])
open Go.Proofs in
abbrev da : fx := (false, [.slice 0])
end Go.Sx
