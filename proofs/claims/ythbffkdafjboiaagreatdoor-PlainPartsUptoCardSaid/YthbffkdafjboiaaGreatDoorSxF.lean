/- Part of the framework. No condition. -/
import Derived.Test.YthbffkdafjboiaaGreatDoorProg
import Derived.Test.YthbffkdafjboiaaGreatDoorSxR
set_option linter.all false
set_option maxHeartbeats 4000000
namespace Go.Sx
def ro {α:Type}:Sem α->Prop
 | .pure _=>True
 | .load _ _ k=>∀ v,ro (k v)
 | .shape _ k=>∀ v,ro (k v)
 | .frozen _ k=>∀ v,ro (k v)
 | .getObj _ k=>∀ v,ro (k v)
 | .program k=>∀ v,ro (k v)
 | .mark _ k=>ro k
 | .halt _=>True
 | _=>False
def G0 {P:Program} {α:Type} (s:Sem α):ro s->∀ (w:World) a w',s.run P w=.ok a w'->w'=w:=by
 induction s with
 | pure a=>intro _ w b w' h; simp only [Sem.run,Result.ok.injEq] at h; exact h.2.symm
 | load m a k ih =>
  intro hr w b w' h;simp only [Sem.run] at h;cases hc:w.cell? a with
  | some v=>rw [hc] at h; exact ih v (hr v) w b w' h
  | none =>
   rw [hc] at h;simp only at h;split at h
   ·rename_i v l _; exact ih v (hr v) w b w' h
   ·cases h
 | shape r k ih=>intro hr w b w' h; exact ih _ (hr _) w b w' h
 | frozen a k ih=>intro hr w b w' h; exact ih _ (hr _) w b w' h
 | getObj r k ih =>
  intro hr w b w' h;simp only [Sem.run] at h;split at h
  ·cases h
  ·rename_i o _ _; exact ih o (hr o) w b w' h
  ·cases h
 | program k ih=>intro hr w b w' h; exact ih _ (hr _) w b w' h
 | mark m k ih=>intro hr w b w' h; exact ih hr w b w' h
 | halt x=>intro _ w b w' h; simp [Sem.run] at h
 | store m a v k ih=>intro hr; exact hr.elim
 | new o k ih=>intro hr; exact hr.elim
 | freeze a n k ih=>intro hr; exact hr.elim
 | setObj r o k ih=>intro hr; exact hr.elim
 | choose q k ih=>intro hr; exact hr.elim
 | sys c k ih=>intro hr; exact hr.elim
def gJ {α β:Type} (s:Sem α) (f:α->Sem β) (hs:ro s) (hf:∀ a,ro (f a)):ro (s >>= f):=by
 show ro (s.bind f)
 induction s with
 | pure a=>exact hf a
 | load m a k ih=>exact fun v=>ih v (hs v)
 | shape r k ih=>exact fun v=>ih v (hs v)
 | frozen a k ih=>exact fun v=>ih v (hs v)
 | getObj r k ih=>exact fun v=>ih v (hs v)
 | program k ih=>exact fun v=>ih v (hs v)
 | mark m k ih=>exact ih hs
 | halt x=>trivial
 | store m a v k ih=>exact hs.elim
 | new o k ih=>exact hs.elim
 | freeze a n k ih=>exact hs.elim
 | setObj r o k ih=>exact hs.elim
 | choose q k ih=>exact hs.elim
 | sys c k ih=>exact hs.elim
def AM (t:TypeId):ro (underlying t):=by
 unfold underlying;refine gJ _ _ (fun P=>trivial) fun P=>?_
 split <;> exact trivial
def Ey (t:TypeId):ro (typeInfo t):=by
 unfold typeInfo;refine gJ _ _ (fun P=>trivial) fun P=>?_
 split <;> exact trivial
def JS (t:TypeId):ro (sizeOf t):=gJ _ _ (Ey t) fun _=>trivial
theorem nt (a:Zx):∀ (n i:Nat) (acc:Array ZB),ro (loadCellsFrom a i n acc)
 | 0,i,acc=>trivial
 | n+1,i,acc=>gJ _ _ (fun v=>trivial) fun v=>nt a n (i+1) (acc.push v)
def GZ (t:TypeId) (a:Zx):ro (loadVar t a):=by
 unfold loadVar;refine gJ _ _ ?_ fun b=>?_
 ·unfold isAgg;refine gJ _ _ (AM t) fun d=>?_
  cases d <;> exact trivial
 ·cases b
  ·exact fun v=>trivial
  ·exact gJ _ _ (JS t) fun n=>gJ _ _ (nt a n 0 #[]) fun _=>trivial
section res
variable {P:Program}
def qU (tmps:Array ZB):ResultVar->Sem ZB
 | .tmp t=>pure (tmps.getD t undef)
 | .cell a t=>do loadVar t (<- asAddr (tmps.getD a undef))
def G8 (fn:Func) (tmps:Array ZB):results fn tmps=(do let vs <- fn.results.mapM (qU tmps); pure (if h:vs.size=1 then vs[0] else .tuple vs)):=by
 unfold results
 congr 1
def RV (P:Program) (h:Hp) (tmps:Array ZB):List ResultVar->List ZB->Prop
 | [],[]=>True
 | r::rs,v::vs=>(ro (qU tmps r)/\∀ R:ZB->Hp->Prop,R v h->aS P (qU tmps r) h R)/\RV P h tmps rs vs
 | _,_=>False
theorem Bx (tmps:Array ZB) {h:Hp}:∀ (rs:List ResultVar) (vs:List ZB) (R:List ZB->Hp->Prop),R vs h->RV P h tmps rs vs ->
  aS P (rs.mapM (qU tmps)) h R/\ro (rs.mapM (qU tmps))
 | [],[],R,hk,_=>⟨hk,trivial⟩
 | r::rs,v::vs,R,hk,hf=>by
  rw [List.mapM_cons];obtain ⟨h3,h4⟩:=Bx tmps rs vs (fun vs h=>R (v::vs) h) hk hf.2;refine ⟨?_,gJ _ _ hf.1.1 fun v=>gJ _ _ h4 fun _=>trivial⟩;rw [ar];refine hf.1.2 _ ?_;show aS P (rs.mapM (qU tmps) >>= _) h R;rw [ar];exact h3
 | [],v::vs,R,_,hf=>hf.elim
 | r::rs,[],R,_,hf=>hf.elim
theorem rT {n:Nd} {a:Act} {e:Env} (g:gu n e a) {L:Lp} {K:ZB->Hp->Prop} {h:Hp}:∀ {rs:List ResultVar} {k:List ZB->T},wm P rs e k L K h ->
  ∃ vs,k vs L K h/\RV P h a.tmps rs vs
 | [],k,ht=>⟨[],ht,trivial⟩
 | .tmp t::rs,k,ht=>by
  obtain ⟨v,hv,ht⟩:=bz ht;obtain ⟨vs,hk,hf⟩:=rT g ht;refine ⟨v::vs,hk,⟨trivial,fun R hR=>?_⟩,hf⟩
  have:=g.get t v hv
  show R (a.tmps.getD t undef) h;rw [this]; exact hR
 | .cell q t::rs,k,ht=>by
  obtain ⟨v,hv,ht⟩:=bz ht;have hq:=g.get q v hv;cases hb:cB P t with
  | none=>cases v <;> simp only [hb] at ht <;> exact ht.elim
  | some b =>
   obtain ⟨pp,rfl⟩:∃ pp,v=.pointer pp:=by
    cases v <;> cases b <;> simp only [hb] at ht <;> first | exact ht.elim | exact ⟨_,rfl⟩
   have ht':(match b with
    | true=>(bif (eU P 9 t).length==P.cellsOf t then T.bF pp fun a=>T.ah a (eU P 9 t) (jj _ fun l=>(fun (_:Zx) (_:List ZB) (v:ZB)=>wm P rs e fun l'=>k (v::l')) a l (.agg l.toArray)) else T.fail)
    | false=>T.bF pp fun a=>T.ah a (cz P t).2 (jj _ fun l=>(fun (_:Zx) (_:List ZB) (v:ZB)=>wm P rs e fun l'=>k (v::l')) a l (l.headD undef))) L K h:=by
    cases b <;> simp only [hb] at ht <;> exact ht
   obtain ⟨p,l,v,rfl,hc,hk,hall⟩:=Bi (n:=n) (kk:=fun (_:Zx) (_:List ZB) (v:ZB)=>wm P rs e fun l'=>k (v::l')) hb ht';obtain ⟨vs,hk,hf⟩:=rT g hk;refine ⟨v::vs,hk,⟨?_,fun R hR=>?_⟩,hf⟩
   ·show ro (asAddr (a.tmps.getD q undef) >>= fun x=>loadVar t x);rw [hq];exact GZ t p
   ·show aS P (asAddr (a.tmps.getD q undef) >>= fun x=>loadVar t x) h R;rw [hq];exact hall h R hc hR
def qI {fn:Func} {tmps:Array ZB} {h:Hp} {K:ZB->Hp->Prop} {vs:List ZB}
  (hf:RV P h tmps fn.results.toList vs) (hk:K (one vs) h):aS P (results fn tmps) h K/\ro (results fn tmps):=by
 obtain ⟨h1,h2⟩:=Bx tmps fn.results.toList vs (fun vs h=>K (one vs) h) hk hf;have e1:(fn.results.mapM (qU tmps))=(fn.results.toList.mapM (qU tmps) >>= fun l=>pure l.toArray):=by
  rw [Array.mapM_eq_mapM_toList,map_eq_pure_bind]
 rw [G8,e1];refine ⟨?_,gJ _ _ (gJ _ _ h2 fun _=>trivial) fun _=>trivial⟩;rw [ar,ar];refine dK _ _ _ _ ?_ h1;intro vs h hk;show K (if h:vs.toArray.size=1 then vs.toArray[0] else .tuple vs.toArray) h;rcases vs with _ | ⟨v,_ | ⟨u,l⟩⟩
 ·exact hk
 ·exact hk
 ·exact hk
theorem vZ:∀ (l:List ZB) (i s:Nat) (v:ZB),cM (tI i l) s=some v->i<=s/\l[s-i]?=some v
 | [],i,s,v,h=>by simp [tI,cM] at h
 | u::l,i,s,v,h=>by
  simp only [tI,du] at h
  by_cases hi:i=s
  ·subst hi; simp at h; subst h; simp
  ·rw [W6 hi] at h;obtain ⟨h1,h2⟩:=vZ l (i+1) s v h;refine ⟨ad,?_⟩
   have:s-i=(s-(i+1))+1:=ad
   rw [this]; simpa using h2
def Rz {f:FuncId} {fn:Func} {cuts:List Nat} {args:List ZB} {K:ZB->Hp->Prop} {h:Hp} (hm:P.follows .mixedOrders=true) (hf:P.funcs[f]?=some fn) (hl:Nat.ble args.length fn.ntmps=true)
  (ht:bQ P cuts fn args [] K h):HC P f args.toArray h K:=by
 unfold bQ at ht;cases hb:fn.body with
 | none=>simp only [hb] at ht; exact ht.elim
 | some c =>
  simp only [hb] at ht;have hl':args.length<=fn.ntmps:=Xx hl;have g:gu ⟨fn.ntmps,[]⟩ (tI 0 args) { tmps:=args.toArray++Array.replicate (fn.ntmps-args.toArray.size) undef,defers:=[] }:=by
   refine ⟨by simp; omega,rfl,fun s v hv=>?_⟩;obtain ⟨_,h2⟩:=vZ args 0 s v hv;have hs:s<args.length:=by
    rcases XR s args.length with h | h
    ·exact h
    ·simp only [Nat.sub_zero] at h2; rw [XI h] at h2; cases h2
   simp only [Nat.sub_zero] at h2;simp [Array.getD_eq_getD_getElem?,Array.getElem?_append,hs];rw [W5 hs] at h2;exact Xo h2
  intro w hw;have hcw:cW P c (fun x a h=>(x=.normal\/x=.ret)/\a.defers=[]/\∃ vs,RV P h a.tmps fn.results.toList vs/\K (one vs) h) { tmps:=args.toArray++Array.replicate (fn.ntmps-args.toArray.size) undef,defers:=[] } h:=by
   refine KZ (Wm hm) 100000 c (tI 0 args) _ [] K _ _ h ?_ ht g;intro x e a h L' hp hx g' fr;cases x <;> simp only at hx <;> first | exact hx.elim | skip
   ·obtain ⟨vs,hk,hres⟩:=rT g' hx;exact ⟨.inl rfl,g'.defers,vs,hres,hk⟩
   ·obtain ⟨vs,hk,hres⟩:=rT g' hx;exact ⟨.inr rfl,g'.defers,vs,hres,hk⟩
  refine calls_of_wp hf hb (Code.wp_mono ?_ (hcw w w (dG.refl w) hw));rintro x a w' ⟨h1,hx,hd,vs,hres,hk⟩;obtain ⟨h2,h3⟩:=qI hres hk;obtain ⟨v,w'',hr,hs,hR⟩:=oF _ w' _ h2
  have:=G0 _ h3 w' v w'' hr
  subst this;rcases hx with rfl | rfl
  ·exact ⟨hd,v,hr,v,rfl,h1,hR⟩
  ·exact ⟨hd,v,hr,v,rfl,h1,hR⟩
end res
open Go.Proofs in
abbrev bf (n : Int) (l : Nat) (p : ZC) (k : Zx -> T) : T := T.need (((0 : Int) <= n) /\ (n < (l : Int))) (T.bF p k)
open Go.Proofs in
abbrev bh (n : Int) : ZB := .int .i64 (IntKind.wrap .i64 (n + (1 : Int)))
open Go.Proofs in
abbrev bG (a : Int) (b : Nat) (t u : T) : T := cond (decide (a < (b : Int))) t u
open Go.Proofs in
abbrev aQ (n : Int) (k : Nat) : Nat := Int.toNat n * k
open Go.Proofs in
abbrev aT (f : FuncId) (l : List ZB) (k : Bool -> T) : T := T.call Tryz.prog f l false [(false, [.bool])] k
open Go.Proofs in
abbrev cD (f : FuncId) (l : List ZB) (k : Int -> T) : T := T.call Tryz.prog f l false [(false, [.int .i64])] k
open Go.Proofs in
abbrev gF (f : FuncId) (l : List ZB) (k : ZA -> T) : T := T.call Tryz.prog f l false [(false, [.string])] k
open Go.Proofs in
abbrev bK := @T.call Tryz.prog
open Go.Proofs in
abbrev dr (s : Sem ZB) (k : Bool -> T) : T := T.ek Tryz.prog s false [(false, [.bool])] k
open Go.Proofs in
abbrev bm (s : Sem ZB) (k : ZC -> Nat -> Nat -> T) : T := T.ek Tryz.prog s false [(false, [.slice 0])] k
open Go.Proofs in
abbrev bR := @T.ek Tryz.prog
open Go.Proofs in
abbrev bt := IntKind.wrap .i64
open Go.Proofs in
abbrev fo (n : Int) (l : Nat) : Prop := ((0 : Int) <= n) /\ (n < (l : Int))
open Go.Proofs in
abbrev iG (k : Int) (l : Nat) : Prop := ((0 : Int) <= k) /\ (k < (l : Int))
open Go.Proofs in
abbrev aH (n : Int) : ZB := .int .u32 n
open Go.Proofs in
abbrev br (l : Array ZB) : T := T.ret (.tuple l)
open Go.Proofs in
abbrev Tp (n : BitVec 8) : UInt8 := { toBitVec := n }
open Go.Proofs in
abbrev bC : T := T.ret (.bool false)
open Go.Proofs in
abbrev dL : T := T.ret (.bool true)
open Go.Proofs in
abbrev bi : ZB := .slice none 0 0
open Go.Proofs in
abbrev bT : ZB := .string ⟨#[]⟩
open Go.Proofs in
abbrev aR : fE := (false, [.int .i64])
open Go.Proofs in
abbrev cg : fE := (false, [.bool])
open Go.Proofs in
abbrev dh : fE := (false, [.slice 0])
end Go.Sx
