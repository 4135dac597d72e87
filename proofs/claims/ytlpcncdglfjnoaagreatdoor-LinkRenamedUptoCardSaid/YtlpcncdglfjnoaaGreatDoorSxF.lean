/- Part of the framework. No condition. -/
import Derived.Test.YtlpcncdglfjnoaaGreatDoorProg
import Derived.Test.YtlpcncdglfjnoaaGreatDoorSxR
set_option linter.all false
set_option maxHeartbeats 4000000
namespace Go.Sx
noncomputable abbrev YC:=Go.Proofs.Tryz.prog
def ro {α:Type}:Sem α->Prop
 | .pure _=>True
 | .load _ _ k=>∀ v,ro (k v)
 | .shape _ k=>∀ v,ro (k v)
 | .frozen _ k=>∀ v,ro (k v)
 | .getObj _ k=>∀ v,ro (k v)
 | .program k=>∀ v,ro (k v)
 | .mark _ k=>ro k
 | .halt _=>True
 | _=>False
def GJ {P:Program} {α:Type} (s:Sem α):ro s->∀ (w:World) a w',s.run P w=.ok a w'->w'=w:=by
 induction s with
 | pure a=>intro _ w b w' h; simp only [Sem.run,Result.ok.injEq] at h; exact h.2.symm
 | load m a k e =>
  intro d w b w' h;simp only [Sem.run] at h;cases hc:w.cell? a with
  | some v=>rw [hc] at h; exact e v (d v) w b w' h
  | none =>
   rw [hc] at h;simp only at h;split at h
   ·rename_i v l _; exact e v (d v) w b w' h
   ·cases h
 | shape r k e=>intro d w b w' h; exact e _ (d _) w b w' h
 | frozen a k e=>intro d w b w' h; exact e _ (d _) w b w' h
 | getObj r k e =>
  intro d w b w' h;simp only [Sem.run] at h;split at h
  ·cases h
  ·rename_i o _ _; exact e o (d o) w b w' h
  ·cases h
 | program k e=>intro d w b w' h; exact e _ (d _) w b w' h
 | mark m k e=>intro d w b w' h; exact e d w b w' h
 | halt x=>intro _ w b w' h; simp [Sem.run] at h
 | store m a v k e=>intro d; exact d.elim
 | new o k e=>intro d; exact d.elim
 | freeze a n k e=>intro d; exact d.elim
 | setObj r o k e=>intro d; exact d.elim
 | choose q k e=>intro d; exact d.elim
 | sys c k e=>intro d; exact d.elim
def gk {α β:Type} (s:Sem α) (f:α->Sem β) (d:ro s) (e:∀ a,ro (f a)):ro (s >>= f):=by
 show ro (s.bind f)
 induction s with
 | pure a=>exact e a
 | load m a k b=>exact fun v=>b v (d v)
 | shape r k b=>exact fun v=>b v (d v)
 | frozen a k b=>exact fun v=>b v (d v)
 | getObj r k b=>exact fun v=>b v (d v)
 | program k b=>exact fun v=>b v (d v)
 | mark m k b=>exact b d
 | halt x=>trivial
 | store m a v k b=>exact d.elim
 | new o k b=>exact d.elim
 | freeze a n k b=>exact d.elim
 | setObj r o k b=>exact d.elim
 | choose q k b=>exact d.elim
 | sys c k b=>exact d.elim
def AB (t:TypeId):ro (underlying t):=by
 unfold underlying;refine gk _ _ (fun P=>trivial) fun P=>?_
 split <;> exact trivial
def Ec (t:TypeId):ro (typeInfo t):=by
 unfold typeInfo;refine gk _ _ (fun P=>trivial) fun P=>?_
 split <;> exact trivial
def Ji (t:TypeId):ro (sizeOf t):=gk _ _ (Ec t) fun _=>trivial
theorem mW (a:YA):∀ (n i:Nat) (b:Array XB),ro (loadCellsFrom a i n b)
 | 0,i,b=>trivial
 | n+1,i,b=>gk _ _ (fun v=>trivial) fun v=>mW a n (i+1) (b.push v)
def GI (t:TypeId) (a:YA):ro (loadVar t a):=by
 unfold loadVar;refine gk _ _ ?_ fun b=>?_
 ·unfold isAgg;refine gk _ _ (AB t) fun d=>?_
  cases d <;> exact trivial
 ·cases b
  ·exact fun v=>trivial
  ·exact gk _ _ (Ji t) fun n=>gk _ _ (mW a n 0 #[]) fun _=>trivial
section res
variable {P:Program}
def qH (tmps:Array XB):ResultVar->Sem XB
 | .tmp t=>pure (tmps.getD t undef)
 | .cell a t=>do loadVar t (<- asAddr (tmps.getD a undef))
def GS (fn:Func) (tmps:Array XB):results fn tmps=(do let a <- fn.results.mapM (qH tmps); pure (if h:a.size=1 then a[0] else .tuple a)):=by
 unfold results
 congr 1
def Qy (P:Program) (h:Hp) (tmps:Array XB):List ResultVar->List XB->Prop
 | [],[]=>True
 | r::a,v::b=>(ro (qH tmps r)/\∀ R:XB->Hp->Prop,R v h->aI P (qH tmps r) h R)/\Qy P h tmps a b
 | _,_=>False
theorem Bi (tmps:Array XB) {h:Hp}:∀ (a:List ResultVar) (b:List XB) (R:List XB->Hp->Prop),R b h->Qy P h tmps a b ->
  aI P (a.mapM (qH tmps)) h R/\ro (a.mapM (qH tmps))
 | [],[],R,hk,_=>⟨hk,trivial⟩
 | r::a,v::b,R,hk,c=>by
  rw [List.mapM_cons];obtain ⟨d,e⟩:=Bi tmps a b (fun b h=>R (v::b) h) hk c.2;refine ⟨?_,gk _ _ c.1.1 fun v=>gk _ _ e fun _=>trivial⟩;rw [al];refine c.1.2 _ ?_;show aI P (a.mapM (qH tmps) >>= _) h R;rw [al];exact d
 | [],v::b,R,_,c=>c.elim
 | r::a,[],R,_,c=>c.elim
theorem rG {n:Nd} {a:Act} {e:Env} (g:gd n e a) {L:Lp} {K:XB->Hp->Prop} {h:Hp}:∀ {d:List ResultVar} {k:List XB->T},wF P d e k L K h ->
  ∃ f,k f L K h/\Qy P h a.tmps d f
 | [],k,c=>⟨[],c,trivial⟩
 | .tmp t::d,k,c=>by
  obtain ⟨v,hv,c⟩:=bn c;obtain ⟨f,hk,m⟩:=rG g c;refine ⟨v::f,hk,⟨trivial,fun R o=>?_⟩,m⟩
  have:=g.get t v hv
  show R (a.tmps.getD t undef) h;rw [this]; exact o
 | .cell q t::d,k,c=>by
  obtain ⟨v,hv,c⟩:=bn c;have hq:=g.get q v hv;cases j:cB P t with
  | none=>cases v <;> simp only [j] at c <;> exact c.elim
  | some b =>
   obtain ⟨pp,rfl⟩:∃ pp,v=.pointer pp:=by
    cases v <;> cases b <;> simp only [j] at c <;> first | exact c.elim | exact ⟨_,rfl⟩
   have r:(match b with
    | true=>(bif (eQ P 9 t).length==P.cellsOf t then T.bd pp fun a=>T.ae a (eQ P 9 t) (iV _ fun l=>(fun (_:YA) (_:List XB) (v:XB)=>wF P d e fun l'=>k (v::l')) a l (.agg l.toArray)) else T.fail)
    | false=>T.bd pp fun a=>T.ae a (cz P t).2 (iV _ fun l=>(fun (_:YA) (_:List XB) (v:XB)=>wF P d e fun l'=>k (v::l')) a l (l.headD undef))) L K h:=by
    cases b <;> simp only [j] at c <;> exact c
   obtain ⟨p,l,v,rfl,hc,hk,i⟩:=A8 (n:=n) (kk:=fun (_:YA) (_:List XB) (v:XB)=>wF P d e fun l'=>k (v::l')) j r;obtain ⟨f,hk,m⟩:=rG g hk;refine ⟨v::f,hk,⟨?_,fun R o=>?_⟩,m⟩
   ·show ro (asAddr (a.tmps.getD q undef) >>= fun x=>loadVar t x);rw [hq];exact GI t p
   ·show aI P (asAddr (a.tmps.getD q undef) >>= fun x=>loadVar t x) h R;rw [hq];exact i h R hc o
def qu {fn:Func} {tmps:Array XB} {h:Hp} {K:XB->Hp->Prop} {a:List XB}
  (b:Qy P h tmps fn.results.toList a) (hk:K (one a) h):aI P (results fn tmps) h K/\ro (results fn tmps):=by
 obtain ⟨h1,h2⟩:=Bi tmps fn.results.toList a (fun a h=>K (one a) h) hk b;have c:(fn.results.mapM (qH tmps))=(fn.results.toList.mapM (qH tmps) >>= fun l=>pure l.toArray):=by
  rw [Array.mapM_eq_mapM_toList,map_eq_pure_bind]
 rw [GS,c];refine ⟨?_,gk _ _ (gk _ _ h2 fun _=>trivial) fun _=>trivial⟩;rw [al,al];refine dH _ _ _ _ ?_ h1;intro a h hk;show K (if h:a.toArray.size=1 then a.toArray[0] else .tuple a.toArray) h;rcases a with _ | ⟨v,_ | ⟨u,l⟩⟩
 ·exact hk
 ·exact hk
 ·exact hk
theorem wo:∀ (l:List XB) (i s:Nat) (v:XB),cQ (tB i l) s=some v->i<=s/\l[s-i]?=some v
 | [],i,s,v,h=>by simp [tB,cQ] at h
 | u::l,i,s,v,h=>by
  simp only [tB,du] at h
  by_cases hi:i=s
  ·subst hi; simp at h; subst h; simp
  ·rw [Vu hi] at h;obtain ⟨h1,h2⟩:=wo l (i+1) s v h;refine ⟨ad,?_⟩
   have:s-i=(s-(i+1))+1:=ad
   rw [this]; simpa using h2
def Qh {f:FuncId} {fn:Func} {j:List Nat} {args:List XB} {K:XB->Hp->Prop} {h:Hp} (u:P.follows .mixedOrders=true) (y:P.funcs[f]?=some fn) (hl:Nat.ble args.length fn.ntmps=true)
  (k:bQ P j fn args [] K h):HC P f args.toArray h K:=by
 unfold bQ at k;cases m:fn.body with
 | none=>simp only [m] at k; exact k.elim
 | some c =>
  simp only [m] at k;have z:args.length<=fn.ntmps:=VX hl;have g:gd ⟨fn.ntmps,[]⟩ (tB 0 args) { tmps:=args.toArray++Array.replicate (fn.ntmps-args.toArray.size) undef,defers:=[] }:=by
   refine ⟨by simp; omega,rfl,fun s v hv=>?_⟩;obtain ⟨_,h2⟩:=wo args 0 s v hv;have n:s<args.length:=by
    rcases Wo s args.length with h | h
    ·exact h
    ·simp only [Nat.sub_zero] at h2; rw [V5 h] at h2; cases h2
   simp only [Nat.sub_zero] at h2;simp [Array.getD_eq_getD_getElem?,Array.getElem?_append,n];rw [VC n] at h2;exact VP h2
  intro w A;have o:cW P c (fun x a h=>(x=.normal\/x=.ret)/\a.defers=[]/\∃ d,Qy P h a.tmps fn.results.toList d/\K (one d) h) { tmps:=args.toArray++Array.replicate (fn.ntmps-args.toArray.size) undef,defers:=[] } h:=by
   refine Kw (UL u) 100000 c (tB 0 args) _ [] K _ _ h ?_ k g;intro x e a h C D i l fr;cases x <;> simp only at i <;> first | exact i.elim | skip
   ·obtain ⟨d,hk,b⟩:=rG l i;exact ⟨.inl rfl,l.defers,d,b,hk⟩
   ·obtain ⟨d,hk,b⟩:=rG l i;exact ⟨.inr rfl,l.defers,d,b,hk⟩
  refine calls_of_wp y m (Code.wp_mono ?_ (o w w (dG.refl w) A));rintro x a w' ⟨h1,i,r,d,b,hk⟩;obtain ⟨h2,B⟩:=qu b hk;obtain ⟨v,p,q,n,t⟩:=ov _ w' _ h2
  have:=GJ _ B w' v p q
  subst this;rcases i with rfl | rfl
  ·exact ⟨r,v,q,v,rfl,h1,t⟩
  ·exact ⟨r,v,q,v,rfl,h1,t⟩
end res
open Go.Proofs in
abbrev aT (n : Int) (l : Nat) (p : XC) (k : YA -> T) : T := T.need (((0 : Int) <= n) /\ (n < (l : Int))) (T.bd p k)
open Go.Proofs in
abbrev bo (n : Int) : XB := .int .i64 (IntKind.wrap .i64 (n + (1 : Int)))
open Go.Proofs in
abbrev bC (a : Int) (b : Nat) (t u : T) : T := cond (decide (a < (b : Int))) t u
open Go.Proofs in
abbrev ay (n : Int) (k : Nat) : Nat := Int.toNat n * k
open Go.Proofs in
abbrev aP (f : FuncId) (l : List XB) (k : Bool -> T) : T := T.call Tryz.prog f l false [(false, [.bool])] k
open Go.Proofs in
abbrev dh (f : FuncId) (l : List XB) (k : Int -> T) : T := T.call Tryz.prog f l false [(false, [.int .i64])] k
open Go.Proofs in
abbrev nU (f : FuncId) (l : List XB) (k : XA -> T) : T := T.call Tryz.prog f l false [(false, [.string])] k
open Go.Proofs in
abbrev bq := @T.call Tryz.prog
open Go.Proofs in
abbrev eh (s : Sem XB) (k : Bool -> T) : T := T.eK Tryz.prog s false [(false, [.bool])] k
open Go.Proofs in
abbrev aR (s : Sem XB) (k : XC -> Nat -> Nat -> T) : T := T.eK Tryz.prog s false [(false, [.slice 0])] k
open Go.Proofs in
abbrev bR := @T.eK Tryz.prog
open Go.Proofs in
abbrev bf := IntKind.wrap .i64
open Go.Proofs in
abbrev eH (n : Int) (l : Nat) : Prop := ((0 : Int) <= n) /\ (n < (l : Int))
open Go.Proofs in
abbrev lV (k : Int) (l : Nat) : Prop := ((0 : Int) <= k) /\ (k < (l : Int))
open Go.Proofs in
abbrev ar (n : Int) : XB := .int .u32 n
open Go.Proofs in
abbrev bI (l : Array XB) : T := T.ret (.tuple l)
open Go.Proofs in
abbrev Ju (n : BitVec 8) : UInt8 := { toBitVec := n }
open Go.Proofs in
abbrev bz : T := T.ret (.bool false)
open Go.Proofs in
abbrev dI : T := T.ret (.bool true)
open Go.Proofs in
abbrev aM : XB := .slice none 0 0
open Go.Proofs in
abbrev ct : XB := .string ⟨#[]⟩
open Go.Proofs in
abbrev aK : ef := (false, [.int .i64])
open Go.Proofs in
abbrev cj : ef := (false, [.bool])
open Go.Proofs in
abbrev eb : ef := (false, [.slice 0])
end Go.Sx
