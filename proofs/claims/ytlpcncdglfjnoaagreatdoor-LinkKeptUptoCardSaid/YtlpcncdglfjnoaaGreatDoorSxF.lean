/- Part of the framework. No condition. -/
import Derived.Test.YtlpcncdglfjnoaaGreatDoorProg
import Derived.Test.YtlpcncdglfjnoaaGreatDoorSxR
set_option linter.all false
set_option maxHeartbeats 4000000
namespace Go.Sx
noncomputable abbrev Xaz:=Go.Proofs.Tryz.prog
def ro {α:Type}:Sem α->Prop
 | .pure _=>True
 | .load _ _ k=>∀ v,ro (k v)
 | .shape _ k=>∀ v,ro (k v)
 | .frozen _ k=>∀ v,ro (k v)
 | .getObj _ k=>∀ v,ro (k v)
 | .program k=>∀ v,ro (k v)
 | .mark _ k=>ro k
 | .halt _=>True
 | _=>False
def IV {P:Program} {α:Type} (s:Sem α):ro s->∀ (w:World) a w',s.run P w=.ok a w'->w'=w:=by
 induction s with
 | pure a=>intro _ w b w' h; simp only [Sem.run,Result.ok.injEq] at h; exact h.2.symm
 | load m a k e =>
  intro d w b w' h;simp only [Sem.run] at h;cases hc:w.cell? a with
  | some v=>rw [hc] at h; exact e v (d v) w b w' h
  | none =>
   rw [hc] at h;simp only at h;split at h
   ·rename_i v l _; exact e v (d v) w b w' h
   ·cases h
 | shape r k e=>intro d w b w' h; exact e _ (d _) w b w' h
 | frozen a k e=>intro d w b w' h; exact e _ (d _) w b w' h
 | getObj r k e =>
  intro d w b w' h;simp only [Sem.run] at h;split at h
  ·cases h
  ·rename_i o _ _; exact e o (d o) w b w' h
  ·cases h
 | program k e=>intro d w b w' h; exact e _ (d _) w b w' h
 | mark m k e=>intro d w b w' h; exact e d w b w' h
 | halt x=>intro _ w b w' h; simp [Sem.run] at h
 | store m a v k e=>intro d; exact d.elim
 | new o k e=>intro d; exact d.elim
 | freeze a n k e=>intro d; exact d.elim
 | setObj r o k e=>intro d; exact d.elim
 | choose q k e=>intro d; exact d.elim
 | sys c k e=>intro d; exact d.elim
def iI {α β:Type} (s:Sem α) (f:α->Sem β) (d:ro s) (e:∀ a,ro (f a)):ro (s >>= f):=by
 show ro (s.bind f)
 induction s with
 | pure a=>exact e a
 | load m a k b=>exact fun v=>b v (d v)
 | shape r k b=>exact fun v=>b v (d v)
 | frozen a k b=>exact fun v=>b v (d v)
 | getObj r k b=>exact fun v=>b v (d v)
 | program k b=>exact fun v=>b v (d v)
 | mark m k b=>exact b d
 | halt x=>trivial
 | store m a v k b=>exact d.elim
 | new o k b=>exact d.elim
 | freeze a n k b=>exact d.elim
 | setObj r o k b=>exact d.elim
 | choose q k b=>exact d.elim
 | sys c k b=>exact d.elim
def Cv (t:TypeId):ro (underlying t):=by
 unfold underlying;refine iI _ _ (fun P=>trivial) fun P=>?_
 split <;> exact trivial
def Gv (t:TypeId):ro (typeInfo t):=by
 unfold typeInfo;refine iI _ _ (fun P=>trivial) fun P=>?_
 split <;> exact trivial
def L4 (t:TypeId):ro (sizeOf t):=iI _ _ (Gv t) fun _=>trivial
theorem pa (a:Xax):∀ (n i:Nat) (b:Array Xab),ro (loadCellsFrom a i n b)
 | 0,i,b=>trivial
 | n+1,i,b=>iI _ _ (fun v=>trivial) fun v=>pa a n (i+1) (b.push v)
def IU (t:TypeId) (a:Xax):ro (loadVar t a):=by
 unfold loadVar;refine iI _ _ ?_ fun b=>?_
 ·unfold isAgg;refine iI _ _ (Cv t) fun d=>?_
  cases d <;> exact trivial
 ·cases b
  ·exact fun v=>trivial
  ·exact iI _ _ (L4 t) fun n=>iI _ _ (pa a n 0 #[]) fun _=>trivial
section res
variable {P:Program}
def tq (tmps:Array Xab):ResultVar->Sem Xab
 | .tmp t=>pure (tmps.getD t undef)
 | .cell a t=>do loadVar t (<- asAddr (tmps.getD a undef))
def I8 (fn:Func) (tmps:Array Xab):results fn tmps=(do let a <- fn.results.mapM (tq tmps); pure (if h:a.size=1 then a[0] else .tuple a)):=by
 unfold results
 congr 1
def Uh (P:Program) (h:Hp) (tmps:Array Xab):List ResultVar->List Xab->Prop
 | [],[]=>True
 | r::a,v::b=>(ro (tq tmps r)/\∀ R:Xab->Hp->Prop,R v h->aZ P (tq tmps r) h R)/\Uh P h tmps a b
 | _,_=>False
theorem Dg (tmps:Array Xab) {h:Hp}:∀ (a:List ResultVar) (b:List Xab) (R:List Xab->Hp->Prop),R b h->Uh P h tmps a b ->
  aZ P (a.mapM (tq tmps)) h R/\ro (a.mapM (tq tmps))
 | [],[],R,hk,_=>⟨hk,trivial⟩
 | r::a,v::b,R,hk,c=>by
  rw [List.mapM_cons];obtain ⟨d,e⟩:=Dg tmps a b (fun b h=>R (v::b) h) hk c.2;refine ⟨?_,iI _ _ c.1.1 fun v=>iI _ _ e fun _=>trivial⟩;rw [an];refine c.1.2 _ ?_;show aZ P (a.mapM (tq tmps) >>= _) h R;rw [an];exact d
 | [],v::b,R,_,c=>c.elim
 | r::a,[],R,_,c=>c.elim
theorem ui {n:Nd} {a:Act} {e:Env} (g:iB n e a) {L:Lp} {K:Xab->Hp->Prop} {h:Hp}:∀ {d:List ResultVar} {k:List Xab->T},yi P d e k L K h ->
  ∃ f,k f L K h/\Uh P h a.tmps d f
 | [],k,c=>⟨[],c,trivial⟩
 | .tmp t::d,k,c=>by
  obtain ⟨v,hv,c⟩:=bJ c;obtain ⟨f,hk,m⟩:=ui g c;refine ⟨v::f,hk,⟨trivial,fun R o=>?_⟩,m⟩
  have:=g.get t v hv
  show R (a.tmps.getD t undef) h;rw [this]; exact o
 | .cell q t::d,k,c=>by
  obtain ⟨v,hv,c⟩:=bJ c;have hq:=g.get q v hv;cases j:cP P t with
  | none=>cases v <;> simp only [j] at c <;> exact c.elim
  | some b =>
   obtain ⟨pp,rfl⟩:∃ pp,v=.pointer pp:=by
    cases v <;> cases b <;> simp only [j] at c <;> first | exact c.elim | exact ⟨_,rfl⟩
   have r:(match b with
    | true=>(bif (fB P 9 t).length==P.cellsOf t then T.aR pp fun a=>T.af a (fB P 9 t) (jW _ fun l=>(fun (_:Xax) (_:List Xab) (v:Xab)=>yi P d e fun l'=>k (v::l')) a l (.agg l.toArray)) else T.fail)
    | false=>T.aR pp fun a=>T.af a (cM P t).2 (jW _ fun l=>(fun (_:Xax) (_:List Xab) (v:Xab)=>yi P d e fun l'=>k (v::l')) a l (l.headD undef))) L K h:=by
    cases b <;> simp only [j] at c <;> exact c
   obtain ⟨p,l,v,rfl,hc,hk,i⟩:=C3 (n:=n) (kk:=fun (_:Xax) (_:List Xab) (v:Xab)=>yi P d e fun l'=>k (v::l')) j r;obtain ⟨f,hk,m⟩:=ui g hk;refine ⟨v::f,hk,⟨?_,fun R o=>?_⟩,m⟩
   ·show ro (asAddr (a.tmps.getD q undef) >>= fun x=>loadVar t x);rw [hq];exact IU t p
   ·show aZ P (asAddr (a.tmps.getD q undef) >>= fun x=>loadVar t x) h R;rw [hq];exact i h R hc o
def sX {fn:Func} {tmps:Array Xab} {h:Hp} {K:Xab->Hp->Prop} {a:List Xab}
  (b:Uh P h tmps fn.results.toList a) (hk:K (one a) h):aZ P (results fn tmps) h K/\ro (results fn tmps):=by
 obtain ⟨h1,h2⟩:=Dg tmps fn.results.toList a (fun a h=>K (one a) h) hk b;have c:(fn.results.mapM (tq tmps))=(fn.results.toList.mapM (tq tmps) >>= fun l=>pure l.toArray):=by
  rw [Array.mapM_eq_mapM_toList,map_eq_pure_bind]
 rw [I8,c];refine ⟨?_,iI _ _ (iI _ _ h2 fun _=>trivial) fun _=>trivial⟩;rw [an,an];refine ek _ _ _ _ ?_ h1;intro a h hk;show K (if h:a.toArray.size=1 then a.toArray[0] else .tuple a.toArray) h;rcases a with _ | ⟨v,_ | ⟨u,l⟩⟩
 ·exact hk
 ·exact hk
 ·exact hk
theorem yc:∀ (l:List Xab) (i s:Nat) (v:Xab),dc (vV i l) s=some v->i<=s/\l[s-i]?=some v
 | [],i,s,v,h=>by simp [vV,dc] at h
 | u::l,i,s,v,h=>by
  simp only [vV,dP] at h
  by_cases hi:i=s
  ·subst hi; simp at h; subst h; simp
  ·rw [Y1 hi] at h;obtain ⟨h1,h2⟩:=yc l (i+1) s v h;refine ⟨ad,?_⟩
   have:s-i=(s-(i+1))+1:=ad
   rw [this]; simpa using h2
def T0 {f:FuncId} {fn:Func} {j:List Nat} {args:List Xab} {K:Xab->Hp->Prop} {h:Hp} (u:P.follows .mixedOrders=true) (y:P.funcs[f]?=some fn) (hl:Nat.ble args.length fn.ntmps=true)
  (k:bS P j fn args [] K h):HC P f args.toArray h K:=by
 unfold bS at k;cases m:fn.body with
 | none=>simp only [m] at k; exact k.elim
 | some c =>
  simp only [m] at k;have z:args.length<=fn.ntmps:=Zw hl;have g:iB ⟨fn.ntmps,[]⟩ (vV 0 args) { tmps:=args.toArray++Array.replicate (fn.ntmps-args.toArray.size) undef,defers:=[] }:=by
   refine ⟨by simp; omega,rfl,fun s v hv=>?_⟩;obtain ⟨_,h2⟩:=yc args 0 s v hv;have n:s<args.length:=by
    rcases ZP s args.length with h | h
    ·exact h
    ·simp only [Nat.sub_zero] at h2; rw [ZC h] at h2; cases h2
   simp only [Nat.sub_zero] at h2;simp [Array.getD_eq_getD_getElem?,Array.getElem?_append,n];rw [YZ n] at h2;exact Zl h2
  intro w A;have o:cW P c (fun x a h=>(x=.normal\/x=.ret)/\a.defers=[]/\∃ d,Uh P h a.tmps fn.results.toList d/\K (one d) h) { tmps:=args.toArray++Array.replicate (fn.ntmps-args.toArray.size) undef,defers:=[] } h:=by
   refine Nl (Yi u) 100000 c (vV 0 args) _ [] K _ _ h ?_ k g;intro x e a h C D i l fr;cases x <;> simp only at i <;> first | exact i.elim | skip
   ·obtain ⟨d,hk,b⟩:=ui l i;exact ⟨.inl rfl,l.defers,d,b,hk⟩
   ·obtain ⟨d,hk,b⟩:=ui l i;exact ⟨.inr rfl,l.defers,d,b,hk⟩
  refine calls_of_wp y m (Code.wp_mono ?_ (o w w (ec.refl w) A));rintro x a w' ⟨h1,i,r,d,b,hk⟩;obtain ⟨h2,B⟩:=sX b hk;obtain ⟨v,p,q,n,t⟩:=qy _ w' _ h2
  have:=IV _ B w' v p q
  subst this;rcases i with rfl | rfl
  ·exact ⟨r,v,q,v,rfl,h1,t⟩
  ·exact ⟨r,v,q,v,rfl,h1,t⟩
end res
open Go.Proofs in
abbrev aY (n : Int) (l : Nat) (p : Xac) (k : Xax -> T) : T := T.need (((0 : Int) <= n) /\ (n < (l : Int))) (T.aR p k)
open Go.Proofs in
abbrev bj (n : Int) : Xab := .int .i64 (IntKind.wrap .i64 (n + (1 : Int)))
open Go.Proofs in
abbrev bn (a : Int) (b : Nat) (t u : T) : T := cond (decide (a < (b : Int))) t u
open Go.Proofs in
abbrev ay (n : Int) (k : Nat) : Nat := Int.toNat n * k
open Go.Proofs in
abbrev bd (f : FuncId) (l : List Xab) (k : Bool -> T) : T := T.call Tryz.prog f l false [(false, [.bool])] k
open Go.Proofs in
abbrev dl (f : FuncId) (l : List Xab) (k : Int -> T) : T := T.call Tryz.prog f l false [(false, [.int .i64])] k
open Go.Proofs in
abbrev jE (f : FuncId) (l : List Xab) (k : Xaa -> T) : T := T.call Tryz.prog f l false [(false, [.string])] k
open Go.Proofs in
abbrev bz := @T.call Tryz.prog
open Go.Proofs in
abbrev ei (s : Sem Xab) (k : Bool -> T) : T := T.eN Tryz.prog s false [(false, [.bool])] k
open Go.Proofs in
abbrev aT (s : Sem Xab) (k : Xac -> Nat -> Nat -> T) : T := T.eN Tryz.prog s false [(false, [.slice 0])] k
open Go.Proofs in
abbrev bX := @T.eN Tryz.prog
open Go.Proofs in
abbrev bC := IntKind.wrap .i64
open Go.Proofs in
abbrev dF (n : Int) (l : Nat) : Prop := ((0 : Int) <= n) /\ (n < (l : Int))
open Go.Proofs in
abbrev iW (k : Int) (l : Nat) : Prop := ((0 : Int) <= k) /\ (k < (l : Int))
open Go.Proofs in
abbrev ax (n : Int) : Xab := .int .u32 n
open Go.Proofs in
abbrev bK (l : Array Xab) : T := T.ret (.tuple l)
open Go.Proofs in
abbrev YT (n : BitVec 8) : UInt8 := { toBitVec := n }
open Go.Proofs in
abbrev bH : T := T.ret (.bool false)
open Go.Proofs in
abbrev dZ : T := T.ret (.bool true)
open Go.Proofs in
abbrev aS : Xab := .slice none 0 0
open Go.Proofs in
abbrev cm : Xab := .string ⟨#[]⟩
open Go.Proofs in
abbrev aK : ey := (false, [.int .i64])
open Go.Proofs in
abbrev cr : ey := (false, [.bool])
open Go.Proofs in
abbrev dp : ey := (false, [.slice 0])
end Go.Sx
