/- Part of the framework. No condition. -/
import Derived.Test.YthbffkdafjboiaaGreatDoorProg
import Derived.Test.YthbffkdafjboiaaGreatDoorSxR
set_option linter.all false
set_option maxHeartbeats 4000000
namespace Go.Sx
def ro {α:Type}:Sem α->Prop
 | .pure _=>True
 | .load _ _ k=>∀ v,ro (k v)
 | .shape _ k=>∀ v,ro (k v)
 | .frozen _ k=>∀ v,ro (k v)
 | .getObj _ k=>∀ v,ro (k v)
 | .program k=>∀ v,ro (k v)
 | .mark _ k=>ro k
 | .halt _=>True
 | _=>False
def HB {P:Program} {α:Type} (s:Sem α):ro s->∀ (w:World) a w',s.run P w=.ok a w'->w'=w:=by
 induction s with
 | pure a=>intro _ w b w' h; simp only [Sem.run,Result.ok.injEq] at h; exact h.2.symm
 | load m a k u =>
  intro j w b w' h;simp only [Sem.run] at h;cases hc:w.cell? a with
  | some v=>rw [hc] at h; exact u v (j v) w b w' h
  | none =>
   rw [hc] at h;simp only at h;split at h
   ·rename_i v l _; exact u v (j v) w b w' h
   ·cases h
 | shape r k u=>intro j w b w' h; exact u _ (j _) w b w' h
 | frozen a k u=>intro j w b w' h; exact u _ (j _) w b w' h
 | getObj r k u =>
  intro j w b w' h;simp only [Sem.run] at h;split at h
  ·cases h
  ·rename_i o _ _; exact u o (j o) w b w' h
  ·cases h
 | program k u=>intro j w b w' h; exact u _ (j _) w b w' h
 | mark m k u=>intro j w b w' h; exact u j w b w' h
 | halt x=>intro _ w b w' h; simp [Sem.run] at h
 | store m a v k u=>intro j; exact j.elim
 | new o k u=>intro j; exact j.elim
 | freeze a n k u=>intro j; exact j.elim
 | setObj r o k u=>intro j; exact j.elim
 | choose q k u=>intro j; exact j.elim
 | sys c k u=>intro j; exact j.elim
def gV {α β:Type} (s:Sem α) (f:α->Sem β) (hs:ro s) (u:∀ a,ro (f a)):ro (s >>= f):=by
 show ro (s.bind f)
 induction s with
 | pure a=>exact u a
 | load m a k j=>exact fun v=>j v (hs v)
 | shape r k j=>exact fun v=>j v (hs v)
 | frozen a k j=>exact fun v=>j v (hs v)
 | getObj r k j=>exact fun v=>j v (hs v)
 | program k j=>exact fun v=>j v (hs v)
 | mark m k j=>exact j hs
 | halt x=>trivial
 | store m a v k j=>exact hs.elim
 | new o k j=>exact hs.elim
 | freeze a n k j=>exact hs.elim
 | setObj r o k j=>exact hs.elim
 | choose q k j=>exact hs.elim
 | sys c k j=>exact hs.elim
def Bf (t:TypeId):ro (underlying t):=by
 unfold underlying;refine gV _ _ (fun P=>trivial) fun P=>?_
 split <;> exact trivial
def Fb (t:TypeId):ro (typeInfo t):=by
 unfold typeInfo;refine gV _ _ (fun P=>trivial) fun P=>?_
 split <;> exact trivial
def KB (t:TypeId):ro (sizeOf t):=gV _ _ (Fb t) fun _=>trivial
theorem nI (a:Xax):∀ (n i:Nat) (j:Array Xab),ro (loadCellsFrom a i n j)
 | 0,i,j=>trivial
 | n+1,i,j=>gV _ _ (fun v=>trivial) fun v=>nI a n (i+1) (j.push v)
def HA (t:TypeId) (a:Xax):ro (loadVar t a):=by
 unfold loadVar;refine gV _ _ ?_ fun b=>?_
 ·unfold isAgg;refine gV _ _ (Bf t) fun d=>?_
  cases d <;> exact trivial
 ·cases b
  ·exact fun v=>trivial
  ·exact gV _ _ (KB t) fun n=>gV _ _ (nI a n 0 #[]) fun _=>trivial
section res
variable {P:Program}
def rn (tmps:Array Xab):ResultVar->Sem Xab
 | .tmp t=>pure (tmps.getD t undef)
 | .cell a t=>do loadVar t (<- asAddr (tmps.getD a undef))
def HL (fn:Func) (tmps:Array Xab):results fn tmps=(do let vs <- fn.results.mapM (rn tmps); pure (if h:vs.size=1 then vs[0] else .tuple vs)):=by
 unfold results
 congr 1
def Tg (P:Program) (h:Hp) (tmps:Array Xab):List ResultVar->List Xab->Prop
 | [],[]=>True
 | r::rs,v::vs=>(ro (rn tmps r)/\∀ R:Xab->Hp->Prop,R v h->aS P (rn tmps r) h R)/\Tg P h tmps rs vs
 | _,_=>False
theorem B3 (tmps:Array Xab) {h:Hp}:∀ (rs:List ResultVar) (vs:List Xab) (R:List Xab->Hp->Prop),R vs h->Tg P h tmps rs vs ->
  aS P (rs.mapM (rn tmps)) h R/\ro (rs.mapM (rn tmps))
 | [],[],R,hk,_=>⟨hk,trivial⟩
 | r::rs,v::vs,R,hk,j=>by
  rw [List.mapM_cons];obtain ⟨h3,h4⟩:=B3 tmps rs vs (fun vs h=>R (v::vs) h) hk j.2;refine ⟨?_,gV _ _ j.1.1 fun v=>gV _ _ h4 fun _=>trivial⟩;rw [ao];refine j.1.2 _ ?_;show aS P (rs.mapM (rn tmps) >>= _) h R;rw [ao];exact h3
 | [],v::vs,R,_,j=>j.elim
 | r::rs,[],R,_,j=>j.elim
theorem sB {n:Nd} {a:Act} {e:Env} (g:gK n e a) {L:Lp} {K:Xab->Hp->Prop} {h:Hp}:∀ {rs:List ResultVar} {k:List Xab->T},wT P rs e k L K h ->
  ∃ vs,k vs L K h/\Tg P h a.tmps rs vs
 | [],k,j=>⟨[],j,trivial⟩
 | .tmp t::rs,k,j=>by
  obtain ⟨v,hv,j⟩:=bz j;obtain ⟨vs,hk,G⟩:=sB g j;refine ⟨v::vs,hk,⟨trivial,fun R J=>?_⟩,G⟩
  have:=g.get t v hv
  show R (a.tmps.getD t undef) h;rw [this]; exact J
 | .cell q t::rs,k,j=>by
  obtain ⟨v,hv,j⟩:=bz j;have U:=g.get q v hv;cases hb:cF P t with
  | none=>cases v <;> simp only [hb] at j <;> exact j.elim
  | some b =>
   obtain ⟨pp,rfl⟩:∃ pp,v=.pointer pp:=by
    cases v <;> cases b <;> simp only [hb] at j <;> first | exact j.elim | exact ⟨_,rfl⟩
   have O:(match b with
    | true=>(bif (ff P 9 t).length==P.cellsOf t then T.bG pp fun a=>T.ah a (ff P 9 t) (ju _ fun l=>(fun (_:Xax) (_:List Xab) (v:Xab)=>wT P rs e fun l'=>k (v::l')) a l (.agg l.toArray)) else T.fail)
    | false=>T.bG pp fun a=>T.ah a (cD P t).2 (ju _ fun l=>(fun (_:Xax) (_:List Xab) (v:Xab)=>wT P rs e fun l'=>k (v::l')) a l (l.headD undef))) L K h:=by
    cases b <;> simp only [hb] at j <;> exact j
   obtain ⟨p,l,v,rfl,hc,hk,u⟩:=BN (n:=n) (kk:=fun (_:Xax) (_:List Xab) (v:Xab)=>wT P rs e fun l'=>k (v::l')) hb O;obtain ⟨vs,hk,G⟩:=sB g hk;refine ⟨v::vs,hk,⟨?_,fun R J=>?_⟩,G⟩
   ·show ro (asAddr (a.tmps.getD q undef) >>= fun x=>loadVar t x);rw [U];exact HA t p
   ·show aS P (asAddr (a.tmps.getD q undef) >>= fun x=>loadVar t x) h R;rw [U];exact u h R hc J
def qY {fn:Func} {tmps:Array Xab} {h:Hp} {K:Xab->Hp->Prop} {vs:List Xab}
  (j:Tg P h tmps fn.results.toList vs) (hk:K (one vs) h):aS P (results fn tmps) h K/\ro (results fn tmps):=by
 obtain ⟨h1,h2⟩:=B3 tmps fn.results.toList vs (fun vs h=>K (one vs) h) hk j;have e1:(fn.results.mapM (rn tmps))=(fn.results.toList.mapM (rn tmps) >>= fun l=>pure l.toArray):=by
  rw [Array.mapM_eq_mapM_toList,map_eq_pure_bind]
 rw [HL,e1];refine ⟨?_,gV _ _ (gV _ _ h2 fun _=>trivial) fun _=>trivial⟩;rw [ao,ao];refine dO _ _ _ _ ?_ h1;intro vs h hk;show K (if h:vs.toArray.size=1 then vs.toArray[0] else .tuple vs.toArray) h;rcases vs with _ | ⟨v,_ | ⟨u,l⟩⟩
 ·exact hk
 ·exact hk
 ·exact hk
theorem wJ:∀ (l:List Xab) (i s:Nat) (v:Xab),cQ (ue i l) s=some v->i<=s/\l[s-i]?=some v
 | [],i,s,v,h=>by simp [ue,cQ] at h
 | u::l,i,s,v,h=>by
  simp only [ue,dA] at h
  by_cases hi:i=s
  ·subst hi; simp at h; subst h; simp
  ·rw [Y2 hi] at h;obtain ⟨h1,h2⟩:=wJ l (i+1) s v h;refine ⟨ad,?_⟩
   have:s-i=(s-(i+1))+1:=ad
   rw [this]; simpa using h2
def SQ {f:FuncId} {fn:Func} {cuts:List Nat} {args:List Xab} {K:Xab->Hp->Prop} {h:Hp} (hm:P.follows .mixedOrders=true) (Y:P.funcs[f]?=some fn) (hl:Nat.ble args.length fn.ntmps=true)
  (u:bT P cuts fn args [] K h):HC P f args.toArray h K:=by
 unfold bT at u;cases hb:fn.body with
 | none=>simp only [hb] at u; exact u.elim
 | some c =>
  simp only [hb] at u;have Z:args.length<=fn.ntmps:=Zw hl;have g:gK ⟨fn.ntmps,[]⟩ (ue 0 args) { tmps:=args.toArray++Array.replicate (fn.ntmps-args.toArray.size) undef,defers:=[] }:=by
   refine ⟨by simp; omega,rfl,fun s v hv=>?_⟩;obtain ⟨_,h2⟩:=wJ args 0 s v hv;have hs:s<args.length:=by
    rcases ZS s args.length with h | h
    ·exact h
    ·simp only [Nat.sub_zero] at h2; rw [ZI h] at h2; cases h2
   simp only [Nat.sub_zero] at h2;simp [Array.getD_eq_getD_getElem?,Array.getElem?_append,hs];rw [Y1 hs] at h2;exact Zn h2
  intro w hw;have J:cW P c (fun x a h=>(x=.normal\/x=.ret)/\a.defers=[]/\∃ vs,Tg P h a.tmps fn.results.toList vs/\K (one vs) h) { tmps:=args.toArray++Array.replicate (fn.ntmps-args.toArray.size) undef,defers:=[] } h:=by
   refine LQ (Yg hm) 100000 c (ue 0 args) _ [] K _ _ h ?_ u g;intro x e a h L' hp hx G fr;cases x <;> simp only at hx <;> first | exact hx.elim | skip
   ·obtain ⟨vs,hk,j⟩:=sB G hx;exact ⟨.inl rfl,G.defers,vs,j,hk⟩
   ·obtain ⟨vs,hk,j⟩:=sB G hx;exact ⟨.inr rfl,G.defers,vs,j,hk⟩
  refine calls_of_wp Y hb (Code.wp_mono ?_ (J w w (dI.refl w) hw));rintro x a w' ⟨h1,hx,V,vs,j,hk⟩;obtain ⟨h2,h3⟩:=qY j hk;obtain ⟨v,O,U,hs,X⟩:=oX _ w' _ h2
  have:=HB _ h3 w' v O U
  subst this;rcases hx with rfl | rfl
  ·exact ⟨V,v,U,v,rfl,h1,X⟩
  ·exact ⟨V,v,U,v,rfl,h1,X⟩
end res
open Go.Proofs in
abbrev bf (n : Int) (l : Nat) (p : Xac) (k : Xax -> T) : T := T.need (((0 : Int) <= n) /\ (n < (l : Int))) (T.bG p k)
open Go.Proofs in
abbrev bk (n : Int) : Xab := .int .i64 (IntKind.wrap .i64 (n + (1 : Int)))
open Go.Proofs in
abbrev bH (a : Int) (b : Nat) (t u : T) : T := cond (decide (a < (b : Int))) t u
open Go.Proofs in
abbrev aP (n : Int) (k : Nat) : Nat := Int.toNat n * k
open Go.Proofs in
abbrev aY (f : FuncId) (l : List Xab) (k : Bool -> T) : T := T.call Tryz.prog f l false [(false, [.bool])] k
open Go.Proofs in
abbrev cH (f : FuncId) (l : List Xab) (k : Int -> T) : T := T.call Tryz.prog f l false [(false, [.int .i64])] k
open Go.Proofs in
abbrev gS (f : FuncId) (l : List Xab) (k : Xaa -> T) : T := T.call Tryz.prog f l false [(false, [.string])] k
open Go.Proofs in
abbrev bK := @T.call Tryz.prog
open Go.Proofs in
abbrev dN (s : Sem Xab) (k : Bool -> T) : T := T.eh Tryz.prog s false [(false, [.bool])] k
open Go.Proofs in
abbrev br (s : Sem Xab) (k : Xac -> Nat -> Nat -> T) : T := T.eh Tryz.prog s false [(false, [.slice 0])] k
open Go.Proofs in
abbrev bU := @T.eh Tryz.prog
open Go.Proofs in
abbrev bt := IntKind.wrap .i64
open Go.Proofs in
abbrev fx (n : Int) (l : Nat) : Prop := ((0 : Int) <= n) /\ (n < (l : Int))
open Go.Proofs in
abbrev iP (k : Int) (l : Nat) : Prop := ((0 : Int) <= k) /\ (k < (l : Int))
open Go.Proofs in
abbrev aG (n : Int) : Xab := .int .u32 n
open Go.Proofs in
abbrev bn (l : Array Xab) : T := T.ret (.tuple l)
open Go.Proofs in
abbrev UA (n : BitVec 8) : UInt8 := { toBitVec := n }
open Go.Proofs in
abbrev bI : T := T.ret (.bool false)
open Go.Proofs in
abbrev dP : T := T.ret (.bool true)
open Go.Proofs in
abbrev bj : Xab := .slice none 0 0
open Go.Proofs in
abbrev bY : Xab := .string ⟨#[]⟩
open Go.Proofs in
abbrev aR : fJ := (false, [.int .i64])
open Go.Proofs in
abbrev cn : fJ := (false, [.bool])
open Go.Proofs in
abbrev dh : fJ := (false, [.slice 0])
end Go.Sx
