/- Part of the framework. No condition. -/
import Derived.Test.YthbffkdafjboiaaGreatDoorProg
import Derived.Test.YthbffkdafjboiaaGreatDoorSxR
set_option linter.all false
set_option maxHeartbeats 4000000
namespace Go.Sx
def ro {α:Type}:Sem α->Prop
 | .pure _=>True
 | .load _ _ k=>∀ v,ro (k v)
 | .shape _ k=>∀ v,ro (k v)
 | .frozen _ k=>∀ v,ro (k v)
 | .getObj _ k=>∀ v,ro (k v)
 | .program k=>∀ v,ro (k v)
 | .mark _ k=>ro k
 | .halt _=>True
 | _=>False
def HR {P:Program} {α:Type} (s:Sem α):ro s->∀ (w:World) a w',s.run P w=.ok a w'->w'=w:=by
 induction s with
 | pure a=>intro _ w b w' h; simp only [Sem.run,Result.ok.injEq] at h; exact h.2.symm
 | load m a k j =>
  intro d w b w' h;simp only [Sem.run] at h;cases hc:w.cell? a with
  | some v=>rw [hc] at h; exact j v (d v) w b w' h
  | none =>
   rw [hc] at h;simp only at h;split at h
   ·rename_i v l _; exact j v (d v) w b w' h
   ·cases h
 | shape r k j=>intro d w b w' h; exact j _ (d _) w b w' h
 | frozen a k j=>intro d w b w' h; exact j _ (d _) w b w' h
 | getObj r k j =>
  intro d w b w' h;simp only [Sem.run] at h;split at h
  ·cases h
  ·rename_i o _ _; exact j o (d o) w b w' h
  ·cases h
 | program k j=>intro d w b w' h; exact j _ (d _) w b w' h
 | mark m k j=>intro d w b w' h; exact j d w b w' h
 | halt x=>intro _ w b w' h; simp [Sem.run] at h
 | store m a v k j=>intro d; exact d.elim
 | new o k j=>intro d; exact d.elim
 | freeze a n k j=>intro d; exact d.elim
 | setObj r o k j=>intro d; exact d.elim
 | choose q k j=>intro d; exact d.elim
 | sys c k j=>intro d; exact d.elim
def gV {α β:Type} (s:Sem α) (f:α->Sem β) (hs:ro s) (j:∀ a,ro (f a)):ro (s >>= f):=by
 show ro (s.bind f)
 induction s with
 | pure a=>exact j a
 | load m a k d=>exact fun v=>d v (hs v)
 | shape r k d=>exact fun v=>d v (hs v)
 | frozen a k d=>exact fun v=>d v (hs v)
 | getObj r k d=>exact fun v=>d v (hs v)
 | program k d=>exact fun v=>d v (hs v)
 | mark m k d=>exact d hs
 | halt x=>trivial
 | store m a v k d=>exact hs.elim
 | new o k d=>exact hs.elim
 | freeze a n k d=>exact hs.elim
 | setObj r o k d=>exact hs.elim
 | choose q k d=>exact hs.elim
 | sys c k d=>exact hs.elim
def BF (t:TypeId):ro (underlying t):=by
 unfold underlying;refine gV _ _ (fun P=>trivial) fun P=>?_
 split <;> exact trivial
def Fz (t:TypeId):ro (typeInfo t):=by
 unfold typeInfo;refine gV _ _ (fun P=>trivial) fun P=>?_
 split <;> exact trivial
def KR (t:TypeId):ro (sizeOf t):=gV _ _ (Fz t) fun _=>trivial
theorem oh (a:Xax):∀ (n i:Nat) (d:Array Xab),ro (loadCellsFrom a i n d)
 | 0,i,d=>trivial
 | n+1,i,d=>gV _ _ (fun v=>trivial) fun v=>oh a n (i+1) (d.push v)
def HQ (t:TypeId) (a:Xax):ro (loadVar t a):=by
 unfold loadVar;refine gV _ _ ?_ fun b=>?_
 ·unfold isAgg;refine gV _ _ (BF t) fun d=>?_
  cases d <;> exact trivial
 ·cases b
  ·exact fun v=>trivial
  ·exact gV _ _ (KR t) fun n=>gV _ _ (oh a n 0 #[]) fun _=>trivial
section res
variable {P:Program}
def rL (tmps:Array Xab):ResultVar->Sem Xab
 | .tmp t=>pure (tmps.getD t undef)
 | .cell a t=>do loadVar t (<- asAddr (tmps.getD a undef))
def HZ (fn:Func) (tmps:Array Xab):results fn tmps=(do let vs <- fn.results.mapM (rL tmps); pure (if h:vs.size=1 then vs[0] else .tuple vs)):=by
 unfold results
 congr 1
def TE (P:Program) (h:Hp) (tmps:Array Xab):List ResultVar->List Xab->Prop
 | [],[]=>True
 | r::rs,v::vs=>(ro (rL tmps r)/\∀ R:Xab->Hp->Prop,R v h->aU P (rL tmps r) h R)/\TE P h tmps rs vs
 | _,_=>False
theorem Cp (tmps:Array Xab) {h:Hp}:∀ (rs:List ResultVar) (vs:List Xab) (R:List Xab->Hp->Prop),R vs h->TE P h tmps rs vs ->
  aU P (rs.mapM (rL tmps)) h R/\ro (rs.mapM (rL tmps))
 | [],[],R,hk,_=>⟨hk,trivial⟩
 | r::rs,v::vs,R,hk,d=>by
  rw [List.mapM_cons];obtain ⟨h3,h4⟩:=Cp tmps rs vs (fun vs h=>R (v::vs) h) hk d.2;refine ⟨?_,gV _ _ d.1.1 fun v=>gV _ _ h4 fun _=>trivial⟩;rw [ao];refine d.1.2 _ ?_;show aU P (rs.mapM (rL tmps) >>= _) h R;rw [ao];exact h3
 | [],v::vs,R,_,d=>d.elim
 | r::rs,[],R,_,d=>d.elim
theorem sP {n:Nd} {a:Act} {e:Env} (g:gK n e a) {L:Lp} {K:Xab->Hp->Prop} {h:Hp}:∀ {rs:List ResultVar} {k:List Xab->T},xe P rs e k L K h ->
  ∃ vs,k vs L K h/\TE P h a.tmps rs vs
 | [],k,d=>⟨[],d,trivial⟩
 | .tmp t::rs,k,d=>by
  obtain ⟨v,hv,d⟩:=bH d;obtain ⟨vs,hk,F⟩:=sP g d;refine ⟨v::vs,hk,⟨trivial,fun R G=>?_⟩,F⟩
  have:=g.get t v hv
  show R (a.tmps.getD t undef) h;rw [this]; exact G
 | .cell q t::rs,k,d=>by
  obtain ⟨v,hv,d⟩:=bH d;have O:=g.get q v hv;cases u:cH P t with
  | none=>cases v <;> simp only [u] at d <;> exact d.elim
  | some b =>
   obtain ⟨pp,rfl⟩:∃ pp,v=.pointer pp:=by
    cases v <;> cases b <;> simp only [u] at d <;> first | exact d.elim | exact ⟨_,rfl⟩
   have J:(match b with
    | true=>(bif (eX P 9 t).length==P.cellsOf t then T.bi pp fun a=>T.ah a (eX P 9 t) (jv _ fun l=>(fun (_:Xax) (_:List Xab) (v:Xab)=>xe P rs e fun l'=>k (v::l')) a l (.agg l.toArray)) else T.fail)
    | false=>T.bi pp fun a=>T.ah a (cG P t).2 (jv _ fun l=>(fun (_:Xax) (_:List Xab) (v:Xab)=>xe P rs e fun l'=>k (v::l')) a l (l.headD undef))) L K h:=by
    cases b <;> simp only [u] at d <;> exact d
   obtain ⟨p,l,v,rfl,hc,hk,j⟩:=Ca (n:=n) (kk:=fun (_:Xax) (_:List Xab) (v:Xab)=>xe P rs e fun l'=>k (v::l')) u J;obtain ⟨vs,hk,F⟩:=sP g hk;refine ⟨v::vs,hk,⟨?_,fun R G=>?_⟩,F⟩
   ·show ro (asAddr (a.tmps.getD q undef) >>= fun x=>loadVar t x);rw [O];exact HQ t p
   ·show aU P (asAddr (a.tmps.getD q undef) >>= fun x=>loadVar t x) h R;rw [O];exact j h R hc G
def rA {fn:Func} {tmps:Array Xab} {h:Hp} {K:Xab->Hp->Prop} {vs:List Xab}
  (d:TE P h tmps fn.results.toList vs) (hk:K (one vs) h):aU P (results fn tmps) h K/\ro (results fn tmps):=by
 obtain ⟨h1,h2⟩:=Cp tmps fn.results.toList vs (fun vs h=>K (one vs) h) hk d;have e1:(fn.results.mapM (rL tmps))=(fn.results.toList.mapM (rL tmps) >>= fun l=>pure l.toArray):=by
  rw [Array.mapM_eq_mapM_toList,map_eq_pure_bind]
 rw [HZ,e1];refine ⟨?_,gV _ _ (gV _ _ h2 fun _=>trivial) fun _=>trivial⟩;rw [ao,ao];refine dA _ _ _ _ ?_ h1;intro vs h hk;show K (if h:vs.toArray.size=1 then vs.toArray[0] else .tuple vs.toArray) h;rcases vs with _ | ⟨v,_ | ⟨u,l⟩⟩
 ·exact hk
 ·exact hk
 ·exact hk
theorem wX:∀ (l:List Xab) (i s:Nat) (v:Xab),cQ (uy i l) s=some v->i<=s/\l[s-i]?=some v
 | [],i,s,v,h=>by simp [uy,cQ] at h
 | u::l,i,s,v,h=>by
  simp only [uy,dB] at h
  by_cases hi:i=s
  ·subst hi; simp at h; subst h; simp
  ·rw [Yx hi] at h;obtain ⟨h1,h2⟩:=wX l (i+1) s v h;refine ⟨ad,?_⟩
   have:s-i=(s-(i+1))+1:=ad
   rw [this]; simpa using h2
def Tl {f:FuncId} {fn:Func} {cuts:List Nat} {args:List Xab} {K:Xab->Hp->Prop} {h:Hp} (hm:P.follows .mixedOrders=true) (X:P.funcs[f]?=some fn) (hl:Nat.ble args.length fn.ntmps=true)
  (j:bM P cuts fn args [] K h):HC P f args.toArray h K:=by
 unfold bM at j;cases F:fn.body with
 | none=>simp only [F] at j; exact j.elim
 | some c =>
  simp only [F] at j;have Y:args.length<=fn.ntmps:=Y2 hl;have g:gK ⟨fn.ntmps,[]⟩ (uy 0 args) { tmps:=args.toArray++Array.replicate (fn.ntmps-args.toArray.size) undef,defers:=[] }:=by
   refine ⟨by simp; omega,rfl,fun s v hv=>?_⟩;obtain ⟨_,h2⟩:=wX args 0 s v hv;have hs:s<args.length:=by
    rcases Zn s args.length with h | h
    ·exact h
    ·simp only [Nat.sub_zero] at h2; rw [Y9 h] at h2; cases h2
   simp only [Nat.sub_zero] at h2;simp [Array.getD_eq_getD_getElem?,Array.getElem?_append,hs];rw [Yv hs] at h2;exact YR h2
  intro w hw;have G:cW P c (fun x a h=>(x=.normal\/x=.ret)/\a.defers=[]/\∃ vs,TE P h a.tmps fn.results.toList vs/\K (one vs) h) { tmps:=args.toArray++Array.replicate (fn.ntmps-args.toArray.size) undef,defers:=[] } h:=by
   refine Mj (XP hm) 100000 c (uy 0 args) _ [] K _ _ h ?_ j g;intro x e a h Z hp hx u fr;cases x <;> simp only at hx <;> first | exact hx.elim | skip
   ·obtain ⟨vs,hk,d⟩:=sP u hx;exact ⟨.inl rfl,u.defers,vs,d,hk⟩
   ·obtain ⟨vs,hk,d⟩:=sP u hx;exact ⟨.inr rfl,u.defers,vs,d,hk⟩
  refine calls_of_wp X F (Code.wp_mono ?_ (G w w (dK.refl w) hw));rintro x a w' ⟨h1,hx,U,vs,d,hk⟩;obtain ⟨h2,h3⟩:=rA d hk;obtain ⟨v,J,O,hs,V⟩:=pz _ w' _ h2
  have:=HR _ h3 w' v J O
  subst this;rcases hx with rfl | rfl
  ·exact ⟨U,v,O,v,rfl,h1,V⟩
  ·exact ⟨U,v,O,v,rfl,h1,V⟩
end res
open Go.Proofs in
abbrev bf (n : Int) (l : Nat) (p : Xac) (k : Xax -> T) : T := T.need (((0 : Int) <= n) /\ (n < (l : Int))) (T.bi p k)
open Go.Proofs in
abbrev bg (n : Int) : Xab := .int .i64 (IntKind.wrap .i64 (n + (1 : Int)))
open Go.Proofs in
abbrev bz (a : Int) (b : Nat) (t u : T) : T := cond (decide (a < (b : Int))) t u
open Go.Proofs in
abbrev aK (n : Int) (k : Nat) : Nat := Int.toNat n * k
open Go.Proofs in
abbrev aX (f : FuncId) (l : List Xab) (k : Bool -> T) : T := T.call Tryz.prog f l false [(false, [.bool])] k
open Go.Proofs in
abbrev ct (f : FuncId) (l : List Xab) (k : Int -> T) : T := T.call Tryz.prog f l false [(false, [.int .i64])] k
open Go.Proofs in
abbrev gS (f : FuncId) (l : List Xab) (k : Xaa -> T) : T := T.call Tryz.prog f l false [(false, [.string])] k
open Go.Proofs in
abbrev bJ := @T.call Tryz.prog
open Go.Proofs in
abbrev eA (s : Sem Xab) (k : Bool -> T) : T := T.ek Tryz.prog s false [(false, [.bool])] k
open Go.Proofs in
abbrev bt (s : Sem Xab) (k : Xac -> Nat -> Nat -> T) : T := T.ek Tryz.prog s false [(false, [.slice 0])] k
open Go.Proofs in
abbrev bU := @T.ek Tryz.prog
open Go.Proofs in
abbrev bm := IntKind.wrap .i64
open Go.Proofs in
abbrev dU (n : Int) (l : Nat) : Prop := ((0 : Int) <= n) /\ (n < (l : Int))
open Go.Proofs in
abbrev fA (k : Int) (l : Nat) : Prop := ((0 : Int) <= k) /\ (k < (l : Int))
open Go.Proofs in
abbrev aH (n : Int) : Xab := .int .u32 n
open Go.Proofs in
abbrev bn (l : Array Xab) : T := T.ret (.tuple l)
open Go.Proofs in
abbrev K3 (n : BitVec 8) : UInt8 := { toBitVec := n }
open Go.Proofs in
abbrev bC : T := T.ret (.bool false)
open Go.Proofs in
abbrev dy : T := T.ret (.bool true)
open Go.Proofs in
abbrev bq : Xab := .slice none 0 0
open Go.Proofs in
abbrev bX : Xab := .string ⟨#[]⟩
open Go.Proofs in
abbrev aP : fI := (false, [.int .i64])
open Go.Proofs in
abbrev bR : fI := (false, [.bool])
open Go.Proofs in
abbrev dl : fI := (false, [.slice 0])
end Go.Sx
