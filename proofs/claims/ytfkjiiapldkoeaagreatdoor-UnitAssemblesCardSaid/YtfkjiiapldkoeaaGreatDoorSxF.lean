/- Part of the framework. No condition. -/
import Derived.Test.YtfkjiiapldkoeaaGreatDoorProg
import Derived.Test.YtfkjiiapldkoeaaGreatDoorSxR
set_option linter.all false
set_option maxHeartbeats 4000000
namespace Go.Sx
def ro {α:Type}:Sem α->Prop
 | .pure _=>True
 | .load _ _ k=>∀ v,ro (k v)
 | .shape _ k=>∀ v,ro (k v)
 | .frozen _ k=>∀ v,ro (k v)
 | .getObj _ k=>∀ v,ro (k v)
 | .program k=>∀ v,ro (k v)
 | .mark _ k=>ro k
 | .halt _=>True
 | _=>False
def LS {P:Program} {α:Type} (s:Sem α):ro s->∀ (w:World) a w',s.run P w=.ok a w'->w'=w:=by
 induction s with
 | pure a=>intro _ w b w' h; simp only [Sem.run,Result.ok.injEq] at h; exact h.2.symm
 | load m a k ih =>
  intro hr w b w' h;simp only [Sem.run] at h;cases hc:w.cell? a with
  | some v=>rw [hc] at h; exact ih v (hr v) w b w' h
  | none =>
   rw [hc] at h;simp only at h;split at h
   ·rename_i v l _; exact ih v (hr v) w b w' h
   ·cases h
 | shape r k ih=>intro hr w b w' h; exact ih _ (hr _) w b w' h
 | frozen a k ih=>intro hr w b w' h; exact ih _ (hr _) w b w' h
 | getObj r k ih =>
  intro hr w b w' h;simp only [Sem.run] at h;split at h
  ·cases h
  ·rename_i o _ _; exact ih o (hr o) w b w' h
  ·cases h
 | program k ih=>intro hr w b w' h; exact ih _ (hr _) w b w' h
 | mark m k ih=>intro hr w b w' h; exact ih hr w b w' h
 | halt x=>intro _ w b w' h; simp [Sem.run] at h
 | store m a v k ih=>intro hr; exact hr.elim
 | new o k ih=>intro hr; exact hr.elim
 | freeze a n k ih=>intro hr; exact hr.elim
 | setObj r o k ih=>intro hr; exact hr.elim
 | choose q k ih=>intro hr; exact hr.elim
 | sys c k ih=>intro hr; exact hr.elim
def gG {α β:Type} (s:Sem α) (f:α->Sem β) (hs:ro s) (hf:∀ a,ro (f a)):ro (s >>= f):=by
 show ro (s.bind f)
 induction s with
 | pure a=>exact hf a
 | load m a k ih=>exact fun v=>ih v (hs v)
 | shape r k ih=>exact fun v=>ih v (hs v)
 | frozen a k ih=>exact fun v=>ih v (hs v)
 | getObj r k ih=>exact fun v=>ih v (hs v)
 | program k ih=>exact fun v=>ih v (hs v)
 | mark m k ih=>exact ih hs
 | halt x=>trivial
 | store m a v k ih=>exact hs.elim
 | new o k ih=>exact hs.elim
 | freeze a n k ih=>exact hs.elim
 | setObj r o k ih=>exact hs.elim
 | choose q k ih=>exact hs.elim
 | sys c k ih=>exact hs.elim
def zh (t:TypeId):ro (underlying t):=by
 unfold underlying;refine gG _ _ (fun P=>trivial) fun P=>?_
 split <;> exact trivial
def Cr (t:TypeId):ro (typeInfo t):=by
 unfold typeInfo;refine gG _ _ (fun P=>trivial) fun P=>?_
 split <;> exact trivial
def Gb (t:TypeId):ro (sizeOf t):=gG _ _ (Cr t) fun _=>trivial
theorem mG (a:XC):∀ (n i:Nat) (acc:Array XB),ro (loadCellsFrom a i n acc)
 | 0,i,acc=>trivial
 | n+1,i,acc=>gG _ _ (fun v=>trivial) fun v=>mG a n (i+1) (acc.push v)
def Ef (t:TypeId) (a:XC):ro (loadVar t a):=by
 unfold loadVar;refine gG _ _ ?_ fun b=>?_
 ·unfold isAgg;refine gG _ _ (zh t) fun d=>?_
  cases d <;> exact trivial
 ·cases b
  ·exact fun v=>trivial
  ·exact gG _ _ (Gb t) fun n=>gG _ _ (mG a n 0 #[]) fun _=>trivial
section res
variable {P:Program}
def qt (tmps:Array XB):ResultVar->Sem XB
 | .tmp t=>pure (tmps.getD t undef)
 | .cell a t=>do loadVar t (<- asAddr (tmps.getD a undef))
def El (fn:Func) (tmps:Array XB):results fn tmps=(do let vs <- fn.results.mapM (qt tmps); pure (if h:vs.size=1 then vs[0] else .tuple vs)):=by
 unfold results
 congr 1
def Mk (P:Program) (h:Hp) (tmps:Array XB):List ResultVar->List XB->Prop
 | [],[]=>True
 | r::rs,v::vs=>(ro (qt tmps r)/\∀ R:XB->Hp->Prop,R v h->aV P (qt tmps r) h R)/\Mk P h tmps rs vs
 | _,_=>False
theorem zW (tmps:Array XB) {h:Hp}:∀ (rs:List ResultVar) (vs:List XB) (R:List XB->Hp->Prop),R vs h->Mk P h tmps rs vs ->
  aV P (rs.mapM (qt tmps)) h R/\ro (rs.mapM (qt tmps))
 | [],[],R,hk,_=>⟨hk,trivial⟩
 | r::rs,v::vs,R,hk,hf=>by
  rw [List.mapM_cons];obtain ⟨h3,h4⟩:=zW tmps rs vs (fun vs h=>R (v::vs) h) hk hf.2;refine ⟨?_,gG _ _ hf.1.1 fun v=>gG _ _ h4 fun _=>trivial⟩;rw [aD];refine hf.1.2 _ ?_;show aV P (rs.mapM (qt tmps) >>= _) h R;rw [aD];exact h3
 | [],v::vs,R,_,hf=>hf.elim
 | r::rs,[],R,_,hf=>hf.elim
theorem qY {n:Nd} {a:Act} {e:Env} (g:jO n e a) {L:Lp} {K:XB->Hp->Prop} {h:Hp}:∀ {rs:List ResultVar} {k:List XB->T},xM P rs e k L K h ->
  ∃ vs,k vs L K h/\Mk P h a.tmps rs vs
 | [],k,ht=>⟨[],ht,trivial⟩
 | .tmp t::rs,k,ht=>by
  obtain ⟨v,hv,ht⟩:=bw ht;obtain ⟨vs,hk,hf⟩:=qY g ht;refine ⟨v::vs,hk,⟨trivial,fun R hR=>?_⟩,hf⟩
  have:=g.get t v hv
  show R (a.tmps.getD t undef) h;rw [this]; exact hR
 | .cell q t::rs,k,ht=>by
  obtain ⟨v,hv,ht⟩:=bw ht;have hq:=g.get q v hv;cases hb:du P t with
  | none=>cases v <;> simp only [hb] at ht <;> exact ht.elim
  | some b =>
   obtain ⟨pp,rfl⟩:∃ pp,v=.pointer pp:=by
    cases v <;> cases b <;> simp only [hb] at ht <;> first | exact ht.elim | exact ⟨_,rfl⟩
   have ht':(match b with
    | true=>(bif (gU P 9 t).length==P.cellsOf t then T.aA pp fun a=>T.ah a (gU P 9 t) (dJ _ fun l=>(fun (_:XC) (_:List XB) (v:XB)=>xM P rs e fun l'=>k (v::l')) a l (.agg l.toArray)) else T.fail)
    | false=>T.aA pp fun a=>T.ah a (dM P t).2 (dJ _ fun l=>(fun (_:XC) (_:List XB) (v:XB)=>xM P rs e fun l'=>k (v::l')) a l (l.headD undef))) L K h:=by
    cases b <;> simp only [hb] at ht <;> exact ht
   obtain ⟨p,l,v,rfl,hc,hk,hall⟩:=zP (n:=n) (kk:=fun (_:XC) (_:List XB) (v:XB)=>xM P rs e fun l'=>k (v::l')) hb ht';obtain ⟨vs,hk,hf⟩:=qY g hk;refine ⟨v::vs,hk,⟨?_,fun R hR=>?_⟩,hf⟩
   ·show ro (asAddr (a.tmps.getD q undef) >>= fun x=>loadVar t x);rw [hq];exact Ef t p
   ·show aV P (asAddr (a.tmps.getD q undef) >>= fun x=>loadVar t x) h R;rw [hq];exact hall h R hc hR
def Ck {fn:Func} {tmps:Array XB} {h:Hp} {K:XB->Hp->Prop} {vs:List XB}
  (hf:Mk P h tmps fn.results.toList vs) (hk:K (one vs) h):aV P (results fn tmps) h K/\ro (results fn tmps):=by
 obtain ⟨h1,h2⟩:=zW tmps fn.results.toList vs (fun vs h=>K (one vs) h) hk hf;have e1:(fn.results.mapM (qt tmps))=(fn.results.toList.mapM (qt tmps) >>= fun l=>pure l.toArray):=by
  rw [Array.mapM_eq_mapM_toList,map_eq_pure_bind]
 rw [El,e1];refine ⟨?_,gG _ _ (gG _ _ h2 fun _=>trivial) fun _=>trivial⟩;rw [aD,aD];refine dP _ _ _ _ ?_ h1;intro vs h hk;show K (if h:vs.toArray.size=1 then vs.toArray[0] else .tuple vs.toArray) h;rcases vs with _ | ⟨v,_ | ⟨u,l⟩⟩
 ·exact hk
 ·exact hk
 ·exact hk
theorem zJ:∀ (l:List XB) (i s:Nat) (v:XB),cF (Ec i l) s=some v->i<=s/\l[s-i]?=some v
 | [],i,s,v,h=>by simp [Ec,cF] at h
 | u::l,i,s,v,h=>by
  simp only [Ec,eo] at h
  by_cases hi:i=s
  ·subst hi; simp at h; subst h; simp
  ·rw [OG hi] at h;obtain ⟨h1,h2⟩:=zJ l (i+1) s v h;refine ⟨ae,?_⟩
   have:s-i=(s-(i+1))+1:=ae
   rw [this]; simpa using h2
def K9 {f:FuncId} {fn:Func} {cuts:List Nat} {args:List XB} {K:XB->Hp->Prop} {h:Hp} (hm:P.follows .mixedOrders=true) (hf:P.funcs[f]?=some fn) (hl:Nat.ble args.length fn.ntmps=true)
  (ht:bD P cuts fn args [] K h):HC P f args.toArray h K:=by
 unfold bD at ht;cases hb:fn.body with
 | none=>simp only [hb] at ht; exact ht.elim
 | some c =>
  simp only [hb] at ht;have hl':args.length<=fn.ntmps:=Nat.le_of_ble_eq_true hl;have g:jO ⟨fn.ntmps,[]⟩ (Ec 0 args) { tmps:=args.toArray++Array.replicate (fn.ntmps-args.toArray.size) undef,defers:=[] }:=by
   refine ⟨by simp; omega,rfl,fun s v hv=>?_⟩;obtain ⟨_,h2⟩:=zJ args 0 s v hv;have hs:s<args.length:=by
    rcases Po s args.length with h | h
    ·exact h
    ·simp only [Nat.sub_zero] at h2; rw [Pf h] at h2; cases h2
   simp only [Nat.sub_zero] at h2;simp [Array.getD_eq_getD_getElem?,Array.getElem?_append,hs];rw [OO hs] at h2;exact O1 h2
  intro w hw;have hcw:cW P c (fun x a h=>(x=.normal\/x=.ret)/\a.defers=[]/\∃ vs,Mk P h a.tmps fn.results.toList vs/\K (one vs) h) { tmps:=args.toArray++Array.replicate (fn.ntmps-args.toArray.size) undef,defers:=[] } h:=by
   refine BN (Og hm) 100000 c (Ec 0 args) _ [] K _ _ h ?_ ht g;intro x e a h L' hp hx g' fr;cases x <;> simp only at hx <;> first | exact hx.elim | skip
   ·obtain ⟨vs,hk,hres⟩:=qY g' hx;exact ⟨.inl rfl,g'.defers,vs,hres,hk⟩
   ·obtain ⟨vs,hk,hres⟩:=qY g' hx;exact ⟨.inr rfl,g'.defers,vs,hres,hk⟩
  refine calls_of_wp hf hb (Code.wp_mono ?_ (hcw w w (cY.refl w) hw));rintro x a w' ⟨h1,hx,hd,vs,hres,hk⟩;obtain ⟨h2,h3⟩:=Ck hres hk;obtain ⟨v,w'',hr,hs,hR⟩:=xH _ w' _ h2
  have:=LS _ h3 w' v w'' hr
  subst this;rcases hx with rfl | rfl
  ·exact ⟨hd,v,hr,v,rfl,h1,hR⟩
  ·exact ⟨hd,v,hr,v,rfl,h1,hR⟩
end res
open Go.Proofs in
abbrev cv (n : Int) (l : Nat) (p : Option XC) (k : XC -> T) : T := T.need (((0 : Int) <= n) /\ (n < (l : Int))) (T.aA p k)
open Go.Proofs in
abbrev bN (n : Int) : XB := .int .i64 (IntKind.wrap .i64 (n + (1 : Int)))
open Go.Proofs in
abbrev dH (a : Int) (b : Nat) (t u : T) : T := cond (decide (a < (b : Int))) t u
open Go.Proofs in
abbrev bW (n : Int) (k : Nat) : Nat := Int.toNat n * k
open Go.Proofs in
abbrev aN (f : FuncId) (l : List XB) (k : Bool -> T) : T := T.call Tryz.prog f l false [(false, [.bool])] k
open Go.Proofs in
abbrev cU (f : FuncId) (l : List XB) (k : Int -> T) : T := T.call Tryz.prog f l false [(false, [.int .i64])] k
open Go.Proofs in
abbrev uG (f : FuncId) (l : List XB) (k : XA -> T) : T := T.call Tryz.prog f l false [(false, [.string])] k
open Go.Proofs in
abbrev aS := @T.call Tryz.prog
open Go.Proofs in
abbrev bR (s : Sem XB) (k : Bool -> T) : T := T.fb Tryz.prog s false [(false, [.bool])] k
open Go.Proofs in
abbrev aR (s : Sem XB) (k : Option XC -> Nat -> Nat -> T) : T := T.fb Tryz.prog s false [(false, [.slice 0])] k
open Go.Proofs in
abbrev dh := @T.fb Tryz.prog
open Go.Proofs in
abbrev aH := IntKind.wrap .i64
open Go.Proofs in
abbrev cz (n : Int) (l : Nat) : Prop := ((0 : Int) <= n) /\ (n < (l : Int))
open Go.Proofs in
abbrev aZ (k : Int) (l : Nat) : Prop := ((0 : Int) <= k) /\ (k < (l : Int))
open Go.Proofs in
abbrev av (n : Int) : XB := .int .u32 n
open Go.Proofs in
abbrev aw (l : Array XB) : T := T.ret (.tuple l)
open Go.Proofs in
abbrev aJ (n : BitVec 8) : UInt8 := { toBitVec := n }
open Go.Proofs in
abbrev bE : T := T.ret (.bool false)
open Go.Proofs in
abbrev pj : T := T.ret (.bool true)
open Go.Proofs in
abbrev aI : XB := .slice none 0 0
open Go.Proofs in
abbrev bh : XB := .string ⟨#[]⟩
open Go.Proofs in
abbrev aQ : fX := (false, [.int .i64])
open Go.Proofs in
abbrev bZ : fX := (false, [.bool])
open Go.Proofs in
abbrev gK : fX := (false, [.slice 0])
end Go.Sx
