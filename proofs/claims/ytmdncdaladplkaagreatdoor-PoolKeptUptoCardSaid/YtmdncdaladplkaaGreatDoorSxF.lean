/- Part of the framework. No condition. -/
import Derived.Test.YtmdncdaladplkaaGreatDoorProg
import Derived.Test.YtmdncdaladplkaaGreatDoorSxR
set_option linter.all false
set_option maxHeartbeats 4000000
namespace Go.Sx
noncomputable abbrev Xaz:=Go.Proofs.Tryz.prog
def ro {α:Type}:Sem α->Prop
 | .pure _=>True
 | .load _ _ k=>∀ v,ro (k v)
 | .shape _ k=>∀ v,ro (k v)
 | .frozen _ k=>∀ v,ro (k v)
 | .getObj _ k=>∀ v,ro (k v)
 | .program k=>∀ v,ro (k v)
 | .mark _ k=>ro k
 | .halt _=>True
 | _=>False
def Kh {P:Program} {α:Type} (s:Sem α):ro s->∀ (w:World) a w',s.run P w=.ok a w'->w'=w:=by
 induction s with
 | pure a=>intro _ w b w' h; simp only [Sem.run,Result.ok.injEq] at h; exact h.2.symm
 | load m a k e =>
  intro d w b w' h;simp only [Sem.run] at h;cases hc:w.cell? a with
  | some v=>rw [hc] at h; exact e v (d v) w b w' h
  | none =>
   rw [hc] at h;simp only at h;split at h
   ·rename_i v l _; exact e v (d v) w b w' h
   ·cases h
 | shape r k e=>intro d w b w' h; exact e _ (d _) w b w' h
 | frozen a k e=>intro d w b w' h; exact e _ (d _) w b w' h
 | getObj r k e =>
  intro d w b w' h;simp only [Sem.run] at h;split at h
  ·cases h
  ·rename_i o _ _; exact e o (d o) w b w' h
  ·cases h
 | program k e=>intro d w b w' h; exact e _ (d _) w b w' h
 | mark m k e=>intro d w b w' h; exact e d w b w' h
 | halt x=>intro _ w b w' h; simp [Sem.run] at h
 | store m a v k e=>intro d; exact d.elim
 | new o k e=>intro d; exact d.elim
 | freeze a n k e=>intro d; exact d.elim
 | setObj r o k e=>intro d; exact d.elim
 | choose q k e=>intro d; exact d.elim
 | sys c k e=>intro d; exact d.elim
def iO {α β:Type} (s:Sem α) (f:α->Sem β) (d:ro s) (e:∀ a,ro (f a)):ro (s >>= f):=by
 show ro (s.bind f)
 induction s with
 | pure a=>exact e a
 | load m a k b=>exact λv=>b v (d v)
 | shape r k b=>exact λv=>b v (d v)
 | frozen a k b=>exact λv=>b v (d v)
 | getObj r k b=>exact λv=>b v (d v)
 | program k b=>exact λv=>b v (d v)
 | mark m k b=>exact b d
 | halt x=>trivial
 | store m a v k b=>exact d.elim
 | new o k b=>exact d.elim
 | freeze a n k b=>exact d.elim
 | setObj r o k b=>exact d.elim
 | choose q k b=>exact d.elim
 | sys c k b=>exact d.elim
def Dc (t:TypeId):ro (underlying t):=by
 unfold underlying;refine iO _ _ (λP=>trivial) λP=>?_
 split <;> exact trivial
def Hz (t:TypeId):ro (typeInfo t):=by
 unfold typeInfo;refine iO _ _ (λP=>trivial) λP=>?_
 split <;> exact trivial
def NH (t:TypeId):ro (sizeOf t):=iO _ _ (Hz t) λ_=>trivial
theorem pn (a:Xax):∀ (n i:Nat) (b:Array Xab),ro (loadCellsFrom a i n b)
 | 0,i,b=>trivial
 | n+1,i,b=>iO _ _ (λv=>trivial) λv=>pn a n (i+1) (b.push v)
def Kg (t:TypeId) (a:Xax):ro (loadVar t a):=by
 unfold loadVar;refine iO _ _ ?_ λb=>?_
 ·unfold isAgg;refine iO _ _ (Dc t) λd=>?_
  cases d <;> exact trivial
 ·cases b
  ·exact λv=>trivial
  ·exact iO _ _ (NH t) λn=>iO _ _ (pn a n 0 #[]) λ_=>trivial
section res
variable {P:Program}
def tF (tmps:Array Xab):ResultVar->Sem Xab
 | .tmp t=>pure (tmps.getD t undef)
 | .cell a t=>do loadVar t (<- asAddr (tmps.getD a undef))
def Ks (fn:Func) (tmps:Array Xab):results fn tmps=(do let a <- fn.results.mapM (tF tmps); pure (if h:a.size=1 then a[0] else .tuple a)):=by
 unfold results
 congr 1
def WH (P:Program) (h:Hp) (tmps:Array Xab):List ResultVar->List Xab->Prop
 | [],[]=>True
 | r::a,v::b=>(ro (tF tmps r)/\∀ R:Xab->Hp->Prop,R v h->aQ P (tF tmps r) h R)/\WH P h tmps a b
 | _,_=>False
theorem D5 (tmps:Array Xab) {h:Hp}:∀ (a:List ResultVar) (b:List Xab) (R:List Xab->Hp->Prop),R b h->WH P h tmps a b ->
  aQ P (a.mapM (tF tmps)) h R/\ro (a.mapM (tF tmps))
 | [],[],R,hk,_=>⟨hk,trivial⟩
 | r::a,v::b,R,hk,c=>by
  rw [List.mapM_cons];obtain ⟨d,e⟩:=D5 tmps a b (λb h=>R (v::b) h) hk c.2;refine ⟨?_,iO _ _ c.1.1 λv=>iO _ _ e λ_=>trivial⟩;rw [an];refine c.1.2 _ ?_;show aQ P (a.mapM (tF tmps) >>= _) h R;rw [an];exact d
 | [],v::b,R,_,c=>c.elim
 | r::a,[],R,_,c=>c.elim
theorem ux {n:Nd} {a:Act} {e:Env} (g:iI n e a) {L:Lp} {K:Xab->Hp->Prop} {h:Hp}:∀ {c:List ResultVar} {k:List Xab->T},yE P c e k L K h ->
  ∃ d,k d L K h/\WH P h a.tmps c d
 | [],k,ht=>⟨[],ht,trivial⟩
 | .tmp t::c,k,ht=>by
  obtain ⟨v,hv,ht⟩:=bF ht;obtain ⟨d,hk,j⟩:=ux g ht;refine ⟨v::d,hk,⟨trivial,λR m=>?_⟩,j⟩
  have:=g.get t v hv
  show R (a.tmps.getD t undef) h;rw [this]; exact m
 | .cell q t::c,k,ht=>by
  obtain ⟨v,hv,ht⟩:=bF ht;have hq:=g.get q v hv;cases i:cO P t with
  | none=>cases v <;> simp only [i] at ht <;> exact ht.elim
  | some b =>
   obtain ⟨pp,rfl⟩:∃ pp,v=.pointer pp:=by
    cases v <;> cases b <;> simp only [i] at ht <;> first | exact ht.elim | exact ⟨_,rfl⟩
   have o:(match b with
    | true=>(bif (fD P 9 t).length==P.cellsOf t then T.bh pp λa=>T.ah a (fD P 9 t) (j7 _ λl=>(λ(_:Xax) (_:List Xab) (v:Xab)=>yE P c e λl'=>k (v::l')) a l (.agg l.toArray)) else T.fail)
    | false=>T.bh pp λa=>T.ah a (cM P t).2 (j7 _ λl=>(λ(_:Xax) (_:List Xab) (v:Xab)=>yE P c e λl'=>k (v::l')) a l (l.headD undef))) L K h:=by
    cases b <;> simp only [i] at ht <;> exact ht
   obtain ⟨p,l,v,rfl,hc,hk,f⟩:=DN (n:=n) (kk:=λ(_:Xax) (_:List Xab) (v:Xab)=>yE P c e λl'=>k (v::l')) i o;obtain ⟨d,hk,j⟩:=ux g hk;refine ⟨v::d,hk,⟨?_,λR m=>?_⟩,j⟩
   ·show ro (asAddr (a.tmps.getD q undef) >>= λx=>loadVar t x);rw [hq];exact Kg t p
   ·show aQ P (asAddr (a.tmps.getD q undef) >>= λx=>loadVar t x) h R;rw [hq];exact f h R hc m
def tj {fn:Func} {tmps:Array Xab} {h:Hp} {K:Xab->Hp->Prop} {a:List Xab}
  (b:WH P h tmps fn.results.toList a) (hk:K (one a) h):aQ P (results fn tmps) h K/\ro (results fn tmps):=by
 obtain ⟨h1,h2⟩:=D5 tmps fn.results.toList a (λa h=>K (one a) h) hk b;have c:(fn.results.mapM (tF tmps))=(fn.results.toList.mapM (tF tmps) >>= λl=>pure l.toArray):=by
  rw [Array.mapM_eq_mapM_toList,map_eq_pure_bind]
 rw [Ks,c];refine ⟨?_,iO _ _ (iO _ _ h2 λ_=>trivial) λ_=>trivial⟩;rw [an,an];refine ec _ _ _ _ ?_ h1;intro a h hk;show K (if h:a.toArray.size=1 then a.toArray[0] else .tuple a.toArray) h;rcases a with _ | ⟨v,_ | ⟨u,l⟩⟩
 ·exact hk
 ·exact hk
 ·exact hk
theorem yw:∀ (l:List Xab) (i s:Nat) (v:Xab),db (wg i l) s=some v->i<=s/\l[s-i]?=some v
 | [],i,s,v,h=>by simp [wg,db] at h
 | u::l,i,s,v,h=>by
  simp only [wg,dQ] at h
  by_cases hi:i=s
  ·subst hi; simp at h; subst h; simp
  ·rw [ac9 hi] at h;obtain ⟨h1,h2⟩:=yw l (i+1) s v h;refine ⟨ad,?_⟩
   have:s-i=(s-(i+1))+1:=ad
   rw [this]; simpa using h2
def Wk {f:FuncId} {fn:Func} {j:List Nat} {args:List Xab} {K:Xab->Hp->Prop} {h:Hp} (t:P.follows .mixedOrders=true) (u:P.funcs[f]?=some fn) (hl:Nat.ble args.length fn.ntmps=true)
  (ht:bP P j fn args [] K h):HC P f args.toArray h K:=by
 unfold bP at ht;cases l:fn.body with
 | none=>simp only [l] at ht; exact ht.elim
 | some c =>
  simp only [l] at ht;have y:args.length<=fn.ntmps:=bk9 hl;have g:iI ⟨fn.ntmps,[]⟩ (wg 0 args) { tmps:=args.toArray++Array.replicate (fn.ntmps-args.toArray.size) undef,defers:=[] }:=by
   refine ⟨by simp; omega,rfl,λs v hv=>?_⟩;obtain ⟨_,h2⟩:=yw args 0 s v hv;have m:s<args.length:=by
    rcases cj9 s args.length with h | h
    ·exact h
    ·simp only [Nat.sub_zero] at h2; rw [bv9 h] at h2; cases h2
   simp only [Nat.sub_zero] at h2;simp [Array.getD_eq_getD_getElem?,Array.getElem?_append,m];rw [ad9 m] at h2;exact bb9 h2
  intro w z;have n:cW P c (λx a h=>(x=.normal\/x=.ret)/\a.defers=[]/\∃ d,WH P h a.tmps fn.results.toList d/\K (one d) h) { tmps:=args.toArray++Array.replicate (fn.ntmps-args.toArray.size) undef,defers:=[] } h:=by
   refine O3 (rok t) 100000 c (wg 0 args) _ [] K _ _ h ?_ ht g;intro x e a h B C i k fr;cases x <;> simp only at i <;> first | exact i.elim | skip
   ·obtain ⟨d,hk,b⟩:=ux k i;exact ⟨.inl rfl,k.defers,d,b,hk⟩
   ·obtain ⟨d,hk,b⟩:=ux k i;exact ⟨.inr rfl,k.defers,d,b,hk⟩
  refine calls_of_wp u l (Code.wp_mono ?_ (n w w (dO.refl w) z));rintro x a w' ⟨h1,i,q,d,b,hk⟩;obtain ⟨h2,A⟩:=tj b hk;obtain ⟨v,o,p,m,r⟩:=qJ _ w' _ h2
  have:=Kh _ A w' v o p
  subst this;rcases i with rfl | rfl
  ·exact ⟨q,v,p,v,rfl,h1,r⟩
  ·exact ⟨q,v,p,v,rfl,h1,r⟩
end res
open Go.Proofs in
abbrev aR (n : Int) (l : Nat) (p : Xac) (k : Xax -> T) : T := T.need (((0 : Int) <= n) /\ (n < (l : Int))) (T.bh p k)
open Go.Proofs in
abbrev aY (n : Int) : Xab := .int .i64 (IntKind.wrap .i64 (n + (1 : Int)))
open Go.Proofs in
abbrev bz (a : Int) (b : Nat) (t u : T) : T := cond (decide (a < (b : Int))) t u
open Go.Proofs in
abbrev aK (n : Int) (k : Nat) : Nat := Int.toNat n * k
open Go.Proofs in
abbrev bj (f : FuncId) (l : List Xab) (k : Bool -> T) : T := T.call Tryz.prog f l false [(false, [.bool])] k
open Go.Proofs in
abbrev cY (f : FuncId) (l : List Xab) (k : Int -> T) : T := T.call Tryz.prog f l false [(false, [.int .i64])] k
open Go.Proofs in
abbrev fo (f : FuncId) (l : List Xab) (k : Xaa -> T) : T := T.call Tryz.prog f l false [(false, [.string])] k
open Go.Proofs in
abbrev cv := @T.call Tryz.prog
open Go.Proofs in
abbrev ja (s : Sem Xab) (k : Bool -> T) : T := T.dP Tryz.prog s false [(false, [.bool])] k
open Go.Proofs in
abbrev bg (s : Sem Xab) (k : Xac -> Nat -> Nat -> T) : T := T.dP Tryz.prog s false [(false, [.slice 0])] k
open Go.Proofs in
abbrev dp := @T.dP Tryz.prog
open Go.Proofs in
abbrev bY := IntKind.wrap .i64
open Go.Proofs in
abbrev IT (n : Int) (l : Nat) : Prop := ((0 : Int) <= n) /\ (n < (l : Int))
open Go.Proofs in
abbrev jc (k : Int) (l : Nat) : Prop := ((0 : Int) <= k) /\ (k < (l : Int))
open Go.Proofs in
abbrev aE (n : Int) : Xab := .int .u32 n
open Go.Proofs in
abbrev bR (l : Array Xab) : T := T.ret (.tuple l)
open Go.Proofs in
abbrev abF (n : BitVec 8) : UInt8 := { toBitVec := n }
open Go.Proofs in
abbrev cC : T := T.ret (.bool false)
open Go.Proofs in
abbrev fR : T := T.ret (.bool true)
open Go.Proofs in
abbrev bm : Xab := .slice none 0 0
open Go.Proofs in
abbrev bZ : Xab := .string ⟨#[]⟩
open Go.Proofs in
abbrev aS : ez := (false, [.int .i64])
open Go.Proofs in
abbrev cH : ez := (false, [.bool])
open Go.Proofs in
abbrev fH : ez := (false, [.slice 0])
end Go.Sx
