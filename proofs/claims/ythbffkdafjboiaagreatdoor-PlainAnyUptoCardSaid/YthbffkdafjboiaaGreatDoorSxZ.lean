/- Part of the framework. No condition. -/
import Derived.Test.YthbffkdafjboiaaGreatDoorSxQ
set_option linter.all false
set_option maxHeartbeats 4000000
namespace Go.Sx.Cr
noncomputable section
def addrIn (p:Nat->Bool):Xac->Bool
 | none=>true
 | some a=>p a.block
def Bu (p:Nat->Bool):Nat->Xab->Bool
 | 0,_=>false
 | n+1,v=>match v with
  | .pointer a=>addrIn p a
  | .slice a _ _=>addrIn p a
  | .map none=>true
  | .map (some b)=>p b
  | .func _ ⟨a⟩ ⟨c⟩=>a.all (Bu p n) && c.all (Bu p n)
  | .iface _ v=>Bu p n v
  | .agg ⟨l⟩=>l.all (Bu p n)
  | .tuple ⟨l⟩=>l.all (Bu p n)
  | _=>true
def Xs (p:Nat->Bool):AO->Bool
 | .row c _ _=>c.all (Bu p 9)
 | .wJ d=>d.all fun q=>Bu p 9 q.2
 | .yF d=>d.all fun q=>Bu p 9 q.2
 | .yE d=>d.all fun q=>Bu p 9 q.2
 | .gone=>true
abbrev XY:=List (Nat × Xab)
abbrev Xp:=List (Nat × AO)
def Ta {α:Type}:List (Nat × α)->dL α
 | []=>.nil
 | q::l=>(Ta l).put q.1 q.2
def rf:Nat->dL AO->dL AO
 | 0,t=>t
 | n+1,t=>(rf n t).put n .gone
def V3 (C:Cx) (d:Xp):dL AO:=rf C.ng (Ta d)
def L0 (σ:dL AO) (b:Nat):Bool:=(σ.get b).isSome
def VB (e:Ev) (p:Nat->Bool) (q:Nat × Xab):Bool:=(e.get q.1).elim false fun v=>rB 9 v q.2 && Bu p 9 q.2
def Wg (C:Cx) (σ:dL AO) (p:Nat->Bool) (q:Nat × AO):Bool:=Nat.ble C.ng q.1 && (σ.get q.1).elim false fun o=>Ps o q.2 && Xs p q.2
def TT (C:Cx) (e:Ev) (σ:dL AO) (j:XY) (d:Xp):Bool :=
 j.all (VB e (L0 (V3 C d))) && d.all (Wg C σ (L0 (V3 C d)))
theorem uo (t:dL AO):∀ (n b:Nat),(rf n t).get b=if b<n then some .gone else t.get b
 | 0,b=>by simp [rf]
 | n+1,b=>by
  simp only [rf];rw [dL.wu,uo t n b]
  by_cases h:b=n
  ·rw [YC h,YC ad]
  ·rw [Yx h]
   by_cases h2:b<n
   ·rw [YC h2,YC ad]
   ·rw [Yx h2,Yx ad]
section
variable {C:Cx} {h0:Hp} {ρ:gF} {σ:dL AO} {h:Hp} {e:Ev} {e':Env}
end
def behind:Nat->Code->Code
 | 0,c=>c
 | k+1,.seq _ b=>behind k b
 | _+1,c=>c
def Vb (C:Cx) (call:fY) (n:Nat) (d:XY) (j:Xp):Nat->Code->Ev->CS->Bool
 | 0,_,e,s=>TT C e s.σ d j
 | k+1,.seq a b,e,s=>(mw C call n 1000 a e s).elim false fun (x,e,s)=>wC x && Vb C call n d j k b e s
 | _+1,_,_,_=>false
def OX (C:Cx) (call:fY) (fn:Func) (v:Xab) (c:Code) (e:Ev) (s:CS):Bool :=
 (mw C call fn.ntmps 1000 c e s).elim false fun (x,e,s)=>returns x && (Kx C s e fn.results.toList).elim false fun l=>rB 9 (one l) v
def Tp (C:Cx) (h0:Hp) (fn:Func) (v:Xab):Exit->Act->Hp->Prop :=
 fun x a h'=>(x=.normal\/x=.ret)/\a.defers=[]/\∃ us,TE C.P h' a.tmps fn.results.toList us/\one us=v/\Ext h0 h'
def Rel.Wk {C:Cx} {h0:Hp} {ρ:gF} {σ:dL AO} {h:Hp} (R:Rel C h0 ρ σ h):Ext h0 h:=⟨R.size,fun i hi _=>R.base i hi⟩
def PP {C:Cx} {h0:Hp} (O:Ok C) (hm:C.P.follows .mixedOrders=true) {call:fY} (F:nT C h0 call) {fn:Func} {v:Xab} (hv:fD 9 v=true) {c:Code} {e:Ev} {s:CS}
  (hx:OX C call fn v c e s=true):∀ ρ e' a h,Rel C h0 ρ s.σ h->ER ρ e e'->gK ⟨fn.ntmps,[]⟩ e' a->cW C.P c (Tp C h0 fn v) a h:=by
 intro ρ e' a h R G g;unfold OX at hx;cases hc:mw C call fn.ntmps 1000 c e s with
 | none=>rw [hc] at hx; cases hx
 | some r =>
  obtain ⟨x,e2,d⟩:=r;rw [hc] at hx;have hx:(returns x && (Kx C d e2 fn.results.toList).elim false fun l=>rB 9 (one l) v)=true:=hx;simp only [Bool.and_eq_true] at hx;obtain ⟨J,hx⟩:=hx;cases hl:Kx C d e2 fn.results.toList with
  | none=>rw [hl] at hx; cases hx
  | some l =>
   rw [hl] at hx;have hx:=jP 9 _ _ (show rB 9 (one l) v=true from hx);refine Fc O hm F 1000 c e s x e2 d hc ρ e' a h _ R G g ?_;intro ρ1 U V h1 le u j g1;refine ⟨?_,g1.defers,?_⟩
   ·cases x <;> first | exact .inl rfl | exact .inr rfl | (cases J; done)
   ·obtain ⟨l',h3,h4⟩:=Ds (K:=fun _ _=>True) u j hl;obtain ⟨us,h5,h6⟩:=sP g1 (h4 (fun us _ _ _=>us=l') rfl);subst h5;refine ⟨us,h6,?_,u.Wk⟩
    have:=M8 h3
    rw [hx] at this;exact this.inj (sF 9 v hv)
def NT {C:Cx} {h0:Hp} {f:FuncId} {fn:Func} {c:Code} {v:Xab} (U:C.P.funcs[f]?=some fn) (V:fn.body=some c)
  (hc:∀ e' a,ER (fun b=>if b<C.ng then some ⟨b,0,0⟩ else none) .nil e'->gK ⟨fn.ntmps,[]⟩ e' a->cW C.P c (Tp C h0 fn v) a h0):HC C.P f #[] h0 fun v' h'=>v'=v/\Ext h0 h':=by
 have g:gK ⟨fn.ntmps,[]⟩ (uy 0 []) { tmps:=#[]++Array.replicate (fn.ntmps-0) undef,defers:=[] }:=⟨aj,rfl,fun s v hv=>by simp [uy,cQ] at hv⟩
 have u:=hc (uy 0 []) _ (fun t v X=>by simp [dL.get_nil] at X) g;intro w hw;refine calls_of_wp U V (Code.wp_mono ?_ (u w w (dK.refl w) hw));rintro x a w' ⟨h1,hx,J,us,d,hk,j⟩;obtain ⟨h2,h3⟩:=rA (K:=fun v' h'=>v'=v/\Ext h0 h') d ⟨hk,j⟩;obtain ⟨v',F,G,hs,O⟩:=pz _ w' _ h2
 have:=HR _ h3 w' v' F G
 subst this;rcases hx with rfl | rfl
 ·exact ⟨J,v',G,v',rfl,h1,O⟩
 ·exact ⟨J,v',G,v',rfl,h1,O⟩
def KV {C:Cx} {h0:Hp} (u:∀ b c,C.ro b=some c->b<C.ng/\∃ cs e f,h0[b]?=some (.cells cs e f)/\∀ (i:Nat) (v:Xab),c[i]?=some v->cs[i]?=some v/\fD 9 v=true) :
  Rel C h0 (fun b=>if b<C.ng then some ⟨b,0,0⟩ else none) (rf C.ng .nil) h0:=by
 have j:∀ b o,(rf C.ng .nil).get b=some o->b<C.ng/\o=.gone:=by
  intro b o d;rw [uo] at d
  by_cases h:b<C.ng
  ·rw [YC h] at d; cases d; exact ⟨h,rfl⟩
  ·rw [Yx h,dL.get_nil] at d; cases d
 refine ⟨fun g j=>by simp [j],u,YI _,fun _ _=>rfl,fun b o d=>?_,fun b b' o o' pl pl' d F hl G _ _ _=>?_,fun b d=>?_⟩
 ·obtain ⟨h1,rfl⟩:=j b o d;exact ⟨⟨b,0,0⟩,by simp [h1],trivial⟩
 ·obtain ⟨_,rfl⟩:=j b o d;cases hl
 ·rw [uo] at d
  by_cases h:b<C.ng
  ·rw [YC h] at d; cases d
  ·simp [h]
end
end Go.Sx.Cr
