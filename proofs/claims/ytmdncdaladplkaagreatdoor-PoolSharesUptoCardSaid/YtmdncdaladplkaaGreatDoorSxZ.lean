/- Part of the framework. No condition. -/
import Derived.Test.YtmdncdaladplkaaGreatDoorSxQ
set_option linter.all false
set_option maxHeartbeats 4000000
namespace Go.Sx.Cr
noncomputable section
def addrIn (p:Nat->Bool):Xac->Bool
 | none=>true
 | some a=>p a.block
def CD (p:Nat->Bool):Nat->Xab->Bool
 | 0,_=>false
 | n+1,v=>match v with
  | .pointer a=>addrIn p a
  | .slice a _ _=>addrIn p a
  | .map none=>true
  | .map (some b)=>p b
  | .func _ ⟨a⟩ ⟨c⟩=>a.all (CD p n) && c.all (CD p n)
  | .iface _ v=>CD p n v
  | .agg ⟨l⟩=>l.all (CD p n)
  | .tuple ⟨l⟩=>l.all (CD p n)
  | _=>true
def ZX (p:Nat->Bool):AO->Bool
 | .row c _ _=>c.all (CD p 9)
 | .xK d=>d.all fun q=>CD p 9 q.2
 | .zN d=>d.all fun q=>CD p 9 q.2
 | .zM d=>d.all fun q=>CD p 9 q.2
 | .gone=>true
abbrev SL1:=List (Nat × Xab)
abbrev ZU:=List (Nat × AO)
def Vl {α:Type}:List (Nat × α)->dY α
 | []=>.nil
 | q::l=>(Vl l).put q.1 q.2
def rZ:Nat->dY AO->dY AO
 | 0,t=>t
 | n+1,t=>(rZ n t).put n .gone
def YB (C:Cx) (a:ZU):dY AO:=rZ C.ng (Vl a)
def N7 (σ:dY AO) (b:Nat):Bool:=(σ.get b).isSome
def X5 (e:Ev) (p:Nat->Bool) (q:Nat × Xab):Bool:=(e.get q.1).elim false fun v=>sE 9 v q.2 && CD p 9 q.2
def YQ (C:Cx) (σ:dY AO) (p:Nat->Bool) (q:Nat × AO):Bool:=Nat.ble C.ng q.1 && (σ.get q.1).elim false fun o=>RM o q.2 && ZX p q.2
def V7 (C:Cx) (e:Ev) (σ:dY AO) (b:SL1) (a:ZU):Bool :=
 b.all (X5 e (N7 (YB C a))) && a.all (YQ C σ (N7 (YB C a)))
theorem vh (t:dY AO):∀ (n b:Nat),(rZ n t).get b=if b<n then some .gone else t.get b
 | 0,b=>by simp [rZ]
 | n+1,b=>by
  simp only [rZ];rw [dY.xv,vh t n b]
  by_cases h:b=n
  ·rw [ag9 h,ag9 ad]
  ·rw [ac9 h]
   by_cases h2:b<n
   ·rw [ag9 h2,ag9 ad]
   ·rw [ac9 h2,ac9 ad]
section
variable {C:Cx} {h0:Hp} {ρ:iv} {σ:dY AO} {h:Hp} {e:Ev} {e':Env}
end
def behind:Nat->Code->Code
 | 0,c=>c
 | k+1,.seq _ b=>behind k b
 | _+1,c=>c
def Xz (C:Cx) (call:gJ) (n:Nat) (c:SL1) (d:ZU):Nat->Code->Ev->CS->Bool
 | 0,_,e,s=>V7 C e s.σ c d
 | k+1,.seq a b,e,s=>(mY C call n 1000 a e s).elim false fun (x,e,s)=>xD x && Xz C call n c d k b e s
 | _+1,_,_,_=>false
def Rj (C:Cx) (call:gJ) (fn:Func) (v:Xab) (c:Code) (e:Ev) (s:CS):Bool :=
 (mY C call fn.ntmps 1000 c e s).elim false fun (x,e,s)=>returns x && (My C s e fn.results.toList).elim false fun l=>sE 9 (one l) v
def Vy (C:Cx) (h0:Hp) (fn:Func) (v:Xab):Exit->Act->Hp->Prop :=
 fun x a h'=>(x=.normal\/x=.ret)/\a.defers=[]/\∃ us,VT C.P h' a.tmps fn.results.toList us/\one us=v/\Ext h0 h'
variable {H:Cx}
def Rel.YT {h0:Hp} {ρ:iv} {σ:dY AO} {h:Hp} (R:Rel H h0 ρ σ h):Ext h0 h:=⟨R.size,fun i hi _=>R.base i hi⟩
variable {O:Code}
def R9 {h0:Hp} (b:Ok H) (n:H.P.follows .mixedOrders=true) {call:gJ} (o:ov H h0 call) {fn:Func} {v:Xab} (hv:fU 9 v=true) {e:Ev} {s:CS}
  (hx:Rj H call fn v O e s=true):∀ ρ d a h,Rel H h0 ρ s.σ h->ER ρ e d->ix ⟨fn.ntmps,[]⟩ d a->cW H.P O (Vy H h0 fn v) a h:=by
 intro ρ d a h R p g;unfold Rj at hx;cases hc:mY H call fn.ntmps 1000 O e s with
 | none=>rw [hc] at hx; cases hx
 | some r =>
  obtain ⟨x,f,i⟩:=r;rw [hc] at hx;have hx:(returns x && (My H i f fn.results.toList).elim false fun l=>sE 9 (one l) v)=true:=hx;simp only [Bool.and_eq_true] at hx;obtain ⟨q,hx⟩:=hx;cases hl:My H i f fn.results.toList with
  | none=>rw [hl] at hx; cases hx
  | some l =>
   rw [hl] at hx;have hx:=j8 9 _ _ (show sE 9 (one l) v=true from hx);refine GF b n o 1000 O e s x f i hc ρ d a h _ R p g ?_;intro ρ1 z A h1 le k j m;refine ⟨?_,m.defers,?_⟩
   ·cases x <;> first | exact .inl rfl | exact .inr rfl | (cases q; done)
   ·obtain ⟨l',t,u⟩:=EJ (K:=fun _ _=>True) k j hl;obtain ⟨us,w,y⟩:=tN m (u (fun us _ _ _=>us=l') rfl);subst w;refine ⟨us,y,?_,k.YT⟩
    have:=Ph t
    rw [hx] at this;exact this.inj (tB 9 v hv)
def P6 {C:Cx} {h0:Hp} {f:FuncId} {fn:Func} {v:Xab} (m:C.P.funcs[f]?=some fn) (n:fn.body=some O)
  (hc:∀ j a,ER (fun b=>if b<C.ng then some ⟨b,0,0⟩ else none) .nil j->ix ⟨fn.ntmps,[]⟩ j a->cW C.P O (Vy C h0 fn v) a h0):HC C.P f #[] h0 fun v' h'=>v'=v/\Ext h0 h':=by
 have g:ix ⟨fn.ntmps,[]⟩ (vu 0 []) { tmps:=#[]++Array.replicate (fn.ntmps-0) undef,defers:=[] }:=⟨aj,rfl,fun s v hv=>by simp [vu,da] at hv⟩
 have hcw:=hc (vu 0 []) _ (fun t v ht=>by simp [dY.get_nil] at ht) g;intro w o;refine calls_of_wp m n (Code.wp_mono ?_ (hcw w w (dM.refl w) o));rintro x a w' ⟨h1,p,k,us,d,hk,e⟩;obtain ⟨h2,q⟩:=sD (K:=fun v' h'=>v'=v/\Ext h0 h') d ⟨hk,e⟩;obtain ⟨v',h,i,r,l⟩:=qc _ w' _ h2
 have:=JE _ q w' v' h i
 subst this;rcases p with rfl | rfl
 ·exact ⟨k,v',i,v',rfl,h1,l⟩
 ·exact ⟨k,v',i,v',rfl,h1,l⟩
def MZ {h0:Hp} (j:∀ b c,H.ro b=some c->b<H.ng/\∃ cs e f,h0[b]?=some (.cells cs e f)/\∀ (i:Nat) (v:Xab),c[i]?=some v->cs[i]?=some v/\fU 9 v=true) :
  Rel H h0 (fun b=>if b<H.ng then some ⟨b,0,0⟩ else none) (rZ H.ng .nil) h0:=by
 have d:∀ b o,(rZ H.ng .nil).get b=some o->b<H.ng/\o=.gone:=by
  intro b o a;rw [vh] at a
  by_cases h:b<H.ng
  ·rw [ag9 h] at a; cases a; exact ⟨h,rfl⟩
  ·rw [ac9 h,dY.get_nil] at a; cases a
 refine ⟨fun g d=>by simp [d],j,aq9 _,fun _ _=>rfl,fun b o a=>?_,fun b b' o o' pl pl' a k hl l _ _ _=>?_,fun b a=>?_⟩
 ·obtain ⟨h1,rfl⟩:=d b o a;exact ⟨⟨b,0,0⟩,by simp [h1],trivial⟩
 ·obtain ⟨_,rfl⟩:=d b o a;cases hl
 ·rw [vh] at a
  by_cases h:b<H.ng
  ·rw [ag9 h] at a; cases a
  ·simp [h]
end
end Go.Sx.Cr
