/- Part of the framework. No condition. -/
import Derived.Test.YthbffkdafjboiaaGreatDoorSxQ
set_option linter.all false
set_option maxHeartbeats 4000000
namespace Go.Sx.Cr
noncomputable section
def addrIn (p:Nat->Bool):ZC->Bool
 | none=>true
 | some a=>p a.block
def AF (p:Nat->Bool):Nat->ZB->Bool
 | 0,_=>false
 | n+1,v=>match v with
  | .pointer a=>addrIn p a
  | .slice a _ _=>addrIn p a
  | .map none=>true
  | .map (some b)=>p b
  | .func _ ⟨a⟩ ⟨c⟩=>a.all (AF p n) && c.all (AF p n)
  | .iface _ v=>AF p n v
  | .agg ⟨l⟩=>l.all (AF p n)
  | .tuple ⟨l⟩=>l.all (AF p n)
  | _=>true
def VY (p:Nat->Bool):AO->Bool
 | .row c _ _=>c.all (AF p 9)
 | .vL d=>d.all fun q=>AF p 9 q.2
 | .xW d=>d.all fun q=>AF p 9 q.2
 | .xV d=>d.all fun q=>AF p 9 q.2
 | .gone=>true
abbrev Wv:=List (Nat × ZB)
abbrev VV:=List (Nat × AO)
def Rr {α:Type}:List (Nat × α)->dI α
 | []=>.nil
 | q::l=>(Rr l).put q.1 q.2
def qw:Nat->dI AO->dI AO
 | 0,t=>t
 | n+1,t=>(qw n t).put n .gone
def UA (C:Cx) (ol:VV):dI AO:=qw C.ng (Rr ol)
def KK (σ:dI AO) (b:Nat):Bool:=(σ.get b).isSome
def T9 (e:Ev) (p:Nat->Bool) (q:Nat × ZB):Bool:=(e.get q.1).elim false fun v=>qJ 9 v q.2 && AF p 9 q.2
def UQ (C:Cx) (σ:dI AO) (p:Nat->Bool) (q:Nat × AO):Bool:=Nat.ble C.ng q.1 && (σ.get q.1).elim false fun o=>N4 o q.2 && VY p q.2
def R8 (C:Cx) (e:Ev) (σ:dI AO) (el:Wv) (ol:VV):Bool :=
 el.all (T9 e (KK (UA C ol))) && ol.all (UQ C σ (KK (UA C ol)))
theorem tC (t:dI AO):∀ (n b:Nat),(qw n t).get b=if b<n then some .gone else t.get b
 | 0,b=>by simp [qw]
 | n+1,b=>by
  simp only [qw];rw [dI.vp,tC t n b]
  by_cases h:b=n
  ·rw [Xb h,Xb ad]
  ·rw [W6 h]
   by_cases h2:b<n
   ·rw [Xb h2,Xb ad]
   ·rw [W6 h2,W6 ad]
section
variable {C:Cx} {h0:Hp} {ρ:gn} {σ:dI AO} {h:Hp} {e:Ev} {e':Env}
end
def behind:Nat->Code->Code
 | 0,c=>c
 | k+1,.seq _ b=>behind k b
 | _+1,c=>c
def TG (C:Cx) (call:fV) (n:Nat) (el:Wv) (ol:VV):Nat->Code->Ev->CS->Bool
 | 0,_,e,s=>R8 C e s.σ el ol
 | k+1,.seq a b,e,s=>(lN C call n 1000 a e s).elim false fun (x,e,s)=>vB x && TG C call n el ol k b e s
 | _+1,_,_,_=>false
def NF (C:Cx) (call:fV) (fn:Func) (v:ZB) (c:Code) (e:Ev) (s:CS):Bool :=
 (lN C call fn.ntmps 1000 c e s).elim false fun (x,e,s)=>returns x && (Jx C s e fn.results.toList).elim false fun l=>qJ 9 (one l) v
def RD (C:Cx) (h0:Hp) (fn:Func) (v:ZB):Exit->Act->Hp->Prop :=
 fun x a h'=>(x=.normal\/x=.ret)/\a.defers=[]/\∃ us,RV C.P h' a.tmps fn.results.toList us/\one us=v/\Ext h0 h'
def Rel.UT {C:Cx} {h0:Hp} {ρ:gn} {σ:dI AO} {h:Hp} (R:Rel C h0 ρ σ h):Ext h0 h:=⟨R.size,fun i hi _=>R.base i hi⟩
def Oo {C:Cx} {h0:Hp} (O:Ok C) (hm:C.P.follows .mixedOrders=true) {call:fV} (CO:mZ C h0 call) {fn:Func} {v:ZB} (hv:fA 9 v=true) {c:Code} {e:Ev} {s:CS}
  (hx:NF C call fn v c e s=true):∀ ρ e' a h,Rel C h0 ρ s.σ h->ER ρ e e'->gu ⟨fn.ntmps,[]⟩ e' a->cW C.P c (RD C h0 fn v) a h:=by
 intro ρ e' a h R er g;unfold NF at hx;cases hc:lN C call fn.ntmps 1000 c e s with
 | none=>rw [hc] at hx; cases hx
 | some r =>
  obtain ⟨x,e2,s2⟩:=r;rw [hc] at hx;have hx:(returns x && (Jx C s2 e2 fn.results.toList).elim false fun l=>qJ 9 (one l) v)=true:=hx;simp only [Bool.and_eq_true] at hx;obtain ⟨hr,hx⟩:=hx;cases hl:Jx C s2 e2 fn.results.toList with
  | none=>rw [hl] at hx; cases hx
  | some l =>
   rw [hl] at hx;have hx:=jA 9 _ _ (show qJ 9 (one l) v=true from hx);refine Ee O hm CO 1000 c e s x e2 s2 hc ρ e' a h _ R er g ?_;intro ρ1 e3 a1 h1 le R1 er1 g1;refine ⟨?_,g1.defers,?_⟩
   ·cases x <;> first | exact .inl rfl | exact .inr rfl | (cases hr; done)
   ·obtain ⟨l',h3,h4⟩:=CC (K:=fun _ _=>True) R1 er1 hl;obtain ⟨us,h5,h6⟩:=rT g1 (h4 (fun us _ _ _=>us=l') rfl);subst h5;refine ⟨us,h6,?_,R1.UT⟩
    have:=LX h3
    rw [hx] at this;exact this.inj (rI 9 v hv)
def MD {C:Cx} {h0:Hp} {f:FuncId} {fn:Func} {c:Code} {v:ZB} (hf:C.P.funcs[f]?=some fn) (hb:fn.body=some c)
  (hc:∀ e' a,ER (fun b=>if b<C.ng then some ⟨b,0,0⟩ else none) .nil e'->gu ⟨fn.ntmps,[]⟩ e' a->cW C.P c (RD C h0 fn v) a h0):HC C.P f #[] h0 fun v' h'=>v'=v/\Ext h0 h':=by
 have g:gu ⟨fn.ntmps,[]⟩ (tI 0 []) { tmps:=#[]++Array.replicate (fn.ntmps-0) undef,defers:=[] }:=⟨aj,rfl,fun s v hv=>by simp [tI,cM] at hv⟩
 have hcw:=hc (tI 0 []) _ (fun t v ht=>by simp [dI.get_nil] at ht) g;intro w hw;refine calls_of_wp hf hb (Code.wp_mono ?_ (hcw w w (dG.refl w) hw));rintro x a w' ⟨h1,hx,hd,us,hres,hk,hext⟩;obtain ⟨h2,h3⟩:=qI (K:=fun v' h'=>v'=v/\Ext h0 h') hres ⟨hk,hext⟩;obtain ⟨v',w'',hr,hs,hR⟩:=oF _ w' _ h2
 have:=G0 _ h3 w' v' w'' hr
 subst this;rcases hx with rfl | rfl
 ·exact ⟨hd,v',hr,v',rfl,h1,hR⟩
 ·exact ⟨hd,v',hr,v',rfl,h1,hR⟩
def JU {C:Cx} {h0:Hp} (hro:∀ b c,C.ro b=some c->b<C.ng/\∃ cs e f,h0[b]?=some (.cells cs e f)/\∀ (i:Nat) (v:ZB),c[i]?=some v->cs[i]?=some v/\fA 9 v=true) :
  Rel C h0 (fun b=>if b<C.ng then some ⟨b,0,0⟩ else none) (qw C.ng .nil) h0:=by
 have hg:∀ b o,(qw C.ng .nil).get b=some o->b<C.ng/\o=.gone:=by
  intro b o hb;rw [tC] at hb
  by_cases h:b<C.ng
  ·rw [Xb h] at hb; cases hb; exact ⟨h,rfl⟩
  ·rw [W6 h,dI.get_nil] at hb; cases hb
 refine ⟨fun g hg=>by simp [hg],hro,Xk _,fun _ _=>rfl,fun b o hb=>?_,fun b b' o o' pl pl' hb hb' hl hl' _ _ _=>?_,fun b hb=>?_⟩
 ·obtain ⟨h1,rfl⟩:=hg b o hb;exact ⟨⟨b,0,0⟩,by simp [h1],trivial⟩
 ·obtain ⟨_,rfl⟩:=hg b o hb;cases hl
 ·rw [tC] at hb
  by_cases h:b<C.ng
  ·rw [Xb h] at hb; cases hb
  ·simp [h]
end
end Go.Sx.Cr
