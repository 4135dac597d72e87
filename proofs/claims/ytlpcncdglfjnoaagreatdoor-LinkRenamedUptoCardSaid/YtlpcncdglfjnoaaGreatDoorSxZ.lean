/- Part of the framework. No condition. -/
import Derived.Test.YtlpcncdglfjnoaaGreatDoorSxQ
set_option linter.all false
set_option maxHeartbeats 4000000
namespace Go.Sx.Cr
noncomputable section
def addrIn (p:Nat->Bool):XC->Bool
 | none=>true
 | some a=>p a.block
def Au (p:Nat->Bool):Nat->XB->Bool
 | 0,_=>false
 | n+1,v=>match v with
  | .pointer a=>addrIn p a
  | .slice a _ _=>addrIn p a
  | .map none=>true
  | .map (some b)=>p b
  | .func _ ⟨a⟩ ⟨c⟩=>a.all (Au p n) && c.all (Au p n)
  | .iface _ v=>Au p n v
  | .agg ⟨l⟩=>l.all (Au p n)
  | .tuple ⟨l⟩=>l.all (Au p n)
  | _=>true
def Uk (p:Nat->Bool):AO->Bool
 | .row c _ _=>c.all (Au p 9)
 | .vW d=>d.all fun q=>Au p 9 q.2
 | .xW d=>d.all fun q=>Au p 9 q.2
 | .xV d=>d.all fun q=>Au p 9 q.2
 | .gone=>true
abbrev UU:=List (Nat × XB)
abbrev Uh:=List (Nat × AO)
def P9 {α:Type}:List (Nat × α)->dF α
 | []=>.nil
 | q::l=>(P9 l).put q.1 q.2
def qf:Nat->dF AO->dF AO
 | 0,t=>t
 | n+1,t=>(qf n t).put n .gone
def Tc (C:Cx) (a:Uh):dF AO:=qf C.ng (P9 a)
def Kg (σ:dF AO) (b:Nat):Bool:=(σ.get b).isSome
def SJ (e:Ev) (p:Nat->Bool) (q:Nat × XB):Bool:=(e.get q.1).elim false fun v=>qw 9 v q.2 && Au p 9 q.2
def Tm (C:Cx) (σ:dF AO) (p:Nat->Bool) (q:Nat × AO):Bool:=Nat.ble C.ng q.1 && (σ.get q.1).elim false fun o=>Nu o q.2 && Uk p q.2
def QM (C:Cx) (e:Ev) (σ:dF AO) (b:UU) (a:Uh):Bool :=
 b.all (SJ e (Kg (Tc C a))) && a.all (Tm C σ (Kg (Tc C a)))
theorem tq (t:dF AO):∀ (n b:Nat),(qf n t).get b=if b<n then some .gone else t.get b
 | 0,b=>by simp [qf]
 | n+1,b=>by
  simp only [qf];rw [dF.vF,tq t n b]
  by_cases h:b=n
  ·rw [VE h,VE ad]
  ·rw [Vu h]
   by_cases h2:b<n
   ·rw [VE h2,VE ad]
   ·rw [Vu h2,Vu ad]
section
variable {C:Cx} {h0:Hp} {ρ:fY} {σ:dF AO} {h:Hp} {e:Ev} {e':Env}
end
def behind:Nat->Code->Code
 | 0,c=>c
 | k+1,.seq _ b=>behind k b
 | _+1,c=>c
def R9 (C:Cx) (call:fL) (n:Nat) (c:UU) (d:Uh):Nat->Code->Ev->CS->Bool
 | 0,_,e,s=>QM C e s.σ c d
 | k+1,.seq a b,e,s=>(lh C call n 1000 a e s).elim false fun (x,e,s)=>vP x && R9 C call n c d k b e s
 | _+1,_,_,_=>false
def M1 (C:Cx) (call:fL) (fn:Func) (v:XB) (c:Code) (e:Ev) (s:CS):Bool :=
 (lh C call fn.ntmps 1000 c e s).elim false fun (x,e,s)=>returns x && (IW C s e fn.results.toList).elim false fun l=>qw 9 (one l) v
def Ql (C:Cx) (h0:Hp) (fn:Func) (v:XB):Exit->Act->Hp->Prop :=
 fun x a h'=>(x=.normal\/x=.ret)/\a.defers=[]/\∃ us,Qy C.P h' a.tmps fn.results.toList us/\one us=v/\Ext h0 h'
variable {H:Cx}
def Rel.gives {h0:Hp} {ρ:fY} {σ:dF AO} {h:Hp} (R:Rel H h0 ρ σ h):Ext h0 h:=⟨R.size,fun i hi _=>R.base i hi⟩
variable {I:Code}
def NM {h0:Hp} (O:Ok H) (m:H.P.follows .mixedOrders=true) {call:fL} (n:mM H h0 call) {fn:Func} {v:XB} (hv:fm 9 v=true) {e:Ev} {s:CS}
  (hx:M1 H call fn v I e s=true):∀ ρ b a h,Rel H h0 ρ s.σ h->ER ρ e b->gd ⟨fn.ntmps,[]⟩ b a->cW H.P I (Ql H h0 fn v) a h:=by
 intro ρ b a h R o g;unfold M1 at hx;cases hc:lh H call fn.ntmps 1000 I e s with
 | none=>rw [hc] at hx; cases hx
 | some r =>
  obtain ⟨x,d,f⟩:=r;rw [hc] at hx;have hx:(returns x && (IW H f d fn.results.toList).elim false fun l=>qw 9 (one l) v)=true:=hx;simp only [Bool.and_eq_true] at hx;obtain ⟨p,hx⟩:=hx;cases hl:IW H f d fn.results.toList with
  | none=>rw [hl] at hx; cases hx
  | some l =>
   rw [hl] at hx;have hx:=jm 9 _ _ (show qw 9 (one l) v=true from hx);refine DU O m n 1000 I e s x d f hc ρ b a h _ R o g ?_;intro ρ1 y z h1 le j i k;refine ⟨?_,k.defers,?_⟩
   ·cases x <;> first | exact .inl rfl | exact .inr rfl | (cases p; done)
   ·obtain ⟨l',q,t⟩:=Cj (K:=fun _ _=>True) j i hl;obtain ⟨us,u,w⟩:=rG k (t (fun us _ _ _=>us=l') rfl);subst u;refine ⟨us,w,?_,j.gives⟩
    have:=Lm q
    rw [hx] at this;exact this.inj (rl 9 v hv)
def L8 {C:Cx} {h0:Hp} {f:FuncId} {fn:Func} {v:XB} (m:C.P.funcs[f]?=some fn) (n:fn.body=some I)
  (hc:∀ j a,ER (fun b=>if b<C.ng then some ⟨b,0,0⟩ else none) .nil j->gd ⟨fn.ntmps,[]⟩ j a->cW C.P I (Ql C h0 fn v) a h0):HC C.P f #[] h0 fun v' h'=>v'=v/\Ext h0 h':=by
 have g:gd ⟨fn.ntmps,[]⟩ (tB 0 []) { tmps:=#[]++Array.replicate (fn.ntmps-0) undef,defers:=[] }:=⟨ah,rfl,fun s v hv=>by simp [tB,cQ] at hv⟩
 have hcw:=hc (tB 0 []) _ (fun t v o=>by simp [dF.get_nil] at o) g;intro w p;refine calls_of_wp m n (Code.wp_mono ?_ (hcw w w (dG.refl w) p));rintro x a w' ⟨h1,q,k,us,d,hk,e⟩;obtain ⟨h2,r⟩:=qu (K:=fun v' h'=>v'=v/\Ext h0 h') d ⟨hk,e⟩;obtain ⟨v',h,i,u,l⟩:=ov _ w' _ h2
 have:=GJ _ r w' v' h i
 subst this;rcases q with rfl | rfl
 ·exact ⟨k,v',i,v',rfl,h1,l⟩
 ·exact ⟨k,v',i,v',rfl,h1,l⟩
def Jm {h0:Hp} (j:∀ b c,H.ro b=some c->b<H.ng/\∃ cs e f,h0[b]?=some (.cells cs e f)/\∀ (i:Nat) (v:XB),c[i]?=some v->cs[i]?=some v/\fm 9 v=true) :
  Rel H h0 (fun b=>if b<H.ng then some ⟨b,0,0⟩ else none) (qf H.ng .nil) h0:=by
 have d:∀ b o,(qf H.ng .nil).get b=some o->b<H.ng/\o=.gone:=by
  intro b o a;rw [tq] at a
  by_cases h:b<H.ng
  ·rw [VE h] at a; cases a; exact ⟨h,rfl⟩
  ·rw [Vu h,dF.get_nil] at a; cases a
 refine ⟨fun g d=>by simp [d],j,VL _,fun _ _=>rfl,fun b o a=>?_,fun b b' o o' pl pl' a k hl l _ _ _=>?_,fun b a=>?_⟩
 ·obtain ⟨h1,rfl⟩:=d b o a;exact ⟨⟨b,0,0⟩,by simp [h1],trivial⟩
 ·obtain ⟨_,rfl⟩:=d b o a;cases hl
 ·rw [tq] at a
  by_cases h:b<H.ng
  ·rw [VE h] at a; cases a
  ·simp [h]
end
end Go.Sx.Cr
