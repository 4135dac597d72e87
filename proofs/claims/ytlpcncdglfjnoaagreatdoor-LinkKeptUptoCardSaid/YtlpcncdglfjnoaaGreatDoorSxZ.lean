/- Part of the framework. No condition. -/
import Derived.Test.YtlpcncdglfjnoaaGreatDoorSxQ
set_option linter.all false
set_option maxHeartbeats 4000000
namespace Go.Sx.Cr
noncomputable section
def addrIn (p:Nat->Bool):Xac->Bool
 | none=>true
 | some a=>p a.block
def Cm (p:Nat->Bool):Nat->Xab->Bool
 | 0,_=>false
 | n+1,v=>match v with
  | .pointer a=>addrIn p a
  | .slice a _ _=>addrIn p a
  | .map none=>true
  | .map (some b)=>p b
  | .func _ ⟨a⟩ ⟨c⟩=>a.all (Cm p n) && c.all (Cm p n)
  | .iface _ v=>Cm p n v
  | .agg ⟨l⟩=>l.all (Cm p n)
  | .tuple ⟨l⟩=>l.all (Cm p n)
  | _=>true
def XT (p:Nat->Bool):AO->Bool
 | .row c _ _=>c.all (Cm p 9)
 | .xU d=>d.all fun q=>Cm p 9 q.2
 | .zK d=>d.all fun q=>Cm p 9 q.2
 | .zJ d=>d.all fun q=>Cm p 9 q.2
 | .gone=>true
abbrev Yt:=List (Nat × Xab)
abbrev XP:=List (Nat × AO)
def TP {α:Type}:List (Nat × α)->eh α
 | []=>.nil
 | q::l=>(TP l).put q.1 q.2
def sI:Nat->eh AO->eh AO
 | 0,t=>t
 | n+1,t=>(sI n t).put n .gone
def WB (C:Cx) (a:XP):eh AO:=sI C.ng (TP a)
def M4 (σ:eh AO) (b:Nat):Bool:=(σ.get b).isSome
def Wa (e:Ev) (p:Nat->Bool) (q:Nat × Xab):Bool:=(e.get q.1).elim false fun v=>sY 9 v q.2 && Cm p 9 q.2
def WS (C:Cx) (σ:eh AO) (p:Nat->Bool) (q:Nat × AO):Bool:=Nat.ble C.ng q.1 && (σ.get q.1).elim false fun o=>Qh o q.2 && XT p q.2
def Ut (C:Cx) (e:Ev) (σ:eh AO) (b:Yt) (a:XP):Bool :=
 b.all (Wa e (M4 (WB C a))) && a.all (WS C σ (M4 (WB C a)))
theorem vP (t:eh AO):∀ (n b:Nat),(sI n t).get b=if b<n then some .gone else t.get b
 | 0,b=>by simp [sI]
 | n+1,b=>by
  simp only [sI];rw [eh.xG,vP t n b]
  by_cases h:b=n
  ·rw [Y8 h,Y8 ad]
  ·rw [Y1 h]
   by_cases h2:b<n
   ·rw [Y8 h2,Y8 ad]
   ·rw [Y1 h2,Y1 ad]
section
variable {C:Cx} {h0:Hp} {ρ:ix} {σ:eh AO} {h:Hp} {e:Ev} {e':Env}
end
def behind:Nat->Code->Code
 | 0,c=>c
 | k+1,.seq _ b=>behind k b
 | _+1,c=>c
def VI (C:Cx) (call:gU) (n:Nat) (c:Yt) (d:XP):Nat->Code->Ev->CS->Bool
 | 0,_,e,s=>Ut C e s.σ c d
 | k+1,.seq a b,e,s=>(nv C call n 1000 a e s).elim false fun (x,e,s)=>xN x && VI C call n c d k b e s
 | _+1,_,_,_=>false
def PQ (C:Cx) (call:gU) (fn:Func) (v:Xab) (c:Code) (e:Ev) (s:CS):Bool :=
 (nv C call fn.ntmps 1000 c e s).elim false fun (x,e,s)=>returns x && (LC C s e fn.results.toList).elim false fun l=>sY 9 (one l) v
def T4 (C:Cx) (h0:Hp) (fn:Func) (v:Xab):Exit->Act->Hp->Prop :=
 fun x a h'=>(x=.normal\/x=.ret)/\a.defers=[]/\∃ us,Uh C.P h' a.tmps fn.results.toList us/\one us=v/\Ext h0 h'
variable {H:Cx}
def Rel.gives {h0:Hp} {ρ:ix} {σ:eh AO} {h:Hp} (R:Rel H h0 ρ σ h):Ext h0 h:=⟨R.size,fun i hi _=>R.base i hi⟩
variable {I:Code}
def Qy {h0:Hp} (O:Ok H) (m:H.P.follows .mixedOrders=true) {call:gU} (n:oP H h0 call) {fn:Func} {v:Xab} (hv:gd 9 v=true) {e:Ev} {s:CS}
  (hx:PQ H call fn v I e s=true):∀ ρ b a h,Rel H h0 ρ s.σ h->ER ρ e b->iB ⟨fn.ntmps,[]⟩ b a->cW H.P I (T4 H h0 fn v) a h:=by
 intro ρ b a h R o g;unfold PQ at hx;cases hc:nv H call fn.ntmps 1000 I e s with
 | none=>rw [hc] at hx; cases hx
 | some r =>
  obtain ⟨x,d,f⟩:=r;rw [hc] at hx;have hx:(returns x && (LC H f d fn.results.toList).elim false fun l=>sY 9 (one l) v)=true:=hx;simp only [Bool.and_eq_true] at hx;obtain ⟨p,hx⟩:=hx;cases hl:LC H f d fn.results.toList with
  | none=>rw [hl] at hx; cases hx
  | some l =>
   rw [hl] at hx;have hx:=kh 9 _ _ (show sY 9 (one l) v=true from hx);refine Gb O m n 1000 I e s x d f hc ρ b a h _ R o g ?_;intro ρ1 y z h1 le j i k;refine ⟨?_,k.defers,?_⟩
   ·cases x <;> first | exact .inl rfl | exact .inr rfl | (cases p; done)
   ·obtain ⟨l',q,t⟩:=Ep (K:=fun _ _=>True) j i hl;obtain ⟨us,u,w⟩:=ui k (t (fun us _ _ _=>us=l') rfl);subst u;refine ⟨us,w,?_,j.gives⟩
    have:=N7 q
    rw [hx] at this;exact this.inj (tY 9 v hv)
def OP {C:Cx} {h0:Hp} {f:FuncId} {fn:Func} {v:Xab} (m:C.P.funcs[f]?=some fn) (n:fn.body=some I)
  (hc:∀ j a,ER (fun b=>if b<C.ng then some ⟨b,0,0⟩ else none) .nil j->iB ⟨fn.ntmps,[]⟩ j a->cW C.P I (T4 C h0 fn v) a h0):HC C.P f #[] h0 fun v' h'=>v'=v/\Ext h0 h':=by
 have g:iB ⟨fn.ntmps,[]⟩ (vV 0 []) { tmps:=#[]++Array.replicate (fn.ntmps-0) undef,defers:=[] }:=⟨aj,rfl,fun s v hv=>by simp [vV,dc] at hv⟩
 have hcw:=hc (vV 0 []) _ (fun t v o=>by simp [eh.get_nil] at o) g;intro w p;refine calls_of_wp m n (Code.wp_mono ?_ (hcw w w (ec.refl w) p));rintro x a w' ⟨h1,q,k,us,d,hk,e⟩;obtain ⟨h2,r⟩:=sX (K:=fun v' h'=>v'=v/\Ext h0 h') d ⟨hk,e⟩;obtain ⟨v',h,i,u,l⟩:=qy _ w' _ h2
 have:=IV _ r w' v' h i
 subst this;rcases q with rfl | rfl
 ·exact ⟨k,v',i,v',rfl,h1,l⟩
 ·exact ⟨k,v',i,v',rfl,h1,l⟩
def L7 {h0:Hp} (j:∀ b c,H.ro b=some c->b<H.ng/\∃ cs e f,h0[b]?=some (.cells cs e f)/\∀ (i:Nat) (v:Xab),c[i]?=some v->cs[i]?=some v/\gd 9 v=true) :
  Rel H h0 (fun b=>if b<H.ng then some ⟨b,0,0⟩ else none) (sI H.ng .nil) h0:=by
 have d:∀ b o,(sI H.ng .nil).get b=some o->b<H.ng/\o=.gone:=by
  intro b o a;rw [vP] at a
  by_cases h:b<H.ng
  ·rw [Y8 h] at a; cases a; exact ⟨h,rfl⟩
  ·rw [Y1 h,eh.get_nil] at a; cases a
 refine ⟨fun g d=>by simp [d],j,Zc _,fun _ _=>rfl,fun b o a=>?_,fun b b' o o' pl pl' a k hl l _ _ _=>?_,fun b a=>?_⟩
 ·obtain ⟨h1,rfl⟩:=d b o a;exact ⟨⟨b,0,0⟩,by simp [h1],trivial⟩
 ·obtain ⟨_,rfl⟩:=d b o a;cases hl
 ·rw [vP] at a
  by_cases h:b<H.ng
  ·rw [Y8 h] at a; cases a
  ·simp [h]
end
end Go.Sx.Cr
