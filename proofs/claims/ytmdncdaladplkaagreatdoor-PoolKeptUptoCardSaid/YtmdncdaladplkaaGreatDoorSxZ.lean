/- Part of the framework. No condition. -/
import Derived.Test.YtmdncdaladplkaaGreatDoorSxQ
set_option linter.all false
set_option maxHeartbeats 4000000
namespace Go.Sx.Cr
noncomputable section
def addrIn (p:Nat->Bool):Xac->Bool
 | none=>true
 | some a=>p a.block
def C4 (p:Nat->Bool):Nat->Xab->Bool
 | 0,_=>false
 | n+1,v=>match v with
  | .pointer a=>addrIn p a
  | .slice a _ _=>addrIn p a
  | .map none=>true
  | .map (some b)=>p b
  | .func _ ⟨a⟩ ⟨c⟩=>a.all (C4 p n) && c.all (C4 p n)
  | .iface _ v=>C4 p n v
  | .agg ⟨l⟩=>l.all (C4 p n)
  | .tuple ⟨l⟩=>l.all (C4 p n)
  | _=>true
def aaK (p:Nat->Bool):AO->Bool
 | .row c _ _=>c.all (C4 p 9)
 | .yh d=>d.all λq=>C4 p 9 q.2
 | .Ac d=>d.all λq=>C4 p 9 q.2
 | .Ab d=>d.all λq=>C4 p 9 q.2
 | .gone=>true
abbrev SL1:=List (Nat × Xab)
abbrev SL2:=List (Nat × AO)
def Wa {α:Type}:List (Nat × α)->eb α
 | []=>.nil
 | q::l=>(Wa l).put q.1 q.2
def sP:Nat->eb AO->eb AO
 | 0,t=>t
 | n+1,t=>(sP n t).put n .gone
def Zo (C:Cx) (a:SL2):eb AO:=sP C.ng (Wa a)
def OO (σ:eb AO) (b:Nat):Bool:=(σ.get b).isSome
def YV (e:Ev) (p:Nat->Bool) (q:Nat × Xab):Bool:=(e.get q.1).elim false λv=>tn 9 v q.2 && C4 p 9 q.2
def ZE (C:Cx) (σ:eb AO) (p:Nat->Bool) (q:Nat × AO):Bool:=Nat.ble C.ng q.1 && (σ.get q.1).elim false λo=>SG o q.2 && aaK p q.2
def WW (C:Cx) (e:Ev) (σ:eb AO) (b:SL1) (a:SL2):Bool :=
 b.all (YV e (OO (Zo C a))) && a.all (ZE C σ (OO (Zo C a)))
theorem vY (t:eb AO):∀ (n b:Nat),(sP n t).get b=if b<n then some .gone else t.get b
 | 0,b=>by simp [sP]
 | n+1,b=>by
  simp only [sP];rw [eb.xV,vY t n b]
  by_cases h:b=n
  ·rw [ag9 h,ag9 ad]
  ·rw [ac9 h]
   by_cases h2:b<n
   ·rw [ag9 h2,ag9 ad]
   ·rw [ac9 h2,ac9 ad]
section
variable {C:Cx} {h0:Hp} {ρ:iG} {σ:eb AO} {h:Hp} {e:Ev} {e':Env}
end
def behind:Nat->Code->Code
 | 0,c=>c
 | k+1,.seq _ b=>behind k b
 | _+1,c=>c
def Yo (C:Cx) (call:gY) (n:Nat) (c:SL1) (d:SL2):Nat->Code->Ev->CS->Bool
 | 0,_,e,s=>WW C e s.σ c d
 | k+1,.seq a b,e,s=>(nM C call n 1000 a e s).elim false λ(x,e,s)=>x7 x && Yo C call n c d k b e s
 | _+1,_,_,_=>false
def R4 (C:Cx) (call:gY) (fn:Func) (v:Xab) (c:Code) (e:Ev) (s:CS):Bool :=
 (nM C call fn.ntmps 1000 c e s).elim false λ(x,e,s)=>returns x && (Ni C s e fn.results.toList).elim false λl=>tn 9 (one l) v
def Wo (C:Cx) (h0:Hp) (fn:Func) (v:Xab):Exit->Act->Hp->Prop :=
 λx a h'=>(x=.normal\/x=.ret)/\a.defers=[]/\∃ us,WH C.P h' a.tmps fn.results.toList us/\one us=v/\Ext h0 h'
variable {H:Cx}
def Rel.ZH {h0:Hp} {ρ:iG} {σ:eb AO} {h:Hp} (R:Rel H h0 ρ σ h):Ext h0 h:=⟨R.size,λi hi _=>R.base i hi⟩
variable {O:Code}
def S7 {h0:Hp} (b:Ok H) (n:H.P.follows .mixedOrders=true) {call:gY} (o:oU H h0 call) {fn:Func} {v:Xab} (hv:gi 9 v=true) {e:Ev} {s:CS}
  (hx:R4 H call fn v O e s=true):∀ ρ d a h,Rel H h0 ρ s.σ h->ER ρ e d->iI ⟨fn.ntmps,[]⟩ d a->cW H.P O (Wo H h0 fn v) a h:=by
 intro ρ d a h R p g;unfold R4 at hx;cases hc:nM H call fn.ntmps 1000 O e s with
 | none=>rw [hc] at hx; cases hx
 | some r =>
  obtain ⟨x,f,i⟩:=r;rw [hc] at hx;have hx:(returns x && (Ni H i f fn.results.toList).elim false λl=>tn 9 (one l) v)=true:=hx;simp only [Bool.and_eq_true] at hx;obtain ⟨q,hx⟩:=hx;cases hl:Ni H i f fn.results.toList with
  | none=>rw [hl] at hx; cases hx
  | some l =>
   rw [hl] at hx;have hx:=kF 9 _ _ (show tn 9 (one l) v=true from hx);refine Hc b n o 1000 O e s x f i hc ρ d a h _ R p g ?_;intro ρ1 z A h1 le k j m;refine ⟨?_,m.defers,?_⟩
   ·cases x <;> first | exact .inl rfl | exact .inr rfl | (cases q; done)
   ·obtain ⟨l',t,u⟩:=Fg (K:=λ_ _=>True) k j hl;obtain ⟨us,w,y⟩:=ux m (u (λus _ _ _=>us=l') rfl);subst w;refine ⟨us,y,?_,k.ZH⟩
    have:=P3 t
    rw [hx] at this;exact this.inj (uf 9 v hv)
def QQ {C:Cx} {h0:Hp} {f:FuncId} {fn:Func} {v:Xab} (m:C.P.funcs[f]?=some fn) (n:fn.body=some O)
  (hc:∀ j a,ER (λb=>if b<C.ng then some ⟨b,0,0⟩ else none) .nil j->iI ⟨fn.ntmps,[]⟩ j a->cW C.P O (Wo C h0 fn v) a h0):HC C.P f #[] h0 λv' h'=>v'=v/\Ext h0 h':=by
 have g:iI ⟨fn.ntmps,[]⟩ (wg 0 []) { tmps:=#[]++Array.replicate (fn.ntmps-0) undef,defers:=[] }:=⟨ai,rfl,λs v hv=>by simp [wg,db] at hv⟩
 have hcw:=hc (wg 0 []) _ (λt v ht=>by simp [eb.get_nil] at ht) g;intro w o;refine calls_of_wp m n (Code.wp_mono ?_ (hcw w w (dO.refl w) o));rintro x a w' ⟨h1,p,k,us,d,hk,e⟩;obtain ⟨h2,q⟩:=tj (K:=λv' h'=>v'=v/\Ext h0 h') d ⟨hk,e⟩;obtain ⟨v',h,i,r,l⟩:=qJ _ w' _ h2
 have:=Kh _ q w' v' h i
 subst this;rcases p with rfl | rfl
 ·exact ⟨k,v',i,v',rfl,h1,l⟩
 ·exact ⟨k,v',i,v',rfl,h1,l⟩
def NL {h0:Hp} (j:∀ b c,H.ro b=some c->b<H.ng/\∃ cs e f,h0[b]?=some (.cells cs e f)/\∀ (i:Nat) (v:Xab),c[i]?=some v->cs[i]?=some v/\gi 9 v=true) :
  Rel H h0 (λb=>if b<H.ng then some ⟨b,0,0⟩ else none) (sP H.ng .nil) h0:=by
 have d:∀ b o,(sP H.ng .nil).get b=some o->b<H.ng/\o=.gone:=by
  intro b o a;rw [vY] at a
  by_cases h:b<H.ng
  ·rw [ag9 h] at a; cases a; exact ⟨h,rfl⟩
  ·rw [ac9 h,eb.get_nil] at a; cases a
 refine ⟨λg d=>by simp [d],j,am9 _,λ_ _=>rfl,λb o a=>?_,λb b' o o' pl pl' a k hl l _ _ _=>?_,λb a=>?_⟩
 ·obtain ⟨h1,rfl⟩:=d b o a;exact ⟨⟨b,0,0⟩,by simp [h1],trivial⟩
 ·obtain ⟨_,rfl⟩:=d b o a;cases hl
 ·rw [vY] at a
  by_cases h:b<H.ng
  ·rw [ag9 h] at a; cases a
  ·simp [h]
end
end Go.Sx.Cr
