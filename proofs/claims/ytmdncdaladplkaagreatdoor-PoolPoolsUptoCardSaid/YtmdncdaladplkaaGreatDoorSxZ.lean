/- Part of the framework. No condition. -/
import Derived.Test.YtmdncdaladplkaaGreatDoorSxQ
set_option linter.all false
set_option maxHeartbeats 4000000
namespace Go.Sx.Cr
noncomputable section
def addrIn (p:Nat->Bool):Xac->Bool
 | none=>true
 | some a=>p a.block
def Ct (p:Nat->Bool):Nat->Xab->Bool
 | 0,_=>false
 | n+1,v=>match v with
  | .pointer a=>addrIn p a
  | .slice a _ _=>addrIn p a
  | .map none=>true
  | .map (some b)=>p b
  | .func _ ⟨a⟩ ⟨c⟩=>a.all (Ct p n) && c.all (Ct p n)
  | .iface _ v=>Ct p n v
  | .agg ⟨l⟩=>l.all (Ct p n)
  | .tuple ⟨l⟩=>l.all (Ct p n)
  | _=>true
def ZF (p:Nat->Bool):AO->Bool
 | .row c _ _=>c.all (Ct p 9)
 | .xC d=>d.all fun q=>Ct p 9 q.2
 | .zx d=>d.all fun q=>Ct p 9 q.2
 | .zw d=>d.all fun q=>Ct p 9 q.2
 | .gone=>true
abbrev SL1:=List (Nat × Xab)
abbrev ZC:=List (Nat × AO)
def U8 {α:Type}:List (Nat × α)->dU α
 | []=>.nil
 | q::l=>(U8 l).put q.1 q.2
def rW:Nat->dU AO->dU AO
 | 0,t=>t
 | n+1,t=>(rW n t).put n .gone
def Ym (C:Cx) (a:ZC):dU AO:=rW C.ng (U8 a)
def NW (σ:dU AO) (b:Nat):Bool:=(σ.get b).isSome
def XQ (e:Ev) (p:Nat->Bool) (q:Nat × Xab):Bool:=(e.get q.1).elim false fun v=>sA 9 v q.2 && Ct p 9 q.2
def YA (C:Cx) (σ:dU AO) (p:Nat->Bool) (q:Nat × AO):Bool:=Nat.ble C.ng q.1 && (σ.get q.1).elim false fun o=>RA o q.2 && ZF p q.2
def VQ (C:Cx) (e:Ev) (σ:dU AO) (b:SL1) (a:ZC):Bool :=
 b.all (XQ e (NW (Ym C a))) && a.all (YA C σ (NW (Ym C a)))
theorem vc (t:dU AO):∀ (n b:Nat),(rW n t).get b=if b<n then some .gone else t.get b
 | 0,b=>by simp [rW]
 | n+1,b=>by
  simp only [rW];rw [dU.xn,vc t n b]
  by_cases h:b=n
  ·rw [af9 h,af9 ad]
  ·rw [ac9 h]
   by_cases h2:b<n
   ·rw [af9 h2,af9 ad]
   ·rw [ac9 h2,ac9 ad]
section
variable {C:Cx} {h0:Hp} {ρ:gX} {σ:dU AO} {h:Hp} {e:Ev} {e':Env}
end
def behind:Nat->Code->Code
 | 0,c=>c
 | k+1,.seq _ b=>behind k b
 | _+1,c=>c
def Xl (C:Cx) (call:gp) (n:Nat) (c:SL1) (d:ZC):Nat->Code->Ev->CS->Bool
 | 0,_,e,s=>VQ C e s.σ c d
 | k+1,.seq a b,e,s=>(mZ C call n 1000 a e s).elim false fun (x,e,s)=>xv x && Xl C call n c d k b e s
 | _+1,_,_,_=>false
def Q9 (C:Cx) (call:gp) (fn:Func) (v:Xab) (c:Code) (e:Ev) (s:CS):Bool :=
 (mZ C call fn.ntmps 1000 c e s).elim false fun (x,e,s)=>returns x && (Mp C s e fn.results.toList).elim false fun l=>sA 9 (one l) v
def Vk (C:Cx) (h0:Hp) (fn:Func) (v:Xab):Exit->Act->Hp->Prop :=
 fun x a h'=>(x=.normal\/x=.ret)/\a.defers=[]/\∃ us,VD C.P h' a.tmps fn.results.toList us/\one us=v/\Ext h0 h'
variable {H:Cx}
def Rel.YD {h0:Hp} {ρ:gX} {σ:dU AO} {h:Hp} (R:Rel H h0 ρ σ h):Ext h0 h:=⟨R.size,fun i hi _=>R.base i hi⟩
variable {O:Code}
def RW {h0:Hp} (b:Ok H) (n:H.P.follows .mixedOrders=true) {call:gp} (o:ox H h0 call) {fn:Func} {v:Xab} (hv:fQ 9 v=true) {e:Ev} {s:CS}
  (hx:Q9 H call fn v O e s=true):∀ ρ d a h,Rel H h0 ρ s.σ h->ER ρ e d->hQ ⟨fn.ntmps,[]⟩ d a->cW H.P O (Vk H h0 fn v) a h:=by
 intro ρ d a h R p g;unfold Q9 at hx;cases hc:mZ H call fn.ntmps 1000 O e s with
 | none=>rw [hc] at hx; cases hx
 | some r =>
  obtain ⟨x,f,i⟩:=r;rw [hc] at hx;have hx:(returns x && (Mp H i f fn.results.toList).elim false fun l=>sA 9 (one l) v)=true:=hx;simp only [Bool.and_eq_true] at hx;obtain ⟨q,hx⟩:=hx;cases hl:Mp H i f fn.results.toList with
  | none=>rw [hl] at hx; cases hx
  | some l =>
   rw [hl] at hx;have hx:=j6 9 _ _ (show sA 9 (one l) v=true from hx);refine Gz b n o 1000 O e s x f i hc ρ d a h _ R p g ?_;intro ρ1 z A h1 le k j m;refine ⟨?_,m.defers,?_⟩
   ·cases x <;> first | exact .inl rfl | exact .inr rfl | (cases q; done)
   ·obtain ⟨l',t,u⟩:=EA (K:=fun _ _=>True) k j hl;obtain ⟨us,w,y⟩:=tJ m (u (fun us _ _ _=>us=l') rfl);subst w;refine ⟨us,y,?_,k.YD⟩
    have:=O8 t
    rw [hx] at this;exact this.inj (tu 9 v hv)
def PW {C:Cx} {h0:Hp} {f:FuncId} {fn:Func} {v:Xab} (m:C.P.funcs[f]?=some fn) (n:fn.body=some O)
  (hc:∀ j a,ER (fun b=>if b<C.ng then some ⟨b,0,0⟩ else none) .nil j->hQ ⟨fn.ntmps,[]⟩ j a->cW C.P O (Vk C h0 fn v) a h0):HC C.P f #[] h0 fun v' h'=>v'=v/\Ext h0 h':=by
 have g:hQ ⟨fn.ntmps,[]⟩ (vp 0 []) { tmps:=#[]++Array.replicate (fn.ntmps-0) undef,defers:=[] }:=⟨ai,rfl,fun s v hv=>by simp [vp,cX] at hv⟩
 have hcw:=hc (vp 0 []) _ (fun t v ht=>by simp [dU.get_nil] at ht) g;intro w o;refine calls_of_wp m n (Code.wp_mono ?_ (hcw w w (dI.refl w) o));rintro x a w' ⟨h1,p,k,us,d,hk,e⟩;obtain ⟨h2,q⟩:=sy (K:=fun v' h'=>v'=v/\Ext h0 h') d ⟨hk,e⟩;obtain ⟨v',h,i,r,l⟩:=qe _ w' _ h2
 have:=Jz _ q w' v' h i
 subst this;rcases p with rfl | rfl
 ·exact ⟨k,v',i,v',rfl,h1,l⟩
 ·exact ⟨k,v',i,v',rfl,h1,l⟩
def MQ {h0:Hp} (j:∀ b c,H.ro b=some c->b<H.ng/\∃ cs e f,h0[b]?=some (.cells cs e f)/\∀ (i:Nat) (v:Xab),c[i]?=some v->cs[i]?=some v/\fQ 9 v=true) :
  Rel H h0 (fun b=>if b<H.ng then some ⟨b,0,0⟩ else none) (rW H.ng .nil) h0:=by
 have d:∀ b o,(rW H.ng .nil).get b=some o->b<H.ng/\o=.gone:=by
  intro b o a;rw [vc] at a
  by_cases h:b<H.ng
  ·rw [af9 h] at a; cases a; exact ⟨h,rfl⟩
  ·rw [ac9 h,dU.get_nil] at a; cases a
 refine ⟨fun g d=>by simp [d],j,au9 _,fun _ _=>rfl,fun b o a=>?_,fun b b' o o' pl pl' a k hl l _ _ _=>?_,fun b a=>?_⟩
 ·obtain ⟨h1,rfl⟩:=d b o a;exact ⟨⟨b,0,0⟩,by simp [h1],trivial⟩
 ·obtain ⟨_,rfl⟩:=d b o a;cases hl
 ·rw [vc] at a
  by_cases h:b<H.ng
  ·rw [af9 h] at a; cases a
  ·simp [h]
end
end Go.Sx.Cr
