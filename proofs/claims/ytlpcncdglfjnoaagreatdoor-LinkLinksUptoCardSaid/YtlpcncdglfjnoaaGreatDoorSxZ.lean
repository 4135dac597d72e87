/- Closed runs, part Z: a long run cut in pieces: between them what is live is written down. Asked: of the context, what Ok says. -/
import Derived.Test.YtlpcncdglfjnoaaGreatDoorSxQ
set_option linter.all false
set_option maxHeartbeats 4000000
namespace Go.Sx.Cr
noncomputable section
def addrIn (p:Nat->Bool):Option YC->Bool
 | none=>true
 | some a=>p a.block
def Aw (p:Nat->Bool):Nat->YB->Bool
 | 0,_=>false
 | n+1,v=>match v with
  | .pointer a=>addrIn p a
  | .slice a _ _=>addrIn p a
  | .map none=>true
  | .map (some b)=>p b
  | .func _ ⟨a⟩ ⟨c⟩=>a.all (Aw p n) && c.all (Aw p n)
  | .iface _ v=>Aw p n v
  | .agg ⟨l⟩=>l.all (Aw p n)
  | .tuple ⟨l⟩=>l.all (Aw p n)
  | _=>true
def Va (p:Nat->Bool):AO->Bool
 | .row c _ _=>c.all (Aw p 9)
 | .vL d=>d.all fun q=>Aw p 9 q.2
 | .xY d=>d.all fun q=>Aw p 9 q.2
 | .xZ d=>d.all fun q=>Aw p 9 q.2
 | .gone=>true
abbrev VZ:=List (Nat × YB)
abbrev VB:=List (Nat × AO)
def QN {α:Type}:List (Nat × α)->dC α
 | []=>.nil
 | q::l=>(QN l).put q.1 q.2
def qO:Nat->dC AO->dC AO
 | 0,t=>t
 | n+1,t=>(qO n t).put n .gone
def TM (C:Cx) (ol:VB):dC AO:=qO C.ng (QN ol)
def Lc (σ:dC AO) (b:Nat):Bool:=(σ.get b).isSome
def Ul (e:Ev) (p:Nat->Bool) (q:Nat × YB):Bool:=(e.get q.1).elim false fun v=>qC 9 v q.2 && Aw p 9 q.2
def Ub (C:Cx) (σ:dC AO) (p:Nat->Bool) (q:Nat × AO):Bool:=Nat.ble C.ng q.1 && (σ.get q.1).elim false fun o=>NZ o q.2 && Va p q.2
def RD (C:Cx) (e:Ev) (σ:dC AO) (el:VZ) (ol:VB):Bool :=
 el.all (Ul e (Lc (TM C ol))) && ol.all (Ub C σ (Lc (TM C ol)))
theorem sP (t:dC AO):∀ (n b:Nat),(qO n t).get b=if b<n then some .gone else t.get b
 | 0,b=>by simp [qO]
 | n+1,b=>by
  simp only [qO];rw [dC.uk,sP t n b]
  by_cases h:b=n
  ·rw [WC h,WC ad]
  ·rw [Ww h]
   by_cases h2:b<n
   ·rw [WC h2,WC ad]
   ·rw [Ww h2,Ww ad]
section
variable {C:Cx} {h0:Hp} {ρ:fZ} {σ:dC AO} {h:Hp} {e:Ev} {e':Env}
end
def behind:Nat->Code->Code
 | 0,c=>c
 | k+1,.seq _ b=>behind k b
 | _+1,c=>c
def Ti (C:Cx) (call:fL) (n:Nat) (el:VZ) (ol:VB):Nat->Code->Ev->CS->Bool
 | 0,_,e,s=>RD C e s.σ el ol
 | k+1,.seq a b,e,s=>(lH C call n 1000 a e s).elim false fun (x,e,s)=>wJ x && Ti C call n el ol k b e s
 | _+1,_,_,_=>false
def M3 (C:Cx) (call:fL) (fn:Func) (v:YB) (c:Code) (e:Ev) (s:CS):Bool :=
 (lH C call fn.ntmps 1000 c e s).elim false fun (x,e,s)=>returns x && (Jb C s e fn.results.toList).elim false fun l=>qC 9 (one l) v
def Qt (C:Cx) (h0:Hp) (fn:Func) (v:YB):Exit->Act->Hp->Prop :=
 fun x a h'=>(x=.normal\/x=.ret)/\a.defers=[]/\∃ us,Ry C.P h' a.tmps fn.results.toList us/\one us=v/\Ext h0 h'
theorem Rel.gives {C:Cx} {h0:Hp} {ρ:fZ} {σ:dC AO} {h:Hp} (R:Rel C h0 ρ σ h):Ext h0 h:=⟨R.size,fun i hi _=>R.base i hi⟩
theorem PF {C:Cx} {h0:Hp} (O:Ok C) (hm:C.P.follows .mixedOrders=true) {call:fL} (CO:mH C h0 call) {fn:Func} {v:YB} (hv:fo 9 v=true) {c:Code} {e:Ev} {s:CS}
  (hx:M3 C call fn v c e s=true):∀ ρ e' a h,Rel C h0 ρ s.σ h->ER ρ e e'->gb ⟨fn.ntmps,[]⟩ e' a->cW C.P c (Qt C h0 fn v) a h:=by
 intro ρ e' a h R er g;unfold M3 at hx;cases hc:lH C call fn.ntmps 1000 c e s with
 | none=>rw [hc] at hx; cases hx
 | some r =>
  obtain ⟨x,e2,s2⟩:=r;rw [hc] at hx;have hx:(returns x && (Jb C s2 e2 fn.results.toList).elim false fun l=>qC 9 (one l) v)=true:=hx;simp only [Bool.and_eq_true] at hx;obtain ⟨hr,hx⟩:=hx;cases hl:Jb C s2 e2 fn.results.toList with
  | none=>rw [hl] at hx; cases hx
  | some l =>
   rw [hl] at hx;have hx:=jo 9 _ _ (show qC 9 (one l) v=true from hx);refine Fj O hm CO 1000 c e s x e2 s2 hc ρ e' a h _ R er g ?_;intro ρ1 e3 a1 h1 le R1 er1 g1;refine ⟨?_,g1.defers,?_⟩
   ·cases x <;> first | exact .inl rfl | exact .inr rfl | (cases hr; done)
   ·obtain ⟨l',h3,h4⟩:=BU (K:=fun _ _=>True) R1 er1 hl;obtain ⟨us,h5,h6⟩:=rL g1 (h4 (fun us _ _ _=>us=l') rfl);subst h5;refine ⟨us,h6,?_,R1.gives⟩
    have:=Lu h3
    rw [hx] at this;exact this.inj (rP 9 v hv)
theorem KR {C:Cx} {h0:Hp} {f:FuncId} {fn:Func} {c:Code} {v:YB} (hf:C.P.funcs[f]?=some fn) (hb:fn.body=some c)
  (hc:∀ e' a,ER (fun b=>if b<C.ng then some ⟨b,0,0⟩ else none) .nil e'->gb ⟨fn.ntmps,[]⟩ e' a->cW C.P c (Qt C h0 fn v) a h0):HC C.P f #[] h0 fun v' h'=>v'=v/\Ext h0 h':=by
 have g:gb ⟨fn.ntmps,[]⟩ (tj 0 []) { tmps:=#[]++Array.replicate (fn.ntmps-0) undef,defers:=[] }:=⟨aj,rfl,fun s v hv=>by simp [tj,cJ] at hv⟩
 have hcw:=hc (tj 0 []) _ (fun t v ht=>by simp [dC.get_nil] at ht) g;intro w hw;refine calls_of_wp hf hb (Code.wp_mono ?_ (hcw w w (dz.refl w) hw));rintro x a w' ⟨h1,hx,hd,us,hres,hk,hext⟩;obtain ⟨h2,h3⟩:=qN (K:=fun v' h'=>v'=v/\Ext h0 h') hres ⟨hk,hext⟩;obtain ⟨v',w'',hr,hs,hR⟩:=oW _ w' _ h2
 have:=GP _ h3 w' v' w'' hr
 subst this;rcases hx with rfl | rfl
 ·exact ⟨hd,v',hr,v',rfl,h1,hR⟩
 ·exact ⟨hd,v',hr,v',rfl,h1,hR⟩
theorem J4 {C:Cx} {h0:Hp} (hro:∀ b c,C.ro b=some c->b<C.ng/\∃ cs e f,h0[b]?=some (.cells cs e f)/\∀ (i:Nat) (v:YB),c[i]?=some v->cs[i]?=some v/\fo 9 v=true) :
  Rel C h0 (fun b=>if b<C.ng then some ⟨b,0,0⟩ else none) (qO C.ng .nil) h0:=by
 have hg:∀ b o,(qO C.ng .nil).get b=some o->b<C.ng/\o=.gone:=by
  intro b o hb;rw [sP] at hb
  by_cases h:b<C.ng
  ·rw [WC h] at hb; cases hb; exact ⟨h,rfl⟩
  ·rw [Ww h,dC.get_nil] at hb; cases hb
 refine ⟨fun g hg=>by simp [hg],hro,WH _,fun _ _=>rfl,fun b o hb=>?_,fun b b' o o' pl pl' hb hb' hl hl' _ _ _=>?_,fun b hb=>?_⟩
 ·obtain ⟨h1,rfl⟩:=hg b o hb;exact ⟨⟨b,0,0⟩,by simp [h1],trivial⟩
 ·obtain ⟨_,rfl⟩:=hg b o hb;cases hl
 ·rw [sP] at hb
  by_cases h:b<C.ng
  ·rw [WC h] at hb; cases hb
  ·simp [h]
end
end Go.Sx.Cr
