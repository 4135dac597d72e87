/- Closed runs, part Z: a long run cut in pieces: between them what is live is written down. Asked: of the context, what Ok says. -/
import Derived.Test.YtlpcncdglfjnoaaGreatDoorSxQ
set_option linter.all false
set_option maxHeartbeats 4000000
namespace Go.Sx.Cr
noncomputable section
def addrIn (p:Nat->Bool):Option ZC->Bool
 | none=>true
 | some a=>p a.block
def Ap (p:Nat->Bool):Nat->ZB->Bool
 | 0,_=>false
 | n+1,v=>match v with
  | .pointer a=>addrIn p a
  | .slice a _ _=>addrIn p a
  | .map none=>true
  | .map (some b)=>p b
  | .func _ ⟨a⟩ ⟨c⟩=>a.all (Ap p n) && c.all (Ap p n)
  | .iface _ v=>Ap p n v
  | .agg ⟨l⟩=>l.all (Ap p n)
  | .tuple ⟨l⟩=>l.all (Ap p n)
  | _=>true
def V3 (p:Nat->Bool):AO->Bool
 | .row c _ _=>c.all (Ap p 9)
 | .wo d=>d.all fun q=>Ap p 9 q.2
 | .xW d=>d.all fun q=>Ap p 9 q.2
 | .yd d=>d.all fun q=>Ap p 9 q.2
 | .gone=>true
abbrev We:=List (Nat × ZB)
abbrev Vv:=List (Nat × AO)
def RI {α:Type}:List (Nat × α)->dB α
 | []=>.nil
 | q::l=>(RI l).put q.1 q.2
def oy:Nat->dB AO->dB AO
 | 0,t=>t
 | n+1,t=>(oy n t).put n .gone
def Ua (C:Cx) (ol:Vv):dB AO:=oy C.ng (RI ol)
def MV (σ:dB AO) (b:Nat):Bool:=(σ.get b).isSome
def Um (e:Ev) (p:Nat->Bool) (q:Nat × ZB):Bool:=(e.get q.1).elim false fun v=>rk 9 v q.2 && Ap p 9 q.2
def U0 (C:Cx) (σ:dB AO) (p:Nat->Bool) (q:Nat × AO):Bool:=Nat.ble C.ng q.1 && (σ.get q.1).elim false fun o=>MY o q.2 && V3 p q.2
def Tv (C:Cx) (e:Ev) (σ:dB AO) (el:We) (ol:Vv):Bool :=
 el.all (Um e (MV (Ua C ol))) && ol.all (U0 C σ (MV (Ua C ol)))
theorem sU (t:dB AO):∀ (n b:Nat),(oy n t).get b=if b<n then some .gone else t.get b
 | 0,b=>by simp [oy]
 | n+1,b=>by
  simp only [oy];rw [dB.uF,sU t n b]
  by_cases h:b=n
  ·rw [W2 h,W2 ad]
  ·rw [WV h]
   by_cases h2:b<n
   ·rw [W2 h2,W2 ad]
   ·rw [WV h2,WV ad]
section
variable {C:Cx} {h0:Hp} {ρ:fR} {σ:dB AO} {h:Hp} {e:Ev} {e':Env}
end
def behind:Nat->Code->Code
 | 0,c=>c
 | k+1,.seq _ b=>behind k b
 | _+1,c=>c
def RV (C:Cx) (call:fL) (n:Nat) (el:We) (ol:Vv):Nat->Code->Ev->CS->Bool
 | 0,_,e,s=>Tv C e s.σ el ol
 | k+1,.seq a b,e,s=>(lG C call n 1000 a e s).elim false fun (x,e,s)=>wb x && RV C call n el ol k b e s
 | _+1,_,_,_=>false
def Ng (C:Cx) (call:fL) (fn:Func) (v:ZB) (c:Code) (e:Ev) (s:CS):Bool :=
 (lG C call fn.ntmps 1000 c e s).elim false fun (x,e,s)=>returns x && (IZ C s e fn.results.toList).elim false fun l=>rk 9 (one l) v
def QN (C:Cx) (h0:Hp) (fn:Func) (v:ZB):Exit->Act->Hp->Prop :=
 fun x a h'=>(x=.normal\/x=.ret)/\a.defers=[]/\∃ us,Ta C.P h' a.tmps fn.results.toList us/\one us=v/\Ext h0 h'
theorem Rel.gives {C:Cx} {h0:Hp} {ρ:fR} {σ:dB AO} {h:Hp} (R:Rel C h0 ρ σ h):Ext h0 h:=⟨R.size,fun i hi _=>R.base i hi⟩
theorem OY {C:Cx} {h0:Hp} (O:Ok C) (hm:C.P.follows .mixedOrders=true) {call:fL} (CO:mE C h0 call) {fn:Func} {v:ZB} (hv:fk 9 v=true) {c:Code} {e:Ev} {s:CS}
  (hx:Ng C call fn v c e s=true):∀ ρ e' a h,Rel C h0 ρ s.σ h->ER ρ e e'->gh ⟨fn.ntmps,[]⟩ e' a->cW C.P c (QN C h0 fn v) a h:=by
 intro ρ e' a h R er g;unfold Ng at hx;cases hc:lG C call fn.ntmps 1000 c e s with
 | none=>rw [hc] at hx; cases hx
 | some r =>
  obtain ⟨x,e2,s2⟩:=r;rw [hc] at hx;have hx:(returns x && (IZ C s2 e2 fn.results.toList).elim false fun l=>rk 9 (one l) v)=true:=hx;simp only [Bool.and_eq_true] at hx;obtain ⟨hr,hx⟩:=hx;cases hl:IZ C s2 e2 fn.results.toList with
  | none=>rw [hl] at hx; cases hx
  | some l =>
   rw [hl] at hx;have hx:=jq 9 _ _ (show rk 9 (one l) v=true from hx);refine Dr O hm CO 1000 c e s x e2 s2 hc ρ e' a h _ R er g ?_;intro ρ1 e3 a1 h1 le R1 er1 g1;refine ⟨?_,g1.defers,?_⟩
   ·cases x <;> first | exact .inl rfl | exact .inr rfl | (cases hr; done)
   ·obtain ⟨l',h3,h4⟩:=Cj (K:=fun _ _=>True) R1 er1 hl;obtain ⟨us,h5,h6⟩:=rS g1 (h4 (fun us _ _ _=>us=l') rfl);subst h5;refine ⟨us,h6,?_,R1.gives⟩
    have:=Lx h3
    rw [hx] at this;exact this.inj (rF 9 v hv)
theorem K5 {C:Cx} {h0:Hp} {f:FuncId} {fn:Func} {c:Code} {v:ZB} (hf:C.P.funcs[f]?=some fn) (hb:fn.body=some c)
  (hc:∀ e' a,ER (fun b=>if b<C.ng then some ⟨b,0,0⟩ else none) .nil e'->gh ⟨fn.ntmps,[]⟩ e' a->cW C.P c (QN C h0 fn v) a h0):HC C.P f #[] h0 fun v' h'=>v'=v/\Ext h0 h':=by
 have g:gh ⟨fn.ntmps,[]⟩ (tG 0 []) { tmps:=#[]++Array.replicate (fn.ntmps-0) undef,defers:=[] }:=⟨aj,rfl,fun s v hv=>by simp [tG,cJ] at hv⟩
 have hcw:=hc (tG 0 []) _ (fun t v ht=>by simp [dB.get_nil] at ht) g;intro w hw;refine calls_of_wp hf hb (Code.wp_mono ?_ (hcw w w (dz.refl w) hw));rintro x a w' ⟨h1,hx,hd,us,hres,hk,hext⟩;obtain ⟨h2,h3⟩:=rl (K:=fun v' h'=>v'=v/\Ext h0 h') hres ⟨hk,hext⟩;obtain ⟨v',w'',hr,hs,hR⟩:=oO _ w' _ h2
 have:=F4 _ h3 w' v' w'' hr
 subst this;rcases hx with rfl | rfl
 ·exact ⟨hd,v',hr,v',rfl,h1,hR⟩
 ·exact ⟨hd,v',hr,v',rfl,h1,hR⟩
theorem Bd {C:Cx} {h0:Hp} (hro:∀ b c,C.ro b=some c->b<C.ng/\∃ cs e f,h0[b]?=some (.cells cs e f)/\∀ (i:Nat) (v:ZB),c[i]?=some v->cs[i]?=some v/\fk 9 v=true) :
  Rel C h0 (fun b=>if b<C.ng then some ⟨b,0,0⟩ else none) (oy C.ng .nil) h0:=by
 have hg:∀ b o,(oy C.ng .nil).get b=some o->b<C.ng/\o=.gone:=by
  intro b o hb;rw [sU] at hb
  by_cases h:b<C.ng
  ·rw [W2 h] at hb; cases hb; exact ⟨h,rfl⟩
  ·rw [WV h,dB.get_nil] at hb; cases hb
 refine ⟨fun g hg=>by simp [hg],hro,W9 _,fun _ _=>rfl,fun b o hb=>?_,fun b b' o o' pl pl' hb hb' hl hl' _ _ _=>?_,fun b hb=>?_⟩
 ·obtain ⟨h1,rfl⟩:=hg b o hb;exact ⟨⟨b,0,0⟩,by simp [h1],trivial⟩
 ·obtain ⟨_,rfl⟩:=hg b o hb;cases hl
 ·rw [sU] at hb
  by_cases h:b<C.ng
  ·rw [W2 h] at hb; cases hb
  ·simp [h]
end
end Go.Sx.Cr
