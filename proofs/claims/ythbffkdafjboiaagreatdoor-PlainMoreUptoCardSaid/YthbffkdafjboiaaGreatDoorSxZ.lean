/- Part of the framework. No condition. -/
import Derived.Test.YthbffkdafjboiaaGreatDoorSxQ
set_option linter.all false
set_option maxHeartbeats 4000000
namespace Go.Sx.Cr
noncomputable section
def addrIn (p:Nat->Bool):Xac->Bool
 | none=>true
 | some a=>p a.block
def A' (p:Nat->Bool):Nat->Xab->Bool
 | 0,_=>false
 | n+1,v=>match v with
  | .pointer a=>addrIn p a
  | .slice a _ _=>addrIn p a
  | .map none=>true
  | .map (some b)=>p b
  | .func _ ⟨a⟩ ⟨c⟩=>a.all (A' p n) && c.all (A' p n)
  | .iface _ v=>A' p n v
  | .agg ⟨l⟩=>l.all (A' p n)
  | .tuple ⟨l⟩=>l.all (A' p n)
  | _=>true
def XL (p:Nat->Bool):AO->Bool
 | .row c _ _=>c.all (A' p 9)
 | .wv d=>d.all fun q=>A' p 9 q.2
 | .yo d=>d.all fun q=>A' p 9 q.2
 | .ym d=>d.all fun q=>A' p 9 q.2
 | .gone=>true
abbrev Yr:=List (Nat × Xab)
abbrev XI:=List (Nat × AO)
def SG {α:Type}:List (Nat × α)->dK α
 | []=>.nil
 | q::l=>(SG l).put q.1 q.2
def oW:Nat->dK AO->dK AO
 | 0,t=>t
 | n+1,t=>(oW n t).put n .gone
def V1 (C:Cx) (j:XI):dK AO:=oW C.ng (SG j)
def Ly (σ:dK AO) (b:Nat):Bool:=(σ.get b).isSome
def Vs (e:Ev) (p:Nat->Bool) (q:Nat × Xab):Bool:=(e.get q.1).elim false fun v=>q8 9 v q.2 && A' p 9 q.2
def Wj (C:Cx) (σ:dK AO) (p:Nat->Bool) (q:Nat × AO):Bool:=Nat.ble C.ng q.1 && (σ.get q.1).elim false fun o=>OZ o q.2 && XL p q.2
def Tt (C:Cx) (e:Ev) (σ:dK AO) (u:Yr) (j:XI):Bool :=
 u.all (Vs e (Ly (V1 C j))) && j.all (Wj C σ (Ly (V1 C j)))
theorem tY (t:dK AO):∀ (n b:Nat),(oW n t).get b=if b<n then some .gone else t.get b
 | 0,b=>by simp [oW]
 | n+1,b=>by
  simp only [oW];rw [dK.vW,tY t n b]
  by_cases h:b=n
  ·rw [Y8 h,Y8 ad]
  ·rw [Y2 h]
   by_cases h2:b<n
   ·rw [Y8 h2,Y8 ad]
   ·rw [Y2 h2,Y2 ad]
section
variable {C:Cx} {h0:Hp} {ρ:gn} {σ:dK AO} {h:Hp} {e:Ev} {e':Env}
end
def behind:Nat->Code->Code
 | 0,c=>c
 | k+1,.seq _ b=>behind k b
 | _+1,c=>c
def UU (C:Cx) (call:gd) (n:Nat) (j:Yr) (u:XI):Nat->Code->Ev->CS->Bool
 | 0,_,e,s=>Tt C e s.σ j u
 | k+1,.seq a b,e,s=>(lV C call n 1000 a e s).elim false fun (x,e,s)=>wh x && UU C call n j u k b e s
 | _+1,_,_,_=>false
def Ox (C:Cx) (call:gd) (fn:Func) (v:Xab) (c:Code) (e:Ev) (s:CS):Bool :=
 (lV C call fn.ntmps 1000 c e s).elim false fun (x,e,s)=>returns x && (Kd C s e fn.results.toList).elim false fun l=>q8 9 (one l) v
def SV (C:Cx) (h0:Hp) (fn:Func) (v:Xab):Exit->Act->Hp->Prop :=
 fun x a h'=>(x=.normal\/x=.ret)/\a.defers=[]/\∃ us,Tg C.P h' a.tmps fn.results.toList us/\one us=v/\Ext h0 h'
def Rel.Su {C:Cx} {h0:Hp} {ρ:gn} {σ:dK AO} {h:Hp} (R:Rel C h0 ρ σ h):Ext h0 h:=⟨R.size,fun i hi _=>R.base i hi⟩
def Pq {C:Cx} {h0:Hp} (O:Ok C) (hm:C.P.follows .mixedOrders=true) {call:gd} (J:nv C h0 call) {fn:Func} {v:Xab} (hv:fE 9 v=true) {c:Code} {e:Ev} {s:CS}
  (hx:Ox C call fn v c e s=true):∀ ρ e' a h,Rel C h0 ρ s.σ h->ER ρ e e'->gK ⟨fn.ntmps,[]⟩ e' a->cW C.P c (SV C h0 fn v) a h:=by
 intro ρ e' a h R U g;unfold Ox at hx;cases hc:lV C call fn.ntmps 1000 c e s with
 | none=>rw [hc] at hx; cases hx
 | some r =>
  obtain ⟨x,e2,j⟩:=r;rw [hc] at hx;have hx:(returns x && (Kd C j e2 fn.results.toList).elim false fun l=>q8 9 (one l) v)=true:=hx;simp only [Bool.and_eq_true] at hx;obtain ⟨V,hx⟩:=hx;cases hl:Kd C j e2 fn.results.toList with
  | none=>rw [hl] at hx; cases hx
  | some l =>
   rw [hl] at hx;have hx:=jM 9 _ _ (show q8 9 (one l) v=true from hx);refine EO O hm J 1000 c e s x e2 j hc ρ e' a h _ R U g ?_;intro ρ1 X Y h1 le G u g1;refine ⟨?_,g1.defers,?_⟩
   ·cases x <;> first | exact .inl rfl | exact .inr rfl | (cases V; done)
   ·obtain ⟨l',h3,h4⟩:=Db (K:=fun _ _=>True) G u hl;obtain ⟨us,h5,h6⟩:=sB g1 (h4 (fun us _ _ _=>us=l') rfl);subst h5;refine ⟨us,h6,?_,G.Su⟩
    have:=MI h3
    rw [hx] at this;exact this.inj (r5 9 v hv)
def Nt {C:Cx} {h0:Hp} {f:FuncId} {fn:Func} {c:Code} {v:Xab} (X:C.P.funcs[f]?=some fn) (hb:fn.body=some c)
  (hc:∀ e' a,ER (fun b=>if b<C.ng then some ⟨b,0,0⟩ else none) .nil e'->gK ⟨fn.ntmps,[]⟩ e' a->cW C.P c (SV C h0 fn v) a h0):HC C.P f #[] h0 fun v' h'=>v'=v/\Ext h0 h':=by
 have g:gK ⟨fn.ntmps,[]⟩ (ue 0 []) { tmps:=#[]++Array.replicate (fn.ntmps-0) undef,defers:=[] }:=⟨aj,rfl,fun s v hv=>by simp [ue,cQ] at hv⟩
 have G:=hc (ue 0 []) _ (fun t v Y=>by simp [dK.get_nil] at Y) g;intro w hw;refine calls_of_wp X hb (Code.wp_mono ?_ (G w w (dI.refl w) hw));rintro x a w' ⟨h1,hx,U,us,j,hk,u⟩;obtain ⟨h2,h3⟩:=qY (K:=fun v' h'=>v'=v/\Ext h0 h') j ⟨hk,u⟩;obtain ⟨v',J,O,hs,V⟩:=oX _ w' _ h2
 have:=HB _ h3 w' v' J O
 subst this;rcases hx with rfl | rfl
 ·exact ⟨U,v',O,v',rfl,h1,V⟩
 ·exact ⟨U,v',O,v',rfl,h1,V⟩
def Ct {C:Cx} {h0:Hp} (u:∀ b c,C.ro b=some c->b<C.ng/\∃ cs e f,h0[b]?=some (.cells cs e f)/\∀ (i:Nat) (v:Xab),c[i]?=some v->cs[i]?=some v/\fE 9 v=true) :
  Rel C h0 (fun b=>if b<C.ng then some ⟨b,0,0⟩ else none) (oW C.ng .nil) h0:=by
 have j:∀ b o,(oW C.ng .nil).get b=some o->b<C.ng/\o=.gone:=by
  intro b o hb;rw [tY] at hb
  by_cases h:b<C.ng
  ·rw [Y8 h] at hb; cases hb; exact ⟨h,rfl⟩
  ·rw [Y2 h,dK.get_nil] at hb; cases hb
 refine ⟨fun g j=>by simp [j],u,Zh _,fun _ _=>rfl,fun b o hb=>?_,fun b b' o o' pl pl' hb G hl J _ _ _=>?_,fun b hb=>?_⟩
 ·obtain ⟨h1,rfl⟩:=j b o hb;exact ⟨⟨b,0,0⟩,by simp [h1],trivial⟩
 ·obtain ⟨_,rfl⟩:=j b o hb;cases hl
 ·rw [tY] at hb
  by_cases h:b<C.ng
  ·rw [Y8 h] at hb; cases hb
  ·simp [h]
end
end Go.Sx.Cr
