/- A framework of our own, part C: what a tree asks of code, the code does. No condition. -/
import Derived.Test.YtlpcncdglfjnoaaGreatDoorSxO
set_option linter.unusedVariables false
set_option linter.unusedSimpArgs false
set_option linter.deprecated false
namespace Go.Sx
def Fr (l:List Nat) (e e':Env):Prop:=∀ s,s∉l→eget e' s=eget e s
theorem Fr.refl (l:List Nat) (e:Env):Fr l e e:=fun _ _=>rfl
theorem Fr.trans {l:List Nat} {a b c:Env} (h:Fr l a b) (k:Fr l b c):Fr l a c:=fun s hs=>(k s hs).trans (h s hs)
theorem Fr.eput {l:List Nat} (n:Nat) (e:Env) {dst:Option Tmp} (v:Value) (hd:∀ d,dst=some d→d∈l):Fr l e (eput n e dst v):=by
 intro s hs
 cases dst with
 | none=>rfl
 | some d =>
  simp only [Sx.eput]
  cases Nat.blt d n with
  | false=>rfl
  | true =>
   simp only [cond_true,eget_cons]
   rw [if_neg (fun hh:d=s=>hs (hh▸hd d rfl))]
theorem wanted_none {ops:Array Oper} {o:Oper} {tm:Array Value} (h:o.guard=none):Region.wanted o (yielded ops tm)=true:=by
 simp [Region.wanted,h]
theorem wanted_some {ops:Array Oper} {o:Oper} {tm:Array Value} {j:Nat} {w:Bool} (h:o.guard=some (j,w)) :
  Region.wanted o (yielded ops tm)=(yielded ops tm j==some w):=by
 simp [Region.wanted,h]
theorem yielded_bool {ops:Array Oper} {tm:Array Value} {j d:Nat} {b:Bool} (hj:(ops[j]?).bind (·.dst)=some d) (hd:tm.getD d undef=.bool b):yielded ops tm j=some b:=by
 unfold yielded
 rw [hj]
 rw [Array.getD_eq_getD_getElem?] at hd
 cases hx:tm[d]? with
 | none=>rw [hx] at hd; simp [undef] at hd
 | some v=>rw [hx] at hd; simp at hd; subst hd; simp [hx]
theorem yielded_tuple {ops:Array Oper} {tm:Array Value} {j d:Nat} {vs:Array Value} (hj:(ops[j]?).bind (·.dst)=some d) (hd:tm.getD d undef=.tuple vs):yielded ops tm j=none:=by
 unfold yielded
 rw [hj]
 rw [Array.getD_eq_getD_getElem?] at hd
 cases hx:tm[d]? with
 | none=>simp [hx]
 | some v=>rw [hx] at hd; simp at hd; subst hd; simp [hx]
theorem dst_mem {ops:Array Oper} {j d:Nat} (hj:(ops[j]?).bind (·.dst)=some d):d∈dstsOf ops:=by
 obtain ⟨o,ho,hd⟩:=Option.bind_eq_some_iff.1 hj
 have:=Array.mem_of_getElem? ho
 exact List.mem_filterMap.2 ⟨o,by simpa using this,hd⟩
theorem xguard_of {n:Nd} {ops:Array Oper} {o:Oper} {e:Env} {a:Act} (g:Agr n e a) {yes no:Env→T} {L:Lp} {K:Value→Hp→Prop} {h:Hp}
  (ht:xguard n ops o e yes no L K h) :
  ∃ e',Agr n e' a∧Fr (dstsOf ops) e e'∧((Region.wanted o (yielded ops a.tmps)=true∧yes e' L K h)∨(Region.wanted o (yielded ops a.tmps)=false∧no e' L K h)):=by
 unfold xguard guardOf at ht
 cases hg:o.guard with
 | none =>
  simp only [hg] at ht
  exact ⟨e,g,Fr.refl _ _,.inl ⟨wanted_none hg,ht⟩⟩
 | some p =>
  obtain ⟨j,w⟩:=p
  simp only [hg] at ht
  rw [wanted_some hg]
  cases hj:(ops[j]?).bind (·.dst) with
  | none =>
   simp only [hj] at ht
   exact ⟨e,g,Fr.refl _ _,.inr ⟨by simp [yielded,hj],ht⟩⟩
  | some d =>
   simp only [hj] at ht
   cases hv:eget e d with
   | none=>simp only [hv] at ht; exact ht.elim
   | some v =>
    have hav:=g.get d v hv
    cases v <;> simp only [hv] at ht <;> first | exact ht.elim | skip
    case tuple vs=>exact ⟨e,g,Fr.refl _ _,.inr ⟨by rw [yielded_tuple hj hav]; rfl,ht⟩⟩
    case bool b =>
     rw [yielded_bool hj hav]
     have fr:∀ u,Fr (dstsOf ops) e (eput n e (some d) u):=fun u=>Fr.eput n e u (fun d' hd'=>by simp at hd'; subst hd'; exact dst_mem hj)
     cases w <;> simp only at ht <;> rcases cond_of ht with ⟨hb,ht⟩ | ⟨hb,ht⟩ <;> subst hb
     ·exact ⟨_,g.setFresh hv _ rfl,fr _,.inr ⟨rfl,ht⟩⟩
     ·exact ⟨_,g.setFresh hv _ rfl,fr _,.inl ⟨rfl,ht⟩⟩
     ·exact ⟨_,g.setFresh hv _ rfl,fr _,.inl ⟨rfl,ht⟩⟩
     ·exact ⟨_,g.setFresh hv _ rfl,fr _,.inr ⟨rfl,ht⟩⟩
abbrev atW (w0:World) (Q:Exit→Act→Hp→Prop):Exit→Act→World→Prop:=fun e a w=>SameO w0 w∧Q e a w.heap
theorem xops_of {P:Program} {n:Nd} {ops:Array Oper} {Q:Exit→Act→Hp→Prop} {k:Env→T} {K:Value→Hp→Prop} {L:Lp} {e0:Env}
  (hk:∀ e a h,k e L K h→Agr n e a→Fr (dstsOf ops) e0 e→Q .normal a h):∀ (rest:List Oper) (e:Env) (a:Act) (h:Hp),(∀ o∈rest,o∈ops.toList) →
  xops P n ops rest e k L K h→Agr n e a→Fr (dstsOf ops) e0 e→∀ w0 w:World,SameO w0 w→w.heap=h→wpList P ops (atW w0 Q) rest a w
 | [],e,a,h,_,ht,g,fr,w0,w,hs,hw=>by
  subst hw
  exact ⟨hs,hk e a _ ht g fr⟩
 | o::rest,e,a,h,hin,ht,g,fr,w0,w,hs,hw=>by
  subst hw
  have hd:∀ d,o.dst=some d→d∈dstsOf ops:=fun d hd=>List.mem_filterMap.2 ⟨o,hin o (by simp),hd⟩
  obtain ⟨e',g',fr',hx⟩:=xguard_of g (show xguard n ops o e _ _ L K w.heap from ht)
  unfold wpList
  rcases hx with ⟨hwant,ht⟩ | ⟨hwant,ht⟩
  ·rw [if_pos hwant]
   refine .inl (wp_of_opW (xop_of g' ht) ?_)
   intro v w' hs' ht'
   exact xops_of hk rest _ _ _ (fun o ho=>hin o (by simp [ho])) ht' (g'.put o.dst v) ((fr.trans fr').trans (Fr.eput n _ _ hd)) w0 w' (hs.trans hs') rfl
  ·rw [if_neg (by simp [hwant])]
   exact xops_of hk rest _ _ _ (fun o ho=>hin o (by simp [ho])) ht (g'.put o.dst undef) ((fr.trans fr').trans (Fr.eput n _ _ hd)) w0 w hs rfl
def gotoQ (c:Code) (J:Nat→Act→Hp→Prop) (Q:Exit→Act→Hp→Prop):Exit→Act→Hp→Prop
 | .goto l,a,h=>match findLabel c l with
  | some _=>J l a h
  | none=>Q (.goto l) a h
 | e,a,h=>Q e a h
theorem cW_scope {P:Program} {c:Code} {Q:Exit→Act→Hp→Prop} {a:Act} {h:Hp} {M:Type} {lt:M→M→Prop} (wf:WellFounded lt) (J:Nat→M→Act→Hp→Prop)
  (first:cW P c (gotoQ c (fun l a h=>∃ m,J l m a h) Q) a h)
  (pass:∀ l m a h,J l m a h→∃ r,findLabel c l=some r∧cW P r (gotoQ c (fun l' a' h'=>∃ m',lt m' m∧J l' m' a' h') Q) a h):cW P (.scope c) Q a h:=by
 intro w0 w hs hw b k cs
 have hg:∀ l r,findLabel c l=some r→gotoIn l (.inScope c::k)=some (.code r::.inScope c::k):=fun l r hr=>by simp [gotoIn,hr]
 have hg':∀ l,findLabel c l=none→∀ k',gotoIn l k=some k'→gotoIn l (.inScope c::k)=some k':=fun l hr k' hk=>by simp [gotoIn,hr,hk]
 have key:∀ (m:M),∀ l a w r,SameO w0 w→J l m a w.heap→findLabel c l=some r→∃ e a' w',atW w0 Q e a' w'∧Arrives P (lone (b.at a (.code r::.inScope c::k)) cs w) b k cs e a' w':=by
  intro m
  induction m using wf.induction with
  | _ m ih =>
   intro l a w r hs hJ hr
   obtain ⟨r',hr',hc⟩:=pass l m a w.heap hJ
   rw [hr] at hr'; obtain rfl:=Option.some.inj hr'
   obtain ⟨e,a₁,w₁,⟨hs1,hq⟩,harr⟩:=hc w0 w hs rfl b (.inScope c::k) cs
   cases e with
   | normal=>exact ⟨.normal,a₁,w₁,⟨hs1,hq⟩,Steps.trans harr (.one step_inScope)⟩
   | exit id=>exact ⟨.exit id,a₁,w₁,⟨hs1,hq⟩,fun k' hk=>harr k' (by simp [exitTo,hk])⟩
   | goto l' =>
    simp only [gotoQ] at hq
    cases hf:findLabel c l' with
    | none=>simp only [hf] at hq; exact ⟨.goto l',a₁,w₁,⟨hs1,hq⟩,fun k' hk=>harr k' (hg' l' hf k' hk)⟩
    | some r2 =>
     simp only [hf] at hq
     obtain ⟨m',hlt,hJ'⟩:=hq
     obtain ⟨e₂,a₂,w₂,hq₂,harr₂⟩:=ih m' hlt l' a₁ w₁ r2 hs1 hJ' hf
     exact ⟨e₂,a₂,w₂,hq₂,.of_steps (harr _ (hg l' r2 hf)) harr₂⟩
   | ret=>exact ⟨_,a₁,w₁,⟨hs1,hq⟩,harr⟩
   | panic ch=>exact ⟨_,a₁,w₁,⟨hs1,hq⟩,harr⟩
   | outgrown=>exact ⟨_,a₁,w₁,⟨hs1,hq⟩,harr⟩
 obtain ⟨e,a₁,w₁,⟨hs1,hq⟩,harr⟩:=first w0 w hs hw b (.inScope c::k) cs
 cases e with
 | normal=>exact ⟨.normal,a₁,w₁,⟨hs1,hq⟩,.head step_scope (Steps.trans harr (.one step_inScope))⟩
 | exit id=>exact ⟨.exit id,a₁,w₁,⟨hs1,hq⟩,fun k' hk=>.head step_scope (harr k' (by simp [exitTo,hk]))⟩
 | goto l' =>
  simp only [gotoQ] at hq
  cases hf:findLabel c l' with
  | none=>simp only [hf] at hq; exact ⟨.goto l',a₁,w₁,⟨hs1,hq⟩,fun k' hk=>.head step_scope (harr k' (hg' l' hf k' hk))⟩
  | some r2 =>
   simp only [hf] at hq
   obtain ⟨m',hJ'⟩:=hq
   obtain ⟨e₂,a₂,w₂,hq₂,harr₂⟩:=key m' l' a₁ w₁ r2 hs1 hJ' hf
   exact ⟨e₂,a₂,w₂,hq₂,.of_steps (.head step_scope (harr _ (hg l' r2 hf))) harr₂⟩
 | ret=>exact ⟨_,a₁,w₁,⟨hs1,hq⟩,.of_steps (.one step_scope) harr⟩
 | panic ch=>exact ⟨_,a₁,w₁,⟨hs1,hq⟩,.of_steps (.one step_scope) harr⟩
 | outgrown=>exact ⟨_,a₁,w₁,⟨hs1,hq⟩,.of_steps (b:=b) (k:=k) (cs:=cs) (e:=.outgrown) (.one step_scope) harr⟩
end Go.Sx
