/- The rest of unit.Assemble behind its loops: what its slots for results still hold. No condition. -/
import Derived.Test.YtfkjiiapldkoeaaGreatDoorP7
set_option linter.all false
set_option maxRecDepth 100000
set_option maxHeartbeats 4000000
namespace Go.Sx
def DL {P:Program} {fn:Func} {cuts:List Nat} {c:Code} {env:Env} {a:Act} {h:Hp} {K:Value->Hp->Prop} {dl:List Deferred} {t:T} (hm:P.follows .mixedOrders=true) (he:HX P cuts fn c env=t) (ht:t [] K h) (g:jO ⟨fn.ntmps,dl⟩ env a) :
  cW P c (fun x a h=>(x=.normal\/x=.ret)/\a.defers=dl/\(∀ s v,s∉dR c->cF env s=some v->a.tmps.getD s undef=v)/\∃ v,K v h) a h:=by
 subst he;unfold HX at ht;refine BN (n:=⟨fn.ntmps,dl⟩) (Og hm) 100000 c env _ [] K _ a h ?_ ht g;intro x e a h L' hp hx g' fr;cases x <;> simp only at hx <;> first | exact hx.elim | skip
 ·obtain ⟨vs,hk,hres⟩:=qY g' hx;exact ⟨.inl rfl,g'.defers,fun s v hs hv=>g'.get s v ((fr s hs).trans hv),_,hk⟩
 ·obtain ⟨vs,hk,hres⟩:=qY g' hx;exact ⟨.inr rfl,g'.defers,fun s v hs hv=>g'.get s v ((fr s hs).trans hv),_,hk⟩
end Go.Sx
namespace Go.Proofs
open Go.Sx Go.Sx.Ob
def Hl:2∉dR (uN 7 Tryz.f10)/\3∉dR (uN 7 Tryz.f10):=by
 have h:(dR (uN 7 Tryz.f10)).contains 2=false:=aB
 have h':(dR (uN 7 Tryz.f10)).contains 3=false:=aB
 exact ⟨fun x=>Bool.noConfusion ((List.contains_iff_mem.2 x).symm.trans h),fun x=>Bool.noConfusion ((List.contains_iff_mem.2 x).symm.trans h')⟩
def LU {h:Hp} {u e v:Nat} {K:Value->Hp->Prop} (ht:eH u e v [] K h) {a:Act} {dl:List Deferred} {w:World} (hw:w.heap=h) (hs:a.tmps.size=Tryz.f10.ntmps) (hd:a.defers=dl) (g2:a.tmps.getD 2 undef=.pointer (some ⟨u,0,none⟩)) (g3:a.tmps.getD 3 undef=.pointer (some ⟨e,0,none⟩)) (g5:a.tmps.getD 5 undef=.pointer (some ⟨v,0,none⟩))
  {Q:Exit->Act->World->Prop} (hQ:∀ x a' w',(x=.normal\/x=.ret)->a'.defers=dl->a'.tmps.getD 2 undef=.pointer (some ⟨u,0,none⟩)->a'.tmps.getD 3 undef=.pointer (some ⟨e,0,none⟩)->cY w w'->(∃ v,K v w'.heap)->Q x a' w') :
  (uN 7 Tryz.f10).wp Tryz.prog Q a w:=by
 have hr:∀ (s:Nat) (x:Value),cF [(2,some (.pointer (some (⟨u,0,none⟩:Addr)))),(3,some (.pointer (some (⟨e,0,none⟩:Addr)))),(5,some (.pointer (some (⟨v,0,none⟩:Addr))))] s=some x->a.tmps.getD s undef=x:=by
  intro s x hx
  by_cases h2:s=2
  ·subst h2;exact g2.trans (Option.some.inj hx)
  by_cases h3:s=3
  ·subst h3;exact g3.trans (Option.some.inj hx)
  by_cases h5:s=5
  ·subst h5;exact g5.trans (Option.some.inj hx)
  ·exfalso;have b2:Nat.beq 2 s=false:=by rw [Bool.eq_false_iff]; intro hh; exact h2 (Nat.eq_of_beq_eq_true hh).symm
   have b3:Nat.beq 3 s=false:=by rw [Bool.eq_false_iff]; intro hh; exact h3 (Nat.eq_of_beq_eq_true hh).symm
   have b5:Nat.beq 5 s=false:=by rw [Bool.eq_false_iff]; intro hh; exact h5 (Nat.eq_of_beq_eq_true hh).symm
   have b2':Nat.beq s 2=false:=by rw [Bool.eq_false_iff]; intro hh; exact h2 (Nat.eq_of_beq_eq_true hh)
   have b3':Nat.beq s 3=false:=by rw [Bool.eq_false_iff]; intro hh; exact h3 (Nat.eq_of_beq_eq_true hh)
   have b5':Nat.beq s 5=false:=by rw [Bool.eq_false_iff]; intro hh; exact h5 (Nat.eq_of_beq_eq_true hh)
   simp [cF,b2,b3,b5,b2',b3',b5'] at hx
 have hc:=DL (P:=Tryz.prog) (dl:=dl) mixed (mL u e v) ht ⟨hs,hd,hr⟩;refine Code.wp_mono (fun x a' w' ⟨so,hx,hd',hk,hv⟩=>hQ x a' w' hx hd' (hk 2 _ Hl.1 rfl) (hk 3 _ Hl.2 rfl) so hv) (hc w w (cY.refl _) hw)
end Go.Proofs
