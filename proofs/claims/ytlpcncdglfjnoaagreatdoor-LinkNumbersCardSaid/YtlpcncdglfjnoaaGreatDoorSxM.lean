/- A framework of our own, part M: the main theorem: what a function's tree asks, its call does. No condition. -/
import Derived.Test.YtlpcncdglfjnoaaGreatDoorSxC
set_option linter.unusedVariables false
set_option linter.unusedSimpArgs false
set_option linter.deprecated false
namespace Go.Sx
section main
variable {P:Program} {n:Nd} {cuts:List Nat}
def ROk (P:Program) (n:Nd):Prop :=
 ∀ (id:Nat) (ops:Array Oper) (e:Env) (k:Env→T) (L:Lp) (K:Value→Hp→Prop) (Q:Exit→Act→Hp→Prop) (a:Act) (h:Hp),
  (∀ e' a' h',k e' L K h'→Agr n e' a'→Fr (dstsOf ops) e e'→Q .normal a' h')→xregion P n id ops e k L K h→Agr n e a→cW P (.region id ops true) Q a h
theorem cW_region {id:Nat} {ops:Array Oper} {e:Env} {k:Env→T} {L:Lp} {K:Value→Hp→Prop} {Q:Exit→Act→Hp→Prop} {a:Act} {h:Hp}
  (hk:∀ e' a' h',k e' L K h'→Agr n e' a'→Fr (dstsOf ops) e e'→Q .normal a' h') (ht:xops P n ops ops.toList e k L K h) (g:Agr n e a):cW P (.region id ops false) Q a h :=
 fun w0 w hs hw=>wp_region_list (xops_of hk ops.toList e a h (fun _ ho=>ho) ht g (Fr.refl _ _) w0 w hs hw)
end main
end Go.Sx
