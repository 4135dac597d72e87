/- How unit.Assemble ends: its results, out of two cells. No condition. -/
import Derived.Test.YtfkjiiapldkoeaaGreatDoorARngB
import Derived.Test.YtfkjiiapldkoeaaGreatDoorP6
import Derived.RangeFuncWrites
set_option linter.all false
set_option maxRecDepth 100000
set_option maxHeartbeats 4000000
namespace Go.Proofs
open Go.RowKit Go.Shelf Go.Sx.Ob
attribute [local go_sem] Oper.semAt_some
def MK {tmps:Array Value} {w:World} {p q:Nat} {va vb vc vd ev:Value} (h2:tmps.getD 2 undef=.pointer (some ⟨p,0,none⟩)) (h3:tmps.getD 3 undef=.pointer (some ⟨q,0,none⟩)) (bp:Sx.bf w.heap p 27 [va,vb,vc,vd]) (bq:Sx.bf w.heap q 29 [ev]) :
  (results Tryz.f10 tmps).run Tryz.prog w=.ok (.tuple #[.agg #[va,vb,vc,vd],ev]) w:=by
 have c0:w.cell? ⟨p,0,none⟩=some va:=by rw [Sx.gT,bp.cell]; rfl
 have c1:w.cell? ⟨p,1,none⟩=some vb:=by rw [Sx.gT,bp.cell]; rfl
 have c2:w.cell? ⟨p,2,none⟩=some vc:=by rw [Sx.gT,bp.cell]; rfl
 have c3:w.cell? ⟨p,3,none⟩=some vd:=by rw [Sx.gT,bp.cell]; rfl
 have c4:w.cell? ⟨q,0,none⟩=some ev:=by rw [Sx.gT,bq.cell]; rfl
 rw [Array.getD_eq_getD_getElem?] at h2 h3;simp [results,Tryz.f10,go_sem,h2,h3,c0,c1,c2,c3,c4]
def CT {R:Ending->World->Prop} {tmps:Array Value} {dl:List Deferred} {W':World} {b0 p q:Nat} {va vb vc vd ev:Value} (hm:Marks b0 dl W') (h2:tmps.getD 2 undef=.pointer (some ⟨p,0,none⟩)) (h3:tmps.getD 3 undef=.pointer (some ⟨q,0,none⟩)) (bp:Sx.bf W'.heap p 27 [va,vb,vc,vd]) (bq:Sx.bf W'.heap q 29 [ev])
  (hR:∀ w':World,Below b0 W' w'->(∀ B:Nat,W'.heap[B]?≠some (Obj.deferred (some []))->w'.heap[B]?=W'.heap[B]?)->R (.returned (.tuple #[.agg #[va,vb,vc,vd],ev])) w') :
  bodyPostM Fence.wide 7 Tryz.prog Tryz.f10 R Exit.ret { tmps:=tmps,defers:=dl } W':=by
 refine Marks.leaves hm fun w' hb hk=>?_
 have bp':Sx.bf w'.heap p 27 [va,vb,vc,vd]:=by
  unfold Sx.bf at bp ⊢;rw [hk p (by rw [bp]; simp),bp]
 have bq':Sx.bf w'.heap q 29 [ev]:=by
  unfold Sx.bf at bq ⊢;rw [hk q (by rw [bq]; simp),bq]
 exact ⟨_,MK h2 h3 bp' bq',hR w' hb hk⟩
def Bl {n f l:Nat} {args:Array Value} {W:World} {R:Value->Sx.Hp->Prop} {K:Ending->World->Prop} (h:Sx.HC Tryz.prog f args W.heap R) (hK:∀ v w',Sx.cY W w'->R v w'.heap->K (.returned v) w'):(Fence.wide.inRound l).fn f/\CallsIn (Fence.wide.inRound l) n Tryz.prog f args W K :=
 ⟨trivial,(CallsIn.inRound l (callsIn_wide.2 (h W rfl))).mono fun e w' ⟨v,hv,hb,hr⟩=>by subst hv; exact hK v w' hb hr⟩
end Go.Proofs
