/- Helpers for walking a law that holds a range over a function: boxes, calls over heaps inside a fence, the marks that such loops leave. No condition. -/
import Derived.Test.YtfkjiiapldkoeaaGreatDoorP3
import Derived.RangeFuncFrom
import Derived.IntWalk
set_option linter.all false
set_option maxRecDepth 100000
set_option maxHeartbeats 4000000
namespace Go.Proofs
open Go.RowKit Go.Shelf
attribute [local go_sem] Oper.semAt_some
def Gw {W W':World} {n B:Nat} {t:TypeId} {v:Value} (h:Boxed W B t v) (hb:Below n W W') (hn:B<n):Boxed W' B t v:=(hb.block B hn).trans h
def xP {n f:Nat} {args:Array Value} {W:World} {R:Value->Sx.Hp->Prop} {K:Ending->World->Prop} (h:Sx.HC Tryz.prog f args W.heap R) (he:∀ v h',R v h'->Sx.Ext W.heap h') (hK:∀ v w',Below W.heap.size W w'->R v w'.heap->K (.returned v) w'):Fence.wide.fn f/\CallsIn Fence.wide n Tryz.prog f args W K :=
 ⟨trivial,(callsIn_wide.2 (Sx.Ob.CS h he)).mono fun e w' ⟨v,hv,hb,hr⟩=>by subst hv; exact hK v w' hb hr⟩
def Marks (b:Nat) (dl:List Deferred) (w:World):Prop:=∃ Ds:List Nat,dl=Ds.map (fun D=>{ target:=.collected D,args:=#[] })/\Ds.Nodup/\∀ D∈Ds,b<=D/\w.heap[D]?=some (.deferred (some []))
def Marks.leaves {F:Fence} {n b:Nat} {P:Program} {fn:Func} {tmps:Array Value} {R:Ending->World->Prop} {dl:List Deferred} {w:World} (h:Marks b dl w) (hK:∀ w':World,Below b w w'->(∀ B:Nat,w.heap[B]?≠some (Obj.deferred (some []))->w'.heap[B]?=w.heap[B]?)->LeavesIn F n P fn tmps R [] .returning w'):LeavesInM F n P fn tmps R dl .returning w:=by
 obtain ⟨Ds,rfl,hn,hD⟩:=h
 induction Ds generalizing w with
 | nil=>exact hK w (Below.refl _ _) (fun _ _=>rfl)
 | cons D Ds ih =>
  obtain ⟨hnD,hn⟩:=List.nodup_cons.1 hn;obtain ⟨hb,hd⟩:=hD D (List.mem_cons_self ..);have hlt:D<w.heap.size:=(Array.getElem?_eq_some_iff.1 hd).1;have hput:∀ B,B≠D->(w.putObj D (.deferred none)).heap[B]?=w.heap[B]?:=fun B hB=>by
   simp only [World.putObj];rw [Array.getElem?_setIfInBounds_ne (Ne.symm hB)]
  refine ⟨aj,.inl ⟨D,_,rfl,run_takeDeferred hd,ih (fun w' hb' hk'=>hK w' ?_ fun B hB=>?_) hn (fun E hE=>?_)⟩⟩
  ·refine Below.trans (b:=w.putObj D (.deferred none)) ⟨rfl,rfl,rfl,?_,fun k hk=>hput k ae⟩ hb';simp [World.putObj]
  ·have hBD:B≠D:=fun e=>hB (by rw [e]; exact hd)
   rw [hk' B (by rw [hput B hBD]; exact hB),hput B hBD]
  ·obtain ⟨h1,h2⟩:=hD E (List.mem_cons_of_mem _ hE);exact ⟨h1,(hput E (fun e=>hnD (e▸hE))).trans h2⟩
def oz (n x:Nat) (w w':World):Prop:=w.heap.size<=w'.heap.size/\∀ k,k<n->k≠x->w'.heap[k]?=w.heap[k]?
def CC {β:Type} {n x B:Nat} {w:World} (hB:n<=B) (hn:n<=w.heap.size):OwnFrom B (fun (_:β) W=>oz n x w W):=fun s A C row hs hg hr=>by
 refine ⟨Nat.le_trans hs.1 hg.size,fun k hk hx=>(hg.block k (by have:=hs.1; omega) (fun e=>?_)).trans (hs.2 k hk hx)⟩
 have:=(hr k e.symm).1
 omega
def KL {w:World} {a:Addr} {v:Value} (h:w.cell? a=some v):a.block<w.heap.size:=by
 unfold World.cell? at h;split at h
 ·rename_i hg; exact (Array.getElem?_eq_some_iff.1 hg).1
 ·cases h
theorem nM:∀ (f n:Nat) (s:ByteArray),(bK f n s).length<=f
 | 0,_,_=>by simp [bK]
 | f+1,n,s=>by
  unfold bK;split
  ·simp
  ·have:=nM f (n+1) (pU s)
   simp; omega
end Go.Proofs
