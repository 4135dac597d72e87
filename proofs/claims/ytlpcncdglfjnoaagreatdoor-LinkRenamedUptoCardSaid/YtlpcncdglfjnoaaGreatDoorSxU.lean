/- Part of the framework. No condition. -/
import Derived.Test.YtlpcncdglfjnoaaGreatDoorSxH
import Derived.Lib.UnsafeStr
set_option linter.all false
set_option maxHeartbeats 4000000
namespace Go.Sx
section
variable {P:Program} {h:Hp} {K:XB->Hp->Prop}
variable {H:IntKind}
def Fy {n:Int} (K:Int->Hp->Prop):aI P (asInt (.int H n)) h K=K n h:=rfl
def oT {t e:TypeId} {i:TypeInfo} {z:XB} (o:P.underlying t=some (.slice e)) (hi:P.info? e=some i) (p:i.zero=some z) {k':IntKind} {l c:Nat} (hl:l<=c) (q:c*i.bytes<=2^48) (hc:c<=2^48)
  (hk:∀ h',bm h' h.size e ((List.range (c*i.size)).map (z.cells[· % z.cells.size]!))->Ext h h'->h'.size=h.size+1->K (.slice (some ⟨h.size,0,none⟩) l c) h') :
  aI P (Instr.makeSlice t (.int H l) (.int k' c)) h K:=by
 have d:(P.info? e).bind (·.zero)=some z:=by rw [hi]; exact p
 have r:IntKind.i64.wrap (l:Int)=l:=wrap_i64 ad ad;have s:IntKind.i64.wrap (c:Int)=c:=wrap_i64 ad ad;have f:¬ (281474976710656<(i.bytes:Int)*(c:Int)):=by
  have:(2:Nat)^48=281474976710656:=rfl
  rw [Nat.mul_comm] at q
  have:i.bytes*c<=281474976710656:=ad
  have:((i.bytes*c:Nat):Int)<=281474976710656:=ad
  rw [Int.natCast_mul] at this; omega
 have a:∀ (n:Nat) (K':Unit->Hp->Prop),K' () h->aI P (askRoom n) h K':=by
  intro n K' g;unfold askRoom;split <;> exact g
 have b:¬ ((c:Int)<(l:Int)):=ad
 have j:¬ ((l:Int)<0):=ad
 have m:¬ ((c:Int)<0):=ad
 simp [Instr.makeSlice,al,au o,Fy,gf hi,r,s,f,b,j,m,bF hi,cH hi];refine a _ _ ?_
 by_cases hn:c*i.size=0
 ·rw [VE hn,np,hn];rw [hn] at hk;have e0:(Array.map (fun x:Nat=>(default:XB)) (Array.range 0))=#[]:=ah
  rw [e0];exact hk _ (bm.new h e []) (Ext.push h _) ah
 ·rw [Vu hn,al,dp d,np];refine hk _ ?_ (Ext.push h _) ah
  have:=bm.new h e ((List.range (c*i.size)).map (z.cells[· % z.cells.size]!))
  rw [show ((List.range (c*i.size)).map (z.cells[· % z.cells.size]!)).toArray=(Array.range (c*i.size)).map (z.cells[· % z.cells.size]!) from by
   apply Wf.1; simp] at this
  exact this
end
end Go.Sx
