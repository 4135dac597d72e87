/- Part of the framework. No condition. -/
import Derived.Test.YtmdncdaladplkaaGreatDoorSxH
import Derived.Lib.UnsafeStr
set_option linter.all false
set_option maxHeartbeats 4000000
namespace Go.Sx
def BL (c:UInt8):Xab:=.int .u8 (c.toNat:Nat)
section
variable {P:Program} {h:Hp} {K:Xab->Hp->Prop}
variable {H:IntKind}
def Ib {n:Int} (K:Int->Hp->Prop):aS P (asInt (.int H n)) h K=K n h:=rfl
def qH {t e:TypeId} {i:TypeInfo} {z:Xab} (ht:P.underlying t=some (.slice e)) (hi:P.info? e=some i) (o:i.zero=some z) {k':IntKind} {l c:Nat} (hl:l<=c) (p:c*i.bytes<=2^48) (hc:c<=2^48)
  (hk:∀ h',bC h' h.size e ((List.range (c*i.size)).map (z.cells[· % z.cells.size]!))->Ext h h'->h'.size=h.size+1->K (.slice (some ⟨h.size,0,none⟩) l c) h') :
  aS P (Instr.makeSlice t (.int H l) (.int k' c)) h K:=by
 have d:(P.info? e).bind (·.zero)=some z:=by rw [hi]; exact o
 have q:IntKind.i64.wrap (l:Int)=l:=wrap_i64 ad ad;have r:IntKind.i64.wrap (c:Int)=c:=wrap_i64 ad ad;have f:¬ (281474976710656<(i.bytes:Int)*(c:Int)):=by
  have:(2:Nat)^48=281474976710656:=rfl
  rw [fm9] at p
  have:i.bytes*c<=281474976710656:=ad
  have:((i.bytes*c:Nat):Int)<=281474976710656:=ad
  rw [Int.natCast_mul] at this; omega
 have a:∀ (n:Nat) (K':Unit->Hp->Prop),K' () h->aS P (askRoom n) h K':=by
  intro n K' g;unfold askRoom;split <;> exact g
 have b:¬ ((c:Int)<(l:Int)):=ad
 have j:¬ ((l:Int)<0):=ad
 have m:¬ ((c:Int)<0):=ad
 simp [Instr.makeSlice,av,aC ht,Ib,iy hi,q,r,f,b,j,m,cd hi,cS hi];refine a _ _ ?_
 by_cases hn:c*i.size=0
 ·rw [ag9 hn,oR,hn];rw [hn] at hk;have e0:(Array.map (fun x:Nat=>(default:Xab)) (Array.range 0))=#[]:=aj
  rw [e0];exact hk _ (bC.new h e []) (Ext.push h _) aj
 ·rw [ac9 hn,av,dH d,oR];refine hk _ ?_ (Ext.push h _) aj
  have:=bC.new h e ((List.range (c*i.size)).map (z.cells[· % z.cells.size]!))
  rw [show ((List.range (c*i.size)).map (z.cells[· % z.cells.size]!)).toArray=(Array.range (c*i.size)).map (z.cells[· % z.cells.size]!) from by
   apply cb9.1; simp] at this
  exact this
end
end Go.Sx
