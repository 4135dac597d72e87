/- Part of the framework. No condition. -/
import Derived.Test.YthbffkdafjboiaaGreatDoorSxH
import Derived.Lib.UnsafeStr
set_option linter.all false
set_option maxHeartbeats 4000000
namespace Go.Sx
def MW (c:UInt8):ZB:=.int .u8 (c.toNat:Nat)
section
variable {P:Program} {h:Hp} {K:ZB->Hp->Prop}
def FO {k:IntKind} {n:Int} (K:Int->Hp->Prop):aS P (asInt (.int k n)) h K=K n h:=rfl
def pf {t e:TypeId} {i:TypeInfo} {z:ZB} (ht:P.underlying t=some (.slice e)) (hi:P.info? e=some i) (hz:i.zero=some z) {k k':IntKind} {l c:Nat} (hl:l<=c) (hb:c*i.bytes<=2^48) (hc:c<=2^48)
  (hk:∀ h',bH h' h.size e ((List.range (c*i.size)).map (z.cells[· % z.cells.size]!))->Ext h h'->h'.size=h.size+1->K (.slice (some ⟨h.size,0,none⟩) l c) h') :
  aS P (Instr.makeSlice t (.int k l) (.int k' c)) h K:=by
 have hz':(P.info? e).bind (·.zero)=some z:=by rw [hi]; exact hz
 have w1:IntKind.i64.wrap (l:Int)=l:=wrap_i64 ad ad;have w2:IntKind.i64.wrap (c:Int)=c:=wrap_i64 ad ad;have hbc:¬ (281474976710656<(i.bytes:Int)*(c:Int)):=by
  have:(2:Nat)^48=281474976710656:=rfl
  rw [Zj] at hb
  have:i.bytes*c<=281474976710656:=ad
  have:((i.bytes*c:Nat):Int)<=281474976710656:=ad
  rw [Int.natCast_mul] at this; omega
 have hasked:∀ (n:Nat) (K':Unit->Hp->Prop),K' () h->aS P (askRoom n) h K':=by
  intro n K' hk';unfold askRoom;split <;> exact hk'
 have hneg:¬ ((c:Int)<(l:Int)):=ad
 have hl0:¬ ((l:Int)<0):=ad
 have hc0:¬ ((c:Int)<0):=ad
 simp [Instr.makeSlice,ar,aF ht,FO,gw hi,w1,w2,hbc,hneg,hl0,hc0,bS hi,cE hi];refine hasked _ _ ?_
 by_cases hn:c*i.size=0
 ·rw [Xb hn,nE,hn];rw [hn] at hk;have e0:(Array.map (fun x:Nat=>(default:ZB)) (Array.range 0))=#[]:=aj
  rw [e0];exact hk _ (bH.new h e []) (Ext.push h _) aj
 ·rw [W6 hn,ar,dp hz',nE];refine hk _ ?_ (Ext.push h _) aj
  have:=bH.new h e ((List.range (c*i.size)).map (z.cells[· % z.cells.size]!))
  rw [show ((List.range (c*i.size)).map (z.cells[· % z.cells.size]!)).toArray=(Array.range (c*i.size)).map (z.cells[· % z.cells.size]!) from by
   apply XM.1; simp] at this
  exact this
end
end Go.Sx
