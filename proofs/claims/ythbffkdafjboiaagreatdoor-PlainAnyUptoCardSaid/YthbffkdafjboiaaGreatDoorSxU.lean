/- Part of the framework. No condition. -/
import Derived.Test.YthbffkdafjboiaaGreatDoorSxH
import Derived.Lib.UnsafeStr
set_option linter.all false
set_option maxHeartbeats 4000000
namespace Go.Sx
def Od (c:UInt8):Xab:=.int .u8 (c.toNat:Nat)
section
variable {P:Program} {h:Hp} {K:Xab->Hp->Prop}
def GD {k:IntKind} {n:Int} (K:Int->Hp->Prop):aU P (asInt (.int k n)) h K=K n h:=rfl
def lu {t e:TypeId} {i:TypeInfo} {z:Xab} (U:P.underlying t=some (.slice e)) (hi:P.info? e=some i) (V:i.zero=some z) {k k':IntKind} {l c:Nat} (hl:l<=c) (X:c*i.bytes<=2^48) (hc:c<=2^48)
  (hk:∀ h',bI h' h.size e ((List.range (c*i.size)).map (z.cells[· % z.cells.size]!))->Ext h h'->h'.size=h.size+1->K (.slice (some ⟨h.size,0,none⟩) l c) h') :
  aU P (Instr.makeSlice t (.int k l) (.int k' c)) h K:=by
 have u:(P.info? e).bind (·.zero)=some z:=by rw [hi]; exact V
 have Y:IntKind.i64.wrap (l:Int)=l:=wrap_i64 ad ad;have Z:IntKind.i64.wrap (c:Int)=c:=wrap_i64 ad ad;have F:¬ (281474976710656<(i.bytes:Int)*(c:Int)):=by
  have:(2:Nat)^48=281474976710656:=rfl
  rw [bo9] at X
  have:i.bytes*c<=281474976710656:=ad
  have:((i.bytes*c:Nat):Int)<=281474976710656:=ad
  rw [Int.natCast_mul] at this; omega
 have d:∀ (n:Nat) (K':Unit->Hp->Prop),K' () h->aU P (askRoom n) h K':=by
  intro n K' G;unfold askRoom;split <;> exact G
 have j:¬ ((c:Int)<(l:Int)):=ad
 have J:¬ ((l:Int)<0):=ad
 have O:¬ ((c:Int)<0):=ad
 simp [Instr.makeSlice,ao,aF U,GD,gM hi,Y,Z,F,j,J,O,bT hi,cE hi];refine d _ _ ?_
 by_cases hn:c*i.size=0
 ·rw [YC hn,j0,hn];rw [hn] at hk;have e0:(Array.map (fun x:Nat=>(default:Xab)) (Array.range 0))=#[]:=aj
  rw [e0];exact hk _ (bI.new h e []) (Ext.push h _) aj
 ·rw [Yx hn,ao,dr u,j0];refine hk _ ?_ (Ext.push h _) aj
  have:=bI.new h e ((List.range (c*i.size)).map (z.cells[· % z.cells.size]!))
  rw [show ((List.range (c*i.size)).map (z.cells[· % z.cells.size]!)).toArray=(Array.range (c*i.size)).map (z.cells[· % z.cells.size]!) from by
   apply Zg.1; simp] at this
  exact this
end
end Go.Sx
