/- Part of the framework. No condition. -/
import Derived.Test.YthbffkdafjboiaaGreatDoorSxH
import Derived.Lib.UnsafeStr
set_option linter.all false
set_option maxHeartbeats 4000000
namespace Go.Sx
def NL (c:UInt8):Xab:=.int .u8 (c.toNat:Nat)
section
variable {P:Program} {h:Hp} {K:Xab->Hp->Prop}
def Gp {k:IntKind} {n:Int} (K:Int->Hp->Prop):aS P (asInt (.int k n)) h K=K n h:=rfl
def pJ {t e:TypeId} {i:TypeInfo} {z:Xab} (X:P.underlying t=some (.slice e)) (hi:P.info? e=some i) (Y:i.zero=some z) {k k':IntKind} {l c:Nat} (hl:l<=c) (hb:c*i.bytes<=2^48) (hc:c<=2^48)
  (hk:∀ h',bF h' h.size e ((List.range (c*i.size)).map (z.cells[· % z.cells.size]!))->Ext h h'->h'.size=h.size+1->K (.slice (some ⟨h.size,0,none⟩) l c) h') :
  aS P (Instr.makeSlice t (.int k l) (.int k' c)) h K:=by
 have G:(P.info? e).bind (·.zero)=some z:=by rw [hi]; exact Y
 have Z:IntKind.i64.wrap (l:Int)=l:=wrap_i64 ad ad;have w2:IntKind.i64.wrap (c:Int)=c:=wrap_i64 ad ad;have J:¬ (281474976710656<(i.bytes:Int)*(c:Int)):=by
  have:(2:Nat)^48=281474976710656:=rfl
  rw [cw9] at hb
  have:i.bytes*c<=281474976710656:=ad
  have:((i.bytes*c:Nat):Int)<=281474976710656:=ad
  rw [Int.natCast_mul] at this; omega
 have j:∀ (n:Nat) (K':Unit->Hp->Prop),K' () h->aS P (askRoom n) h K':=by
  intro n K' O;unfold askRoom;split <;> exact O
 have u:¬ ((c:Int)<(l:Int)):=ad
 have U:¬ ((l:Int)<0):=ad
 have V:¬ ((c:Int)<0):=ad
 simp [Instr.makeSlice,ao,aF X,Gp,gM hi,Z,w2,J,u,U,V,cd hi,cI hi];refine j _ _ ?_
 by_cases hn:c*i.size=0
 ·rw [Y8 hn,nS,hn];rw [hn] at hk;have e0:(Array.map (fun x:Nat=>(default:Xab)) (Array.range 0))=#[]:=aj
  rw [e0];exact hk _ (bF.new h e []) (Ext.push h _) aj
 ·rw [Y2 hn,ao,dt G,nS];refine hk _ ?_ (Ext.push h _) aj
  have:=bF.new h e ((List.range (c*i.size)).map (z.cells[· % z.cells.size]!))
  rw [show ((List.range (c*i.size)).map (z.cells[· % z.cells.size]!)).toArray=(Array.range (c*i.size)).map (z.cells[· % z.cells.size]!) from by
   apply ZK.1; simp] at this
  exact this
end
end Go.Sx
