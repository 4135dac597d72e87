/- Part of the framework. No condition. -/
import Derived.Test.YtmdncdaladplkaaGreatDoorSxH
import Derived.Lib.UnsafeStr
set_option linter.all false
set_option maxHeartbeats 4000000
namespace Go.Sx
def B' (c:UInt8):Xab:=.int .u8 (c.toNat:Nat)
section
variable {P:Program} {h:Hp} {K:Xab->Hp->Prop}
variable {H:IntKind}
def IP {n:Int} (K:Int->Hp->Prop):aQ P (asInt (.int H n)) h K=K n h:=rfl
def rl {t e:TypeId} {i:TypeInfo} {z:Xab} (ht:P.underlying t=some (.slice e)) (hi:P.info? e=some i) (o:i.zero=some z) {k':IntKind} {l c:Nat} (hl:l<=c) (p:c*i.bytes<=2^48) (hc:c<=2^48)
  (hk:∀ h',br h' h.size e ((List.range (c*i.size)).map (z.cells[· % z.cells.size]!))->Ext h h'->h'.size=h.size+1->K (.slice (some ⟨h.size,0,none⟩) l c) h') :
  aQ P (Instr.makeSlice t (.int H l) (.int k' c)) h K:=by
 have d:(P.info? e).bind (·.zero)=some z:=by rw [hi]; exact o
 have q:IntKind.i64.wrap (l:Int)=l:=wrap_i64 ad ad;have r:IntKind.i64.wrap (c:Int)=c:=wrap_i64 ad ad;have f:¬ (281474976710656<(i.bytes:Int)*(c:Int)):=by
  have:(2:Nat)^48=281474976710656:=rfl
  rw [fv9] at p
  have:i.bytes*c<=281474976710656:=ad
  have:((i.bytes*c:Nat):Int)<=281474976710656:=ad
  rw [Int.natCast_mul] at this; omega
 have a:∀ (n:Nat) (K':Unit->Hp->Prop),K' () h->aQ P (askRoom n) h K':=by
  intro n K' g;unfold askRoom;split <;> exact g
 have b:¬ ((c:Int)<(l:Int)):=ad
 have j:¬ ((l:Int)<0):=ad
 have m:¬ ((c:Int)<0):=ad
 simp [Instr.makeSlice,an,az ht,IP,iJ hi,q,r,f,b,j,m,bT hi,cJ hi];refine a _ _ ?_
 by_cases hn:c*i.size=0
 ·rw [ag9 hn,pG,hn];rw [hn] at hk;have e0:(Array.map (λx:Nat=>(default:Xab)) (Array.range 0))=#[]:=ai
  rw [e0];exact hk _ (br.new h e []) (Ext.push h _) ai
 ·rw [ac9 hn,an,dI d,pG];refine hk _ ?_ (Ext.push h _) ai
  have:=br.new h e ((List.range (c*i.size)).map (z.cells[· % z.cells.size]!))
  rw [show ((List.range (c*i.size)).map (z.cells[· % z.cells.size]!)).toArray=(Array.range (c*i.size)).map (z.cells[· % z.cells.size]!) from by
   apply ca9.1; simp] at this
  exact this
end
end Go.Sx
