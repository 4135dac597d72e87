/- A framework of our own, part U: strings and rows of bytes: make, copy, unsafe.String, conversions. No condition. -/
import Derived.Test.YtlpcncdglfjnoaaGreatDoorSxH
import Derived.Lib.UnsafeStr
set_option linter.unusedVariables false
set_option linter.unusedSimpArgs false
set_option linter.deprecated false
namespace Go.Sx
section
variable {P:Program} {h:Hp} {K:Value→Hp→Prop}
theorem semW_asInt {k:IntKind} {n:Int} (K:Int→Hp→Prop):semW P (asInt (.int k n)) h K=K n h:=rfl
theorem makeSlice_of {t e:TypeId} {i:TypeInfo} {z:Value} (ht:P.underlying t=some (.slice e)) (hi:P.info? e=some i) (hz:i.zero=some z) {k k':IntKind} {l c:Nat} (hl:l≤c) (hb:c*i.bytes≤2^48) (hc:c≤2^48)
  (hk:∀ h',Box h' h.size e ((List.range (c*i.size)).map (z.cells[· % z.cells.size]!))→Ext h h'→h'.size=h.size+1→K (.slice (some ⟨h.size,0,none⟩) l c) h') :
  semW P (Instr.makeSlice t (.int k l) (.int k' c)) h K:=by
 have hz':(P.info? e).bind (·.zero)=some z:=by rw [hi]; exact hz
 have w1:IntKind.i64.wrap (l:Int)=l:=wrap_i64 (by omega) (by omega)
 have w2:IntKind.i64.wrap (c:Int)=c:=wrap_i64 (by omega) (by omega)
 have hbc:¬ (281474976710656<(i.bytes:Int)*(c:Int)):=by
  have:(2:Nat)^48=281474976710656:=rfl
  rw [Nat.mul_comm] at hb
  have:i.bytes*c≤281474976710656:=by omega
  have:((i.bytes*c:Nat):Int)≤281474976710656:=by omega
  rw [Int.natCast_mul] at this; omega
 have hasked:∀ (n:Nat) (K':Unit→Hp→Prop),K' () h→semW P (askRoom n) h K':=by
  intro n K' hk'
  unfold askRoom
  split <;> exact hk'
 have hneg:¬ ((c:Int)<(l:Int)):=by omega
 have hl0:¬ ((l:Int)<0):=by omega
 have hc0:¬ ((c:Int)<0):=by omega
 simp [Instr.makeSlice,semW_bind',semW_underlying ht,semW_asInt,semW_typeInfo hi,w1,w2,hbc,hneg,hl0,hc0,semW_sizeOf hi,cellsOf_info hi]
 refine hasked _ _ ?_
 by_cases hn:c*i.size=0
 ·rw [if_pos hn,semW_map,hn]
  rw [hn] at hk
  have e0:(Array.map (fun x:Nat=>(default:Value)) (Array.range 0))=#[]:=by simp
  rw [e0]
  exact hk _ (Box.new h e []) (Ext.push h _) (by simp)
 ·rw [if_neg hn,semW_bind',semW_zeroValue hz',semW_map]
  refine hk _ ?_ (Ext.push h _) (by simp)
  have:=Box.new h e ((List.range (c*i.size)).map (z.cells[· % z.cells.size]!))
  rw [show ((List.range (c*i.size)).map (z.cells[· % z.cells.size]!)).toArray=(Array.range (c*i.size)).map (z.cells[· % z.cells.size]!) from by
   apply Array.toList_inj.1; simp] at this
  exact this
end
end Go.Sx
