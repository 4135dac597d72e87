/- A framework of our own, part L: the rules by which a tree is proved. No condition. -/
import Derived.Test.YtlpcncdglfjnoaaGreatDoorSxF
import Derived.Lib.Bytealg
import Derived.Lib.IndexAny
set_option linter.unusedVariables false
set_option linter.unusedSimpArgs false
set_option linter.deprecated false
namespace Go.Sx
section rules
variable {P:Program} {L:Lp} {K:Value→Hp→Prop} {h:Hp}
theorem semW_ext {f : FuncId} {fn : Func} {e : Array Value → Sem Value} {args : Array Value} (hf : P.funcs[f]? = some fn) (hn : (fn.name == "runtime.NumGoroutine") = false) (hb : fn.body.isNone = true)
  (h1:Extern.findNext fn=none) (h2:Extern.find fn=some e) (hk:semW P (e args) h K):semW P (extS f args) h K:=by
 unfold extS
 rw [semW_bind']
 unfold callFunc
 rw [semW_program,hf]
 simp only [hn,hb,h1,h2,Bool.false_eq_true,if_false,if_true]
 show semW P (do let v ← e args; pure (Next.value v)) h _
 rw [semW_bind']
 exact hk
theorem semW_indexByte (s:ByteArray) (c:Int):semW P (Extern.BytealgIndexByte.indexByte #[.string s,.int .u8 c]) h K=K (.int .i64 (Lib.indexByte s.data.toList c.toNat.toUInt8)) h:=by
 rw [← Lib.firstIdx_eq]
 unfold Extern.BytealgIndexByte.indexByte firstIdx
 show semW P (match (List.range s.size).find? (fun i=>s[i]! == c.toNat.toUInt8) with | some i=>pure (goInt i) | none=>pure (goInt (-1))) h K=_
 all_goals (cases (List.range s.size).find? (fun i=>s[i]! == c.toNat.toUInt8) <;> rfl)
end rules
/-! Numbers. -/
theorem wrap_i64 {x:Int} (h1:-9223372036854775808≤x) (h2:x≤9223372036854775807):IntKind.wrap .i64 x=x:=by
 simp only [IntKind.wrap,IntKind.bits,IntKind.signed,Bool.true_and]
 split <;> rename_i hh
 ·have:=of_decide_eq_true hh; omega
 ·have:¬ _:=fun h=>hh (decide_eq_true h); omega
end Go.Sx
