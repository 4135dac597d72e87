/- A framework of our own, part P: the rest of a function's code behind its loops over functions, as a tree. No condition. -/
import Derived.Test.YtfkjiiapldkoeaaGreatDoorSxF
set_option linter.unusedVariables false
set_option linter.unusedSimpArgs false
set_option linter.deprecated false
namespace Go.Sx
def Lo:Nat→Code→Code
 | 0,c=>c
 | n+1,.seq _ b=>Lo n b
 | _+1,c=>c
def rX (n:Nat) (fn:Func):Code :=
 match fn.body with
 | some c=>Lo n c
 | none=>.skip
def G6 (P:Program) (cuts:List Nat) (fn:Func) (c:Code) (e:Env):T :=
 ej P fn.ntmps cuts 100000 c e 0 fun x e _=>match x with
  | .normal=>vf P fn.results.toList e fun l=>T.ret (one l)
  | .ret=>vf P fn.results.toList e fun l=>T.ret (one l)
  | _=>T.fail
end Go.Sx
