/- A framework of our own, part P: the rest of a function's code behind its loops over functions, as a tree. No condition. -/
import Derived.Test.YtfkjiiapldkoeaaGreatDoorSxF
set_option linter.unusedVariables false
set_option linter.unusedSimpArgs false
set_option linter.deprecated false
namespace Go.Sx
def Ki:Nat→Code→Code
 | 0,c=>c
 | n+1,.seq _ b=>Ki n b
 | _+1,c=>c
def rL (n:Nat) (fn:Func):Code :=
 match fn.body with
 | some c=>Ki n c
 | none=>.skip
def Gm (P:Program) (cuts:List Nat) (fn:Func) (c:Code) (e:Env):T :=
 ec P fn.ntmps cuts 100000 c e 0 fun x e _=>match x with
  | .normal=>vJ P fn.results.toList e fun l=>T.ret (one l)
  | .ret=>vJ P fn.results.toList e fun l=>T.ret (one l)
  | _=>T.fail
end Go.Sx
