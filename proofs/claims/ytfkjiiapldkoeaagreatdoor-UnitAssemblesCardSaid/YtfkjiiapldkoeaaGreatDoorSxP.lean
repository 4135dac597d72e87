/- Part of the framework. No condition. -/
import Derived.Test.YtfkjiiapldkoeaaGreatDoorSxF
set_option linter.all false
set_option maxHeartbeats 4000000
namespace Go.Sx
def M2:Nat->Code->Code
 | 0,c=>c
 | n+1,.seq _ b=>M2 n b
 | _+1,c=>c
def uN (n:Nat) (fn:Func):Code :=
 match fn.body with
 | some c=>M2 n c
 | none=>.skip
def HX (P:Program) (cuts:List Nat) (fn:Func) (c:Code) (e:Env):T :=
 fq P fn.ntmps cuts 100000 c e 0 fun x e _=>match x with
  | .normal=>xM P fn.results.toList e fun l=>T.ret (one l)
  | .ret=>xM P fn.results.toList e fun l=>T.ret (one l)
  | _=>T.fail
end Go.Sx
