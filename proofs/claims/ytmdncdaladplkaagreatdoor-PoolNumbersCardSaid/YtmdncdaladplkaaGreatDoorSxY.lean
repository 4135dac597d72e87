/- Closed runs, part Y: regions, code, functions over a store. No condition. -/
import Derived.Test.YtmdncdaladplkaaGreatDoorSxW
set_option linter.unusedVariables false
set_option linter.unusedSimpArgs false
set_option linter.deprecated false
namespace Go.Sx.Cr
noncomputable section

def beqA (a b : Option Addr) : Bool :=
  match a, b with
  | none, none => true
  | some ⟨b, o, none⟩, some ⟨b', o', none⟩ => Nat.beq b b' && Nat.beq o o'
  | _, _ => false
def beqL (q : Value → Value → Bool) : List Value → List Value → Bool
  | [], [] => true
  | a :: l, b :: k => q a b && beqL q l k
  | _, _ => false
def beqV : Nat → Value → Value → Bool
  | 0, _, _ => false
  | n + 1, a, b => match a, b with
    | .bool a, .bool b => a == b
    | .int k a, .int k' b => decide (k = k') && (a == b)
    | .string a, .string b => a.data.toList == b.data.toList
    | .pointer a, .pointer b => beqA a b
    | .slice a l c, .slice b l' c' => beqA a b && Nat.beq l l' && Nat.beq c c'
    | .map none, .map none => true
    | .map (some a), .map (some b) => Nat.beq a b
    | .func (.func f) ⟨a⟩ ⟨c⟩, .func (.func f') ⟨a'⟩ ⟨c'⟩ => Nat.beq f f' && beqL (beqV n) a a' && beqL (beqV n) c c'
    | .iface t a, .iface t' a' => Nat.beq t t' && beqV n a a'
    | .nilFunc, .nilFunc => true
    | .nilIface, .nilIface => true
    | .agg ⟨a⟩, .agg ⟨b⟩ => beqL (beqV n) a b
    | .tuple ⟨a⟩, .tuple ⟨b⟩ => beqL (beqV n) a b
    | _, _ => false
def beqD {α : Type} (q : α → α → Bool) : List (α × Value) → List (α × Value) → Bool
  | [], [] => true
  | a :: l, b :: k => q a.1 b.1 && beqV 9 a.2 b.2 && beqD q l k
  | _, _ => false
def beqO : AO → AO → Bool
  | .gone, .gone => true
  | .row c e m, .row c' e' m' => Nat.beq e e' && Nat.beq m m' && beqL (beqV 9) c c'
  | .smap d, .smap d' => beqD eqTxt d d'
  | .kmap d, .kmap d' => beqD eqKey d d'
  | .imap d, .imap d' => beqD eqPair d d'
  | _, _ => false
def beqOpt {α : Type} (q : α → α → Bool) : Option α → Option α → Bool
  | none, none => true
  | some a, some b => q a b
  | _, _ => false
def beqT {α : Type} (q : α → α → Bool) : Tri α → Tri α → Bool
  | .nil, .nil => true
  | .node o l r, .node o' l' r' => beqOpt q o o' && beqT q l l' && beqT q r r'
  | _, _ => false

abbrev CMade := List (Nat × Nat × Nat × List Value)
def cstable (C : Cx) (s : CS) (w : List Nat) : CMade → Bool
  | [] => true
  | (i, b, off, l) :: m => match memN i w with
    | true => cstable C s w m
    | false => ((cells C s b off l.length).elim false fun k => beqL (beqV 9) k l) && cstable C s w m
abbrev Plan := List (Nat × Nat)
def baseOf (i nx : Nat) : Plan → Nat
  | [] => nx
  | (j, b) :: l => match Nat.beq j i with
    | true => b
    | false => baseOf i nx l
abbrev DS := Option (Ev × CS × Plan)
/-- The run goes ahead: an operation that does nothing to memory. -/
def calmStep (C : Cx) (call : CallF) (n : Nat) (i : Nat) (o : Oper) (e : Ev) (s : CS) (m : CMade) (k : Ev → CS → CMade → DS) : DS :=
  match o.op with
  | .load t x => (cev C e x).bind fun v => (cload C t v s).bind fun (b, off, l, u) => k (cset n e o.dst u) s ((i, b, off, l) :: m)
  | _ => (cop C call o e s).bind fun (v, s) => k (cset n e o.dst v) s m
def actStep (C : Cx) (call : CallF) (n : Nat) (ops : Array Oper) (e : Ev) (s : CS) (m : CMade) (k : Nat → Ev → CS → Plan → DS) (q : Nat × Oper) (p : Plan) : DS :=
  match q with
  | (i, o) => (cwant ops o e).bind fun w => match w with
    | true => (cop C call o e ⟨s.σ, baseOf i s.nx p⟩).bind fun (v, s') => chk (cstable C s' (waits o) m) (k i (cset n e o.dst v) s' ((i, baseOf i s.nx p) :: p))
    | false => k i (cset n e o.dst undef) s p
def sameAs (e : Ev) (s : CS) (x : DS) : Bool := x.elim false fun (e', s', _) => beqT (beqV 9) e' e && beqT beqO s'.σ s.σ
def actAll (step : Nat × Oper → Plan → DS) (q : Nat × Oper) (qs : List (Nat × Oper)) (p : Plan) : DS :=
  (step q p).bind fun (e, s, p) => chk (qs.all fun q => sameAs e s (step q p)) (some (e, s, p))
def cdraw (C : Cx) (call : CallF) (n : Nat) (ops : Array Oper) : Nat → List Nat → Ev → CS → CMade → Plan → DS
  | 0, _, _, _, _, _ => none
  | fu + 1, D, e, s, m, p =>
    match findReady C.P D true (idx 0 ops.toList) with
    | (i, o) :: _ => (cwant ops o e).bind fun w => match w with
      | true => calmStep C call n i o e s m fun e s m => cdraw C call n ops fu (i :: D) e s m p
      | false => cdraw C call n ops fu (i :: D) (cset n e o.dst undef) s m p
    | [] => match findReady C.P D false (idx 0 ops.toList) with
      | [] => some (e, s, p)
      | q :: qs => actAll (actStep C call n ops e s m fun i e s p => cdraw C call n ops fu (i :: D) e s m p) q qs p
def cregion (C : Cx) (call : CallF) (n : Nat) (ops : Array Oper) (draw : Bool) (e : Ev) (s : CS) : ES :=
  match draw with
  | false => cops C call n ops ops.toList e s
  | true => chk (okRegion C.P n ops) ((cdraw C call n ops (ops.size + 1) [] e s [] []).bind fun (e, s, _) => some (e, s))
abbrev XS := Option (Exit × Ev × CS)
def isNorm : Exit → Bool
  | .normal => true
  | _ => false
def normally (r : XS) (k : Ev → CS → XS) : XS :=
  r.bind fun (x, e, s) => match isNorm x with
  | true => k e s
  | false => some (x, e, s)
def isExit (id : Nat) : Exit → Bool
  | .exit i => Nat.beq i id
  | _ => false
def outOf (id : Nat) (r : XS) : XS :=
  r.bind fun (x, e, s) => match isExit id x with
  | true => some (.normal, e, s)
  | false => some (x, e, s)
def cloop (step : Ev → CS → XS) : Nat → Ev → CS → XS
  | 0, _, _ => none
  | k + 1, e, s => normally (step e s) (cloop step k)
def gotoOf (c : Code) : Exit → Option Code
  | .goto l => findLabel c l
  | _ => none
def cscope (step : Code → Ev → CS → XS) (c : Code) : Nat → Code → Ev → CS → XS
  | 0, _, _, _ => none
  | k + 1, r, e, s => (step r e s).bind fun (x, e, s) => match gotoOf c x with
    | some r => cscope step c k r e s
    | none => some (x, e, s)
def ccond (v : Option Value) (a b : XS) : XS :=
  match v with
  | some (.bool true) => a
  | some (.bool false) => b
  | _ => none
def ccode (C : Cx) (call : CallF) (n : Nat) : Nat → Code → Ev → CS → XS
  | 0, _, _, _ => none
  | fu + 1, c, e, s =>
    match c with
    | .skip => some (.normal, e, s)
    | .label _ => some (.normal, e, s)
    | .exit i => some (.exit i, e, s)
    | .goto l => some (.goto l, e, s)
    | .ret => some (.ret, e, s)
    | .seq a b => normally (ccode C call n fu a e s) (ccode C call n fu b)
    | .cond c a b => ccond (cev C e c) (ccode C call n fu a e s) (ccode C call n fu b e s)
    | .block id c => outOf id (ccode C call n fu c e s)
    | .region _ ops draw => (cregion C call n ops draw e s).bind fun (e, s) => some (.normal, e, s)
    | .loop c => cloop (ccode C call n fu c) 100000 e s
    | .scope c => cscope (ccode C call n fu) c 100000 c e s
    | _ => none
def cres1 (C : Cx) (s : CS) (e : Ev) : ResultVar → Option Value
  | .tmp t => e.get t
  | .cell a t => (e.get a).bind fun p => (cload C t p s).bind fun (_, _, _, v) => some v
def cres (C : Cx) (s : CS) (e : Ev) : List ResultVar → Option (List Value)
  | [] => some []
  | r :: rs => (cres1 C s e r).bind fun v => (cres C s e rs).bind fun l => some (v :: l)
def cenv : Nat → List Value → Ev
  | _, [] => .nil
  | i, v :: l => (cenv (i + 1) l).put i v
def returns : Exit → Bool
  | .normal => true
  | .ret => true
  | _ => false
def cbody (C : Cx) (call : CallF) (fn : Func) (args : List Value) (s : CS) : VS :=
  chk (Nat.ble args.length fn.ntmps) (fn.body.bind fun c => (ccode C call fn.ntmps 1000 c (cenv 0 args) s).bind fun (x, e, s) => chk (returns x) ((cres C s e fn.results.toList).bind fun l => some (one l, s)))
def cfun (C : Cx) : Nat → FuncId → List Value → CS → VS
  | 0, _, _, _ => none
  | fu + 1, f, args, s => (C.P.funcs[f]?).bind fun fn => cbody C (cfun C fu) fn args s
end
end Go.Sx.Cr
