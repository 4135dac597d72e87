/- A framework of our own, part X: from code to trees. No condition. -/
import Derived.Test.YtmdncdaladplkaaGreatDoorSxT
set_option linter.unusedVariables false
set_option linter.unusedSimpArgs false
set_option linter.deprecated false
namespace Go.Sx

/-- What is known of the slots: the newest first; 'none': nothing is known. -/
abbrev Env := List (Nat × Option Value)
def eget : Env → Nat → Option Value
  | [], _ => none
  | (s, v) :: e, t => bif Nat.beq s t then v else eget e t
def eput (n : Nat) (e : Env) (dst : Option Tmp) (v : Value) : Env :=
  match dst with
  | none => e
  | some d => bif Nat.blt d n then (d, some v) :: e else e
def ev (e : Env) : Operand → Option Value
  | .tmp t => eget e t
  | .const v => some v
  | .global g => some (.pointer (some ⟨g, 0, none⟩))
  | .func f => some (.func (.func f) #[] #[])

namespace T
def osome (p : Option Addr) (k : Addr → T) : T :=
  match p with
  | some a => k a
  | none => T.fail
end T

def flatD (P : Program) : Nat → TypeId → List TypeDesc
  | 0, _ => [.invalid]
  | n + 1, t =>
    match P.underlying t with
    | some (.struct fs) => fs.toList.flatMap fun f => flatD P n f.type
    | some (.array k e) => (List.replicate k (flatD P n e)).flatten
    | some d => [d]
    | none => [.invalid]
def compD (P : Program) (t : TypeId) : Comp :=
  match P.underlying t with
  | some (.struct _) => (true, flatD P 9 t)
  | some (.array _ _) => (true, flatD P 9 t)
  | some d => (false, [d])
  | none => (false, [.invalid])
def tupD (P : Program) (t : TypeId) : Bool × List Comp :=
  match P.underlying t with
  | some (.tuple ts) => (true, ts.toList.map (compD P))
  | _ => (false, [compD P t])

/-- What a range hands out where its operation bears no type: of a string: places and runes; of a map: a text and a Bool. -/
def hintC (b : Bool) : List Comp :=
  match b with
  | true => [(false, [.int .i64]), (false, [.int .i32])]
  | false => [(false, [.string]), (false, [.bool])]
/-- Known operands. -/
def with1 (e : Env) (x : Operand) (k : Value → T) : T :=
  match ev e x with
  | some v => k v
  | none => T.fail
def withL (e : Env) : List Operand → (List Value → T) → T
  | [], k => k []
  | x :: xs, k => with1 e x fun v => withL e xs fun l => k (v :: l)

/-- A string's byte at a place. -/
def sbyte (s : ByteArray) (n : Int) : Int := ((s.data.toList.getD n.toNat 0).toNat : Nat)
def bitI (op : BinOp) (k : IntKind) (x y : Int) : Int :=
  match op with
  | .and => k.wrap (BitVec.ofInt k.bits x &&& BitVec.ofInt k.bits y).toNat
  | .or => k.wrap (BitVec.ofInt k.bits x ||| BitVec.ofInt k.bits y).toNat
  | .xor => k.wrap (BitVec.ofInt k.bits x ^^^ BitVec.ofInt k.bits y).toNat
  | _ => k.wrap (BitVec.ofInt k.bits x &&& ~~~ BitVec.ofInt k.bits y).toNat
def xint (op : BinOp) (k : IntKind) (m n : Int) (kk : Value → T) : T :=
  match op with
  | .add => kk (.int k (k.wrap (m + n)))
  | .sub => kk (.int k (k.wrap (m - n)))
  | .mul => kk (.int k (k.wrap (m * n)))
  | .quo => T.need (n ≠ 0) (kk (.int k (k.wrap (m.tdiv n))))
  | .rem => T.need (n ≠ 0) (kk (.int k (m.tmod n)))
  | .eql => kk (.bool (m == n))
  | .neq => kk (.bool (m != n))
  | .lss => kk (.bool (decide (m < n)))
  | .leq => kk (.bool (decide (m ≤ n)))
  | .gtr => kk (.bool (decide (m > n)))
  | .geq => kk (.bool (decide (m ≥ n)))
  | .and => kk (.int k (bitI .and k m n))
  | .or => kk (.int k (bitI .or k m n))
  | .xor => kk (.int k (bitI .xor k m n))
  | .andNot => kk (.int k (bitI .andNot k m n))
  | _ => T.fail
def xshift (op : BinOp) (k : IntKind) (m n : Int) (kk : Value → T) : T :=
  match op with
  | .shl => T.need (0 ≤ n) (kk (.int k (k.wrap (m * 2 ^ (min n.toNat k.bits)))))
  | .shr => T.need (0 ≤ n) (kk (.int k (m.fdiv (2 ^ (min n.toNat k.bits)))))
  | _ => T.fail
def xstr (op : BinOp) (x y : ByteArray) (kk : Value → T) : T :=
  match op with
  | .add => T.need (((x.size + y.size : Nat) : Int) ≤ IntKind.i64.max) (kk (.string (x ++ y)))
  | .eql => kk (.bool (x.toList == y.toList))
  | .neq => kk (.bool !(x.toList == y.toList))
  | .lss => kk (.bool (Op.bytesLess x.toList y.toList))
  | .leq => kk (.bool (Op.bytesLess x.toList y.toList || x.toList == y.toList))
  | .gtr => kk (.bool !(Op.bytesLess x.toList y.toList || x.toList == y.toList))
  | .geq => kk (.bool !(Op.bytesLess x.toList y.toList))
  | _ => T.fail
def isShift : BinOp → Bool
  | .shl => true
  | .shr => true
  | _ => false
def isNil (x : Operand) : Bool :=
  match x with
  | .const (.pointer none) => true
  | .const (.slice none 0 0) => true
  | .const (.map none) => true
  | _ => false
def cmpS (op : BinOp) (t : TypeId) (x y : Operand) (a b : Value) : Sem Value := do eqGuard op t x y a b; binOp op t a b
def xcmp (P : Program) (op : BinOp) (t : TypeId) (x y : Operand) (a b : Value) (kk : Value → T) : T :=
  T.sem P (cmpS op t x y a b) false [(false, [.bool])] fun r => kk (.bool r)
/-- An equation's truth, or its contrary. -/
def asked (op : BinOp) (b : Bool) (kk : Value → T) (other : T) : T :=
  match op with
  | .eql => kk (.bool b)
  | .neq => kk (.bool !b)
  | _ => other
def pureTy (P : Program) (t : TypeId) (x y : Operand) : Bool :=
  match P.underlying t with
  | some (.int _) => true
  | some .string => true
  | some .bool => true
  | some (.pointer _) => isNil y
  | some (.slice _) => isNil y
  | some (.map _ _) => isNil y
  | _ => false
def xbinP (P : Program) (op : BinOp) (t : TypeId) (a b : Value) (kk : Value → T) : T :=
  match a, b with
  | .int k m, .int k' n =>
    match isShift op with
    | true => xshift op k m n kk
    | false => match decide (k = k') with
      | true => xint op k m n kk
      | false => T.fail
  | .string m, .string n => xstr op m n kk
  | .bool m, .bool n =>
    match P.underlying t with
    | some .bool => asked op (m == n) kk T.fail
    | _ => T.fail
  | .pointer p, .pointer _ =>
    match P.underlying t with
    | some (.pointer _) => asked op p.isNone kk T.fail
    | _ => T.fail
  | .slice p _ _, .slice _ _ _ =>
    match P.underlying t with
    | some (.slice _) => asked op p.isNone kk T.fail
    | _ => T.fail
  | .map p, .map _ =>
    match P.underlying t with
    | some (.map _ _) => asked op p.isNone kk T.fail
    | _ => T.fail
  | _, _ => T.fail
def xbin (P : Program) (op : BinOp) (t : TypeId) (x y : Operand) (a b : Value) (kk : Value → T) : T :=
  match pureTy P t x y with
  | true => xbinP P op t a b kk
  | false => xcmp P op t x y a b kk

def xun (op : UnOp) (a : Value) (kk : Value → T) : T :=
  match op, a with
  | .neg, .int k n => kk (.int k (k.wrap (0 - n)))
  | .xor, .int k n => kk (.int k (bitI .xor k (if k.signed then -1 else k.max) n))
  | .not, .bool b => kk (.bool !b)
  | _, _ => T.fail

def xconv (P : Program) (src dst : TypeId) (a : Value) (kk : Value → T) : T :=
  match P.underlying src, P.underlying dst, a with
  | some (.int _), some (.int k), .int _ n => kk (.int k (k.wrap n))
  | some .string, some .string, .string s => kk (.string s)
  | some .string, some .string, _ => T.fail
  | _, some (.slice _), _ => T.sem P (convert src dst a) false [(false, [.slice 0])] fun p l c => kk (.slice p l c)
  | _, some .string, _ => T.sem P (convert src dst a) false [(false, [.string])] fun s => kk (.string s)
  | _, _, _ => T.fail

def lowV : Option Value → Int
  | some (.int _ n) => n
  | _ => 0
def isIntV : Option Value → Bool
  | some (.int _ _) => true
  | none => true
  | _ => false
def highV (d : Int) : Option Value → Int
  | some (.int _ n) => n
  | _ => d
def hasT (P : Program) (t : TypeId) : Bool := (P.info? t).isSome
/-- x[lo:hi], and x[lo:hi:max] of a slice. -/
def xslice (P : Program) (t : TypeId) (a : Value) (lo hi mx : Option Value) (kk : Value → T) : T :=
  match isIntV lo && isIntV hi && isIntV mx with
  | false => T.fail
  | true =>
    match P.underlying t with
    | some .string => match a, mx with
      | .string s, none =>
        T.need (0 ≤ lowV lo ∧ lowV lo ≤ highV s.size hi ∧ highV s.size hi ≤ s.size) (kk (.string (s.extract (lowV lo).toNat (highV s.size hi).toNat)))
      | _, _ => T.fail
    | some (.slice e) => match mx with
      | some _ => T.sem P (Instr.sliceAt t a lo hi mx) false [(false, [.slice 0])] fun p l c => kk (.slice p l c)
      | none => match a with
        | .slice p len cap =>
          match hasT P e with
          | false => T.fail
          | true => T.need (0 ≤ lowV lo ∧ lowV lo ≤ highV len hi ∧ highV len hi ≤ cap) (kk (.slice (if cap = (lowV lo).toNat then p else p.map (·.add ((lowV lo).toNat * P.cellsOf e))) ((highV len hi).toNat - (lowV lo).toNat) (cap - (lowV lo).toNat)))
        | _ => T.fail
    | _ => T.sem P (Instr.sliceAt t a lo hi mx) false [(false, [.slice 0])] fun p l c => kk (.slice p l c)

def xpart (P : Program) (t : TypeId) (cs : List Value) (off : Nat) (kk : Value → T) : T :=
  match P.underlying t with
  | some (.struct _) => kk (.agg ((cs.drop off).take (P.cellsOf t)).toArray)
  | some (.array _ _) => kk (.agg ((cs.drop off).take (P.cellsOf t)).toArray)
  | some _ => match cs[off]? with
    | some v => kk v
    | none => T.fail
  | none => T.fail

def isAggD (P : Program) (t : TypeId) : Option Bool :=
  match P.underlying t with
  | some (.struct _) => some true
  | some (.array _ _) => some true
  | some _ => some false
  | none => none
def cellsV : Value → List Value
  | .agg cs => cs.toList
  | _ => []
def isAggV : Value → Bool
  | .agg _ => true
  | _ => false

def hasBody (P : Program) (f : FuncId) : Bool :=
  match P.funcs[f]? with
  | some fn => fn.body.isSome && !(fn.name == "runtime.NumGoroutine")
  | none => false
def isTmp : Operand → Bool
  | .tmp _ => true
  | .const _ => false
  | .global _ => false
  | .func _ => false
/-- A function without a body of its own: what the model's entry for it does. -/
def extS (f : FuncId) (args : Array Value) : Sem Value := do
  match ← callFunc f args with
  | .value v => pure v
  | _ => stuck "no value"
def xcall (P : Program) (f : FuncId) (args : List Value) (t : TypeId) (kk : Value → T) : T :=
  match hasBody P f with
  | true => T.call P f args (tupD P t).1 (tupD P t).2 (cur _ fun l => kk (rv (tupD P t).1 (tupD P t).2 l))
  | false => T.sem P (extS f args.toArray) (tupD P t).1 (tupD P t).2 (cur _ fun l => kk (rv (tupD P t).1 (tupD P t).2 l))

def xlen (P : Program) (c : Call) (t : TypeId) (args : List Value) (kk : Value → T) : T :=
  match (c.argTypes[0]?).bind P.underlying with
  | some .string => match args with
    | [.string s] => kk (.int .i64 s.size)
    | _ => T.fail
  | some (.slice _) => match args with
    | [.slice _ n _] => kk (.int .i64 n)
    | _ => T.fail
  | _ => T.sem P (Builtin.len_ c.argTypes t args.toArray) false [(false, [.int .i64])] fun n => kk (.int .i64 n)
def xcap (P : Program) (c : Call) (args : List Value) (kk : Value → T) : T :=
  match (c.argTypes[0]?).bind P.underlying with
  | some (.slice _) => match args with
    | [.slice _ _ n] => kk (.int .i64 n)
    | _ => T.fail
  | _ => T.fail
def xbuiltin (P : Program) (b : Builtin) (c : Call) (t : TypeId) (args : List Value) (kk : Value → T) : T :=
  match b, args with
  | .len, _ => xlen P c t args kk
  | .cap, _ => xcap P c args kk
  | .append, _ => T.sem P (Builtin.append_ c.argTypes t args.toArray) false [(false, [.slice 0])] fun p l cp => kk (.slice p l cp)
  | .copy, _ => T.sem P (Builtin.copy_ c.argTypes t args.toArray) false [(false, [.int .i64])] fun n => kk (.int .i64 n)
  | .min, _ => T.sem P (Builtin.min_ c.argTypes t args.toArray) false [compD P t] (cur _ fun l => kk (rv false [compD P t] l))
  | .max, _ => T.sem P (Builtin.max_ c.argTypes t args.toArray) false [compD P t] (cur _ fun l => kk (rv false [compD P t] l))
  | .delete, _ => T.sem P (Builtin.delete_ c.argTypes t args.toArray) true [] (kk (.tuple #[]))
  | .unsafeString, _ => T.sem P (Builtin.unsafeString_ c.argTypes t args.toArray) false [compD P t] (cur _ fun l => kk (rv false [compD P t] l))
  | .unsafeSliceData, _ => T.sem P (Builtin.unsafeSliceData_ c.argTypes t args.toArray) false [compD P t] (cur _ fun l => kk (rv false [compD P t] l))
  | _, _ => T.fail

def xsl (P : Program) (t : TypeId) (lo hi mx : Option Operand) (a : Value) (vs : List Value) (kk : Value → T) : T :=
  match lo, hi, mx, vs with
  | none, none, none, [] => xslice P t a none none none kk
  | some _, none, none, [l] => xslice P t a (some l) none none kk
  | none, some _, none, [h] => xslice P t a none (some h) none kk
  | some _, some _, none, [l, h] => xslice P t a (some l) (some h) none kk
  | some _, some _, some _, [l, h, m] => xslice P t a (some l) (some h) (some m) kk
  | none, some _, some _, [h, m] => xslice P t a none (some h) (some m) kk
  | _, _, _, _ => T.fail
def xidxA (P : Program) (t : TypeId) (v i : Value) (kk : Value → T) : T :=
  match v, i, P.underlying t with
  | .slice p len _, .int _ n, some (.slice el) => bif !hasT P el then T.fail else T.need (0 ≤ n ∧ n < len) (T.osome p fun a => kk (.pointer (some (a.add (n.toNat * P.cellsOf el)))))
  | .pointer p, .int _ n, some (.array len el) => bif !hasT P el then T.fail else T.need (0 ≤ n ∧ n < len) (T.osome p fun a => kk (.pointer (some (a.add (n.toNat * P.cellsOf el)))))
  | _, _, _ => T.fail
def xidx (P : Program) (t : TypeId) (v i : Value) (kk : Value → T) : T :=
  match v, i, P.underlying t with
  | .string s, .int _ n, some .string => T.need (0 ≤ n ∧ n < s.size) (kk (.int .u8 (sbyte s n)))
  | v, i, some (.array len el) => T.sem P (Instr.index t v i) false [compD P el] (cur _ fun l => kk (rv false [compD P el] l))
  | _, _, _ => T.fail
/-- Cells laid one behind the other, from a place on. -/
def putL (xs : List Value) : Nat → List Value → List Value
  | _, [] => xs
  | i, v :: vs => putL (xs.set i v) (i + 1) vs
def fillL (place : Nat → Option (Nat × Nat)) (cells : List Value) : List (Nat × List Value) → Option (List Value)
  | [] => some cells
  | (i, l) :: rest =>
    match place i with
    | none => none
    | some (off, size) => bif !(Nat.beq l.length size) || Nat.blt cells.length (off + l.length) then none else fillL place (putL cells off l) rest
def xcells (agg : Nat → Option Bool) : List (Nat × Value) → (List (Nat × List Value) → T) → T
  | [], k => k []
  | (i, v) :: l, k =>
    match agg i with
    | some true => cond (isAggV v) (xcells agg l fun r => k ((i, cellsV v) :: r)) T.fail
    | some false => cond (isAggV v) T.fail (xcells agg l fun r => k ((i, [v]) :: r))
    | none => T.fail
def xop (P : Program) (o : Oper) (e : Env) (kk : Value → T) : T :=
  match o.op with
  | .move x => with1 e x kk
  | .assign x => with1 e x kk
  | .pick c a b => with1 e c fun c => match c with
    | .bool b' => cond b' (with1 e a kk) (with1 e b kk)
    | _ => T.fail
  | .alloc t => match (P.info? t).bind (·.zero) with
    | some z => T.new z.cells.toList t fun a => kk (.pointer (some a))
    | none => T.fail
  | .box t x => with1 e x fun v => match isAggD P t with
    | some true => cond (isAggV v) (T.new (cellsV v) t fun a => kk (.pointer (some a))) T.fail
    | some false => cond (isAggV v) T.fail (T.new [v] t fun a => kk (.pointer (some a)))
    | none => T.fail
  | .build t ps => withL e (ps.toList.map (·.2)) fun vs => match P.underlying t, (P.info? t).bind (·.zero) with
    | some (.struct fs), some z =>
      bif !(fs.all fun f => hasT P f.type) then T.fail else xcells (fun i => (fs[i]?).bind fun f => isAggD P f.type) ((ps.toList.map (·.1)).zip vs) fun ls => match fillL (((fs.map fun f => (f.offset, P.cellsOf f.type)))[·]?) z.cells.toList ls with
      | some cs => kk (.agg cs.toArray)
      | none => T.fail
    | some (.array _ el), some z =>
      bif !hasT P el then T.fail else xcells (fun _ => isAggD P el) ((ps.toList.map (·.1)).zip vs) fun ls => match fillL (fun i => some (i * P.cellsOf el, P.cellsOf el)) z.cells.toList ls with
      | some cs => kk (.agg cs.toArray)
      | none => T.fail
    | _, _ => T.fail
  | .buildSlice t len ps => withL e (ps.toList.map (·.2)) fun vs =>
    T.sem P (Instr.buildSlice t len ((ps.toList.map (·.1)).zip vs).toArray) false [(false, [.slice 0])] fun p l c => kk (.slice p l c)
  | .load t x => with1 e x fun v => match v, isAggD P t with
    | .pointer p, some true => bif (flatD P 9 t).length == P.cellsOf t then T.osome p fun a => T.loads a (flatD P 9 t) (cur _ fun l => kk (.agg l.toArray)) else T.fail
    | .pointer p, some false => T.osome p fun a => T.loads a (compD P t).2 (cur _ fun l => kk (l.headD undef))
    | _, _ => T.fail
  | .store t x y => with1 e x fun p => with1 e y fun v => match p, isAggD P t with
    | .pointer p, some true => cond (isAggV v) (bif (cellsV v).length == P.cellsOf t then T.osome p fun a => T.stores a (cellsV v) (kk undef) else T.fail) T.fail
    | .pointer p, some false => bif P.cellsOf t == 1 then cond (isAggV v) T.fail (T.osome p fun a => T.stores a [v] (kk undef)) else T.fail
    | _, _ => T.fail
  | .nilCheck x => with1 e x fun v => match v with
    | .pointer p => T.osome p fun a => kk (.pointer (some a))
    | .func (.func f) fi ca => kk (.func (.func f) fi ca)
    | .iface t v => kk (.iface t v)
    | _ => T.fail
  | .binOp op t x y _ => with1 e x fun a => with1 e y fun b => xbin P op t x y a b kk
  | .unOp op _ x => with1 e x fun a => xun op a kk
  | .convert s d x => with1 e x fun a => xconv P s d a kk
  | .makeInterface t x => with1 e x fun a => match P.underlying t with
    | some (.interface _) => T.fail
    | some _ => kk (.iface t a)
    | none => T.fail
  | .makeFunc fn fi ca => withL e fi.toList fun fi => withL e ca.toList fun ca => kk (.func fn fi.toArray ca.toArray)
  | .makeMap t none => T.sem P (Instr.makeMap t none) false [(false, [.map 0 0])] fun r => kk (.map r)
  | .makeSlice t l c => with1 e l fun l => with1 e c fun c => T.sem P (Instr.makeSlice t l c) false [(false, [.slice 0])] fun p l c => kk (.slice p l c)
  | .slice t x lo hi mx => with1 e x fun a => withL e (lo.toList ++ hi.toList ++ mx.toList) fun vs => xsl P t lo hi mx a vs kk
  | .fieldAddr s x f => with1 e x fun v => match v, P.underlying s with
    | .pointer p, some (.struct fs) => match fs[f]? with
      | some fd => match P.cellsOf fd.type with
        | 0 => T.fail
        | _ + 1 => T.osome p fun a => kk (.pointer (some (a.add fd.offset)))
      | none => T.fail
    | _, _ => T.fail
  | .field s x f => with1 e x fun v => match v, P.underlying s with
    | .agg cs, some (.struct fs) => match fs[f]? with
      | some fd => xpart P fd.type cs.toList fd.offset kk
      | none => T.fail
    | _, _ => T.fail
  | .indexAddr t x i => with1 e x fun v => with1 e i fun i => xidxA P t v i kk
  | .index t x i => with1 e x fun v => with1 e i fun i => xidx P t v i kk
  | .lookup t m x ok => with1 e m fun m => with1 e x fun x => match P.underlying t with
    | some (.map _ el) => match ok with
      | true => T.sem P (Instr.lookup t m x true) true [compD P el, (false, [.bool])] (cur _ fun l => kk (rv true [compD P el, (false, [.bool])] l))
      | false => T.sem P (Instr.lookup t m x false) false [compD P el] (cur _ fun l => kk (rv false [compD P el] l))
    | _ => T.fail
  | .mapUpdate t m x v => with1 e m fun m => with1 e x fun x => with1 e v fun v => T.semU P (Instr.mapUpdate t m x v) (kk undef)
  | .insert t m x v => with1 e m fun m => with1 e x fun x => with1 e v fun v => T.semU P (Instr.mapUpdate t m x v) (kk undef)
  | .mapEntry t m x => with1 e m fun m => with1 e x fun x => match P.underlying t with
    | some (.map _ el) => T.sem P (Instr.mapEntry t m x) true [compD P el, (false, [.int .i64])] (cur _ fun l => kk (rv true [compD P el, (false, [.int .i64])] l))
    | _ => T.fail
  | .entryStore t m x v => with1 e m fun m => with1 e x fun x => with1 e v fun v => T.semU P (Instr.entryStore t m x v) (kk undef)
  | .range t x => with1 e x fun x => T.sem P (Instr.range t x) false [(false, [.pointer 0])] fun p => kk (.pointer p)
  | .next it b => with1 e it fun it => match P.underlying o.type with
    | some (.tuple ts) => match ts.toList with
      | [] => T.next P (Instr.next it b o.type) (hintC b) (kk (.tuple #[.bool false])) (cur _ fun l => kk (.tuple (.bool true :: parts (hintC b) l).toArray))
      | _ :: ts => T.next P (Instr.next it b o.type) (ts.map (compD P)) (kk (.tuple #[.bool false])) (cur _ fun l => kk (.tuple (.bool true :: parts (ts.map (compD P)) l).toArray))
    | _ => T.fail
  | .entry it => with1 e it fun it => T.sem P (Instr.entry it) true (hintC false) (cur _ fun l => kk (rv true (hintC false) l))
  | .typeAssert x t d ok => with1 e x fun x => match ok with
    | true => T.sem P (Instr.typeAssert x t d true) true [compD P d, (false, [.bool])] (cur _ fun l => kk (rv true [compD P d, (false, [.bool])] l))
    | false => T.sem P (Instr.typeAssert x t d false) false [compD P d] (cur _ fun l => kk (rv false [compD P d] l))
  | .extract x i => with1 e x fun v => match v with
    | .tuple vs => match vs.toList[i]? with
      | some v => kk v
      | none => T.fail
    | _ => T.fail
  | .call c => match c.callee with
    | .builtin b => withL e c.args.toList fun vs => xbuiltin P b c o.type vs kk
    | .value g => match isTmp g with
      | true => with1 e g fun g => withL e c.args.toList fun vs => T.callv P g vs (tupD P o.type).1 (tupD P o.type).2 (cur _ fun l => kk (rv (tupD P o.type).1 (tupD P o.type).2 l))
      | false => with1 e g fun g => withL e c.args.toList fun vs => match g with
        | .func (.func f) fi ca => xcall P f (fi.toList ++ vs ++ ca.toList) o.type kk
        | .func (.method _) _ _ => T.fail
        | .func (.methodOf _ _) _ _ => T.fail
        | .func (.via _ _ _ _) _ _ => T.fail
        | .func (.yield _) _ _ => T.fail
        | .nilFunc => T.fail
        | .bool _ => T.fail
        | .int _ _ => T.fail
        | .float _ _ => T.fail
        | .complex _ _ _ => T.fail
        | .string _ => T.fail
        | .pointer _ => T.fail
        | .slice _ _ _ => T.fail
        | .map _ => T.fail
        | .chan _ => T.fail
        | .iface _ _ => T.fail
        | .nilIface => T.fail
        | .agg _ => T.fail
        | .tuple _ => T.fail
    | .invoke _ _ => T.fail
  | _ => T.fail

def guardOf (ops : Array Oper) (o : Oper) : Option (Option Tmp × Bool) :=
  match o.guard with
  | none => none
  | some (j, want) => some ((ops[j]?).bind (·.dst), want)
/-- Is the operation wanted? Where that hangs on a Bool: both ways. -/
def xguard (n : Nat) (ops : Array Oper) (o : Oper) (e : Env) (yes no : Env → T) : T :=
  match guardOf ops o with
  | none => yes e
  | some (none, _) => no e
  | some (some d, want) =>
    match eget e d with
    | some (.bool b) => match want with
      | true => cond b (yes (eput n e (some d) (.bool true))) (no (eput n e (some d) (.bool false)))
      | false => cond b (no (eput n e (some d) (.bool true))) (yes (eput n e (some d) (.bool false)))
    | some (.tuple _) => no e
    | _ => T.fail
def xops (P : Program) (n : Nat) (ops : Array Oper) : List Oper → Env → (Env → T) → T
  | [], e, k => k e
  | o :: rest, e, k => xguard n ops o e (fun e => xop P o e fun v => xops P n ops rest (eput n e o.dst v) k) (fun e => xops P n ops rest (eput n e o.dst undef) k)

/-- Regions whose order is drawn: what an operation may do: nothing to memory; it loads; it acts. -/
def isPureOp (P : Program) (o : Oper) : Bool :=
  match o.op with
  | .move _ => true
  | .pick _ _ _ => true
  | .build _ _ => true
  | .nilCheck _ => true
  | .binOp _ t x y _ => pureTy P t x y
  | .unOp _ _ _ => true
  | .convert s d _ => match P.underlying s, P.underlying d with
    | some (.int _), some (.int _) => true
    | some .string, some .string => true
    | _, _ => false
  | .makeInterface _ _ => true
  | .makeFunc _ _ _ => true
  | .slice t _ _ _ none => match P.underlying t with
    | some .string => true
    | some (.slice _) => true
    | _ => false
  | .fieldAddr _ _ _ => true
  | .field _ _ _ => true
  | .indexAddr _ _ _ => true
  | .index t _ _ => match P.underlying t with
    | some .string => true
    | _ => false
  | .extract _ _ => true
  | .call c => match c.callee with
    | .builtin .len => match (c.argTypes[0]?).bind P.underlying with
      | some .string => true
      | some (.slice _) => true
      | _ => false
    | .builtin .cap => match (c.argTypes[0]?).bind P.underlying with
      | some (.slice _) => true
      | _ => false
    | _ => false
  | _ => false
def isLoadOp (o : Oper) : Bool :=
  match o.op with
  | .load _ _ => true
  | _ => false
def calm (P : Program) (o : Oper) : Bool := isPureOp P o || isLoadOp o
def memN (x : Nat) : List Nat → Bool
  | [] => false
  | y :: l => Nat.beq x y || memN x l
/-- What an operation waits for. -/
def waits (o : Oper) : List Nat := (o.after.toList.filter fun e => Region.binds .any e).map (·.on)
def readyX (D : List Nat) (i : Nat) (o : Oper) : Bool := !memN i D && (waits o).all fun j => memN j D
/-- The slots at which an operation looks. -/
def looks (ops : Array Oper) (o : Oper) : List Nat :=
  (o.op.operands.toList.filterMap fun | .tmp t => some t | _ => none) ++
  (match o.guard with
   | some (g, _) => ((ops[g]?).bind (·.dst)).toList
   | none => [])
def optN : Option Nat → Nat → Bool
  | some d, s => Nat.beq d s
  | none, _ => false
/-- No two operations of a region are in one another's way but by their order. -/
def okPair (P : Program) (ops : Array Oper) (i j : Nat) (x y : Oper) : Bool :=
  match Nat.beq i j with
  | true => (match x.dst with
    | some d => !calm P x || !memN d (looks ops x)
    | none => true)
  | false => (match y.dst with
    | some d => !memN d (looks ops x) || memN j (waits x) || (memN i (waits y) && !calm P y)
    | none => true) &&
   (match x.dst, calm P x with
    | some d, true => !optN y.dst d
    | _, _ => true)
def idx : Nat → List Oper → List (Nat × Oper)
  | _, [] => []
  | i, o :: l => (i, o) :: idx (i + 1) l
def okRegion (P : Program) (n : Nat) (ops : Array Oper) : Bool :=
  ((idx 0 ops.toList).all fun p => match p.2.dst with
    | some d => Nat.blt d n
    | none => true) && (idx 0 ops.toList).all fun p => (idx 0 ops.toList).all fun q => okPair P ops p.1 q.1 p.2 q.2
/-- Loads that have been made: which operation, where, what. -/
abbrev Made := List (Nat × Addr × List Value)
def heldMade (o : Oper) : Made → List (Addr × List Value)
  | [] => []
  | (i, a, l) :: m => bif memN i (waits o) then heldMade o m else (a, l) :: heldMade o m
def stableX (l : List (Addr × List Value)) (t : T) : T :=
  match l with
  | [] => t
  | p :: l => T.stable (p :: l) t
def allX : List T → T
  | [] => T.fail
  | [t] => t
  | t :: ts => T.all (t :: ts)
/-- A load, told: from where, and what. -/
def xload (P : Program) (t : TypeId) (x : Operand) (e : Env) (kk : Addr → List Value → Value → T) : T :=
  with1 e x fun v => match v, isAggD P t with
    | .pointer p, some true => bif (flatD P 9 t).length == P.cellsOf t then T.osome p fun a => T.loads a (flatD P 9 t) (cur _ fun l => kk a l (.agg l.toArray)) else T.fail
    | .pointer p, some false => T.osome p fun a => T.loads a (compD P t).2 (cur _ fun l => kk a l (l.headD undef))
    | _, _ => T.fail
def findReady (P : Program) (D : List Nat) (c : Bool) : List (Nat × Oper) → List (Nat × Oper)
  | [] => []
  | p :: l => match readyX D p.1 p.2 && (calm P p.2 == c) with
    | true => p :: findReady P D c l
    | false => findReady P D c l
def xdraw (P : Program) (n : Nat) (ops : Array Oper) : Nat → List Nat → Env → Made → (Env → T) → T
  | 0, _, _, _, _ => T.fail
  | fu + 1, D, e, m, k =>
    match findReady P D true (idx 0 ops.toList) with
    | (i, o) :: _ =>
      xguard n ops o e (fun e => match o.op with
        | .load t x => xload P t x e fun a l v => xdraw P n ops fu (i :: D) (eput n e o.dst v) ((i, a, l) :: m) k
        | _ => xop P o e fun v => xdraw P n ops fu (i :: D) (eput n e o.dst v) m k)
        fun e => xdraw P n ops fu (i :: D) (eput n e o.dst undef) m k
    | [] =>
      match findReady P D false (idx 0 ops.toList) with
      | [] => k e
      | q :: qs => allX ((q :: qs).map fun p => xguard n ops p.2 e (fun e => xop P p.2 e fun v => stableX (heldMade p.2 m) (xdraw P n ops fu (p.1 :: D) (eput n e p.2.dst v) m k))
          fun e => xdraw P n ops fu (p.1 :: D) (eput n e p.2.dst undef) m k)
def xregion (P : Program) (n : Nat) (_id : Nat) (ops : Array Oper) (e : Env) (k : Env → T) : T :=
  match okRegion P n ops with
  | true => xdraw P n ops (ops.size + 1) [] e [] k
  | false => T.fail

/-- The slots that a piece of code writes. -/
def mods : Code → List Nat
  | .region _ ops _ => ops.toList.filterMap (·.dst)
  | .seq a b => mods a ++ mods b
  | .cond _ a b => mods a ++ mods b
  | .block _ c => mods c
  | .loop c => mods c
  | .scope c => mods c
  | .rangeFunc _ ps a b => ps.toList ++ mods a ++ mods b
  | _ => []
def insertN (x : Nat) : List Nat → List Nat
  | [] => [x]
  | y :: l => bif Nat.blt x y then x :: y :: l else bif Nat.beq x y then y :: l else y :: insertN x l
def sortN (l : List Nat) : List Nat := l.foldl (fun acc x => insertN x acc) []
/-- A known value's shape. -/
def descV : Value → TypeDesc
  | .bool _ => .bool
  | .int k _ => .int k
  | .string _ => .string
  | .pointer _ => .pointer 0
  | .slice _ _ _ => .slice 0
  | .map _ => .map 0 0
  | _ => .invalid
def compV : Value → Comp
  | .agg cs => (true, cs.toList.map descV)
  | v => (false, [descV v])
/-- Of some slots those that are known, with their values. -/
def live (e : Env) : List Nat → List (Nat × Value)
  | [] => []
  | s :: l => match eget e s with
    | some v => (s, v) :: live e l
    | none => live e l
def forget (e : Env) (l : List Nat) : Env := l.map (fun s => (s, none)) ++ e
def bindL (l : List Nat) (vs : List Value) : Env := (l.zip vs).map fun p => (p.1, some p.2)
def valsOf (e : Env) : List Nat → (List Value → T) → T
  | [], k => k []
  | s :: l, k => match eget e s with
    | some v => valsOf e l fun vs => k (v :: vs)
    | none => T.fail

/-- A loop from known slots: 'ms' the slots that its body writes. -/
def xloop (ms : List Nat) (e : Env) (lv : Nat) (body : Env → (Env → T) → T) : T :=
  let lvs := live e (sortN ms)
  let ss := lvs.map (·.1)
  let cs := lvs.map fun p => compV p.2
  T.loop cs (lvs.map (·.2)) (cur (flat cs) fun l => body (bindL ss (parts cs l) ++ forget e (sortN ms)) fun e' => valsOf e' ss fun vs => T.again lv vs)

def hasGoto (l : Nat) : Code → Bool
  | .goto l' => Nat.beq l l'
  | .seq a b => hasGoto l a || hasGoto l b
  | .cond _ a b => hasGoto l a || hasGoto l b
  | .block _ c => hasGoto l c
  | .loop c => hasGoto l c
  | .scope c => hasGoto l c
  | .rangeFunc _ _ a b => hasGoto l a || hasGoto l b
  | _ => false
def labels : Code → List Nat
  | .label l => [l]
  | .seq a b => labels a ++ labels b
  | _ => []
/-- The label to which the run comes back. -/
def backLabel (c : Code) : Option Nat :=
  (labels c).find? fun l => match findLabel c l with
    | some r => hasGoto l r
    | none => false
/-- What stands ahead of a label. -/
def preOf : Code → Nat → Code
  | .seq a b, l => match findLabel a l with
    | some _ => preOf a l
    | none => .seq a (preOf b l)
  | _, _ => .skip

/-- What the code before a meeting place hands on: 'ss' the slots, 'cs' their shapes, 'ms' what may have been written. -/
def xjoin (ss : List Nat) (cs : List Comp) (ms : List Nat) (e : Env) (lv : Nat) (first : (Env → T) → T) (after : Env → T) : T :=
  T.join cs (first fun e' => valsOf e' ss fun vs => T.again lv vs) (cur (flat cs) fun l => after (bindL ss (parts cs l) ++ forget e (sortN ms)))
def firstReg : Code → Option Nat
  | .region id _ _ => some id
  | .seq a b => match firstReg a with
    | some i => some i
    | none => firstReg b
  | .cond _ a _ => firstReg a
  | .block _ c => firstReg c
  | .loop c => firstReg c
  | .scope c => firstReg c
  | _ => none
def isCut (cuts : List Nat) : Option Nat → Nat → Bool
  | some i, k => memN (i + k) cuts
  | none, _ => false
def handsOn (P : Program) : List Oper → List (Nat × Comp)
  | [] => []
  | [o] => match o.dst with
    | some d => [(d, compD P o.type)]
    | none => []
  | o :: l => match o.op, o.dst with
    | .assign _, some d => (d, compD P o.type) :: handsOn P l
    | _, _ => handsOn P l
def headLabel (l : Nat) : Code → Bool
  | .label l' => Nat.beq l l'
  | .seq a _ => headLabel l a
  | _ => false
def dstsOf (ops : Array Oper) : List Nat := ops.toList.filterMap (·.dst)
mutual
def xcode (P : Program) (n : Nat) (cuts : List Nat) : Nat → Code → Env → Nat → (Exit → Env → Nat → T) → T
  | 0, _, _, _, _ => T.fail
  | fu + 1, c, e, lv, κ =>
    match c with
    | .skip => κ .normal e lv
    | .label _ => κ .normal e lv
    | .exit i => κ (.exit i) e lv
    | .goto l => κ (.goto l) e lv
    | .ret => κ .ret e lv
    | .seq a b =>
      match isCut cuts (firstReg b) 1000 with
      | false => xcode P n cuts fu a e lv fun x e' lv' => match x with
        | .normal => xcode P n cuts fu b e' lv' κ
        | x => κ x e' lv'
      | true =>
        xjoin ((live e (sortN (mods a))).map (·.1)) ((live e (sortN (mods a))).map fun p => compV p.2) (mods a) e lv
          (fun k => xcode P n cuts fu a e (lv + 1) fun x e' lv' => match x with
            | .normal => k e'
            | x => κ x e' lv')
          (fun e' => xcode P n cuts fu b e' lv κ)
    | .cond c a b => match ev e c with
      | some (.bool t) => cond t (xcode P n cuts fu a e lv κ) (xcode P n cuts fu b e lv κ)
      | _ => T.fail
    | .block id c => xcode P n cuts fu c e lv fun x e' lv' => match x with
      | .exit i => match Nat.beq i id with
        | true => κ .normal e' lv'
        | false => κ (.exit i) e' lv'
      | x => κ x e' lv'
    | .region id ops draw =>
      match isCut cuts (some id) 0 with
      | false => match draw with
        | false => xops P n ops ops.toList e fun e' => κ .normal e' lv
        | true => xregion P n id ops e fun e' => κ .normal e' lv
      | true => xjoin ((handsOn P ops.toList).map (·.1)) ((handsOn P ops.toList).map (·.2)) (dstsOf ops) e lv
          (fun k => match draw with
            | false => xops P n ops ops.toList e k
            | true => xregion P n id ops e k)
          (fun e' => κ .normal e' lv)
    | .loop c => xloop (mods c) e lv fun e' k => xcode P n cuts fu c e' (lv + 1) fun x e'' lv' => match x with
      | .normal => k e''
      | x => κ x e'' lv'
    | .scope c => match backLabel c with
      | none => xscope P n cuts fu c c e lv none (fun _ => T.fail) κ
      | some l => match findLabel c l with
        | none => T.fail
        | some r => xstart P n cuts fu c c l r e lv κ
    | _ => T.fail
/-- A piece of a scope's code, its gotos followed. -/
def xscope (P : Program) (n : Nat) (cuts : List Nat) : Nat → Code → Code → Env → Nat → Option Nat → (Env → T) → (Exit → Env → Nat → T) → T
  | 0, _, _, _, _, _, _, _ => T.fail
  | fu + 1, c, r, e, lv, back, k, κ => xcode P n cuts fu r e lv fun x e' lv' => match x with
    | .goto l => match optN back l with
      | true => k e'
      | false => match findLabel c l with
        | some r' => xscope P n cuts fu c r' e' lv' back k κ
        | none => κ (.goto l) e' lv'
    | x => κ x e' lv'
/-- A scope's code up to the label to which the run comes back, and on from there. -/
def xstart (P : Program) (n : Nat) (cuts : List Nat) : Nat → Code → Code → Nat → Code → Env → Nat → (Exit → Env → Nat → T) → T
  | 0, _, _, _, _, _, _, _ => T.fail
  | fu + 1, c, t, l, r, e, lv, κ =>
    match headLabel l t with
    | true => xloop (mods c) e lv fun e'' k => xscope P n cuts fu c r e'' (lv + 1) (some l) k κ
    | false => match t with
      | .seq a b => match findLabel a l with
        | some _ => T.fail
        | none => xcode P n cuts fu a e lv fun x e' lv' => match x with
          | .normal => xstart P n cuts fu c b l r e' lv' κ
          | .goto _ => T.fail
          | x => κ x e' lv'
      | _ => T.fail
end

/-- A function's results. -/
def xres (P : Program) : List ResultVar → Env → (List Value → T) → T
  | [], _, k => k []
  | .tmp t :: rs, e, k => with1 e (.tmp t) fun v => xres P rs e fun l => k (v :: l)
  | .cell a t :: rs, e, k => with1 e (.tmp a) fun p => match p, isAggD P t with
    | .pointer p, some true => bif (flatD P 9 t).length == P.cellsOf t then T.osome p fun a => T.loads a (flatD P 9 t) (cur _ fun l => xres P rs e fun l' => k (.agg l.toArray :: l')) else T.fail
    | .pointer p, some false => T.osome p fun a => T.loads a (compD P t).2 (cur _ fun l => xres P rs e fun l' => k (l.headD undef :: l'))
    | _, _ => T.fail
def one (l : List Value) : Value :=
  match l with
  | [v] => v
  | l => .tuple l.toArray
def env0 : Nat → List Value → Env
  | _, [] => []
  | i, v :: vs => (i, some v) :: env0 (i + 1) vs
def xfun (P : Program) (cuts : List Nat) (fn : Func) (args : List Value) : T :=
  match fn.body with
  | none => T.fail
  | some c => xcode P fn.ntmps cuts 100000 c (env0 0 args) 0 fun x e _ => match x with
    | .normal => xres P fn.results.toList e fun l => T.ret (one l)
    | .ret => xres P fn.results.toList e fun l => T.ret (one l)
    | _ => T.fail
end Go.Sx
