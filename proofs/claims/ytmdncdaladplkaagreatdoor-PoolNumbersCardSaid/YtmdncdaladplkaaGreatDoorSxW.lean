/- Closed runs, part W: what an operation comes to over a store. No condition. -/
import Derived.Test.YtmdncdaladplkaaGreatDoorSxV
import Derived.Test.YtmdncdaladplkaaGreatDoorSxL
set_option linter.unusedVariables false
set_option linter.unusedSimpArgs false
set_option linter.deprecated false
namespace Go.Sx.Cr
noncomputable section

abbrev Ev := Tri Value
/-- A store, and the number that its next block gets. -/
structure CS where
  σ : Tri AO
  nx : Nat
abbrev VS := Option (Value × CS)
def chk {α : Type} (b : Bool) (k : Option α) : Option α :=
  match b with
  | true => k
  | false => none
theorem chk_iff {α : Type} {b : Bool} {k : Option α} {x : α} : chk b k = some x ↔ b = true ∧ k = some x := by
  cases b <;> simp [chk]
def cflat (v : Value) : Option Value := chk (flatV 9 v) (some v)
def cglob (C : Cx) (g : Nat) : Option Value := chk (Nat.blt g C.ng) (some (.pointer (some ⟨g, 0, none⟩)))
def cev (C : Cx) (e : Ev) : Operand → Option Value
  | .tmp t => e.get t
  | .const v => cflat v
  | .func f => some (.func (.func f) #[] #[])
  | .global g => cglob C g
def cevL (C : Cx) (e : Ev) : List Operand → Option (List Value)
  | [] => some []
  | x :: xs => (cev C e x).bind fun v => (cevL C e xs).bind fun l => some (v :: l)

def cint (op : BinOp) (k : IntKind) (m n : Int) : Option Value :=
  match op with
  | .add => some (.int k (k.wrap (m + n)))
  | .sub => some (.int k (k.wrap (m - n)))
  | .mul => some (.int k (k.wrap (m * n)))
  | .quo => chk (!decide (n = 0)) (some (.int k (k.wrap (m.tdiv n))))
  | .rem => chk (!decide (n = 0)) (some (.int k (m.tmod n)))
  | .eql => some (.bool (m == n))
  | .neq => some (.bool (m != n))
  | .lss => some (.bool (decide (m < n)))
  | .leq => some (.bool (decide (m ≤ n)))
  | .gtr => some (.bool (decide (m > n)))
  | .geq => some (.bool (decide (m ≥ n)))
  | .and => some (.int k (bitI .and k m n))
  | .or => some (.int k (bitI .or k m n))
  | .xor => some (.int k (bitI .xor k m n))
  | .andNot => some (.int k (bitI .andNot k m n))
  | _ => none
def cstr (op : BinOp) (x y : ByteArray) : Option Value :=
  match op with
  | .add => chk (decide (((x.size + y.size : Nat) : Int) ≤ IntKind.i64.max)) (some (.string (x ++ y)))
  | .eql => some (.bool (x.data.toList == y.data.toList))
  | .neq => some (.bool !(x.data.toList == y.data.toList))
  | .lss => some (.bool (Op.bytesLess x.data.toList y.data.toList))
  | .leq => some (.bool (Op.bytesLess x.data.toList y.data.toList || x.data.toList == y.data.toList))
  | .gtr => some (.bool !(Op.bytesLess x.data.toList y.data.toList || x.data.toList == y.data.toList))
  | .geq => some (.bool !(Op.bytesLess x.data.toList y.data.toList))
  | _ => none
def casked (op : BinOp) (b : Bool) : Option Value :=
  match op with
  | .eql => some (.bool b)
  | .neq => some (.bool !b)
  | _ => none
def isPtrD : Option TypeDesc → Bool
  | some (.pointer _) => true
  | _ => false
def isSlD : Option TypeDesc → Bool
  | some (.slice _) => true
  | _ => false
def isBoolD : Option TypeDesc → Bool
  | some .bool => true
  | _ => false
def isStrD : Option TypeDesc → Bool
  | some .string => true
  | _ => false
/-- Values compared or reckoned with. -/
def cbinP (P : Program) (op : BinOp) (t : TypeId) (a b : Value) : Option Value :=
  match a, b with
  | .int k m, .int k' n => chk (!isShift op && decide (k = k')) (cint op k m n)
  | .string m, .string n => cstr op m n
  | .bool m, .bool n => chk (isBoolD (P.underlying t)) (casked op (m == n))
  | .pointer p, .pointer _ => chk (isPtrD (P.underlying t)) (casked op p.isNone)
  | .slice p _ _, .slice _ _ _ => chk (isSlD (P.underlying t)) (casked op p.isNone)
  | _, _ => none
def eqTxt (a b : ByteArray) : Bool := a.data.toList == b.data.toList
def eqCell : Value → Value → Bool
  | .int _ a, .int _ b => a == b
  | .string a, .string b => eqTxt a b
  | .bool a, .bool b => a == b
  | _, _ => false
/-- Structs of numbers, texts and Bools compared. -/
def ccmp (P : Program) (op : BinOp) (t : TypeId) (a b : Value) : Option Value :=
  match a, b, P.underlying t with
  | .agg xs, .agg ys, some (.struct fs) =>
    chk (!(P.stoodInHeld t) && !(P.eqGuardType P.depth t) && fs.all (okF P xs ys)) (casked op (fs.all fun f => eqCell (xs[f.offset]?.getD .nilIface) (ys[f.offset]?.getD .nilIface)))
  | _, _, _ => none
def cbin (P : Program) (op : BinOp) (t : TypeId) (x y : Operand) (a b : Value) : Option Value :=
  match pureTy P t x y with
  | true => cbinP P op t a b
  | false => ccmp P op t a b
def cun (op : UnOp) (a : Value) : Option Value :=
  match op, a with
  | .neg, .int k n => some (.int k (k.wrap (0 - n)))
  | .not, .bool b => some (.bool !b)
  | _, _ => none
def cconv (P : Program) (s d : TypeId) (a : Value) : Option Value :=
  match P.underlying s, P.underlying d, a with
  | some (.int _), some (.int k), .int _ n => some (.int k (k.wrap n))
  | some .string, some .string, .string x => some (.string x)
  | _, _, _ => none
/-- Does a value fit a cell of a type? -/
def fitV : TypeDesc → Value → Bool
  | .bool, .bool _ => true
  | .bool, _ => false
  | .int k, .int k' _ => decide (k = k')
  | .int _, _ => false
  | .string, .string _ => true
  | .string, _ => false
  | .pointer _, .pointer _ => true
  | .pointer _, _ => false
  | .slice _, .slice _ _ _ => true
  | .slice _, _ => false
  | .map _ _, .map _ => true
  | .map _ _, _ => false
  | _, _ => true
def fits : List TypeDesc → List Value → Bool
  | [], [] => true
  | d :: ds, v :: vs => fitV d v && fits ds vs
  | _, _ => false
def aggL : Value → Option (List Value)
  | .agg ⟨l⟩ => some l
  | _ => none
def fitC (c : Comp) (v : Value) : Bool :=
  match c with
  | (true, ds) => (aggL v).elim false (fits ds)
  | (false, ds) => fits ds [v]
def fitCs : List Comp → List Value → Bool
  | [], [] => true
  | c :: cs, v :: vs => fitC c v && fitCs cs vs
  | _, _ => false
def tupL : Value → Option (List Value)
  | .tuple ⟨l⟩ => some l
  | _ => none
def fitR (q : Bool × List Comp) (v : Value) : Bool :=
  match q with
  | (true, cs) => (tupL v).elim false (fitCs cs)
  | (false, cs) => fitCs cs [v]
/-- Cells of a block, from a place on. -/
def cellsO (C : Cx) (b off n : Nat) : Option AO → Option (List Value)
  | some (.row c _ _) => takeX off n c
  | some .gone => (C.ro b).bind fun c => takeX off n c
  | _ => none
def cells (C : Cx) (s : CS) (b off n : Nat) : Option (List Value) := cellsO C b off n (s.σ.get b)
def ptrOf : Value → Option (Nat × Nat)
  | .pointer (some ⟨b, off, none⟩) => some (b, off)
  | _ => none
abbrev Ld := Option (Nat × Nat × List Value × Value)
def loadA (C : Cx) (t : TypeId) (b off : Nat) (s : CS) : Ld :=
  chk (Nat.beq (flatD C.P 9 t).length (C.P.cellsOf t)) ((cells C s b off (flatD C.P 9 t).length).bind fun vs => chk (fits (flatD C.P 9 t) vs) (some (b, off, vs, .agg ⟨vs⟩)))
def loadC (C : Cx) (t : TypeId) (b off : Nat) (s : CS) : Ld :=
  (cells C s b off 1).bind fun vs => chk (fits (compD C.P t).2 vs) (some (b, off, vs, vs.headD undef))
def cload (C : Cx) (t : TypeId) (v : Value) (s : CS) : Ld :=
  (ptrOf v).bind fun (b, off) => (isAggD C.P t).bind fun g => match g with
    | true => loadA C t b off s
    | false => loadC C t b off s
def cnew (s : CS) (o : AO) : Option CS :=
  match s.σ.get s.nx with
  | none => some ⟨s.σ.put s.nx o, s.nx + 1⟩
  | some _ => none
def cput (s : CS) (b off : Nat) (vs : List Value) : Option CS :=
  match s.σ.get b with
  | some (.row c e m) => chk (!Nat.beq m 2 && vs.all plainV && Nat.ble 1 vs.length && Nat.ble (off + vs.length) c.length) (some ⟨s.σ.put b (.row (setL c off vs) e m), s.nx⟩)
  | _ => none
/-- A value's cells, as the type has them. -/
def cellsIf (g : Bool) (v : Value) : Option (List Value) :=
  match g with
  | true => aggL v
  | false => chk (!isAggV v) (some [v])
def cstore (P : Program) (t : TypeId) (p v : Value) (s : CS) : Option CS :=
  (ptrOf p).bind fun (b, off) => (isAggD P t).bind fun g => (cellsIf g v).bind fun l => chk (Nat.beq l.length (P.cellsOf t)) (cput s b off l)
def ccells (agg : Nat → Option Bool) : List (Nat × Value) → Option (List (Nat × List Value))
  | [] => some []
  | (i, v) :: l => (agg i).bind fun g => (cellsIf g v).bind fun c => (ccells agg l).bind fun r => some ((i, c) :: r)
def zeroOf (P : Program) (t : TypeId) : Option (List Value) :=
  ((P.info? t).bind (·.zero)).bind fun z => chk (z.cells.toList.all (flatV 9)) (some z.cells.toList)
def cbuildS (P : Program) (fs : Array Field) (z : List Value) (ps : List (Nat × Value)) : Option Value :=
  chk (fs.all fun f => hasT P f.type) ((ccells (fun i => (fs[i]?).bind fun f => isAggD P f.type) ps).bind fun ls => (fillL (((fs.map fun f => (f.offset, P.cellsOf f.type)))[·]?) z ls).bind fun cs => some (.agg ⟨cs⟩))
def cbuildA (P : Program) (el : TypeId) (z : List Value) (ps : List (Nat × Value)) : Option Value :=
  chk (hasT P el) ((ccells (fun _ => isAggD P el) ps).bind fun ls => (fillL (fun i => some (i * P.cellsOf el, P.cellsOf el)) z ls).bind fun cs => some (.agg ⟨cs⟩))
def cbuild (P : Program) (t : TypeId) (ps : List (Nat × Value)) : Option Value :=
  (zeroOf P t).bind fun z => match P.underlying t with
    | some (.struct fs) => cbuildS P fs z ps
    | some (.array _ el) => cbuildA P el z ps
    | _ => none
/-- Of an element's type: size in cells, size in bytes, cells of the zero value. -/
structure El where
  e : TypeId
  sz : Nat
  by_ : Nat
  z : List Value
def infoOf (P : Program) (e : TypeId) : Option El :=
  (P.info? e).bind fun i => i.zero.bind fun z => chk (z.cells.toList.all (flatV 9) && Nat.beq z.cells.size i.size && Nat.ble 1 i.size) (some ⟨e, i.size, i.bytes, z.cells.toList⟩)
def elemOf : Option TypeDesc → Option TypeId
  | some (.slice e) => some e
  | _ => none
def elOf (P : Program) (t : TypeId) : Option El := (elemOf (P.underlying t)).bind (infoOf P)
def partL : List (Nat × Value) → List (Nat × List Value)
  | [] => []
  | (i, v) :: l => (i, match aggL v with
    | some c => c
    | none => [v]) :: partL l
/-- Parts that lie one behind the other, from a place on. -/
def seqL (sz : Nat) : Nat → List (Nat × List Value) → Option (List Value)
  | _, [] => some []
  | i, (k, c) :: l => chk (Nat.beq k i && Nat.beq c.length sz) ((seqL sz (i + 1) l).bind fun r => some (c ++ r))
def litCells (q : El) (n : Nat) (ps : List (Nat × List Value)) : Option (List Value) := chk (Nat.beq ps.length n) (seqL q.sz 0 ps)
def slNew (s : CS) (c : List Value) (e : TypeId) (m l cap : Nat) : VS :=
  (cnew s (.row c e m)).bind fun s' => some (.slice (some ⟨s.nx, 0, none⟩) l cap, s')
def cslit (P : Program) (t : TypeId) (n : Nat) (ps : List (Nat × Value)) (s : CS) : VS :=
  (elOf P t).bind fun q => chk (Nat.ble (n * q.sz) 16777216) ((litCells q n (partL ps)).bind fun cs => slNew s cs q.e 0 n n)
/-- What is appended. -/
def addend (C : Cx) (sz : Nat) (x : Value) (s : CS) : Option (List Value) :=
  match x with
  | .slice q m _ => match m with
    | 0 => some []
    | m + 1 => (ptrOf (.pointer q)).bind fun (b, off) => cells C s b off ((m + 1) * sz)
  | _ => none
/-- The cells of a row that stands open, of which a slice is the beginning or all. -/
def openRow (q : El) (po l c : Nat) : Option AO → Option (List Value)
  | some (.row cs e' m') => chk (Nat.beq m' 1 && Nat.beq q.e e' && Nat.ble c big && Nat.beq po ((big - c) * q.sz) && Nat.ble (po + l * q.sz) cs.length) (some cs)
  | _ => none
def appOpen (s : CS) (q : El) (pb po l c m : Nat) (ys : List Value) : VS :=
  (openRow q po l c (s.σ.get pb)).bind fun cs => chk (Nat.beq cs.length (po + l * q.sz))
      (match s.σ.get s.nx with
      | none => some (.slice (some ⟨s.nx, 0, none⟩) (l + m) big, ⟨(s.σ.put pb .gone).put s.nx (.row (cs.drop po ++ ys) q.e 1), s.nx + 1⟩)
      | some _ => none)
def appFix (C : Cx) (s : CS) (q : El) (pb po l c m : Nat) (ys : List Value) : VS :=
  match Nat.ble (l + m) c with
  | true => (cput s pb (po + l * q.sz) ys).bind fun s => some (.slice (some ⟨pb, po, none⟩) (l + m) c, s)
  | false => (cells C s pb po (l * q.sz)).bind fun old => slNew s (old ++ ys) q.e 1 (l + m) big
def appAt (C : Cx) (s : CS) (q : El) (pb po l c m : Nat) (ys : List Value) : VS :=
  match Nat.blt c half with
  | true => appFix C s q pb po l c m ys
  | false => appOpen s q pb po l c m ys
def appTo (C : Cx) (s : CS) (q : El) (p : Option Addr) (l c m : Nat) (ys : List Value) : VS :=
  match p with
  | none => chk (Nat.beq l 0 && Nat.beq c 0) (slNew s ys q.e 1 m big)
  | some a => (ptrOf (.pointer (some a))).bind fun (b, off) => appAt C s q b off l c m ys
def app2 (C : Cx) (q : El) (a x : Value) (s : CS) (ys : List Value) : VS :=
  match a, x with
  | .slice p l c, .slice _ m _ => chk (Nat.ble ((2 * (l + m) + 1024) * q.by_) 281474976710656 && Nat.ble (l + m) 281474976710656 && ys.all plainV)
      (match m with
      | 0 => some (.slice p l c, s)
      | _ + 1 => appTo C s q p l c m ys)
  | _, _ => none
/-- append(s, x...): x a list. -/
def cappend (C : Cx) (ts : List TypeId) (vs : List Value) (s : CS) : VS :=
  match ts, vs with
  | [t, t'], [a, x] => chk (isSlD (C.P.underlying t')) ((elOf C.P t).bind fun q => (addend C q.sz x s).bind fun ys => app2 C q a x s ys)
  | _, _ => none
def sizeO : AO → Option Nat
  | .smap D => some D.length
  | .kmap D => some D.length
  | .imap D => some D.length
  | _ => none
def clen (s : CS) (D : Option TypeDesc) (v : Value) : Option Value :=
  match D with
  | some .string => (match v with
    | .string s => some (.int .i64 s.size)
    | _ => none)
  | some (.slice _) => (match v with
    | .slice _ n _ => some (.int .i64 n)
    | _ => none)
  | some (.map _ _) => (match v with
    | .map (some b) => ((s.σ.get b).bind sizeO).bind fun n => some (.int .i64 n)
    | _ => none)
  | _ => none
def one1 : List Value → Option Value
  | [v] => some v
  | _ => none
def slStr (x : ByteArray) (lo hi : Option Value) : Option Value :=
  chk (decide (0 ≤ lowV lo ∧ lowV lo ≤ highV x.size hi ∧ highV x.size hi ≤ x.size)) (some (.string (x.extract (lowV lo).toNat (highV x.size hi).toNat)))
def slSl (P : Program) (e : TypeId) (b off len cap : Nat) (lo hi : Option Value) : Option Value :=
  chk (hasT P e && decide (0 ≤ lowV lo ∧ lowV lo ≤ highV len hi ∧ highV len hi ≤ len ∧ lowV lo < len) && (Nat.blt cap half || Nat.ble half (cap - (lowV lo).toNat))) (some (.slice (some ⟨b, off + (lowV lo).toNat * P.cellsOf e, none⟩) ((highV len hi).toNat - (lowV lo).toNat) (cap - (lowV lo).toNat)))
def cslice (P : Program) (t : TypeId) (a : Value) (lo hi : Option Value) : Option Value :=
  chk (isIntV lo && isIntV hi) (match P.underlying t with
    | some .string => (match a with
      | .string x => slStr x lo hi
      | _ => none)
    | some (.slice e) => (match a with
      | .slice (some ⟨b, off, none⟩) len cap => slSl P e b off len cap lo hi
      | _ => none)
    | _ => none)
def csl (P : Program) (t : TypeId) (lo hi mx : Option Operand) (a : Value) (vs : List Value) : Option Value :=
  match mx, lo, hi, vs with
  | none, none, none, [] => cslice P t a none none
  | none, some _, none, [l] => cslice P t a (some l) none
  | none, none, some _, [h] => cslice P t a none (some h)
  | none, some _, some _, [l, h] => cslice P t a (some l) (some h)
  | _, _, _, _ => none
def atIdx (P : Program) (b off len : Nat) (el : TypeId) (n : Int) : Option Value :=
  chk (hasT P el && decide (0 ≤ n ∧ n < len)) (some (.pointer (some ⟨b, off + n.toNat * P.cellsOf el, none⟩)))
def intOf : Value → Option Int
  | .int _ n => some n
  | _ => none
def cidxA (P : Program) (t : TypeId) (v i : Value) : Option Value :=
  (intOf i).bind fun n => match P.underlying t with
  | some (.slice el) => (match v with
    | .slice (some ⟨b, off, none⟩) len _ => atIdx P b off len el n
    | _ => none)
  | some (.array len el) => (ptrOf v).bind fun (b, off) => atIdx P b off len el n
  | _ => none
def cidx (P : Program) (t : TypeId) (v i : Value) : Option Value :=
  (intOf i).bind fun n => match v with
  | .string s => chk (isStrD (P.underlying t) && decide (0 ≤ n ∧ n < s.size)) (some (.int .u8 (sbyte s n)))
  | _ => none
def cpart (P : Program) (t : TypeId) (off : Nat) (cs : List Value) : Option Value :=
  (isAggD P t).bind fun g => match g with
  | true => some (.agg ⟨(cs.drop off).take (P.cellsOf t)⟩)
  | false => cs[off]?
def fldOf (P : Program) (t : TypeId) (f : Nat) : Option Field :=
  match P.underlying t with
  | some (.struct fs) => fs[f]?
  | _ => none
def cfieldA (P : Program) (t : TypeId) (f : Nat) (v : Value) : Option Value :=
  (ptrOf v).bind fun (b, off) => (fldOf P t f).bind fun fd => chk (Nat.ble 1 (P.cellsOf fd.type)) (some (.pointer (some ⟨b, off + fd.offset, none⟩)))
def eqKey (a b : Nat × ByteArray) : Bool := Nat.beq a.1 b.1 && eqTxt a.2 b.2
def eqPair (a b : Nat × Nat) : Bool := Nat.beq a.1 b.1 && Nat.beq a.2 b.2
def lookG {α : Type} (q : α → α → Bool) (s : α) : List (α × Value) → Option Value
  | [] => none
  | p :: D => match q s p.1 with
    | true => some p.2
    | false => lookG q s D
def updG {α : Type} (q : α → α → Bool) (s : α) (v : Value) : List (α × Value) → List (α × Value)
  | [] => [(s, v)]
  | p :: D => match q s p.1 with
    | true => (p.1, v) :: D
    | false => p :: updG q s v D
def mapD : Option TypeDesc → Option (TypeId × TypeId)
  | some (.map k e) => some (k, e)
  | _ => none
def kkey : Value → Option (Nat × ByteArray)
  | .agg ⟨[.int .i64 (.ofNat n), .string y]⟩ => some (n, y)
  | _ => none
def ikey : Value → Option (Nat × Nat)
  | .agg ⟨[.int .i64 (.ofNat n), .int .i64 (.ofNat m)]⟩ => some (n, m)
  | _ => none
/-- Which sort of keys. -/
def isK (C : Cx) (k : TypeId) : Bool := Nat.beq k C.kt || Nat.beq k C.ku
def isI (C : Cx) (k : TypeId) : Bool := Nat.blt 0 C.ki && Nat.beq k C.ki
def skey : Value → Option ByteArray
  | .string y => some y
  | _ => none
def sIn (y : ByteArray) : AO → Option (Option Value)
  | .smap D => some (lookG eqTxt y D)
  | _ => none
def kIn (y : Nat × ByteArray) : AO → Option (Option Value)
  | .kmap D => some (lookG eqKey y D)
  | _ => none
def iIn (y : Nat × Nat) : AO → Option (Option Value)
  | .imap D => some (lookG eqPair y D)
  | _ => none
def mapI (x : Value) (s : CS) : Value → Option (Option Value)
  | .map (some b) => (ikey x).bind fun y => (s.σ.get b).bind (iIn y)
  | _ => none
def mapK (x : Value) (s : CS) : Value → Option (Option Value)
  | .map (some b) => (kkey x).bind fun y => (s.σ.get b).bind (kIn y)
  | _ => none
def mapS (x : Value) (s : CS) : Value → Option (Option Value)
  | .map none => (skey x).bind fun _ => some none
  | .map (some b) => (skey x).bind fun y => (s.σ.get b).bind (sIn y)
  | _ => none
def mapIn (C : Cx) (k : TypeId) (m x : Value) (s : CS) : Option (Option Value) :=
  match isK C k with
  | true => mapK x s m
  | false => match isI C k with
    | true => mapI x s m
    | false => chk (isStrD (C.P.underlying k)) (mapS x s m)
def zero1 (P : Program) (el : TypeId) : Option Value := ((P.info? el).bind (·.zero)).bind cflat
def lookR (ok : Bool) (z : Value) (r : Option Value) : Value :=
  match ok with
  | true => .tuple ⟨[r.getD z, .bool r.isSome]⟩
  | false => r.getD z
def clook (C : Cx) (t : TypeId) (m x : Value) (ok : Bool) (s : CS) : Option Value :=
  (mapD (C.P.underlying t)).bind fun (k, el) => (zero1 C.P el).bind fun z => (mapIn C k m x s).bind fun r => chk (fitC (compD C.P el) (r.getD z)) (some (lookR ok z r))
def mapSet (C : Cx) (k : TypeId) (b : Nat) (x v : Value) (s : CS) : AO → Option CS
  | .smap D => chk (isStrD (C.P.underlying k)) ((skey x).bind fun y => chk (Nat.ble y.size maxLen) (some ⟨s.σ.put b (.smap (updG eqTxt y v D)), s.nx⟩))
  | .kmap D => chk (isK C k) ((kkey x).bind fun y => some ⟨s.σ.put b (.kmap (updG eqKey y v D)), s.nx⟩)
  | .imap D => chk (isI C k) ((ikey x).bind fun y => some ⟨s.σ.put b (.imap (updG eqPair y v D)), s.nx⟩)
  | _ => none
def cupd (C : Cx) (t : TypeId) (m x v : Value) (s : CS) : Option CS :=
  match m with
  | .map (some b) => (mapD (C.P.underlying t)).bind fun (k, _) => (s.σ.get b).bind fun o => mapSet C k b x v s o
  | _ => none
def cmkmap (C : Cx) (t : TypeId) (s : CS) : VS :=
  (mapD (C.P.underlying t)).bind fun q => match isK C q.1 with
  | true => (cnew s (.kmap [])).bind fun s' => some (.map (some s.nx), s')
  | false => match isI C q.1 with
    | true => (cnew s (.imap [])).bind fun s' => some (.map (some s.nx), s')
    | false => chk (isStrD (C.P.underlying q.1)) ((cnew s (.smap [])).bind fun s' => some (.map (some s.nx), s'))
def natOf : Value → Option Nat
  | .int _ (.ofNat n) => some n
  | _ => none
def cmkslice (P : Program) (t : TypeId) (l c : Value) (s : CS) : VS :=
  (natOf l).bind fun l => (natOf c).bind fun c => (elOf P t).bind fun q => chk (Nat.ble l c && Nat.ble (c * q.by_) 16777216 && Nat.ble c 16777216) (slNew s (List.replicate c q.z).flatten q.e 0 l c)
def insS (x : ByteArray) : List ByteArray → List ByteArray
  | [] => [x]
  | y :: l => match Op.bytesLess x.data.toList y.data.toList with
    | true => x :: y :: l
    | false => y :: insS x l
def sortS : List ByteArray → List ByteArray
  | [] => []
  | x :: l => insS x (sortS l)
def sortedOf (D : List (ByteArray × Value)) (s : CS) : VS :=
  match D with
  | [] => some (.slice none 0 0, s)
  | _ :: _ => slNew s ((sortS (D.map (·.1))).map .string) 9 1 D.length big
def sortedO (s : CS) : AO → VS
  | .smap D => chk (Nat.ble D.length 1024) (sortedOf D s)
  | _ => none
def mapRef : Value → Option Nat
  | .map (some b) => some b
  | _ => none
def seqPtr (C : Cx) : Value → Option (Nat × Nat)
  | .func (.func f) ⟨[]⟩ ⟨[p]⟩ => chk (Nat.beq f C.seq) (ptrOf p)
  | _ => none
def row0 : Option AO → Option (List Value)
  | some (.row c _ m) => chk (Nat.beq m 0) (some c)
  | _ => none
/-- slices.Sorted of what maps.Keys handed out. -/
def csorted (C : Cx) (vs : List Value) (s : CS) : VS :=
  (one1 vs).bind fun v => (seqPtr C v).bind fun (q, off) => chk (Nat.beq off 0) ((row0 (s.σ.get q)).bind fun l => (one1 l).bind fun m => (mapRef m).bind fun b => (s.σ.get b).bind (sortedO s))
def cmin (vs : List Value) : Option Value :=
  match vs with
  | [.int .i64 (.ofNat a), .int .i64 (.ofNat b)] => some (.int .i64 (.ofNat (Nat.min a b)))
  | _ => none
def cindex (vs : List Value) : Option Value :=
  match vs with
  | [.string x, .int .u8 n] => some (.int .i64 (Lib.indexByte x.data.toList n.toNat.toUInt8))
  | _ => none

abbrev CallF := FuncId → List Value → CS → VS
def val (s : CS) (v : Option Value) : VS := v.bind fun v => some (v, s)
def done (r : Option CS) : VS := r.bind fun s => some (undef, s)
def oPick (C : Cx) (e : Ev) (s : CS) (c a b : Operand) : VS :=
  (cev C e c).bind fun v => match v with
  | .bool true => val s (cev C e a)
  | .bool false => val s (cev C e b)
  | _ => none
def ptrNew (s : CS) (t : TypeId) (l : List Value) : VS := (cnew s (.row l t 0)).bind fun s' => some (.pointer (some ⟨s.nx, 0, none⟩), s')
def oBox (C : Cx) (e : Ev) (s : CS) (t : TypeId) (x : Operand) : VS := (cev C e x).bind fun v => (isAggD C.P t).bind fun g => (cellsIf g v).bind fun l => ptrNew s t l
def zipP (ps : Array (Nat × Operand)) (vs : List Value) : List (Nat × Value) := (ps.toList.map (·.1)).zip vs
def oBuild (C : Cx) (e : Ev) (s : CS) (t : TypeId) (ps : Array (Nat × Operand)) : VS := (cevL C e (ps.toList.map (·.2))).bind fun vs => val s (cbuild C.P t (zipP ps vs))
def oBuildS (C : Cx) (e : Ev) (s : CS) (t : TypeId) (n : Nat) (ps : Array (Nat × Operand)) : VS := (cevL C e (ps.toList.map (·.2))).bind fun vs => cslit C.P t n (zipP ps vs) s
def oLoad (C : Cx) (e : Ev) (s : CS) (t : TypeId) (x : Operand) : VS := (cev C e x).bind fun v => (cload C t v s).bind fun (_, _, _, v) => some (v, s)
def oStore (C : Cx) (e : Ev) (s : CS) (t : TypeId) (x y : Operand) : VS := (cev C e x).bind fun p => (cev C e y).bind fun v => done (cstore C.P t p v s)
def notNil : Value → Option Value
  | .pointer (some a) => some (.pointer (some a))
  | _ => none
def oNil (C : Cx) (e : Ev) (s : CS) (x : Operand) : VS := (cev C e x).bind fun v => val s (notNil v)
def oBin (C : Cx) (e : Ev) (s : CS) (op : BinOp) (t : TypeId) (x y : Operand) : VS := (cev C e x).bind fun a => (cev C e y).bind fun b => val s (cbin C.P op t x y a b)
def oUn (C : Cx) (e : Ev) (s : CS) (op : UnOp) (x : Operand) : VS := (cev C e x).bind fun a => val s (cun op a)
def oConv (C : Cx) (e : Ev) (s : CS) (a d : TypeId) (x : Operand) : VS := (cev C e x).bind fun v => val s (cconv C.P a d v)
def oFunc (C : Cx) (e : Ev) (s : CS) (f : FuncId) (fi ca : Array Operand) : VS := (cevL C e fi.toList).bind fun fi => (cevL C e ca.toList).bind fun ca => some (.func (.func f) ⟨fi⟩ ⟨ca⟩, s)
def oMkSl (C : Cx) (e : Ev) (s : CS) (t : TypeId) (l c : Operand) : VS := (cev C e l).bind fun l => (cev C e c).bind fun c => cmkslice C.P t l c s
def oLook (C : Cx) (e : Ev) (s : CS) (t : TypeId) (m x : Operand) (ok : Bool) : VS := (cev C e m).bind fun m => (cev C e x).bind fun x => val s (clook C t m x ok s)
def oUpd (C : Cx) (e : Ev) (s : CS) (t : TypeId) (m x v : Operand) : VS := (cev C e m).bind fun m => (cev C e x).bind fun x => (cev C e v).bind fun v => done (cupd C t m x v s)
def oSlice (C : Cx) (e : Ev) (s : CS) (t : TypeId) (x : Operand) (lo hi mx : Option Operand) : VS :=
  (cev C e x).bind fun a => (cevL C e (lo.toList ++ hi.toList ++ mx.toList)).bind fun vs => val s (csl C.P t lo hi mx a vs)
def oFieldA (C : Cx) (e : Ev) (s : CS) (t : TypeId) (x : Operand) (f : Nat) : VS := (cev C e x).bind fun v => val s (cfieldA C.P t f v)
def oField (C : Cx) (e : Ev) (s : CS) (t : TypeId) (x : Operand) (f : Nat) : VS := (cev C e x).bind fun v => (aggL v).bind fun cs => (fldOf C.P t f).bind fun fd => val s (cpart C.P fd.type fd.offset cs)
def oIdxA (C : Cx) (e : Ev) (s : CS) (t : TypeId) (x i : Operand) : VS := (cev C e x).bind fun v => (cev C e i).bind fun i => val s (cidxA C.P t v i)
def oIdx (C : Cx) (e : Ev) (s : CS) (t : TypeId) (x i : Operand) : VS := (cev C e x).bind fun v => (cev C e i).bind fun i => val s (cidx C.P t v i)
def oExtr (C : Cx) (e : Ev) (s : CS) (x : Operand) (i : Nat) : VS := (cev C e x).bind fun v => (tupL v).bind fun vs => val s vs[i]?
def fitted (P : Program) (t : TypeId) (r : VS) : VS := r.bind fun (v, s) => chk (fitR (tupD P t) v) (some (v, s))
def callTo (C : Cx) (call : CallF) (t : TypeId) (s : CS) (f : FuncId) (vs : List Value) : VS :=
  match hasBody C.P f with
  | true => fitted C.P t (match Nat.beq f C.srt with
    | true => csorted C vs s
    | false => call f vs s)
  | false => chk (Nat.beq f C.idx) (fitted C.P t (val s (cindex vs)))
def callV (C : Cx) (call : CallF) (t : TypeId) (s : CS) (g : Value) (vs : List Value) : VS :=
  match g with
  | .func (.func f) ⟨fi⟩ ⟨ca⟩ => chk (hasBody C.P f) (fitted C.P t (call f (fi ++ vs ++ ca) s))
  | _ => none
def minTo (P : Program) (t : TypeId) (v : Value) : Option Value := chk (fitC (compD P t) v) (some v)
def cbuiltin (C : Cx) (b : Builtin) (t : TypeId) (c : Call) (vs : List Value) (s : CS) : VS :=
  match b with
  | .len => (one1 vs).bind fun v => val s (clen s ((c.argTypes[0]?).bind C.P.underlying) v)
  | .append => cappend C c.argTypes.toList vs s
  | .min => val s ((cmin vs).bind (minTo C.P t))
  | _ => none
def oCall (C : Cx) (call : CallF) (e : Ev) (s : CS) (t : TypeId) (c : Call) : VS :=
  (cevL C e c.args.toList).bind fun vs => match c.callee with
  | .builtin b => cbuiltin C b t c vs s
  | .value (.func f) => callTo C call t s f vs
  | .value (.tmp g) => (e.get g).bind fun g => callV C call t s g vs
  | _ => none
def cop (C : Cx) (call : CallF) (o : Oper) (e : Ev) (s : CS) : VS :=
  match o.op with
  | .move x => val s (cev C e x)
  | .assign x => val s (cev C e x)
  | .pick c a b => oPick C e s c a b
  | .alloc t => (zeroOf C.P t).bind (ptrNew s t)
  | .box t x => oBox C e s t x
  | .build t ps => oBuild C e s t ps
  | .buildSlice t n ps => oBuildS C e s t n ps
  | .load t x => oLoad C e s t x
  | .store t x y => oStore C e s t x y
  | .nilCheck x => oNil C e s x
  | .binOp op t x y _ => oBin C e s op t x y
  | .unOp op _ x => oUn C e s op x
  | .convert a d x => oConv C e s a d x
  | .makeFunc (.func f) fi ca => oFunc C e s f fi ca
  | .makeMap t none => cmkmap C t s
  | .makeSlice t l c => oMkSl C e s t l c
  | .lookup t m x ok => oLook C e s t m x ok
  | .mapUpdate t m x v => oUpd C e s t m x v
  | .slice t x lo hi mx => oSlice C e s t x lo hi mx
  | .fieldAddr t x f => oFieldA C e s t x f
  | .field t x f => oField C e s t x f
  | .indexAddr t x i => oIdxA C e s t x i
  | .index t x i => oIdx C e s t x i
  | .extract x i => oExtr C e s x i
  | .call c => oCall C call e s o.type c
  | _ => none

/-- Is an operation wanted? -/
def wantB (want : Bool) : Value → Option Bool
  | .bool b => some (b == want)
  | .tuple _ => some false
  | _ => none
def cwant (ops : Array Oper) (o : Oper) (e : Ev) : Option Bool :=
  match guardOf ops o with
  | none => some true
  | some (none, _) => some false
  | some (some d, want) => (e.get d).bind (wantB want)
/-- A value whose number is worked out. -/
def forced {α : Type} (v : Value) (k : Value → α) : α :=
  match v with
  | .int kd n => match n with
    | .ofNat m => match m with
      | 0 => k (.int kd (.ofNat 0))
      | m + 1 => k (.int kd (.ofNat (m + 1)))
    | .negSucc m => k (.int kd (.negSucc m))
  | .bool b => match b with
    | true => k (.bool true)
    | false => k (.bool false)
  | v => k v
def cset (n : Nat) (e : Ev) (dst : Option Tmp) (v : Value) : Ev :=
  match dst with
  | none => e
  | some d => match Nat.blt d n with
    | true => forced v (e.put d)
    | false => e
abbrev ES := Option (Ev × CS)
def did (n : Nat) (e : Ev) (dst : Option Tmp) (r : VS) (k : Ev → CS → ES) : ES := r.bind fun (v, s) => k (cset n e dst v) s
def cops (C : Cx) (call : CallF) (n : Nat) (ops : Array Oper) : List Oper → Ev → CS → ES
  | [], e, s => some (e, s)
  | o :: rest, e, s => (cwant ops o e).bind fun w => match w with
    | true => did n e o.dst (cop C call o e s) (cops C call n ops rest)
    | false => cops C call n ops rest (cset n e o.dst undef) s
end
end Go.Sx.Cr
