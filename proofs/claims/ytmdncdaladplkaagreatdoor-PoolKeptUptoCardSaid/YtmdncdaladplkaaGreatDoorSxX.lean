/- Part of the framework. No condition. -/
import Derived.Test.YtmdncdaladplkaaGreatDoorSxT
set_option linter.all false
set_option maxHeartbeats 4000000
namespace Go.Sx
abbrev Env:=List (Nat × Option Xab)
def db:Env->Nat->Option Xab
 | [],_=>none
 | (s,v)::e,t=>bif Nat.beq s t then v else db e t
def eE (n:Nat) (e:Env) (dst:Option Tmp) (v:Xab):Env :=
 match dst with
 | none=>e
 | some d=>bif Nat.blt d n then (d,some v)::e else e
def ev (e:Env):Operand->Option Xab
 | .tmp t=>db e t
 | .const v=>some v
 | .global g=>some (.pointer (some ⟨g,0,none⟩))
 | .func f=>some (.func (.func f) #[] #[])
namespace T
def bh (p:Xac) (k:Xax->T):T :=
 match p with
 | some a=>k a
 | none=>T.fail
end T
def fD (P:Program):Nat->TypeId->List TypeDesc
 | 0,_=>[.invalid]
 | n+1,t =>
  match P.underlying t with
  | some (.struct a)=>a.toList.flatMap λf=>fD P n f.type
  | some (.array k e)=>(List.replicate k (fD P n e)).flatten
  | some d=>[d]
  | none=>[.invalid]
def cM (P:Program) (t:TypeId):ez :=
 match P.underlying t with
 | some (.struct _)=>(true,fD P 9 t)
 | some (.array _ _)=>(true,fD P 9 t)
 | some d=>(false,[d])
 | none=>(false,[.invalid])
def mv (P:Program) (t:TypeId):Bool × List ez :=
 match P.underlying t with
 | some (.tuple ts)=>(true,ts.toList.map (cM P))
 | _=>(false,[cM P t])
def LL (b:Bool):List ez :=
 match b with
 | true=>[(false,[.int .i64]),(false,[.int .i32])]
 | false=>[(false,[.string]),(false,[.bool])]
def cd (e:Env) (x:Operand) (k:Xab->T):T :=
 match ev e x with
 | some v=>k v
 | none=>T.fail
def jh (e:Env):List Operand->(List Xab->T)->T
 | [],k=>k []
 | x::xs,k=>cd e x λv=>jh e xs λl=>k (v::l)
def dh (s:Xaa) (n:Int):Int:=((s.data.toList.getD n.toNat 0).toNat:Nat)
def FU (op:BinOp) (k:IntKind) (x y:Int):Int :=
 match op with
 | .and=>k.wrap (BitVec.ofInt k.bits x &&& BitVec.ofInt k.bits y).toNat
 | .or=>k.wrap (BitVec.ofInt k.bits x ||| BitVec.ofInt k.bits y).toNat
 | .xor=>k.wrap (BitVec.ofInt k.bits x ^^^ BitVec.ofInt k.bits y).toNat
 | _=>k.wrap (BitVec.ofInt k.bits x &&& ~~~ BitVec.ofInt k.bits y).toNat
def Ki (op:BinOp) (k:IntKind) (m n:Int) (a:Xab->T):T :=
 match op with
 | .add=>a (.int k (k.wrap (m+n)))
 | .sub=>a (.int k (k.wrap (m-n)))
 | .mul=>a (.int k (k.wrap (m*n)))
 | .quo=>T.need (n≠0) (a (.int k (k.wrap (m.tdiv n))))
 | .rem=>T.need (n≠0) (a (.int k (m.tmod n)))
 | .eql=>a (.bool (m==n))
 | .neq=>a (.bool (m != n))
 | .lss=>a (.bool (decide (m<n)))
 | .leq=>a (.bool (decide (m<=n)))
 | .gtr=>a (.bool (decide (m>n)))
 | .geq=>a (.bool (decide (m>=n)))
 | .and=>a (.int k (FU .and k m n))
 | .or=>a (.int k (FU .or k m n))
 | .xor=>a (.int k (FU .xor k m n))
 | .andNot=>a (.int k (FU .andNot k m n))
 | _=>T.fail
def Bo (op:BinOp) (k:IntKind) (m n:Int) (a:Xab->T):T :=
 match op with
 | .shl=>T.need (0<=n) (a (.int k (k.wrap (m*2^(min n.toNat k.bits)))))
 | .shr=>T.need (0<=n) (a (.int k (m.fdiv (2^(min n.toNat k.bits)))))
 | _=>T.fail
def Kb (op:BinOp) (x y:Xaa) (a:Xab->T):T :=
 match op with
 | .add=>T.need (((x.size+y.size:Nat):Int)<=IntKind.i64.max) (a (.string (x++y)))
 | .eql=>a (.bool (x.toList==y.toList))
 | .neq=>a (.bool !(x.toList==y.toList))
 | .lss=>a (.bool (Op.bytesLess x.toList y.toList))
 | .leq=>a (.bool (Op.bytesLess x.toList y.toList || x.toList==y.toList))
 | .gtr=>a (.bool !(Op.bytesLess x.toList y.toList || x.toList==y.toList))
 | .geq=>a (.bool !(Op.bytesLess x.toList y.toList))
 | _=>T.fail
def oc:BinOp->Bool
 | .shl=>true
 | .shr=>true
 | _=>false
def isNil (x:Operand):Bool :=
 match x with
 | .const (.pointer none)=>true
 | .const (.slice none 0 0)=>true
 | .const (.map none)=>true
 | _=>false
def vr (op:BinOp) (t:TypeId) (x y:Operand) (a b:Xab):Sem Xab:=do eqGuard op t x y a b; binOp op t a b
def S4 (P:Program) (op:BinOp) (t:TypeId) (x y:Operand) (a b:Xab) (c:Xab->T):T :=
 T.dP P (vr op t x y a b) false [(false,[.bool])] λr=>c (.bool r)
def asked (op:BinOp) (b:Bool) (a:Xab->T) (other:T):T :=
 match op with
 | .eql=>a (.bool b)
 | .neq=>a (.bool !b)
 | _=>other
def tJ (P:Program) (t:TypeId) (x y:Operand):Bool :=
 match P.underlying t with
 | some (.int _)=>true
 | some .string=>true
 | some .bool=>true
 | some (.pointer _)=>isNil y
 | some (.slice _)=>isNil y
 | some (.map _ _)=>isNil y
 | _=>false
def uQ (P:Program) (op:BinOp) (t:TypeId) (a b:Xab) (c:Xab->T):T :=
 match a,b with
 | .int k m,.int k' n =>
  match oc op with
  | true=>Bo op k m n c
  | false=>match decide (k=k') with
   | true=>Ki op k m n c
   | false=>T.fail
 | .string m,.string n=>Kb op m n c
 | .bool m,.bool n =>
  match P.underlying t with
  | some .bool=>asked op (m==n) c T.fail
  | _=>T.fail
 | .pointer p,.pointer _ =>
  match P.underlying t with
  | some (.pointer _)=>asked op p.isNone c T.fail
  | _=>T.fail
 | .slice p _ _,.slice _ _ _ =>
  match P.underlying t with
  | some (.slice _)=>asked op p.isNone c T.fail
  | _=>T.fail
 | .map p,.map _ =>
  match P.underlying t with
  | some (.map _ _)=>asked op p.isNone c T.fail
  | _=>T.fail
 | _,_=>T.fail
def FB (P:Program) (op:BinOp) (t:TypeId) (x y:Operand) (a b:Xab) (c:Xab->T):T :=
 match tJ P t x y with
 | true=>uQ P op t a b c
 | false=>S4 P op t x y a b c
def Yl (op:UnOp) (a:Xab) (c:Xab->T):T :=
 match op,a with
 | .neg,.int k n=>c (.int k (k.wrap (0-n)))
 | .xor,.int k n=>c (.int k (FU .xor k (if k.signed then -1 else k.max) n))
 | .not,.bool b=>c (.bool !b)
 | _,_=>T.fail
def zh (P:Program) (src dst:TypeId) (a:Xab) (b:Xab->T):T :=
 match P.underlying src,P.underlying dst,a with
 | some (.int _),some (.int k),.int _ n=>b (.int k (k.wrap n))
 | some .string,some .string,.string s=>b (.string s)
 | some .string,some .string,_=>T.fail
 | _,some (.slice _),_=>T.dP P (convert src dst a) false [(false,[.slice 0])] λp l c=>b (.slice p l c)
 | _,some .string,_=>T.dP P (convert src dst a) false [(false,[.string])] λs=>b (.string s)
 | _,_,_=>T.fail
def lI:Option Xab->Int
 | some (.int _ n)=>n
 | _=>0
def eV:Option Xab->Bool
 | some (.int _ _)=>true
 | none=>true
 | _=>false
def lX (d:Int):Option Xab->Int
 | some (.int _ n)=>n
 | _=>d
def oQ (P:Program) (t:TypeId):Bool:=(P.info? t).isSome
def jy (P:Program) (t:TypeId) (a:Xab) (lo hi b:Option Xab) (d:Xab->T):T :=
 match eV lo && eV hi && eV b with
 | false=>T.fail
 | true =>
  match P.underlying t with
  | some .string=>match a,b with
   | .string s,none =>
    T.need (0<=lI lo/\lI lo<=lX s.size hi/\lX s.size hi<=s.size) (d (.string (s.extract (lI lo).toNat (lX s.size hi).toNat)))
   | _,_=>T.fail
  | some (.slice e)=>match b with
   | some _=>T.dP P (Instr.sliceAt t a lo hi b) false [(false,[.slice 0])] λp l c=>d (.slice p l c)
   | none=>match a with
    | .slice p len cap =>
     match oQ P e with
     | false=>T.fail
     | true=>T.need (0<=lI lo/\lI lo<=lX len hi/\lX len hi<=cap) (d (.slice (if cap=(lI lo).toNat then p else p.map (·.add ((lI lo).toNat*P.cellsOf e))) ((lX len hi).toNat-(lI lo).toNat) (cap-(lI lo).toNat)))
    | _=>T.fail
  | _=>T.dP P (Instr.sliceAt t a lo hi b) false [(false,[.slice 0])] λp l c=>d (.slice p l c)
def uU (P:Program) (t:TypeId) (cs:List Xab) (off:Nat) (a:Xab->T):T :=
 match P.underlying t with
 | some (.struct _)=>a (.agg ((cs.drop off).take (P.cellsOf t)).toArray)
 | some (.array _ _)=>a (.agg ((cs.drop off).take (P.cellsOf t)).toArray)
 | some _=>match cs[off]? with
  | some v=>a v
  | none=>T.fail
 | none=>T.fail
def cO (P:Program) (t:TypeId):Option Bool :=
 match P.underlying t with
 | some (.struct _)=>some true
 | some (.array _ _)=>some true
 | some _=>some false
 | none=>none
def kC:Xab->List Xab
 | .agg cs=>cs.toList
 | _=>[]
def fx:Xab->Bool
 | .agg _=>true
 | _=>false
def gC (P:Program) (f:FuncId):Bool :=
 match P.funcs[f]? with
 | some fn => fn.body.isSome && !(fn.name == "runtime.NumGoroutine")
 | none=>false
def Hi:Operand->Bool
 | .tmp _=>true
 | .const _=>false
 | .global _=>false
 | .func _=>false
def Km (f:FuncId) (args:Array Xab):Sem Xab:=do
 match <- callFunc f args with
 | .value v=>pure v
 | _ => stuck "no value"
def Et (P:Program) (f:FuncId) (args:List Xab) (t:TypeId) (a:Xab->T):T :=
 match gC P f with
 | true=>T.call P f args (mv P t).1 (mv P t).2 (j7 _ λl=>a (rv (mv P t).1 (mv P t).2 l))
 | false=>T.dP P (Km f args.toArray) (mv P t).1 (mv P t).2 (j7 _ λl=>a (rv (mv P t).1 (mv P t).2 l))
def A' (P:Program) (c:Call) (t:TypeId) (args:List Xab) (a:Xab->T):T :=
 match (c.argTypes[0]?).bind P.underlying with
 | some .string=>match args with
  | [.string s]=>a (.int .i64 s.size)
  | _=>T.fail
 | some (.slice _)=>match args with
  | [.slice _ n _]=>a (.int .i64 n)
  | _=>T.fail
 | _=>T.dP P (Builtin.len_ c.argTypes t args.toArray) false [(false,[.int .i64])] λn=>a (.int .i64 n)
def MN (P:Program) (c:Call) (args:List Xab) (a:Xab->T):T :=
 match (c.argTypes[0]?).bind P.underlying with
 | some (.slice _)=>match args with
  | [.slice _ _ n]=>a (.int .i64 n)
  | _=>T.fail
 | _=>T.fail
def tC (P:Program) (b:Builtin) (c:Call) (t:TypeId) (args:List Xab) (a:Xab->T):T :=
 match b,args with
 | .len,_=>A' P c t args a
 | .cap,_=>MN P c args a
 | .append,_=>T.dP P (Builtin.append_ c.argTypes t args.toArray) false [(false,[.slice 0])] λp l d=>a (.slice p l d)
 | .copy,_=>T.dP P (Builtin.copy_ c.argTypes t args.toArray) false [(false,[.int .i64])] λn=>a (.int .i64 n)
 | .min,_=>T.dP P (Builtin.min_ c.argTypes t args.toArray) false [cM P t] (j7 _ λl=>a (rv false [cM P t] l))
 | .max,_=>T.dP P (Builtin.max_ c.argTypes t args.toArray) false [cM P t] (j7 _ λl=>a (rv false [cM P t] l))
 | .delete,_=>T.dP P (Builtin.delete_ c.argTypes t args.toArray) true [] (a (.tuple #[]))
 | .unsafeString,_=>T.dP P (Builtin.unsafeString_ c.argTypes t args.toArray) false [cM P t] (j7 _ λl=>a (rv false [cM P t] l))
 | .unsafeSliceData,_=>T.dP P (Builtin.unsafeSliceData_ c.argTypes t args.toArray) false [cM P t] (j7 _ λl=>a (rv false [cM P t] l))
 | _,_=>T.fail
def Yr (P:Program) (t:TypeId) (lo hi c:Option Operand) (a:Xab) (d:List Xab) (b:Xab->T):T :=
 match lo,hi,c,d with
 | none,none,none,[]=>jy P t a none none none b
 | some _,none,none,[l]=>jy P t a (some l) none none b
 | none,some _,none,[h]=>jy P t a none (some h) none b
 | some _,some _,none,[l,h]=>jy P t a (some l) (some h) none b
 | some _,some _,some _,[l,h,m]=>jy P t a (some l) (some h) (some m) b
 | none,some _,some _,[h,m]=>jy P t a none (some h) (some m) b
 | _,_,_,_=>T.fail
def zK (P:Program) (t:TypeId) (v i:Xab) (c:Xab->T):T :=
 match v,i,P.underlying t with
 | .slice p len _,.int _ n,some (.slice b)=>bif !oQ P b then T.fail else T.need (0<=n/\n<len) (T.bh p λa=>c (.pointer (some (a.add (n.toNat*P.cellsOf b)))))
 | .pointer p,.int _ n,some (.array len b)=>bif !oQ P b then T.fail else T.need (0<=n/\n<len) (T.bh p λa=>c (.pointer (some (a.add (n.toNat*P.cellsOf b)))))
 | _,_,_=>T.fail
def Je (P:Program) (t:TypeId) (v i:Xab) (a:Xab->T):T :=
 match v,i,P.underlying t with
 | .string s,.int _ n,some .string=>T.need (0<=n/\n<s.size) (a (.int .u8 (dh s n)))
 | v,i,some (.array len b)=>T.dP P (Instr.index t v i) false [cM P b] (j7 _ λl=>a (rv false [cM P b] l))
 | _,_,_=>T.fail
def uI (xs:List Xab):Nat->List Xab->List Xab
 | _,[]=>xs
 | i,v::a=>uI (xs.set i v) (i+1) a
def fZ (place:Nat->Option (Nat × Nat)) (cells:List Xab):List (Nat × List Xab)->Option (List Xab)
 | []=>some cells
 | (i,l)::rest =>
  match place i with
  | none=>none
  | some (off,size)=>bif !(Nat.beq l.length size) || Nat.blt cells.length (off+l.length) then none else fZ place (uI cells off l) rest
def fP (agg:Nat->Option Bool):List (Nat × Xab)->(List (Nat × List Xab)->T)->T
 | [],k=>k []
 | (i,v)::l,k =>
  match agg i with
  | some true=>cond (fx v) (fP agg l λr=>k ((i,kC v)::r)) T.fail
  | some false=>cond (fx v) T.fail (fP agg l λr=>k ((i,[v])::r))
  | none=>T.fail
def wy (P:Program) (o:Oper) (e:Env) (h:Xab->T):T :=
 match o.op with
 | .move x=>cd e x h
 | .assign x=>cd e x h
 | .pick c a b=>cd e c λc=>match c with
  | .bool b'=>cond b' (cd e a h) (cd e b h)
  | _=>T.fail
 | .alloc t=>match (P.info? t).bind (·.zero) with
  | some z=>T.new z.cells.toList t λa=>h (.pointer (some a))
  | none=>T.fail
 | .box t x=>cd e x λv=>match cO P t with
  | some true=>cond (fx v) (T.new (kC v) t λa=>h (.pointer (some a))) T.fail
  | some false=>cond (fx v) T.fail (T.new [v] t λa=>h (.pointer (some a)))
  | none=>T.fail
 | .build t ps=>jh e (ps.toList.map (·.2)) λj=>match P.underlying t,(P.info? t).bind (·.zero) with
  | some (.struct n),some z =>
   bif !(n.all λf=>oQ P f.type) then T.fail else fP (λi=>(n[i]?).bind λf=>cO P f.type) ((ps.toList.map (·.1)).zip j) λA=>match fZ (((n.map λf=>(f.offset,P.cellsOf f.type)))[·]?) z.cells.toList A with
   | some cs=>h (.agg cs.toArray)
   | none=>T.fail
  | some (.array _ k),some z =>
   bif !oQ P k then T.fail else fP (λ_=>cO P k) ((ps.toList.map (·.1)).zip j) λA=>match fZ (λi=>some (i*P.cellsOf k,P.cellsOf k)) z.cells.toList A with
   | some cs=>h (.agg cs.toArray)
   | none=>T.fail
  | _,_=>T.fail
 | .buildSlice t len ps=>jh e (ps.toList.map (·.2)) λj =>
  T.dP P (Instr.buildSlice t len ((ps.toList.map (·.1)).zip j).toArray) false [(false,[.slice 0])] λp l c=>h (.slice p l c)
 | .load t x=>cd e x λv=>match v,cO P t with
  | .pointer p,some true=>bif (fD P 9 t).length==P.cellsOf t then T.bh p λa=>T.ah a (fD P 9 t) (j7 _ λl=>h (.agg l.toArray)) else T.fail
  | .pointer p,some false=>T.bh p λa=>T.ah a (cM P t).2 (j7 _ λl=>h (l.headD undef))
  | _,_=>T.fail
 | .store t x y=>cd e x λp=>cd e y λv=>match p,cO P t with
  | .pointer p,some true=>cond (fx v) (bif (kC v).length==P.cellsOf t then T.bh p λa=>T.aD a (kC v) (h undef) else T.fail) T.fail
  | .pointer p,some false=>bif P.cellsOf t==1 then cond (fx v) T.fail (T.bh p λa=>T.aD a [v] (h undef)) else T.fail
  | _,_=>T.fail
 | .nilCheck x=>cd e x λv=>match v with
  | .pointer p=>T.bh p λa=>h (.pointer (some a))
  | .func (.func f) q u=>h (.func (.func f) q u)
  | .iface t v=>h (.iface t v)
  | _=>T.fail
 | .binOp op t x y _=>cd e x λa=>cd e y λb=>FB P op t x y a b h
 | .unOp op _ x=>cd e x λa=>Yl op a h
 | .convert s d x=>cd e x λa=>zh P s d a h
 | .makeInterface t x=>cd e x λa=>match P.underlying t with
  | some (.interface _)=>T.fail
  | some _=>h (.iface t a)
  | none=>T.fail
 | .makeFunc fn q u=>jh e q.toList λq=>jh e u.toList λu=>h (.func fn q.toArray u.toArray)
 | .makeMap t none=>T.dP P (Instr.makeMap t none) false [(false,[.map 0 0])] λr=>h (.map r)
 | .makeSlice t l c=>cd e l λl=>cd e c λc=>T.dP P (Instr.makeSlice t l c) false [(false,[.slice 0])] λp l c=>h (.slice p l c)
 | .slice t x lo hi B=>cd e x λa=>jh e (lo.toList++hi.toList++B.toList) λj=>Yr P t lo hi B a j h
 | .fieldAddr s x f=>cd e x λv=>match v,P.underlying s with
  | .pointer p,some (.struct n)=>match n[f]? with
   | some w=>match P.cellsOf w.type with
    | 0=>T.fail
    | _+1=>T.bh p λa=>h (.pointer (some (a.add w.offset)))
   | none=>T.fail
  | _,_=>T.fail
 | .field s x f=>cd e x λv=>match v,P.underlying s with
  | .agg cs,some (.struct n)=>match n[f]? with
   | some w=>uU P w.type cs.toList w.offset h
   | none=>T.fail
  | _,_=>T.fail
 | .indexAddr t x i=>cd e x λv=>cd e i λi=>zK P t v i h
 | .index t x i=>cd e x λv=>cd e i λi=>Je P t v i h
 | .lookup t m x ok=>cd e m λm=>cd e x λx=>match P.underlying t with
  | some (.map _ k)=>match ok with
   | true=>T.dP P (Instr.lookup t m x true) true [cM P k,(false,[.bool])] (j7 _ λl=>h (rv true [cM P k,(false,[.bool])] l))
   | false=>T.dP P (Instr.lookup t m x false) false [cM P k] (j7 _ λl=>h (rv false [cM P k] l))
  | _=>T.fail
 | .mapUpdate t m x v=>cd e m λm=>cd e x λx=>cd e v λv=>T.fI P (Instr.mapUpdate t m x v) (h undef)
 | .insert t m x v=>cd e m λm=>cd e x λx=>cd e v λv=>T.fI P (Instr.mapUpdate t m x v) (h undef)
 | .mapEntry t m x=>cd e m λm=>cd e x λx=>match P.underlying t with
  | some (.map _ k)=>T.dP P (Instr.mapEntry t m x) true [cM P k,(false,[.int .i64])] (j7 _ λl=>h (rv true [cM P k,(false,[.int .i64])] l))
  | _=>T.fail
 | .entryStore t m x v=>cd e m λm=>cd e x λx=>cd e v λv=>T.fI P (Instr.entryStore t m x v) (h undef)
 | .range t x=>cd e x λx=>T.dP P (Instr.range t x) false [(false,[.pointer 0])] λp=>h (.pointer p)
 | .next it b=>cd e it λit=>match P.underlying o.type with
  | some (.tuple ts)=>match ts.toList with
   | []=>T.next P (Instr.next it b o.type) (LL b) (h (.tuple #[.bool false])) (j7 _ λl=>h (.tuple (.bool true::parts (LL b) l).toArray))
   | _::ts=>T.next P (Instr.next it b o.type) (ts.map (cM P)) (h (.tuple #[.bool false])) (j7 _ λl=>h (.tuple (.bool true::parts (ts.map (cM P)) l).toArray))
  | _=>T.fail
 | .entry it=>cd e it λit=>T.dP P (Instr.entry it) true (LL false) (j7 _ λl=>h (rv true (LL false) l))
 | .typeAssert x t d ok=>cd e x λx=>match ok with
  | true=>T.dP P (Instr.typeAssert x t d true) true [cM P d,(false,[.bool])] (j7 _ λl=>h (rv true [cM P d,(false,[.bool])] l))
  | false=>T.dP P (Instr.typeAssert x t d false) false [cM P d] (j7 _ λl=>h (rv false [cM P d] l))
 | .extract x i=>cd e x λv=>match v with
  | .tuple j=>match j.toList[i]? with
   | some v=>h v
   | none=>T.fail
  | _=>T.fail
 | .call c=>match c.callee with
  | .builtin b=>jh e c.args.toList λj=>tC P b c o.type j h
  | .value g=>match Hi g with
   | true=>cd e g λg=>jh e c.args.toList λj=>T.xk P g j (mv P o.type).1 (mv P o.type).2 (j7 _ λl=>h (rv (mv P o.type).1 (mv P o.type).2 l))
   | false=>cd e g λg=>jh e c.args.toList λj=>match g with
    | .func (.func f) q u=>Et P f (q.toList++j++u.toList) o.type h
    | .func (.method _) _ _=>T.fail
    | .func (.methodOf _ _) _ _=>T.fail
    | .func (.via _ _ _ _) _ _=>T.fail
    | .func (.yield _) _ _=>T.fail
    | .nilFunc=>T.fail
    | .bool _=>T.fail
    | .int _ _=>T.fail
    | .float _ _=>T.fail
    | .complex _ _ _=>T.fail
    | .string _=>T.fail
    | .pointer _=>T.fail
    | .slice _ _ _=>T.fail
    | .map _=>T.fail
    | .chan _=>T.fail
    | .iface _ _=>T.fail
    | .nilIface=>T.fail
    | .agg _=>T.fail
    | .tuple _=>T.fail
  | .invoke _ _=>T.fail
 | _=>T.fail
def guardOf (ops:Array Oper) (o:Oper):Option (Option Tmp × Bool) :=
 match o.guard with
 | none=>none
 | some (j,a)=>some ((ops[j]?).bind (·.dst),a)
def mX (n:Nat) (ops:Array Oper) (o:Oper) (e:Env) (a no:Env->T):T :=
 match guardOf ops o with
 | none=>a e
 | some (none,_)=>no e
 | some (some d,c) =>
  match db e d with
  | some (.bool b)=>match c with
   | true=>cond b (a (eE n e (some d) (.bool true))) (no (eE n e (some d) (.bool false)))
   | false=>cond b (no (eE n e (some d) (.bool true))) (a (eE n e (some d) (.bool false)))
  | some (.tuple _)=>no e
  | _=>T.fail
def G5 (P:Program) (n:Nat) (ops:Array Oper):List Oper->Env->(Env->T)->T
 | [],e,k=>k e
 | o::rest,e,k=>mX n ops o e (λe=>wy P o e λv=>G5 P n ops rest (eE n e o.dst v) k) (λe=>G5 P n ops rest (eE n e o.dst undef) k)
def tO (P:Program) (o:Oper):Bool :=
 match o.op with
 | .move _=>true
 | .pick _ _ _=>true
 | .build _ _=>true
 | .nilCheck _=>true
 | .binOp _ t x y _=>tJ P t x y
 | .unOp _ _ _=>true
 | .convert s d _=>match P.underlying s,P.underlying d with
  | some (.int _),some (.int _)=>true
  | some .string,some .string=>true
  | _,_=>false
 | .makeInterface _ _=>true
 | .makeFunc _ _ _=>true
 | .slice t _ _ _ none=>match P.underlying t with
  | some .string=>true
  | some (.slice _)=>true
  | _=>false
 | .fieldAddr _ _ _=>true
 | .field _ _ _=>true
 | .indexAddr _ _ _=>true
 | .index t _ _=>match P.underlying t with
  | some .string=>true
  | _=>false
 | .extract _ _=>true
 | .call c=>match c.callee with
  | .builtin .len=>match (c.argTypes[0]?).bind P.underlying with
   | some .string=>true
   | some (.slice _)=>true
   | _=>false
  | .builtin .cap=>match (c.argTypes[0]?).bind P.underlying with
   | some (.slice _)=>true
   | _=>false
  | _=>false
 | _=>false
def Cf (o:Oper):Bool :=
 match o.op with
 | .load _ _=>true
 | _=>false
def calm (P:Program) (o:Oper):Bool:=tO P o || Cf o
def uG (x:Nat):List Nat->Bool
 | []=>false
 | y::l=>Nat.beq x y || uG x l
def waits (o:Oper):List Nat:=(o.after.toList.filter λe=>Region.binds .any e).map (·.on)
def y6 (D:List Nat) (i:Nat) (o:Oper):Bool:=!uG i D && (waits o).all λj=>uG j D
def looks (ops : Array Oper) (o : Oper) : List Nat :=
  (o.op.operands.toList.filterMap λ| .tmp t => some t | _ => none) ++
  (match o.guard with
   | some (g, _) => ((ops[g]?).bind (·.dst)).toList
   | none => [])
def nY:Option Nat->Nat->Bool
 | some d,s=>Nat.beq d s
 | none,_=>false
def KB (P : Program) (ops : Array Oper) (i j : Nat) (x y : Oper) : Bool :=
  match Nat.beq i j with
  | true => (match x.dst with
    | some d => !calm P x || !uG d (looks ops x)
    | none => true)
  | false => (match y.dst with
    | some d => !uG d (looks ops x) || uG j (waits x) || (uG i (waits y) && !calm P y)
    | none => true) &&
   (match x.dst, calm P x with
    | some d, true => !nY y.dst d
    | _, _ => true)
def idx:Nat->List Oper->List (Nat × Oper)
 | _,[]=>[]
 | i,o::l=>(i,o)::idx (i+1) l
def eN (P : Program) (n : Nat) (ops : Array Oper) : Bool :=
  ((idx 0 ops.toList).all λp => match p.2.dst with
    | some d => Nat.blt d n
    | none => true) && (idx 0 ops.toList).all λp => (idx 0 ops.toList).all λq => KB P ops p.1 q.1 p.2 q.2
abbrev Made:=List (Nat × Xax × List Xab)
def lF (o:Oper):Made->List (Xax × List Xab)
 | []=>[]
 | (i,a,l)::m=>bif uG i (waits o) then lF o m else (a,l)::lF o m
def w8 (l:List (Xax × List Xab)) (t:T):T :=
 match l with
 | []=>t
 | p::l=>T.bG (p::l) t
def Xv:List T->T
 | []=>T.fail
 | [t]=>t
 | t::ts=>T.all (t::ts)
def th (P:Program) (t:TypeId) (x:Operand) (e:Env) (b:Xax->List Xab->Xab->T):T :=
 cd e x λv=>match v,cO P t with
  | .pointer p,some true=>bif (fD P 9 t).length==P.cellsOf t then T.bh p λa=>T.ah a (fD P 9 t) (j7 _ λl=>b a l (.agg l.toArray)) else T.fail
  | .pointer p,some false=>T.bh p λa=>T.ah a (cM P t).2 (j7 _ λl=>b a l (l.headD undef))
  | _,_=>T.fail
def dm (P:Program) (D:List Nat) (c:Bool):List (Nat × Oper)->List (Nat × Oper)
 | []=>[]
 | p::l=>match y6 D p.1 p.2 && (calm P p.2==c) with
  | true=>p::dm P D c l
  | false=>dm P D c l
def gT (P:Program) (n:Nat) (ops:Array Oper):Nat->List Nat->Env->Made->(Env->T)->T
 | 0,_,_,_,_=>T.fail
 | b+1,D,e,m,k =>
  match dm P D true (idx 0 ops.toList) with
  | (i,o)::_ =>
   mX n ops o e (λe=>match o.op with
    | .load t x=>th P t x e λa l v=>gT P n ops b (i::D) (eE n e o.dst v) ((i,a,l)::m) k
    | _=>wy P o e λv=>gT P n ops b (i::D) (eE n e o.dst v) m k)
    λe=>gT P n ops b (i::D) (eE n e o.dst undef) m k
  | [] =>
   match dm P D false (idx 0 ops.toList) with
   | []=>k e
   | q::c=>Xv ((q::c).map λp=>mX n ops p.2 e (λe=>wy P p.2 e λv=>w8 (lF p.2 m) (gT P n ops b (p.1::D) (eE n e p.2.dst v) m k))
     λe=>gT P n ops b (p.1::D) (eE n e p.2.dst undef) m k)
def xn (P:Program) (n _id:Nat) (ops:Array Oper) (e:Env) (k:Env->T):T :=
 match eN P n ops with
 | true=>gT P n ops (ops.size+1) [] e [] k
 | false=>T.fail
def eR:Code->List Nat
 | .region _ ops _=>ops.toList.filterMap (·.dst)
 | .seq a b=>eR a++eR b
 | .cond _ a b=>eR a++eR b
 | .block _ c=>eR c
 | .loop c=>eR c
 | .scope c=>eR c
 | .rangeFunc _ ps a b=>ps.toList++eR a++eR b
 | _=>[]
def ul (x:Nat):List Nat->List Nat
 | []=>[x]
 | y::l=>bif Nat.blt x y then x::y::l else bif Nat.beq x y then y::l else y::ul x l
def jx (l:List Nat):List Nat:=l.foldl (λa x=>ul x a) []
def VD:Xab->TypeDesc
 | .bool _=>.bool
 | .int k _=>.int k
 | .string _=>.string
 | .pointer _=>.pointer 0
 | .slice _ _ _=>.slice 0
 | .map _=>.map 0 0
 | _=>.invalid
def OT:Xab->ez
 | .agg cs=>(true,cs.toList.map VD)
 | v=>(false,[VD v])
def live (e:Env):List Nat->List (Nat × Xab)
 | []=>[]
 | s::l=>match db e s with
  | some v=>(s,v)::live e l
  | none=>live e l
def forget (e:Env) (l:List Nat):Env:=l.map (λs=>(s,none))++e
def ou (l:List Nat) (a:List Xab):Env:=(l.zip a).map λp=>(p.1,some p.2)
def BS (e:Env):List Nat->(List Xab->T)->T
 | [],k=>k []
 | s::l,k=>match db e s with
  | some v=>BS e l λa=>k (v::a)
  | none=>T.fail
def K4 (ms:List Nat) (e:Env) (b:Nat) (a:Env->(Env->T)->T):T :=
 let lvs:=live e (jx ms)
 let ss:=lvs.map (·.1)
 let cs:=lvs.map λp=>OT p.2
 T.loop cs (lvs.map (·.2)) (j7 (flat cs) λl=>a (ou ss (parts cs l)++forget e (jx ms)) λc=>BS c ss λd=>T.again b d)
def kE (l:Nat):Code->Bool
 | .goto l'=>Nat.beq l l'
 | .seq a b=>kE l a || kE l b
 | .cond _ a b=>kE l a || kE l b
 | .block _ c=>kE l c
 | .loop c=>kE l c
 | .scope c=>kE l c
 | .rangeFunc _ _ a b=>kE l a || kE l b
 | _=>false
def labels:Code->List Nat
 | .label l=>[l]
 | .seq a b=>labels a++labels b
 | _=>[]
def Dp (c:Code):Option Nat :=
 (labels c).find? λl=>match findLabel c l with
  | some r=>kE l r
  | none=>false
def V9:Code->Nat->Code
 | .seq a b,l=>match findLabel a l with
  | some _=>V9 a l
  | none=>.seq a (V9 b l)
 | _,_=>.skip
def Sg (a:List Nat) (cs:List ez) (ms:List Nat) (e:Env) (b:Nat) (first:(Env->T)->T) (after:Env->T):T :=
 T.join cs (first λc=>BS c a λd=>T.again b d) (j7 (flat cs) λl=>after (ou a (parts cs l)++forget e (jx ms)))
def kU:Code->Option Nat
 | .region id _ _=>some id
 | .seq a b=>match kU a with
  | some i=>some i
  | none=>kU b
 | .cond _ a _=>kU a
 | .block _ c=>kU c
 | .loop c=>kU c
 | .scope c=>kU c
 | _=>none
def Mg (a:List Nat):Option Nat->Nat->Bool
 | some i,k=>uG (i+k) a
 | none,_=>false
def handsOn (P:Program):List Oper->List (Nat × ez)
 | []=>[]
 | [o]=>match o.dst with
  | some d=>[(d,cM P o.type)]
  | none=>[]
 | o::l=>match o.op,o.dst with
  | .assign _,some d=>(d,cM P o.type)::handsOn P l
  | _,_=>handsOn P l
def gp (l:Nat):Code->Bool
 | .label l'=>Nat.beq l l'
 | .seq a _=>gp l a
 | _=>false
def dstsOf (ops:Array Oper):List Nat:=ops.toList.filterMap (·.dst)
mutual
def gM (P:Program) (n:Nat) (d:List Nat):Nat->Code->Env->Nat->(Exit->Env->Nat->T)->T
 | 0,_,_,_,_=>T.fail
 | j+1,c,e,g,κ =>
  match c with
  | .skip=>κ .normal e g
  | .label _=>κ .normal e g
  | .exit i=>κ (.exit i) e g
  | .goto l=>κ (.goto l) e g
  | .ret=>κ .ret e g
  | .seq a b =>
   match Mg d (kU b) 1000 with
   | false=>gM P n d j a e g λx h f=>match x with
    | .normal=>gM P n d j b h f κ
    | x=>κ x h f
   | true =>
    Sg ((live e (jx (eR a))).map (·.1)) ((live e (jx (eR a))).map λp=>OT p.2) (eR a) e g
     (λk=>gM P n d j a e (g+1) λx h f=>match x with
      | .normal=>k h
      | x=>κ x h f)
     (λh=>gM P n d j b h g κ)
  | .cond c a b=>match ev e c with
   | some (.bool t)=>cond t (gM P n d j a e g κ) (gM P n d j b e g κ)
   | _=>T.fail
  | .block id c=>gM P n d j c e g λx h f=>match x with
   | .exit i=>match Nat.beq i id with
    | true=>κ .normal h f
    | false=>κ (.exit i) h f
   | x=>κ x h f
  | .region id ops m =>
   match Mg d (some id) 0 with
   | false=>match m with
    | false=>G5 P n ops ops.toList e λh=>κ .normal h g
    | true=>xn P n id ops e λh=>κ .normal h g
   | true=>Sg ((handsOn P ops.toList).map (·.1)) ((handsOn P ops.toList).map (·.2)) (dstsOf ops) e g
     (λk=>match m with
      | false=>G5 P n ops ops.toList e k
      | true=>xn P n id ops e k)
     (λh=>κ .normal h g)
  | .loop c=>K4 (eR c) e g λh k=>gM P n d j c h (g+1) λx o f=>match x with
   | .normal=>k o
   | x=>κ x o f
  | .scope c=>match Dp c with
   | none=>nh P n d j c c e g none (λ_=>T.fail) κ
   | some l=>match findLabel c l with
    | none=>T.fail
    | some r=>yK P n d j c c l r e g κ
  | _=>T.fail
def nh (P:Program) (n:Nat) (a:List Nat):Nat->Code->Code->Env->Nat->Option Nat->(Env->T)->(Exit->Env->Nat->T)->T
 | 0,_,_,_,_,_,_,_=>T.fail
 | f+1,c,r,e,g,back,k,κ=>gM P n a f r e g λx d b=>match x with
  | .goto l=>match nY back l with
   | true=>k d
   | false=>match findLabel c l with
    | some h=>nh P n a f c h d b back k κ
    | none=>κ (.goto l) d b
  | x=>κ x d b
def yK (P:Program) (n:Nat) (d:List Nat):Nat->Code->Code->Nat->Code->Env->Nat->(Exit->Env->Nat->T)->T
 | 0,_,_,_,_,_,_,_=>T.fail
 | g+1,c,t,l,r,e,h,κ =>
  match gp l t with
  | true=>K4 (eR c) e h λi k=>nh P n d g c r i (h+1) (some l) k κ
  | false=>match t with
   | .seq a b=>match findLabel a l with
    | some _=>T.fail
    | none=>gM P n d g a e h λx j f=>match x with
     | .normal=>yK P n d g c b l r j f κ
     | .goto _=>T.fail
     | x=>κ x j f
   | _=>T.fail
end
def yE (P:Program):List ResultVar->Env->(List Xab->T)->T
 | [],_,k=>k []
 | .tmp t::b,e,k=>cd e (.tmp t) λv=>yE P b e λl=>k (v::l)
 | .cell a t::b,e,k=>cd e (.tmp a) λp=>match p,cO P t with
  | .pointer p,some true=>bif (fD P 9 t).length==P.cellsOf t then T.bh p λa=>T.ah a (fD P 9 t) (j7 _ λl=>yE P b e λl'=>k (.agg l.toArray::l')) else T.fail
  | .pointer p,some false=>T.bh p λa=>T.ah a (cM P t).2 (j7 _ λl=>yE P b e λl'=>k (l.headD undef::l'))
  | _,_=>T.fail
def one (l:List Xab):Xab :=
 match l with
 | [v]=>v
 | l=>.tuple l.toArray
def wg:Nat->List Xab->Env
 | _,[]=>[]
 | i,v::a=>(i,some v)::wg (i+1) a
def bP (P:Program) (a:List Nat) (fn:Func) (args:List Xab):T :=
 match fn.body with
 | none=>T.fail
 | some c=>gM P fn.ntmps a 100000 c (wg 0 args) 0 λx e _=>match x with
  | .normal=>yE P fn.results.toList e λl=>T.ret (one l)
  | .ret=>yE P fn.results.toList e λl=>T.ret (one l)
  | _=>T.fail
end Go.Sx
