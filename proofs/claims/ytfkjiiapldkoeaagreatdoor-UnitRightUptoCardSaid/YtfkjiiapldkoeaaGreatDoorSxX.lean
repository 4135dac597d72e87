/- A framework of our own, part X: from code to trees. No condition. -/
import Derived.Test.YtfkjiiapldkoeaaGreatDoorSxT
set_option linter.unusedVariables false
set_option linter.unusedSimpArgs false
set_option linter.deprecated false
namespace Go.Sx
abbrev Env:=List (Nat × Option Value)
def bO:Env→Nat→Option Value
 | [],_=>none
 | (s,v)::e,t=>bif Nat.beq s t then v else bO e t
def dK (n:Nat) (e:Env) (dst:Option Tmp) (v:Value):Env :=
 match dst with
 | none=>e
 | some d=>bif Nat.blt d n then (d,some v)::e else e
def ev (e:Env):Operand→Option Value
 | .tmp t=>bO e t
 | .const v=>some v
 | .global g=>some (.pointer (some ⟨g,0,none⟩))
 | .func f=>some (.func (.func f) #[] #[])
namespace T
def av (p:Option Addr) (k:Addr→T):T :=
 match p with
 | some a=>k a
 | none=>T.fail
end T
def fz (P:Program):Nat→TypeId→List TypeDesc
 | 0,_=>[.invalid]
 | n+1,t =>
  match P.underlying t with
  | some (.struct fs)=>fs.toList.flatMap fun f=>fz P n f.type
  | some (.array k e)=>(List.replicate k (fz P n e)).flatten
  | some d=>[d]
  | none=>[.invalid]
def cL (P:Program) (t:TypeId):gJ :=
 match P.underlying t with
 | some (.struct _)=>(true,fz P 9 t)
 | some (.array _ _)=>(true,fz P 9 t)
 | some d=>(false,[d])
 | none=>(false,[.invalid])
def uk (P:Program) (t:TypeId):Bool × List gJ :=
 match P.underlying t with
 | some (.tuple ts)=>(true,ts.toList.map (cL P))
 | _=>(false,[cL P t])
def Dg (b:Bool):List gJ :=
 match b with
 | true=>[(false,[.int .i64]),(false,[.int .i32])]
 | false=>[(false,[.string]),(false,[.bool])]
def bo (e:Env) (x:Operand) (k:Value→T):T :=
 match ev e x with
 | some v=>k v
 | none=>T.fail
def gA (e:Env):List Operand→(List Value→T)→T
 | [],k=>k []
 | x::xs,k=>bo e x fun v=>gA e xs fun l=>k (v::l)
def bC (s:ByteArray) (n:Int):Int:=((s.data.toList.getD n.toNat 0).toNat:Nat)
def GP (op:BinOp) (k:IntKind) (x y:Int):Int :=
 match op with
 | .and=>k.wrap (BitVec.ofInt k.bits x &&& BitVec.ofInt k.bits y).toNat
 | .or=>k.wrap (BitVec.ofInt k.bits x ||| BitVec.ofInt k.bits y).toNat
 | .xor=>k.wrap (BitVec.ofInt k.bits x ^^^ BitVec.ofInt k.bits y).toNat
 | _=>k.wrap (BitVec.ofInt k.bits x &&& ~~~ BitVec.ofInt k.bits y).toNat
def F1 (op:BinOp) (k:IntKind) (m n:Int) (kk:Value→T):T :=
 match op with
 | .add=>kk (.int k (k.wrap (m+n)))
 | .sub=>kk (.int k (k.wrap (m-n)))
 | .mul=>kk (.int k (k.wrap (m*n)))
 | .quo=>T.aJ (n≠0) (kk (.int k (k.wrap (m.tdiv n))))
 | .rem=>T.aJ (n≠0) (kk (.int k (m.tmod n)))
 | .eql=>kk (.bool (m==n))
 | .neq=>kk (.bool (m != n))
 | .lss=>kk (.bool (decide (m<n)))
 | .leq=>kk (.bool (decide (m≤n)))
 | .gtr=>kk (.bool (decide (m>n)))
 | .geq=>kk (.bool (decide (m≥n)))
 | .and=>kk (.int k (GP .and k m n))
 | .or=>kk (.int k (GP .or k m n))
 | .xor=>kk (.int k (GP .xor k m n))
 | .andNot=>kk (.int k (GP .andNot k m n))
 | _=>T.fail
def vW (op:BinOp) (k:IntKind) (m n:Int) (kk:Value→T):T :=
 match op with
 | .shl=>T.aJ (0≤n) (kk (.int k (k.wrap (m*2^(min n.toNat k.bits)))))
 | .shr=>T.aJ (0≤n) (kk (.int k (m.fdiv (2^(min n.toNat k.bits)))))
 | _=>T.fail
def Hg (op:BinOp) (x y:ByteArray) (kk:Value→T):T :=
 match op with
 | .add=>T.aJ (((x.size+y.size:Nat):Int)≤IntKind.i64.max) (kk (.string (x++y)))
 | .eql=>kk (.bool (x.toList==y.toList))
 | .neq=>kk (.bool !(x.toList==y.toList))
 | .lss=>kk (.bool (Op.bytesLess x.toList y.toList))
 | .leq=>kk (.bool (Op.bytesLess x.toList y.toList || x.toList==y.toList))
 | .gtr=>kk (.bool !(Op.bytesLess x.toList y.toList || x.toList==y.toList))
 | .geq=>kk (.bool !(Op.bytesLess x.toList y.toList))
 | _=>T.fail
def ml:BinOp→Bool
 | .shl=>true
 | .shr=>true
 | _=>false
def isNil (x:Operand):Bool :=
 match x with
 | .const (.pointer none)=>true
 | .const (.slice none 0 0)=>true
 | .const (.map none)=>true
 | _=>false
def bX (op:BinOp) (t:TypeId) (x y:Operand) (a b:Value):Sem Value:=do eqGuard op t x y a b; binOp op t a b
def Lz (P:Program) (op:BinOp) (t:TypeId) (x y:Operand) (a b:Value) (kk:Value→T):T :=
 T.bj P (bX op t x y a b) false [(false,[.bool])] fun r=>kk (.bool r)
def asked (op:BinOp) (b:Bool) (kk:Value→T) (other:T):T :=
 match op with
 | .eql=>kk (.bool b)
 | .neq=>kk (.bool !b)
 | _=>other
def tc (P:Program) (t:TypeId) (x y:Operand):Bool :=
 match P.underlying t with
 | some (.int _)=>true
 | some .string=>true
 | some .bool=>true
 | some (.pointer _)=>isNil y
 | some (.slice _)=>isNil y
 | some (.map _ _)=>isNil y
 | _=>false
def Ak (P:Program) (op:BinOp) (t:TypeId) (a b:Value) (kk:Value→T):T :=
 match a,b with
 | .int k m,.int k' n =>
  match ml op with
  | true=>vW op k m n kk
  | false=>match decide (k=k') with
   | true=>F1 op k m n kk
   | false=>T.fail
 | .string m,.string n=>Hg op m n kk
 | .bool m,.bool n =>
  match P.underlying t with
  | some .bool=>asked op (m==n) kk T.fail
  | _=>T.fail
 | .pointer p,.pointer _ =>
  match P.underlying t with
  | some (.pointer _)=>asked op p.isNone kk T.fail
  | _=>T.fail
 | .slice p _ _,.slice _ _ _ =>
  match P.underlying t with
  | some (.slice _)=>asked op p.isNone kk T.fail
  | _=>T.fail
 | .map p,.map _ =>
  match P.underlying t with
  | some (.map _ _)=>asked op p.isNone kk T.fail
  | _=>T.fail
 | _,_=>T.fail
def Ew (P:Program) (op:BinOp) (t:TypeId) (x y:Operand) (a b:Value) (kk:Value→T):T :=
 match tc P t x y with
 | true=>Ak P op t a b kk
 | false=>Lz P op t x y a b kk
def K0 (op:UnOp) (a:Value) (kk:Value→T):T :=
 match op,a with
 | .neg,.int k n=>kk (.int k (k.wrap (0-n)))
 | .xor,.int k n=>kk (.int k (GP .xor k (if k.signed then -1 else k.max) n))
 | .not,.bool b=>kk (.bool !b)
 | _,_=>T.fail
def Bv (P:Program) (src dst:TypeId) (a:Value) (kk:Value→T):T :=
 match P.underlying src,P.underlying dst,a with
 | some (.int _),some (.int k),.int _ n=>kk (.int k (k.wrap n))
 | some .string,some .string,.string s=>kk (.string s)
 | some .string,some .string,_=>T.fail
 | _,some (.slice _),_=>T.bj P (convert src dst a) false [(false,[.slice 0])] fun p l c=>kk (.slice p l c)
 | _,some .string,_=>T.bj P (convert src dst a) false [(false,[.string])] fun s=>kk (.string s)
 | _,_,_=>T.fail
def uu:Option Value→Int
 | some (.int _ n)=>n
 | _=>0
def gM:Option Value→Bool
 | some (.int _ _)=>true
 | none=>true
 | _=>false
def rm (d:Int):Option Value→Int
 | some (.int _ n)=>n
 | _=>d
def qg (P:Program) (t:TypeId):Bool:=(P.info? t).isSome
def jv (P:Program) (t:TypeId) (a:Value) (lo hi mx:Option Value) (kk:Value→T):T :=
 match gM lo && gM hi && gM mx with
 | false=>T.fail
 | true =>
  match P.underlying t with
  | some .string=>match a,mx with
   | .string s,none =>
    T.aJ (0≤uu lo∧uu lo≤rm s.size hi∧rm s.size hi≤s.size) (kk (.string (s.extract (uu lo).toNat (rm s.size hi).toNat)))
   | _,_=>T.fail
  | some (.slice e)=>match mx with
   | some _=>T.bj P (Instr.sliceAt t a lo hi mx) false [(false,[.slice 0])] fun p l c=>kk (.slice p l c)
   | none=>match a with
    | .slice p len cap =>
     match qg P e with
     | false=>T.fail
     | true=>T.aJ (0≤uu lo∧uu lo≤rm len hi∧rm len hi≤cap) (kk (.slice (if cap=(uu lo).toNat then p else p.map (·.add ((uu lo).toNat*P.cellsOf e))) ((rm len hi).toNat-(uu lo).toNat) (cap-(uu lo).toNat)))
    | _=>T.fail
  | _=>T.bj P (Instr.sliceAt t a lo hi mx) false [(false,[.slice 0])] fun p l c=>kk (.slice p l c)
def w9 (P:Program) (t:TypeId) (cs:List Value) (off:Nat) (kk:Value→T):T :=
 match P.underlying t with
 | some (.struct _)=>kk (.agg ((cs.drop off).take (P.cellsOf t)).toArray)
 | some (.array _ _)=>kk (.agg ((cs.drop off).take (P.cellsOf t)).toArray)
 | some _=>match cs[off]? with
  | some v=>kk v
  | none=>T.fail
 | none=>T.fail
def cC (P:Program) (t:TypeId):Option Bool :=
 match P.underlying t with
 | some (.struct _)=>some true
 | some (.array _ _)=>some true
 | some _=>some false
 | none=>none
def mi:Value→List Value
 | .agg cs=>cs.toList
 | _=>[]
def eE:Value→Bool
 | .agg _=>true
 | _=>false
def fO (P:Program) (f:FuncId):Bool :=
 match P.funcs[f]? with
 | some fn => fn.body.isSome && !(fn.name == "runtime.NumGoroutine")
 | none=>false
def HQ:Operand→Bool
 | .tmp _=>true
 | .const _=>false
 | .global _=>false
 | .func _=>false
def Ht (f:FuncId) (args:Array Value):Sem Value:=do
 match ← callFunc f args with
 | .value v=>pure v
 | _ => stuck "no value"
def Dy (P:Program) (f:FuncId) (args:List Value) (t:TypeId) (kk:Value→T):T :=
 match fO P f with
 | true=>T.call P f args (uk P t).1 (uk P t).2 (cj _ fun l=>kk (rv (uk P t).1 (uk P t).2 l))
 | false=>T.bj P (Ht f args.toArray) (uk P t).1 (uk P t).2 (cj _ fun l=>kk (rv (uk P t).1 (uk P t).2 l))
def EH (P:Program) (c:Call) (t:TypeId) (args:List Value) (kk:Value→T):T :=
 match (c.argTypes[0]?).bind P.underlying with
 | some .string=>match args with
  | [.string s]=>kk (.int .i64 s.size)
  | _=>T.fail
 | some (.slice _)=>match args with
  | [.slice _ n _]=>kk (.int .i64 n)
  | _=>T.fail
 | _=>T.bj P (Builtin.len_ c.argTypes t args.toArray) false [(false,[.int .i64])] fun n=>kk (.int .i64 n)
def E1 (P:Program) (c:Call) (args:List Value) (kk:Value→T):T :=
 match (c.argTypes[0]?).bind P.underlying with
 | some (.slice _)=>match args with
  | [.slice _ _ n]=>kk (.int .i64 n)
  | _=>T.fail
 | _=>T.fail
def rU (P:Program) (b:Builtin) (c:Call) (t:TypeId) (args:List Value) (kk:Value→T):T :=
 match b,args with
 | .len,_=>EH P c t args kk
 | .cap,_=>E1 P c args kk
 | .append,_=>T.bj P (Builtin.append_ c.argTypes t args.toArray) false [(false,[.slice 0])] fun p l cp=>kk (.slice p l cp)
 | .copy,_=>T.bj P (Builtin.copy_ c.argTypes t args.toArray) false [(false,[.int .i64])] fun n=>kk (.int .i64 n)
 | .min,_=>T.bj P (Builtin.min_ c.argTypes t args.toArray) false [cL P t] (cj _ fun l=>kk (rv false [cL P t] l))
 | .max,_=>T.bj P (Builtin.max_ c.argTypes t args.toArray) false [cL P t] (cj _ fun l=>kk (rv false [cL P t] l))
 | .delete,_=>T.bj P (Builtin.delete_ c.argTypes t args.toArray) true [] (kk (.tuple #[]))
 | .unsafeString,_=>T.bj P (Builtin.unsafeString_ c.argTypes t args.toArray) false [cL P t] (cj _ fun l=>kk (rv false [cL P t] l))
 | .unsafeSliceData,_=>T.bj P (Builtin.unsafeSliceData_ c.argTypes t args.toArray) false [cL P t] (cj _ fun l=>kk (rv false [cL P t] l))
 | _,_=>T.fail
def LS (P:Program) (t:TypeId) (lo hi mx:Option Operand) (a:Value) (vs:List Value) (kk:Value→T):T :=
 match lo,hi,mx,vs with
 | none,none,none,[]=>jv P t a none none none kk
 | some _,none,none,[l]=>jv P t a (some l) none none kk
 | none,some _,none,[h]=>jv P t a none (some h) none kk
 | some _,some _,none,[l,h]=>jv P t a (some l) (some h) none kk
 | some _,some _,some _,[l,h,m]=>jv P t a (some l) (some h) (some m) kk
 | none,some _,some _,[h,m]=>jv P t a none (some h) (some m) kk
 | _,_,_,_=>T.fail
def AM (P:Program) (t:TypeId) (v i:Value) (kk:Value→T):T :=
 match v,i,P.underlying t with
 | .slice p len _,.int _ n,some (.slice el)=>bif !qg P el then T.fail else T.aJ (0≤n∧n<len) (T.av p fun a=>kk (.pointer (some (a.add (n.toNat*P.cellsOf el)))))
 | .pointer p,.int _ n,some (.array len el)=>bif !qg P el then T.fail else T.aJ (0≤n∧n<len) (T.av p fun a=>kk (.pointer (some (a.add (n.toNat*P.cellsOf el)))))
 | _,_,_=>T.fail
def FN (P:Program) (t:TypeId) (v i:Value) (kk:Value→T):T :=
 match v,i,P.underlying t with
 | .string s,.int _ n,some .string=>T.aJ (0≤n∧n<s.size) (kk (.int .u8 (bC s n)))
 | v,i,some (.array len el)=>T.bj P (Instr.index t v i) false [cL P el] (cj _ fun l=>kk (rv false [cL P el] l))
 | _,_,_=>T.fail
def Eg (xs:List Value):Nat→List Value→List Value
 | _,[]=>xs
 | i,v::vs=>Eg (xs.set i v) (i+1) vs
def iS (place:Nat→Option (Nat × Nat)) (cells:List Value):List (Nat × List Value)→Option (List Value)
 | []=>some cells
 | (i,l)::rest =>
  match place i with
  | none=>none
  | some (off,size)=>bif !(Nat.beq l.length size) || Nat.blt cells.length (off+l.length) then none else iS place (Eg cells off l) rest
def fq (agg:Nat→Option Bool):List (Nat × Value)→(List (Nat × List Value)→T)→T
 | [],k=>k []
 | (i,v)::l,k =>
  match agg i with
  | some true=>cond (eE v) (fq agg l fun r=>k ((i,mi v)::r)) T.fail
  | some false=>cond (eE v) T.fail (fq agg l fun r=>k ((i,[v])::r))
  | none=>T.fail
def uX (P:Program) (o:Oper) (e:Env) (kk:Value→T):T :=
 match o.op with
 | .move x=>bo e x kk
 | .assign x=>bo e x kk
 | .pick c a b=>bo e c fun c=>match c with
  | .bool b'=>cond b' (bo e a kk) (bo e b kk)
  | _=>T.fail
 | .alloc t=>match (P.info? t).bind (·.zero) with
  | some z=>T.new z.cells.toList t fun a=>kk (.pointer (some a))
  | none=>T.fail
 | .box t x=>bo e x fun v=>match cC P t with
  | some true=>cond (eE v) (T.new (mi v) t fun a=>kk (.pointer (some a))) T.fail
  | some false=>cond (eE v) T.fail (T.new [v] t fun a=>kk (.pointer (some a)))
  | none=>T.fail
 | .build t ps=>gA e (ps.toList.map (·.2)) fun vs=>match P.underlying t,(P.info? t).bind (·.zero) with
  | some (.struct fs),some z =>
   bif !(fs.all fun f=>qg P f.type) then T.fail else fq (fun i=>(fs[i]?).bind fun f=>cC P f.type) ((ps.toList.map (·.1)).zip vs) fun ls=>match iS (((fs.map fun f=>(f.offset,P.cellsOf f.type)))[·]?) z.cells.toList ls with
   | some cs=>kk (.agg cs.toArray)
   | none=>T.fail
  | some (.array _ el),some z =>
   bif !qg P el then T.fail else fq (fun _=>cC P el) ((ps.toList.map (·.1)).zip vs) fun ls=>match iS (fun i=>some (i*P.cellsOf el,P.cellsOf el)) z.cells.toList ls with
   | some cs=>kk (.agg cs.toArray)
   | none=>T.fail
  | _,_=>T.fail
 | .buildSlice t len ps=>gA e (ps.toList.map (·.2)) fun vs =>
  T.bj P (Instr.buildSlice t len ((ps.toList.map (·.1)).zip vs).toArray) false [(false,[.slice 0])] fun p l c=>kk (.slice p l c)
 | .load t x=>bo e x fun v=>match v,cC P t with
  | .pointer p,some true=>bif (fz P 9 t).length==P.cellsOf t then T.av p fun a=>T.ae a (fz P 9 t) (cj _ fun l=>kk (.agg l.toArray)) else T.fail
  | .pointer p,some false=>T.av p fun a=>T.ae a (cL P t).2 (cj _ fun l=>kk (l.headD undef))
  | _,_=>T.fail
 | .store t x y=>bo e x fun p=>bo e y fun v=>match p,cC P t with
  | .pointer p,some true=>cond (eE v) (bif (mi v).length==P.cellsOf t then T.av p fun a=>T.ap a (mi v) (kk undef) else T.fail) T.fail
  | .pointer p,some false=>bif P.cellsOf t==1 then cond (eE v) T.fail (T.av p fun a=>T.ap a [v] (kk undef)) else T.fail
  | _,_=>T.fail
 | .nilCheck x=>bo e x fun v=>match v with
  | .pointer p=>T.av p fun a=>kk (.pointer (some a))
  | .func (.func f) fi ca=>kk (.func (.func f) fi ca)
  | .iface t v=>kk (.iface t v)
  | _=>T.fail
 | .binOp op t x y _=>bo e x fun a=>bo e y fun b=>Ew P op t x y a b kk
 | .unOp op _ x=>bo e x fun a=>K0 op a kk
 | .convert s d x=>bo e x fun a=>Bv P s d a kk
 | .makeInterface t x=>bo e x fun a=>match P.underlying t with
  | some (.interface _)=>T.fail
  | some _=>kk (.iface t a)
  | none=>T.fail
 | .makeFunc fn fi ca=>gA e fi.toList fun fi=>gA e ca.toList fun ca=>kk (.func fn fi.toArray ca.toArray)
 | .makeMap t none=>T.bj P (Instr.makeMap t none) false [(false,[.map 0 0])] fun r=>kk (.map r)
 | .makeSlice t l c=>bo e l fun l=>bo e c fun c=>T.bj P (Instr.makeSlice t l c) false [(false,[.slice 0])] fun p l c=>kk (.slice p l c)
 | .slice t x lo hi mx=>bo e x fun a=>gA e (lo.toList++hi.toList++mx.toList) fun vs=>LS P t lo hi mx a vs kk
 | .fieldAddr s x f=>bo e x fun v=>match v,P.underlying s with
  | .pointer p,some (.struct fs)=>match fs[f]? with
   | some fd=>match P.cellsOf fd.type with
    | 0=>T.fail
    | _+1=>T.av p fun a=>kk (.pointer (some (a.add fd.offset)))
   | none=>T.fail
  | _,_=>T.fail
 | .field s x f=>bo e x fun v=>match v,P.underlying s with
  | .agg cs,some (.struct fs)=>match fs[f]? with
   | some fd=>w9 P fd.type cs.toList fd.offset kk
   | none=>T.fail
  | _,_=>T.fail
 | .indexAddr t x i=>bo e x fun v=>bo e i fun i=>AM P t v i kk
 | .index t x i=>bo e x fun v=>bo e i fun i=>FN P t v i kk
 | .lookup t m x ok=>bo e m fun m=>bo e x fun x=>match P.underlying t with
  | some (.map _ el)=>match ok with
   | true=>T.bj P (Instr.lookup t m x true) true [cL P el,(false,[.bool])] (cj _ fun l=>kk (rv true [cL P el,(false,[.bool])] l))
   | false=>T.bj P (Instr.lookup t m x false) false [cL P el] (cj _ fun l=>kk (rv false [cL P el] l))
  | _=>T.fail
 | .mapUpdate t m x v=>bo e m fun m=>bo e x fun x=>bo e v fun v=>T.mQ P (Instr.mapUpdate t m x v) (kk undef)
 | .insert t m x v=>bo e m fun m=>bo e x fun x=>bo e v fun v=>T.mQ P (Instr.mapUpdate t m x v) (kk undef)
 | .mapEntry t m x=>bo e m fun m=>bo e x fun x=>match P.underlying t with
  | some (.map _ el)=>T.bj P (Instr.mapEntry t m x) true [cL P el,(false,[.int .i64])] (cj _ fun l=>kk (rv true [cL P el,(false,[.int .i64])] l))
  | _=>T.fail
 | .entryStore t m x v=>bo e m fun m=>bo e x fun x=>bo e v fun v=>T.mQ P (Instr.entryStore t m x v) (kk undef)
 | .range t x=>bo e x fun x=>T.bj P (Instr.range t x) false [(false,[.pointer 0])] fun p=>kk (.pointer p)
 | .next it b=>bo e it fun it=>match P.underlying o.type with
  | some (.tuple ts)=>match ts.toList with
   | []=>T.next P (Instr.next it b o.type) (Dg b) (kk (.tuple #[.bool false])) (cj _ fun l=>kk (.tuple (.bool true::parts (Dg b) l).toArray))
   | _::ts=>T.next P (Instr.next it b o.type) (ts.map (cL P)) (kk (.tuple #[.bool false])) (cj _ fun l=>kk (.tuple (.bool true::parts (ts.map (cL P)) l).toArray))
  | _=>T.fail
 | .entry it=>bo e it fun it=>T.bj P (Instr.entry it) true (Dg false) (cj _ fun l=>kk (rv true (Dg false) l))
 | .typeAssert x t d ok=>bo e x fun x=>match ok with
  | true=>T.bj P (Instr.typeAssert x t d true) true [cL P d,(false,[.bool])] (cj _ fun l=>kk (rv true [cL P d,(false,[.bool])] l))
  | false=>T.bj P (Instr.typeAssert x t d false) false [cL P d] (cj _ fun l=>kk (rv false [cL P d] l))
 | .extract x i=>bo e x fun v=>match v with
  | .tuple vs=>match vs.toList[i]? with
   | some v=>kk v
   | none=>T.fail
  | _=>T.fail
 | .call c=>match c.callee with
  | .builtin b=>gA e c.args.toList fun vs=>rU P b c o.type vs kk
  | .value g=>match HQ g with
   | true=>bo e g fun g=>gA e c.args.toList fun vs=>T.rW P g vs (uk P o.type).1 (uk P o.type).2 (cj _ fun l=>kk (rv (uk P o.type).1 (uk P o.type).2 l))
   | false=>bo e g fun g=>gA e c.args.toList fun vs=>match g with
    | .func (.func f) fi ca=>Dy P f (fi.toList++vs++ca.toList) o.type kk
    | .func (.method _) _ _=>T.fail
    | .func (.methodOf _ _) _ _=>T.fail
    | .func (.via _ _ _ _) _ _=>T.fail
    | .func (.yield _) _ _=>T.fail
    | .nilFunc=>T.fail
    | .bool _=>T.fail
    | .int _ _=>T.fail
    | .float _ _=>T.fail
    | .complex _ _ _=>T.fail
    | .string _=>T.fail
    | .pointer _=>T.fail
    | .slice _ _ _=>T.fail
    | .map _=>T.fail
    | .chan _=>T.fail
    | .iface _ _=>T.fail
    | .nilIface=>T.fail
    | .agg _=>T.fail
    | .tuple _=>T.fail
  | .invoke _ _=>T.fail
 | _=>T.fail
def guardOf (ops:Array Oper) (o:Oper):Option (Option Tmp × Bool) :=
 match o.guard with
 | none=>none
 | some (j,want)=>some ((ops[j]?).bind (·.dst),want)
def oC (n:Nat) (ops:Array Oper) (o:Oper) (e:Env) (yes no:Env→T):T :=
 match guardOf ops o with
 | none=>yes e
 | some (none,_)=>no e
 | some (some d,want) =>
  match bO e d with
  | some (.bool b)=>match want with
   | true=>cond b (yes (dK n e (some d) (.bool true))) (no (dK n e (some d) (.bool false)))
   | false=>cond b (no (dK n e (some d) (.bool true))) (yes (dK n e (some d) (.bool false)))
  | some (.tuple _)=>no e
  | _=>T.fail
def Eb (P:Program) (n:Nat) (ops:Array Oper):List Oper→Env→(Env→T)→T
 | [],e,k=>k e
 | o::rest,e,k=>oC n ops o e (fun e=>uX P o e fun v=>Eb P n ops rest (dK n e o.dst v) k) (fun e=>Eb P n ops rest (dK n e o.dst undef) k)
def nP (P:Program) (o:Oper):Bool :=
 match o.op with
 | .move _=>true
 | .pick _ _ _=>true
 | .build _ _=>true
 | .nilCheck _=>true
 | .binOp _ t x y _=>tc P t x y
 | .unOp _ _ _=>true
 | .convert s d _=>match P.underlying s,P.underlying d with
  | some (.int _),some (.int _)=>true
  | some .string,some .string=>true
  | _,_=>false
 | .makeInterface _ _=>true
 | .makeFunc _ _ _=>true
 | .slice t _ _ _ none=>match P.underlying t with
  | some .string=>true
  | some (.slice _)=>true
  | _=>false
 | .fieldAddr _ _ _=>true
 | .field _ _ _=>true
 | .indexAddr _ _ _=>true
 | .index t _ _=>match P.underlying t with
  | some .string=>true
  | _=>false
 | .extract _ _=>true
 | .call c=>match c.callee with
  | .builtin .len=>match (c.argTypes[0]?).bind P.underlying with
   | some .string=>true
   | some (.slice _)=>true
   | _=>false
  | .builtin .cap=>match (c.argTypes[0]?).bind P.underlying with
   | some (.slice _)=>true
   | _=>false
  | _=>false
 | _=>false
def wS (o:Oper):Bool :=
 match o.op with
 | .load _ _=>true
 | _=>false
def calm (P:Program) (o:Oper):Bool:=nP P o || wS o
def sB (x:Nat):List Nat→Bool
 | []=>false
 | y::l=>Nat.beq x y || sB x l
def waits (o:Oper):List Nat:=(o.after.toList.filter fun e=>Region.binds .any e).map (·.on)
def sK (D:List Nat) (i:Nat) (o:Oper):Bool:=!sB i D && (waits o).all fun j=>sB j D
def looks (ops : Array Oper) (o : Oper) : List Nat :=
  (o.op.operands.toList.filterMap fun | .tmp t => some t | _ => none) ++
  (match o.guard with
   | some (g, _) => ((ops[g]?).bind (·.dst)).toList
   | none => [])
def j6:Option Nat→Nat→Bool
 | some d,s=>Nat.beq d s
 | none,_=>false
def B7 (P : Program) (ops : Array Oper) (i j : Nat) (x y : Oper) : Bool :=
  match Nat.beq i j with
  | true => (match x.dst with
    | some d => !calm P x || !sB d (looks ops x)
    | none => true)
  | false => (match y.dst with
    | some d => !sB d (looks ops x) || sB j (waits x) || (sB i (waits y) && !calm P y)
    | none => true) &&
   (match x.dst, calm P x with
    | some d, true => !j6 y.dst d
    | _, _ => true)
def idx:Nat→List Oper→List (Nat × Oper)
 | _,[]=>[]
 | i,o::l=>(i,o)::idx (i+1) l
def dA (P : Program) (n : Nat) (ops : Array Oper) : Bool :=
  ((idx 0 ops.toList).all fun p => match p.2.dst with
    | some d => Nat.blt d n
    | none => true) && (idx 0 ops.toList).all fun p => (idx 0 ops.toList).all fun q => B7 P ops p.1 q.1 p.2 q.2
abbrev Made:=List (Nat × Addr × List Value)
def oH (o:Oper):Made→List (Addr × List Value)
 | []=>[]
 | (i,a,l)::m=>bif sB i (waits o) then oH o m else (a,l)::oH o m
def zW (l:List (Addr × List Value)) (t:T):T :=
 match l with
 | []=>t
 | p::l=>T.aM (p::l) t
def Lf:List T→T
 | []=>T.fail
 | [t]=>t
 | t::ts=>T.all (t::ts)
def pZ (P:Program) (t:TypeId) (x:Operand) (e:Env) (kk:Addr→List Value→Value→T):T :=
 bo e x fun v=>match v,cC P t with
  | .pointer p,some true=>bif (fz P 9 t).length==P.cellsOf t then T.av p fun a=>T.ae a (fz P 9 t) (cj _ fun l=>kk a l (.agg l.toArray)) else T.fail
  | .pointer p,some false=>T.av p fun a=>T.ae a (cL P t).2 (cj _ fun l=>kk a l (l.headD undef))
  | _,_=>T.fail
def cH (P:Program) (D:List Nat) (c:Bool):List (Nat × Oper)→List (Nat × Oper)
 | []=>[]
 | p::l=>match sK D p.1 p.2 && (calm P p.2==c) with
  | true=>p::cH P D c l
  | false=>cH P D c l
def iD (P:Program) (n:Nat) (ops:Array Oper):Nat→List Nat→Env→Made→(Env→T)→T
 | 0,_,_,_,_=>T.fail
 | fu+1,D,e,m,k =>
  match cH P D true (idx 0 ops.toList) with
  | (i,o)::_ =>
   oC n ops o e (fun e=>match o.op with
    | .load t x=>pZ P t x e fun a l v=>iD P n ops fu (i::D) (dK n e o.dst v) ((i,a,l)::m) k
    | _=>uX P o e fun v=>iD P n ops fu (i::D) (dK n e o.dst v) m k)
    fun e=>iD P n ops fu (i::D) (dK n e o.dst undef) m k
  | [] =>
   match cH P D false (idx 0 ops.toList) with
   | []=>k e
   | q::qs=>Lf ((q::qs).map fun p=>oC n ops p.2 e (fun e=>uX P p.2 e fun v=>zW (oH p.2 m) (iD P n ops fu (p.1::D) (dK n e p.2.dst v) m k))
     fun e=>iD P n ops fu (p.1::D) (dK n e p.2.dst undef) m k)
def uU (P:Program) (n:Nat) (_id:Nat) (ops:Array Oper) (e:Env) (k:Env→T):T :=
 match dA P n ops with
 | true=>iD P n ops (ops.size+1) [] e [] k
 | false=>T.fail
def cU:Code→List Nat
 | .region _ ops _=>ops.toList.filterMap (·.dst)
 | .seq a b=>cU a++cU b
 | .cond _ a b=>cU a++cU b
 | .block _ c=>cU c
 | .loop c=>cU c
 | .scope c=>cU c
 | .rangeFunc _ ps a b=>ps.toList++cU a++cU b
 | _=>[]
def oT (x:Nat):List Nat→List Nat
 | []=>[x]
 | y::l=>bif Nat.blt x y then x::y::l else bif Nat.beq x y then y::l else y::oT x l
def bH (l:List Nat):List Nat:=l.foldl (fun acc x=>oT x acc) []
def JW:Value→TypeDesc
 | .bool _=>.bool
 | .int k _=>.int k
 | .string _=>.string
 | .pointer _=>.pointer 0
 | .slice _ _ _=>.slice 0
 | .map _=>.map 0 0
 | _=>.invalid
def GW:Value→gJ
 | .agg cs=>(true,cs.toList.map JW)
 | v=>(false,[JW v])
def live (e:Env):List Nat→List (Nat × Value)
 | []=>[]
 | s::l=>match bO e s with
  | some v=>(s,v)::live e l
  | none=>live e l
def forget (e:Env) (l:List Nat):Env:=l.map (fun s=>(s,none))++e
def j8 (l:List Nat) (vs:List Value):Env:=(l.zip vs).map fun p=>(p.1,some p.2)
def vo (e:Env):List Nat→(List Value→T)→T
 | [],k=>k []
 | s::l,k=>match bO e s with
  | some v=>vo e l fun vs=>k (v::vs)
  | none=>T.fail
def Dw (ms:List Nat) (e:Env) (lv:Nat) (body:Env→(Env→T)→T):T :=
 let lvs:=live e (bH ms)
 let ss:=lvs.map (·.1)
 let cs:=lvs.map fun p=>GW p.2
 T.loop cs (lvs.map (·.2)) (cj (flat cs) fun l=>body (j8 ss (parts cs l)++forget e (bH ms)) fun e'=>vo e' ss fun vs=>T.again lv vs)
def gV (l:Nat):Code→Bool
 | .goto l'=>Nat.beq l l'
 | .seq a b=>gV l a || gV l b
 | .cond _ a b=>gV l a || gV l b
 | .block _ c=>gV l c
 | .loop c=>gV l c
 | .scope c=>gV l c
 | .rangeFunc _ _ a b=>gV l a || gV l b
 | _=>false
def labels:Code→List Nat
 | .label l=>[l]
 | .seq a b=>labels a++labels b
 | _=>[]
def yF (c:Code):Option Nat :=
 (labels c).find? fun l=>match findLabel c l with
  | some r=>gV l r
  | none=>false
def JO:Code→Nat→Code
 | .seq a b,l=>match findLabel a l with
  | some _=>JO a l
  | none=>.seq a (JO b l)
 | _,_=>.skip
def Fs (ss:List Nat) (cs:List gJ) (ms:List Nat) (e:Env) (lv:Nat) (first:(Env→T)→T) (after:Env→T):T :=
 T.join cs (first fun e'=>vo e' ss fun vs=>T.again lv vs) (cj (flat cs) fun l=>after (j8 ss (parts cs l)++forget e (bH ms)))
def ib:Code→Option Nat
 | .region id _ _=>some id
 | .seq a b=>match ib a with
  | some i=>some i
  | none=>ib b
 | .cond _ a _=>ib a
 | .block _ c=>ib c
 | .loop c=>ib c
 | .scope c=>ib c
 | _=>none
def Dk (cuts:List Nat):Option Nat→Nat→Bool
 | some i,k=>sB (i+k) cuts
 | none,_=>false
def handsOn (P:Program):List Oper→List (Nat × gJ)
 | []=>[]
 | [o]=>match o.dst with
  | some d=>[(d,cL P o.type)]
  | none=>[]
 | o::l=>match o.op,o.dst with
  | .assign _,some d=>(d,cL P o.type)::handsOn P l
  | _,_=>handsOn P l
def ea (l:Nat):Code→Bool
 | .label l'=>Nat.beq l l'
 | .seq a _=>ea l a
 | _=>false
def dstsOf (ops:Array Oper):List Nat:=ops.toList.filterMap (·.dst)
mutual
def ep (P:Program) (n:Nat) (cuts:List Nat):Nat→Code→Env→Nat→(Exit→Env→Nat→T)→T
 | 0,_,_,_,_=>T.fail
 | fu+1,c,e,lv,κ =>
  match c with
  | .skip=>κ .normal e lv
  | .label _=>κ .normal e lv
  | .exit i=>κ (.exit i) e lv
  | .goto l=>κ (.goto l) e lv
  | .ret=>κ .ret e lv
  | .seq a b =>
   match Dk cuts (ib b) 1000 with
   | false=>ep P n cuts fu a e lv fun x e' lv'=>match x with
    | .normal=>ep P n cuts fu b e' lv' κ
    | x=>κ x e' lv'
   | true =>
    Fs ((live e (bH (cU a))).map (·.1)) ((live e (bH (cU a))).map fun p=>GW p.2) (cU a) e lv
     (fun k=>ep P n cuts fu a e (lv+1) fun x e' lv'=>match x with
      | .normal=>k e'
      | x=>κ x e' lv')
     (fun e'=>ep P n cuts fu b e' lv κ)
  | .cond c a b=>match ev e c with
   | some (.bool t)=>cond t (ep P n cuts fu a e lv κ) (ep P n cuts fu b e lv κ)
   | _=>T.fail
  | .block id c=>ep P n cuts fu c e lv fun x e' lv'=>match x with
   | .exit i=>match Nat.beq i id with
    | true=>κ .normal e' lv'
    | false=>κ (.exit i) e' lv'
   | x=>κ x e' lv'
  | .region id ops draw =>
   match Dk cuts (some id) 0 with
   | false=>match draw with
    | false=>Eb P n ops ops.toList e fun e'=>κ .normal e' lv
    | true=>uU P n id ops e fun e'=>κ .normal e' lv
   | true=>Fs ((handsOn P ops.toList).map (·.1)) ((handsOn P ops.toList).map (·.2)) (dstsOf ops) e lv
     (fun k=>match draw with
      | false=>Eb P n ops ops.toList e k
      | true=>uU P n id ops e k)
     (fun e'=>κ .normal e' lv)
  | .loop c=>Dw (cU c) e lv fun e' k=>ep P n cuts fu c e' (lv+1) fun x e'' lv'=>match x with
   | .normal=>k e''
   | x=>κ x e'' lv'
  | .scope c=>match yF c with
   | none=>jt P n cuts fu c c e lv none (fun _=>T.fail) κ
   | some l=>match findLabel c l with
    | none=>T.fail
    | some r=>sH P n cuts fu c c l r e lv κ
  | _=>T.fail
def jt (P:Program) (n:Nat) (cuts:List Nat):Nat→Code→Code→Env→Nat→Option Nat→(Env→T)→(Exit→Env→Nat→T)→T
 | 0,_,_,_,_,_,_,_=>T.fail
 | fu+1,c,r,e,lv,back,k,κ=>ep P n cuts fu r e lv fun x e' lv'=>match x with
  | .goto l=>match j6 back l with
   | true=>k e'
   | false=>match findLabel c l with
    | some r'=>jt P n cuts fu c r' e' lv' back k κ
    | none=>κ (.goto l) e' lv'
  | x=>κ x e' lv'
def sH (P:Program) (n:Nat) (cuts:List Nat):Nat→Code→Code→Nat→Code→Env→Nat→(Exit→Env→Nat→T)→T
 | 0,_,_,_,_,_,_,_=>T.fail
 | fu+1,c,t,l,r,e,lv,κ =>
  match ea l t with
  | true=>Dw (cU c) e lv fun e'' k=>jt P n cuts fu c r e'' (lv+1) (some l) k κ
  | false=>match t with
   | .seq a b=>match findLabel a l with
    | some _=>T.fail
    | none=>ep P n cuts fu a e lv fun x e' lv'=>match x with
     | .normal=>sH P n cuts fu c b l r e' lv' κ
     | .goto _=>T.fail
     | x=>κ x e' lv'
   | _=>T.fail
end
def wK (P:Program):List ResultVar→Env→(List Value→T)→T
 | [],_,k=>k []
 | .tmp t::rs,e,k=>bo e (.tmp t) fun v=>wK P rs e fun l=>k (v::l)
 | .cell a t::rs,e,k=>bo e (.tmp a) fun p=>match p,cC P t with
  | .pointer p,some true=>bif (fz P 9 t).length==P.cellsOf t then T.av p fun a=>T.ae a (fz P 9 t) (cj _ fun l=>wK P rs e fun l'=>k (.agg l.toArray::l')) else T.fail
  | .pointer p,some false=>T.av p fun a=>T.ae a (cL P t).2 (cj _ fun l=>wK P rs e fun l'=>k (l.headD undef::l'))
  | _,_=>T.fail
def one (l:List Value):Value :=
 match l with
 | [v]=>v
 | l=>.tuple l.toArray
def Ca:Nat→List Value→Env
 | _,[]=>[]
 | i,v::vs=>(i,some v)::Ca (i+1) vs
def aV (P:Program) (cuts:List Nat) (fn:Func) (args:List Value):T :=
 match fn.body with
 | none=>T.fail
 | some c=>ep P fn.ntmps cuts 100000 c (Ca 0 args) 0 fun x e _=>match x with
  | .normal=>wK P fn.results.toList e fun l=>T.ret (one l)
  | .ret=>wK P fn.results.toList e fun l=>T.ret (one l)
  | _=>T.fail
end Go.Sx
