/- A framework of our own, part X: from code to trees. No condition. -/
import Derived.Test.YtfkjiiapldkoeaaGreatDoorSxT
set_option linter.unusedVariables false
set_option linter.unusedSimpArgs false
set_option linter.deprecated false
namespace Go.Sx
abbrev Env:=List (Nat × Option Value)
def bH:Env→Nat→Option Value
 | [],_=>none
 | (s,v)::e,t=>bif Nat.beq s t then v else bH e t
def dB (n:Nat) (e:Env) (dst:Option Tmp) (v:Value):Env :=
 match dst with
 | none=>e
 | some d=>bif Nat.blt d n then (d,some v)::e else e
def ev (e:Env):Operand→Option Value
 | .tmp t=>bH e t
 | .const v=>some v
 | .global g=>some (.pointer (some ⟨g,0,none⟩))
 | .func f=>some (.func (.func f) #[] #[])
namespace T
def au (p:Option Addr) (k:Addr→T):T :=
 match p with
 | some a=>k a
 | none=>T.fail
end T
def ft (P:Program):Nat→TypeId→List TypeDesc
 | 0,_=>[.invalid]
 | n+1,t =>
  match P.underlying t with
  | some (.struct fs)=>fs.toList.flatMap fun f=>ft P n f.type
  | some (.array k e)=>(List.replicate k (ft P n e)).flatten
  | some d=>[d]
  | none=>[.invalid]
def cB (P:Program) (t:TypeId):gw :=
 match P.underlying t with
 | some (.struct _)=>(true,ft P 9 t)
 | some (.array _ _)=>(true,ft P 9 t)
 | some d=>(false,[d])
 | none=>(false,[.invalid])
def td (P:Program) (t:TypeId):Bool × List gw :=
 match P.underlying t with
 | some (.tuple ts)=>(true,ts.toList.map (cB P))
 | _=>(false,[cB P t])
def Cq (b:Bool):List gw :=
 match b with
 | true=>[(false,[.int .i64]),(false,[.int .i32])]
 | false=>[(false,[.string]),(false,[.bool])]
def bd (e:Env) (x:Operand) (k:Value→T):T :=
 match ev e x with
 | some v=>k v
 | none=>T.fail
def fX (e:Env):List Operand→(List Value→T)→T
 | [],k=>k []
 | x::xs,k=>bd e x fun v=>fX e xs fun l=>k (v::l)
def bV (s:ByteArray) (n:Int):Int:=((s.data.toList.getD n.toNat 0).toNat:Nat)
def EC (op:BinOp) (k:IntKind) (x y:Int):Int :=
 match op with
 | .and=>k.wrap (BitVec.ofInt k.bits x &&& BitVec.ofInt k.bits y).toNat
 | .or=>k.wrap (BitVec.ofInt k.bits x ||| BitVec.ofInt k.bits y).toNat
 | .xor=>k.wrap (BitVec.ofInt k.bits x ^^^ BitVec.ofInt k.bits y).toNat
 | _=>k.wrap (BitVec.ofInt k.bits x &&& ~~~ BitVec.ofInt k.bits y).toNat
def Gw (op:BinOp) (k:IntKind) (m n:Int) (kk:Value→T):T :=
 match op with
 | .add=>kk (.int k (k.wrap (m+n)))
 | .sub=>kk (.int k (k.wrap (m-n)))
 | .mul=>kk (.int k (k.wrap (m*n)))
 | .quo=>T.need (n≠0) (kk (.int k (k.wrap (m.tdiv n))))
 | .rem=>T.need (n≠0) (kk (.int k (m.tmod n)))
 | .eql=>kk (.bool (m==n))
 | .neq=>kk (.bool (m != n))
 | .lss=>kk (.bool (decide (m<n)))
 | .leq=>kk (.bool (decide (m≤n)))
 | .gtr=>kk (.bool (decide (m>n)))
 | .geq=>kk (.bool (decide (m≥n)))
 | .and=>kk (.int k (EC .and k m n))
 | .or=>kk (.int k (EC .or k m n))
 | .xor=>kk (.int k (EC .xor k m n))
 | .andNot=>kk (.int k (EC .andNot k m n))
 | _=>T.fail
def ux (op:BinOp) (k:IntKind) (m n:Int) (kk:Value→T):T :=
 match op with
 | .shl=>T.need (0≤n) (kk (.int k (k.wrap (m*2^(min n.toNat k.bits)))))
 | .shr=>T.need (0≤n) (kk (.int k (m.fdiv (2^(min n.toNat k.bits)))))
 | _=>T.fail
def EK (op:BinOp) (x y:ByteArray) (kk:Value→T):T :=
 match op with
 | .add=>T.need (((x.size+y.size:Nat):Int)≤IntKind.i64.max) (kk (.string (x++y)))
 | .eql=>kk (.bool (x.toList==y.toList))
 | .neq=>kk (.bool !(x.toList==y.toList))
 | .lss=>kk (.bool (Op.bytesLess x.toList y.toList))
 | .leq=>kk (.bool (Op.bytesLess x.toList y.toList || x.toList==y.toList))
 | .gtr=>kk (.bool !(Op.bytesLess x.toList y.toList || x.toList==y.toList))
 | .geq=>kk (.bool !(Op.bytesLess x.toList y.toList))
 | _=>T.fail
def kK:BinOp→Bool
 | .shl=>true
 | .shr=>true
 | _=>false
def isNil (x:Operand):Bool :=
 match x with
 | .const (.pointer none)=>true
 | .const (.slice none 0 0)=>true
 | .const (.map none)=>true
 | _=>false
def bJ (op:BinOp) (t:TypeId) (x y:Operand) (a b:Value):Sem Value:=do eqGuard op t x y a b; binOp op t a b
def Ko (P:Program) (op:BinOp) (t:TypeId) (x y:Operand) (a b:Value) (kk:Value→T):T :=
 T.aV P (bJ op t x y a b) false [(false,[.bool])] fun r=>kk (.bool r)
def asked (op:BinOp) (b:Bool) (kk:Value→T) (other:T):T :=
 match op with
 | .eql=>kk (.bool b)
 | .neq=>kk (.bool !b)
 | _=>other
def rn (P:Program) (t:TypeId) (x y:Operand):Bool :=
 match P.underlying t with
 | some (.int _)=>true
 | some .string=>true
 | some .bool=>true
 | some (.pointer _)=>isNil y
 | some (.slice _)=>isNil y
 | some (.map _ _)=>isNil y
 | _=>false
def zt (P:Program) (op:BinOp) (t:TypeId) (a b:Value) (kk:Value→T):T :=
 match a,b with
 | .int k m,.int k' n =>
  match kK op with
  | true=>ux op k m n kk
  | false=>match decide (k=k') with
   | true=>Gw op k m n kk
   | false=>T.fail
 | .string m,.string n=>EK op m n kk
 | .bool m,.bool n =>
  match P.underlying t with
  | some .bool=>asked op (m==n) kk T.fail
  | _=>T.fail
 | .pointer p,.pointer _ =>
  match P.underlying t with
  | some (.pointer _)=>asked op p.isNone kk T.fail
  | _=>T.fail
 | .slice p _ _,.slice _ _ _ =>
  match P.underlying t with
  | some (.slice _)=>asked op p.isNone kk T.fail
  | _=>T.fail
 | .map p,.map _ =>
  match P.underlying t with
  | some (.map _ _)=>asked op p.isNone kk T.fail
  | _=>T.fail
 | _,_=>T.fail
def D5 (P:Program) (op:BinOp) (t:TypeId) (x y:Operand) (a b:Value) (kk:Value→T):T :=
 match rn P t x y with
 | true=>zt P op t a b kk
 | false=>Ko P op t x y a b kk
def JG (op:UnOp) (a:Value) (kk:Value→T):T :=
 match op,a with
 | .neg,.int k n=>kk (.int k (k.wrap (0-n)))
 | .xor,.int k n=>kk (.int k (EC .xor k (if k.signed then -1 else k.max) n))
 | .not,.bool b=>kk (.bool !b)
 | _,_=>T.fail
def zB (P:Program) (src dst:TypeId) (a:Value) (kk:Value→T):T :=
 match P.underlying src,P.underlying dst,a with
 | some (.int _),some (.int k),.int _ n=>kk (.int k (k.wrap n))
 | some .string,some .string,.string s=>kk (.string s)
 | some .string,some .string,_=>T.fail
 | _,some (.slice _),_=>T.aV P (convert src dst a) false [(false,[.slice 0])] fun p l c=>kk (.slice p l c)
 | _,some .string,_=>T.aV P (convert src dst a) false [(false,[.string])] fun s=>kk (.string s)
 | _,_,_=>T.fail
def sT:Option Value→Int
 | some (.int _ n)=>n
 | _=>0
def gk:Option Value→Bool
 | some (.int _ _)=>true
 | none=>true
 | _=>false
def pX (d:Int):Option Value→Int
 | some (.int _ n)=>n
 | _=>d
def oT (P:Program) (t:TypeId):Bool:=(P.info? t).isSome
def iJ (P:Program) (t:TypeId) (a:Value) (lo hi mx:Option Value) (kk:Value→T):T :=
 match gk lo && gk hi && gk mx with
 | false=>T.fail
 | true =>
  match P.underlying t with
  | some .string=>match a,mx with
   | .string s,none =>
    T.need (0≤sT lo∧sT lo≤pX s.size hi∧pX s.size hi≤s.size) (kk (.string (s.extract (sT lo).toNat (pX s.size hi).toNat)))
   | _,_=>T.fail
  | some (.slice e)=>match mx with
   | some _=>T.aV P (Instr.sliceAt t a lo hi mx) false [(false,[.slice 0])] fun p l c=>kk (.slice p l c)
   | none=>match a with
    | .slice p len cap =>
     match oT P e with
     | false=>T.fail
     | true=>T.need (0≤sT lo∧sT lo≤pX len hi∧pX len hi≤cap) (kk (.slice (if cap=(sT lo).toNat then p else p.map (·.add ((sT lo).toNat*P.cellsOf e))) ((pX len hi).toNat-(sT lo).toNat) (cap-(sT lo).toNat)))
    | _=>T.fail
  | _=>T.aV P (Instr.sliceAt t a lo hi mx) false [(false,[.slice 0])] fun p l c=>kk (.slice p l c)
def uN (P:Program) (t:TypeId) (cs:List Value) (off:Nat) (kk:Value→T):T :=
 match P.underlying t with
 | some (.struct _)=>kk (.agg ((cs.drop off).take (P.cellsOf t)).toArray)
 | some (.array _ _)=>kk (.agg ((cs.drop off).take (P.cellsOf t)).toArray)
 | some _=>match cs[off]? with
  | some v=>kk v
  | none=>T.fail
 | none=>T.fail
def bY (P:Program) (t:TypeId):Option Bool :=
 match P.underlying t with
 | some (.struct _)=>some true
 | some (.array _ _)=>some true
 | some _=>some false
 | none=>none
def kA:Value→List Value
 | .agg cs=>cs.toList
 | _=>[]
def ep:Value→Bool
 | .agg _=>true
 | _=>false
def fI (P:Program) (f:FuncId):Bool :=
 match P.funcs[f]? with
 | some fn => fn.body.isSome && !(fn.name == "runtime.NumGoroutine")
 | none=>false
def Fm:Operand→Bool
 | .tmp _=>true
 | .const _=>false
 | .global _=>false
 | .func _=>false
def Ga (f:FuncId) (args:Array Value):Sem Value:=do
 match ← callFunc f args with
 | .value v=>pure v
 | _ => stuck "no value"
def Cg (P:Program) (f:FuncId) (args:List Value) (t:TypeId) (kk:Value→T):T :=
 match fI P f with
 | true=>T.call P f args (td P t).1 (td P t).2 (bS _ fun l=>kk (rv (td P t).1 (td P t).2 l))
 | false=>T.aV P (Ga f args.toArray) (td P t).1 (td P t).2 (bS _ fun l=>kk (rv (td P t).1 (td P t).2 l))
def Dd (P:Program) (c:Call) (t:TypeId) (args:List Value) (kk:Value→T):T :=
 match (c.argTypes[0]?).bind P.underlying with
 | some .string=>match args with
  | [.string s]=>kk (.int .i64 s.size)
  | _=>T.fail
 | some (.slice _)=>match args with
  | [.slice _ n _]=>kk (.int .i64 n)
  | _=>T.fail
 | _=>T.aV P (Builtin.len_ c.argTypes t args.toArray) false [(false,[.int .i64])] fun n=>kk (.int .i64 n)
def DV (P:Program) (c:Call) (args:List Value) (kk:Value→T):T :=
 match (c.argTypes[0]?).bind P.underlying with
 | some (.slice _)=>match args with
  | [.slice _ _ n]=>kk (.int .i64 n)
  | _=>T.fail
 | _=>T.fail
def qj (P:Program) (b:Builtin) (c:Call) (t:TypeId) (args:List Value) (kk:Value→T):T :=
 match b,args with
 | .len,_=>Dd P c t args kk
 | .cap,_=>DV P c args kk
 | .append,_=>T.aV P (Builtin.append_ c.argTypes t args.toArray) false [(false,[.slice 0])] fun p l cp=>kk (.slice p l cp)
 | .copy,_=>T.aV P (Builtin.copy_ c.argTypes t args.toArray) false [(false,[.int .i64])] fun n=>kk (.int .i64 n)
 | .min,_=>T.aV P (Builtin.min_ c.argTypes t args.toArray) false [cB P t] (bS _ fun l=>kk (rv false [cB P t] l))
 | .max,_=>T.aV P (Builtin.max_ c.argTypes t args.toArray) false [cB P t] (bS _ fun l=>kk (rv false [cB P t] l))
 | .delete,_=>T.aV P (Builtin.delete_ c.argTypes t args.toArray) true [] (kk (.tuple #[]))
 | .unsafeString,_=>T.aV P (Builtin.unsafeString_ c.argTypes t args.toArray) false [cB P t] (bS _ fun l=>kk (rv false [cB P t] l))
 | .unsafeSliceData,_=>T.aV P (Builtin.unsafeSliceData_ c.argTypes t args.toArray) false [cB P t] (bS _ fun l=>kk (rv false [cB P t] l))
 | _,_=>T.fail
def KJ (P:Program) (t:TypeId) (lo hi mx:Option Operand) (a:Value) (vs:List Value) (kk:Value→T):T :=
 match lo,hi,mx,vs with
 | none,none,none,[]=>iJ P t a none none none kk
 | some _,none,none,[l]=>iJ P t a (some l) none none kk
 | none,some _,none,[h]=>iJ P t a none (some h) none kk
 | some _,some _,none,[l,h]=>iJ P t a (some l) (some h) none kk
 | some _,some _,some _,[l,h,m]=>iJ P t a (some l) (some h) (some m) kk
 | none,some _,some _,[h,m]=>iJ P t a none (some h) (some m) kk
 | _,_,_,_=>T.fail
def yM (P:Program) (t:TypeId) (v i:Value) (kk:Value→T):T :=
 match v,i,P.underlying t with
 | .slice p len _,.int _ n,some (.slice el)=>bif !oT P el then T.fail else T.need (0≤n∧n<len) (T.au p fun a=>kk (.pointer (some (a.add (n.toNat*P.cellsOf el)))))
 | .pointer p,.int _ n,some (.array len el)=>bif !oT P el then T.fail else T.need (0≤n∧n<len) (T.au p fun a=>kk (.pointer (some (a.add (n.toNat*P.cellsOf el)))))
 | _,_,_=>T.fail
def Fk (P:Program) (t:TypeId) (v i:Value) (kk:Value→T):T :=
 match v,i,P.underlying t with
 | .string s,.int _ n,some .string=>T.need (0≤n∧n<s.size) (kk (.int .u8 (bV s n)))
 | v,i,some (.array len el)=>T.aV P (Instr.index t v i) false [cB P el] (bS _ fun l=>kk (rv false [cB P el] l))
 | _,_,_=>T.fail
def D3 (xs:List Value):Nat→List Value→List Value
 | _,[]=>xs
 | i,v::vs=>D3 (xs.set i v) (i+1) vs
def gX (place:Nat→Option (Nat × Nat)) (cells:List Value):List (Nat × List Value)→Option (List Value)
 | []=>some cells
 | (i,l)::rest =>
  match place i with
  | none=>none
  | some (off,size)=>bif !(Nat.beq l.length size) || Nat.blt cells.length (off+l.length) then none else gX place (D3 cells off l) rest
def ff (agg:Nat→Option Bool):List (Nat × Value)→(List (Nat × List Value)→T)→T
 | [],k=>k []
 | (i,v)::l,k =>
  match agg i with
  | some true=>cond (ep v) (ff agg l fun r=>k ((i,kA v)::r)) T.fail
  | some false=>cond (ep v) T.fail (ff agg l fun r=>k ((i,[v])::r))
  | none=>T.fail
def tG (P:Program) (o:Oper) (e:Env) (kk:Value→T):T :=
 match o.op with
 | .move x=>bd e x kk
 | .assign x=>bd e x kk
 | .pick c a b=>bd e c fun c=>match c with
  | .bool b'=>cond b' (bd e a kk) (bd e b kk)
  | _=>T.fail
 | .alloc t=>match (P.info? t).bind (·.zero) with
  | some z=>T.new z.cells.toList t fun a=>kk (.pointer (some a))
  | none=>T.fail
 | .box t x=>bd e x fun v=>match bY P t with
  | some true=>cond (ep v) (T.new (kA v) t fun a=>kk (.pointer (some a))) T.fail
  | some false=>cond (ep v) T.fail (T.new [v] t fun a=>kk (.pointer (some a)))
  | none=>T.fail
 | .build t ps=>fX e (ps.toList.map (·.2)) fun vs=>match P.underlying t,(P.info? t).bind (·.zero) with
  | some (.struct fs),some z =>
   bif !(fs.all fun f=>oT P f.type) then T.fail else ff (fun i=>(fs[i]?).bind fun f=>bY P f.type) ((ps.toList.map (·.1)).zip vs) fun ls=>match gX (((fs.map fun f=>(f.offset,P.cellsOf f.type)))[·]?) z.cells.toList ls with
   | some cs=>kk (.agg cs.toArray)
   | none=>T.fail
  | some (.array _ el),some z =>
   bif !oT P el then T.fail else ff (fun _=>bY P el) ((ps.toList.map (·.1)).zip vs) fun ls=>match gX (fun i=>some (i*P.cellsOf el,P.cellsOf el)) z.cells.toList ls with
   | some cs=>kk (.agg cs.toArray)
   | none=>T.fail
  | _,_=>T.fail
 | .buildSlice t len ps=>fX e (ps.toList.map (·.2)) fun vs =>
  T.aV P (Instr.buildSlice t len ((ps.toList.map (·.1)).zip vs).toArray) false [(false,[.slice 0])] fun p l c=>kk (.slice p l c)
 | .load t x=>bd e x fun v=>match v,bY P t with
  | .pointer p,some true=>bif (ft P 9 t).length==P.cellsOf t then T.au p fun a=>T.ae a (ft P 9 t) (bS _ fun l=>kk (.agg l.toArray)) else T.fail
  | .pointer p,some false=>T.au p fun a=>T.ae a (cB P t).2 (bS _ fun l=>kk (l.headD undef))
  | _,_=>T.fail
 | .store t x y=>bd e x fun p=>bd e y fun v=>match p,bY P t with
  | .pointer p,some true=>cond (ep v) (bif (kA v).length==P.cellsOf t then T.au p fun a=>T.ap a (kA v) (kk undef) else T.fail) T.fail
  | .pointer p,some false=>bif P.cellsOf t==1 then cond (ep v) T.fail (T.au p fun a=>T.ap a [v] (kk undef)) else T.fail
  | _,_=>T.fail
 | .nilCheck x=>bd e x fun v=>match v with
  | .pointer p=>T.au p fun a=>kk (.pointer (some a))
  | .func (.func f) fi ca=>kk (.func (.func f) fi ca)
  | .iface t v=>kk (.iface t v)
  | _=>T.fail
 | .binOp op t x y _=>bd e x fun a=>bd e y fun b=>D5 P op t x y a b kk
 | .unOp op _ x=>bd e x fun a=>JG op a kk
 | .convert s d x=>bd e x fun a=>zB P s d a kk
 | .makeInterface t x=>bd e x fun a=>match P.underlying t with
  | some (.interface _)=>T.fail
  | some _=>kk (.iface t a)
  | none=>T.fail
 | .makeFunc fn fi ca=>fX e fi.toList fun fi=>fX e ca.toList fun ca=>kk (.func fn fi.toArray ca.toArray)
 | .makeMap t none=>T.aV P (Instr.makeMap t none) false [(false,[.map 0 0])] fun r=>kk (.map r)
 | .makeSlice t l c=>bd e l fun l=>bd e c fun c=>T.aV P (Instr.makeSlice t l c) false [(false,[.slice 0])] fun p l c=>kk (.slice p l c)
 | .slice t x lo hi mx=>bd e x fun a=>fX e (lo.toList++hi.toList++mx.toList) fun vs=>KJ P t lo hi mx a vs kk
 | .fieldAddr s x f=>bd e x fun v=>match v,P.underlying s with
  | .pointer p,some (.struct fs)=>match fs[f]? with
   | some fd=>match P.cellsOf fd.type with
    | 0=>T.fail
    | _+1=>T.au p fun a=>kk (.pointer (some (a.add fd.offset)))
   | none=>T.fail
  | _,_=>T.fail
 | .field s x f=>bd e x fun v=>match v,P.underlying s with
  | .agg cs,some (.struct fs)=>match fs[f]? with
   | some fd=>uN P fd.type cs.toList fd.offset kk
   | none=>T.fail
  | _,_=>T.fail
 | .indexAddr t x i=>bd e x fun v=>bd e i fun i=>yM P t v i kk
 | .index t x i=>bd e x fun v=>bd e i fun i=>Fk P t v i kk
 | .lookup t m x ok=>bd e m fun m=>bd e x fun x=>match P.underlying t with
  | some (.map _ el)=>match ok with
   | true=>T.aV P (Instr.lookup t m x true) true [cB P el,(false,[.bool])] (bS _ fun l=>kk (rv true [cB P el,(false,[.bool])] l))
   | false=>T.aV P (Instr.lookup t m x false) false [cB P el] (bS _ fun l=>kk (rv false [cB P el] l))
  | _=>T.fail
 | .mapUpdate t m x v=>bd e m fun m=>bd e x fun x=>bd e v fun v=>T.lI P (Instr.mapUpdate t m x v) (kk undef)
 | .insert t m x v=>bd e m fun m=>bd e x fun x=>bd e v fun v=>T.lI P (Instr.mapUpdate t m x v) (kk undef)
 | .mapEntry t m x=>bd e m fun m=>bd e x fun x=>match P.underlying t with
  | some (.map _ el)=>T.aV P (Instr.mapEntry t m x) true [cB P el,(false,[.int .i64])] (bS _ fun l=>kk (rv true [cB P el,(false,[.int .i64])] l))
  | _=>T.fail
 | .entryStore t m x v=>bd e m fun m=>bd e x fun x=>bd e v fun v=>T.lI P (Instr.entryStore t m x v) (kk undef)
 | .range t x=>bd e x fun x=>T.aV P (Instr.range t x) false [(false,[.pointer 0])] fun p=>kk (.pointer p)
 | .next it b=>bd e it fun it=>match P.underlying o.type with
  | some (.tuple ts)=>match ts.toList with
   | []=>T.next P (Instr.next it b o.type) (Cq b) (kk (.tuple #[.bool false])) (bS _ fun l=>kk (.tuple (.bool true::parts (Cq b) l).toArray))
   | _::ts=>T.next P (Instr.next it b o.type) (ts.map (cB P)) (kk (.tuple #[.bool false])) (bS _ fun l=>kk (.tuple (.bool true::parts (ts.map (cB P)) l).toArray))
  | _=>T.fail
 | .entry it=>bd e it fun it=>T.aV P (Instr.entry it) true (Cq false) (bS _ fun l=>kk (rv true (Cq false) l))
 | .typeAssert x t d ok=>bd e x fun x=>match ok with
  | true=>T.aV P (Instr.typeAssert x t d true) true [cB P d,(false,[.bool])] (bS _ fun l=>kk (rv true [cB P d,(false,[.bool])] l))
  | false=>T.aV P (Instr.typeAssert x t d false) false [cB P d] (bS _ fun l=>kk (rv false [cB P d] l))
 | .extract x i=>bd e x fun v=>match v with
  | .tuple vs=>match vs.toList[i]? with
   | some v=>kk v
   | none=>T.fail
  | _=>T.fail
 | .call c=>match c.callee with
  | .builtin b=>fX e c.args.toList fun vs=>qj P b c o.type vs kk
  | .value g=>match Fm g with
   | true=>bd e g fun g=>fX e c.args.toList fun vs=>T.qH P g vs (td P o.type).1 (td P o.type).2 (bS _ fun l=>kk (rv (td P o.type).1 (td P o.type).2 l))
   | false=>bd e g fun g=>fX e c.args.toList fun vs=>match g with
    | .func (.func f) fi ca=>Cg P f (fi.toList++vs++ca.toList) o.type kk
    | .func (.method _) _ _=>T.fail
    | .func (.methodOf _ _) _ _=>T.fail
    | .func (.via _ _ _ _) _ _=>T.fail
    | .func (.yield _) _ _=>T.fail
    | .nilFunc=>T.fail
    | .bool _=>T.fail
    | .int _ _=>T.fail
    | .float _ _=>T.fail
    | .complex _ _ _=>T.fail
    | .string _=>T.fail
    | .pointer _=>T.fail
    | .slice _ _ _=>T.fail
    | .map _=>T.fail
    | .chan _=>T.fail
    | .iface _ _=>T.fail
    | .nilIface=>T.fail
    | .agg _=>T.fail
    | .tuple _=>T.fail
  | .invoke _ _=>T.fail
 | _=>T.fail
def guardOf (ops:Array Oper) (o:Oper):Option (Option Tmp × Bool) :=
 match o.guard with
 | none=>none
 | some (j,want)=>some ((ops[j]?).bind (·.dst),want)
def mc (n:Nat) (ops:Array Oper) (o:Oper) (e:Env) (yes no:Env→T):T :=
 match guardOf ops o with
 | none=>yes e
 | some (none,_)=>no e
 | some (some d,want) =>
  match bH e d with
  | some (.bool b)=>match want with
   | true=>cond b (yes (dB n e (some d) (.bool true))) (no (dB n e (some d) (.bool false)))
   | false=>cond b (no (dB n e (some d) (.bool true))) (yes (dB n e (some d) (.bool false)))
  | some (.tuple _)=>no e
  | _=>T.fail
def DT (P:Program) (n:Nat) (ops:Array Oper):List Oper→Env→(Env→T)→T
 | [],e,k=>k e
 | o::rest,e,k=>mc n ops o e (fun e=>tG P o e fun v=>DT P n ops rest (dB n e o.dst v) k) (fun e=>DT P n ops rest (dB n e o.dst undef) k)
def mH (P:Program) (o:Oper):Bool :=
 match o.op with
 | .move _=>true
 | .pick _ _ _=>true
 | .build _ _=>true
 | .nilCheck _=>true
 | .binOp _ t x y _=>rn P t x y
 | .unOp _ _ _=>true
 | .convert s d _=>match P.underlying s,P.underlying d with
  | some (.int _),some (.int _)=>true
  | some .string,some .string=>true
  | _,_=>false
 | .makeInterface _ _=>true
 | .makeFunc _ _ _=>true
 | .slice t _ _ _ none=>match P.underlying t with
  | some .string=>true
  | some (.slice _)=>true
  | _=>false
 | .fieldAddr _ _ _=>true
 | .field _ _ _=>true
 | .indexAddr _ _ _=>true
 | .index t _ _=>match P.underlying t with
  | some .string=>true
  | _=>false
 | .extract _ _=>true
 | .call c=>match c.callee with
  | .builtin .len=>match (c.argTypes[0]?).bind P.underlying with
   | some .string=>true
   | some (.slice _)=>true
   | _=>false
  | .builtin .cap=>match (c.argTypes[0]?).bind P.underlying with
   | some (.slice _)=>true
   | _=>false
  | _=>false
 | _=>false
def tX (o:Oper):Bool :=
 match o.op with
 | .load _ _=>true
 | _=>false
def calm (P:Program) (o:Oper):Bool:=mH P o || tX o
def qv (x:Nat):List Nat→Bool
 | []=>false
 | y::l=>Nat.beq x y || qv x l
def waits (o:Oper):List Nat:=(o.after.toList.filter fun e=>Region.binds .any e).map (·.on)
def rJ (D:List Nat) (i:Nat) (o:Oper):Bool:=!qv i D && (waits o).all fun j=>qv j D
def looks (ops : Array Oper) (o : Oper) : List Nat :=
  (o.op.operands.toList.filterMap fun | .tmp t => some t | _ => none) ++
  (match o.guard with
   | some (g, _) => ((ops[g]?).bind (·.dst)).toList
   | none => [])
def jt:Option Nat→Nat→Bool
 | some d,s=>Nat.beq d s
 | none,_=>false
def Bl (P : Program) (ops : Array Oper) (i j : Nat) (x y : Oper) : Bool :=
  match Nat.beq i j with
  | true => (match x.dst with
    | some d => !calm P x || !qv d (looks ops x)
    | none => true)
  | false => (match y.dst with
    | some d => !qv d (looks ops x) || qv j (waits x) || (qv i (waits y) && !calm P y)
    | none => true) &&
   (match x.dst, calm P x with
    | some d, true => !jt y.dst d
    | _, _ => true)
def idx:Nat→List Oper→List (Nat × Oper)
 | _,[]=>[]
 | i,o::l=>(i,o)::idx (i+1) l
def dq (P : Program) (n : Nat) (ops : Array Oper) : Bool :=
  ((idx 0 ops.toList).all fun p => match p.2.dst with
    | some d => Nat.blt d n
    | none => true) && (idx 0 ops.toList).all fun p => (idx 0 ops.toList).all fun q => Bl P ops p.1 q.1 p.2 q.2
abbrev Made:=List (Nat × Addr × List Value)
def np (o:Oper):Made→List (Addr × List Value)
 | []=>[]
 | (i,a,l)::m=>bif qv i (waits o) then np o m else (a,l)::np o m
def yd (l:List (Addr × List Value)) (t:T):T :=
 match l with
 | []=>t
 | p::l=>T.aO (p::l) t
def Kf:List T→T
 | []=>T.fail
 | [t]=>t
 | t::ts=>T.all (t::ts)
def oO (P:Program) (t:TypeId) (x:Operand) (e:Env) (kk:Addr→List Value→Value→T):T :=
 bd e x fun v=>match v,bY P t with
  | .pointer p,some true=>bif (ft P 9 t).length==P.cellsOf t then T.au p fun a=>T.ae a (ft P 9 t) (bS _ fun l=>kk a l (.agg l.toArray)) else T.fail
  | .pointer p,some false=>T.au p fun a=>T.ae a (cB P t).2 (bS _ fun l=>kk a l (l.headD undef))
  | _,_=>T.fail
def cg (P:Program) (D:List Nat) (c:Bool):List (Nat × Oper)→List (Nat × Oper)
 | []=>[]
 | p::l=>match rJ D p.1 p.2 && (calm P p.2==c) with
  | true=>p::cg P D c l
  | false=>cg P D c l
def gN (P:Program) (n:Nat) (ops:Array Oper):Nat→List Nat→Env→Made→(Env→T)→T
 | 0,_,_,_,_=>T.fail
 | fu+1,D,e,m,k =>
  match cg P D true (idx 0 ops.toList) with
  | (i,o)::_ =>
   mc n ops o e (fun e=>match o.op with
    | .load t x=>oO P t x e fun a l v=>gN P n ops fu (i::D) (dB n e o.dst v) ((i,a,l)::m) k
    | _=>tG P o e fun v=>gN P n ops fu (i::D) (dB n e o.dst v) m k)
    fun e=>gN P n ops fu (i::D) (dB n e o.dst undef) m k
  | [] =>
   match cg P D false (idx 0 ops.toList) with
   | []=>k e
   | q::qs=>Kf ((q::qs).map fun p=>mc n ops p.2 e (fun e=>tG P p.2 e fun v=>yd (np p.2 m) (gN P n ops fu (p.1::D) (dB n e p.2.dst v) m k))
     fun e=>gN P n ops fu (p.1::D) (dB n e p.2.dst undef) m k)
def tz (P:Program) (n:Nat) (_id:Nat) (ops:Array Oper) (e:Env) (k:Env→T):T :=
 match dq P n ops with
 | true=>gN P n ops (ops.size+1) [] e [] k
 | false=>T.fail
def cF:Code→List Nat
 | .region _ ops _=>ops.toList.filterMap (·.dst)
 | .seq a b=>cF a++cF b
 | .cond _ a b=>cF a++cF b
 | .block _ c=>cF c
 | .loop c=>cF c
 | .scope c=>cF c
 | .rangeFunc _ ps a b=>ps.toList++cF a++cF b
 | _=>[]
def nP (x:Nat):List Nat→List Nat
 | []=>[x]
 | y::l=>bif Nat.blt x y then x::y::l else bif Nat.beq x y then y::l else y::nP x l
def cj (l:List Nat):List Nat:=l.foldl (fun acc x=>nP x acc) []
def Iy:Value→TypeDesc
 | .bool _=>.bool
 | .int k _=>.int k
 | .string _=>.string
 | .pointer _=>.pointer 0
 | .slice _ _ _=>.slice 0
 | .map _=>.map 0 0
 | _=>.invalid
def GH:Value→gw
 | .agg cs=>(true,cs.toList.map Iy)
 | v=>(false,[Iy v])
def live (e:Env):List Nat→List (Nat × Value)
 | []=>[]
 | s::l=>match bH e s with
  | some v=>(s,v)::live e l
  | none=>live e l
def forget (e:Env) (l:List Nat):Env:=l.map (fun s=>(s,none))++e
def jF (l:List Nat) (vs:List Value):Env:=(l.zip vs).map fun p=>(p.1,some p.2)
def vA (e:Env):List Nat→(List Value→T)→T
 | [],k=>k []
 | s::l,k=>match bH e s with
  | some v=>vA e l fun vs=>k (v::vs)
  | none=>T.fail
def Cf (ms:List Nat) (e:Env) (lv:Nat) (body:Env→(Env→T)→T):T :=
 let lvs:=live e (cj ms)
 let ss:=lvs.map (·.1)
 let cs:=lvs.map fun p=>GH p.2
 T.loop cs (lvs.map (·.2)) (bS (flat cs) fun l=>body (jF ss (parts cs l)++forget e (cj ms)) fun e'=>vA e' ss fun vs=>T.again lv vs)
def gB (l:Nat):Code→Bool
 | .goto l'=>Nat.beq l l'
 | .seq a b=>gB l a || gB l b
 | .cond _ a b=>gB l a || gB l b
 | .block _ c=>gB l c
 | .loop c=>gB l c
 | .scope c=>gB l c
 | .rangeFunc _ _ a b=>gB l a || gB l b
 | _=>false
def labels:Code→List Nat
 | .label l=>[l]
 | .seq a b=>labels a++labels b
 | _=>[]
def xP (c:Code):Option Nat :=
 (labels c).find? fun l=>match findLabel c l with
  | some r=>gB l r
  | none=>false
def IB:Code→Nat→Code
 | .seq a b,l=>match findLabel a l with
  | some _=>IB a l
  | none=>.seq a (IB b l)
 | _,_=>.skip
def Ei (ss:List Nat) (cs:List gw) (ms:List Nat) (e:Env) (lv:Nat) (first:(Env→T)→T) (after:Env→T):T :=
 T.join cs (first fun e'=>vA e' ss fun vs=>T.again lv vs) (bS (flat cs) fun l=>after (jF ss (parts cs l)++forget e (cj ms)))
def gF:Code→Option Nat
 | .region id _ _=>some id
 | .seq a b=>match gF a with
  | some i=>some i
  | none=>gF b
 | .cond _ a _=>gF a
 | .block _ c=>gF c
 | .loop c=>gF c
 | .scope c=>gF c
 | _=>none
def CL (cuts:List Nat):Option Nat→Nat→Bool
 | some i,k=>qv (i+k) cuts
 | none,_=>false
def handsOn (P:Program):List Oper→List (Nat × gw)
 | []=>[]
 | [o]=>match o.dst with
  | some d=>[(d,cB P o.type)]
  | none=>[]
 | o::l=>match o.op,o.dst with
  | .assign _,some d=>(d,cB P o.type)::handsOn P l
  | _,_=>handsOn P l
def dS (l:Nat):Code→Bool
 | .label l'=>Nat.beq l l'
 | .seq a _=>dS l a
 | _=>false
def dstsOf (ops:Array Oper):List Nat:=ops.toList.filterMap (·.dst)
mutual
def ec (P:Program) (n:Nat) (cuts:List Nat):Nat→Code→Env→Nat→(Exit→Env→Nat→T)→T
 | 0,_,_,_,_=>T.fail
 | fu+1,c,e,lv,κ =>
  match c with
  | .skip=>κ .normal e lv
  | .label _=>κ .normal e lv
  | .exit i=>κ (.exit i) e lv
  | .goto l=>κ (.goto l) e lv
  | .ret=>κ .ret e lv
  | .seq a b =>
   match CL cuts (gF b) 1000 with
   | false=>ec P n cuts fu a e lv fun x e' lv'=>match x with
    | .normal=>ec P n cuts fu b e' lv' κ
    | x=>κ x e' lv'
   | true =>
    Ei ((live e (cj (cF a))).map (·.1)) ((live e (cj (cF a))).map fun p=>GH p.2) (cF a) e lv
     (fun k=>ec P n cuts fu a e (lv+1) fun x e' lv'=>match x with
      | .normal=>k e'
      | x=>κ x e' lv')
     (fun e'=>ec P n cuts fu b e' lv κ)
  | .cond c a b=>match ev e c with
   | some (.bool t)=>cond t (ec P n cuts fu a e lv κ) (ec P n cuts fu b e lv κ)
   | _=>T.fail
  | .block id c=>ec P n cuts fu c e lv fun x e' lv'=>match x with
   | .exit i=>match Nat.beq i id with
    | true=>κ .normal e' lv'
    | false=>κ (.exit i) e' lv'
   | x=>κ x e' lv'
  | .region id ops draw =>
   match CL cuts (some id) 0 with
   | false=>match draw with
    | false=>DT P n ops ops.toList e fun e'=>κ .normal e' lv
    | true=>tz P n id ops e fun e'=>κ .normal e' lv
   | true=>Ei ((handsOn P ops.toList).map (·.1)) ((handsOn P ops.toList).map (·.2)) (dstsOf ops) e lv
     (fun k=>match draw with
      | false=>DT P n ops ops.toList e k
      | true=>tz P n id ops e k)
     (fun e'=>κ .normal e' lv)
  | .loop c=>Cf (cF c) e lv fun e' k=>ec P n cuts fu c e' (lv+1) fun x e'' lv'=>match x with
   | .normal=>k e''
   | x=>κ x e'' lv'
  | .scope c=>match xP c with
   | none=>jb P n cuts fu c c e lv none (fun _=>T.fail) κ
   | some l=>match findLabel c l with
    | none=>T.fail
    | some r=>rF P n cuts fu c c l r e lv κ
  | _=>T.fail
def jb (P:Program) (n:Nat) (cuts:List Nat):Nat→Code→Code→Env→Nat→Option Nat→(Env→T)→(Exit→Env→Nat→T)→T
 | 0,_,_,_,_,_,_,_=>T.fail
 | fu+1,c,r,e,lv,back,k,κ=>ec P n cuts fu r e lv fun x e' lv'=>match x with
  | .goto l=>match jt back l with
   | true=>k e'
   | false=>match findLabel c l with
    | some r'=>jb P n cuts fu c r' e' lv' back k κ
    | none=>κ (.goto l) e' lv'
  | x=>κ x e' lv'
def rF (P:Program) (n:Nat) (cuts:List Nat):Nat→Code→Code→Nat→Code→Env→Nat→(Exit→Env→Nat→T)→T
 | 0,_,_,_,_,_,_,_=>T.fail
 | fu+1,c,t,l,r,e,lv,κ =>
  match dS l t with
  | true=>Cf (cF c) e lv fun e'' k=>jb P n cuts fu c r e'' (lv+1) (some l) k κ
  | false=>match t with
   | .seq a b=>match findLabel a l with
    | some _=>T.fail
    | none=>ec P n cuts fu a e lv fun x e' lv'=>match x with
     | .normal=>rF P n cuts fu c b l r e' lv' κ
     | .goto _=>T.fail
     | x=>κ x e' lv'
   | _=>T.fail
end
def vJ (P:Program):List ResultVar→Env→(List Value→T)→T
 | [],_,k=>k []
 | .tmp t::rs,e,k=>bd e (.tmp t) fun v=>vJ P rs e fun l=>k (v::l)
 | .cell a t::rs,e,k=>bd e (.tmp a) fun p=>match p,bY P t with
  | .pointer p,some true=>bif (ft P 9 t).length==P.cellsOf t then T.au p fun a=>T.ae a (ft P 9 t) (bS _ fun l=>vJ P rs e fun l'=>k (.agg l.toArray::l')) else T.fail
  | .pointer p,some false=>T.au p fun a=>T.ae a (cB P t).2 (bS _ fun l=>vJ P rs e fun l'=>k (l.headD undef::l'))
  | _,_=>T.fail
def one (l:List Value):Value :=
 match l with
 | [v]=>v
 | l=>.tuple l.toArray
def BH:Nat→List Value→Env
 | _,[]=>[]
 | i,v::vs=>(i,some v)::BH (i+1) vs
def aY (P:Program) (cuts:List Nat) (fn:Func) (args:List Value):T :=
 match fn.body with
 | none=>T.fail
 | some c=>ec P fn.ntmps cuts 100000 c (BH 0 args) 0 fun x e _=>match x with
  | .normal=>vJ P fn.results.toList e fun l=>T.ret (one l)
  | .ret=>vJ P fn.results.toList e fun l=>T.ret (one l)
  | _=>T.fail
end Go.Sx
