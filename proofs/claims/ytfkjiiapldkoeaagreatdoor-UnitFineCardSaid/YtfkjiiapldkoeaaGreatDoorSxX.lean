/- A framework of our own, part X: from code to trees. No condition. -/
import Derived.Test.YtfkjiiapldkoeaaGreatDoorSxT
set_option linter.unusedVariables false
set_option linter.unusedSimpArgs false
set_option linter.deprecated false
namespace Go.Sx
abbrev Env:=List (Nat × Option Value)
def bJ:Env→Nat→Option Value
 | [],_=>none
 | (s,v)::e,t=>bif Nat.beq s t then v else bJ e t
def dE (n:Nat) (e:Env) (dst:Option Tmp) (v:Value):Env :=
 match dst with
 | none=>e
 | some d=>bif Nat.blt d n then (d,some v)::e else e
def ev (e:Env):Operand→Option Value
 | .tmp t=>bJ e t
 | .const v=>some v
 | .global g=>some (.pointer (some ⟨g,0,none⟩))
 | .func f=>some (.func (.func f) #[] #[])
namespace T
def au (p:Option Addr) (k:Addr→T):T :=
 match p with
 | some a=>k a
 | none=>T.fail
end T
def fx (P:Program):Nat→TypeId→List TypeDesc
 | 0,_=>[.invalid]
 | n+1,t =>
  match P.underlying t with
  | some (.struct fs)=>fs.toList.flatMap fun f=>fx P n f.type
  | some (.array k e)=>(List.replicate k (fx P n e)).flatten
  | some d=>[d]
  | none=>[.invalid]
def cG (P:Program) (t:TypeId):gH :=
 match P.underlying t with
 | some (.struct _)=>(true,fx P 9 t)
 | some (.array _ _)=>(true,fx P 9 t)
 | some d=>(false,[d])
 | none=>(false,[.invalid])
def ua (P:Program) (t:TypeId):Bool × List gH :=
 match P.underlying t with
 | some (.tuple ts)=>(true,ts.toList.map (cG P))
 | _=>(false,[cG P t])
def Df (b:Bool):List gH :=
 match b with
 | true=>[(false,[.int .i64]),(false,[.int .i32])]
 | false=>[(false,[.string]),(false,[.bool])]
def bf (e:Env) (x:Operand) (k:Value→T):T :=
 match ev e x with
 | some v=>k v
 | none=>T.fail
def gk (e:Env):List Operand→(List Value→T)→T
 | [],k=>k []
 | x::xs,k=>bf e x fun v=>gk e xs fun l=>k (v::l)
def bN (s:ByteArray) (n:Int):Int:=((s.data.toList.getD n.toNat 0).toNat:Nat)
def GJ (op:BinOp) (k:IntKind) (x y:Int):Int :=
 match op with
 | .and=>k.wrap (BitVec.ofInt k.bits x &&& BitVec.ofInt k.bits y).toNat
 | .or=>k.wrap (BitVec.ofInt k.bits x ||| BitVec.ofInt k.bits y).toNat
 | .xor=>k.wrap (BitVec.ofInt k.bits x ^^^ BitVec.ofInt k.bits y).toNat
 | _=>k.wrap (BitVec.ofInt k.bits x &&& ~~~ BitVec.ofInt k.bits y).toNat
def EY (op:BinOp) (k:IntKind) (m n:Int) (kk:Value→T):T :=
 match op with
 | .add=>kk (.int k (k.wrap (m+n)))
 | .sub=>kk (.int k (k.wrap (m-n)))
 | .mul=>kk (.int k (k.wrap (m*n)))
 | .quo=>T.need (n≠0) (kk (.int k (k.wrap (m.tdiv n))))
 | .rem=>T.need (n≠0) (kk (.int k (m.tmod n)))
 | .eql=>kk (.bool (m==n))
 | .neq=>kk (.bool (m != n))
 | .lss=>kk (.bool (decide (m<n)))
 | .leq=>kk (.bool (decide (m≤n)))
 | .gtr=>kk (.bool (decide (m>n)))
 | .geq=>kk (.bool (decide (m≥n)))
 | .and=>kk (.int k (GJ .and k m n))
 | .or=>kk (.int k (GJ .or k m n))
 | .xor=>kk (.int k (GJ .xor k m n))
 | .andNot=>kk (.int k (GJ .andNot k m n))
 | _=>T.fail
def vi (op:BinOp) (k:IntKind) (m n:Int) (kk:Value→T):T :=
 match op with
 | .shl=>T.need (0≤n) (kk (.int k (k.wrap (m*2^(min n.toNat k.bits)))))
 | .shr=>T.need (0≤n) (kk (.int k (m.fdiv (2^(min n.toNat k.bits)))))
 | _=>T.fail
def GM (op:BinOp) (x y:ByteArray) (kk:Value→T):T :=
 match op with
 | .add=>T.need (((x.size+y.size:Nat):Int)≤IntKind.i64.max) (kk (.string (x++y)))
 | .eql=>kk (.bool (x.toList==y.toList))
 | .neq=>kk (.bool !(x.toList==y.toList))
 | .lss=>kk (.bool (Op.bytesLess x.toList y.toList))
 | .leq=>kk (.bool (Op.bytesLess x.toList y.toList || x.toList==y.toList))
 | .gtr=>kk (.bool !(Op.bytesLess x.toList y.toList || x.toList==y.toList))
 | .geq=>kk (.bool !(Op.bytesLess x.toList y.toList))
 | _=>T.fail
def la:BinOp→Bool
 | .shl=>true
 | .shr=>true
 | _=>false
def isNil (x:Operand):Bool :=
 match x with
 | .const (.pointer none)=>true
 | .const (.slice none 0 0)=>true
 | .const (.map none)=>true
 | _=>false
def bM (op:BinOp) (t:TypeId) (x y:Operand) (a b:Value):Sem Value:=do eqGuard op t x y a b; binOp op t a b
def Lu (P:Program) (op:BinOp) (t:TypeId) (x y:Operand) (a b:Value) (kk:Value→T):T :=
 T.aY P (bM op t x y a b) false [(false,[.bool])] fun r=>kk (.bool r)
def asked (op:BinOp) (b:Bool) (kk:Value→T) (other:T):T :=
 match op with
 | .eql=>kk (.bool b)
 | .neq=>kk (.bool !b)
 | _=>other
def rW (P:Program) (t:TypeId) (x y:Operand):Bool :=
 match P.underlying t with
 | some (.int _)=>true
 | some .string=>true
 | some .bool=>true
 | some (.pointer _)=>isNil y
 | some (.slice _)=>isNil y
 | some (.map _ _)=>isNil y
 | _=>false
def Ae (P:Program) (op:BinOp) (t:TypeId) (a b:Value) (kk:Value→T):T :=
 match a,b with
 | .int k m,.int k' n =>
  match la op with
  | true=>vi op k m n kk
  | false=>match decide (k=k') with
   | true=>EY op k m n kk
   | false=>T.fail
 | .string m,.string n=>GM op m n kk
 | .bool m,.bool n =>
  match P.underlying t with
  | some .bool=>asked op (m==n) kk T.fail
  | _=>T.fail
 | .pointer p,.pointer _ =>
  match P.underlying t with
  | some (.pointer _)=>asked op p.isNone kk T.fail
  | _=>T.fail
 | .slice p _ _,.slice _ _ _ =>
  match P.underlying t with
  | some (.slice _)=>asked op p.isNone kk T.fail
  | _=>T.fail
 | .map p,.map _ =>
  match P.underlying t with
  | some (.map _ _)=>asked op p.isNone kk T.fail
  | _=>T.fail
 | _,_=>T.fail
def EH (P:Program) (op:BinOp) (t:TypeId) (x y:Operand) (a b:Value) (kk:Value→T):T :=
 match rW P t x y with
 | true=>Ae P op t a b kk
 | false=>Lu P op t x y a b kk
def Ko (op:UnOp) (a:Value) (kk:Value→T):T :=
 match op,a with
 | .neg,.int k n=>kk (.int k (k.wrap (0-n)))
 | .xor,.int k n=>kk (.int k (GJ .xor k (if k.signed then -1 else k.max) n))
 | .not,.bool b=>kk (.bool !b)
 | _,_=>T.fail
def BJ (P:Program) (src dst:TypeId) (a:Value) (kk:Value→T):T :=
 match P.underlying src,P.underlying dst,a with
 | some (.int _),some (.int k),.int _ n=>kk (.int k (k.wrap n))
 | some .string,some .string,.string s=>kk (.string s)
 | some .string,some .string,_=>T.fail
 | _,some (.slice _),_=>T.aY P (convert src dst a) false [(false,[.slice 0])] fun p l c=>kk (.slice p l c)
 | _,some .string,_=>T.aY P (convert src dst a) false [(false,[.string])] fun s=>kk (.string s)
 | _,_,_=>T.fail
def tK:Option Value→Int
 | some (.int _ n)=>n
 | _=>0
def gJ:Option Value→Bool
 | some (.int _ _)=>true
 | none=>true
 | _=>false
def rB (d:Int):Option Value→Int
 | some (.int _ n)=>n
 | _=>d
def pL (P:Program) (t:TypeId):Bool:=(P.info? t).isSome
def ju (P:Program) (t:TypeId) (a:Value) (lo hi mx:Option Value) (kk:Value→T):T :=
 match gJ lo && gJ hi && gJ mx with
 | false=>T.fail
 | true =>
  match P.underlying t with
  | some .string=>match a,mx with
   | .string s,none =>
    T.need (0≤tK lo∧tK lo≤rB s.size hi∧rB s.size hi≤s.size) (kk (.string (s.extract (tK lo).toNat (rB s.size hi).toNat)))
   | _,_=>T.fail
  | some (.slice e)=>match mx with
   | some _=>T.aY P (Instr.sliceAt t a lo hi mx) false [(false,[.slice 0])] fun p l c=>kk (.slice p l c)
   | none=>match a with
    | .slice p len cap =>
     match pL P e with
     | false=>T.fail
     | true=>T.need (0≤tK lo∧tK lo≤rB len hi∧rB len hi≤cap) (kk (.slice (if cap=(tK lo).toNat then p else p.map (·.add ((tK lo).toNat*P.cellsOf e))) ((rB len hi).toNat-(tK lo).toNat) (cap-(tK lo).toNat)))
    | _=>T.fail
  | _=>T.aY P (Instr.sliceAt t a lo hi mx) false [(false,[.slice 0])] fun p l c=>kk (.slice p l c)
def ve (P:Program) (t:TypeId) (cs:List Value) (off:Nat) (kk:Value→T):T :=
 match P.underlying t with
 | some (.struct _)=>kk (.agg ((cs.drop off).take (P.cellsOf t)).toArray)
 | some (.array _ _)=>kk (.agg ((cs.drop off).take (P.cellsOf t)).toArray)
 | some _=>match cs[off]? with
  | some v=>kk v
  | none=>T.fail
 | none=>T.fail
def cj (P:Program) (t:TypeId):Option Bool :=
 match P.underlying t with
 | some (.struct _)=>some true
 | some (.array _ _)=>some true
 | some _=>some false
 | none=>none
def lH:Value→List Value
 | .agg cs=>cs.toList
 | _=>[]
def eF:Value→Bool
 | .agg _=>true
 | _=>false
def fU (P:Program) (f:FuncId):Bool :=
 match P.funcs[f]? with
 | some fn => fn.body.isSome && !(fn.name == "runtime.NumGoroutine")
 | none=>false
def Hm:Operand→Bool
 | .tmp _=>true
 | .const _=>false
 | .global _=>false
 | .func _=>false
def FO (f:FuncId) (args:Array Value):Sem Value:=do
 match ← callFunc f args with
 | .value v=>pure v
 | _ => stuck "no value"
def Dv (P:Program) (f:FuncId) (args:List Value) (t:TypeId) (kk:Value→T):T :=
 match fU P f with
 | true=>T.call P f args (ua P t).1 (ua P t).2 (bW _ fun l=>kk (rv (ua P t).1 (ua P t).2 l))
 | false=>T.aY P (FO f args.toArray) (ua P t).1 (ua P t).2 (bW _ fun l=>kk (rv (ua P t).1 (ua P t).2 l))
def DR (P:Program) (c:Call) (t:TypeId) (args:List Value) (kk:Value→T):T :=
 match (c.argTypes[0]?).bind P.underlying with
 | some .string=>match args with
  | [.string s]=>kk (.int .i64 s.size)
  | _=>T.fail
 | some (.slice _)=>match args with
  | [.slice _ n _]=>kk (.int .i64 n)
  | _=>T.fail
 | _=>T.aY P (Builtin.len_ c.argTypes t args.toArray) false [(false,[.int .i64])] fun n=>kk (.int .i64 n)
def D9 (P:Program) (c:Call) (args:List Value) (kk:Value→T):T :=
 match (c.argTypes[0]?).bind P.underlying with
 | some (.slice _)=>match args with
  | [.slice _ _ n]=>kk (.int .i64 n)
  | _=>T.fail
 | _=>T.fail
def rz (P:Program) (b:Builtin) (c:Call) (t:TypeId) (args:List Value) (kk:Value→T):T :=
 match b,args with
 | .len,_=>DR P c t args kk
 | .cap,_=>D9 P c args kk
 | .append,_=>T.aY P (Builtin.append_ c.argTypes t args.toArray) false [(false,[.slice 0])] fun p l cp=>kk (.slice p l cp)
 | .copy,_=>T.aY P (Builtin.copy_ c.argTypes t args.toArray) false [(false,[.int .i64])] fun n=>kk (.int .i64 n)
 | .min,_=>T.aY P (Builtin.min_ c.argTypes t args.toArray) false [cG P t] (bW _ fun l=>kk (rv false [cG P t] l))
 | .max,_=>T.aY P (Builtin.max_ c.argTypes t args.toArray) false [cG P t] (bW _ fun l=>kk (rv false [cG P t] l))
 | .delete,_=>T.aY P (Builtin.delete_ c.argTypes t args.toArray) true [] (kk (.tuple #[]))
 | .unsafeString,_=>T.aY P (Builtin.unsafeString_ c.argTypes t args.toArray) false [cG P t] (bW _ fun l=>kk (rv false [cG P t] l))
 | .unsafeSliceData,_=>T.aY P (Builtin.unsafeSliceData_ c.argTypes t args.toArray) false [cG P t] (bW _ fun l=>kk (rv false [cG P t] l))
 | _,_=>T.fail
def KV (P:Program) (t:TypeId) (lo hi mx:Option Operand) (a:Value) (vs:List Value) (kk:Value→T):T :=
 match lo,hi,mx,vs with
 | none,none,none,[]=>ju P t a none none none kk
 | some _,none,none,[l]=>ju P t a (some l) none none kk
 | none,some _,none,[h]=>ju P t a none (some h) none kk
 | some _,some _,none,[l,h]=>ju P t a (some l) (some h) none kk
 | some _,some _,some _,[l,h,m]=>ju P t a (some l) (some h) (some m) kk
 | none,some _,some _,[h,m]=>ju P t a none (some h) (some m) kk
 | _,_,_,_=>T.fail
def Am (P:Program) (t:TypeId) (v i:Value) (kk:Value→T):T :=
 match v,i,P.underlying t with
 | .slice p len _,.int _ n,some (.slice el)=>bif !pL P el then T.fail else T.need (0≤n∧n<len) (T.au p fun a=>kk (.pointer (some (a.add (n.toNat*P.cellsOf el)))))
 | .pointer p,.int _ n,some (.array len el)=>bif !pL P el then T.fail else T.need (0≤n∧n<len) (T.au p fun a=>kk (.pointer (some (a.add (n.toNat*P.cellsOf el)))))
 | _,_,_=>T.fail
def Gi (P:Program) (t:TypeId) (v i:Value) (kk:Value→T):T :=
 match v,i,P.underlying t with
 | .string s,.int _ n,some .string=>T.need (0≤n∧n<s.size) (kk (.int .u8 (bN s n)))
 | v,i,some (.array len el)=>T.aY P (Instr.index t v i) false [cG P el] (bW _ fun l=>kk (rv false [cG P el] l))
 | _,_,_=>T.fail
def DO (xs:List Value):Nat→List Value→List Value
 | _,[]=>xs
 | i,v::vs=>DO (xs.set i v) (i+1) vs
def iw (place:Nat→Option (Nat × Nat)) (cells:List Value):List (Nat × List Value)→Option (List Value)
 | []=>some cells
 | (i,l)::rest =>
  match place i with
  | none=>none
  | some (off,size)=>bif !(Nat.beq l.length size) || Nat.blt cells.length (off+l.length) then none else iw place (DO cells off l) rest
def fv (agg:Nat→Option Bool):List (Nat × Value)→(List (Nat × List Value)→T)→T
 | [],k=>k []
 | (i,v)::l,k =>
  match agg i with
  | some true=>cond (eF v) (fv agg l fun r=>k ((i,lH v)::r)) T.fail
  | some false=>cond (eF v) T.fail (fv agg l fun r=>k ((i,[v])::r))
  | none=>T.fail
def ui (P:Program) (o:Oper) (e:Env) (kk:Value→T):T :=
 match o.op with
 | .move x=>bf e x kk
 | .assign x=>bf e x kk
 | .pick c a b=>bf e c fun c=>match c with
  | .bool b'=>cond b' (bf e a kk) (bf e b kk)
  | _=>T.fail
 | .alloc t=>match (P.info? t).bind (·.zero) with
  | some z=>T.new z.cells.toList t fun a=>kk (.pointer (some a))
  | none=>T.fail
 | .box t x=>bf e x fun v=>match cj P t with
  | some true=>cond (eF v) (T.new (lH v) t fun a=>kk (.pointer (some a))) T.fail
  | some false=>cond (eF v) T.fail (T.new [v] t fun a=>kk (.pointer (some a)))
  | none=>T.fail
 | .build t ps=>gk e (ps.toList.map (·.2)) fun vs=>match P.underlying t,(P.info? t).bind (·.zero) with
  | some (.struct fs),some z =>
   bif !(fs.all fun f=>pL P f.type) then T.fail else fv (fun i=>(fs[i]?).bind fun f=>cj P f.type) ((ps.toList.map (·.1)).zip vs) fun ls=>match iw (((fs.map fun f=>(f.offset,P.cellsOf f.type)))[·]?) z.cells.toList ls with
   | some cs=>kk (.agg cs.toArray)
   | none=>T.fail
  | some (.array _ el),some z =>
   bif !pL P el then T.fail else fv (fun _=>cj P el) ((ps.toList.map (·.1)).zip vs) fun ls=>match iw (fun i=>some (i*P.cellsOf el,P.cellsOf el)) z.cells.toList ls with
   | some cs=>kk (.agg cs.toArray)
   | none=>T.fail
  | _,_=>T.fail
 | .buildSlice t len ps=>gk e (ps.toList.map (·.2)) fun vs =>
  T.aY P (Instr.buildSlice t len ((ps.toList.map (·.1)).zip vs).toArray) false [(false,[.slice 0])] fun p l c=>kk (.slice p l c)
 | .load t x=>bf e x fun v=>match v,cj P t with
  | .pointer p,some true=>bif (fx P 9 t).length==P.cellsOf t then T.au p fun a=>T.ae a (fx P 9 t) (bW _ fun l=>kk (.agg l.toArray)) else T.fail
  | .pointer p,some false=>T.au p fun a=>T.ae a (cG P t).2 (bW _ fun l=>kk (l.headD undef))
  | _,_=>T.fail
 | .store t x y=>bf e x fun p=>bf e y fun v=>match p,cj P t with
  | .pointer p,some true=>cond (eF v) (bif (lH v).length==P.cellsOf t then T.au p fun a=>T.ap a (lH v) (kk undef) else T.fail) T.fail
  | .pointer p,some false=>bif P.cellsOf t==1 then cond (eF v) T.fail (T.au p fun a=>T.ap a [v] (kk undef)) else T.fail
  | _,_=>T.fail
 | .nilCheck x=>bf e x fun v=>match v with
  | .pointer p=>T.au p fun a=>kk (.pointer (some a))
  | .func (.func f) fi ca=>kk (.func (.func f) fi ca)
  | .iface t v=>kk (.iface t v)
  | _=>T.fail
 | .binOp op t x y _=>bf e x fun a=>bf e y fun b=>EH P op t x y a b kk
 | .unOp op _ x=>bf e x fun a=>Ko op a kk
 | .convert s d x=>bf e x fun a=>BJ P s d a kk
 | .makeInterface t x=>bf e x fun a=>match P.underlying t with
  | some (.interface _)=>T.fail
  | some _=>kk (.iface t a)
  | none=>T.fail
 | .makeFunc fn fi ca=>gk e fi.toList fun fi=>gk e ca.toList fun ca=>kk (.func fn fi.toArray ca.toArray)
 | .makeMap t none=>T.aY P (Instr.makeMap t none) false [(false,[.map 0 0])] fun r=>kk (.map r)
 | .makeSlice t l c=>bf e l fun l=>bf e c fun c=>T.aY P (Instr.makeSlice t l c) false [(false,[.slice 0])] fun p l c=>kk (.slice p l c)
 | .slice t x lo hi mx=>bf e x fun a=>gk e (lo.toList++hi.toList++mx.toList) fun vs=>KV P t lo hi mx a vs kk
 | .fieldAddr s x f=>bf e x fun v=>match v,P.underlying s with
  | .pointer p,some (.struct fs)=>match fs[f]? with
   | some fd=>match P.cellsOf fd.type with
    | 0=>T.fail
    | _+1=>T.au p fun a=>kk (.pointer (some (a.add fd.offset)))
   | none=>T.fail
  | _,_=>T.fail
 | .field s x f=>bf e x fun v=>match v,P.underlying s with
  | .agg cs,some (.struct fs)=>match fs[f]? with
   | some fd=>ve P fd.type cs.toList fd.offset kk
   | none=>T.fail
  | _,_=>T.fail
 | .indexAddr t x i=>bf e x fun v=>bf e i fun i=>Am P t v i kk
 | .index t x i=>bf e x fun v=>bf e i fun i=>Gi P t v i kk
 | .lookup t m x ok=>bf e m fun m=>bf e x fun x=>match P.underlying t with
  | some (.map _ el)=>match ok with
   | true=>T.aY P (Instr.lookup t m x true) true [cG P el,(false,[.bool])] (bW _ fun l=>kk (rv true [cG P el,(false,[.bool])] l))
   | false=>T.aY P (Instr.lookup t m x false) false [cG P el] (bW _ fun l=>kk (rv false [cG P el] l))
  | _=>T.fail
 | .mapUpdate t m x v=>bf e m fun m=>bf e x fun x=>bf e v fun v=>T.mC P (Instr.mapUpdate t m x v) (kk undef)
 | .insert t m x v=>bf e m fun m=>bf e x fun x=>bf e v fun v=>T.mC P (Instr.mapUpdate t m x v) (kk undef)
 | .mapEntry t m x=>bf e m fun m=>bf e x fun x=>match P.underlying t with
  | some (.map _ el)=>T.aY P (Instr.mapEntry t m x) true [cG P el,(false,[.int .i64])] (bW _ fun l=>kk (rv true [cG P el,(false,[.int .i64])] l))
  | _=>T.fail
 | .entryStore t m x v=>bf e m fun m=>bf e x fun x=>bf e v fun v=>T.mC P (Instr.entryStore t m x v) (kk undef)
 | .range t x=>bf e x fun x=>T.aY P (Instr.range t x) false [(false,[.pointer 0])] fun p=>kk (.pointer p)
 | .next it b=>bf e it fun it=>match P.underlying o.type with
  | some (.tuple ts)=>match ts.toList with
   | []=>T.next P (Instr.next it b o.type) (Df b) (kk (.tuple #[.bool false])) (bW _ fun l=>kk (.tuple (.bool true::parts (Df b) l).toArray))
   | _::ts=>T.next P (Instr.next it b o.type) (ts.map (cG P)) (kk (.tuple #[.bool false])) (bW _ fun l=>kk (.tuple (.bool true::parts (ts.map (cG P)) l).toArray))
  | _=>T.fail
 | .entry it=>bf e it fun it=>T.aY P (Instr.entry it) true (Df false) (bW _ fun l=>kk (rv true (Df false) l))
 | .typeAssert x t d ok=>bf e x fun x=>match ok with
  | true=>T.aY P (Instr.typeAssert x t d true) true [cG P d,(false,[.bool])] (bW _ fun l=>kk (rv true [cG P d,(false,[.bool])] l))
  | false=>T.aY P (Instr.typeAssert x t d false) false [cG P d] (bW _ fun l=>kk (rv false [cG P d] l))
 | .extract x i=>bf e x fun v=>match v with
  | .tuple vs=>match vs.toList[i]? with
   | some v=>kk v
   | none=>T.fail
  | _=>T.fail
 | .call c=>match c.callee with
  | .builtin b=>gk e c.args.toList fun vs=>rz P b c o.type vs kk
  | .value g=>match Hm g with
   | true=>bf e g fun g=>gk e c.args.toList fun vs=>T.qJ P g vs (ua P o.type).1 (ua P o.type).2 (bW _ fun l=>kk (rv (ua P o.type).1 (ua P o.type).2 l))
   | false=>bf e g fun g=>gk e c.args.toList fun vs=>match g with
    | .func (.func f) fi ca=>Dv P f (fi.toList++vs++ca.toList) o.type kk
    | .func (.method _) _ _=>T.fail
    | .func (.methodOf _ _) _ _=>T.fail
    | .func (.via _ _ _ _) _ _=>T.fail
    | .func (.yield _) _ _=>T.fail
    | .nilFunc=>T.fail
    | .bool _=>T.fail
    | .int _ _=>T.fail
    | .float _ _=>T.fail
    | .complex _ _ _=>T.fail
    | .string _=>T.fail
    | .pointer _=>T.fail
    | .slice _ _ _=>T.fail
    | .map _=>T.fail
    | .chan _=>T.fail
    | .iface _ _=>T.fail
    | .nilIface=>T.fail
    | .agg _=>T.fail
    | .tuple _=>T.fail
  | .invoke _ _=>T.fail
 | _=>T.fail
def guardOf (ops:Array Oper) (o:Oper):Option (Option Tmp × Bool) :=
 match o.guard with
 | none=>none
 | some (j,want)=>some ((ops[j]?).bind (·.dst),want)
def nJ (n:Nat) (ops:Array Oper) (o:Oper) (e:Env) (yes no:Env→T):T :=
 match guardOf ops o with
 | none=>yes e
 | some (none,_)=>no e
 | some (some d,want) =>
  match bJ e d with
  | some (.bool b)=>match want with
   | true=>cond b (yes (dE n e (some d) (.bool true))) (no (dE n e (some d) (.bool false)))
   | false=>cond b (no (dE n e (some d) (.bool true))) (yes (dE n e (some d) (.bool false)))
  | some (.tuple _)=>no e
  | _=>T.fail
def DG (P:Program) (n:Nat) (ops:Array Oper):List Oper→Env→(Env→T)→T
 | [],e,k=>k e
 | o::rest,e,k=>nJ n ops o e (fun e=>ui P o e fun v=>DG P n ops rest (dE n e o.dst v) k) (fun e=>DG P n ops rest (dE n e o.dst undef) k)
def ni (P:Program) (o:Oper):Bool :=
 match o.op with
 | .move _=>true
 | .pick _ _ _=>true
 | .build _ _=>true
 | .nilCheck _=>true
 | .binOp _ t x y _=>rW P t x y
 | .unOp _ _ _=>true
 | .convert s d _=>match P.underlying s,P.underlying d with
  | some (.int _),some (.int _)=>true
  | some .string,some .string=>true
  | _,_=>false
 | .makeInterface _ _=>true
 | .makeFunc _ _ _=>true
 | .slice t _ _ _ none=>match P.underlying t with
  | some .string=>true
  | some (.slice _)=>true
  | _=>false
 | .fieldAddr _ _ _=>true
 | .field _ _ _=>true
 | .indexAddr _ _ _=>true
 | .index t _ _=>match P.underlying t with
  | some .string=>true
  | _=>false
 | .extract _ _=>true
 | .call c=>match c.callee with
  | .builtin .len=>match (c.argTypes[0]?).bind P.underlying with
   | some .string=>true
   | some (.slice _)=>true
   | _=>false
  | .builtin .cap=>match (c.argTypes[0]?).bind P.underlying with
   | some (.slice _)=>true
   | _=>false
  | _=>false
 | _=>false
def vS (o:Oper):Bool :=
 match o.op with
 | .load _ _=>true
 | _=>false
def calm (P:Program) (o:Oper):Bool:=ni P o || vS o
def rk (x:Nat):List Nat→Bool
 | []=>false
 | y::l=>Nat.beq x y || rk x l
def waits (o:Oper):List Nat:=(o.after.toList.filter fun e=>Region.binds .any e).map (·.on)
def sK (D:List Nat) (i:Nat) (o:Oper):Bool:=!rk i D && (waits o).all fun j=>rk j D
def looks (ops : Array Oper) (o : Oper) : List Nat :=
  (o.op.operands.toList.filterMap fun | .tmp t => some t | _ => none) ++
  (match o.guard with
   | some (g, _) => ((ops[g]?).bind (·.dst)).toList
   | none => [])
def jN:Option Nat→Nat→Bool
 | some d,s=>Nat.beq d s
 | none,_=>false
def Ct (P : Program) (ops : Array Oper) (i j : Nat) (x y : Oper) : Bool :=
  match Nat.beq i j with
  | true => (match x.dst with
    | some d => !calm P x || !rk d (looks ops x)
    | none => true)
  | false => (match y.dst with
    | some d => !rk d (looks ops x) || rk j (waits x) || (rk i (waits y) && !calm P y)
    | none => true) &&
   (match x.dst, calm P x with
    | some d, true => !jN y.dst d
    | _, _ => true)
def idx:Nat→List Oper→List (Nat × Oper)
 | _,[]=>[]
 | i,o::l=>(i,o)::idx (i+1) l
def du (P : Program) (n : Nat) (ops : Array Oper) : Bool :=
  ((idx 0 ops.toList).all fun p => match p.2.dst with
    | some d => Nat.blt d n
    | none => true) && (idx 0 ops.toList).all fun p => (idx 0 ops.toList).all fun q => Ct P ops p.1 q.1 p.2 q.2
abbrev Made:=List (Nat × Addr × List Value)
def nt (o:Oper):Made→List (Addr × List Value)
 | []=>[]
 | (i,a,l)::m=>bif rk i (waits o) then nt o m else (a,l)::nt o m
def za (l:List (Addr × List Value)) (t:T):T :=
 match l with
 | []=>t
 | p::l=>T.aR (p::l) t
def K2:List T→T
 | []=>T.fail
 | [t]=>t
 | t::ts=>T.all (t::ts)
def pf (P:Program) (t:TypeId) (x:Operand) (e:Env) (kk:Addr→List Value→Value→T):T :=
 bf e x fun v=>match v,cj P t with
  | .pointer p,some true=>bif (fx P 9 t).length==P.cellsOf t then T.au p fun a=>T.ae a (fx P 9 t) (bW _ fun l=>kk a l (.agg l.toArray)) else T.fail
  | .pointer p,some false=>T.au p fun a=>T.ae a (cG P t).2 (bW _ fun l=>kk a l (l.headD undef))
  | _,_=>T.fail
def cz (P:Program) (D:List Nat) (c:Bool):List (Nat × Oper)→List (Nat × Oper)
 | []=>[]
 | p::l=>match sK D p.1 p.2 && (calm P p.2==c) with
  | true=>p::cz P D c l
  | false=>cz P D c l
def gZ (P:Program) (n:Nat) (ops:Array Oper):Nat→List Nat→Env→Made→(Env→T)→T
 | 0,_,_,_,_=>T.fail
 | fu+1,D,e,m,k =>
  match cz P D true (idx 0 ops.toList) with
  | (i,o)::_ =>
   nJ n ops o e (fun e=>match o.op with
    | .load t x=>pf P t x e fun a l v=>gZ P n ops fu (i::D) (dE n e o.dst v) ((i,a,l)::m) k
    | _=>ui P o e fun v=>gZ P n ops fu (i::D) (dE n e o.dst v) m k)
    fun e=>gZ P n ops fu (i::D) (dE n e o.dst undef) m k
  | [] =>
   match cz P D false (idx 0 ops.toList) with
   | []=>k e
   | q::qs=>K2 ((q::qs).map fun p=>nJ n ops p.2 e (fun e=>ui P p.2 e fun v=>za (nt p.2 m) (gZ P n ops fu (p.1::D) (dE n e p.2.dst v) m k))
     fun e=>gZ P n ops fu (p.1::D) (dE n e p.2.dst undef) m k)
def uo (P:Program) (n:Nat) (_id:Nat) (ops:Array Oper) (e:Env) (k:Env→T):T :=
 match du P n ops with
 | true=>gZ P n ops (ops.size+1) [] e [] k
 | false=>T.fail
def cL:Code→List Nat
 | .region _ ops _=>ops.toList.filterMap (·.dst)
 | .seq a b=>cL a++cL b
 | .cond _ a b=>cL a++cL b
 | .block _ c=>cL c
 | .loop c=>cL c
 | .scope c=>cL c
 | .rangeFunc _ ps a b=>ps.toList++cL a++cL b
 | _=>[]
def nZ (x:Nat):List Nat→List Nat
 | []=>[x]
 | y::l=>bif Nat.blt x y then x::y::l else bif Nat.beq x y then y::l else y::nZ x l
def cd (l:List Nat):List Nat:=l.foldl (fun acc x=>nZ x acc) []
def Jn:Value→TypeDesc
 | .bool _=>.bool
 | .int k _=>.int k
 | .string _=>.string
 | .pointer _=>.pointer 0
 | .slice _ _ _=>.slice 0
 | .map _=>.map 0 0
 | _=>.invalid
def FT:Value→gH
 | .agg cs=>(true,cs.toList.map Jn)
 | v=>(false,[Jn v])
def live (e:Env):List Nat→List (Nat × Value)
 | []=>[]
 | s::l=>match bJ e s with
  | some v=>(s,v)::live e l
  | none=>live e l
def forget (e:Env) (l:List Nat):Env:=l.map (fun s=>(s,none))++e
def jW (l:List Nat) (vs:List Value):Env:=(l.zip vs).map fun p=>(p.1,some p.2)
def wN (e:Env):List Nat→(List Value→T)→T
 | [],k=>k []
 | s::l,k=>match bJ e s with
  | some v=>wN e l fun vs=>k (v::vs)
  | none=>T.fail
def Dz (ms:List Nat) (e:Env) (lv:Nat) (body:Env→(Env→T)→T):T :=
 let lvs:=live e (cd ms)
 let ss:=lvs.map (·.1)
 let cs:=lvs.map fun p=>FT p.2
 T.loop cs (lvs.map (·.2)) (bW (flat cs) fun l=>body (jW ss (parts cs l)++forget e (cd ms)) fun e'=>wN e' ss fun vs=>T.again lv vs)
def gO (l:Nat):Code→Bool
 | .goto l'=>Nat.beq l l'
 | .seq a b=>gO l a || gO l b
 | .cond _ a b=>gO l a || gO l b
 | .block _ c=>gO l c
 | .loop c=>gO l c
 | .scope c=>gO l c
 | .rangeFunc _ _ a b=>gO l a || gO l b
 | _=>false
def labels:Code→List Nat
 | .label l=>[l]
 | .seq a b=>labels a++labels b
 | _=>[]
def xG (c:Code):Option Nat :=
 (labels c).find? fun l=>match findLabel c l with
  | some r=>gO l r
  | none=>false
def Jg:Code→Nat→Code
 | .seq a b,l=>match findLabel a l with
  | some _=>Jg a l
  | none=>.seq a (Jg b l)
 | _,_=>.skip
def Ha (ss:List Nat) (cs:List gH) (ms:List Nat) (e:Env) (lv:Nat) (first:(Env→T)→T) (after:Env→T):T :=
 T.join cs (first fun e'=>wN e' ss fun vs=>T.again lv vs) (bW (flat cs) fun l=>after (jW ss (parts cs l)++forget e (cd ms)))
def hM:Code→Option Nat
 | .region id _ _=>some id
 | .seq a b=>match hM a with
  | some i=>some i
  | none=>hM b
 | .cond _ a _=>hM a
 | .block _ c=>hM c
 | .loop c=>hM c
 | .scope c=>hM c
 | _=>none
def C9 (cuts:List Nat):Option Nat→Nat→Bool
 | some i,k=>rk (i+k) cuts
 | none,_=>false
def handsOn (P:Program):List Oper→List (Nat × gH)
 | []=>[]
 | [o]=>match o.dst with
  | some d=>[(d,cG P o.type)]
  | none=>[]
 | o::l=>match o.op,o.dst with
  | .assign _,some d=>(d,cG P o.type)::handsOn P l
  | _,_=>handsOn P l
def dU (l:Nat):Code→Bool
 | .label l'=>Nat.beq l l'
 | .seq a _=>dU l a
 | _=>false
def dstsOf (ops:Array Oper):List Nat:=ops.toList.filterMap (·.dst)
mutual
def ej (P:Program) (n:Nat) (cuts:List Nat):Nat→Code→Env→Nat→(Exit→Env→Nat→T)→T
 | 0,_,_,_,_=>T.fail
 | fu+1,c,e,lv,κ =>
  match c with
  | .skip=>κ .normal e lv
  | .label _=>κ .normal e lv
  | .exit i=>κ (.exit i) e lv
  | .goto l=>κ (.goto l) e lv
  | .ret=>κ .ret e lv
  | .seq a b =>
   match C9 cuts (hM b) 1000 with
   | false=>ej P n cuts fu a e lv fun x e' lv'=>match x with
    | .normal=>ej P n cuts fu b e' lv' κ
    | x=>κ x e' lv'
   | true =>
    Ha ((live e (cd (cL a))).map (·.1)) ((live e (cd (cL a))).map fun p=>FT p.2) (cL a) e lv
     (fun k=>ej P n cuts fu a e (lv+1) fun x e' lv'=>match x with
      | .normal=>k e'
      | x=>κ x e' lv')
     (fun e'=>ej P n cuts fu b e' lv κ)
  | .cond c a b=>match ev e c with
   | some (.bool t)=>cond t (ej P n cuts fu a e lv κ) (ej P n cuts fu b e lv κ)
   | _=>T.fail
  | .block id c=>ej P n cuts fu c e lv fun x e' lv'=>match x with
   | .exit i=>match Nat.beq i id with
    | true=>κ .normal e' lv'
    | false=>κ (.exit i) e' lv'
   | x=>κ x e' lv'
  | .region id ops draw =>
   match C9 cuts (some id) 0 with
   | false=>match draw with
    | false=>DG P n ops ops.toList e fun e'=>κ .normal e' lv
    | true=>uo P n id ops e fun e'=>κ .normal e' lv
   | true=>Ha ((handsOn P ops.toList).map (·.1)) ((handsOn P ops.toList).map (·.2)) (dstsOf ops) e lv
     (fun k=>match draw with
      | false=>DG P n ops ops.toList e k
      | true=>uo P n id ops e k)
     (fun e'=>κ .normal e' lv)
  | .loop c=>Dz (cL c) e lv fun e' k=>ej P n cuts fu c e' (lv+1) fun x e'' lv'=>match x with
   | .normal=>k e''
   | x=>κ x e'' lv'
  | .scope c=>match xG c with
   | none=>jy P n cuts fu c c e lv none (fun _=>T.fail) κ
   | some l=>match findLabel c l with
    | none=>T.fail
    | some r=>rU P n cuts fu c c l r e lv κ
  | _=>T.fail
def jy (P:Program) (n:Nat) (cuts:List Nat):Nat→Code→Code→Env→Nat→Option Nat→(Env→T)→(Exit→Env→Nat→T)→T
 | 0,_,_,_,_,_,_,_=>T.fail
 | fu+1,c,r,e,lv,back,k,κ=>ej P n cuts fu r e lv fun x e' lv'=>match x with
  | .goto l=>match jN back l with
   | true=>k e'
   | false=>match findLabel c l with
    | some r'=>jy P n cuts fu c r' e' lv' back k κ
    | none=>κ (.goto l) e' lv'
  | x=>κ x e' lv'
def rU (P:Program) (n:Nat) (cuts:List Nat):Nat→Code→Code→Nat→Code→Env→Nat→(Exit→Env→Nat→T)→T
 | 0,_,_,_,_,_,_,_=>T.fail
 | fu+1,c,t,l,r,e,lv,κ =>
  match dU l t with
  | true=>Dz (cL c) e lv fun e'' k=>jy P n cuts fu c r e'' (lv+1) (some l) k κ
  | false=>match t with
   | .seq a b=>match findLabel a l with
    | some _=>T.fail
    | none=>ej P n cuts fu a e lv fun x e' lv'=>match x with
     | .normal=>rU P n cuts fu c b l r e' lv' κ
     | .goto _=>T.fail
     | x=>κ x e' lv'
   | _=>T.fail
end
def vf (P:Program):List ResultVar→Env→(List Value→T)→T
 | [],_,k=>k []
 | .tmp t::rs,e,k=>bf e (.tmp t) fun v=>vf P rs e fun l=>k (v::l)
 | .cell a t::rs,e,k=>bf e (.tmp a) fun p=>match p,cj P t with
  | .pointer p,some true=>bif (fx P 9 t).length==P.cellsOf t then T.au p fun a=>T.ae a (fx P 9 t) (bW _ fun l=>vf P rs e fun l'=>k (.agg l.toArray::l')) else T.fail
  | .pointer p,some false=>T.au p fun a=>T.ae a (cG P t).2 (bW _ fun l=>vf P rs e fun l'=>k (l.headD undef::l'))
  | _,_=>T.fail
def one (l:List Value):Value :=
 match l with
 | [v]=>v
 | l=>.tuple l.toArray
def BQ:Nat→List Value→Env
 | _,[]=>[]
 | i,v::vs=>(i,some v)::BQ (i+1) vs
def aX (P:Program) (cuts:List Nat) (fn:Func) (args:List Value):T :=
 match fn.body with
 | none=>T.fail
 | some c=>ej P fn.ntmps cuts 100000 c (BQ 0 args) 0 fun x e _=>match x with
  | .normal=>vf P fn.results.toList e fun l=>T.ret (one l)
  | .ret=>vf P fn.results.toList e fun l=>T.ret (one l)
  | _=>T.fail
end Go.Sx
