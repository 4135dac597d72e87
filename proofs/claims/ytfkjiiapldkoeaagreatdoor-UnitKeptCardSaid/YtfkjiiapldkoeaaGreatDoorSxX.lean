/- A framework of our own, part X: from code to trees. No condition. -/
import Derived.Test.YtfkjiiapldkoeaaGreatDoorSxT
set_option linter.unusedVariables false
set_option linter.unusedSimpArgs false
set_option linter.deprecated false
namespace Go.Sx
abbrev Env:=List (Nat × Option Value)
def bS:Env→Nat→Option Value
 | [],_=>none
 | (s,v)::e,t=>bif Nat.beq s t then v else bS e t
def dN (n:Nat) (e:Env) (dst:Option Tmp) (v:Value):Env :=
 match dst with
 | none=>e
 | some d=>bif Nat.blt d n then (d,some v)::e else e
def ev (e:Env):Operand→Option Value
 | .tmp t=>bS e t
 | .const v=>some v
 | .global g=>some (.pointer (some ⟨g,0,none⟩))
 | .func f=>some (.func (.func f) #[] #[])
namespace T
def aw (p:Option Addr) (k:Addr→T):T :=
 match p with
 | some a=>k a
 | none=>T.fail
end T
def fQ (P:Program):Nat→TypeId→List TypeDesc
 | 0,_=>[.invalid]
 | n+1,t =>
  match P.underlying t with
  | some (.struct fs)=>fs.toList.flatMap fun f=>fQ P n f.type
  | some (.array k e)=>(List.replicate k (fQ P n e)).flatten
  | some d=>[d]
  | none=>[.invalid]
def cR (P:Program) (t:TypeId):gX :=
 match P.underlying t with
 | some (.struct _)=>(true,fQ P 9 t)
 | some (.array _ _)=>(true,fQ P 9 t)
 | some d=>(false,[d])
 | none=>(false,[.invalid])
def vj (P:Program) (t:TypeId):Bool × List gX :=
 match P.underlying t with
 | some (.tuple ts)=>(true,ts.toList.map (cR P))
 | _=>(false,[cR P t])
def Ec (b:Bool):List gX :=
 match b with
 | true=>[(false,[.int .i64]),(false,[.int .i32])]
 | false=>[(false,[.string]),(false,[.bool])]
def bi (e:Env) (x:Operand) (k:Value→T):T :=
 match ev e x with
 | some v=>k v
 | none=>T.fail
def gK (e:Env):List Operand→(List Value→T)→T
 | [],k=>k []
 | x::xs,k=>bi e x fun v=>gK e xs fun l=>k (v::l)
def cM (s:ByteArray) (n:Int):Int:=((s.data.toList.getD n.toNat 0).toNat:Nat)
def GN (op:BinOp) (k:IntKind) (x y:Int):Int :=
 match op with
 | .and=>k.wrap (BitVec.ofInt k.bits x &&& BitVec.ofInt k.bits y).toNat
 | .or=>k.wrap (BitVec.ofInt k.bits x ||| BitVec.ofInt k.bits y).toNat
 | .xor=>k.wrap (BitVec.ofInt k.bits x ^^^ BitVec.ofInt k.bits y).toNat
 | _=>k.wrap (BitVec.ofInt k.bits x &&& ~~~ BitVec.ofInt k.bits y).toNat
def Ha (op:BinOp) (k:IntKind) (m n:Int) (kk:Value→T):T :=
 match op with
 | .add=>kk (.int k (k.wrap (m+n)))
 | .sub=>kk (.int k (k.wrap (m-n)))
 | .mul=>kk (.int k (k.wrap (m*n)))
 | .quo=>T.need (n≠0) (kk (.int k (k.wrap (m.tdiv n))))
 | .rem=>T.need (n≠0) (kk (.int k (m.tmod n)))
 | .eql=>kk (.bool (m==n))
 | .neq=>kk (.bool (m != n))
 | .lss=>kk (.bool (decide (m<n)))
 | .leq=>kk (.bool (decide (m≤n)))
 | .gtr=>kk (.bool (decide (m>n)))
 | .geq=>kk (.bool (decide (m≥n)))
 | .and=>kk (.int k (GN .and k m n))
 | .or=>kk (.int k (GN .or k m n))
 | .xor=>kk (.int k (GN .xor k m n))
 | .andNot=>kk (.int k (GN .andNot k m n))
 | _=>T.fail
def x5 (op:BinOp) (k:IntKind) (m n:Int) (kk:Value→T):T :=
 match op with
 | .shl=>T.need (0≤n) (kk (.int k (k.wrap (m*2^(min n.toNat k.bits)))))
 | .shr=>T.need (0≤n) (kk (.int k (m.fdiv (2^(min n.toNat k.bits)))))
 | _=>T.fail
def HV (op:BinOp) (x y:ByteArray) (kk:Value→T):T :=
 match op with
 | .add=>T.need (((x.size+y.size:Nat):Int)≤IntKind.i64.max) (kk (.string (x++y)))
 | .eql=>kk (.bool (x.toList==y.toList))
 | .neq=>kk (.bool !(x.toList==y.toList))
 | .lss=>kk (.bool (Op.bytesLess x.toList y.toList))
 | .leq=>kk (.bool (Op.bytesLess x.toList y.toList || x.toList==y.toList))
 | .gtr=>kk (.bool !(Op.bytesLess x.toList y.toList || x.toList==y.toList))
 | .geq=>kk (.bool !(Op.bytesLess x.toList y.toList))
 | _=>T.fail
def me:BinOp→Bool
 | .shl=>true
 | .shr=>true
 | _=>false
def isNil (x:Operand):Bool :=
 match x with
 | .const (.pointer none)=>true
 | .const (.slice none 0 0)=>true
 | .const (.map none)=>true
 | _=>false
def bU (op:BinOp) (t:TypeId) (x y:Operand) (a b:Value):Sem Value:=do eqGuard op t x y a b; binOp op t a b
def MB (P:Program) (op:BinOp) (t:TypeId) (x y:Operand) (a b:Value) (kk:Value→T):T :=
 T.aS P (bU op t x y a b) false [(false,[.bool])] fun r=>kk (.bool r)
def asked (op:BinOp) (b:Bool) (kk:Value→T) (other:T):T :=
 match op with
 | .eql=>kk (.bool b)
 | .neq=>kk (.bool !b)
 | _=>other
def tM (P:Program) (t:TypeId) (x y:Operand):Bool :=
 match P.underlying t with
 | some (.int _)=>true
 | some .string=>true
 | some .bool=>true
 | some (.pointer _)=>isNil y
 | some (.slice _)=>isNil y
 | some (.map _ _)=>isNil y
 | _=>false
def AX (P:Program) (op:BinOp) (t:TypeId) (a b:Value) (kk:Value→T):T :=
 match a,b with
 | .int k m,.int k' n =>
  match me op with
  | true=>x5 op k m n kk
  | false=>match decide (k=k') with
   | true=>Ha op k m n kk
   | false=>T.fail
 | .string m,.string n=>HV op m n kk
 | .bool m,.bool n =>
  match P.underlying t with
  | some .bool=>asked op (m==n) kk T.fail
  | _=>T.fail
 | .pointer p,.pointer _ =>
  match P.underlying t with
  | some (.pointer _)=>asked op p.isNone kk T.fail
  | _=>T.fail
 | .slice p _ _,.slice _ _ _ =>
  match P.underlying t with
  | some (.slice _)=>asked op p.isNone kk T.fail
  | _=>T.fail
 | .map p,.map _ =>
  match P.underlying t with
  | some (.map _ _)=>asked op p.isNone kk T.fail
  | _=>T.fail
 | _,_=>T.fail
def Fj (P:Program) (op:BinOp) (t:TypeId) (x y:Operand) (a b:Value) (kk:Value→T):T :=
 match tM P t x y with
 | true=>AX P op t a b kk
 | false=>MB P op t x y a b kk
def Lv (op:UnOp) (a:Value) (kk:Value→T):T :=
 match op,a with
 | .neg,.int k n=>kk (.int k (k.wrap (0-n)))
 | .xor,.int k n=>kk (.int k (GN .xor k (if k.signed then -1 else k.max) n))
 | .not,.bool b=>kk (.bool !b)
 | _,_=>T.fail
def BM (P:Program) (src dst:TypeId) (a:Value) (kk:Value→T):T :=
 match P.underlying src,P.underlying dst,a with
 | some (.int _),some (.int k),.int _ n=>kk (.int k (k.wrap n))
 | some .string,some .string,.string s=>kk (.string s)
 | some .string,some .string,_=>T.fail
 | _,some (.slice _),_=>T.aS P (convert src dst a) false [(false,[.slice 0])] fun p l c=>kk (.slice p l c)
 | _,some .string,_=>T.aS P (convert src dst a) false [(false,[.string])] fun s=>kk (.string s)
 | _,_,_=>T.fail
def uS:Option Value→Int
 | some (.int _ n)=>n
 | _=>0
def ia:Option Value→Bool
 | some (.int _ _)=>true
 | none=>true
 | _=>false
def rC (d:Int):Option Value→Int
 | some (.int _ n)=>n
 | _=>d
def qN (P:Program) (t:TypeId):Bool:=(P.info? t).isSome
def jR (P:Program) (t:TypeId) (a:Value) (lo hi mx:Option Value) (kk:Value→T):T :=
 match ia lo && ia hi && ia mx with
 | false=>T.fail
 | true =>
  match P.underlying t with
  | some .string=>match a,mx with
   | .string s,none =>
    T.need (0≤uS lo∧uS lo≤rC s.size hi∧rC s.size hi≤s.size) (kk (.string (s.extract (uS lo).toNat (rC s.size hi).toNat)))
   | _,_=>T.fail
  | some (.slice e)=>match mx with
   | some _=>T.aS P (Instr.sliceAt t a lo hi mx) false [(false,[.slice 0])] fun p l c=>kk (.slice p l c)
   | none=>match a with
    | .slice p len cap =>
     match qN P e with
     | false=>T.fail
     | true=>T.need (0≤uS lo∧uS lo≤rC len hi∧rC len hi≤cap) (kk (.slice (if cap=(uS lo).toNat then p else p.map (·.add ((uS lo).toNat*P.cellsOf e))) ((rC len hi).toNat-(uS lo).toNat) (cap-(uS lo).toNat)))
    | _=>T.fail
  | _=>T.aS P (Instr.sliceAt t a lo hi mx) false [(false,[.slice 0])] fun p l c=>kk (.slice p l c)
def xr (P:Program) (t:TypeId) (cs:List Value) (off:Nat) (kk:Value→T):T :=
 match P.underlying t with
 | some (.struct _)=>kk (.agg ((cs.drop off).take (P.cellsOf t)).toArray)
 | some (.array _ _)=>kk (.agg ((cs.drop off).take (P.cellsOf t)).toArray)
 | some _=>match cs[off]? with
  | some v=>kk v
  | none=>T.fail
 | none=>T.fail
def cE (P:Program) (t:TypeId):Option Bool :=
 match P.underlying t with
 | some (.struct _)=>some true
 | some (.array _ _)=>some true
 | some _=>some false
 | none=>none
def mn:Value→List Value
 | .agg cs=>cs.toList
 | _=>[]
def eG:Value→Bool
 | .agg _=>true
 | _=>false
def gn (P:Program) (f:FuncId):Bool :=
 match P.funcs[f]? with
 | some fn => fn.body.isSome && !(fn.name == "runtime.NumGoroutine")
 | none=>false
def Ip:Operand→Bool
 | .tmp _=>true
 | .const _=>false
 | .global _=>false
 | .func _=>false
def Hu (f:FuncId) (args:Array Value):Sem Value:=do
 match ← callFunc f args with
 | .value v=>pure v
 | _ => stuck "no value"
def DX (P:Program) (f:FuncId) (args:List Value) (t:TypeId) (kk:Value→T):T :=
 match gn P f with
 | true=>T.call P f args (vj P t).1 (vj P t).2 (cd _ fun l=>kk (rv (vj P t).1 (vj P t).2 l))
 | false=>T.aS P (Hu f args.toArray) (vj P t).1 (vj P t).2 (cd _ fun l=>kk (rv (vj P t).1 (vj P t).2 l))
def Fm (P:Program) (c:Call) (t:TypeId) (args:List Value) (kk:Value→T):T :=
 match (c.argTypes[0]?).bind P.underlying with
 | some .string=>match args with
  | [.string s]=>kk (.int .i64 s.size)
  | _=>T.fail
 | some (.slice _)=>match args with
  | [.slice _ n _]=>kk (.int .i64 n)
  | _=>T.fail
 | _=>T.aS P (Builtin.len_ c.argTypes t args.toArray) false [(false,[.int .i64])] fun n=>kk (.int .i64 n)
def FI (P:Program) (c:Call) (args:List Value) (kk:Value→T):T :=
 match (c.argTypes[0]?).bind P.underlying with
 | some (.slice _)=>match args with
  | [.slice _ _ n]=>kk (.int .i64 n)
  | _=>T.fail
 | _=>T.fail
def tk (P:Program) (b:Builtin) (c:Call) (t:TypeId) (args:List Value) (kk:Value→T):T :=
 match b,args with
 | .len,_=>Fm P c t args kk
 | .cap,_=>FI P c args kk
 | .append,_=>T.aS P (Builtin.append_ c.argTypes t args.toArray) false [(false,[.slice 0])] fun p l cp=>kk (.slice p l cp)
 | .copy,_=>T.aS P (Builtin.copy_ c.argTypes t args.toArray) false [(false,[.int .i64])] fun n=>kk (.int .i64 n)
 | .min,_=>T.aS P (Builtin.min_ c.argTypes t args.toArray) false [cR P t] (cd _ fun l=>kk (rv false [cR P t] l))
 | .max,_=>T.aS P (Builtin.max_ c.argTypes t args.toArray) false [cR P t] (cd _ fun l=>kk (rv false [cR P t] l))
 | .delete,_=>T.aS P (Builtin.delete_ c.argTypes t args.toArray) true [] (kk (.tuple #[]))
 | .unsafeString,_=>T.aS P (Builtin.unsafeString_ c.argTypes t args.toArray) false [cR P t] (cd _ fun l=>kk (rv false [cR P t] l))
 | .unsafeSliceData,_=>T.aS P (Builtin.unsafeSliceData_ c.argTypes t args.toArray) false [cR P t] (cd _ fun l=>kk (rv false [cR P t] l))
 | _,_=>T.fail
def MI (P:Program) (t:TypeId) (lo hi mx:Option Operand) (a:Value) (vs:List Value) (kk:Value→T):T :=
 match lo,hi,mx,vs with
 | none,none,none,[]=>jR P t a none none none kk
 | some _,none,none,[l]=>jR P t a (some l) none none kk
 | none,some _,none,[h]=>jR P t a none (some h) none kk
 | some _,some _,none,[l,h]=>jR P t a (some l) (some h) none kk
 | some _,some _,some _,[l,h,m]=>jR P t a (some l) (some h) (some m) kk
 | none,some _,some _,[h,m]=>jR P t a none (some h) (some m) kk
 | _,_,_,_=>T.fail
def Bc (P:Program) (t:TypeId) (v i:Value) (kk:Value→T):T :=
 match v,i,P.underlying t with
 | .slice p len _,.int _ n,some (.slice el)=>bif !qN P el then T.fail else T.need (0≤n∧n<len) (T.aw p fun a=>kk (.pointer (some (a.add (n.toNat*P.cellsOf el)))))
 | .pointer p,.int _ n,some (.array len el)=>bif !qN P el then T.fail else T.need (0≤n∧n<len) (T.aw p fun a=>kk (.pointer (some (a.add (n.toNat*P.cellsOf el)))))
 | _,_,_=>T.fail
def Gp (P:Program) (t:TypeId) (v i:Value) (kk:Value→T):T :=
 match v,i,P.underlying t with
 | .string s,.int _ n,some .string=>T.need (0≤n∧n<s.size) (kk (.int .u8 (cM s n)))
 | v,i,some (.array len el)=>T.aS P (Instr.index t v i) false [cR P el] (cd _ fun l=>kk (rv false [cR P el] l))
 | _,_,_=>T.fail
def FG (xs:List Value):Nat→List Value→List Value
 | _,[]=>xs
 | i,v::vs=>FG (xs.set i v) (i+1) vs
def iX (place:Nat→Option (Nat × Nat)) (cells:List Value):List (Nat × List Value)→Option (List Value)
 | []=>some cells
 | (i,l)::rest =>
  match place i with
  | none=>none
  | some (off,size)=>bif !(Nat.beq l.length size) || Nat.blt cells.length (off+l.length) then none else iX place (FG cells off l) rest
def fI (agg:Nat→Option Bool):List (Nat × Value)→(List (Nat × List Value)→T)→T
 | [],k=>k []
 | (i,v)::l,k =>
  match agg i with
  | some true=>cond (eG v) (fI agg l fun r=>k ((i,mn v)::r)) T.fail
  | some false=>cond (eG v) T.fail (fI agg l fun r=>k ((i,[v])::r))
  | none=>T.fail
def vB (P:Program) (o:Oper) (e:Env) (kk:Value→T):T :=
 match o.op with
 | .move x=>bi e x kk
 | .assign x=>bi e x kk
 | .pick c a b=>bi e c fun c=>match c with
  | .bool b'=>cond b' (bi e a kk) (bi e b kk)
  | _=>T.fail
 | .alloc t=>match (P.info? t).bind (·.zero) with
  | some z=>T.new z.cells.toList t fun a=>kk (.pointer (some a))
  | none=>T.fail
 | .box t x=>bi e x fun v=>match cE P t with
  | some true=>cond (eG v) (T.new (mn v) t fun a=>kk (.pointer (some a))) T.fail
  | some false=>cond (eG v) T.fail (T.new [v] t fun a=>kk (.pointer (some a)))
  | none=>T.fail
 | .build t ps=>gK e (ps.toList.map (·.2)) fun vs=>match P.underlying t,(P.info? t).bind (·.zero) with
  | some (.struct fs),some z =>
   bif !(fs.all fun f=>qN P f.type) then T.fail else fI (fun i=>(fs[i]?).bind fun f=>cE P f.type) ((ps.toList.map (·.1)).zip vs) fun ls=>match iX (((fs.map fun f=>(f.offset,P.cellsOf f.type)))[·]?) z.cells.toList ls with
   | some cs=>kk (.agg cs.toArray)
   | none=>T.fail
  | some (.array _ el),some z =>
   bif !qN P el then T.fail else fI (fun _=>cE P el) ((ps.toList.map (·.1)).zip vs) fun ls=>match iX (fun i=>some (i*P.cellsOf el,P.cellsOf el)) z.cells.toList ls with
   | some cs=>kk (.agg cs.toArray)
   | none=>T.fail
  | _,_=>T.fail
 | .buildSlice t len ps=>gK e (ps.toList.map (·.2)) fun vs =>
  T.aS P (Instr.buildSlice t len ((ps.toList.map (·.1)).zip vs).toArray) false [(false,[.slice 0])] fun p l c=>kk (.slice p l c)
 | .load t x=>bi e x fun v=>match v,cE P t with
  | .pointer p,some true=>bif (fQ P 9 t).length==P.cellsOf t then T.aw p fun a=>T.ae a (fQ P 9 t) (cd _ fun l=>kk (.agg l.toArray)) else T.fail
  | .pointer p,some false=>T.aw p fun a=>T.ae a (cR P t).2 (cd _ fun l=>kk (l.headD undef))
  | _,_=>T.fail
 | .store t x y=>bi e x fun p=>bi e y fun v=>match p,cE P t with
  | .pointer p,some true=>cond (eG v) (bif (mn v).length==P.cellsOf t then T.aw p fun a=>T.ao a (mn v) (kk undef) else T.fail) T.fail
  | .pointer p,some false=>bif P.cellsOf t==1 then cond (eG v) T.fail (T.aw p fun a=>T.ao a [v] (kk undef)) else T.fail
  | _,_=>T.fail
 | .nilCheck x=>bi e x fun v=>match v with
  | .pointer p=>T.aw p fun a=>kk (.pointer (some a))
  | .func (.func f) fi ca=>kk (.func (.func f) fi ca)
  | .iface t v=>kk (.iface t v)
  | _=>T.fail
 | .binOp op t x y _=>bi e x fun a=>bi e y fun b=>Fj P op t x y a b kk
 | .unOp op _ x=>bi e x fun a=>Lv op a kk
 | .convert s d x=>bi e x fun a=>BM P s d a kk
 | .makeInterface t x=>bi e x fun a=>match P.underlying t with
  | some (.interface _)=>T.fail
  | some _=>kk (.iface t a)
  | none=>T.fail
 | .makeFunc fn fi ca=>gK e fi.toList fun fi=>gK e ca.toList fun ca=>kk (.func fn fi.toArray ca.toArray)
 | .makeMap t none=>T.aS P (Instr.makeMap t none) false [(false,[.map 0 0])] fun r=>kk (.map r)
 | .makeSlice t l c=>bi e l fun l=>bi e c fun c=>T.aS P (Instr.makeSlice t l c) false [(false,[.slice 0])] fun p l c=>kk (.slice p l c)
 | .slice t x lo hi mx=>bi e x fun a=>gK e (lo.toList++hi.toList++mx.toList) fun vs=>MI P t lo hi mx a vs kk
 | .fieldAddr s x f=>bi e x fun v=>match v,P.underlying s with
  | .pointer p,some (.struct fs)=>match fs[f]? with
   | some fd=>match P.cellsOf fd.type with
    | 0=>T.fail
    | _+1=>T.aw p fun a=>kk (.pointer (some (a.add fd.offset)))
   | none=>T.fail
  | _,_=>T.fail
 | .field s x f=>bi e x fun v=>match v,P.underlying s with
  | .agg cs,some (.struct fs)=>match fs[f]? with
   | some fd=>xr P fd.type cs.toList fd.offset kk
   | none=>T.fail
  | _,_=>T.fail
 | .indexAddr t x i=>bi e x fun v=>bi e i fun i=>Bc P t v i kk
 | .index t x i=>bi e x fun v=>bi e i fun i=>Gp P t v i kk
 | .lookup t m x ok=>bi e m fun m=>bi e x fun x=>match P.underlying t with
  | some (.map _ el)=>match ok with
   | true=>T.aS P (Instr.lookup t m x true) true [cR P el,(false,[.bool])] (cd _ fun l=>kk (rv true [cR P el,(false,[.bool])] l))
   | false=>T.aS P (Instr.lookup t m x false) false [cR P el] (cd _ fun l=>kk (rv false [cR P el] l))
  | _=>T.fail
 | .mapUpdate t m x v=>bi e m fun m=>bi e x fun x=>bi e v fun v=>T.nr P (Instr.mapUpdate t m x v) (kk undef)
 | .insert t m x v=>bi e m fun m=>bi e x fun x=>bi e v fun v=>T.nr P (Instr.mapUpdate t m x v) (kk undef)
 | .mapEntry t m x=>bi e m fun m=>bi e x fun x=>match P.underlying t with
  | some (.map _ el)=>T.aS P (Instr.mapEntry t m x) true [cR P el,(false,[.int .i64])] (cd _ fun l=>kk (rv true [cR P el,(false,[.int .i64])] l))
  | _=>T.fail
 | .entryStore t m x v=>bi e m fun m=>bi e x fun x=>bi e v fun v=>T.nr P (Instr.entryStore t m x v) (kk undef)
 | .range t x=>bi e x fun x=>T.aS P (Instr.range t x) false [(false,[.pointer 0])] fun p=>kk (.pointer p)
 | .next it b=>bi e it fun it=>match P.underlying o.type with
  | some (.tuple ts)=>match ts.toList with
   | []=>T.next P (Instr.next it b o.type) (Ec b) (kk (.tuple #[.bool false])) (cd _ fun l=>kk (.tuple (.bool true::parts (Ec b) l).toArray))
   | _::ts=>T.next P (Instr.next it b o.type) (ts.map (cR P)) (kk (.tuple #[.bool false])) (cd _ fun l=>kk (.tuple (.bool true::parts (ts.map (cR P)) l).toArray))
  | _=>T.fail
 | .entry it=>bi e it fun it=>T.aS P (Instr.entry it) true (Ec false) (cd _ fun l=>kk (rv true (Ec false) l))
 | .typeAssert x t d ok=>bi e x fun x=>match ok with
  | true=>T.aS P (Instr.typeAssert x t d true) true [cR P d,(false,[.bool])] (cd _ fun l=>kk (rv true [cR P d,(false,[.bool])] l))
  | false=>T.aS P (Instr.typeAssert x t d false) false [cR P d] (cd _ fun l=>kk (rv false [cR P d] l))
 | .extract x i=>bi e x fun v=>match v with
  | .tuple vs=>match vs.toList[i]? with
   | some v=>kk v
   | none=>T.fail
  | _=>T.fail
 | .call c=>match c.callee with
  | .builtin b=>gK e c.args.toList fun vs=>tk P b c o.type vs kk
  | .value g=>match Ip g with
   | true=>bi e g fun g=>gK e c.args.toList fun vs=>T.oz P g vs (vj P o.type).1 (vj P o.type).2 (cd _ fun l=>kk (rv (vj P o.type).1 (vj P o.type).2 l))
   | false=>bi e g fun g=>gK e c.args.toList fun vs=>match g with
    | .func (.func f) fi ca=>DX P f (fi.toList++vs++ca.toList) o.type kk
    | .func (.method _) _ _=>T.fail
    | .func (.methodOf _ _) _ _=>T.fail
    | .func (.via _ _ _ _) _ _=>T.fail
    | .func (.yield _) _ _=>T.fail
    | .nilFunc=>T.fail
    | .bool _=>T.fail
    | .int _ _=>T.fail
    | .float _ _=>T.fail
    | .complex _ _ _=>T.fail
    | .string _=>T.fail
    | .pointer _=>T.fail
    | .slice _ _ _=>T.fail
    | .map _=>T.fail
    | .chan _=>T.fail
    | .iface _ _=>T.fail
    | .nilIface=>T.fail
    | .agg _=>T.fail
    | .tuple _=>T.fail
  | .invoke _ _=>T.fail
 | _=>T.fail
def guardOf (ops:Array Oper) (o:Oper):Option (Option Tmp × Bool) :=
 match o.guard with
 | none=>none
 | some (j,want)=>some ((ops[j]?).bind (·.dst),want)
def o0 (n:Nat) (ops:Array Oper) (o:Oper) (e:Env) (yes no:Env→T):T :=
 match guardOf ops o with
 | none=>yes e
 | some (none,_)=>no e
 | some (some d,want) =>
  match bS e d with
  | some (.bool b)=>match want with
   | true=>cond b (yes (dN n e (some d) (.bool true))) (no (dN n e (some d) (.bool false)))
   | false=>cond b (no (dN n e (some d) (.bool true))) (yes (dN n e (some d) (.bool false)))
  | some (.tuple _)=>no e
  | _=>T.fail
def E8 (P:Program) (n:Nat) (ops:Array Oper):List Oper→Env→(Env→T)→T
 | [],e,k=>k e
 | o::rest,e,k=>o0 n ops o e (fun e=>vB P o e fun v=>E8 P n ops rest (dN n e o.dst v) k) (fun e=>E8 P n ops rest (dN n e o.dst undef) k)
def oJ (P:Program) (o:Oper):Bool :=
 match o.op with
 | .move _=>true
 | .pick _ _ _=>true
 | .build _ _=>true
 | .nilCheck _=>true
 | .binOp _ t x y _=>tM P t x y
 | .unOp _ _ _=>true
 | .convert s d _=>match P.underlying s,P.underlying d with
  | some (.int _),some (.int _)=>true
  | some .string,some .string=>true
  | _,_=>false
 | .makeInterface _ _=>true
 | .makeFunc _ _ _=>true
 | .slice t _ _ _ none=>match P.underlying t with
  | some .string=>true
  | some (.slice _)=>true
  | _=>false
 | .fieldAddr _ _ _=>true
 | .field _ _ _=>true
 | .indexAddr _ _ _=>true
 | .index t _ _=>match P.underlying t with
  | some .string=>true
  | _=>false
 | .extract _ _=>true
 | .call c=>match c.callee with
  | .builtin .len=>match (c.argTypes[0]?).bind P.underlying with
   | some .string=>true
   | some (.slice _)=>true
   | _=>false
  | .builtin .cap=>match (c.argTypes[0]?).bind P.underlying with
   | some (.slice _)=>true
   | _=>false
  | _=>false
 | _=>false
def wX (o:Oper):Bool :=
 match o.op with
 | .load _ _=>true
 | _=>false
def calm (P:Program) (o:Oper):Bool:=oJ P o || wX o
def rM (x:Nat):List Nat→Bool
 | []=>false
 | y::l=>Nat.beq x y || rM x l
def waits (o:Oper):List Nat:=(o.after.toList.filter fun e=>Region.binds .any e).map (·.on)
def tN (D:List Nat) (i:Nat) (o:Oper):Bool:=!rM i D && (waits o).all fun j=>rM j D
def looks (ops : Array Oper) (o : Oper) : List Nat :=
  (o.op.operands.toList.filterMap fun | .tmp t => some t | _ => none) ++
  (match o.guard with
   | some (g, _) => ((ops[g]?).bind (·.dst)).toList
   | none => [])
def ke:Option Nat→Nat→Bool
 | some d,s=>Nat.beq d s
 | none,_=>false
def CV (P : Program) (ops : Array Oper) (i j : Nat) (x y : Oper) : Bool :=
  match Nat.beq i j with
  | true => (match x.dst with
    | some d => !calm P x || !rM d (looks ops x)
    | none => true)
  | false => (match y.dst with
    | some d => !rM d (looks ops x) || rM j (waits x) || (rM i (waits y) && !calm P y)
    | none => true) &&
   (match x.dst, calm P x with
    | some d, true => !ke y.dst d
    | _, _ => true)
def idx:Nat→List Oper→List (Nat × Oper)
 | _,[]=>[]
 | i,o::l=>(i,o)::idx (i+1) l
def dJ (P : Program) (n : Nat) (ops : Array Oper) : Bool :=
  ((idx 0 ops.toList).all fun p => match p.2.dst with
    | some d => Nat.blt d n
    | none => true) && (idx 0 ops.toList).all fun p => (idx 0 ops.toList).all fun q => CV P ops p.1 q.1 p.2 q.2
abbrev Made:=List (Nat × Addr × List Value)
def nM (o:Oper):Made→List (Addr × List Value)
 | []=>[]
 | (i,a,l)::m=>bif rM i (waits o) then nM o m else (a,l)::nM o m
def zZ (l:List (Addr × List Value)) (t:T):T :=
 match l with
 | []=>t
 | p::l=>T.aB (p::l) t
def Mk:List T→T
 | []=>T.fail
 | [t]=>t
 | t::ts=>T.all (t::ts)
def qu (P:Program) (t:TypeId) (x:Operand) (e:Env) (kk:Addr→List Value→Value→T):T :=
 bi e x fun v=>match v,cE P t with
  | .pointer p,some true=>bif (fQ P 9 t).length==P.cellsOf t then T.aw p fun a=>T.ae a (fQ P 9 t) (cd _ fun l=>kk a l (.agg l.toArray)) else T.fail
  | .pointer p,some false=>T.aw p fun a=>T.ae a (cR P t).2 (cd _ fun l=>kk a l (l.headD undef))
  | _,_=>T.fail
def cI (P:Program) (D:List Nat) (c:Bool):List (Nat × Oper)→List (Nat × Oper)
 | []=>[]
 | p::l=>match tN D p.1 p.2 && (calm P p.2==c) with
  | true=>p::cI P D c l
  | false=>cI P D c l
def iw (P:Program) (n:Nat) (ops:Array Oper):Nat→List Nat→Env→Made→(Env→T)→T
 | 0,_,_,_,_=>T.fail
 | fu+1,D,e,m,k =>
  match cI P D true (idx 0 ops.toList) with
  | (i,o)::_ =>
   o0 n ops o e (fun e=>match o.op with
    | .load t x=>qu P t x e fun a l v=>iw P n ops fu (i::D) (dN n e o.dst v) ((i,a,l)::m) k
    | _=>vB P o e fun v=>iw P n ops fu (i::D) (dN n e o.dst v) m k)
    fun e=>iw P n ops fu (i::D) (dN n e o.dst undef) m k
  | [] =>
   match cI P D false (idx 0 ops.toList) with
   | []=>k e
   | q::qs=>Mk ((q::qs).map fun p=>o0 n ops p.2 e (fun e=>vB P p.2 e fun v=>zZ (nM p.2 m) (iw P n ops fu (p.1::D) (dN n e p.2.dst v) m k))
     fun e=>iw P n ops fu (p.1::D) (dN n e p.2.dst undef) m k)
def vt (P:Program) (n:Nat) (_id:Nat) (ops:Array Oper) (e:Env) (k:Env→T):T :=
 match dJ P n ops with
 | true=>iw P n ops (ops.size+1) [] e [] k
 | false=>T.fail
def cZ:Code→List Nat
 | .region _ ops _=>ops.toList.filterMap (·.dst)
 | .seq a b=>cZ a++cZ b
 | .cond _ a b=>cZ a++cZ b
 | .block _ c=>cZ c
 | .loop c=>cZ c
 | .scope c=>cZ c
 | .rangeFunc _ ps a b=>ps.toList++cZ a++cZ b
 | _=>[]
def pB (x:Nat):List Nat→List Nat
 | []=>[x]
 | y::l=>bif Nat.blt x y then x::y::l else bif Nat.beq x y then y::l else y::pB x l
def cP (l:List Nat):List Nat:=l.foldl (fun acc x=>pB x acc) []
def Kt:Value→TypeDesc
 | .bool _=>.bool
 | .int k _=>.int k
 | .string _=>.string
 | .pointer _=>.pointer 0
 | .slice _ _ _=>.slice 0
 | .map _=>.map 0 0
 | _=>.invalid
def HY:Value→gX
 | .agg cs=>(true,cs.toList.map Kt)
 | v=>(false,[Kt v])
def live (e:Env):List Nat→List (Nat × Value)
 | []=>[]
 | s::l=>match bS e s with
  | some v=>(s,v)::live e l
  | none=>live e l
def forget (e:Env) (l:List Nat):Env:=l.map (fun s=>(s,none))++e
def kB (l:List Nat) (vs:List Value):Env:=(l.zip vs).map fun p=>(p.1,some p.2)
def vL (e:Env):List Nat→(List Value→T)→T
 | [],k=>k []
 | s::l,k=>match bS e s with
  | some v=>vL e l fun vs=>k (v::vs)
  | none=>T.fail
def DN (ms:List Nat) (e:Env) (lv:Nat) (body:Env→(Env→T)→T):T :=
 let lvs:=live e (cP ms)
 let ss:=lvs.map (·.1)
 let cs:=lvs.map fun p=>HY p.2
 T.loop cs (lvs.map (·.2)) (cd (flat cs) fun l=>body (kB ss (parts cs l)++forget e (cP ms)) fun e'=>vL e' ss fun vs=>T.again lv vs)
def iq (l:Nat):Code→Bool
 | .goto l'=>Nat.beq l l'
 | .seq a b=>iq l a || iq l b
 | .cond _ a b=>iq l a || iq l b
 | .block _ c=>iq l c
 | .loop c=>iq l c
 | .scope c=>iq l c
 | .rangeFunc _ _ a b=>iq l a || iq l b
 | _=>false
def labels:Code→List Nat
 | .label l=>[l]
 | .seq a b=>labels a++labels b
 | _=>[]
def zn (c:Code):Option Nat :=
 (labels c).find? fun l=>match findLabel c l with
  | some r=>iq l r
  | none=>false
def Kz:Code→Nat→Code
 | .seq a b,l=>match findLabel a l with
  | some _=>Kz a l
  | none=>.seq a (Kz b l)
 | _,_=>.skip
def HM (ss:List Nat) (cs:List gX) (ms:List Nat) (e:Env) (lv:Nat) (first:(Env→T)→T) (after:Env→T):T :=
 T.join cs (first fun e'=>vL e' ss fun vs=>T.again lv vs) (cd (flat cs) fun l=>after (kB ss (parts cs l)++forget e (cP ms)))
def iC:Code→Option Nat
 | .region id _ _=>some id
 | .seq a b=>match iC a with
  | some i=>some i
  | none=>iC b
 | .cond _ a _=>iC a
 | .block _ c=>iC c
 | .loop c=>iC c
 | .scope c=>iC c
 | _=>none
def D5 (cuts:List Nat):Option Nat→Nat→Bool
 | some i,k=>rM (i+k) cuts
 | none,_=>false
def handsOn (P:Program):List Oper→List (Nat × gX)
 | []=>[]
 | [o]=>match o.dst with
  | some d=>[(d,cR P o.type)]
  | none=>[]
 | o::l=>match o.op,o.dst with
  | .assign _,some d=>(d,cR P o.type)::handsOn P l
  | _,_=>handsOn P l
def ep (l:Nat):Code→Bool
 | .label l'=>Nat.beq l l'
 | .seq a _=>ep l a
 | _=>false
def dstsOf (ops:Array Oper):List Nat:=ops.toList.filterMap (·.dst)
mutual
def ey (P:Program) (n:Nat) (cuts:List Nat):Nat→Code→Env→Nat→(Exit→Env→Nat→T)→T
 | 0,_,_,_,_=>T.fail
 | fu+1,c,e,lv,κ =>
  match c with
  | .skip=>κ .normal e lv
  | .label _=>κ .normal e lv
  | .exit i=>κ (.exit i) e lv
  | .goto l=>κ (.goto l) e lv
  | .ret=>κ .ret e lv
  | .seq a b =>
   match D5 cuts (iC b) 1000 with
   | false=>ey P n cuts fu a e lv fun x e' lv'=>match x with
    | .normal=>ey P n cuts fu b e' lv' κ
    | x=>κ x e' lv'
   | true =>
    HM ((live e (cP (cZ a))).map (·.1)) ((live e (cP (cZ a))).map fun p=>HY p.2) (cZ a) e lv
     (fun k=>ey P n cuts fu a e (lv+1) fun x e' lv'=>match x with
      | .normal=>k e'
      | x=>κ x e' lv')
     (fun e'=>ey P n cuts fu b e' lv κ)
  | .cond c a b=>match ev e c with
   | some (.bool t)=>cond t (ey P n cuts fu a e lv κ) (ey P n cuts fu b e lv κ)
   | _=>T.fail
  | .block id c=>ey P n cuts fu c e lv fun x e' lv'=>match x with
   | .exit i=>match Nat.beq i id with
    | true=>κ .normal e' lv'
    | false=>κ (.exit i) e' lv'
   | x=>κ x e' lv'
  | .region id ops draw =>
   match D5 cuts (some id) 0 with
   | false=>match draw with
    | false=>E8 P n ops ops.toList e fun e'=>κ .normal e' lv
    | true=>vt P n id ops e fun e'=>κ .normal e' lv
   | true=>HM ((handsOn P ops.toList).map (·.1)) ((handsOn P ops.toList).map (·.2)) (dstsOf ops) e lv
     (fun k=>match draw with
      | false=>E8 P n ops ops.toList e k
      | true=>vt P n id ops e k)
     (fun e'=>κ .normal e' lv)
  | .loop c=>DN (cZ c) e lv fun e' k=>ey P n cuts fu c e' (lv+1) fun x e'' lv'=>match x with
   | .normal=>k e''
   | x=>κ x e'' lv'
  | .scope c=>match zn c with
   | none=>ju P n cuts fu c c e lv none (fun _=>T.fail) κ
   | some l=>match findLabel c l with
    | none=>T.fail
    | some r=>tL P n cuts fu c c l r e lv κ
  | _=>T.fail
def ju (P:Program) (n:Nat) (cuts:List Nat):Nat→Code→Code→Env→Nat→Option Nat→(Env→T)→(Exit→Env→Nat→T)→T
 | 0,_,_,_,_,_,_,_=>T.fail
 | fu+1,c,r,e,lv,back,k,κ=>ey P n cuts fu r e lv fun x e' lv'=>match x with
  | .goto l=>match ke back l with
   | true=>k e'
   | false=>match findLabel c l with
    | some r'=>ju P n cuts fu c r' e' lv' back k κ
    | none=>κ (.goto l) e' lv'
  | x=>κ x e' lv'
def tL (P:Program) (n:Nat) (cuts:List Nat):Nat→Code→Code→Nat→Code→Env→Nat→(Exit→Env→Nat→T)→T
 | 0,_,_,_,_,_,_,_=>T.fail
 | fu+1,c,t,l,r,e,lv,κ =>
  match ep l t with
  | true=>DN (cZ c) e lv fun e'' k=>ju P n cuts fu c r e'' (lv+1) (some l) k κ
  | false=>match t with
   | .seq a b=>match findLabel a l with
    | some _=>T.fail
    | none=>ey P n cuts fu a e lv fun x e' lv'=>match x with
     | .normal=>tL P n cuts fu c b l r e' lv' κ
     | .goto _=>T.fail
     | x=>κ x e' lv'
   | _=>T.fail
end
def wx (P:Program):List ResultVar→Env→(List Value→T)→T
 | [],_,k=>k []
 | .tmp t::rs,e,k=>bi e (.tmp t) fun v=>wx P rs e fun l=>k (v::l)
 | .cell a t::rs,e,k=>bi e (.tmp a) fun p=>match p,cE P t with
  | .pointer p,some true=>bif (fQ P 9 t).length==P.cellsOf t then T.aw p fun a=>T.ae a (fQ P 9 t) (cd _ fun l=>wx P rs e fun l'=>k (.agg l.toArray::l')) else T.fail
  | .pointer p,some false=>T.aw p fun a=>T.ae a (cR P t).2 (cd _ fun l=>wx P rs e fun l'=>k (l.headD undef::l'))
  | _,_=>T.fail
def one (l:List Value):Value :=
 match l with
 | [v]=>v
 | l=>.tuple l.toArray
def CP:Nat→List Value→Env
 | _,[]=>[]
 | i,v::vs=>(i,some v)::CP (i+1) vs
def aZ (P:Program) (cuts:List Nat) (fn:Func) (args:List Value):T :=
 match fn.body with
 | none=>T.fail
 | some c=>ey P fn.ntmps cuts 100000 c (CP 0 args) 0 fun x e _=>match x with
  | .normal=>wx P fn.results.toList e fun l=>T.ret (one l)
  | .ret=>wx P fn.results.toList e fun l=>T.ret (one l)
  | _=>T.fail
end Go.Sx
