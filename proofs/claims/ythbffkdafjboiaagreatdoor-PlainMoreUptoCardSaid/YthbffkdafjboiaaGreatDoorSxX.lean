/- Part of the framework. No condition. -/
import Derived.Test.YthbffkdafjboiaaGreatDoorSxT
set_option linter.all false
set_option maxHeartbeats 4000000
namespace Go.Sx
abbrev Env:=List (Nat × Option Xab)
def cQ:Env->Nat->Option Xab
 | [],_=>none
 | (s,v)::e,t=>bif Nat.beq s t then v else cQ e t
def dZ (n:Nat) (e:Env) (dst:Option Tmp) (v:Xab):Env :=
 match dst with
 | none=>e
 | some d=>bif Nat.blt d n then (d,some v)::e else e
def ev (e:Env):Operand->Option Xab
 | .tmp t=>cQ e t
 | .const v=>some v
 | .global g=>some (.pointer (some ⟨g,0,none⟩))
 | .func f=>some (.func (.func f) #[] #[])
namespace T
def bG (p:Xac) (k:Xax->T):T :=
 match p with
 | some a=>k a
 | none=>T.fail
end T
def ff (P:Program):Nat->TypeId->List TypeDesc
 | 0,_=>[.invalid]
 | n+1,t =>
  match P.underlying t with
  | some (.struct fs)=>fs.toList.flatMap fun f=>ff P n f.type
  | some (.array k e)=>(List.replicate k (ff P n e)).flatten
  | some d=>[d]
  | none=>[.invalid]
def cD (P:Program) (t:TypeId):fJ :=
 match P.underlying t with
 | some (.struct _)=>(true,ff P 9 t)
 | some (.array _ _)=>(true,ff P 9 t)
 | some d=>(false,[d])
 | none=>(false,[.invalid])
def kU (P:Program) (t:TypeId):Bool × List fJ :=
 match P.underlying t with
 | some (.tuple ts)=>(true,ts.toList.map (cD P))
 | _=>(false,[cD P t])
def IT (b:Bool):List fJ :=
 match b with
 | true=>[(false,[.int .i64]),(false,[.int .i32])]
 | false=>[(false,[.string]),(false,[.bool])]
def cg (e:Env) (x:Operand) (k:Xab->T):T :=
 match ev e x with
 | some v=>k v
 | none=>T.fail
def iv (e:Env):List Operand->(List Xab->T)->T
 | [],k=>k []
 | x::xs,k=>cg e x fun v=>iv e xs fun l=>k (v::l)
def cU (s:Xaa) (n:Int):Int:=((s.data.toList.getD n.toNat 0).toNat:Nat)
def DD (op:BinOp) (k:IntKind) (x y:Int):Int :=
 match op with
 | .and=>k.wrap (BitVec.ofInt k.bits x &&& BitVec.ofInt k.bits y).toNat
 | .or=>k.wrap (BitVec.ofInt k.bits x ||| BitVec.ofInt k.bits y).toNat
 | .xor=>k.wrap (BitVec.ofInt k.bits x ^^^ BitVec.ofInt k.bits y).toNat
 | _=>k.wrap (BitVec.ofInt k.bits x &&& ~~~ BitVec.ofInt k.bits y).toNat
def HD (op:BinOp) (k:IntKind) (m n:Int) (kk:Xab->T):T :=
 match op with
 | .add=>kk (.int k (k.wrap (m+n)))
 | .sub=>kk (.int k (k.wrap (m-n)))
 | .mul=>kk (.int k (k.wrap (m*n)))
 | .quo=>T.need (n≠0) (kk (.int k (k.wrap (m.tdiv n))))
 | .rem=>T.need (n≠0) (kk (.int k (m.tmod n)))
 | .eql=>kk (.bool (m==n))
 | .neq=>kk (.bool (m != n))
 | .lss=>kk (.bool (decide (m<n)))
 | .leq=>kk (.bool (decide (m<=n)))
 | .gtr=>kk (.bool (decide (m>n)))
 | .geq=>kk (.bool (decide (m>=n)))
 | .and=>kk (.int k (DD .and k m n))
 | .or=>kk (.int k (DD .or k m n))
 | .xor=>kk (.int k (DD .xor k m n))
 | .andNot=>kk (.int k (DD .andNot k m n))
 | _=>T.fail
def zK (op:BinOp) (k:IntKind) (m n:Int) (kk:Xab->T):T :=
 match op with
 | .shl=>T.need (0<=n) (kk (.int k (k.wrap (m*2^(min n.toNat k.bits)))))
 | .shr=>T.need (0<=n) (kk (.int k (m.fdiv (2^(min n.toNat k.bits)))))
 | _=>T.fail
def Hw (op:BinOp) (x y:Xaa) (kk:Xab->T):T :=
 match op with
 | .add=>T.need (((x.size+y.size:Nat):Int)<=IntKind.i64.max) (kk (.string (x++y)))
 | .eql=>kk (.bool (x.toList==y.toList))
 | .neq=>kk (.bool !(x.toList==y.toList))
 | .lss=>kk (.bool (Op.bytesLess x.toList y.toList))
 | .leq=>kk (.bool (Op.bytesLess x.toList y.toList || x.toList==y.toList))
 | .gtr=>kk (.bool !(Op.bytesLess x.toList y.toList || x.toList==y.toList))
 | .geq=>kk (.bool !(Op.bytesLess x.toList y.toList))
 | _=>T.fail
def mD:BinOp->Bool
 | .shl=>true
 | .shr=>true
 | _=>false
def isNil (x:Operand):Bool :=
 match x with
 | .const (.pointer none)=>true
 | .const (.slice none 0 0)=>true
 | .const (.map none)=>true
 | _=>false
def jv (op:BinOp) (t:TypeId) (x y:Operand) (a b:Xab):Sem Xab:=do eqGuard op t x y a b; binOp op t a b
def Pj (P:Program) (op:BinOp) (t:TypeId) (x y:Operand) (a b:Xab) (kk:Xab->T):T :=
 T.eh P (jv op t x y a b) false [(false,[.bool])] fun r=>kk (.bool r)
def asked (op:BinOp) (b:Bool) (kk:Xab->T) (other:T):T :=
 match op with
 | .eql=>kk (.bool b)
 | .neq=>kk (.bool !b)
 | _=>other
def rA (P:Program) (t:TypeId) (x y:Operand):Bool :=
 match P.underlying t with
 | some (.int _)=>true
 | some .string=>true
 | some .bool=>true
 | some (.pointer _)=>isNil y
 | some (.slice _)=>isNil y
 | some (.map _ _)=>isNil y
 | _=>false
def sR (P:Program) (op:BinOp) (t:TypeId) (a b:Xab) (kk:Xab->T):T :=
 match a,b with
 | .int k m,.int k' n =>
  match mD op with
  | true=>zK op k m n kk
  | false=>match decide (k=k') with
   | true=>HD op k m n kk
   | false=>T.fail
 | .string m,.string n=>Hw op m n kk
 | .bool m,.bool n =>
  match P.underlying t with
  | some .bool=>asked op (m==n) kk T.fail
  | _=>T.fail
 | .pointer p,.pointer _ =>
  match P.underlying t with
  | some (.pointer _)=>asked op p.isNone kk T.fail
  | _=>T.fail
 | .slice p _ _,.slice _ _ _ =>
  match P.underlying t with
  | some (.slice _)=>asked op p.isNone kk T.fail
  | _=>T.fail
 | .map p,.map _ =>
  match P.underlying t with
  | some (.map _ _)=>asked op p.isNone kk T.fail
  | _=>T.fail
 | _,_=>T.fail
def Dp (P:Program) (op:BinOp) (t:TypeId) (x y:Operand) (a b:Xab) (kk:Xab->T):T :=
 match rA P t x y with
 | true=>sR P op t a b kk
 | false=>Pj P op t x y a b kk
def UQ (op:UnOp) (a:Xab) (kk:Xab->T):T :=
 match op,a with
 | .neg,.int k n=>kk (.int k (k.wrap (0-n)))
 | .xor,.int k n=>kk (.int k (DD .xor k (if k.signed then -1 else k.max) n))
 | .not,.bool b=>kk (.bool !b)
 | _,_=>T.fail
def xD (P:Program) (src dst:TypeId) (a:Xab) (kk:Xab->T):T :=
 match P.underlying src,P.underlying dst,a with
 | some (.int _),some (.int k),.int _ n=>kk (.int k (k.wrap n))
 | some .string,some .string,.string s=>kk (.string s)
 | some .string,some .string,_=>T.fail
 | _,some (.slice _),_=>T.eh P (convert src dst a) false [(false,[.slice 0])] fun p l c=>kk (.slice p l c)
 | _,some .string,_=>T.eh P (convert src dst a) false [(false,[.string])] fun s=>kk (.string s)
 | _,_,_=>T.fail
def kj:Option Xab->Int
 | some (.int _ n)=>n
 | _=>0
def eA:Option Xab->Bool
 | some (.int _ _)=>true
 | none=>true
 | _=>false
def kJ (d:Int):Option Xab->Int
 | some (.int _ n)=>n
 | _=>d
def nq (P:Program) (t:TypeId):Bool:=(P.info? t).isSome
def iR (P:Program) (t:TypeId) (a:Xab) (j hi u:Option Xab) (kk:Xab->T):T :=
 match eA j && eA hi && eA u with
 | false=>T.fail
 | true =>
  match P.underlying t with
  | some .string=>match a,u with
   | .string s,none =>
    T.need (0<=kj j/\kj j<=kJ s.size hi/\kJ s.size hi<=s.size) (kk (.string (s.extract (kj j).toNat (kJ s.size hi).toNat)))
   | _,_=>T.fail
  | some (.slice e)=>match u with
   | some _=>T.eh P (Instr.sliceAt t a j hi u) false [(false,[.slice 0])] fun p l c=>kk (.slice p l c)
   | none=>match a with
    | .slice p len cap =>
     match nq P e with
     | false=>T.fail
     | true=>T.need (0<=kj j/\kj j<=kJ len hi/\kJ len hi<=cap) (kk (.slice (if cap=(kj j).toNat then p else p.map (·.add ((kj j).toNat*P.cellsOf e))) ((kJ len hi).toNat-(kj j).toNat) (cap-(kj j).toNat)))
    | _=>T.fail
  | _=>T.eh P (Instr.sliceAt t a j hi u) false [(false,[.slice 0])] fun p l c=>kk (.slice p l c)
def sV (P:Program) (t:TypeId) (cs:List Xab) (off:Nat) (kk:Xab->T):T :=
 match P.underlying t with
 | some (.struct _)=>kk (.agg ((cs.drop off).take (P.cellsOf t)).toArray)
 | some (.array _ _)=>kk (.agg ((cs.drop off).take (P.cellsOf t)).toArray)
 | some _=>match cs[off]? with
  | some v=>kk v
  | none=>T.fail
 | none=>T.fail
def cF (P:Program) (t:TypeId):Option Bool :=
 match P.underlying t with
 | some (.struct _)=>some true
 | some (.array _ _)=>some true
 | some _=>some false
 | none=>none
def jK:Xab->List Xab
 | .agg cs=>cs.toList
 | _=>[]
def eY:Xab->Bool
 | .agg _=>true
 | _=>false
def fL (P:Program) (f:FuncId):Bool :=
 match P.funcs[f]? with
 | some fn => fn.body.isSome && !(fn.name == "runtime.NumGoroutine")
 | none=>false
def EQ:Operand->Bool
 | .tmp _=>true
 | .const _=>false
 | .global _=>false
 | .func _=>false
def HF (f:FuncId) (args:Array Xab):Sem Xab:=do
 match <- callFunc f args with
 | .value v=>pure v
 | _ => stuck "no value"
def Cs (P:Program) (f:FuncId) (args:List Xab) (t:TypeId) (kk:Xab->T):T :=
 match fL P f with
 | true=>T.call P f args (kU P t).1 (kU P t).2 (ju _ fun l=>kk (rv (kU P t).1 (kU P t).2 l))
 | false=>T.eh P (HF f args.toArray) (kU P t).1 (kU P t).2 (ju _ fun l=>kk (rv (kU P t).1 (kU P t).2 l))
def zt (P:Program) (c:Call) (t:TypeId) (args:List Xab) (kk:Xab->T):T :=
 match (c.argTypes[0]?).bind P.underlying with
 | some .string=>match args with
  | [.string s]=>kk (.int .i64 s.size)
  | _=>T.fail
 | some (.slice _)=>match args with
  | [.slice _ n _]=>kk (.int .i64 n)
  | _=>T.fail
 | _=>T.eh P (Builtin.len_ c.argTypes t args.toArray) false [(false,[.int .i64])] fun n=>kk (.int .i64 n)
def JM (P:Program) (c:Call) (args:List Xab) (kk:Xab->T):T :=
 match (c.argTypes[0]?).bind P.underlying with
 | some (.slice _)=>match args with
  | [.slice _ _ n]=>kk (.int .i64 n)
  | _=>T.fail
 | _=>T.fail
def rk (P:Program) (b:Builtin) (c:Call) (t:TypeId) (args:List Xab) (kk:Xab->T):T :=
 match b,args with
 | .len,_=>zt P c t args kk
 | .cap,_=>JM P c args kk
 | .append,_=>T.eh P (Builtin.append_ c.argTypes t args.toArray) false [(false,[.slice 0])] fun p l j=>kk (.slice p l j)
 | .copy,_=>T.eh P (Builtin.copy_ c.argTypes t args.toArray) false [(false,[.int .i64])] fun n=>kk (.int .i64 n)
 | .min,_=>T.eh P (Builtin.min_ c.argTypes t args.toArray) false [cD P t] (ju _ fun l=>kk (rv false [cD P t] l))
 | .max,_=>T.eh P (Builtin.max_ c.argTypes t args.toArray) false [cD P t] (ju _ fun l=>kk (rv false [cD P t] l))
 | .delete,_=>T.eh P (Builtin.delete_ c.argTypes t args.toArray) true [] (kk (.tuple #[]))
 | .unsafeString,_=>T.eh P (Builtin.unsafeString_ c.argTypes t args.toArray) false [cD P t] (ju _ fun l=>kk (rv false [cD P t] l))
 | .unsafeSliceData,_=>T.eh P (Builtin.unsafeSliceData_ c.argTypes t args.toArray) false [cD P t] (ju _ fun l=>kk (rv false [cD P t] l))
 | _,_=>T.fail
def UX (P:Program) (t:TypeId) (j hi u:Option Operand) (a:Xab) (vs:List Xab) (kk:Xab->T):T :=
 match j,hi,u,vs with
 | none,none,none,[]=>iR P t a none none none kk
 | some _,none,none,[l]=>iR P t a (some l) none none kk
 | none,some _,none,[h]=>iR P t a none (some h) none kk
 | some _,some _,none,[l,h]=>iR P t a (some l) (some h) none kk
 | some _,some _,some _,[l,h,m]=>iR P t a (some l) (some h) (some m) kk
 | none,some _,some _,[h,m]=>iR P t a none (some h) (some m) kk
 | _,_,_,_=>T.fail
def xY (P:Program) (t:TypeId) (v i:Xab) (kk:Xab->T):T :=
 match v,i,P.underlying t with
 | .slice p len _,.int _ n,some (.slice j)=>bif !nq P j then T.fail else T.need (0<=n/\n<len) (T.bG p fun a=>kk (.pointer (some (a.add (n.toNat*P.cellsOf j)))))
 | .pointer p,.int _ n,some (.array len j)=>bif !nq P j then T.fail else T.need (0<=n/\n<len) (T.bG p fun a=>kk (.pointer (some (a.add (n.toNat*P.cellsOf j)))))
 | _,_,_=>T.fail
def GG (P:Program) (t:TypeId) (v i:Xab) (kk:Xab->T):T :=
 match v,i,P.underlying t with
 | .string s,.int _ n,some .string=>T.need (0<=n/\n<s.size) (kk (.int .u8 (cU s n)))
 | v,i,some (.array len j)=>T.eh P (Instr.index t v i) false [cD P j] (ju _ fun l=>kk (rv false [cD P j] l))
 | _,_,_=>T.fail
def sL (xs:List Xab):Nat->List Xab->List Xab
 | _,[]=>xs
 | i,v::vs=>sL (xs.set i v) (i+1) vs
def fA (place:Nat->Option (Nat × Nat)) (cells:List Xab):List (Nat × List Xab)->Option (List Xab)
 | []=>some cells
 | (i,l)::rest =>
  match place i with
  | none=>none
  | some (off,size)=>bif !(Nat.beq l.length size) || Nat.blt cells.length (off+l.length) then none else fA place (sL cells off l) rest
def fm (agg:Nat->Option Bool):List (Nat × Xab)->(List (Nat × List Xab)->T)->T
 | [],k=>k []
 | (i,v)::l,k =>
  match agg i with
  | some true=>cond (eY v) (fm agg l fun r=>k ((i,jK v)::r)) T.fail
  | some false=>cond (eY v) T.fail (fm agg l fun r=>k ((i,[v])::r))
  | none=>T.fail
def uq (P:Program) (o:Oper) (e:Env) (kk:Xab->T):T :=
 match o.op with
 | .move x=>cg e x kk
 | .assign x=>cg e x kk
 | .pick c a b=>cg e c fun c=>match c with
  | .bool b'=>cond b' (cg e a kk) (cg e b kk)
  | _=>T.fail
 | .alloc t=>match (P.info? t).bind (·.zero) with
  | some z=>T.new z.cells.toList t fun a=>kk (.pointer (some a))
  | none=>T.fail
 | .box t x=>cg e x fun v=>match cF P t with
  | some true=>cond (eY v) (T.new (jK v) t fun a=>kk (.pointer (some a))) T.fail
  | some false=>cond (eY v) T.fail (T.new [v] t fun a=>kk (.pointer (some a)))
  | none=>T.fail
 | .build t ps=>iv e (ps.toList.map (·.2)) fun vs=>match P.underlying t,(P.info? t).bind (·.zero) with
  | some (.struct fs),some z =>
   bif !(fs.all fun f=>nq P f.type) then T.fail else fm (fun i=>(fs[i]?).bind fun f=>cF P f.type) ((ps.toList.map (·.1)).zip vs) fun G=>match fA (((fs.map fun f=>(f.offset,P.cellsOf f.type)))[·]?) z.cells.toList G with
   | some cs=>kk (.agg cs.toArray)
   | none=>T.fail
  | some (.array _ j),some z =>
   bif !nq P j then T.fail else fm (fun _=>cF P j) ((ps.toList.map (·.1)).zip vs) fun G=>match fA (fun i=>some (i*P.cellsOf j,P.cellsOf j)) z.cells.toList G with
   | some cs=>kk (.agg cs.toArray)
   | none=>T.fail
  | _,_=>T.fail
 | .buildSlice t len ps=>iv e (ps.toList.map (·.2)) fun vs =>
  T.eh P (Instr.buildSlice t len ((ps.toList.map (·.1)).zip vs).toArray) false [(false,[.slice 0])] fun p l c=>kk (.slice p l c)
 | .load t x=>cg e x fun v=>match v,cF P t with
  | .pointer p,some true=>bif (ff P 9 t).length==P.cellsOf t then T.bG p fun a=>T.ah a (ff P 9 t) (ju _ fun l=>kk (.agg l.toArray)) else T.fail
  | .pointer p,some false=>T.bG p fun a=>T.ah a (cD P t).2 (ju _ fun l=>kk (l.headD undef))
  | _,_=>T.fail
 | .store t x y=>cg e x fun p=>cg e y fun v=>match p,cF P t with
  | .pointer p,some true=>cond (eY v) (bif (jK v).length==P.cellsOf t then T.bG p fun a=>T.aC a (jK v) (kk undef) else T.fail) T.fail
  | .pointer p,some false=>bif P.cellsOf t==1 then cond (eY v) T.fail (T.bG p fun a=>T.aC a [v] (kk undef)) else T.fail
  | _,_=>T.fail
 | .nilCheck x=>cg e x fun v=>match v with
  | .pointer p=>T.bG p fun a=>kk (.pointer (some a))
  | .func (.func f) u ca=>kk (.func (.func f) u ca)
  | .iface t v=>kk (.iface t v)
  | _=>T.fail
 | .binOp op t x y _=>cg e x fun a=>cg e y fun b=>Dp P op t x y a b kk
 | .unOp op _ x=>cg e x fun a=>UQ op a kk
 | .convert s d x=>cg e x fun a=>xD P s d a kk
 | .makeInterface t x=>cg e x fun a=>match P.underlying t with
  | some (.interface _)=>T.fail
  | some _=>kk (.iface t a)
  | none=>T.fail
 | .makeFunc fn u ca=>iv e u.toList fun u=>iv e ca.toList fun ca=>kk (.func fn u.toArray ca.toArray)
 | .makeMap t none=>T.eh P (Instr.makeMap t none) false [(false,[.map 0 0])] fun r=>kk (.map r)
 | .makeSlice t l c=>cg e l fun l=>cg e c fun c=>T.eh P (Instr.makeSlice t l c) false [(false,[.slice 0])] fun p l c=>kk (.slice p l c)
 | .slice t x J hi O=>cg e x fun a=>iv e (J.toList++hi.toList++O.toList) fun vs=>UX P t J hi O a vs kk
 | .fieldAddr s x f=>cg e x fun v=>match v,P.underlying s with
  | .pointer p,some (.struct fs)=>match fs[f]? with
   | some fd=>match P.cellsOf fd.type with
    | 0=>T.fail
    | _+1=>T.bG p fun a=>kk (.pointer (some (a.add fd.offset)))
   | none=>T.fail
  | _,_=>T.fail
 | .field s x f=>cg e x fun v=>match v,P.underlying s with
  | .agg cs,some (.struct fs)=>match fs[f]? with
   | some fd=>sV P fd.type cs.toList fd.offset kk
   | none=>T.fail
  | _,_=>T.fail
 | .indexAddr t x i=>cg e x fun v=>cg e i fun i=>xY P t v i kk
 | .index t x i=>cg e x fun v=>cg e i fun i=>GG P t v i kk
 | .lookup t m x ok=>cg e m fun m=>cg e x fun x=>match P.underlying t with
  | some (.map _ j)=>match ok with
   | true=>T.eh P (Instr.lookup t m x true) true [cD P j,(false,[.bool])] (ju _ fun l=>kk (rv true [cD P j,(false,[.bool])] l))
   | false=>T.eh P (Instr.lookup t m x false) false [cD P j] (ju _ fun l=>kk (rv false [cD P j] l))
  | _=>T.fail
 | .mapUpdate t m x v=>cg e m fun m=>cg e x fun x=>cg e v fun v=>T.et P (Instr.mapUpdate t m x v) (kk undef)
 | .insert t m x v=>cg e m fun m=>cg e x fun x=>cg e v fun v=>T.et P (Instr.mapUpdate t m x v) (kk undef)
 | .mapEntry t m x=>cg e m fun m=>cg e x fun x=>match P.underlying t with
  | some (.map _ j)=>T.eh P (Instr.mapEntry t m x) true [cD P j,(false,[.int .i64])] (ju _ fun l=>kk (rv true [cD P j,(false,[.int .i64])] l))
  | _=>T.fail
 | .entryStore t m x v=>cg e m fun m=>cg e x fun x=>cg e v fun v=>T.et P (Instr.entryStore t m x v) (kk undef)
 | .range t x=>cg e x fun x=>T.eh P (Instr.range t x) false [(false,[.pointer 0])] fun p=>kk (.pointer p)
 | .next it b=>cg e it fun it=>match P.underlying o.type with
  | some (.tuple ts)=>match ts.toList with
   | []=>T.next P (Instr.next it b o.type) (IT b) (kk (.tuple #[.bool false])) (ju _ fun l=>kk (.tuple (.bool true::parts (IT b) l).toArray))
   | _::ts=>T.next P (Instr.next it b o.type) (ts.map (cD P)) (kk (.tuple #[.bool false])) (ju _ fun l=>kk (.tuple (.bool true::parts (ts.map (cD P)) l).toArray))
  | _=>T.fail
 | .entry it=>cg e it fun it=>T.eh P (Instr.entry it) true (IT false) (ju _ fun l=>kk (rv true (IT false) l))
 | .typeAssert x t d ok=>cg e x fun x=>match ok with
  | true=>T.eh P (Instr.typeAssert x t d true) true [cD P d,(false,[.bool])] (ju _ fun l=>kk (rv true [cD P d,(false,[.bool])] l))
  | false=>T.eh P (Instr.typeAssert x t d false) false [cD P d] (ju _ fun l=>kk (rv false [cD P d] l))
 | .extract x i=>cg e x fun v=>match v with
  | .tuple vs=>match vs.toList[i]? with
   | some v=>kk v
   | none=>T.fail
  | _=>T.fail
 | .call c=>match c.callee with
  | .builtin b=>iv e c.args.toList fun vs=>rk P b c o.type vs kk
  | .value g=>match EQ g with
   | true=>cg e g fun g=>iv e c.args.toList fun vs=>T.tj P g vs (kU P o.type).1 (kU P o.type).2 (ju _ fun l=>kk (rv (kU P o.type).1 (kU P o.type).2 l))
   | false=>cg e g fun g=>iv e c.args.toList fun vs=>match g with
    | .func (.func f) u ca=>Cs P f (u.toList++vs++ca.toList) o.type kk
    | .func (.method _) _ _=>T.fail
    | .func (.methodOf _ _) _ _=>T.fail
    | .func (.via _ _ _ _) _ _=>T.fail
    | .func (.yield _) _ _=>T.fail
    | .nilFunc=>T.fail
    | .bool _=>T.fail
    | .int _ _=>T.fail
    | .float _ _=>T.fail
    | .complex _ _ _=>T.fail
    | .string _=>T.fail
    | .pointer _=>T.fail
    | .slice _ _ _=>T.fail
    | .map _=>T.fail
    | .chan _=>T.fail
    | .iface _ _=>T.fail
    | .nilIface=>T.fail
    | .agg _=>T.fail
    | .tuple _=>T.fail
  | .invoke _ _=>T.fail
 | _=>T.fail
def guardOf (ops:Array Oper) (o:Oper):Option (Option Tmp × Bool) :=
 match o.guard with
 | none=>none
 | some (j,want)=>some ((ops[j]?).bind (·.dst),want)
def lx (n:Nat) (ops:Array Oper) (o:Oper) (e:Env) (j no:Env->T):T :=
 match guardOf ops o with
 | none=>j e
 | some (none,_)=>no e
 | some (some d,want) =>
  match cQ e d with
  | some (.bool b)=>match want with
   | true=>cond b (j (dZ n e (some d) (.bool true))) (no (dZ n e (some d) (.bool false)))
   | false=>cond b (no (dZ n e (some d) (.bool true))) (j (dZ n e (some d) (.bool false)))
  | some (.tuple _)=>no e
  | _=>T.fail
def EH (P:Program) (n:Nat) (ops:Array Oper):List Oper->Env->(Env->T)->T
 | [],e,k=>k e
 | o::rest,e,k=>lx n ops o e (fun e=>uq P o e fun v=>EH P n ops rest (dZ n e o.dst v) k) (fun e=>EH P n ops rest (dZ n e o.dst undef) k)
def rG (P:Program) (o:Oper):Bool :=
 match o.op with
 | .move _=>true
 | .pick _ _ _=>true
 | .build _ _=>true
 | .nilCheck _=>true
 | .binOp _ t x y _=>rA P t x y
 | .unOp _ _ _=>true
 | .convert s d _=>match P.underlying s,P.underlying d with
  | some (.int _),some (.int _)=>true
  | some .string,some .string=>true
  | _,_=>false
 | .makeInterface _ _=>true
 | .makeFunc _ _ _=>true
 | .slice t _ _ _ none=>match P.underlying t with
  | some .string=>true
  | some (.slice _)=>true
  | _=>false
 | .fieldAddr _ _ _=>true
 | .field _ _ _=>true
 | .indexAddr _ _ _=>true
 | .index t _ _=>match P.underlying t with
  | some .string=>true
  | _=>false
 | .extract _ _=>true
 | .call c=>match c.callee with
  | .builtin .len=>match (c.argTypes[0]?).bind P.underlying with
   | some .string=>true
   | some (.slice _)=>true
   | _=>false
  | .builtin .cap=>match (c.argTypes[0]?).bind P.underlying with
   | some (.slice _)=>true
   | _=>false
  | _=>false
 | _=>false
def As (o:Oper):Bool :=
 match o.op with
 | .load _ _=>true
 | _=>false
def calm (P:Program) (o:Oper):Bool:=rG P o || As o
def sI (x:Nat):List Nat->Bool
 | []=>false
 | y::l=>Nat.beq x y || sI x l
def waits (o:Oper):List Nat:=(o.after.toList.filter fun e=>Region.binds .any e).map (·.on)
def xr (D:List Nat) (i:Nat) (o:Oper):Bool:=!sI i D && (waits o).all fun j=>sI j D
def looks (ops : Array Oper) (o : Oper) : List Nat :=
  (o.op.operands.toList.filterMap fun | .tmp t => some t | _ => none) ++
  (match o.guard with
   | some (g, _) => ((ops[g]?).bind (·.dst)).toList
   | none => [])
def ml:Option Nat->Nat->Bool
 | some d,s=>Nat.beq d s
 | none,_=>false
def HT (P : Program) (ops : Array Oper) (i j : Nat) (x y : Oper) : Bool :=
  match Nat.beq i j with
  | true => (match x.dst with
    | some d => !calm P x || !sI d (looks ops x)
    | none => true)
  | false => (match y.dst with
    | some d => !sI d (looks ops x) || sI j (waits x) || (sI i (waits y) && !calm P y)
    | none => true) &&
   (match x.dst, calm P x with
    | some d, true => !ml y.dst d
    | _, _ => true)
def idx:Nat->List Oper->List (Nat × Oper)
 | _,[]=>[]
 | i,o::l=>(i,o)::idx (i+1) l
def ej (P : Program) (n : Nat) (ops : Array Oper) : Bool :=
  ((idx 0 ops.toList).all fun p => match p.2.dst with
    | some d => Nat.blt d n
    | none => true) && (idx 0 ops.toList).all fun p => (idx 0 ops.toList).all fun q => HT P ops p.1 q.1 p.2 q.2
abbrev Made:=List (Nat × Xax × List Xab)
def kg (o:Oper):Made->List (Xax × List Xab)
 | []=>[]
 | (i,a,l)::m=>bif sI i (waits o) then kg o m else (a,l)::kg o m
def uU (l:List (Xax × List Xab)) (t:T):T :=
 match l with
 | []=>t
 | p::l=>T.bi (p::l) t
def TY:List T->T
 | []=>T.fail
 | [t]=>t
 | t::ts=>T.all (t::ts)
def qX (P:Program) (t:TypeId) (x:Operand) (e:Env) (kk:Xax->List Xab->Xab->T):T :=
 cg e x fun v=>match v,cF P t with
  | .pointer p,some true=>bif (ff P 9 t).length==P.cellsOf t then T.bG p fun a=>T.ah a (ff P 9 t) (ju _ fun l=>kk a l (.agg l.toArray)) else T.fail
  | .pointer p,some false=>T.bG p fun a=>T.ah a (cD P t).2 (ju _ fun l=>kk a l (l.headD undef))
  | _,_=>T.fail
def cY (P:Program) (D:List Nat) (c:Bool):List (Nat × Oper)->List (Nat × Oper)
 | []=>[]
 | p::l=>match xr D p.1 p.2 && (calm P p.2==c) with
  | true=>p::cY P D c l
  | false=>cY P D c l
def fW (P:Program) (n:Nat) (ops:Array Oper):Nat->List Nat->Env->Made->(Env->T)->T
 | 0,_,_,_,_=>T.fail
 | fu+1,D,e,m,k =>
  match cY P D true (idx 0 ops.toList) with
  | (i,o)::_ =>
   lx n ops o e (fun e=>match o.op with
    | .load t x=>qX P t x e fun a l v=>fW P n ops fu (i::D) (dZ n e o.dst v) ((i,a,l)::m) k
    | _=>uq P o e fun v=>fW P n ops fu (i::D) (dZ n e o.dst v) m k)
    fun e=>fW P n ops fu (i::D) (dZ n e o.dst undef) m k
  | [] =>
   match cY P D false (idx 0 ops.toList) with
   | []=>k e
   | q::j=>TY ((q::j).map fun p=>lx n ops p.2 e (fun e=>uq P p.2 e fun v=>uU (kg p.2 m) (fW P n ops fu (p.1::D) (dZ n e p.2.dst v) m k))
     fun e=>fW P n ops fu (p.1::D) (dZ n e p.2.dst undef) m k)
def vl (P:Program) (n:Nat) (_id:Nat) (ops:Array Oper) (e:Env) (k:Env->T):T :=
 match ej P n ops with
 | true=>fW P n ops (ops.size+1) [] e [] k
 | false=>T.fail
def eu:Code->List Nat
 | .region _ ops _=>ops.toList.filterMap (·.dst)
 | .seq a b=>eu a++eu b
 | .cond _ a b=>eu a++eu b
 | .block _ c=>eu c
 | .loop c=>eu c
 | .scope c=>eu c
 | .rangeFunc _ ps a b=>ps.toList++eu a++eu b
 | _=>[]
def sf (x:Nat):List Nat->List Nat
 | []=>[x]
 | y::l=>bif Nat.blt x y then x::y::l else bif Nat.beq x y then y::l else y::sf x l
def iQ (l:List Nat):List Nat:=l.foldl (fun j x=>sf x j) []
def RZ:Xab->TypeDesc
 | .bool _=>.bool
 | .int k _=>.int k
 | .string _=>.string
 | .pointer _=>.pointer 0
 | .slice _ _ _=>.slice 0
 | .map _=>.map 0 0
 | _=>.invalid
def LC:Xab->fJ
 | .agg cs=>(true,cs.toList.map RZ)
 | v=>(false,[RZ v])
def live (e:Env):List Nat->List (Nat × Xab)
 | []=>[]
 | s::l=>match cQ e s with
  | some v=>(s,v)::live e l
  | none=>live e l
def forget (e:Env) (l:List Nat):Env:=l.map (fun s=>(s,none))++e
def mP (l:List Nat) (vs:List Xab):Env:=(l.zip vs).map fun p=>(p.1,some p.2)
def Ad (e:Env):List Nat->(List Xab->T)->T
 | [],k=>k []
 | s::l,k=>match cQ e s with
  | some v=>Ad e l fun vs=>k (v::vs)
  | none=>T.fail
def Io (ms:List Nat) (e:Env) (lv:Nat) (u:Env->(Env->T)->T):T :=
 let j:=live e (iQ ms)
 let ss:=j.map (·.1)
 let cs:=j.map fun p=>LC p.2
 T.loop cs (j.map (·.2)) (ju (flat cs) fun l=>u (mP ss (parts cs l)++forget e (iQ ms)) fun e'=>Ad e' ss fun vs=>T.again lv vs)
def jL (l:Nat):Code->Bool
 | .goto l'=>Nat.beq l l'
 | .seq a b=>jL l a || jL l b
 | .cond _ a b=>jL l a || jL l b
 | .block _ c=>jL l c
 | .loop c=>jL l c
 | .scope c=>jL l c
 | .rangeFunc _ _ a b=>jL l a || jL l b
 | _=>false
def labels:Code->List Nat
 | .label l=>[l]
 | .seq a b=>labels a++labels b
 | _=>[]
def Bn (c:Code):Option Nat :=
 (labels c).find? fun l=>match findLabel c l with
  | some r=>jL l r
  | none=>false
def SE:Code->Nat->Code
 | .seq a b,l=>match findLabel a l with
  | some _=>SE a l
  | none=>.seq a (SE b l)
 | _,_=>.skip
def OI (ss:List Nat) (cs:List fJ) (ms:List Nat) (e:Env) (lv:Nat) (first:(Env->T)->T) (after:Env->T):T :=
 T.join cs (first fun e'=>Ad e' ss fun vs=>T.again lv vs) (ju (flat cs) fun l=>after (mP ss (parts cs l)++forget e (iQ ms)))
def jY:Code->Option Nat
 | .region id _ _=>some id
 | .seq a b=>match jY a with
  | some i=>some i
  | none=>jY b
 | .cond _ a _=>jY a
 | .block _ c=>jY c
 | .loop c=>jY c
 | .scope c=>jY c
 | _=>none
def Jh (cuts:List Nat):Option Nat->Nat->Bool
 | some i,k=>sI (i+k) cuts
 | none,_=>false
def handsOn (P:Program):List Oper->List (Nat × fJ)
 | []=>[]
 | [o]=>match o.dst with
  | some d=>[(d,cD P o.type)]
  | none=>[]
 | o::l=>match o.op,o.dst with
  | .assign _,some d=>(d,cD P o.type)::handsOn P l
  | _,_=>handsOn P l
def fG (l:Nat):Code->Bool
 | .label l'=>Nat.beq l l'
 | .seq a _=>fG l a
 | _=>false
def dstsOf (ops:Array Oper):List Nat:=ops.toList.filterMap (·.dst)
mutual
def fQ (P:Program) (n:Nat) (cuts:List Nat):Nat->Code->Env->Nat->(Exit->Env->Nat->T)->T
 | 0,_,_,_,_=>T.fail
 | fu+1,c,e,lv,κ =>
  match c with
  | .skip=>κ .normal e lv
  | .label _=>κ .normal e lv
  | .exit i=>κ (.exit i) e lv
  | .goto l=>κ (.goto l) e lv
  | .ret=>κ .ret e lv
  | .seq a b =>
   match Jh cuts (jY b) 1000 with
   | false=>fQ P n cuts fu a e lv fun x e' j=>match x with
    | .normal=>fQ P n cuts fu b e' j κ
    | x=>κ x e' j
   | true =>
    OI ((live e (iQ (eu a))).map (·.1)) ((live e (iQ (eu a))).map fun p=>LC p.2) (eu a) e lv
     (fun k=>fQ P n cuts fu a e (lv+1) fun x e' j=>match x with
      | .normal=>k e'
      | x=>κ x e' j)
     (fun e'=>fQ P n cuts fu b e' lv κ)
  | .cond c a b=>match ev e c with
   | some (.bool t)=>cond t (fQ P n cuts fu a e lv κ) (fQ P n cuts fu b e lv κ)
   | _=>T.fail
  | .block id c=>fQ P n cuts fu c e lv fun x e' j=>match x with
   | .exit i=>match Nat.beq i id with
    | true=>κ .normal e' j
    | false=>κ (.exit i) e' j
   | x=>κ x e' j
  | .region id ops draw =>
   match Jh cuts (some id) 0 with
   | false=>match draw with
    | false=>EH P n ops ops.toList e fun e'=>κ .normal e' lv
    | true=>vl P n id ops e fun e'=>κ .normal e' lv
   | true=>OI ((handsOn P ops.toList).map (·.1)) ((handsOn P ops.toList).map (·.2)) (dstsOf ops) e lv
     (fun k=>match draw with
      | false=>EH P n ops ops.toList e k
      | true=>vl P n id ops e k)
     (fun e'=>κ .normal e' lv)
  | .loop c=>Io (eu c) e lv fun e' k=>fQ P n cuts fu c e' (lv+1) fun x u j=>match x with
   | .normal=>k u
   | x=>κ x u j
  | .scope c=>match Bn c with
   | none=>lA P n cuts fu c c e lv none (fun _=>T.fail) κ
   | some l=>match findLabel c l with
    | none=>T.fail
    | some r=>wZ P n cuts fu c c l r e lv κ
  | _=>T.fail
def lA (P:Program) (n:Nat) (cuts:List Nat):Nat->Code->Code->Env->Nat->Option Nat->(Env->T)->(Exit->Env->Nat->T)->T
 | 0,_,_,_,_,_,_,_=>T.fail
 | fu+1,c,r,e,lv,back,k,κ=>fQ P n cuts fu r e lv fun x e' j=>match x with
  | .goto l=>match ml back l with
   | true=>k e'
   | false=>match findLabel c l with
    | some r'=>lA P n cuts fu c r' e' j back k κ
    | none=>κ (.goto l) e' j
  | x=>κ x e' j
def wZ (P:Program) (n:Nat) (cuts:List Nat):Nat->Code->Code->Nat->Code->Env->Nat->(Exit->Env->Nat->T)->T
 | 0,_,_,_,_,_,_,_=>T.fail
 | fu+1,c,t,l,r,e,lv,κ =>
  match fG l t with
  | true=>Io (eu c) e lv fun u k=>lA P n cuts fu c r u (lv+1) (some l) k κ
  | false=>match t with
   | .seq a b=>match findLabel a l with
    | some _=>T.fail
    | none=>fQ P n cuts fu a e lv fun x e' j=>match x with
     | .normal=>wZ P n cuts fu c b l r e' j κ
     | .goto _=>T.fail
     | x=>κ x e' j
   | _=>T.fail
end
def wT (P:Program):List ResultVar->Env->(List Xab->T)->T
 | [],_,k=>k []
 | .tmp t::rs,e,k=>cg e (.tmp t) fun v=>wT P rs e fun l=>k (v::l)
 | .cell a t::rs,e,k=>cg e (.tmp a) fun p=>match p,cF P t with
  | .pointer p,some true=>bif (ff P 9 t).length==P.cellsOf t then T.bG p fun a=>T.ah a (ff P 9 t) (ju _ fun l=>wT P rs e fun l'=>k (.agg l.toArray::l')) else T.fail
  | .pointer p,some false=>T.bG p fun a=>T.ah a (cD P t).2 (ju _ fun l=>wT P rs e fun l'=>k (l.headD undef::l'))
  | _,_=>T.fail
def one (l:List Xab):Xab :=
 match l with
 | [v]=>v
 | l=>.tuple l.toArray
def ue:Nat->List Xab->Env
 | _,[]=>[]
 | i,v::vs=>(i,some v)::ue (i+1) vs
def bT (P:Program) (cuts:List Nat) (fn:Func) (args:List Xab):T :=
 match fn.body with
 | none=>T.fail
 | some c=>fQ P fn.ntmps cuts 100000 c (ue 0 args) 0 fun x e _=>match x with
  | .normal=>wT P fn.results.toList e fun l=>T.ret (one l)
  | .ret=>wT P fn.results.toList e fun l=>T.ret (one l)
  | _=>T.fail
end Go.Sx
