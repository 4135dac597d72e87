/- Part of the framework. No condition. -/
import Derived.Test.YthbffkdafjboiaaGreatDoorSxT
set_option linter.all false
set_option maxHeartbeats 4000000
namespace Go.Sx
abbrev Env:=List (Nat × Option ZB)
def cM:Env->Nat->Option ZB
 | [],_=>none
 | (s,v)::e,t=>bif Nat.beq s t then v else cM e t
def dV (n:Nat) (e:Env) (dst:Option Tmp) (v:ZB):Env :=
 match dst with
 | none=>e
 | some d=>bif Nat.blt d n then (d,some v)::e else e
def ev (e:Env):Operand->Option ZB
 | .tmp t=>cM e t
 | .const v=>some v
 | .global g=>some (.pointer (some ⟨g,0,none⟩))
 | .func f=>some (.func (.func f) #[] #[])
namespace T
def bF (p:ZC) (k:Zx->T):T :=
 match p with
 | some a=>k a
 | none=>T.fail
end T
def eU (P:Program):Nat->TypeId->List TypeDesc
 | 0,_=>[.invalid]
 | n+1,t =>
  match P.underlying t with
  | some (.struct fs)=>fs.toList.flatMap fun f=>eU P n f.type
  | some (.array k e)=>(List.replicate k (eU P n e)).flatten
  | some d=>[d]
  | none=>[.invalid]
def cz (P:Program) (t:TypeId):fE :=
 match P.underlying t with
 | some (.struct _)=>(true,eU P 9 t)
 | some (.array _ _)=>(true,eU P 9 t)
 | some d=>(false,[d])
 | none=>(false,[.invalid])
def kI (P:Program) (t:TypeId):Bool × List fE :=
 match P.underlying t with
 | some (.tuple ts)=>(true,ts.toList.map (cz P))
 | _=>(false,[cz P t])
def Ih (b:Bool):List fE :=
 match b with
 | true=>[(false,[.int .i64]),(false,[.int .i32])]
 | false=>[(false,[.string]),(false,[.bool])]
def bU (e:Env) (x:Operand) (k:ZB->T):T :=
 match ev e x with
 | some v=>k v
 | none=>T.fail
def gY (e:Env):List Operand->(List ZB->T)->T
 | [],k=>k []
 | x::xs,k=>bU e x fun v=>gY e xs fun l=>k (v::l)
def cR (s:ZA) (n:Int):Int:=((s.data.toList.getD n.toNat 0).toNat:Nat)
def C4 (op:BinOp) (k:IntKind) (x y:Int):Int :=
 match op with
 | .and=>k.wrap (BitVec.ofInt k.bits x &&& BitVec.ofInt k.bits y).toNat
 | .or=>k.wrap (BitVec.ofInt k.bits x ||| BitVec.ofInt k.bits y).toNat
 | .xor=>k.wrap (BitVec.ofInt k.bits x ^^^ BitVec.ofInt k.bits y).toNat
 | _=>k.wrap (BitVec.ofInt k.bits x &&& ~~~ BitVec.ofInt k.bits y).toNat
def G1 (op:BinOp) (k:IntKind) (m n:Int) (kk:ZB->T):T :=
 match op with
 | .add=>kk (.int k (k.wrap (m+n)))
 | .sub=>kk (.int k (k.wrap (m-n)))
 | .mul=>kk (.int k (k.wrap (m*n)))
 | .quo=>T.need (n≠0) (kk (.int k (k.wrap (m.tdiv n))))
 | .rem=>T.need (n≠0) (kk (.int k (m.tmod n)))
 | .eql=>kk (.bool (m==n))
 | .neq=>kk (.bool (m != n))
 | .lss=>kk (.bool (decide (m<n)))
 | .leq=>kk (.bool (decide (m<=n)))
 | .gtr=>kk (.bool (decide (m>n)))
 | .geq=>kk (.bool (decide (m>=n)))
 | .and=>kk (.int k (C4 .and k m n))
 | .or=>kk (.int k (C4 .or k m n))
 | .xor=>kk (.int k (C4 .xor k m n))
 | .andNot=>kk (.int k (C4 .andNot k m n))
 | _=>T.fail
def zd (op:BinOp) (k:IntKind) (m n:Int) (kk:ZB->T):T :=
 match op with
 | .shl=>T.need (0<=n) (kk (.int k (k.wrap (m*2^(min n.toNat k.bits)))))
 | .shr=>T.need (0<=n) (kk (.int k (m.fdiv (2^(min n.toNat k.bits)))))
 | _=>T.fail
def GV (op:BinOp) (x y:ZA) (kk:ZB->T):T :=
 match op with
 | .add=>T.need (((x.size+y.size:Nat):Int)<=IntKind.i64.max) (kk (.string (x++y)))
 | .eql=>kk (.bool (x.toList==y.toList))
 | .neq=>kk (.bool !(x.toList==y.toList))
 | .lss=>kk (.bool (Op.bytesLess x.toList y.toList))
 | .leq=>kk (.bool (Op.bytesLess x.toList y.toList || x.toList==y.toList))
 | .gtr=>kk (.bool !(Op.bytesLess x.toList y.toList || x.toList==y.toList))
 | .geq=>kk (.bool !(Op.bytesLess x.toList y.toList))
 | _=>T.fail
def ml:BinOp->Bool
 | .shl=>true
 | .shr=>true
 | _=>false
def isNil (x:Operand):Bool :=
 match x with
 | .const (.pointer none)=>true
 | .const (.slice none 0 0)=>true
 | .const (.map none)=>true
 | _=>false
def ir (op:BinOp) (t:TypeId) (x y:Operand) (a b:ZB):Sem ZB:=do eqGuard op t x y a b; binOp op t a b
def Ol (P:Program) (op:BinOp) (t:TypeId) (x y:Operand) (a b:ZB) (kk:ZB->T):T :=
 T.ek P (ir op t x y a b) false [(false,[.bool])] fun r=>kk (.bool r)
def asked (op:BinOp) (b:Bool) (kk:ZB->T) (other:T):T :=
 match op with
 | .eql=>kk (.bool b)
 | .neq=>kk (.bool !b)
 | _=>other
def q8 (P:Program) (t:TypeId) (x y:Operand):Bool :=
 match P.underlying t with
 | some (.int _)=>true
 | some .string=>true
 | some .bool=>true
 | some (.pointer _)=>isNil y
 | some (.slice _)=>isNil y
 | some (.map _ _)=>isNil y
 | _=>false
def sq (P:Program) (op:BinOp) (t:TypeId) (a b:ZB) (kk:ZB->T):T :=
 match a,b with
 | .int k m,.int k' n =>
  match ml op with
  | true=>zd op k m n kk
  | false=>match decide (k=k') with
   | true=>G1 op k m n kk
   | false=>T.fail
 | .string m,.string n=>GV op m n kk
 | .bool m,.bool n =>
  match P.underlying t with
  | some .bool=>asked op (m==n) kk T.fail
  | _=>T.fail
 | .pointer p,.pointer _ =>
  match P.underlying t with
  | some (.pointer _)=>asked op p.isNone kk T.fail
  | _=>T.fail
 | .slice p _ _,.slice _ _ _ =>
  match P.underlying t with
  | some (.slice _)=>asked op p.isNone kk T.fail
  | _=>T.fail
 | .map p,.map _ =>
  match P.underlying t with
  | some (.map _ _)=>asked op p.isNone kk T.fail
  | _=>T.fail
 | _,_=>T.fail
def CT (P:Program) (op:BinOp) (t:TypeId) (x y:Operand) (a b:ZB) (kk:ZB->T):T :=
 match q8 P t x y with
 | true=>sq P op t a b kk
 | false=>Ol P op t x y a b kk
def TB (op:UnOp) (a:ZB) (kk:ZB->T):T :=
 match op,a with
 | .neg,.int k n=>kk (.int k (k.wrap (0-n)))
 | .xor,.int k n=>kk (.int k (C4 .xor k (if k.signed then -1 else k.max) n))
 | .not,.bool b=>kk (.bool !b)
 | _,_=>T.fail
def xf (P:Program) (src dst:TypeId) (a:ZB) (kk:ZB->T):T :=
 match P.underlying src,P.underlying dst,a with
 | some (.int _),some (.int k),.int _ n=>kk (.int k (k.wrap n))
 | some .string,some .string,.string s=>kk (.string s)
 | some .string,some .string,_=>T.fail
 | _,some (.slice _),_=>T.ek P (convert src dst a) false [(false,[.slice 0])] fun p l c=>kk (.slice p l c)
 | _,some .string,_=>T.ek P (convert src dst a) false [(false,[.string])] fun s=>kk (.string s)
 | _,_,_=>T.fail
def j3:Option ZB->Int
 | some (.int _ n)=>n
 | _=>0
def ep:Option ZB->Bool
 | some (.int _ _)=>true
 | none=>true
 | _=>false
def kw (d:Int):Option ZB->Int
 | some (.int _ n)=>n
 | _=>d
def mV (P:Program) (t:TypeId):Bool:=(P.info? t).isSome
def iI (P:Program) (t:TypeId) (a:ZB) (lo hi mx:Option ZB) (kk:ZB->T):T :=
 match ep lo && ep hi && ep mx with
 | false=>T.fail
 | true =>
  match P.underlying t with
  | some .string=>match a,mx with
   | .string s,none =>
    T.need (0<=j3 lo/\j3 lo<=kw s.size hi/\kw s.size hi<=s.size) (kk (.string (s.extract (j3 lo).toNat (kw s.size hi).toNat)))
   | _,_=>T.fail
  | some (.slice e)=>match mx with
   | some _=>T.ek P (Instr.sliceAt t a lo hi mx) false [(false,[.slice 0])] fun p l c=>kk (.slice p l c)
   | none=>match a with
    | .slice p len cap =>
     match mV P e with
     | false=>T.fail
     | true=>T.need (0<=j3 lo/\j3 lo<=kw len hi/\kw len hi<=cap) (kk (.slice (if cap=(j3 lo).toNat then p else p.map (·.add ((j3 lo).toNat*P.cellsOf e))) ((kw len hi).toNat-(j3 lo).toNat) (cap-(j3 lo).toNat)))
    | _=>T.fail
  | _=>T.ek P (Instr.sliceAt t a lo hi mx) false [(false,[.slice 0])] fun p l c=>kk (.slice p l c)
def sy (P:Program) (t:TypeId) (cs:List ZB) (off:Nat) (kk:ZB->T):T :=
 match P.underlying t with
 | some (.struct _)=>kk (.agg ((cs.drop off).take (P.cellsOf t)).toArray)
 | some (.array _ _)=>kk (.agg ((cs.drop off).take (P.cellsOf t)).toArray)
 | some _=>match cs[off]? with
  | some v=>kk v
  | none=>T.fail
 | none=>T.fail
def cB (P:Program) (t:TypeId):Option Bool :=
 match P.underlying t with
 | some (.struct _)=>some true
 | some (.array _ _)=>some true
 | some _=>some false
 | none=>none
def jy:ZB->List ZB
 | .agg cs=>cs.toList
 | _=>[]
def eN:ZB->Bool
 | .agg _=>true
 | _=>false
def fF (P:Program) (f:FuncId):Bool :=
 match P.funcs[f]? with
 | some fn => fn.body.isSome && !(fn.name == "runtime.NumGoroutine")
 | none=>false
def Eg:Operand->Bool
 | .tmp _=>true
 | .const _=>false
 | .global _=>false
 | .func _=>false
def G3 (f:FuncId) (args:Array ZB):Sem ZB:=do
 match <- callFunc f args with
 | .value v=>pure v
 | _ => stuck "no value"
def BS (P:Program) (f:FuncId) (args:List ZB) (t:TypeId) (kk:ZB->T):T :=
 match fF P f with
 | true=>T.call P f args (kI P t).1 (kI P t).2 (jj _ fun l=>kk (rv (kI P t).1 (kI P t).2 l))
 | false=>T.ek P (G3 f args.toArray) (kI P t).1 (kI P t).2 (jj _ fun l=>kk (rv (kI P t).1 (kI P t).2 l))
def yQ (P:Program) (c:Call) (t:TypeId) (args:List ZB) (kk:ZB->T):T :=
 match (c.argTypes[0]?).bind P.underlying with
 | some .string=>match args with
  | [.string s]=>kk (.int .i64 s.size)
  | _=>T.fail
 | some (.slice _)=>match args with
  | [.slice _ n _]=>kk (.int .i64 n)
  | _=>T.fail
 | _=>T.ek P (Builtin.len_ c.argTypes t args.toArray) false [(false,[.int .i64])] fun n=>kk (.int .i64 n)
def I9 (P:Program) (c:Call) (args:List ZB) (kk:ZB->T):T :=
 match (c.argTypes[0]?).bind P.underlying with
 | some (.slice _)=>match args with
  | [.slice _ _ n]=>kk (.int .i64 n)
  | _=>T.fail
 | _=>T.fail
def qR (P:Program) (b:Builtin) (c:Call) (t:TypeId) (args:List ZB) (kk:ZB->T):T :=
 match b,args with
 | .len,_=>yQ P c t args kk
 | .cap,_=>I9 P c args kk
 | .append,_=>T.ek P (Builtin.append_ c.argTypes t args.toArray) false [(false,[.slice 0])] fun p l cp=>kk (.slice p l cp)
 | .copy,_=>T.ek P (Builtin.copy_ c.argTypes t args.toArray) false [(false,[.int .i64])] fun n=>kk (.int .i64 n)
 | .min,_=>T.ek P (Builtin.min_ c.argTypes t args.toArray) false [cz P t] (jj _ fun l=>kk (rv false [cz P t] l))
 | .max,_=>T.ek P (Builtin.max_ c.argTypes t args.toArray) false [cz P t] (jj _ fun l=>kk (rv false [cz P t] l))
 | .delete,_=>T.ek P (Builtin.delete_ c.argTypes t args.toArray) true [] (kk (.tuple #[]))
 | .unsafeString,_=>T.ek P (Builtin.unsafeString_ c.argTypes t args.toArray) false [cz P t] (jj _ fun l=>kk (rv false [cz P t] l))
 | .unsafeSliceData,_=>T.ek P (Builtin.unsafeSliceData_ c.argTypes t args.toArray) false [cz P t] (jj _ fun l=>kk (rv false [cz P t] l))
 | _,_=>T.fail
def TI (P:Program) (t:TypeId) (lo hi mx:Option Operand) (a:ZB) (vs:List ZB) (kk:ZB->T):T :=
 match lo,hi,mx,vs with
 | none,none,none,[]=>iI P t a none none none kk
 | some _,none,none,[l]=>iI P t a (some l) none none kk
 | none,some _,none,[h]=>iI P t a none (some h) none kk
 | some _,some _,none,[l,h]=>iI P t a (some l) (some h) none kk
 | some _,some _,some _,[l,h,m]=>iI P t a (some l) (some h) (some m) kk
 | none,some _,some _,[h,m]=>iI P t a none (some h) (some m) kk
 | _,_,_,_=>T.fail
def xF (P:Program) (t:TypeId) (v i:ZB) (kk:ZB->T):T :=
 match v,i,P.underlying t with
 | .slice p len _,.int _ n,some (.slice el)=>bif !mV P el then T.fail else T.need (0<=n/\n<len) (T.bF p fun a=>kk (.pointer (some (a.add (n.toNat*P.cellsOf el)))))
 | .pointer p,.int _ n,some (.array len el)=>bif !mV P el then T.fail else T.need (0<=n/\n<len) (T.bF p fun a=>kk (.pointer (some (a.add (n.toNat*P.cellsOf el)))))
 | _,_,_=>T.fail
def F6 (P:Program) (t:TypeId) (v i:ZB) (kk:ZB->T):T :=
 match v,i,P.underlying t with
 | .string s,.int _ n,some .string=>T.need (0<=n/\n<s.size) (kk (.int .u8 (cR s n)))
 | v,i,some (.array len el)=>T.ek P (Instr.index t v i) false [cz P el] (jj _ fun l=>kk (rv false [cz P el] l))
 | _,_,_=>T.fail
def r7 (xs:List ZB):Nat->List ZB->List ZB
 | _,[]=>xs
 | i,v::vs=>r7 (xs.set i v) (i+1) vs
def ft (place:Nat->Option (Nat × Nat)) (cells:List ZB):List (Nat × List ZB)->Option (List ZB)
 | []=>some cells
 | (i,l)::rest =>
  match place i with
  | none=>none
  | some (off,size)=>bif !(Nat.beq l.length size) || Nat.blt cells.length (off+l.length) then none else ft place (r7 cells off l) rest
def fc (agg:Nat->Option Bool):List (Nat × ZB)->(List (Nat × List ZB)->T)->T
 | [],k=>k []
 | (i,v)::l,k =>
  match agg i with
  | some true=>cond (eN v) (fc agg l fun r=>k ((i,jy v)::r)) T.fail
  | some false=>cond (eN v) T.fail (fc agg l fun r=>k ((i,[v])::r))
  | none=>T.fail
def tS (P:Program) (o:Oper) (e:Env) (kk:ZB->T):T :=
 match o.op with
 | .move x=>bU e x kk
 | .assign x=>bU e x kk
 | .pick c a b=>bU e c fun c=>match c with
  | .bool b'=>cond b' (bU e a kk) (bU e b kk)
  | _=>T.fail
 | .alloc t=>match (P.info? t).bind (·.zero) with
  | some z=>T.new z.cells.toList t fun a=>kk (.pointer (some a))
  | none=>T.fail
 | .box t x=>bU e x fun v=>match cB P t with
  | some true=>cond (eN v) (T.new (jy v) t fun a=>kk (.pointer (some a))) T.fail
  | some false=>cond (eN v) T.fail (T.new [v] t fun a=>kk (.pointer (some a)))
  | none=>T.fail
 | .build t ps=>gY e (ps.toList.map (·.2)) fun vs=>match P.underlying t,(P.info? t).bind (·.zero) with
  | some (.struct fs),some z =>
   bif !(fs.all fun f=>mV P f.type) then T.fail else fc (fun i=>(fs[i]?).bind fun f=>cB P f.type) ((ps.toList.map (·.1)).zip vs) fun ls=>match ft (((fs.map fun f=>(f.offset,P.cellsOf f.type)))[·]?) z.cells.toList ls with
   | some cs=>kk (.agg cs.toArray)
   | none=>T.fail
  | some (.array _ el),some z =>
   bif !mV P el then T.fail else fc (fun _=>cB P el) ((ps.toList.map (·.1)).zip vs) fun ls=>match ft (fun i=>some (i*P.cellsOf el,P.cellsOf el)) z.cells.toList ls with
   | some cs=>kk (.agg cs.toArray)
   | none=>T.fail
  | _,_=>T.fail
 | .buildSlice t len ps=>gY e (ps.toList.map (·.2)) fun vs =>
  T.ek P (Instr.buildSlice t len ((ps.toList.map (·.1)).zip vs).toArray) false [(false,[.slice 0])] fun p l c=>kk (.slice p l c)
 | .load t x=>bU e x fun v=>match v,cB P t with
  | .pointer p,some true=>bif (eU P 9 t).length==P.cellsOf t then T.bF p fun a=>T.ah a (eU P 9 t) (jj _ fun l=>kk (.agg l.toArray)) else T.fail
  | .pointer p,some false=>T.bF p fun a=>T.ah a (cz P t).2 (jj _ fun l=>kk (l.headD undef))
  | _,_=>T.fail
 | .store t x y=>bU e x fun p=>bU e y fun v=>match p,cB P t with
  | .pointer p,some true=>cond (eN v) (bif (jy v).length==P.cellsOf t then T.bF p fun a=>T.aE a (jy v) (kk undef) else T.fail) T.fail
  | .pointer p,some false=>bif P.cellsOf t==1 then cond (eN v) T.fail (T.bF p fun a=>T.aE a [v] (kk undef)) else T.fail
  | _,_=>T.fail
 | .nilCheck x=>bU e x fun v=>match v with
  | .pointer p=>T.bF p fun a=>kk (.pointer (some a))
  | .func (.func f) fi ca=>kk (.func (.func f) fi ca)
  | .iface t v=>kk (.iface t v)
  | _=>T.fail
 | .binOp op t x y _=>bU e x fun a=>bU e y fun b=>CT P op t x y a b kk
 | .unOp op _ x=>bU e x fun a=>TB op a kk
 | .convert s d x=>bU e x fun a=>xf P s d a kk
 | .makeInterface t x=>bU e x fun a=>match P.underlying t with
  | some (.interface _)=>T.fail
  | some _=>kk (.iface t a)
  | none=>T.fail
 | .makeFunc fn fi ca=>gY e fi.toList fun fi=>gY e ca.toList fun ca=>kk (.func fn fi.toArray ca.toArray)
 | .makeMap t none=>T.ek P (Instr.makeMap t none) false [(false,[.map 0 0])] fun r=>kk (.map r)
 | .makeSlice t l c=>bU e l fun l=>bU e c fun c=>T.ek P (Instr.makeSlice t l c) false [(false,[.slice 0])] fun p l c=>kk (.slice p l c)
 | .slice t x lo hi mx=>bU e x fun a=>gY e (lo.toList++hi.toList++mx.toList) fun vs=>TI P t lo hi mx a vs kk
 | .fieldAddr s x f=>bU e x fun v=>match v,P.underlying s with
  | .pointer p,some (.struct fs)=>match fs[f]? with
   | some fd=>match P.cellsOf fd.type with
    | 0=>T.fail
    | _+1=>T.bF p fun a=>kk (.pointer (some (a.add fd.offset)))
   | none=>T.fail
  | _,_=>T.fail
 | .field s x f=>bU e x fun v=>match v,P.underlying s with
  | .agg cs,some (.struct fs)=>match fs[f]? with
   | some fd=>sy P fd.type cs.toList fd.offset kk
   | none=>T.fail
  | _,_=>T.fail
 | .indexAddr t x i=>bU e x fun v=>bU e i fun i=>xF P t v i kk
 | .index t x i=>bU e x fun v=>bU e i fun i=>F6 P t v i kk
 | .lookup t m x ok=>bU e m fun m=>bU e x fun x=>match P.underlying t with
  | some (.map _ el)=>match ok with
   | true=>T.ek P (Instr.lookup t m x true) true [cz P el,(false,[.bool])] (jj _ fun l=>kk (rv true [cz P el,(false,[.bool])] l))
   | false=>T.ek P (Instr.lookup t m x false) false [cz P el] (jj _ fun l=>kk (rv false [cz P el] l))
  | _=>T.fail
 | .mapUpdate t m x v=>bU e m fun m=>bU e x fun x=>bU e v fun v=>T.ei P (Instr.mapUpdate t m x v) (kk undef)
 | .insert t m x v=>bU e m fun m=>bU e x fun x=>bU e v fun v=>T.ei P (Instr.mapUpdate t m x v) (kk undef)
 | .mapEntry t m x=>bU e m fun m=>bU e x fun x=>match P.underlying t with
  | some (.map _ el)=>T.ek P (Instr.mapEntry t m x) true [cz P el,(false,[.int .i64])] (jj _ fun l=>kk (rv true [cz P el,(false,[.int .i64])] l))
  | _=>T.fail
 | .entryStore t m x v=>bU e m fun m=>bU e x fun x=>bU e v fun v=>T.ei P (Instr.entryStore t m x v) (kk undef)
 | .range t x=>bU e x fun x=>T.ek P (Instr.range t x) false [(false,[.pointer 0])] fun p=>kk (.pointer p)
 | .next it b=>bU e it fun it=>match P.underlying o.type with
  | some (.tuple ts)=>match ts.toList with
   | []=>T.next P (Instr.next it b o.type) (Ih b) (kk (.tuple #[.bool false])) (jj _ fun l=>kk (.tuple (.bool true::parts (Ih b) l).toArray))
   | _::ts=>T.next P (Instr.next it b o.type) (ts.map (cz P)) (kk (.tuple #[.bool false])) (jj _ fun l=>kk (.tuple (.bool true::parts (ts.map (cz P)) l).toArray))
  | _=>T.fail
 | .entry it=>bU e it fun it=>T.ek P (Instr.entry it) true (Ih false) (jj _ fun l=>kk (rv true (Ih false) l))
 | .typeAssert x t d ok=>bU e x fun x=>match ok with
  | true=>T.ek P (Instr.typeAssert x t d true) true [cz P d,(false,[.bool])] (jj _ fun l=>kk (rv true [cz P d,(false,[.bool])] l))
  | false=>T.ek P (Instr.typeAssert x t d false) false [cz P d] (jj _ fun l=>kk (rv false [cz P d] l))
 | .extract x i=>bU e x fun v=>match v with
  | .tuple vs=>match vs.toList[i]? with
   | some v=>kk v
   | none=>T.fail
  | _=>T.fail
 | .call c=>match c.callee with
  | .builtin b=>gY e c.args.toList fun vs=>qR P b c o.type vs kk
  | .value g=>match Eg g with
   | true=>bU e g fun g=>gY e c.args.toList fun vs=>T.sI P g vs (kI P o.type).1 (kI P o.type).2 (jj _ fun l=>kk (rv (kI P o.type).1 (kI P o.type).2 l))
   | false=>bU e g fun g=>gY e c.args.toList fun vs=>match g with
    | .func (.func f) fi ca=>BS P f (fi.toList++vs++ca.toList) o.type kk
    | .func (.method _) _ _=>T.fail
    | .func (.methodOf _ _) _ _=>T.fail
    | .func (.via _ _ _ _) _ _=>T.fail
    | .func (.yield _) _ _=>T.fail
    | .nilFunc=>T.fail
    | .bool _=>T.fail
    | .int _ _=>T.fail
    | .float _ _=>T.fail
    | .complex _ _ _=>T.fail
    | .string _=>T.fail
    | .pointer _=>T.fail
    | .slice _ _ _=>T.fail
    | .map _=>T.fail
    | .chan _=>T.fail
    | .iface _ _=>T.fail
    | .nilIface=>T.fail
    | .agg _=>T.fail
    | .tuple _=>T.fail
  | .invoke _ _=>T.fail
 | _=>T.fail
def guardOf (ops:Array Oper) (o:Oper):Option (Option Tmp × Bool) :=
 match o.guard with
 | none=>none
 | some (j,want)=>some ((ops[j]?).bind (·.dst),want)
def kY (n:Nat) (ops:Array Oper) (o:Oper) (e:Env) (yes no:Env->T):T :=
 match guardOf ops o with
 | none=>yes e
 | some (none,_)=>no e
 | some (some d,want) =>
  match cM e d with
  | some (.bool b)=>match want with
   | true=>cond b (yes (dV n e (some d) (.bool true))) (no (dV n e (some d) (.bool false)))
   | false=>cond b (no (dV n e (some d) (.bool true))) (yes (dV n e (some d) (.bool false)))
  | some (.tuple _)=>no e
  | _=>T.fail
def D7 (P:Program) (n:Nat) (ops:Array Oper):List Oper->Env->(Env->T)->T
 | [],e,k=>k e
 | o::rest,e,k=>kY n ops o e (fun e=>tS P o e fun v=>D7 P n ops rest (dV n e o.dst v) k) (fun e=>D7 P n ops rest (dV n e o.dst undef) k)
def ri (P:Program) (o:Oper):Bool :=
 match o.op with
 | .move _=>true
 | .pick _ _ _=>true
 | .build _ _=>true
 | .nilCheck _=>true
 | .binOp _ t x y _=>q8 P t x y
 | .unOp _ _ _=>true
 | .convert s d _=>match P.underlying s,P.underlying d with
  | some (.int _),some (.int _)=>true
  | some .string,some .string=>true
  | _,_=>false
 | .makeInterface _ _=>true
 | .makeFunc _ _ _=>true
 | .slice t _ _ _ none=>match P.underlying t with
  | some .string=>true
  | some (.slice _)=>true
  | _=>false
 | .fieldAddr _ _ _=>true
 | .field _ _ _=>true
 | .indexAddr _ _ _=>true
 | .index t _ _=>match P.underlying t with
  | some .string=>true
  | _=>false
 | .extract _ _=>true
 | .call c=>match c.callee with
  | .builtin .len=>match (c.argTypes[0]?).bind P.underlying with
   | some .string=>true
   | some (.slice _)=>true
   | _=>false
  | .builtin .cap=>match (c.argTypes[0]?).bind P.underlying with
   | some (.slice _)=>true
   | _=>false
  | _=>false
 | _=>false
def zR (o:Oper):Bool :=
 match o.op with
 | .load _ _=>true
 | _=>false
def calm (P:Program) (o:Oper):Bool:=ri P o || zR o
def r5 (x:Nat):List Nat->Bool
 | []=>false
 | y::l=>Nat.beq x y || r5 x l
def waits (o:Oper):List Nat:=(o.after.toList.filter fun e=>Region.binds .any e).map (·.on)
def wW (D:List Nat) (i:Nat) (o:Oper):Bool:=!r5 i D && (waits o).all fun j=>r5 j D
def looks (ops : Array Oper) (o : Oper) : List Nat :=
  (o.op.operands.toList.filterMap fun | .tmp t => some t | _ => none) ++
  (match o.guard with
   | some (g, _) => ((ops[g]?).bind (·.dst)).toList
   | none => [])
def lY:Option Nat->Nat->Bool
 | some d,s=>Nat.beq d s
 | none,_=>false
def Hf (P : Program) (ops : Array Oper) (i j : Nat) (x y : Oper) : Bool :=
  match Nat.beq i j with
  | true => (match x.dst with
    | some d => !calm P x || !r5 d (looks ops x)
    | none => true)
  | false => (match y.dst with
    | some d => !r5 d (looks ops x) || r5 j (waits x) || (r5 i (waits y) && !calm P y)
    | none => true) &&
   (match x.dst, calm P x with
    | some d, true => !lY y.dst d
    | _, _ => true)
def idx:Nat->List Oper->List (Nat × Oper)
 | _,[]=>[]
 | i,o::l=>(i,o)::idx (i+1) l
def ee (P : Program) (n : Nat) (ops : Array Oper) : Bool :=
  ((idx 0 ops.toList).all fun p => match p.2.dst with
    | some d => Nat.blt d n
    | none => true) && (idx 0 ops.toList).all fun p => (idx 0 ops.toList).all fun q => Hf P ops p.1 q.1 p.2 q.2
abbrev Made:=List (Nat × Zx × List ZB)
def j1 (o:Oper):Made->List (Zx × List ZB)
 | []=>[]
 | (i,a,l)::m=>bif r5 i (waits o) then j1 o m else (a,l)::j1 o m
def uu (l:List (Zx × List ZB)) (t:T):T :=
 match l with
 | []=>t
 | p::l=>T.bj (p::l) t
def SH:List T->T
 | []=>T.fail
 | [t]=>t
 | t::ts=>T.all (t::ts)
def qH (P:Program) (t:TypeId) (x:Operand) (e:Env) (kk:Zx->List ZB->ZB->T):T :=
 bU e x fun v=>match v,cB P t with
  | .pointer p,some true=>bif (eU P 9 t).length==P.cellsOf t then T.bF p fun a=>T.ah a (eU P 9 t) (jj _ fun l=>kk a l (.agg l.toArray)) else T.fail
  | .pointer p,some false=>T.bF p fun a=>T.ah a (cz P t).2 (jj _ fun l=>kk a l (l.headD undef))
  | _,_=>T.fail
def cU (P:Program) (D:List Nat) (c:Bool):List (Nat × Oper)->List (Nat × Oper)
 | []=>[]
 | p::l=>match wW D p.1 p.2 && (calm P p.2==c) with
  | true=>p::cU P D c l
  | false=>cU P D c l
def fR (P:Program) (n:Nat) (ops:Array Oper):Nat->List Nat->Env->Made->(Env->T)->T
 | 0,_,_,_,_=>T.fail
 | fu+1,D,e,m,k =>
  match cU P D true (idx 0 ops.toList) with
  | (i,o)::_ =>
   kY n ops o e (fun e=>match o.op with
    | .load t x=>qH P t x e fun a l v=>fR P n ops fu (i::D) (dV n e o.dst v) ((i,a,l)::m) k
    | _=>tS P o e fun v=>fR P n ops fu (i::D) (dV n e o.dst v) m k)
    fun e=>fR P n ops fu (i::D) (dV n e o.dst undef) m k
  | [] =>
   match cU P D false (idx 0 ops.toList) with
   | []=>k e
   | q::qs=>SH ((q::qs).map fun p=>kY n ops p.2 e (fun e=>tS P p.2 e fun v=>uu (j1 p.2 m) (fR P n ops fu (p.1::D) (dV n e p.2.dst v) m k))
     fun e=>fR P n ops fu (p.1::D) (dV n e p.2.dst undef) m k)
def uH (P:Program) (n:Nat) (_id:Nat) (ops:Array Oper) (e:Env) (k:Env->T):T :=
 match ee P n ops with
 | true=>fR P n ops (ops.size+1) [] e [] k
 | false=>T.fail
def ej:Code->List Nat
 | .region _ ops _=>ops.toList.filterMap (·.dst)
 | .seq a b=>ej a++ej b
 | .cond _ a b=>ej a++ej b
 | .block _ c=>ej c
 | .loop c=>ej c
 | .scope c=>ej c
 | .rangeFunc _ ps a b=>ps.toList++ej a++ej b
 | _=>[]
def rN (x:Nat):List Nat->List Nat
 | []=>[x]
 | y::l=>bif Nat.blt x y then x::y::l else bif Nat.beq x y then y::l else y::rN x l
def iH (l:List Nat):List Nat:=l.foldl (fun acc x=>rN x acc) []
def QP:ZB->TypeDesc
 | .bool _=>.bool
 | .int k _=>.int k
 | .string _=>.string
 | .pointer _=>.pointer 0
 | .slice _ _ _=>.slice 0
 | .map _=>.map 0 0
 | _=>.invalid
def KO:ZB->fE
 | .agg cs=>(true,cs.toList.map QP)
 | v=>(false,[QP v])
def live (e:Env):List Nat->List (Nat × ZB)
 | []=>[]
 | s::l=>match cM e s with
  | some v=>(s,v)::live e l
  | none=>live e l
def forget (e:Env) (l:List Nat):Env:=l.map (fun s=>(s,none))++e
def mC (l:List Nat) (vs:List ZB):Env:=(l.zip vs).map fun p=>(p.1,some p.2)
def zD (e:Env):List Nat->(List ZB->T)->T
 | [],k=>k []
 | s::l,k=>match cM e s with
  | some v=>zD e l fun vs=>k (v::vs)
  | none=>T.fail
def HK (ms:List Nat) (e:Env) (lv:Nat) (body:Env->(Env->T)->T):T :=
 let lvs:=live e (iH ms)
 let ss:=lvs.map (·.1)
 let cs:=lvs.map fun p=>KO p.2
 T.loop cs (lvs.map (·.2)) (jj (flat cs) fun l=>body (mC ss (parts cs l)++forget e (iH ms)) fun e'=>zD e' ss fun vs=>T.again lv vs)
def jz (l:Nat):Code->Bool
 | .goto l'=>Nat.beq l l'
 | .seq a b=>jz l a || jz l b
 | .cond _ a b=>jz l a || jz l b
 | .block _ c=>jz l c
 | .loop c=>jz l c
 | .scope c=>jz l c
 | .rangeFunc _ _ a b=>jz l a || jz l b
 | _=>false
def labels:Code->List Nat
 | .label l=>[l]
 | .seq a b=>labels a++labels b
 | _=>[]
def AU (c:Code):Option Nat :=
 (labels c).find? fun l=>match findLabel c l with
  | some r=>jz l r
  | none=>false
def Rq:Code->Nat->Code
 | .seq a b,l=>match findLabel a l with
  | some _=>Rq a l
  | none=>.seq a (Rq b l)
 | _,_=>.skip
def NO (ss:List Nat) (cs:List fE) (ms:List Nat) (e:Env) (lv:Nat) (first:(Env->T)->T) (after:Env->T):T :=
 T.join cs (first fun e'=>zD e' ss fun vs=>T.again lv vs) (jj (flat cs) fun l=>after (mC ss (parts cs l)++forget e (iH ms)))
def jO:Code->Option Nat
 | .region id _ _=>some id
 | .seq a b=>match jO a with
  | some i=>some i
  | none=>jO b
 | .cond _ a _=>jO a
 | .block _ c=>jO c
 | .loop c=>jO c
 | .scope c=>jO c
 | _=>none
def IC (cuts:List Nat):Option Nat->Nat->Bool
 | some i,k=>r5 (i+k) cuts
 | none,_=>false
def handsOn (P:Program):List Oper->List (Nat × fE)
 | []=>[]
 | [o]=>match o.dst with
  | some d=>[(d,cz P o.type)]
  | none=>[]
 | o::l=>match o.op,o.dst with
  | .assign _,some d=>(d,cz P o.type)::handsOn P l
  | _,_=>handsOn P l
def fC (l:Nat):Code->Bool
 | .label l'=>Nat.beq l l'
 | .seq a _=>fC l a
 | _=>false
def dstsOf (ops:Array Oper):List Nat:=ops.toList.filterMap (·.dst)
mutual
def fK (P:Program) (n:Nat) (cuts:List Nat):Nat->Code->Env->Nat->(Exit->Env->Nat->T)->T
 | 0,_,_,_,_=>T.fail
 | fu+1,c,e,lv,κ =>
  match c with
  | .skip=>κ .normal e lv
  | .label _=>κ .normal e lv
  | .exit i=>κ (.exit i) e lv
  | .goto l=>κ (.goto l) e lv
  | .ret=>κ .ret e lv
  | .seq a b =>
   match IC cuts (jO b) 1000 with
   | false=>fK P n cuts fu a e lv fun x e' lv'=>match x with
    | .normal=>fK P n cuts fu b e' lv' κ
    | x=>κ x e' lv'
   | true =>
    NO ((live e (iH (ej a))).map (·.1)) ((live e (iH (ej a))).map fun p=>KO p.2) (ej a) e lv
     (fun k=>fK P n cuts fu a e (lv+1) fun x e' lv'=>match x with
      | .normal=>k e'
      | x=>κ x e' lv')
     (fun e'=>fK P n cuts fu b e' lv κ)
  | .cond c a b=>match ev e c with
   | some (.bool t)=>cond t (fK P n cuts fu a e lv κ) (fK P n cuts fu b e lv κ)
   | _=>T.fail
  | .block id c=>fK P n cuts fu c e lv fun x e' lv'=>match x with
   | .exit i=>match Nat.beq i id with
    | true=>κ .normal e' lv'
    | false=>κ (.exit i) e' lv'
   | x=>κ x e' lv'
  | .region id ops draw =>
   match IC cuts (some id) 0 with
   | false=>match draw with
    | false=>D7 P n ops ops.toList e fun e'=>κ .normal e' lv
    | true=>uH P n id ops e fun e'=>κ .normal e' lv
   | true=>NO ((handsOn P ops.toList).map (·.1)) ((handsOn P ops.toList).map (·.2)) (dstsOf ops) e lv
     (fun k=>match draw with
      | false=>D7 P n ops ops.toList e k
      | true=>uH P n id ops e k)
     (fun e'=>κ .normal e' lv)
  | .loop c=>HK (ej c) e lv fun e' k=>fK P n cuts fu c e' (lv+1) fun x e'' lv'=>match x with
   | .normal=>k e''
   | x=>κ x e'' lv'
  | .scope c=>match AU c with
   | none=>ld P n cuts fu c c e lv none (fun _=>T.fail) κ
   | some l=>match findLabel c l with
    | none=>T.fail
    | some r=>wy P n cuts fu c c l r e lv κ
  | _=>T.fail
def ld (P:Program) (n:Nat) (cuts:List Nat):Nat->Code->Code->Env->Nat->Option Nat->(Env->T)->(Exit->Env->Nat->T)->T
 | 0,_,_,_,_,_,_,_=>T.fail
 | fu+1,c,r,e,lv,back,k,κ=>fK P n cuts fu r e lv fun x e' lv'=>match x with
  | .goto l=>match lY back l with
   | true=>k e'
   | false=>match findLabel c l with
    | some r'=>ld P n cuts fu c r' e' lv' back k κ
    | none=>κ (.goto l) e' lv'
  | x=>κ x e' lv'
def wy (P:Program) (n:Nat) (cuts:List Nat):Nat->Code->Code->Nat->Code->Env->Nat->(Exit->Env->Nat->T)->T
 | 0,_,_,_,_,_,_,_=>T.fail
 | fu+1,c,t,l,r,e,lv,κ =>
  match fC l t with
  | true=>HK (ej c) e lv fun e'' k=>ld P n cuts fu c r e'' (lv+1) (some l) k κ
  | false=>match t with
   | .seq a b=>match findLabel a l with
    | some _=>T.fail
    | none=>fK P n cuts fu a e lv fun x e' lv'=>match x with
     | .normal=>wy P n cuts fu c b l r e' lv' κ
     | .goto _=>T.fail
     | x=>κ x e' lv'
   | _=>T.fail
end
def wm (P:Program):List ResultVar->Env->(List ZB->T)->T
 | [],_,k=>k []
 | .tmp t::rs,e,k=>bU e (.tmp t) fun v=>wm P rs e fun l=>k (v::l)
 | .cell a t::rs,e,k=>bU e (.tmp a) fun p=>match p,cB P t with
  | .pointer p,some true=>bif (eU P 9 t).length==P.cellsOf t then T.bF p fun a=>T.ah a (eU P 9 t) (jj _ fun l=>wm P rs e fun l'=>k (.agg l.toArray::l')) else T.fail
  | .pointer p,some false=>T.bF p fun a=>T.ah a (cz P t).2 (jj _ fun l=>wm P rs e fun l'=>k (l.headD undef::l'))
  | _,_=>T.fail
def one (l:List ZB):ZB :=
 match l with
 | [v]=>v
 | l=>.tuple l.toArray
def tI:Nat->List ZB->Env
 | _,[]=>[]
 | i,v::vs=>(i,some v)::tI (i+1) vs
def bQ (P:Program) (cuts:List Nat) (fn:Func) (args:List ZB):T :=
 match fn.body with
 | none=>T.fail
 | some c=>fK P fn.ntmps cuts 100000 c (tI 0 args) 0 fun x e _=>match x with
  | .normal=>wm P fn.results.toList e fun l=>T.ret (one l)
  | .ret=>wm P fn.results.toList e fun l=>T.ret (one l)
  | _=>T.fail
end Go.Sx
