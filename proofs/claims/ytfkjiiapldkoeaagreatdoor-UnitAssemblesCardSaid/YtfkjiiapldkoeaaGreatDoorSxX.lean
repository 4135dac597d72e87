/- Part of the framework. No condition. -/
import Derived.Test.YtfkjiiapldkoeaaGreatDoorSxT
set_option linter.all false
set_option maxHeartbeats 4000000
namespace Go.Sx
abbrev Env:=List (Nat × Option XB)
def cF:Env->Nat->Option XB
 | [],_=>none
 | (s,v)::e,t=>bif Nat.beq s t then v else cF e t
def eR (n:Nat) (e:Env) (dst:Option Tmp) (v:XB):Env :=
 match dst with
 | none=>e
 | some d=>bif Nat.blt d n then (d,some v)::e else e
def ev (e:Env):Operand->Option XB
 | .tmp t=>cF e t
 | .const v=>some v
 | .global g=>some (.pointer (some ⟨g,0,none⟩))
 | .func f=>some (.func (.func f) #[] #[])
namespace T
def aA (p:Option XC) (k:XC->T):T :=
 match p with
 | some a=>k a
 | none=>T.fail
end T
def gU (P:Program):Nat->TypeId->List TypeDesc
 | 0,_=>[.invalid]
 | n+1,t =>
  match P.underlying t with
  | some (.struct fs)=>fs.toList.flatMap fun f=>gU P n f.type
  | some (.array k e)=>(List.replicate k (gU P n e)).flatten
  | some d=>[d]
  | none=>[.invalid]
def dM (P:Program) (t:TypeId):fX :=
 match P.underlying t with
 | some (.struct _)=>(true,gU P 9 t)
 | some (.array _ _)=>(true,gU P 9 t)
 | some d=>(false,[d])
 | none=>(false,[.invalid])
def wH (P:Program) (t:TypeId):Bool × List fX :=
 match P.underlying t with
 | some (.tuple ts)=>(true,ts.toList.map (dM P))
 | _=>(false,[dM P t])
def EU (b:Bool):List fX :=
 match b with
 | true=>[(false,[.int .i64]),(false,[.int .i32])]
 | false=>[(false,[.string]),(false,[.bool])]
def bP (e:Env) (x:Operand) (k:XB->T):T :=
 match ev e x with
 | some v=>k v
 | none=>T.fail
def iN (e:Env):List Operand->(List XB->T)->T
 | [],k=>k []
 | x::xs,k=>bP e x fun v=>iN e xs fun l=>k (v::l)
def aU (s:XA) (n:Int):Int:=((s.data.toList.getD n.toNat 0).toNat:Nat)
def IL (op:BinOp) (k:IntKind) (x y:Int):Int :=
 match op with
 | .and=>k.wrap (BitVec.ofInt k.bits x &&& BitVec.ofInt k.bits y).toNat
 | .or=>k.wrap (BitVec.ofInt k.bits x ||| BitVec.ofInt k.bits y).toNat
 | .xor=>k.wrap (BitVec.ofInt k.bits x ^^^ BitVec.ofInt k.bits y).toNat
 | _=>k.wrap (BitVec.ofInt k.bits x &&& ~~~ BitVec.ofInt k.bits y).toNat
def IS (op:BinOp) (k:IntKind) (m n:Int) (kk:XB->T):T :=
 match op with
 | .add=>kk (.int k (k.wrap (m+n)))
 | .sub=>kk (.int k (k.wrap (m-n)))
 | .mul=>kk (.int k (k.wrap (m*n)))
 | .quo=>T.need (n≠0) (kk (.int k (k.wrap (m.tdiv n))))
 | .rem=>T.need (n≠0) (kk (.int k (m.tmod n)))
 | .eql=>kk (.bool (m==n))
 | .neq=>kk (.bool (m != n))
 | .lss=>kk (.bool (decide (m<n)))
 | .leq=>kk (.bool (decide (m<=n)))
 | .gtr=>kk (.bool (decide (m>n)))
 | .geq=>kk (.bool (decide (m>=n)))
 | .and=>kk (.int k (IL .and k m n))
 | .or=>kk (.int k (IL .or k m n))
 | .xor=>kk (.int k (IL .xor k m n))
 | .andNot=>kk (.int k (IL .andNot k m n))
 | _=>T.fail
def xG (op:BinOp) (k:IntKind) (m n:Int) (kk:XB->T):T :=
 match op with
 | .shl=>T.need (0<=n) (kk (.int k (k.wrap (m*2^(min n.toNat k.bits)))))
 | .shr=>T.need (0<=n) (kk (.int k (m.fdiv (2^(min n.toNat k.bits)))))
 | _=>T.fail
def IJ (op:BinOp) (x y:XA) (kk:XB->T):T :=
 match op with
 | .add=>T.need (((x.size+y.size:Nat):Int)<=IntKind.i64.max) (kk (.string (x++y)))
 | .eql=>kk (.bool (x.toList==y.toList))
 | .neq=>kk (.bool !(x.toList==y.toList))
 | .lss=>kk (.bool (Op.bytesLess x.toList y.toList))
 | .leq=>kk (.bool (Op.bytesLess x.toList y.toList || x.toList==y.toList))
 | .gtr=>kk (.bool !(Op.bytesLess x.toList y.toList || x.toList==y.toList))
 | .geq=>kk (.bool !(Op.bytesLess x.toList y.toList))
 | _=>T.fail
def nN:BinOp->Bool
 | .shl=>true
 | .shr=>true
 | _=>false
def isNil (x:Operand):Bool :=
 match x with
 | .const (.pointer none)=>true
 | .const (.slice none 0 0)=>true
 | .const (.map none)=>true
 | _=>false
def df (op:BinOp) (t:TypeId) (x y:Operand) (a b:XB):Sem XB:=do eqGuard op t x y a b; binOp op t a b
def Mb (P:Program) (op:BinOp) (t:TypeId) (x y:Operand) (a b:XB) (kk:XB->T):T :=
 T.fb P (df op t x y a b) false [(false,[.bool])] fun r=>kk (.bool r)
def asked (op:BinOp) (b:Bool) (kk:XB->T) (other:T):T :=
 match op with
 | .eql=>kk (.bool b)
 | .neq=>kk (.bool !b)
 | _=>other
def vo (P:Program) (t:TypeId) (x y:Operand):Bool :=
 match P.underlying t with
 | some (.int _)=>true
 | some .string=>true
 | some .bool=>true
 | some (.pointer _)=>isNil y
 | some (.slice _)=>isNil y
 | some (.map _ _)=>isNil y
 | _=>false
def BE (P:Program) (op:BinOp) (t:TypeId) (a b:XB) (kk:XB->T):T :=
 match a,b with
 | .int k m,.int k' n =>
  match nN op with
  | true=>xG op k m n kk
  | false=>match decide (k=k') with
   | true=>IS op k m n kk
   | false=>T.fail
 | .string m,.string n=>IJ op m n kk
 | .bool m,.bool n =>
  match P.underlying t with
  | some .bool=>asked op (m==n) kk T.fail
  | _=>T.fail
 | .pointer p,.pointer _ =>
  match P.underlying t with
  | some (.pointer _)=>asked op p.isNone kk T.fail
  | _=>T.fail
 | .slice p _ _,.slice _ _ _ =>
  match P.underlying t with
  | some (.slice _)=>asked op p.isNone kk T.fail
  | _=>T.fail
 | .map p,.map _ =>
  match P.underlying t with
  | some (.map _ _)=>asked op p.isNone kk T.fail
  | _=>T.fail
 | _,_=>T.fail
def F0 (P:Program) (op:BinOp) (t:TypeId) (x y:Operand) (a b:XB) (kk:XB->T):T :=
 match vo P t x y with
 | true=>BE P op t a b kk
 | false=>Mb P op t x y a b kk
def Ma (op:UnOp) (a:XB) (kk:XB->T):T :=
 match op,a with
 | .neg,.int k n=>kk (.int k (k.wrap (0-n)))
 | .xor,.int k n=>kk (.int k (IL .xor k (if k.signed then -1 else k.max) n))
 | .not,.bool b=>kk (.bool !b)
 | _,_=>T.fail
def BC (P:Program) (src dst:TypeId) (a:XB) (kk:XB->T):T :=
 match P.underlying src,P.underlying dst,a with
 | some (.int _),some (.int k),.int _ n=>kk (.int k (k.wrap n))
 | some .string,some .string,.string s=>kk (.string s)
 | some .string,some .string,_=>T.fail
 | _,some (.slice _),_=>T.fb P (convert src dst a) false [(false,[.slice 0])] fun p l c=>kk (.slice p l c)
 | _,some .string,_=>T.fb P (convert src dst a) false [(false,[.string])] fun s=>kk (.string s)
 | _,_,_=>T.fail
def wv:Option XB->Int
 | some (.int _ n)=>n
 | _=>0
def iS:Option XB->Bool
 | some (.int _ _)=>true
 | none=>true
 | _=>false
def tY (d:Int):Option XB->Int
 | some (.int _ n)=>n
 | _=>d
def sY (P:Program) (t:TypeId):Bool:=(P.info? t).isSome
def kJ (P:Program) (t:TypeId) (a:XB) (lo hi mx:Option XB) (kk:XB->T):T :=
 match iS lo && iS hi && iS mx with
 | false=>T.fail
 | true =>
  match P.underlying t with
  | some .string=>match a,mx with
   | .string s,none =>
    T.need (0<=wv lo/\wv lo<=tY s.size hi/\tY s.size hi<=s.size) (kk (.string (s.extract (wv lo).toNat (tY s.size hi).toNat)))
   | _,_=>T.fail
  | some (.slice e)=>match mx with
   | some _=>T.fb P (Instr.sliceAt t a lo hi mx) false [(false,[.slice 0])] fun p l c=>kk (.slice p l c)
   | none=>match a with
    | .slice p len cap =>
     match sY P e with
     | false=>T.fail
     | true=>T.need (0<=wv lo/\wv lo<=tY len hi/\tY len hi<=cap) (kk (.slice (if cap=(wv lo).toNat then p else p.map (·.add ((wv lo).toNat*P.cellsOf e))) ((tY len hi).toNat-(wv lo).toNat) (cap-(wv lo).toNat)))
    | _=>T.fail
  | _=>T.fb P (Instr.sliceAt t a lo hi mx) false [(false,[.slice 0])] fun p l c=>kk (.slice p l c)
def xC (P:Program) (t:TypeId) (cs:List XB) (off:Nat) (kk:XB->T):T :=
 match P.underlying t with
 | some (.struct _)=>kk (.agg ((cs.drop off).take (P.cellsOf t)).toArray)
 | some (.array _ _)=>kk (.agg ((cs.drop off).take (P.cellsOf t)).toArray)
 | some _=>match cs[off]? with
  | some v=>kk v
  | none=>T.fail
 | none=>T.fail
def du (P:Program) (t:TypeId):Option Bool :=
 match P.underlying t with
 | some (.struct _)=>some true
 | some (.array _ _)=>some true
 | some _=>some false
 | none=>none
def oR:XB->List XB
 | .agg cs=>cs.toList
 | _=>[]
def fE:XB->Bool
 | .agg _=>true
 | _=>false
def ie (P:Program) (f:FuncId):Bool :=
 match P.funcs[f]? with
 | some fn => fn.body.isSome && !(fn.name == "runtime.NumGoroutine")
 | none=>false
def HG:Operand->Bool
 | .tmp _=>true
 | .const _=>false
 | .global _=>false
 | .func _=>false
def IY (f:FuncId) (args:Array XB):Sem XB:=do
 match <- callFunc f args with
 | .value v=>pure v
 | _ => stuck "no value"
def E3 (P:Program) (f:FuncId) (args:List XB) (t:TypeId) (kk:XB->T):T :=
 match ie P f with
 | true=>T.call P f args (wH P t).1 (wH P t).2 (dJ _ fun l=>kk (rv (wH P t).1 (wH P t).2 l))
 | false=>T.fb P (IY f args.toArray) (wH P t).1 (wH P t).2 (dJ _ fun l=>kk (rv (wH P t).1 (wH P t).2 l))
def FC (P:Program) (c:Call) (t:TypeId) (args:List XB) (kk:XB->T):T :=
 match (c.argTypes[0]?).bind P.underlying with
 | some .string=>match args with
  | [.string s]=>kk (.int .i64 s.size)
  | _=>T.fail
 | some (.slice _)=>match args with
  | [.slice _ n _]=>kk (.int .i64 n)
  | _=>T.fail
 | _=>T.fb P (Builtin.len_ c.argTypes t args.toArray) false [(false,[.int .i64])] fun n=>kk (.int .i64 n)
def FA (P:Program) (c:Call) (args:List XB) (kk:XB->T):T :=
 match (c.argTypes[0]?).bind P.underlying with
 | some (.slice _)=>match args with
  | [.slice _ _ n]=>kk (.int .i64 n)
  | _=>T.fail
 | _=>T.fail
def uo (P:Program) (b:Builtin) (c:Call) (t:TypeId) (args:List XB) (kk:XB->T):T :=
 match b,args with
 | .len,_=>FC P c t args kk
 | .cap,_=>FA P c args kk
 | .append,_=>T.fb P (Builtin.append_ c.argTypes t args.toArray) false [(false,[.slice 0])] fun p l cp=>kk (.slice p l cp)
 | .copy,_=>T.fb P (Builtin.copy_ c.argTypes t args.toArray) false [(false,[.int .i64])] fun n=>kk (.int .i64 n)
 | .min,_=>T.fb P (Builtin.min_ c.argTypes t args.toArray) false [dM P t] (dJ _ fun l=>kk (rv false [dM P t] l))
 | .max,_=>T.fb P (Builtin.max_ c.argTypes t args.toArray) false [dM P t] (dJ _ fun l=>kk (rv false [dM P t] l))
 | .delete,_=>T.fb P (Builtin.delete_ c.argTypes t args.toArray) true [] (kk (.tuple #[]))
 | .unsafeString,_=>T.fb P (Builtin.unsafeString_ c.argTypes t args.toArray) false [dM P t] (dJ _ fun l=>kk (rv false [dM P t] l))
 | .unsafeSliceData,_=>T.fb P (Builtin.unsafeSliceData_ c.argTypes t args.toArray) false [dM P t] (dJ _ fun l=>kk (rv false [dM P t] l))
 | _,_=>T.fail
def Mq (P:Program) (t:TypeId) (lo hi mx:Option Operand) (a:XB) (vs:List XB) (kk:XB->T):T :=
 match lo,hi,mx,vs with
 | none,none,none,[]=>kJ P t a none none none kk
 | some _,none,none,[l]=>kJ P t a (some l) none none kk
 | none,some _,none,[h]=>kJ P t a none (some h) none kk
 | some _,some _,none,[l,h]=>kJ P t a (some l) (some h) none kk
 | some _,some _,some _,[l,h,m]=>kJ P t a (some l) (some h) (some m) kk
 | none,some _,some _,[h,m]=>kJ P t a none (some h) (some m) kk
 | _,_,_,_=>T.fail
def Cx (P:Program) (t:TypeId) (v i:XB) (kk:XB->T):T :=
 match v,i,P.underlying t with
 | .slice p len _,.int _ n,some (.slice el)=>bif !sY P el then T.fail else T.need (0<=n/\n<len) (T.aA p fun a=>kk (.pointer (some (a.add (n.toNat*P.cellsOf el)))))
 | .pointer p,.int _ n,some (.array len el)=>bif !sY P el then T.fail else T.need (0<=n/\n<len) (T.aA p fun a=>kk (.pointer (some (a.add (n.toNat*P.cellsOf el)))))
 | _,_,_=>T.fail
def Hj (P:Program) (t:TypeId) (v i:XB) (kk:XB->T):T :=
 match v,i,P.underlying t with
 | .string s,.int _ n,some .string=>T.need (0<=n/\n<s.size) (kk (.int .u8 (aU s n)))
 | v,i,some (.array len el)=>T.fb P (Instr.index t v i) false [dM P el] (dJ _ fun l=>kk (rv false [dM P el] l))
 | _,_,_=>T.fail
def FF (xs:List XB):Nat->List XB->List XB
 | _,[]=>xs
 | i,v::vs=>FF (xs.set i v) (i+1) vs
def jT (place:Nat->Option (Nat × Nat)) (cells:List XB):List (Nat × List XB)->Option (List XB)
 | []=>some cells
 | (i,l)::rest =>
  match place i with
  | none=>none
  | some (off,size)=>bif !(Nat.beq l.length size) || Nat.blt cells.length (off+l.length) then none else jT place (FF cells off l) rest
def gJ (agg:Nat->Option Bool):List (Nat × XB)->(List (Nat × List XB)->T)->T
 | [],k=>k []
 | (i,v)::l,k =>
  match agg i with
  | some true=>cond (fE v) (gJ agg l fun r=>k ((i,oR v)::r)) T.fail
  | some false=>cond (fE v) T.fail (gJ agg l fun r=>k ((i,[v])::r))
  | none=>T.fail
def wR (P:Program) (o:Oper) (e:Env) (kk:XB->T):T :=
 match o.op with
 | .move x=>bP e x kk
 | .assign x=>bP e x kk
 | .pick c a b=>bP e c fun c=>match c with
  | .bool b'=>cond b' (bP e a kk) (bP e b kk)
  | _=>T.fail
 | .alloc t=>match (P.info? t).bind (·.zero) with
  | some z=>T.new z.cells.toList t fun a=>kk (.pointer (some a))
  | none=>T.fail
 | .box t x=>bP e x fun v=>match du P t with
  | some true=>cond (fE v) (T.new (oR v) t fun a=>kk (.pointer (some a))) T.fail
  | some false=>cond (fE v) T.fail (T.new [v] t fun a=>kk (.pointer (some a)))
  | none=>T.fail
 | .build t ps=>iN e (ps.toList.map (·.2)) fun vs=>match P.underlying t,(P.info? t).bind (·.zero) with
  | some (.struct fs),some z =>
   bif !(fs.all fun f=>sY P f.type) then T.fail else gJ (fun i=>(fs[i]?).bind fun f=>du P f.type) ((ps.toList.map (·.1)).zip vs) fun ls=>match jT (((fs.map fun f=>(f.offset,P.cellsOf f.type)))[·]?) z.cells.toList ls with
   | some cs=>kk (.agg cs.toArray)
   | none=>T.fail
  | some (.array _ el),some z =>
   bif !sY P el then T.fail else gJ (fun _=>du P el) ((ps.toList.map (·.1)).zip vs) fun ls=>match jT (fun i=>some (i*P.cellsOf el,P.cellsOf el)) z.cells.toList ls with
   | some cs=>kk (.agg cs.toArray)
   | none=>T.fail
  | _,_=>T.fail
 | .buildSlice t len ps=>iN e (ps.toList.map (·.2)) fun vs =>
  T.fb P (Instr.buildSlice t len ((ps.toList.map (·.1)).zip vs).toArray) false [(false,[.slice 0])] fun p l c=>kk (.slice p l c)
 | .load t x=>bP e x fun v=>match v,du P t with
  | .pointer p,some true=>bif (gU P 9 t).length==P.cellsOf t then T.aA p fun a=>T.ah a (gU P 9 t) (dJ _ fun l=>kk (.agg l.toArray)) else T.fail
  | .pointer p,some false=>T.aA p fun a=>T.ah a (dM P t).2 (dJ _ fun l=>kk (l.headD undef))
  | _,_=>T.fail
 | .store t x y=>bP e x fun p=>bP e y fun v=>match p,du P t with
  | .pointer p,some true=>cond (fE v) (bif (oR v).length==P.cellsOf t then T.aA p fun a=>T.ak a (oR v) (kk undef) else T.fail) T.fail
  | .pointer p,some false=>bif P.cellsOf t==1 then cond (fE v) T.fail (T.aA p fun a=>T.ak a [v] (kk undef)) else T.fail
  | _,_=>T.fail
 | .nilCheck x=>bP e x fun v=>match v with
  | .pointer p=>T.aA p fun a=>kk (.pointer (some a))
  | .func (.func f) fi ca=>kk (.func (.func f) fi ca)
  | .iface t v=>kk (.iface t v)
  | _=>T.fail
 | .binOp op t x y _=>bP e x fun a=>bP e y fun b=>F0 P op t x y a b kk
 | .unOp op _ x=>bP e x fun a=>Ma op a kk
 | .convert s d x=>bP e x fun a=>BC P s d a kk
 | .makeInterface t x=>bP e x fun a=>match P.underlying t with
  | some (.interface _)=>T.fail
  | some _=>kk (.iface t a)
  | none=>T.fail
 | .makeFunc fn fi ca=>iN e fi.toList fun fi=>iN e ca.toList fun ca=>kk (.func fn fi.toArray ca.toArray)
 | .makeMap t none=>T.fb P (Instr.makeMap t none) false [(false,[.map 0 0])] fun r=>kk (.map r)
 | .makeSlice t l c=>bP e l fun l=>bP e c fun c=>T.fb P (Instr.makeSlice t l c) false [(false,[.slice 0])] fun p l c=>kk (.slice p l c)
 | .slice t x lo hi mx=>bP e x fun a=>iN e (lo.toList++hi.toList++mx.toList) fun vs=>Mq P t lo hi mx a vs kk
 | .fieldAddr s x f=>bP e x fun v=>match v,P.underlying s with
  | .pointer p,some (.struct fs)=>match fs[f]? with
   | some fd=>match P.cellsOf fd.type with
    | 0=>T.fail
    | _+1=>T.aA p fun a=>kk (.pointer (some (a.add fd.offset)))
   | none=>T.fail
  | _,_=>T.fail
 | .field s x f=>bP e x fun v=>match v,P.underlying s with
  | .agg cs,some (.struct fs)=>match fs[f]? with
   | some fd=>xC P fd.type cs.toList fd.offset kk
   | none=>T.fail
  | _,_=>T.fail
 | .indexAddr t x i=>bP e x fun v=>bP e i fun i=>Cx P t v i kk
 | .index t x i=>bP e x fun v=>bP e i fun i=>Hj P t v i kk
 | .lookup t m x ok=>bP e m fun m=>bP e x fun x=>match P.underlying t with
  | some (.map _ el)=>match ok with
   | true=>T.fb P (Instr.lookup t m x true) true [dM P el,(false,[.bool])] (dJ _ fun l=>kk (rv true [dM P el,(false,[.bool])] l))
   | false=>T.fb P (Instr.lookup t m x false) false [dM P el] (dJ _ fun l=>kk (rv false [dM P el] l))
  | _=>T.fail
 | .mapUpdate t m x v=>bP e m fun m=>bP e x fun x=>bP e v fun v=>T.pB P (Instr.mapUpdate t m x v) (kk undef)
 | .insert t m x v=>bP e m fun m=>bP e x fun x=>bP e v fun v=>T.pB P (Instr.mapUpdate t m x v) (kk undef)
 | .mapEntry t m x=>bP e m fun m=>bP e x fun x=>match P.underlying t with
  | some (.map _ el)=>T.fb P (Instr.mapEntry t m x) true [dM P el,(false,[.int .i64])] (dJ _ fun l=>kk (rv true [dM P el,(false,[.int .i64])] l))
  | _=>T.fail
 | .entryStore t m x v=>bP e m fun m=>bP e x fun x=>bP e v fun v=>T.pB P (Instr.entryStore t m x v) (kk undef)
 | .range t x=>bP e x fun x=>T.fb P (Instr.range t x) false [(false,[.pointer 0])] fun p=>kk (.pointer p)
 | .next it b=>bP e it fun it=>match P.underlying o.type with
  | some (.tuple ts)=>match ts.toList with
   | []=>T.next P (Instr.next it b o.type) (EU b) (kk (.tuple #[.bool false])) (dJ _ fun l=>kk (.tuple (.bool true::parts (EU b) l).toArray))
   | _::ts=>T.next P (Instr.next it b o.type) (ts.map (dM P)) (kk (.tuple #[.bool false])) (dJ _ fun l=>kk (.tuple (.bool true::parts (ts.map (dM P)) l).toArray))
  | _=>T.fail
 | .entry it=>bP e it fun it=>T.fb P (Instr.entry it) true (EU false) (dJ _ fun l=>kk (rv true (EU false) l))
 | .typeAssert x t d ok=>bP e x fun x=>match ok with
  | true=>T.fb P (Instr.typeAssert x t d true) true [dM P d,(false,[.bool])] (dJ _ fun l=>kk (rv true [dM P d,(false,[.bool])] l))
  | false=>T.fb P (Instr.typeAssert x t d false) false [dM P d] (dJ _ fun l=>kk (rv false [dM P d] l))
 | .extract x i=>bP e x fun v=>match v with
  | .tuple vs=>match vs.toList[i]? with
   | some v=>kk v
   | none=>T.fail
  | _=>T.fail
 | .call c=>match c.callee with
  | .builtin b=>iN e c.args.toList fun vs=>uo P b c o.type vs kk
  | .value g=>match HG g with
   | true=>bP e g fun g=>iN e c.args.toList fun vs=>T.tV P g vs (wH P o.type).1 (wH P o.type).2 (dJ _ fun l=>kk (rv (wH P o.type).1 (wH P o.type).2 l))
   | false=>bP e g fun g=>iN e c.args.toList fun vs=>match g with
    | .func (.func f) fi ca=>E3 P f (fi.toList++vs++ca.toList) o.type kk
    | .func (.method _) _ _=>T.fail
    | .func (.methodOf _ _) _ _=>T.fail
    | .func (.via _ _ _ _) _ _=>T.fail
    | .func (.yield _) _ _=>T.fail
    | .nilFunc=>T.fail
    | .bool _=>T.fail
    | .int _ _=>T.fail
    | .float _ _=>T.fail
    | .complex _ _ _=>T.fail
    | .string _=>T.fail
    | .pointer _=>T.fail
    | .slice _ _ _=>T.fail
    | .map _=>T.fail
    | .chan _=>T.fail
    | .iface _ _=>T.fail
    | .nilIface=>T.fail
    | .agg _=>T.fail
    | .tuple _=>T.fail
  | .invoke _ _=>T.fail
 | _=>T.fail
def guardOf (ops:Array Oper) (o:Oper):Option (Option Tmp × Bool) :=
 match o.guard with
 | none=>none
 | some (j,want)=>some ((ops[j]?).bind (·.dst),want)
def pY (n:Nat) (ops:Array Oper) (o:Oper) (e:Env) (yes no:Env->T):T :=
 match guardOf ops o with
 | none=>yes e
 | some (none,_)=>no e
 | some (some d,want) =>
  match cF e d with
  | some (.bool b)=>match want with
   | true=>cond b (yes (eR n e (some d) (.bool true))) (no (eR n e (some d) (.bool false)))
   | false=>cond b (no (eR n e (some d) (.bool true))) (yes (eR n e (some d) (.bool false)))
  | some (.tuple _)=>no e
  | _=>T.fail
def FL (P:Program) (n:Nat) (ops:Array Oper):List Oper->Env->(Env->T)->T
 | [],e,k=>k e
 | o::rest,e,k=>pY n ops o e (fun e=>wR P o e fun v=>FL P n ops rest (eR n e o.dst v) k) (fun e=>FL P n ops rest (eR n e o.dst undef) k)
def qC (P:Program) (o:Oper):Bool :=
 match o.op with
 | .move _=>true
 | .pick _ _ _=>true
 | .build _ _=>true
 | .nilCheck _=>true
 | .binOp _ t x y _=>vo P t x y
 | .unOp _ _ _=>true
 | .convert s d _=>match P.underlying s,P.underlying d with
  | some (.int _),some (.int _)=>true
  | some .string,some .string=>true
  | _,_=>false
 | .makeInterface _ _=>true
 | .makeFunc _ _ _=>true
 | .slice t _ _ _ none=>match P.underlying t with
  | some .string=>true
  | some (.slice _)=>true
  | _=>false
 | .fieldAddr _ _ _=>true
 | .field _ _ _=>true
 | .indexAddr _ _ _=>true
 | .index t _ _=>match P.underlying t with
  | some .string=>true
  | _=>false
 | .extract _ _=>true
 | .call c=>match c.callee with
  | .builtin .len=>match (c.argTypes[0]?).bind P.underlying with
   | some .string=>true
   | some (.slice _)=>true
   | _=>false
  | .builtin .cap=>match (c.argTypes[0]?).bind P.underlying with
   | some (.slice _)=>true
   | _=>false
  | _=>false
 | _=>false
def yk (o:Oper):Bool :=
 match o.op with
 | .load _ _=>true
 | _=>false
def calm (P:Program) (o:Oper):Bool:=qC P o || yk o
def tv (x:Nat):List Nat->Bool
 | []=>false
 | y::l=>Nat.beq x y || tv x l
def waits (o:Oper):List Nat:=(o.after.toList.filter fun e=>Region.binds .any e).map (·.on)
def vx (D:List Nat) (i:Nat) (o:Oper):Bool:=!tv i D && (waits o).all fun j=>tv j D
def looks (ops : Array Oper) (o : Oper) : List Nat :=
  (o.op.operands.toList.filterMap fun | .tmp t => some t | _ => none) ++
  (match o.guard with
   | some (g, _) => ((ops[g]?).bind (·.dst)).toList
   | none => [])
def lJ:Option Nat->Nat->Bool
 | some d,s=>Nat.beq d s
 | none,_=>false
def Eo (P : Program) (ops : Array Oper) (i j : Nat) (x y : Oper) : Bool :=
  match Nat.beq i j with
  | true => (match x.dst with
    | some d => !calm P x || !tv d (looks ops x)
    | none => true)
  | false => (match y.dst with
    | some d => !tv d (looks ops x) || tv j (waits x) || (tv i (waits y) && !calm P y)
    | none => true) &&
   (match x.dst, calm P x with
    | some d, true => !lJ y.dst d
    | _, _ => true)
def idx:Nat->List Oper->List (Nat × Oper)
 | _,[]=>[]
 | i,o::l=>(i,o)::idx (i+1) l
def ez (P : Program) (n : Nat) (ops : Array Oper) : Bool :=
  ((idx 0 ops.toList).all fun p => match p.2.dst with
    | some d => Nat.blt d n
    | none => true) && (idx 0 ops.toList).all fun p => (idx 0 ops.toList).all fun q => Eo P ops p.1 q.1 p.2 q.2
abbrev Made:=List (Nat × XC × List XB)
def qG (o:Oper):Made->List (XC × List XB)
 | []=>[]
 | (i,a,l)::m=>bif tv i (waits o) then qG o m else (a,l)::qG o m
def AT (l:List (XC × List XB)) (t:T):T :=
 match l with
 | []=>t
 | p::l=>T.aT (p::l) t
def MO:List T->T
 | []=>T.fail
 | [t]=>t
 | t::ts=>T.all (t::ts)
def rZ (P:Program) (t:TypeId) (x:Operand) (e:Env) (kk:XC->List XB->XB->T):T :=
 bP e x fun v=>match v,du P t with
  | .pointer p,some true=>bif (gU P 9 t).length==P.cellsOf t then T.aA p fun a=>T.ah a (gU P 9 t) (dJ _ fun l=>kk a l (.agg l.toArray)) else T.fail
  | .pointer p,some false=>T.aA p fun a=>T.ah a (dM P t).2 (dJ _ fun l=>kk a l (l.headD undef))
  | _,_=>T.fail
def dF (P:Program) (D:List Nat) (c:Bool):List (Nat × Oper)->List (Nat × Oper)
 | []=>[]
 | p::l=>match vx D p.1 p.2 && (calm P p.2==c) with
  | true=>p::dF P D c l
  | false=>dF P D c l
def jB (P:Program) (n:Nat) (ops:Array Oper):Nat->List Nat->Env->Made->(Env->T)->T
 | 0,_,_,_,_=>T.fail
 | fu+1,D,e,m,k =>
  match dF P D true (idx 0 ops.toList) with
  | (i,o)::_ =>
   pY n ops o e (fun e=>match o.op with
    | .load t x=>rZ P t x e fun a l v=>jB P n ops fu (i::D) (eR n e o.dst v) ((i,a,l)::m) k
    | _=>wR P o e fun v=>jB P n ops fu (i::D) (eR n e o.dst v) m k)
    fun e=>jB P n ops fu (i::D) (eR n e o.dst undef) m k
  | [] =>
   match dF P D false (idx 0 ops.toList) with
   | []=>k e
   | q::qs=>MO ((q::qs).map fun p=>pY n ops p.2 e (fun e=>wR P p.2 e fun v=>AT (qG p.2 m) (jB P n ops fu (p.1::D) (eR n e p.2.dst v) m k))
     fun e=>jB P n ops fu (p.1::D) (eR n e p.2.dst undef) m k)
def wV (P:Program) (n:Nat) (_id:Nat) (ops:Array Oper) (e:Env) (k:Env->T):T :=
 match ez P n ops with
 | true=>jB P n ops (ops.size+1) [] e [] k
 | false=>T.fail
def dR:Code->List Nat
 | .region _ ops _=>ops.toList.filterMap (·.dst)
 | .seq a b=>dR a++dR b
 | .cond _ a b=>dR a++dR b
 | .block _ c=>dR c
 | .loop c=>dR c
 | .scope c=>dR c
 | .rangeFunc _ ps a b=>ps.toList++dR a++dR b
 | _=>[]
def qV (x:Nat):List Nat->List Nat
 | []=>[x]
 | y::l=>bif Nat.blt x y then x::y::l else bif Nat.beq x y then y::l else y::qV x l
def cQ (l:List Nat):List Nat:=l.foldl (fun acc x=>qV x acc) []
def KS:XB->TypeDesc
 | .bool _=>.bool
 | .int k _=>.int k
 | .string _=>.string
 | .pointer _=>.pointer 0
 | .slice _ _ _=>.slice 0
 | .map _=>.map 0 0
 | _=>.invalid
def G8:XB->fX
 | .agg cs=>(true,cs.toList.map KS)
 | v=>(false,[KS v])
def live (e:Env):List Nat->List (Nat × XB)
 | []=>[]
 | s::l=>match cF e s with
  | some v=>(s,v)::live e l
  | none=>live e l
def forget (e:Env) (l:List Nat):Env:=l.map (fun s=>(s,none))++e
def lR (l:List Nat) (vs:List XB):Env:=(l.zip vs).map fun p=>(p.1,some p.2)
def x9 (e:Env):List Nat->(List XB->T)->T
 | [],k=>k []
 | s::l,k=>match cF e s with
  | some v=>x9 e l fun vs=>k (v::vs)
  | none=>T.fail
def ED (ms:List Nat) (e:Env) (lv:Nat) (body:Env->(Env->T)->T):T :=
 let lvs:=live e (cQ ms)
 let ss:=lvs.map (·.1)
 let cs:=lvs.map fun p=>G8 p.2
 T.loop cs (lvs.map (·.2)) (dJ (flat cs) fun l=>body (lR ss (parts cs l)++forget e (cQ ms)) fun e'=>x9 e' ss fun vs=>T.again lv vs)
def jc (l:Nat):Code->Bool
 | .goto l'=>Nat.beq l l'
 | .seq a b=>jc l a || jc l b
 | .cond _ a b=>jc l a || jc l b
 | .block _ c=>jc l c
 | .loop c=>jc l c
 | .scope c=>jc l c
 | .rangeFunc _ _ a b=>jc l a || jc l b
 | _=>false
def labels:Code->List Nat
 | .label l=>[l]
 | .seq a b=>labels a++labels b
 | _=>[]
def zv (c:Code):Option Nat :=
 (labels c).find? fun l=>match findLabel c l with
  | some r=>jc l r
  | none=>false
def K4:Code->Nat->Code
 | .seq a b,l=>match findLabel a l with
  | some _=>K4 a l
  | none=>.seq a (K4 b l)
 | _,_=>.skip
def I2 (ss:List Nat) (cs:List fX) (ms:List Nat) (e:Env) (lv:Nat) (first:(Env->T)->T) (after:Env->T):T :=
 T.join cs (first fun e'=>x9 e' ss fun vs=>T.again lv vs) (dJ (flat cs) fun l=>after (lR ss (parts cs l)++forget e (cQ ms)))
def jw:Code->Option Nat
 | .region id _ _=>some id
 | .seq a b=>match jw a with
  | some i=>some i
  | none=>jw b
 | .cond _ a _=>jw a
 | .block _ c=>jw c
 | .loop c=>jw c
 | .scope c=>jw c
 | _=>none
def Fa (cuts:List Nat):Option Nat->Nat->Bool
 | some i,k=>tv (i+k) cuts
 | none,_=>false
def handsOn (P:Program):List Oper->List (Nat × fX)
 | []=>[]
 | [o]=>match o.dst with
  | some d=>[(d,dM P o.type)]
  | none=>[]
 | o::l=>match o.op,o.dst with
  | .assign _,some d=>(d,dM P o.type)::handsOn P l
  | _,_=>handsOn P l
def fl (l:Nat):Code->Bool
 | .label l'=>Nat.beq l l'
 | .seq a _=>fl l a
 | _=>false
def dstsOf (ops:Array Oper):List Nat:=ops.toList.filterMap (·.dst)
mutual
def fq (P:Program) (n:Nat) (cuts:List Nat):Nat->Code->Env->Nat->(Exit->Env->Nat->T)->T
 | 0,_,_,_,_=>T.fail
 | fu+1,c,e,lv,κ =>
  match c with
  | .skip=>κ .normal e lv
  | .label _=>κ .normal e lv
  | .exit i=>κ (.exit i) e lv
  | .goto l=>κ (.goto l) e lv
  | .ret=>κ .ret e lv
  | .seq a b =>
   match Fa cuts (jw b) 1000 with
   | false=>fq P n cuts fu a e lv fun x e' lv'=>match x with
    | .normal=>fq P n cuts fu b e' lv' κ
    | x=>κ x e' lv'
   | true =>
    I2 ((live e (cQ (dR a))).map (·.1)) ((live e (cQ (dR a))).map fun p=>G8 p.2) (dR a) e lv
     (fun k=>fq P n cuts fu a e (lv+1) fun x e' lv'=>match x with
      | .normal=>k e'
      | x=>κ x e' lv')
     (fun e'=>fq P n cuts fu b e' lv κ)
  | .cond c a b=>match ev e c with
   | some (.bool t)=>cond t (fq P n cuts fu a e lv κ) (fq P n cuts fu b e lv κ)
   | _=>T.fail
  | .block id c=>fq P n cuts fu c e lv fun x e' lv'=>match x with
   | .exit i=>match Nat.beq i id with
    | true=>κ .normal e' lv'
    | false=>κ (.exit i) e' lv'
   | x=>κ x e' lv'
  | .region id ops draw =>
   match Fa cuts (some id) 0 with
   | false=>match draw with
    | false=>FL P n ops ops.toList e fun e'=>κ .normal e' lv
    | true=>wV P n id ops e fun e'=>κ .normal e' lv
   | true=>I2 ((handsOn P ops.toList).map (·.1)) ((handsOn P ops.toList).map (·.2)) (dstsOf ops) e lv
     (fun k=>match draw with
      | false=>FL P n ops ops.toList e k
      | true=>wV P n id ops e k)
     (fun e'=>κ .normal e' lv)
  | .loop c=>ED (dR c) e lv fun e' k=>fq P n cuts fu c e' (lv+1) fun x e'' lv'=>match x with
   | .normal=>k e''
   | x=>κ x e'' lv'
  | .scope c=>match zv c with
   | none=>kL P n cuts fu c c e lv none (fun _=>T.fail) κ
   | some l=>match findLabel c l with
    | none=>T.fail
    | some r=>vf P n cuts fu c c l r e lv κ
  | _=>T.fail
def kL (P:Program) (n:Nat) (cuts:List Nat):Nat->Code->Code->Env->Nat->Option Nat->(Env->T)->(Exit->Env->Nat->T)->T
 | 0,_,_,_,_,_,_,_=>T.fail
 | fu+1,c,r,e,lv,back,k,κ=>fq P n cuts fu r e lv fun x e' lv'=>match x with
  | .goto l=>match lJ back l with
   | true=>k e'
   | false=>match findLabel c l with
    | some r'=>kL P n cuts fu c r' e' lv' back k κ
    | none=>κ (.goto l) e' lv'
  | x=>κ x e' lv'
def vf (P:Program) (n:Nat) (cuts:List Nat):Nat->Code->Code->Nat->Code->Env->Nat->(Exit->Env->Nat->T)->T
 | 0,_,_,_,_,_,_,_=>T.fail
 | fu+1,c,t,l,r,e,lv,κ =>
  match fl l t with
  | true=>ED (dR c) e lv fun e'' k=>kL P n cuts fu c r e'' (lv+1) (some l) k κ
  | false=>match t with
   | .seq a b=>match findLabel a l with
    | some _=>T.fail
    | none=>fq P n cuts fu a e lv fun x e' lv'=>match x with
     | .normal=>vf P n cuts fu c b l r e' lv' κ
     | .goto _=>T.fail
     | x=>κ x e' lv'
   | _=>T.fail
end
def xM (P:Program):List ResultVar->Env->(List XB->T)->T
 | [],_,k=>k []
 | .tmp t::rs,e,k=>bP e (.tmp t) fun v=>xM P rs e fun l=>k (v::l)
 | .cell a t::rs,e,k=>bP e (.tmp a) fun p=>match p,du P t with
  | .pointer p,some true=>bif (gU P 9 t).length==P.cellsOf t then T.aA p fun a=>T.ah a (gU P 9 t) (dJ _ fun l=>xM P rs e fun l'=>k (.agg l.toArray::l')) else T.fail
  | .pointer p,some false=>T.aA p fun a=>T.ah a (dM P t).2 (dJ _ fun l=>xM P rs e fun l'=>k (l.headD undef::l'))
  | _,_=>T.fail
def one (l:List XB):XB :=
 match l with
 | [v]=>v
 | l=>.tuple l.toArray
def Ec:Nat->List XB->Env
 | _,[]=>[]
 | i,v::vs=>(i,some v)::Ec (i+1) vs
def bD (P:Program) (cuts:List Nat) (fn:Func) (args:List XB):T :=
 match fn.body with
 | none=>T.fail
 | some c=>fq P fn.ntmps cuts 100000 c (Ec 0 args) 0 fun x e _=>match x with
  | .normal=>xM P fn.results.toList e fun l=>T.ret (one l)
  | .ret=>xM P fn.results.toList e fun l=>T.ret (one l)
  | _=>T.fail
end Go.Sx
