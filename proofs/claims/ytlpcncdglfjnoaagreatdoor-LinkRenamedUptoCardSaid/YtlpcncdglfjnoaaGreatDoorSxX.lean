/- Part of the framework. No condition. -/
import Derived.Test.YtlpcncdglfjnoaaGreatDoorSxT
set_option linter.all false
set_option maxHeartbeats 4000000
namespace Go.Sx
abbrev Env:=List (Nat × Option XB)
def cQ:Env->Nat->Option XB
 | [],_=>none
 | (s,v)::e,t=>bif Nat.beq s t then v else cQ e t
def dQ (n:Nat) (e:Env) (dst:Option Tmp) (v:XB):Env :=
 match dst with
 | none=>e
 | some d=>bif Nat.blt d n then (d,some v)::e else e
def ev (e:Env):Operand->Option XB
 | .tmp t=>cQ e t
 | .const v=>some v
 | .global g=>some (.pointer (some ⟨g,0,none⟩))
 | .func f=>some (.func (.func f) #[] #[])
namespace T
def bd (p:XC) (k:YA->T):T :=
 match p with
 | some a=>k a
 | none=>T.fail
end T
def eQ (P:Program):Nat->TypeId->List TypeDesc
 | 0,_=>[.invalid]
 | n+1,t =>
  match P.underlying t with
  | some (.struct a)=>a.toList.flatMap fun f=>eQ P n f.type
  | some (.array k e)=>(List.replicate k (eQ P n e)).flatten
  | some d=>[d]
  | none=>[.invalid]
def cz (P:Program) (t:TypeId):ef :=
 match P.underlying t with
 | some (.struct _)=>(true,eQ P 9 t)
 | some (.array _ _)=>(true,eQ P 9 t)
 | some d=>(false,[d])
 | none=>(false,[.invalid])
def ka (P:Program) (t:TypeId):Bool × List ef :=
 match P.underlying t with
 | some (.tuple ts)=>(true,ts.toList.map (cz P))
 | _=>(false,[cz P t])
def HU (b:Bool):List ef :=
 match b with
 | true=>[(false,[.int .i64]),(false,[.int .i32])]
 | false=>[(false,[.string]),(false,[.bool])]
def bK (e:Env) (x:Operand) (k:XB->T):T :=
 match ev e x with
 | some v=>k v
 | none=>T.fail
def gR (e:Env):List Operand->(List XB->T)->T
 | [],k=>k []
 | x::xs,k=>bK e x fun v=>gR e xs fun l=>k (v::l)
def cV (s:XA) (n:Int):Int:=((s.data.toList.getD n.toNat 0).toNat:Nat)
def CP (op:BinOp) (k:IntKind) (x y:Int):Int :=
 match op with
 | .and=>k.wrap (BitVec.ofInt k.bits x &&& BitVec.ofInt k.bits y).toNat
 | .or=>k.wrap (BitVec.ofInt k.bits x ||| BitVec.ofInt k.bits y).toNat
 | .xor=>k.wrap (BitVec.ofInt k.bits x ^^^ BitVec.ofInt k.bits y).toNat
 | _=>k.wrap (BitVec.ofInt k.bits x &&& ~~~ BitVec.ofInt k.bits y).toNat
def GK (op:BinOp) (k:IntKind) (m n:Int) (a:XB->T):T :=
 match op with
 | .add=>a (.int k (k.wrap (m+n)))
 | .sub=>a (.int k (k.wrap (m-n)))
 | .mul=>a (.int k (k.wrap (m*n)))
 | .quo=>T.need (n≠0) (a (.int k (k.wrap (m.tdiv n))))
 | .rem=>T.need (n≠0) (a (.int k (m.tmod n)))
 | .eql=>a (.bool (m==n))
 | .neq=>a (.bool (m != n))
 | .lss=>a (.bool (decide (m<n)))
 | .leq=>a (.bool (decide (m<=n)))
 | .gtr=>a (.bool (decide (m>n)))
 | .geq=>a (.bool (decide (m>=n)))
 | .and=>a (.int k (CP .and k m n))
 | .or=>a (.int k (CP .or k m n))
 | .xor=>a (.int k (CP .xor k m n))
 | .andNot=>a (.int k (CP .andNot k m n))
 | _=>T.fail
def y6 (op:BinOp) (k:IntKind) (m n:Int) (a:XB->T):T :=
 match op with
 | .shl=>T.need (0<=n) (a (.int k (k.wrap (m*2^(min n.toNat k.bits)))))
 | .shr=>T.need (0<=n) (a (.int k (m.fdiv (2^(min n.toNat k.bits)))))
 | _=>T.fail
def GB (op:BinOp) (x y:XA) (a:XB->T):T :=
 match op with
 | .add=>T.need (((x.size+y.size:Nat):Int)<=IntKind.i64.max) (a (.string (x++y)))
 | .eql=>a (.bool (x.toList==y.toList))
 | .neq=>a (.bool !(x.toList==y.toList))
 | .lss=>a (.bool (Op.bytesLess x.toList y.toList))
 | .leq=>a (.bool (Op.bytesLess x.toList y.toList || x.toList==y.toList))
 | .gtr=>a (.bool !(Op.bytesLess x.toList y.toList || x.toList==y.toList))
 | .geq=>a (.bool !(Op.bytesLess x.toList y.toList))
 | _=>T.fail
def lP:BinOp->Bool
 | .shl=>true
 | .shr=>true
 | _=>false
def isNil (x:Operand):Bool :=
 match x with
 | .const (.pointer none)=>true
 | .const (.slice none 0 0)=>true
 | .const (.map none)=>true
 | _=>false
def j6 (op:BinOp) (t:TypeId) (x y:Operand) (a b:XB):Sem XB:=do eqGuard op t x y a b; binOp op t a b
def NJ (P:Program) (op:BinOp) (t:TypeId) (x y:Operand) (a b:XB) (c:XB->T):T :=
 T.eK P (j6 op t x y a b) false [(false,[.bool])] fun r=>c (.bool r)
def asked (op:BinOp) (b:Bool) (a:XB->T) (other:T):T :=
 match op with
 | .eql=>a (.bool b)
 | .neq=>a (.bool !b)
 | _=>other
def qL (P:Program) (t:TypeId) (x y:Operand):Bool :=
 match P.underlying t with
 | some (.int _)=>true
 | some .string=>true
 | some .bool=>true
 | some (.pointer _)=>isNil y
 | some (.slice _)=>isNil y
 | some (.map _ _)=>isNil y
 | _=>false
def r8 (P:Program) (op:BinOp) (t:TypeId) (a b:XB) (c:XB->T):T :=
 match a,b with
 | .int k m,.int k' n =>
  match lP op with
  | true=>y6 op k m n c
  | false=>match decide (k=k') with
   | true=>GK op k m n c
   | false=>T.fail
 | .string m,.string n=>GB op m n c
 | .bool m,.bool n =>
  match P.underlying t with
  | some .bool=>asked op (m==n) c T.fail
  | _=>T.fail
 | .pointer p,.pointer _ =>
  match P.underlying t with
  | some (.pointer _)=>asked op p.isNone c T.fail
  | _=>T.fail
 | .slice p _ _,.slice _ _ _ =>
  match P.underlying t with
  | some (.slice _)=>asked op p.isNone c T.fail
  | _=>T.fail
 | .map p,.map _ =>
  match P.underlying t with
  | some (.map _ _)=>asked op p.isNone c T.fail
  | _=>T.fail
 | _,_=>T.fail
def Cz (P:Program) (op:BinOp) (t:TypeId) (x y:Operand) (a b:XB) (c:XB->T):T :=
 match qL P t x y with
 | true=>r8 P op t a b c
 | false=>NJ P op t x y a b c
def R4 (op:UnOp) (a:XB) (c:XB->T):T :=
 match op,a with
 | .neg,.int k n=>c (.int k (k.wrap (0-n)))
 | .xor,.int k n=>c (.int k (CP .xor k (if k.signed then -1 else k.max) n))
 | .not,.bool b=>c (.bool !b)
 | _,_=>T.fail
def xn (P:Program) (src dst:TypeId) (a:XB) (b:XB->T):T :=
 match P.underlying src,P.underlying dst,a with
 | some (.int _),some (.int k),.int _ n=>b (.int k (k.wrap n))
 | some .string,some .string,.string s=>b (.string s)
 | some .string,some .string,_=>T.fail
 | _,some (.slice _),_=>T.eK P (convert src dst a) false [(false,[.slice 0])] fun p l c=>b (.slice p l c)
 | _,some .string,_=>T.eK P (convert src dst a) false [(false,[.string])] fun s=>b (.string s)
 | _,_,_=>T.fail
def jN:Option XB->Int
 | some (.int _ n)=>n
 | _=>0
def ej:Option XB->Bool
 | some (.int _ _)=>true
 | none=>true
 | _=>false
def jZ (d:Int):Option XB->Int
 | some (.int _ n)=>n
 | _=>d
def mG (P:Program) (t:TypeId):Bool:=(P.info? t).isSome
def iq (P:Program) (t:TypeId) (a:XB) (b hi d:Option XB) (f:XB->T):T :=
 match ej b && ej hi && ej d with
 | false=>T.fail
 | true =>
  match P.underlying t with
  | some .string=>match a,d with
   | .string s,none =>
    T.need (0<=jN b/\jN b<=jZ s.size hi/\jZ s.size hi<=s.size) (f (.string (s.extract (jN b).toNat (jZ s.size hi).toNat)))
   | _,_=>T.fail
  | some (.slice e)=>match d with
   | some _=>T.eK P (Instr.sliceAt t a b hi d) false [(false,[.slice 0])] fun p l c=>f (.slice p l c)
   | none=>match a with
    | .slice p len cap =>
     match mG P e with
     | false=>T.fail
     | true=>T.need (0<=jN b/\jN b<=jZ len hi/\jZ len hi<=cap) (f (.slice (if cap=(jN b).toNat then p else p.map (·.add ((jN b).toNat*P.cellsOf e))) ((jZ len hi).toNat-(jN b).toNat) (cap-(jN b).toNat)))
    | _=>T.fail
  | _=>T.eK P (Instr.sliceAt t a b hi d) false [(false,[.slice 0])] fun p l c=>f (.slice p l c)
def sn (P:Program) (t:TypeId) (cs:List XB) (off:Nat) (a:XB->T):T :=
 match P.underlying t with
 | some (.struct _)=>a (.agg ((cs.drop off).take (P.cellsOf t)).toArray)
 | some (.array _ _)=>a (.agg ((cs.drop off).take (P.cellsOf t)).toArray)
 | some _=>match cs[off]? with
  | some v=>a v
  | none=>T.fail
 | none=>T.fail
def cB (P:Program) (t:TypeId):Option Bool :=
 match P.underlying t with
 | some (.struct _)=>some true
 | some (.array _ _)=>some true
 | some _=>some false
 | none=>none
def ji:XB->List XB
 | .agg cs=>cs.toList
 | _=>[]
def eO:XB->Bool
 | .agg _=>true
 | _=>false
def fv (P:Program) (f:FuncId):Bool :=
 match P.funcs[f]? with
 | some fn => fn.body.isSome && !(fn.name == "runtime.NumGoroutine")
 | none=>false
def DX:Operand->Bool
 | .tmp _=>true
 | .const _=>false
 | .global _=>false
 | .func _=>false
def GM (f:FuncId) (args:Array XB):Sem XB:=do
 match <- callFunc f args with
 | .value v=>pure v
 | _ => stuck "no value"
def BF (P:Program) (f:FuncId) (args:List XB) (t:TypeId) (a:XB->T):T :=
 match fv P f with
 | true=>T.call P f args (ka P t).1 (ka P t).2 (iV _ fun l=>a (rv (ka P t).1 (ka P t).2 l))
 | false=>T.eK P (GM f args.toArray) (ka P t).1 (ka P t).2 (iV _ fun l=>a (rv (ka P t).1 (ka P t).2 l))
def yQ (P:Program) (c:Call) (t:TypeId) (args:List XB) (a:XB->T):T :=
 match (c.argTypes[0]?).bind P.underlying with
 | some .string=>match args with
  | [.string s]=>a (.int .i64 s.size)
  | _=>T.fail
 | some (.slice _)=>match args with
  | [.slice _ n _]=>a (.int .i64 n)
  | _=>T.fail
 | _=>T.eK P (Builtin.len_ c.argTypes t args.toArray) false [(false,[.int .i64])] fun n=>a (.int .i64 n)
def IE (P:Program) (c:Call) (args:List XB) (a:XB->T):T :=
 match (c.argTypes[0]?).bind P.underlying with
 | some (.slice _)=>match args with
  | [.slice _ _ n]=>a (.int .i64 n)
  | _=>T.fail
 | _=>T.fail
def qD (P:Program) (b:Builtin) (c:Call) (t:TypeId) (args:List XB) (a:XB->T):T :=
 match b,args with
 | .len,_=>yQ P c t args a
 | .cap,_=>IE P c args a
 | .append,_=>T.eK P (Builtin.append_ c.argTypes t args.toArray) false [(false,[.slice 0])] fun p l d=>a (.slice p l d)
 | .copy,_=>T.eK P (Builtin.copy_ c.argTypes t args.toArray) false [(false,[.int .i64])] fun n=>a (.int .i64 n)
 | .min,_=>T.eK P (Builtin.min_ c.argTypes t args.toArray) false [cz P t] (iV _ fun l=>a (rv false [cz P t] l))
 | .max,_=>T.eK P (Builtin.max_ c.argTypes t args.toArray) false [cz P t] (iV _ fun l=>a (rv false [cz P t] l))
 | .delete,_=>T.eK P (Builtin.delete_ c.argTypes t args.toArray) true [] (a (.tuple #[]))
 | .unsafeString,_=>T.eK P (Builtin.unsafeString_ c.argTypes t args.toArray) false [cz P t] (iV _ fun l=>a (rv false [cz P t] l))
 | .unsafeSliceData,_=>T.eK P (Builtin.unsafeSliceData_ c.argTypes t args.toArray) false [cz P t] (iV _ fun l=>a (rv false [cz P t] l))
 | _,_=>T.fail
def Sb (P:Program) (t:TypeId) (c hi d:Option Operand) (a:XB) (e:List XB) (b:XB->T):T :=
 match c,hi,d,e with
 | none,none,none,[]=>iq P t a none none none b
 | some _,none,none,[l]=>iq P t a (some l) none none b
 | none,some _,none,[h]=>iq P t a none (some h) none b
 | some _,some _,none,[l,h]=>iq P t a (some l) (some h) none b
 | some _,some _,some _,[l,h,m]=>iq P t a (some l) (some h) (some m) b
 | none,some _,some _,[h,m]=>iq P t a none (some h) (some m) b
 | _,_,_,_=>T.fail
def xJ (P:Program) (t:TypeId) (v i:XB) (c:XB->T):T :=
 match v,i,P.underlying t with
 | .slice p len _,.int _ n,some (.slice b)=>bif !mG P b then T.fail else T.need (0<=n/\n<len) (T.bd p fun a=>c (.pointer (some (a.add (n.toNat*P.cellsOf b)))))
 | .pointer p,.int _ n,some (.array len b)=>bif !mG P b then T.fail else T.need (0<=n/\n<len) (T.bd p fun a=>c (.pointer (some (a.add (n.toNat*P.cellsOf b)))))
 | _,_,_=>T.fail
def FO (P:Program) (t:TypeId) (v i:XB) (a:XB->T):T :=
 match v,i,P.underlying t with
 | .string s,.int _ n,some .string=>T.need (0<=n/\n<s.size) (a (.int .u8 (cV s n)))
 | v,i,some (.array len b)=>T.eK P (Instr.index t v i) false [cz P b] (iV _ fun l=>a (rv false [cz P b] l))
 | _,_,_=>T.fail
def rV (xs:List XB):Nat->List XB->List XB
 | _,[]=>xs
 | i,v::a=>rV (xs.set i v) (i+1) a
def fj (place:Nat->Option (Nat × Nat)) (cells:List XB):List (Nat × List XB)->Option (List XB)
 | []=>some cells
 | (i,l)::rest =>
  match place i with
  | none=>none
  | some (off,size)=>bif !(Nat.beq l.length size) || Nat.blt cells.length (off+l.length) then none else fj place (rV cells off l) rest
def eW (agg:Nat->Option Bool):List (Nat × XB)->(List (Nat × List XB)->T)->T
 | [],k=>k []
 | (i,v)::l,k =>
  match agg i with
  | some true=>cond (eO v) (eW agg l fun r=>k ((i,ji v)::r)) T.fail
  | some false=>cond (eO v) T.fail (eW agg l fun r=>k ((i,[v])::r))
  | none=>T.fail
def tO (P:Program) (o:Oper) (e:Env) (h:XB->T):T :=
 match o.op with
 | .move x=>bK e x h
 | .assign x=>bK e x h
 | .pick c a b=>bK e c fun c=>match c with
  | .bool b'=>cond b' (bK e a h) (bK e b h)
  | _=>T.fail
 | .alloc t=>match (P.info? t).bind (·.zero) with
  | some z=>T.new z.cells.toList t fun a=>h (.pointer (some a))
  | none=>T.fail
 | .box t x=>bK e x fun v=>match cB P t with
  | some true=>cond (eO v) (T.new (ji v) t fun a=>h (.pointer (some a))) T.fail
  | some false=>cond (eO v) T.fail (T.new [v] t fun a=>h (.pointer (some a)))
  | none=>T.fail
 | .build t ps=>gR e (ps.toList.map (·.2)) fun j=>match P.underlying t,(P.info? t).bind (·.zero) with
  | some (.struct n),some z =>
   bif !(n.all fun f=>mG P f.type) then T.fail else eW (fun i=>(n[i]?).bind fun f=>cB P f.type) ((ps.toList.map (·.1)).zip j) fun A=>match fj (((n.map fun f=>(f.offset,P.cellsOf f.type)))[·]?) z.cells.toList A with
   | some cs=>h (.agg cs.toArray)
   | none=>T.fail
  | some (.array _ k),some z =>
   bif !mG P k then T.fail else eW (fun _=>cB P k) ((ps.toList.map (·.1)).zip j) fun A=>match fj (fun i=>some (i*P.cellsOf k,P.cellsOf k)) z.cells.toList A with
   | some cs=>h (.agg cs.toArray)
   | none=>T.fail
  | _,_=>T.fail
 | .buildSlice t len ps=>gR e (ps.toList.map (·.2)) fun j =>
  T.eK P (Instr.buildSlice t len ((ps.toList.map (·.1)).zip j).toArray) false [(false,[.slice 0])] fun p l c=>h (.slice p l c)
 | .load t x=>bK e x fun v=>match v,cB P t with
  | .pointer p,some true=>bif (eQ P 9 t).length==P.cellsOf t then T.bd p fun a=>T.ae a (eQ P 9 t) (iV _ fun l=>h (.agg l.toArray)) else T.fail
  | .pointer p,some false=>T.bd p fun a=>T.ae a (cz P t).2 (iV _ fun l=>h (l.headD undef))
  | _,_=>T.fail
 | .store t x y=>bK e x fun p=>bK e y fun v=>match p,cB P t with
  | .pointer p,some true=>cond (eO v) (bif (ji v).length==P.cellsOf t then T.bd p fun a=>T.ao a (ji v) (h undef) else T.fail) T.fail
  | .pointer p,some false=>bif P.cellsOf t==1 then cond (eO v) T.fail (T.bd p fun a=>T.ao a [v] (h undef)) else T.fail
  | _,_=>T.fail
 | .nilCheck x=>bK e x fun v=>match v with
  | .pointer p=>T.bd p fun a=>h (.pointer (some a))
  | .func (.func f) q u=>h (.func (.func f) q u)
  | .iface t v=>h (.iface t v)
  | _=>T.fail
 | .binOp op t x y _=>bK e x fun a=>bK e y fun b=>Cz P op t x y a b h
 | .unOp op _ x=>bK e x fun a=>R4 op a h
 | .convert s d x=>bK e x fun a=>xn P s d a h
 | .makeInterface t x=>bK e x fun a=>match P.underlying t with
  | some (.interface _)=>T.fail
  | some _=>h (.iface t a)
  | none=>T.fail
 | .makeFunc fn q u=>gR e q.toList fun q=>gR e u.toList fun u=>h (.func fn q.toArray u.toArray)
 | .makeMap t none=>T.eK P (Instr.makeMap t none) false [(false,[.map 0 0])] fun r=>h (.map r)
 | .makeSlice t l c=>bK e l fun l=>bK e c fun c=>T.eK P (Instr.makeSlice t l c) false [(false,[.slice 0])] fun p l c=>h (.slice p l c)
 | .slice t x B hi C=>bK e x fun a=>gR e (B.toList++hi.toList++C.toList) fun j=>Sb P t B hi C a j h
 | .fieldAddr s x f=>bK e x fun v=>match v,P.underlying s with
  | .pointer p,some (.struct n)=>match n[f]? with
   | some w=>match P.cellsOf w.type with
    | 0=>T.fail
    | _+1=>T.bd p fun a=>h (.pointer (some (a.add w.offset)))
   | none=>T.fail
  | _,_=>T.fail
 | .field s x f=>bK e x fun v=>match v,P.underlying s with
  | .agg cs,some (.struct n)=>match n[f]? with
   | some w=>sn P w.type cs.toList w.offset h
   | none=>T.fail
  | _,_=>T.fail
 | .indexAddr t x i=>bK e x fun v=>bK e i fun i=>xJ P t v i h
 | .index t x i=>bK e x fun v=>bK e i fun i=>FO P t v i h
 | .lookup t m x ok=>bK e m fun m=>bK e x fun x=>match P.underlying t with
  | some (.map _ k)=>match ok with
   | true=>T.eK P (Instr.lookup t m x true) true [cz P k,(false,[.bool])] (iV _ fun l=>h (rv true [cz P k,(false,[.bool])] l))
   | false=>T.eK P (Instr.lookup t m x false) false [cz P k] (iV _ fun l=>h (rv false [cz P k] l))
  | _=>T.fail
 | .mapUpdate t m x v=>bK e m fun m=>bK e x fun x=>bK e v fun v=>T.ek P (Instr.mapUpdate t m x v) (h undef)
 | .insert t m x v=>bK e m fun m=>bK e x fun x=>bK e v fun v=>T.ek P (Instr.mapUpdate t m x v) (h undef)
 | .mapEntry t m x=>bK e m fun m=>bK e x fun x=>match P.underlying t with
  | some (.map _ k)=>T.eK P (Instr.mapEntry t m x) true [cz P k,(false,[.int .i64])] (iV _ fun l=>h (rv true [cz P k,(false,[.int .i64])] l))
  | _=>T.fail
 | .entryStore t m x v=>bK e m fun m=>bK e x fun x=>bK e v fun v=>T.ek P (Instr.entryStore t m x v) (h undef)
 | .range t x=>bK e x fun x=>T.eK P (Instr.range t x) false [(false,[.pointer 0])] fun p=>h (.pointer p)
 | .next it b=>bK e it fun it=>match P.underlying o.type with
  | some (.tuple ts)=>match ts.toList with
   | []=>T.next P (Instr.next it b o.type) (HU b) (h (.tuple #[.bool false])) (iV _ fun l=>h (.tuple (.bool true::parts (HU b) l).toArray))
   | _::ts=>T.next P (Instr.next it b o.type) (ts.map (cz P)) (h (.tuple #[.bool false])) (iV _ fun l=>h (.tuple (.bool true::parts (ts.map (cz P)) l).toArray))
  | _=>T.fail
 | .entry it=>bK e it fun it=>T.eK P (Instr.entry it) true (HU false) (iV _ fun l=>h (rv true (HU false) l))
 | .typeAssert x t d ok=>bK e x fun x=>match ok with
  | true=>T.eK P (Instr.typeAssert x t d true) true [cz P d,(false,[.bool])] (iV _ fun l=>h (rv true [cz P d,(false,[.bool])] l))
  | false=>T.eK P (Instr.typeAssert x t d false) false [cz P d] (iV _ fun l=>h (rv false [cz P d] l))
 | .extract x i=>bK e x fun v=>match v with
  | .tuple j=>match j.toList[i]? with
   | some v=>h v
   | none=>T.fail
  | _=>T.fail
 | .call c=>match c.callee with
  | .builtin b=>gR e c.args.toList fun j=>qD P b c o.type j h
  | .value g=>match DX g with
   | true=>bK e g fun g=>gR e c.args.toList fun j=>T.uG P g j (ka P o.type).1 (ka P o.type).2 (iV _ fun l=>h (rv (ka P o.type).1 (ka P o.type).2 l))
   | false=>bK e g fun g=>gR e c.args.toList fun j=>match g with
    | .func (.func f) q u=>BF P f (q.toList++j++u.toList) o.type h
    | .func (.method _) _ _=>T.fail
    | .func (.methodOf _ _) _ _=>T.fail
    | .func (.via _ _ _ _) _ _=>T.fail
    | .func (.yield _) _ _=>T.fail
    | .nilFunc=>T.fail
    | .bool _=>T.fail
    | .int _ _=>T.fail
    | .float _ _=>T.fail
    | .complex _ _ _=>T.fail
    | .string _=>T.fail
    | .pointer _=>T.fail
    | .slice _ _ _=>T.fail
    | .map _=>T.fail
    | .chan _=>T.fail
    | .iface _ _=>T.fail
    | .nilIface=>T.fail
    | .agg _=>T.fail
    | .tuple _=>T.fail
  | .invoke _ _=>T.fail
 | _=>T.fail
def guardOf (ops:Array Oper) (o:Oper):Option (Option Tmp × Bool) :=
 match o.guard with
 | none=>none
 | some (j,a)=>some ((ops[j]?).bind (·.dst),a)
def kI (n:Nat) (ops:Array Oper) (o:Oper) (e:Env) (a f:Env->T):T :=
 match guardOf ops o with
 | none=>a e
 | some (none,_)=>f e
 | some (some d,c) =>
  match cQ e d with
  | some (.bool b)=>match c with
   | true=>cond b (a (dQ n e (some d) (.bool true))) (f (dQ n e (some d) (.bool false)))
   | false=>cond b (f (dQ n e (some d) (.bool true))) (a (dQ n e (some d) (.bool false)))
  | some (.tuple _)=>f e
  | _=>T.fail
def DK (P:Program) (n:Nat) (ops:Array Oper):List Oper->Env->(Env->T)->T
 | [],e,k=>k e
 | o::rest,e,k=>kI n ops o e (fun e=>tO P o e fun v=>DK P n ops rest (dQ n e o.dst v) k) (fun e=>DK P n ops rest (dQ n e o.dst undef) k)
def qT (P:Program) (o:Oper):Bool :=
 match o.op with
 | .move _=>true
 | .pick _ _ _=>true
 | .build _ _=>true
 | .nilCheck _=>true
 | .binOp _ t x y _=>qL P t x y
 | .unOp _ _ _=>true
 | .convert s d _=>match P.underlying s,P.underlying d with
  | some (.int _),some (.int _)=>true
  | some .string,some .string=>true
  | _,_=>false
 | .makeInterface _ _=>true
 | .makeFunc _ _ _=>true
 | .slice t _ _ _ none=>match P.underlying t with
  | some .string=>true
  | some (.slice _)=>true
  | _=>false
 | .fieldAddr _ _ _=>true
 | .field _ _ _=>true
 | .indexAddr _ _ _=>true
 | .index t _ _=>match P.underlying t with
  | some .string=>true
  | _=>false
 | .extract _ _=>true
 | .call c=>match c.callee with
  | .builtin .len=>match (c.argTypes[0]?).bind P.underlying with
   | some .string=>true
   | some (.slice _)=>true
   | _=>false
  | .builtin .cap=>match (c.argTypes[0]?).bind P.underlying with
   | some (.slice _)=>true
   | _=>false
  | _=>false
 | _=>false
def zL (o:Oper):Bool :=
 match o.op with
 | .load _ _=>true
 | _=>false
def calm (P:Program) (o:Oper):Bool:=qT P o || zL o
def rS (x:Nat):List Nat->Bool
 | []=>false
 | y::l=>Nat.beq x y || rS x l
def waits (o:Oper):List Nat:=(o.after.toList.filter fun e=>Region.binds .any e).map (·.on)
def w9 (D:List Nat) (i:Nat) (o:Oper):Bool:=!rS i D && (waits o).all fun j=>rS j D
def looks (ops : Array Oper) (o : Oper) : List Nat :=
  (o.op.operands.toList.filterMap fun | .tmp t => some t | _ => none) ++
  (match o.guard with
   | some (g, _) => ((ops[g]?).bind (·.dst)).toList
   | none => [])
def lJ:Option Nat->Nat->Bool
 | some d,s=>Nat.beq d s
 | none,_=>false
def GZ (P : Program) (ops : Array Oper) (i j : Nat) (x y : Oper) : Bool :=
  match Nat.beq i j with
  | true => (match x.dst with
    | some d => !calm P x || !rS d (looks ops x)
    | none => true)
  | false => (match y.dst with
    | some d => !rS d (looks ops x) || rS j (waits x) || (rS i (waits y) && !calm P y)
    | none => true) &&
   (match x.dst, calm P x with
    | some d, true => !lJ y.dst d
    | _, _ => true)
def idx:Nat->List Oper->List (Nat × Oper)
 | _,[]=>[]
 | i,o::l=>(i,o)::idx (i+1) l
def dX (P : Program) (n : Nat) (ops : Array Oper) : Bool :=
  ((idx 0 ops.toList).all fun p => match p.2.dst with
    | some d => Nat.blt d n
    | none => true) && (idx 0 ops.toList).all fun p => (idx 0 ops.toList).all fun q => GZ P ops p.1 q.1 p.2 q.2
abbrev Made:=List (Nat × YA × List XB)
def jK (o:Oper):Made->List (YA × List XB)
 | []=>[]
 | (i,a,l)::m=>bif rS i (waits o) then jK o m else (a,l)::jK o m
def uw (l:List (YA × List XB)) (t:T):T :=
 match l with
 | []=>t
 | p::l=>T.az (p::l) t
def Re:List T->T
 | []=>T.fail
 | [t]=>t
 | t::ts=>T.all (t::ts)
def qq (P:Program) (t:TypeId) (x:Operand) (e:Env) (b:YA->List XB->XB->T):T :=
 bK e x fun v=>match v,cB P t with
  | .pointer p,some true=>bif (eQ P 9 t).length==P.cellsOf t then T.bd p fun a=>T.ae a (eQ P 9 t) (iV _ fun l=>b a l (.agg l.toArray)) else T.fail
  | .pointer p,some false=>T.bd p fun a=>T.ae a (cz P t).2 (iV _ fun l=>b a l (l.headD undef))
  | _,_=>T.fail
def cY (P:Program) (D:List Nat) (c:Bool):List (Nat × Oper)->List (Nat × Oper)
 | []=>[]
 | p::l=>match w9 D p.1 p.2 && (calm P p.2==c) with
  | true=>p::cY P D c l
  | false=>cY P D c l
def fF (P:Program) (n:Nat) (ops:Array Oper):Nat->List Nat->Env->Made->(Env->T)->T
 | 0,_,_,_,_=>T.fail
 | b+1,D,e,m,k =>
  match cY P D true (idx 0 ops.toList) with
  | (i,o)::_ =>
   kI n ops o e (fun e=>match o.op with
    | .load t x=>qq P t x e fun a l v=>fF P n ops b (i::D) (dQ n e o.dst v) ((i,a,l)::m) k
    | _=>tO P o e fun v=>fF P n ops b (i::D) (dQ n e o.dst v) m k)
    fun e=>fF P n ops b (i::D) (dQ n e o.dst undef) m k
  | [] =>
   match cY P D false (idx 0 ops.toList) with
   | []=>k e
   | q::c=>Re ((q::c).map fun p=>kI n ops p.2 e (fun e=>tO P p.2 e fun v=>uw (jK p.2 m) (fF P n ops b (p.1::D) (dQ n e p.2.dst v) m k))
     fun e=>fF P n ops b (p.1::D) (dQ n e p.2.dst undef) m k)
def uJ (P:Program) (n _id:Nat) (ops:Array Oper) (e:Env) (k:Env->T):T :=
 match dX P n ops with
 | true=>fF P n ops (ops.size+1) [] e [] k
 | false=>T.fail
def ec:Code->List Nat
 | .region _ ops _=>ops.toList.filterMap (·.dst)
 | .seq a b=>ec a++ec b
 | .cond _ a b=>ec a++ec b
 | .block _ c=>ec c
 | .loop c=>ec c
 | .scope c=>ec c
 | .rangeFunc _ ps a b=>ps.toList++ec a++ec b
 | _=>[]
def ru (x:Nat):List Nat->List Nat
 | []=>[x]
 | y::l=>bif Nat.blt x y then x::y::l else bif Nat.beq x y then y::l else y::ru x l
def ij (l:List Nat):List Nat:=l.foldl (fun a x=>ru x a) []
def PG:XB->TypeDesc
 | .bool _=>.bool
 | .int k _=>.int k
 | .string _=>.string
 | .pointer _=>.pointer 0
 | .slice _ _ _=>.slice 0
 | .map _=>.map 0 0
 | _=>.invalid
def Kl:XB->ef
 | .agg cs=>(true,cs.toList.map PG)
 | v=>(false,[PG v])
def live (e:Env):List Nat->List (Nat × XB)
 | []=>[]
 | s::l=>match cQ e s with
  | some v=>(s,v)::live e l
  | none=>live e l
def forget (e:Env) (l:List Nat):Env:=l.map (fun s=>(s,none))++e
def mh (l:List Nat) (a:List XB):Env:=(l.zip a).map fun p=>(p.1,some p.2)
def zy (e:Env):List Nat->(List XB->T)->T
 | [],k=>k []
 | s::l,k=>match cQ e s with
  | some v=>zy e l fun a=>k (v::a)
  | none=>T.fail
def Hq (ms:List Nat) (e:Env) (b:Nat) (a:Env->(Env->T)->T):T :=
 let lvs:=live e (ij ms)
 let ss:=lvs.map (·.1)
 let cs:=lvs.map fun p=>Kl p.2
 T.loop cs (lvs.map (·.2)) (iV (flat cs) fun l=>a (mh ss (parts cs l)++forget e (ij ms)) fun c=>zy c ss fun d=>T.again b d)
def jk (l:Nat):Code->Bool
 | .goto l'=>Nat.beq l l'
 | .seq a b=>jk l a || jk l b
 | .cond _ a b=>jk l a || jk l b
 | .block _ c=>jk l c
 | .loop c=>jk l c
 | .scope c=>jk l c
 | .rangeFunc _ _ a b=>jk l a || jk l b
 | _=>false
def labels:Code->List Nat
 | .label l=>[l]
 | .seq a b=>labels a++labels b
 | _=>[]
def AL (c:Code):Option Nat :=
 (labels c).find? fun l=>match findLabel c l with
  | some r=>jk l r
  | none=>false
def P8:Code->Nat->Code
 | .seq a b,l=>match findLabel a l with
  | some _=>P8 a l
  | none=>.seq a (P8 b l)
 | _,_=>.skip
def Nc (a:List Nat) (cs:List ef) (ms:List Nat) (e:Env) (b:Nat) (first:(Env->T)->T) (after:Env->T):T :=
 T.join cs (first fun c=>zy c a fun d=>T.again b d) (iV (flat cs) fun l=>after (mh a (parts cs l)++forget e (ij ms)))
def jy:Code->Option Nat
 | .region id _ _=>some id
 | .seq a b=>match jy a with
  | some i=>some i
  | none=>jy b
 | .cond _ a _=>jy a
 | .block _ c=>jy c
 | .loop c=>jy c
 | .scope c=>jy c
 | _=>none
def Ib (a:List Nat):Option Nat->Nat->Bool
 | some i,k=>rS (i+k) a
 | none,_=>false
def handsOn (P:Program):List Oper->List (Nat × ef)
 | []=>[]
 | [o]=>match o.dst with
  | some d=>[(d,cz P o.type)]
  | none=>[]
 | o::l=>match o.op,o.dst with
  | .assign _,some d=>(d,cz P o.type)::handsOn P l
  | _,_=>handsOn P l
def fp (l:Nat):Code->Bool
 | .label l'=>Nat.beq l l'
 | .seq a _=>fp l a
 | _=>false
def dstsOf (ops:Array Oper):List Nat:=ops.toList.filterMap (·.dst)
mutual
def fz (P:Program) (n:Nat) (d:List Nat):Nat->Code->Env->Nat->(Exit->Env->Nat->T)->T
 | 0,_,_,_,_=>T.fail
 | j+1,c,e,g,κ =>
  match c with
  | .skip=>κ .normal e g
  | .label _=>κ .normal e g
  | .exit i=>κ (.exit i) e g
  | .goto l=>κ (.goto l) e g
  | .ret=>κ .ret e g
  | .seq a b =>
   match Ib d (jy b) 1000 with
   | false=>fz P n d j a e g fun x h f=>match x with
    | .normal=>fz P n d j b h f κ
    | x=>κ x h f
   | true =>
    Nc ((live e (ij (ec a))).map (·.1)) ((live e (ij (ec a))).map fun p=>Kl p.2) (ec a) e g
     (fun k=>fz P n d j a e (g+1) fun x h f=>match x with
      | .normal=>k h
      | x=>κ x h f)
     (fun h=>fz P n d j b h g κ)
  | .cond c a b=>match ev e c with
   | some (.bool t)=>cond t (fz P n d j a e g κ) (fz P n d j b e g κ)
   | _=>T.fail
  | .block id c=>fz P n d j c e g fun x h f=>match x with
   | .exit i=>match Nat.beq i id with
    | true=>κ .normal h f
    | false=>κ (.exit i) h f
   | x=>κ x h f
  | .region id ops m =>
   match Ib d (some id) 0 with
   | false=>match m with
    | false=>DK P n ops ops.toList e fun h=>κ .normal h g
    | true=>uJ P n id ops e fun h=>κ .normal h g
   | true=>Nc ((handsOn P ops.toList).map (·.1)) ((handsOn P ops.toList).map (·.2)) (dstsOf ops) e g
     (fun k=>match m with
      | false=>DK P n ops ops.toList e k
      | true=>uJ P n id ops e k)
     (fun h=>κ .normal h g)
  | .loop c=>Hq (ec c) e g fun h k=>fz P n d j c h (g+1) fun x o f=>match x with
   | .normal=>k o
   | x=>κ x o f
  | .scope c=>match AL c with
   | none=>kM P n d j c c e g none (fun _=>T.fail) κ
   | some l=>match findLabel c l with
    | none=>T.fail
    | some r=>wM P n d j c c l r e g κ
  | _=>T.fail
def kM (P:Program) (n:Nat) (a:List Nat):Nat->Code->Code->Env->Nat->Option Nat->(Env->T)->(Exit->Env->Nat->T)->T
 | 0,_,_,_,_,_,_,_=>T.fail
 | f+1,c,r,e,g,back,k,κ=>fz P n a f r e g fun x d b=>match x with
  | .goto l=>match lJ back l with
   | true=>k d
   | false=>match findLabel c l with
    | some h=>kM P n a f c h d b back k κ
    | none=>κ (.goto l) d b
  | x=>κ x d b
def wM (P:Program) (n:Nat) (d:List Nat):Nat->Code->Code->Nat->Code->Env->Nat->(Exit->Env->Nat->T)->T
 | 0,_,_,_,_,_,_,_=>T.fail
 | g+1,c,t,l,r,e,h,κ =>
  match fp l t with
  | true=>Hq (ec c) e h fun i k=>kM P n d g c r i (h+1) (some l) k κ
  | false=>match t with
   | .seq a b=>match findLabel a l with
    | some _=>T.fail
    | none=>fz P n d g a e h fun x j f=>match x with
     | .normal=>wM P n d g c b l r j f κ
     | .goto _=>T.fail
     | x=>κ x j f
   | _=>T.fail
end
def wF (P:Program):List ResultVar->Env->(List XB->T)->T
 | [],_,k=>k []
 | .tmp t::b,e,k=>bK e (.tmp t) fun v=>wF P b e fun l=>k (v::l)
 | .cell a t::b,e,k=>bK e (.tmp a) fun p=>match p,cB P t with
  | .pointer p,some true=>bif (eQ P 9 t).length==P.cellsOf t then T.bd p fun a=>T.ae a (eQ P 9 t) (iV _ fun l=>wF P b e fun l'=>k (.agg l.toArray::l')) else T.fail
  | .pointer p,some false=>T.bd p fun a=>T.ae a (cz P t).2 (iV _ fun l=>wF P b e fun l'=>k (l.headD undef::l'))
  | _,_=>T.fail
def one (l:List XB):XB :=
 match l with
 | [v]=>v
 | l=>.tuple l.toArray
def tB:Nat->List XB->Env
 | _,[]=>[]
 | i,v::a=>(i,some v)::tB (i+1) a
def bQ (P:Program) (a:List Nat) (fn:Func) (args:List XB):T :=
 match fn.body with
 | none=>T.fail
 | some c=>fz P fn.ntmps a 100000 c (tB 0 args) 0 fun x e _=>match x with
  | .normal=>wF P fn.results.toList e fun l=>T.ret (one l)
  | .ret=>wF P fn.results.toList e fun l=>T.ret (one l)
  | _=>T.fail
end Go.Sx
