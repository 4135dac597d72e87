/- A framework of our own, part X: from code to trees. No condition. -/
import Derived.Test.YtlpcncdglfjnoaaGreatDoorSxT
set_option linter.all false
set_option maxHeartbeats 4000000
namespace Go.Sx
abbrev Env:=List (Nat × Option YB)
def cJ:Env->Nat->Option YB
 | [],_=>none
 | (s,v)::e,t=>bif Nat.beq s t then v else cJ e t
def dO (n:Nat) (e:Env) (dst:Option Tmp) (v:YB):Env :=
 match dst with
 | none=>e
 | some d=>bif Nat.blt d n then (d,some v)::e else e
def ev (e:Env):Operand->Option YB
 | .tmp t=>cJ e t
 | .const v=>some v
 | .global g=>some (.pointer (some ⟨g,0,none⟩))
 | .func f=>some (.func (.func f) #[] #[])
namespace T
def bd (p:Option YC) (k:YC->T):T :=
 match p with
 | some a=>k a
 | none=>T.fail
end T
def eO (P:Program):Nat->TypeId->List TypeDesc
 | 0,_=>[.invalid]
 | n+1,t =>
  match P.underlying t with
  | some (.struct fs)=>fs.toList.flatMap fun f=>eO P n f.type
  | some (.array k e)=>(List.replicate k (eO P n e)).flatten
  | some d=>[d]
  | none=>[.invalid]
def cy (P:Program) (t:TypeId):fx :=
 match P.underlying t with
 | some (.struct _)=>(true,eO P 9 t)
 | some (.array _ _)=>(true,eO P 9 t)
 | some d=>(false,[d])
 | none=>(false,[.invalid])
def kq (P:Program) (t:TypeId):Bool × List fx :=
 match P.underlying t with
 | some (.tuple ts)=>(true,ts.toList.map (cy P))
 | _=>(false,[cy P t])
def H9 (b:Bool):List fx :=
 match b with
 | true=>[(false,[.int .i64]),(false,[.int .i32])]
 | false=>[(false,[.string]),(false,[.bool])]
def bQ (e:Env) (x:Operand) (k:YB->T):T :=
 match ev e x with
 | some v=>k v
 | none=>T.fail
def gQ (e:Env):List Operand->(List YB->T)->T
 | [],k=>k []
 | x::xs,k=>bQ e x fun v=>gQ e xs fun l=>k (v::l)
def cK (s:YA) (n:Int):Int:=((s.data.toList.getD n.toNat 0).toNat:Nat)
def L5 (op:BinOp) (k:IntKind) (x y:Int):Int :=
 match op with
 | .and=>k.wrap (BitVec.ofInt k.bits x &&& BitVec.ofInt k.bits y).toNat
 | .or=>k.wrap (BitVec.ofInt k.bits x ||| BitVec.ofInt k.bits y).toNat
 | .xor=>k.wrap (BitVec.ofInt k.bits x ^^^ BitVec.ofInt k.bits y).toNat
 | _=>k.wrap (BitVec.ofInt k.bits x &&& ~~~ BitVec.ofInt k.bits y).toNat
def G6 (op:BinOp) (k:IntKind) (m n:Int) (kk:YB->T):T :=
 match op with
 | .add=>kk (.int k (k.wrap (m+n)))
 | .sub=>kk (.int k (k.wrap (m-n)))
 | .mul=>kk (.int k (k.wrap (m*n)))
 | .quo=>T.need (n≠0) (kk (.int k (k.wrap (m.tdiv n))))
 | .rem=>T.need (n≠0) (kk (.int k (m.tmod n)))
 | .eql=>kk (.bool (m==n))
 | .neq=>kk (.bool (m != n))
 | .lss=>kk (.bool (decide (m<n)))
 | .leq=>kk (.bool (decide (m<=n)))
 | .gtr=>kk (.bool (decide (m>n)))
 | .geq=>kk (.bool (decide (m>=n)))
 | .and=>kk (.int k (L5 .and k m n))
 | .or=>kk (.int k (L5 .or k m n))
 | .xor=>kk (.int k (L5 .xor k m n))
 | .andNot=>kk (.int k (L5 .andNot k m n))
 | _=>T.fail
def zu (op:BinOp) (k:IntKind) (m n:Int) (kk:YB->T):T :=
 match op with
 | .shl=>T.need (0<=n) (kk (.int k (k.wrap (m*2^(min n.toNat k.bits)))))
 | .shr=>T.need (0<=n) (kk (.int k (m.fdiv (2^(min n.toNat k.bits)))))
 | _=>T.fail
def GR (op:BinOp) (x y:YA) (kk:YB->T):T :=
 match op with
 | .add=>T.need (((x.size+y.size:Nat):Int)<=IntKind.i64.max) (kk (.string (x++y)))
 | .eql=>kk (.bool (x.toList==y.toList))
 | .neq=>kk (.bool !(x.toList==y.toList))
 | .lss=>kk (.bool (Op.bytesLess x.toList y.toList))
 | .leq=>kk (.bool (Op.bytesLess x.toList y.toList || x.toList==y.toList))
 | .gtr=>kk (.bool !(Op.bytesLess x.toList y.toList || x.toList==y.toList))
 | .geq=>kk (.bool !(Op.bytesLess x.toList y.toList))
 | _=>T.fail
def mh:BinOp->Bool
 | .shl=>true
 | .shr=>true
 | _=>false
def isNil (x:Operand):Bool :=
 match x with
 | .const (.pointer none)=>true
 | .const (.slice none 0 0)=>true
 | .const (.map none)=>true
 | _=>false
def iK (op:BinOp) (t:TypeId) (x y:Operand) (a b:YB):Sem YB:=do eqGuard op t x y a b; binOp op t a b
def P' (P:Program) (op:BinOp) (t:TypeId) (x y:Operand) (a b:YB) (kk:YB->T):T :=
 T.dW P (iK op t x y a b) false [(false,[.bool])] fun r=>kk (.bool r)
def asked (op:BinOp) (b:Bool) (kk:YB->T) (other:T):T :=
 match op with
 | .eql=>kk (.bool b)
 | .neq=>kk (.bool !b)
 | _=>other
def qU (P:Program) (t:TypeId) (x y:Operand):Bool :=
 match P.underlying t with
 | some (.int _)=>true
 | some .string=>true
 | some .bool=>true
 | some (.pointer _)=>isNil y
 | some (.slice _)=>isNil y
 | some (.map _ _)=>isNil y
 | _=>false
def sE (P:Program) (op:BinOp) (t:TypeId) (a b:YB) (kk:YB->T):T :=
 match a,b with
 | .int k m,.int k' n =>
  match mh op with
  | true=>zu op k m n kk
  | false=>match decide (k=k') with
   | true=>G6 op k m n kk
   | false=>T.fail
 | .string m,.string n=>GR op m n kk
 | .bool m,.bool n =>
  match P.underlying t with
  | some .bool=>asked op (m==n) kk T.fail
  | _=>T.fail
 | .pointer p,.pointer _ =>
  match P.underlying t with
  | some (.pointer _)=>asked op p.isNone kk T.fail
  | _=>T.fail
 | .slice p _ _,.slice _ _ _ =>
  match P.underlying t with
  | some (.slice _)=>asked op p.isNone kk T.fail
  | _=>T.fail
 | .map p,.map _ =>
  match P.underlying t with
  | some (.map _ _)=>asked op p.isNone kk T.fail
  | _=>T.fail
 | _,_=>T.fail
def C5 (P:Program) (op:BinOp) (t:TypeId) (x y:Operand) (a b:YB) (kk:YB->T):T :=
 match qU P t x y with
 | true=>sE P op t a b kk
 | false=>P' P op t x y a b kk
def S7 (op:UnOp) (a:YB) (kk:YB->T):T :=
 match op,a with
 | .neg,.int k n=>kk (.int k (k.wrap (0-n)))
 | .xor,.int k n=>kk (.int k (L5 .xor k (if k.signed then -1 else k.max) n))
 | .not,.bool b=>kk (.bool !b)
 | _,_=>T.fail
def xo (P:Program) (src dst:TypeId) (a:YB) (kk:YB->T):T :=
 match P.underlying src,P.underlying dst,a with
 | some (.int _),some (.int k),.int _ n=>kk (.int k (k.wrap n))
 | some .string,some .string,.string s=>kk (.string s)
 | some .string,some .string,_=>T.fail
 | _,some (.slice _),_=>T.dW P (convert src dst a) false [(false,[.slice 0])] fun p l c=>kk (.slice p l c)
 | _,some .string,_=>T.dW P (convert src dst a) false [(false,[.string])] fun s=>kk (.string s)
 | _,_,_=>T.fail
def jR:Option YB->Int
 | some (.int _ n)=>n
 | _=>0
def ef:Option YB->Bool
 | some (.int _ _)=>true
 | none=>true
 | _=>false
def j1 (d:Int):Option YB->Int
 | some (.int _ n)=>n
 | _=>d
def mM (P:Program) (t:TypeId):Bool:=(P.info? t).isSome
def iH (P:Program) (t:TypeId) (a:YB) (lo hi mx:Option YB) (kk:YB->T):T :=
 match ef lo && ef hi && ef mx with
 | false=>T.fail
 | true =>
  match P.underlying t with
  | some .string=>match a,mx with
   | .string s,none =>
    T.need (0<=jR lo/\jR lo<=j1 s.size hi/\j1 s.size hi<=s.size) (kk (.string (s.extract (jR lo).toNat (j1 s.size hi).toNat)))
   | _,_=>T.fail
  | some (.slice e)=>match mx with
   | some _=>T.dW P (Instr.sliceAt t a lo hi mx) false [(false,[.slice 0])] fun p l c=>kk (.slice p l c)
   | none=>match a with
    | .slice p len cap =>
     match mM P e with
     | false=>T.fail
     | true=>T.need (0<=jR lo/\jR lo<=j1 len hi/\j1 len hi<=cap) (kk (.slice (if cap=(jR lo).toNat then p else p.map (·.add ((jR lo).toNat*P.cellsOf e))) ((j1 len hi).toNat-(jR lo).toNat) (cap-(jR lo).toNat)))
    | _=>T.fail
  | _=>T.dW P (Instr.sliceAt t a lo hi mx) false [(false,[.slice 0])] fun p l c=>kk (.slice p l c)
def sI (P:Program) (t:TypeId) (cs:List YB) (off:Nat) (kk:YB->T):T :=
 match P.underlying t with
 | some (.struct _)=>kk (.agg ((cs.drop off).take (P.cellsOf t)).toArray)
 | some (.array _ _)=>kk (.agg ((cs.drop off).take (P.cellsOf t)).toArray)
 | some _=>match cs[off]? with
  | some v=>kk v
  | none=>T.fail
 | none=>T.fail
def cw (P:Program) (t:TypeId):Option Bool :=
 match P.underlying t with
 | some (.struct _)=>some true
 | some (.array _ _)=>some true
 | some _=>some false
 | none=>none
def ji:YB->List YB
 | .agg cs=>cs.toList
 | _=>[]
def eR:YB->Bool
 | .agg _=>true
 | _=>false
def fA (P:Program) (f:FuncId):Bool :=
 match P.funcs[f]? with
 | some fn => fn.body.isSome && !(fn.name == "runtime.NumGoroutine")
 | none=>false
def EW:Operand->Bool
 | .tmp _=>true
 | .const _=>false
 | .global _=>false
 | .func _=>false
def FO (f:FuncId) (args:Array YB):Sem YB:=do
 match <- callFunc f args with
 | .value v=>pure v
 | _ => stuck "no value"
def Bz (P:Program) (f:FuncId) (args:List YB) (t:TypeId) (kk:YB->T):T :=
 match fA P f with
 | true=>T.call P f args (kq P t).1 (kq P t).2 (jh _ fun l=>kk (rv (kq P t).1 (kq P t).2 l))
 | false=>T.dW P (FO f args.toArray) (kq P t).1 (kq P t).2 (jh _ fun l=>kk (rv (kq P t).1 (kq P t).2 l))
def zd (P:Program) (c:Call) (t:TypeId) (args:List YB) (kk:YB->T):T :=
 match (c.argTypes[0]?).bind P.underlying with
 | some .string=>match args with
  | [.string s]=>kk (.int .i64 s.size)
  | _=>T.fail
 | some (.slice _)=>match args with
  | [.slice _ n _]=>kk (.int .i64 n)
  | _=>T.fail
 | _=>T.dW P (Builtin.len_ c.argTypes t args.toArray) false [(false,[.int .i64])] fun n=>kk (.int .i64 n)
def Jg (P:Program) (c:Call) (args:List YB) (kk:YB->T):T :=
 match (c.argTypes[0]?).bind P.underlying with
 | some (.slice _)=>match args with
  | [.slice _ _ n]=>kk (.int .i64 n)
  | _=>T.fail
 | _=>T.fail
def qy (P:Program) (b:Builtin) (c:Call) (t:TypeId) (args:List YB) (kk:YB->T):T :=
 match b,args with
 | .len,_=>zd P c t args kk
 | .cap,_=>Jg P c args kk
 | .append,_=>T.dW P (Builtin.append_ c.argTypes t args.toArray) false [(false,[.slice 0])] fun p l cp=>kk (.slice p l cp)
 | .copy,_=>T.dW P (Builtin.copy_ c.argTypes t args.toArray) false [(false,[.int .i64])] fun n=>kk (.int .i64 n)
 | .min,_=>T.dW P (Builtin.min_ c.argTypes t args.toArray) false [cy P t] (jh _ fun l=>kk (rv false [cy P t] l))
 | .max,_=>T.dW P (Builtin.max_ c.argTypes t args.toArray) false [cy P t] (jh _ fun l=>kk (rv false [cy P t] l))
 | .delete,_=>T.dW P (Builtin.delete_ c.argTypes t args.toArray) true [] (kk (.tuple #[]))
 | .unsafeString,_=>T.dW P (Builtin.unsafeString_ c.argTypes t args.toArray) false [cy P t] (jh _ fun l=>kk (rv false [cy P t] l))
 | .unsafeSliceData,_=>T.dW P (Builtin.unsafeSliceData_ c.argTypes t args.toArray) false [cy P t] (jh _ fun l=>kk (rv false [cy P t] l))
 | _,_=>T.fail
def Tt (P:Program) (t:TypeId) (lo hi mx:Option Operand) (a:YB) (vs:List YB) (kk:YB->T):T :=
 match lo,hi,mx,vs with
 | none,none,none,[]=>iH P t a none none none kk
 | some _,none,none,[l]=>iH P t a (some l) none none kk
 | none,some _,none,[h]=>iH P t a none (some h) none kk
 | some _,some _,none,[l,h]=>iH P t a (some l) (some h) none kk
 | some _,some _,some _,[l,h,m]=>iH P t a (some l) (some h) (some m) kk
 | none,some _,some _,[h,m]=>iH P t a none (some h) (some m) kk
 | _,_,_,_=>T.fail
def wZ (P:Program) (t:TypeId) (v i:YB) (kk:YB->T):T :=
 match v,i,P.underlying t with
 | .slice p len _,.int _ n,some (.slice el)=>bif !mM P el then T.fail else T.need (0<=n/\n<len) (T.bd p fun a=>kk (.pointer (some (a.add (n.toNat*P.cellsOf el)))))
 | .pointer p,.int _ n,some (.array len el)=>bif !mM P el then T.fail else T.need (0<=n/\n<len) (T.bd p fun a=>kk (.pointer (some (a.add (n.toNat*P.cellsOf el)))))
 | _,_,_=>T.fail
def Gd (P:Program) (t:TypeId) (v i:YB) (kk:YB->T):T :=
 match v,i,P.underlying t with
 | .string s,.int _ n,some .string=>T.need (0<=n/\n<s.size) (kk (.int .u8 (cK s n)))
 | v,i,some (.array len el)=>T.dW P (Instr.index t v i) false [cy P el] (jh _ fun l=>kk (rv false [cy P el] l))
 | _,_,_=>T.fail
def rY (xs:List YB):Nat->List YB->List YB
 | _,[]=>xs
 | i,v::vs=>rY (xs.set i v) (i+1) vs
def fh (place:Nat->Option (Nat × Nat)) (cells:List YB):List (Nat × List YB)->Option (List YB)
 | []=>some cells
 | (i,l)::rest =>
  match place i with
  | none=>none
  | some (off,size)=>bif !(Nat.beq l.length size) || Nat.blt cells.length (off+l.length) then none else fh place (rY cells off l) rest
def eX (agg:Nat->Option Bool):List (Nat × YB)->(List (Nat × List YB)->T)->T
 | [],k=>k []
 | (i,v)::l,k =>
  match agg i with
  | some true=>cond (eR v) (eX agg l fun r=>k ((i,ji v)::r)) T.fail
  | some false=>cond (eR v) T.fail (eX agg l fun r=>k ((i,[v])::r))
  | none=>T.fail
def tR (P:Program) (o:Oper) (e:Env) (kk:YB->T):T :=
 match o.op with
 | .move x=>bQ e x kk
 | .assign x=>bQ e x kk
 | .pick c a b=>bQ e c fun c=>match c with
  | .bool b'=>cond b' (bQ e a kk) (bQ e b kk)
  | _=>T.fail
 | .alloc t=>match (P.info? t).bind (·.zero) with
  | some z=>T.new z.cells.toList t fun a=>kk (.pointer (some a))
  | none=>T.fail
 | .box t x=>bQ e x fun v=>match cw P t with
  | some true=>cond (eR v) (T.new (ji v) t fun a=>kk (.pointer (some a))) T.fail
  | some false=>cond (eR v) T.fail (T.new [v] t fun a=>kk (.pointer (some a)))
  | none=>T.fail
 | .build t ps=>gQ e (ps.toList.map (·.2)) fun vs=>match P.underlying t,(P.info? t).bind (·.zero) with
  | some (.struct fs),some z =>
   bif !(fs.all fun f=>mM P f.type) then T.fail else eX (fun i=>(fs[i]?).bind fun f=>cw P f.type) ((ps.toList.map (·.1)).zip vs) fun ls=>match fh (((fs.map fun f=>(f.offset,P.cellsOf f.type)))[·]?) z.cells.toList ls with
   | some cs=>kk (.agg cs.toArray)
   | none=>T.fail
  | some (.array _ el),some z =>
   bif !mM P el then T.fail else eX (fun _=>cw P el) ((ps.toList.map (·.1)).zip vs) fun ls=>match fh (fun i=>some (i*P.cellsOf el,P.cellsOf el)) z.cells.toList ls with
   | some cs=>kk (.agg cs.toArray)
   | none=>T.fail
  | _,_=>T.fail
 | .buildSlice t len ps=>gQ e (ps.toList.map (·.2)) fun vs =>
  T.dW P (Instr.buildSlice t len ((ps.toList.map (·.1)).zip vs).toArray) false [(false,[.slice 0])] fun p l c=>kk (.slice p l c)
 | .load t x=>bQ e x fun v=>match v,cw P t with
  | .pointer p,some true=>bif (eO P 9 t).length==P.cellsOf t then T.bd p fun a=>T.ah a (eO P 9 t) (jh _ fun l=>kk (.agg l.toArray)) else T.fail
  | .pointer p,some false=>T.bd p fun a=>T.ah a (cy P t).2 (jh _ fun l=>kk (l.headD undef))
  | _,_=>T.fail
 | .store t x y=>bQ e x fun p=>bQ e y fun v=>match p,cw P t with
  | .pointer p,some true=>cond (eR v) (bif (ji v).length==P.cellsOf t then T.bd p fun a=>T.aD a (ji v) (kk undef) else T.fail) T.fail
  | .pointer p,some false=>bif P.cellsOf t==1 then cond (eR v) T.fail (T.bd p fun a=>T.aD a [v] (kk undef)) else T.fail
  | _,_=>T.fail
 | .nilCheck x=>bQ e x fun v=>match v with
  | .pointer p=>T.bd p fun a=>kk (.pointer (some a))
  | .func (.func f) fi ca=>kk (.func (.func f) fi ca)
  | .iface t v=>kk (.iface t v)
  | _=>T.fail
 | .binOp op t x y _=>bQ e x fun a=>bQ e y fun b=>C5 P op t x y a b kk
 | .unOp op _ x=>bQ e x fun a=>S7 op a kk
 | .convert s d x=>bQ e x fun a=>xo P s d a kk
 | .makeInterface t x=>bQ e x fun a=>match P.underlying t with
  | some (.interface _)=>T.fail
  | some _=>kk (.iface t a)
  | none=>T.fail
 | .makeFunc fn fi ca=>gQ e fi.toList fun fi=>gQ e ca.toList fun ca=>kk (.func fn fi.toArray ca.toArray)
 | .makeMap t none=>T.dW P (Instr.makeMap t none) false [(false,[.map 0 0])] fun r=>kk (.map r)
 | .makeSlice t l c=>bQ e l fun l=>bQ e c fun c=>T.dW P (Instr.makeSlice t l c) false [(false,[.slice 0])] fun p l c=>kk (.slice p l c)
 | .slice t x lo hi mx=>bQ e x fun a=>gQ e (lo.toList++hi.toList++mx.toList) fun vs=>Tt P t lo hi mx a vs kk
 | .fieldAddr s x f=>bQ e x fun v=>match v,P.underlying s with
  | .pointer p,some (.struct fs)=>match fs[f]? with
   | some fd=>match P.cellsOf fd.type with
    | 0=>T.fail
    | _+1=>T.bd p fun a=>kk (.pointer (some (a.add fd.offset)))
   | none=>T.fail
  | _,_=>T.fail
 | .field s x f=>bQ e x fun v=>match v,P.underlying s with
  | .agg cs,some (.struct fs)=>match fs[f]? with
   | some fd=>sI P fd.type cs.toList fd.offset kk
   | none=>T.fail
  | _,_=>T.fail
 | .indexAddr t x i=>bQ e x fun v=>bQ e i fun i=>wZ P t v i kk
 | .index t x i=>bQ e x fun v=>bQ e i fun i=>Gd P t v i kk
 | .lookup t m x ok=>bQ e m fun m=>bQ e x fun x=>match P.underlying t with
  | some (.map _ el)=>match ok with
   | true=>T.dW P (Instr.lookup t m x true) true [cy P el,(false,[.bool])] (jh _ fun l=>kk (rv true [cy P el,(false,[.bool])] l))
   | false=>T.dW P (Instr.lookup t m x false) false [cy P el] (jh _ fun l=>kk (rv false [cy P el] l))
  | _=>T.fail
 | .mapUpdate t m x v=>bQ e m fun m=>bQ e x fun x=>bQ e v fun v=>T.ec P (Instr.mapUpdate t m x v) (kk undef)
 | .insert t m x v=>bQ e m fun m=>bQ e x fun x=>bQ e v fun v=>T.ec P (Instr.mapUpdate t m x v) (kk undef)
 | .mapEntry t m x=>bQ e m fun m=>bQ e x fun x=>match P.underlying t with
  | some (.map _ el)=>T.dW P (Instr.mapEntry t m x) true [cy P el,(false,[.int .i64])] (jh _ fun l=>kk (rv true [cy P el,(false,[.int .i64])] l))
  | _=>T.fail
 | .entryStore t m x v=>bQ e m fun m=>bQ e x fun x=>bQ e v fun v=>T.ec P (Instr.entryStore t m x v) (kk undef)
 | .range t x=>bQ e x fun x=>T.dW P (Instr.range t x) false [(false,[.pointer 0])] fun p=>kk (.pointer p)
 | .next it b=>bQ e it fun it=>match P.underlying o.type with
  | some (.tuple ts)=>match ts.toList with
   | []=>T.next P (Instr.next it b o.type) (H9 b) (kk (.tuple #[.bool false])) (jh _ fun l=>kk (.tuple (.bool true::parts (H9 b) l).toArray))
   | _::ts=>T.next P (Instr.next it b o.type) (ts.map (cy P)) (kk (.tuple #[.bool false])) (jh _ fun l=>kk (.tuple (.bool true::parts (ts.map (cy P)) l).toArray))
  | _=>T.fail
 | .entry it=>bQ e it fun it=>T.dW P (Instr.entry it) true (H9 false) (jh _ fun l=>kk (rv true (H9 false) l))
 | .typeAssert x t d ok=>bQ e x fun x=>match ok with
  | true=>T.dW P (Instr.typeAssert x t d true) true [cy P d,(false,[.bool])] (jh _ fun l=>kk (rv true [cy P d,(false,[.bool])] l))
  | false=>T.dW P (Instr.typeAssert x t d false) false [cy P d] (jh _ fun l=>kk (rv false [cy P d] l))
 | .extract x i=>bQ e x fun v=>match v with
  | .tuple vs=>match vs.toList[i]? with
   | some v=>kk v
   | none=>T.fail
  | _=>T.fail
 | .call c=>match c.callee with
  | .builtin b=>gQ e c.args.toList fun vs=>qy P b c o.type vs kk
  | .value g=>match EW g with
   | true=>bQ e g fun g=>gQ e c.args.toList fun vs=>T.ul P g vs (kq P o.type).1 (kq P o.type).2 (jh _ fun l=>kk (rv (kq P o.type).1 (kq P o.type).2 l))
   | false=>bQ e g fun g=>gQ e c.args.toList fun vs=>match g with
    | .func (.func f) fi ca=>Bz P f (fi.toList++vs++ca.toList) o.type kk
    | .func (.method _) _ _=>T.fail
    | .func (.methodOf _ _) _ _=>T.fail
    | .func (.via _ _ _ _) _ _=>T.fail
    | .func (.yield _) _ _=>T.fail
    | .nilFunc=>T.fail
    | .bool _=>T.fail
    | .int _ _=>T.fail
    | .float _ _=>T.fail
    | .complex _ _ _=>T.fail
    | .string _=>T.fail
    | .pointer _=>T.fail
    | .slice _ _ _=>T.fail
    | .map _=>T.fail
    | .chan _=>T.fail
    | .iface _ _=>T.fail
    | .nilIface=>T.fail
    | .agg _=>T.fail
    | .tuple _=>T.fail
  | .invoke _ _=>T.fail
 | _=>T.fail
def guardOf (ops:Array Oper) (o:Oper):Option (Option Tmp × Bool) :=
 match o.guard with
 | none=>none
 | some (j,want)=>some ((ops[j]?).bind (·.dst),want)
def la (n:Nat) (ops:Array Oper) (o:Oper) (e:Env) (yes no:Env->T):T :=
 match guardOf ops o with
 | none=>yes e
 | some (none,_)=>no e
 | some (some d,want) =>
  match cJ e d with
  | some (.bool b)=>match want with
   | true=>cond b (yes (dO n e (some d) (.bool true))) (no (dO n e (some d) (.bool false)))
   | false=>cond b (no (dO n e (some d) (.bool true))) (yes (dO n e (some d) (.bool false)))
  | some (.tuple _)=>no e
  | _=>T.fail
def En (P:Program) (n:Nat) (ops:Array Oper):List Oper->Env->(Env->T)->T
 | [],e,k=>k e
 | o::rest,e,k=>la n ops o e (fun e=>tR P o e fun v=>En P n ops rest (dO n e o.dst v) k) (fun e=>En P n ops rest (dO n e o.dst undef) k)
def qp (P:Program) (o:Oper):Bool :=
 match o.op with
 | .move _=>true
 | .pick _ _ _=>true
 | .build _ _=>true
 | .nilCheck _=>true
 | .binOp _ t x y _=>qU P t x y
 | .unOp _ _ _=>true
 | .convert s d _=>match P.underlying s,P.underlying d with
  | some (.int _),some (.int _)=>true
  | some .string,some .string=>true
  | _,_=>false
 | .makeInterface _ _=>true
 | .makeFunc _ _ _=>true
 | .slice t _ _ _ none=>match P.underlying t with
  | some .string=>true
  | some (.slice _)=>true
  | _=>false
 | .fieldAddr _ _ _=>true
 | .field _ _ _=>true
 | .indexAddr _ _ _=>true
 | .index t _ _=>match P.underlying t with
  | some .string=>true
  | _=>false
 | .extract _ _=>true
 | .call c=>match c.callee with
  | .builtin .len=>match (c.argTypes[0]?).bind P.underlying with
   | some .string=>true
   | some (.slice _)=>true
   | _=>false
  | .builtin .cap=>match (c.argTypes[0]?).bind P.underlying with
   | some (.slice _)=>true
   | _=>false
  | _=>false
 | _=>false
def zU (o:Oper):Bool :=
 match o.op with
 | .load _ _=>true
 | _=>false
def calm (P:Program) (o:Oper):Bool:=qp P o || zU o
def rW (x:Nat):List Nat->Bool
 | []=>false
 | y::l=>Nat.beq x y || rW x l
def waits (o:Oper):List Nat:=(o.after.toList.filter fun e=>Region.binds .any e).map (·.on)
def wV (D:List Nat) (i:Nat) (o:Oper):Bool:=!rW i D && (waits o).all fun j=>rW j D
def looks (ops : Array Oper) (o : Oper) : List Nat :=
  (o.op.operands.toList.filterMap fun | .tmp t => some t | _ => none) ++
  (match o.guard with
   | some (g, _) => ((ops[g]?).bind (·.dst)).toList
   | none => [])
def lT:Option Nat->Nat->Bool
 | some d,s=>Nat.beq d s
 | none,_=>false
def Gx (P : Program) (ops : Array Oper) (i j : Nat) (x y : Oper) : Bool :=
  match Nat.beq i j with
  | true => (match x.dst with
    | some d => !calm P x || !rW d (looks ops x)
    | none => true)
  | false => (match y.dst with
    | some d => !rW d (looks ops x) || rW j (waits x) || (rW i (waits y) && !calm P y)
    | none => true) &&
   (match x.dst, calm P x with
    | some d, true => !lT y.dst d
    | _, _ => true)
def idx:Nat->List Oper->List (Nat × Oper)
 | _,[]=>[]
 | i,o::l=>(i,o)::idx (i+1) l
def dV (P : Program) (n : Nat) (ops : Array Oper) : Bool :=
  ((idx 0 ops.toList).all fun p => match p.2.dst with
    | some d => Nat.blt d n
    | none => true) && (idx 0 ops.toList).all fun p => (idx 0 ops.toList).all fun q => Gx P ops p.1 q.1 p.2 q.2
abbrev Made:=List (Nat × YC × List YB)
def jI (o:Oper):Made->List (YC × List YB)
 | []=>[]
 | (i,a,l)::m=>bif rW i (waits o) then jI o m else (a,l)::jI o m
def vr (l:List (YC × List YB)) (t:T):T :=
 match l with
 | []=>t
 | p::l=>T.aY (p::l) t
def RP:List T->T
 | []=>T.fail
 | [t]=>t
 | t::ts=>T.all (t::ts)
def qI (P:Program) (t:TypeId) (x:Operand) (e:Env) (kk:YC->List YB->YB->T):T :=
 bQ e x fun v=>match v,cw P t with
  | .pointer p,some true=>bif (eO P 9 t).length==P.cellsOf t then T.bd p fun a=>T.ah a (eO P 9 t) (jh _ fun l=>kk a l (.agg l.toArray)) else T.fail
  | .pointer p,some false=>T.bd p fun a=>T.ah a (cy P t).2 (jh _ fun l=>kk a l (l.headD undef))
  | _,_=>T.fail
def cM (P:Program) (D:List Nat) (c:Bool):List (Nat × Oper)->List (Nat × Oper)
 | []=>[]
 | p::l=>match wV D p.1 p.2 && (calm P p.2==c) with
  | true=>p::cM P D c l
  | false=>cM P D c l
def fD (P:Program) (n:Nat) (ops:Array Oper):Nat->List Nat->Env->Made->(Env->T)->T
 | 0,_,_,_,_=>T.fail
 | fu+1,D,e,m,k =>
  match cM P D true (idx 0 ops.toList) with
  | (i,o)::_ =>
   la n ops o e (fun e=>match o.op with
    | .load t x=>qI P t x e fun a l v=>fD P n ops fu (i::D) (dO n e o.dst v) ((i,a,l)::m) k
    | _=>tR P o e fun v=>fD P n ops fu (i::D) (dO n e o.dst v) m k)
    fun e=>fD P n ops fu (i::D) (dO n e o.dst undef) m k
  | [] =>
   match cM P D false (idx 0 ops.toList) with
   | []=>k e
   | q::qs=>RP ((q::qs).map fun p=>la n ops p.2 e (fun e=>tR P p.2 e fun v=>vr (jI p.2 m) (fD P n ops fu (p.1::D) (dO n e p.2.dst v) m k))
     fun e=>fD P n ops fu (p.1::D) (dO n e p.2.dst undef) m k)
def ui (P:Program) (n:Nat) (_id:Nat) (ops:Array Oper) (e:Env) (k:Env->T):T :=
 match dV P n ops with
 | true=>fD P n ops (ops.size+1) [] e [] k
 | false=>T.fail
def eb:Code->List Nat
 | .region _ ops _=>ops.toList.filterMap (·.dst)
 | .seq a b=>eb a++eb b
 | .cond _ a b=>eb a++eb b
 | .block _ c=>eb c
 | .loop c=>eb c
 | .scope c=>eb c
 | .rangeFunc _ ps a b=>ps.toList++eb a++eb b
 | _=>[]
def ru (x:Nat):List Nat->List Nat
 | []=>[x]
 | y::l=>bif Nat.blt x y then x::y::l else bif Nat.beq x y then y::l else y::ru x l
def iF (l:List Nat):List Nat:=l.foldl (fun acc x=>ru x acc) []
def Ri:YB->TypeDesc
 | .bool _=>.bool
 | .int k _=>.int k
 | .string _=>.string
 | .pointer _=>.pointer 0
 | .slice _ _ _=>.slice 0
 | .map _=>.map 0 0
 | _=>.invalid
def Ko:YB->fx
 | .agg cs=>(true,cs.toList.map Ri)
 | v=>(false,[Ri v])
def live (e:Env):List Nat->List (Nat × YB)
 | []=>[]
 | s::l=>match cJ e s with
  | some v=>(s,v)::live e l
  | none=>live e l
def forget (e:Env) (l:List Nat):Env:=l.map (fun s=>(s,none))++e
def mj (l:List Nat) (vs:List YB):Env:=(l.zip vs).map fun p=>(p.1,some p.2)
def yK (e:Env):List Nat->(List YB->T)->T
 | [],k=>k []
 | s::l,k=>match cJ e s with
  | some v=>yK e l fun vs=>k (v::vs)
  | none=>T.fail
def It (ms:List Nat) (e:Env) (lv:Nat) (body:Env->(Env->T)->T):T :=
 let lvs:=live e (iF ms)
 let ss:=lvs.map (·.1)
 let cs:=lvs.map fun p=>Ko p.2
 T.loop cs (lvs.map (·.2)) (jh (flat cs) fun l=>body (mj ss (parts cs l)++forget e (iF ms)) fun e'=>yK e' ss fun vs=>T.again lv vs)
def jq (l:Nat):Code->Bool
 | .goto l'=>Nat.beq l l'
 | .seq a b=>jq l a || jq l b
 | .cond _ a b=>jq l a || jq l b
 | .block _ c=>jq l c
 | .loop c=>jq l c
 | .scope c=>jq l c
 | .rangeFunc _ _ a b=>jq l a || jq l b
 | _=>false
def labels:Code->List Nat
 | .label l=>[l]
 | .seq a b=>labels a++labels b
 | _=>[]
def A4 (c:Code):Option Nat :=
 (labels c).find? fun l=>match findLabel c l with
  | some r=>jq l r
  | none=>false
def QB:Code->Nat->Code
 | .seq a b,l=>match findLabel a l with
  | some _=>QB a l
  | none=>.seq a (QB b l)
 | _,_=>.skip
def NQ (ss:List Nat) (cs:List fx) (ms:List Nat) (e:Env) (lv:Nat) (first:(Env->T)->T) (after:Env->T):T :=
 T.join cs (first fun e'=>yK e' ss fun vs=>T.again lv vs) (jh (flat cs) fun l=>after (mj ss (parts cs l)++forget e (iF ms)))
def jH:Code->Option Nat
 | .region id _ _=>some id
 | .seq a b=>match jH a with
  | some i=>some i
  | none=>jH b
 | .cond _ a _=>jH a
 | .block _ c=>jH c
 | .loop c=>jH c
 | .scope c=>jH c
 | _=>none
def Hl (cuts:List Nat):Option Nat->Nat->Bool
 | some i,k=>rW (i+k) cuts
 | none,_=>false
def handsOn (P:Program):List Oper->List (Nat × fx)
 | []=>[]
 | [o]=>match o.dst with
  | some d=>[(d,cy P o.type)]
  | none=>[]
 | o::l=>match o.op,o.dst with
  | .assign _,some d=>(d,cy P o.type)::handsOn P l
  | _,_=>handsOn P l
def fv (l:Nat):Code->Bool
 | .label l'=>Nat.beq l l'
 | .seq a _=>fv l a
 | _=>false
def dstsOf (ops:Array Oper):List Nat:=ops.toList.filterMap (·.dst)
mutual
def fH (P:Program) (n:Nat) (cuts:List Nat):Nat->Code->Env->Nat->(Exit->Env->Nat->T)->T
 | 0,_,_,_,_=>T.fail
 | fu+1,c,e,lv,κ =>
  match c with
  | .skip=>κ .normal e lv
  | .label _=>κ .normal e lv
  | .exit i=>κ (.exit i) e lv
  | .goto l=>κ (.goto l) e lv
  | .ret=>κ .ret e lv
  | .seq a b =>
   match Hl cuts (jH b) 1000 with
   | false=>fH P n cuts fu a e lv fun x e' lv'=>match x with
    | .normal=>fH P n cuts fu b e' lv' κ
    | x=>κ x e' lv'
   | true =>
    NQ ((live e (iF (eb a))).map (·.1)) ((live e (iF (eb a))).map fun p=>Ko p.2) (eb a) e lv
     (fun k=>fH P n cuts fu a e (lv+1) fun x e' lv'=>match x with
      | .normal=>k e'
      | x=>κ x e' lv')
     (fun e'=>fH P n cuts fu b e' lv κ)
  | .cond c a b=>match ev e c with
   | some (.bool t)=>cond t (fH P n cuts fu a e lv κ) (fH P n cuts fu b e lv κ)
   | _=>T.fail
  | .block id c=>fH P n cuts fu c e lv fun x e' lv'=>match x with
   | .exit i=>match Nat.beq i id with
    | true=>κ .normal e' lv'
    | false=>κ (.exit i) e' lv'
   | x=>κ x e' lv'
  | .region id ops draw =>
   match Hl cuts (some id) 0 with
   | false=>match draw with
    | false=>En P n ops ops.toList e fun e'=>κ .normal e' lv
    | true=>ui P n id ops e fun e'=>κ .normal e' lv
   | true=>NQ ((handsOn P ops.toList).map (·.1)) ((handsOn P ops.toList).map (·.2)) (dstsOf ops) e lv
     (fun k=>match draw with
      | false=>En P n ops ops.toList e k
      | true=>ui P n id ops e k)
     (fun e'=>κ .normal e' lv)
  | .loop c=>It (eb c) e lv fun e' k=>fH P n cuts fu c e' (lv+1) fun x e'' lv'=>match x with
   | .normal=>k e''
   | x=>κ x e'' lv'
  | .scope c=>match A4 c with
   | none=>lx P n cuts fu c c e lv none (fun _=>T.fail) κ
   | some l=>match findLabel c l with
    | none=>T.fail
    | some r=>wN P n cuts fu c c l r e lv κ
  | _=>T.fail
def lx (P:Program) (n:Nat) (cuts:List Nat):Nat->Code->Code->Env->Nat->Option Nat->(Env->T)->(Exit->Env->Nat->T)->T
 | 0,_,_,_,_,_,_,_=>T.fail
 | fu+1,c,r,e,lv,back,k,κ=>fH P n cuts fu r e lv fun x e' lv'=>match x with
  | .goto l=>match lT back l with
   | true=>k e'
   | false=>match findLabel c l with
    | some r'=>lx P n cuts fu c r' e' lv' back k κ
    | none=>κ (.goto l) e' lv'
  | x=>κ x e' lv'
def wN (P:Program) (n:Nat) (cuts:List Nat):Nat->Code->Code->Nat->Code->Env->Nat->(Exit->Env->Nat->T)->T
 | 0,_,_,_,_,_,_,_=>T.fail
 | fu+1,c,t,l,r,e,lv,κ =>
  match fv l t with
  | true=>It (eb c) e lv fun e'' k=>lx P n cuts fu c r e'' (lv+1) (some l) k κ
  | false=>match t with
   | .seq a b=>match findLabel a l with
    | some _=>T.fail
    | none=>fH P n cuts fu a e lv fun x e' lv'=>match x with
     | .normal=>wN P n cuts fu c b l r e' lv' κ
     | .goto _=>T.fail
     | x=>κ x e' lv'
   | _=>T.fail
end
def vH (P:Program):List ResultVar->Env->(List YB->T)->T
 | [],_,k=>k []
 | .tmp t::rs,e,k=>bQ e (.tmp t) fun v=>vH P rs e fun l=>k (v::l)
 | .cell a t::rs,e,k=>bQ e (.tmp a) fun p=>match p,cw P t with
  | .pointer p,some true=>bif (eO P 9 t).length==P.cellsOf t then T.bd p fun a=>T.ah a (eO P 9 t) (jh _ fun l=>vH P rs e fun l'=>k (.agg l.toArray::l')) else T.fail
  | .pointer p,some false=>T.bd p fun a=>T.ah a (cy P t).2 (jh _ fun l=>vH P rs e fun l'=>k (l.headD undef::l'))
  | _,_=>T.fail
def one (l:List YB):YB :=
 match l with
 | [v]=>v
 | l=>.tuple l.toArray
def tj:Nat->List YB->Env
 | _,[]=>[]
 | i,v::vs=>(i,some v)::tj (i+1) vs
def bI (P:Program) (cuts:List Nat) (fn:Func) (args:List YB):T :=
 match fn.body with
 | none=>T.fail
 | some c=>fH P fn.ntmps cuts 100000 c (tj 0 args) 0 fun x e _=>match x with
  | .normal=>vH P fn.results.toList e fun l=>T.ret (one l)
  | .ret=>vH P fn.results.toList e fun l=>T.ret (one l)
  | _=>T.fail
end Go.Sx
