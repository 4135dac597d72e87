/- A framework of our own, part X: from code to trees. No condition. -/
import Derived.Test.YtlpcncdglfjnoaaGreatDoorSxT
set_option linter.all false
set_option maxHeartbeats 4000000
namespace Go.Sx
abbrev Env:=List (Nat × Option ZB)
def cJ:Env->Nat->Option ZB
 | [],_=>none
 | (s,v)::e,t=>bif Nat.beq s t then v else cJ e t
def dO (n:Nat) (e:Env) (dst:Option Tmp) (v:ZB):Env :=
 match dst with
 | none=>e
 | some d=>bif Nat.blt d n then (d,some v)::e else e
def ev (e:Env):Operand->Option ZB
 | .tmp t=>cJ e t
 | .const v=>some v
 | .global g=>some (.pointer (some ⟨g,0,none⟩))
 | .func f=>some (.func (.func f) #[] #[])
namespace T
def bk (p:Option ZC) (k:ZC->T):T :=
 match p with
 | some a=>k a
 | none=>T.fail
end T
def eQ (P:Program):Nat->TypeId->List TypeDesc
 | 0,_=>[.invalid]
 | n+1,t =>
  match P.underlying t with
  | some (.struct fs)=>fs.toList.flatMap fun f=>eQ P n f.type
  | some (.array k e)=>(List.replicate k (eQ P n e)).flatten
  | some d=>[d]
  | none=>[.invalid]
def ct (P:Program) (t:TypeId):fq :=
 match P.underlying t with
 | some (.struct _)=>(true,eQ P 9 t)
 | some (.array _ _)=>(true,eQ P 9 t)
 | some d=>(false,[d])
 | none=>(false,[.invalid])
def kq (P:Program) (t:TypeId):Bool × List fq :=
 match P.underlying t with
 | some (.tuple ts)=>(true,ts.toList.map (ct P))
 | _=>(false,[ct P t])
def H2 (b:Bool):List fq :=
 match b with
 | true=>[(false,[.int .i64]),(false,[.int .i32])]
 | false=>[(false,[.string]),(false,[.bool])]
def bP (e:Env) (x:Operand) (k:ZB->T):T :=
 match ev e x with
 | some v=>k v
 | none=>T.fail
def gT (e:Env):List Operand->(List ZB->T)->T
 | [],k=>k []
 | x::xs,k=>bP e x fun v=>gT e xs fun l=>k (v::l)
def cK (s:ZA) (n:Int):Int:=((s.data.toList.getD n.toNat 0).toNat:Nat)
def K0 (op:BinOp) (k:IntKind) (x y:Int):Int :=
 match op with
 | .and=>k.wrap (BitVec.ofInt k.bits x &&& BitVec.ofInt k.bits y).toNat
 | .or=>k.wrap (BitVec.ofInt k.bits x ||| BitVec.ofInt k.bits y).toNat
 | .xor=>k.wrap (BitVec.ofInt k.bits x ^^^ BitVec.ofInt k.bits y).toNat
 | _=>k.wrap (BitVec.ofInt k.bits x &&& ~~~ BitVec.ofInt k.bits y).toNat
def FW (op:BinOp) (k:IntKind) (m n:Int) (kk:ZB->T):T :=
 match op with
 | .add=>kk (.int k (k.wrap (m+n)))
 | .sub=>kk (.int k (k.wrap (m-n)))
 | .mul=>kk (.int k (k.wrap (m*n)))
 | .quo=>T.need (n≠0) (kk (.int k (k.wrap (m.tdiv n))))
 | .rem=>T.need (n≠0) (kk (.int k (m.tmod n)))
 | .eql=>kk (.bool (m==n))
 | .neq=>kk (.bool (m != n))
 | .lss=>kk (.bool (decide (m<n)))
 | .leq=>kk (.bool (decide (m<=n)))
 | .gtr=>kk (.bool (decide (m>n)))
 | .geq=>kk (.bool (decide (m>=n)))
 | .and=>kk (.int k (K0 .and k m n))
 | .or=>kk (.int k (K0 .or k m n))
 | .xor=>kk (.int k (K0 .xor k m n))
 | .andNot=>kk (.int k (K0 .andNot k m n))
 | _=>T.fail
def yJ (op:BinOp) (k:IntKind) (m n:Int) (kk:ZB->T):T :=
 match op with
 | .shl=>T.need (0<=n) (kk (.int k (k.wrap (m*2^(min n.toNat k.bits)))))
 | .shr=>T.need (0<=n) (kk (.int k (m.fdiv (2^(min n.toNat k.bits)))))
 | _=>T.fail
def Gb (op:BinOp) (x y:ZA) (kk:ZB->T):T :=
 match op with
 | .add=>T.need (((x.size+y.size:Nat):Int)<=IntKind.i64.max) (kk (.string (x++y)))
 | .eql=>kk (.bool (x.toList==y.toList))
 | .neq=>kk (.bool !(x.toList==y.toList))
 | .lss=>kk (.bool (Op.bytesLess x.toList y.toList))
 | .leq=>kk (.bool (Op.bytesLess x.toList y.toList || x.toList==y.toList))
 | .gtr=>kk (.bool !(Op.bytesLess x.toList y.toList || x.toList==y.toList))
 | .geq=>kk (.bool !(Op.bytesLess x.toList y.toList))
 | _=>T.fail
def lZ:BinOp->Bool
 | .shl=>true
 | .shr=>true
 | _=>false
def isNil (x:Operand):Bool :=
 match x with
 | .const (.pointer none)=>true
 | .const (.slice none 0 0)=>true
 | .const (.map none)=>true
 | _=>false
def iF (op:BinOp) (t:TypeId) (x y:Operand) (a b:ZB):Sem ZB:=do eqGuard op t x y a b; binOp op t a b
def Pc (P:Program) (op:BinOp) (t:TypeId) (x y:Operand) (a b:ZB) (kk:ZB->T):T :=
 T.dY P (iF op t x y a b) false [(false,[.bool])] fun r=>kk (.bool r)
def asked (op:BinOp) (b:Bool) (kk:ZB->T) (other:T):T :=
 match op with
 | .eql=>kk (.bool b)
 | .neq=>kk (.bool !b)
 | _=>other
def qZ (P:Program) (t:TypeId) (x y:Operand):Bool :=
 match P.underlying t with
 | some (.int _)=>true
 | some .string=>true
 | some .bool=>true
 | some (.pointer _)=>isNil y
 | some (.slice _)=>isNil y
 | some (.map _ _)=>isNil y
 | _=>false
def sy (P:Program) (op:BinOp) (t:TypeId) (a b:ZB) (kk:ZB->T):T :=
 match a,b with
 | .int k m,.int k' n =>
  match lZ op with
  | true=>yJ op k m n kk
  | false=>match decide (k=k') with
   | true=>FW op k m n kk
   | false=>T.fail
 | .string m,.string n=>Gb op m n kk
 | .bool m,.bool n =>
  match P.underlying t with
  | some .bool=>asked op (m==n) kk T.fail
  | _=>T.fail
 | .pointer p,.pointer _ =>
  match P.underlying t with
  | some (.pointer _)=>asked op p.isNone kk T.fail
  | _=>T.fail
 | .slice p _ _,.slice _ _ _ =>
  match P.underlying t with
  | some (.slice _)=>asked op p.isNone kk T.fail
  | _=>T.fail
 | .map p,.map _ =>
  match P.underlying t with
  | some (.map _ _)=>asked op p.isNone kk T.fail
  | _=>T.fail
 | _,_=>T.fail
def Cc (P:Program) (op:BinOp) (t:TypeId) (x y:Operand) (a b:ZB) (kk:ZB->T):T :=
 match qZ P t x y with
 | true=>sy P op t a b kk
 | false=>Pc P op t x y a b kk
def RT (op:UnOp) (a:ZB) (kk:ZB->T):T :=
 match op,a with
 | .neg,.int k n=>kk (.int k (k.wrap (0-n)))
 | .xor,.int k n=>kk (.int k (K0 .xor k (if k.signed then -1 else k.max) n))
 | .not,.bool b=>kk (.bool !b)
 | _,_=>T.fail
def xz (P:Program) (src dst:TypeId) (a:ZB) (kk:ZB->T):T :=
 match P.underlying src,P.underlying dst,a with
 | some (.int _),some (.int k),.int _ n=>kk (.int k (k.wrap n))
 | some .string,some .string,.string s=>kk (.string s)
 | some .string,some .string,_=>T.fail
 | _,some (.slice _),_=>T.dY P (convert src dst a) false [(false,[.slice 0])] fun p l c=>kk (.slice p l c)
 | _,some .string,_=>T.dY P (convert src dst a) false [(false,[.string])] fun s=>kk (.string s)
 | _,_,_=>T.fail
def jR:Option ZB->Int
 | some (.int _ n)=>n
 | _=>0
def eb:Option ZB->Bool
 | some (.int _ _)=>true
 | none=>true
 | _=>false
def jU (d:Int):Option ZB->Int
 | some (.int _ n)=>n
 | _=>d
def mz (P:Program) (t:TypeId):Bool:=(P.info? t).isSome
def iw (P:Program) (t:TypeId) (a:ZB) (lo hi mx:Option ZB) (kk:ZB->T):T :=
 match eb lo && eb hi && eb mx with
 | false=>T.fail
 | true =>
  match P.underlying t with
  | some .string=>match a,mx with
   | .string s,none =>
    T.need (0<=jR lo/\jR lo<=jU s.size hi/\jU s.size hi<=s.size) (kk (.string (s.extract (jR lo).toNat (jU s.size hi).toNat)))
   | _,_=>T.fail
  | some (.slice e)=>match mx with
   | some _=>T.dY P (Instr.sliceAt t a lo hi mx) false [(false,[.slice 0])] fun p l c=>kk (.slice p l c)
   | none=>match a with
    | .slice p len cap =>
     match mz P e with
     | false=>T.fail
     | true=>T.need (0<=jR lo/\jR lo<=jU len hi/\jU len hi<=cap) (kk (.slice (if cap=(jR lo).toNat then p else p.map (·.add ((jR lo).toNat*P.cellsOf e))) ((jU len hi).toNat-(jR lo).toNat) (cap-(jR lo).toNat)))
    | _=>T.fail
  | _=>T.dY P (Instr.sliceAt t a lo hi mx) false [(false,[.slice 0])] fun p l c=>kk (.slice p l c)
def sJ (P:Program) (t:TypeId) (cs:List ZB) (off:Nat) (kk:ZB->T):T :=
 match P.underlying t with
 | some (.struct _)=>kk (.agg ((cs.drop off).take (P.cellsOf t)).toArray)
 | some (.array _ _)=>kk (.agg ((cs.drop off).take (P.cellsOf t)).toArray)
 | some _=>match cs[off]? with
  | some v=>kk v
  | none=>T.fail
 | none=>T.fail
def cv (P:Program) (t:TypeId):Option Bool :=
 match P.underlying t with
 | some (.struct _)=>some true
 | some (.array _ _)=>some true
 | some _=>some false
 | none=>none
def ja:ZB->List ZB
 | .agg cs=>cs.toList
 | _=>[]
def eM:ZB->Bool
 | .agg _=>true
 | _=>false
def ft (P:Program) (f:FuncId):Bool :=
 match P.funcs[f]? with
 | some fn => fn.body.isSome && !(fn.name == "runtime.NumGoroutine")
 | none=>false
def EG:Operand->Bool
 | .tmp _=>true
 | .const _=>false
 | .global _=>false
 | .func _=>false
def G7 (f:FuncId) (args:Array ZB):Sem ZB:=do
 match <- callFunc f args with
 | .value v=>pure v
 | _ => stuck "no value"
def AU (P:Program) (f:FuncId) (args:List ZB) (t:TypeId) (kk:ZB->T):T :=
 match ft P f with
 | true=>T.call P f args (kq P t).1 (kq P t).2 (jd _ fun l=>kk (rv (kq P t).1 (kq P t).2 l))
 | false=>T.dY P (G7 f args.toArray) (kq P t).1 (kq P t).2 (jd _ fun l=>kk (rv (kq P t).1 (kq P t).2 l))
def yP (P:Program) (c:Call) (t:TypeId) (args:List ZB) (kk:ZB->T):T :=
 match (c.argTypes[0]?).bind P.underlying with
 | some .string=>match args with
  | [.string s]=>kk (.int .i64 s.size)
  | _=>T.fail
 | some (.slice _)=>match args with
  | [.slice _ n _]=>kk (.int .i64 n)
  | _=>T.fail
 | _=>T.dY P (Builtin.len_ c.argTypes t args.toArray) false [(false,[.int .i64])] fun n=>kk (.int .i64 n)
def Jd (P:Program) (c:Call) (args:List ZB) (kk:ZB->T):T :=
 match (c.argTypes[0]?).bind P.underlying with
 | some (.slice _)=>match args with
  | [.slice _ _ n]=>kk (.int .i64 n)
  | _=>T.fail
 | _=>T.fail
def qS (P:Program) (b:Builtin) (c:Call) (t:TypeId) (args:List ZB) (kk:ZB->T):T :=
 match b,args with
 | .len,_=>yP P c t args kk
 | .cap,_=>Jd P c args kk
 | .append,_=>T.dY P (Builtin.append_ c.argTypes t args.toArray) false [(false,[.slice 0])] fun p l cp=>kk (.slice p l cp)
 | .copy,_=>T.dY P (Builtin.copy_ c.argTypes t args.toArray) false [(false,[.int .i64])] fun n=>kk (.int .i64 n)
 | .min,_=>T.dY P (Builtin.min_ c.argTypes t args.toArray) false [ct P t] (jd _ fun l=>kk (rv false [ct P t] l))
 | .max,_=>T.dY P (Builtin.max_ c.argTypes t args.toArray) false [ct P t] (jd _ fun l=>kk (rv false [ct P t] l))
 | .delete,_=>T.dY P (Builtin.delete_ c.argTypes t args.toArray) true [] (kk (.tuple #[]))
 | .unsafeString,_=>T.dY P (Builtin.unsafeString_ c.argTypes t args.toArray) false [ct P t] (jd _ fun l=>kk (rv false [ct P t] l))
 | .unsafeSliceData,_=>T.dY P (Builtin.unsafeSliceData_ c.argTypes t args.toArray) false [ct P t] (jd _ fun l=>kk (rv false [ct P t] l))
 | _,_=>T.fail
def TM (P:Program) (t:TypeId) (lo hi mx:Option Operand) (a:ZB) (vs:List ZB) (kk:ZB->T):T :=
 match lo,hi,mx,vs with
 | none,none,none,[]=>iw P t a none none none kk
 | some _,none,none,[l]=>iw P t a (some l) none none kk
 | none,some _,none,[h]=>iw P t a none (some h) none kk
 | some _,some _,none,[l,h]=>iw P t a (some l) (some h) none kk
 | some _,some _,some _,[l,h,m]=>iw P t a (some l) (some h) (some m) kk
 | none,some _,some _,[h,m]=>iw P t a none (some h) (some m) kk
 | _,_,_,_=>T.fail
def xA (P:Program) (t:TypeId) (v i:ZB) (kk:ZB->T):T :=
 match v,i,P.underlying t with
 | .slice p len _,.int _ n,some (.slice el)=>bif !mz P el then T.fail else T.need (0<=n/\n<len) (T.bk p fun a=>kk (.pointer (some (a.add (n.toNat*P.cellsOf el)))))
 | .pointer p,.int _ n,some (.array len el)=>bif !mz P el then T.fail else T.need (0<=n/\n<len) (T.bk p fun a=>kk (.pointer (some (a.add (n.toNat*P.cellsOf el)))))
 | _,_,_=>T.fail
def FP (P:Program) (t:TypeId) (v i:ZB) (kk:ZB->T):T :=
 match v,i,P.underlying t with
 | .string s,.int _ n,some .string=>T.need (0<=n/\n<s.size) (kk (.int .u8 (cK s n)))
 | v,i,some (.array len el)=>T.dY P (Instr.index t v i) false [ct P el] (jd _ fun l=>kk (rv false [ct P el] l))
 | _,_,_=>T.fail
def rZ (xs:List ZB):Nat->List ZB->List ZB
 | _,[]=>xs
 | i,v::vs=>rZ (xs.set i v) (i+1) vs
def ff (place:Nat->Option (Nat × Nat)) (cells:List ZB):List (Nat × List ZB)->Option (List ZB)
 | []=>some cells
 | (i,l)::rest =>
  match place i with
  | none=>none
  | some (off,size)=>bif !(Nat.beq l.length size) || Nat.blt cells.length (off+l.length) then none else ff place (rZ cells off l) rest
def eZ (agg:Nat->Option Bool):List (Nat × ZB)->(List (Nat × List ZB)->T)->T
 | [],k=>k []
 | (i,v)::l,k =>
  match agg i with
  | some true=>cond (eM v) (eZ agg l fun r=>k ((i,ja v)::r)) T.fail
  | some false=>cond (eM v) T.fail (eZ agg l fun r=>k ((i,[v])::r))
  | none=>T.fail
def tQ (P:Program) (o:Oper) (e:Env) (kk:ZB->T):T :=
 match o.op with
 | .move x=>bP e x kk
 | .assign x=>bP e x kk
 | .pick c a b=>bP e c fun c=>match c with
  | .bool b'=>cond b' (bP e a kk) (bP e b kk)
  | _=>T.fail
 | .alloc t=>match (P.info? t).bind (·.zero) with
  | some z=>T.new z.cells.toList t fun a=>kk (.pointer (some a))
  | none=>T.fail
 | .box t x=>bP e x fun v=>match cv P t with
  | some true=>cond (eM v) (T.new (ja v) t fun a=>kk (.pointer (some a))) T.fail
  | some false=>cond (eM v) T.fail (T.new [v] t fun a=>kk (.pointer (some a)))
  | none=>T.fail
 | .build t ps=>gT e (ps.toList.map (·.2)) fun vs=>match P.underlying t,(P.info? t).bind (·.zero) with
  | some (.struct fs),some z =>
   bif !(fs.all fun f=>mz P f.type) then T.fail else eZ (fun i=>(fs[i]?).bind fun f=>cv P f.type) ((ps.toList.map (·.1)).zip vs) fun ls=>match ff (((fs.map fun f=>(f.offset,P.cellsOf f.type)))[·]?) z.cells.toList ls with
   | some cs=>kk (.agg cs.toArray)
   | none=>T.fail
  | some (.array _ el),some z =>
   bif !mz P el then T.fail else eZ (fun _=>cv P el) ((ps.toList.map (·.1)).zip vs) fun ls=>match ff (fun i=>some (i*P.cellsOf el,P.cellsOf el)) z.cells.toList ls with
   | some cs=>kk (.agg cs.toArray)
   | none=>T.fail
  | _,_=>T.fail
 | .buildSlice t len ps=>gT e (ps.toList.map (·.2)) fun vs =>
  T.dY P (Instr.buildSlice t len ((ps.toList.map (·.1)).zip vs).toArray) false [(false,[.slice 0])] fun p l c=>kk (.slice p l c)
 | .load t x=>bP e x fun v=>match v,cv P t with
  | .pointer p,some true=>bif (eQ P 9 t).length==P.cellsOf t then T.bk p fun a=>T.ah a (eQ P 9 t) (jd _ fun l=>kk (.agg l.toArray)) else T.fail
  | .pointer p,some false=>T.bk p fun a=>T.ah a (ct P t).2 (jd _ fun l=>kk (l.headD undef))
  | _,_=>T.fail
 | .store t x y=>bP e x fun p=>bP e y fun v=>match p,cv P t with
  | .pointer p,some true=>cond (eM v) (bif (ja v).length==P.cellsOf t then T.bk p fun a=>T.aC a (ja v) (kk undef) else T.fail) T.fail
  | .pointer p,some false=>bif P.cellsOf t==1 then cond (eM v) T.fail (T.bk p fun a=>T.aC a [v] (kk undef)) else T.fail
  | _,_=>T.fail
 | .nilCheck x=>bP e x fun v=>match v with
  | .pointer p=>T.bk p fun a=>kk (.pointer (some a))
  | .func (.func f) fi ca=>kk (.func (.func f) fi ca)
  | .iface t v=>kk (.iface t v)
  | _=>T.fail
 | .binOp op t x y _=>bP e x fun a=>bP e y fun b=>Cc P op t x y a b kk
 | .unOp op _ x=>bP e x fun a=>RT op a kk
 | .convert s d x=>bP e x fun a=>xz P s d a kk
 | .makeInterface t x=>bP e x fun a=>match P.underlying t with
  | some (.interface _)=>T.fail
  | some _=>kk (.iface t a)
  | none=>T.fail
 | .makeFunc fn fi ca=>gT e fi.toList fun fi=>gT e ca.toList fun ca=>kk (.func fn fi.toArray ca.toArray)
 | .makeMap t none=>T.dY P (Instr.makeMap t none) false [(false,[.map 0 0])] fun r=>kk (.map r)
 | .makeSlice t l c=>bP e l fun l=>bP e c fun c=>T.dY P (Instr.makeSlice t l c) false [(false,[.slice 0])] fun p l c=>kk (.slice p l c)
 | .slice t x lo hi mx=>bP e x fun a=>gT e (lo.toList++hi.toList++mx.toList) fun vs=>TM P t lo hi mx a vs kk
 | .fieldAddr s x f=>bP e x fun v=>match v,P.underlying s with
  | .pointer p,some (.struct fs)=>match fs[f]? with
   | some fd=>match P.cellsOf fd.type with
    | 0=>T.fail
    | _+1=>T.bk p fun a=>kk (.pointer (some (a.add fd.offset)))
   | none=>T.fail
  | _,_=>T.fail
 | .field s x f=>bP e x fun v=>match v,P.underlying s with
  | .agg cs,some (.struct fs)=>match fs[f]? with
   | some fd=>sJ P fd.type cs.toList fd.offset kk
   | none=>T.fail
  | _,_=>T.fail
 | .indexAddr t x i=>bP e x fun v=>bP e i fun i=>xA P t v i kk
 | .index t x i=>bP e x fun v=>bP e i fun i=>FP P t v i kk
 | .lookup t m x ok=>bP e m fun m=>bP e x fun x=>match P.underlying t with
  | some (.map _ el)=>match ok with
   | true=>T.dY P (Instr.lookup t m x true) true [ct P el,(false,[.bool])] (jd _ fun l=>kk (rv true [ct P el,(false,[.bool])] l))
   | false=>T.dY P (Instr.lookup t m x false) false [ct P el] (jd _ fun l=>kk (rv false [ct P el] l))
  | _=>T.fail
 | .mapUpdate t m x v=>bP e m fun m=>bP e x fun x=>bP e v fun v=>T.ec P (Instr.mapUpdate t m x v) (kk undef)
 | .insert t m x v=>bP e m fun m=>bP e x fun x=>bP e v fun v=>T.ec P (Instr.mapUpdate t m x v) (kk undef)
 | .mapEntry t m x=>bP e m fun m=>bP e x fun x=>match P.underlying t with
  | some (.map _ el)=>T.dY P (Instr.mapEntry t m x) true [ct P el,(false,[.int .i64])] (jd _ fun l=>kk (rv true [ct P el,(false,[.int .i64])] l))
  | _=>T.fail
 | .entryStore t m x v=>bP e m fun m=>bP e x fun x=>bP e v fun v=>T.ec P (Instr.entryStore t m x v) (kk undef)
 | .range t x=>bP e x fun x=>T.dY P (Instr.range t x) false [(false,[.pointer 0])] fun p=>kk (.pointer p)
 | .next it b=>bP e it fun it=>match P.underlying o.type with
  | some (.tuple ts)=>match ts.toList with
   | []=>T.next P (Instr.next it b o.type) (H2 b) (kk (.tuple #[.bool false])) (jd _ fun l=>kk (.tuple (.bool true::parts (H2 b) l).toArray))
   | _::ts=>T.next P (Instr.next it b o.type) (ts.map (ct P)) (kk (.tuple #[.bool false])) (jd _ fun l=>kk (.tuple (.bool true::parts (ts.map (ct P)) l).toArray))
  | _=>T.fail
 | .entry it=>bP e it fun it=>T.dY P (Instr.entry it) true (H2 false) (jd _ fun l=>kk (rv true (H2 false) l))
 | .typeAssert x t d ok=>bP e x fun x=>match ok with
  | true=>T.dY P (Instr.typeAssert x t d true) true [ct P d,(false,[.bool])] (jd _ fun l=>kk (rv true [ct P d,(false,[.bool])] l))
  | false=>T.dY P (Instr.typeAssert x t d false) false [ct P d] (jd _ fun l=>kk (rv false [ct P d] l))
 | .extract x i=>bP e x fun v=>match v with
  | .tuple vs=>match vs.toList[i]? with
   | some v=>kk v
   | none=>T.fail
  | _=>T.fail
 | .call c=>match c.callee with
  | .builtin b=>gT e c.args.toList fun vs=>qS P b c o.type vs kk
  | .value g=>match EG g with
   | true=>bP e g fun g=>gT e c.args.toList fun vs=>T.vA P g vs (kq P o.type).1 (kq P o.type).2 (jd _ fun l=>kk (rv (kq P o.type).1 (kq P o.type).2 l))
   | false=>bP e g fun g=>gT e c.args.toList fun vs=>match g with
    | .func (.func f) fi ca=>AU P f (fi.toList++vs++ca.toList) o.type kk
    | .func (.method _) _ _=>T.fail
    | .func (.methodOf _ _) _ _=>T.fail
    | .func (.via _ _ _ _) _ _=>T.fail
    | .func (.yield _) _ _=>T.fail
    | .nilFunc=>T.fail
    | .bool _=>T.fail
    | .int _ _=>T.fail
    | .float _ _=>T.fail
    | .complex _ _ _=>T.fail
    | .string _=>T.fail
    | .pointer _=>T.fail
    | .slice _ _ _=>T.fail
    | .map _=>T.fail
    | .chan _=>T.fail
    | .iface _ _=>T.fail
    | .nilIface=>T.fail
    | .agg _=>T.fail
    | .tuple _=>T.fail
  | .invoke _ _=>T.fail
 | _=>T.fail
def guardOf (ops:Array Oper) (o:Oper):Option (Option Tmp × Bool) :=
 match o.guard with
 | none=>none
 | some (j,want)=>some ((ops[j]?).bind (·.dst),want)
def kZ (n:Nat) (ops:Array Oper) (o:Oper) (e:Env) (yes no:Env->T):T :=
 match guardOf ops o with
 | none=>yes e
 | some (none,_)=>no e
 | some (some d,want) =>
  match cJ e d with
  | some (.bool b)=>match want with
   | true=>cond b (yes (dO n e (some d) (.bool true))) (no (dO n e (some d) (.bool false)))
   | false=>cond b (no (dO n e (some d) (.bool true))) (yes (dO n e (some d) (.bool false)))
  | some (.tuple _)=>no e
  | _=>T.fail
def Ep (P:Program) (n:Nat) (ops:Array Oper):List Oper->Env->(Env->T)->T
 | [],e,k=>k e
 | o::rest,e,k=>kZ n ops o e (fun e=>tQ P o e fun v=>Ep P n ops rest (dO n e o.dst v) k) (fun e=>Ep P n ops rest (dO n e o.dst undef) k)
def qK (P:Program) (o:Oper):Bool :=
 match o.op with
 | .move _=>true
 | .pick _ _ _=>true
 | .build _ _=>true
 | .nilCheck _=>true
 | .binOp _ t x y _=>qZ P t x y
 | .unOp _ _ _=>true
 | .convert s d _=>match P.underlying s,P.underlying d with
  | some (.int _),some (.int _)=>true
  | some .string,some .string=>true
  | _,_=>false
 | .makeInterface _ _=>true
 | .makeFunc _ _ _=>true
 | .slice t _ _ _ none=>match P.underlying t with
  | some .string=>true
  | some (.slice _)=>true
  | _=>false
 | .fieldAddr _ _ _=>true
 | .field _ _ _=>true
 | .indexAddr _ _ _=>true
 | .index t _ _=>match P.underlying t with
  | some .string=>true
  | _=>false
 | .extract _ _=>true
 | .call c=>match c.callee with
  | .builtin .len=>match (c.argTypes[0]?).bind P.underlying with
   | some .string=>true
   | some (.slice _)=>true
   | _=>false
  | .builtin .cap=>match (c.argTypes[0]?).bind P.underlying with
   | some (.slice _)=>true
   | _=>false
  | _=>false
 | _=>false
def zg (o:Oper):Bool :=
 match o.op with
 | .load _ _=>true
 | _=>false
def calm (P:Program) (o:Oper):Bool:=qK P o || zg o
def r6 (x:Nat):List Nat->Bool
 | []=>false
 | y::l=>Nat.beq x y || r6 x l
def waits (o:Oper):List Nat:=(o.after.toList.filter fun e=>Region.binds .any e).map (·.on)
def wN (D:List Nat) (i:Nat) (o:Oper):Bool:=!r6 i D && (waits o).all fun j=>r6 j D
def looks (ops : Array Oper) (o : Oper) : List Nat :=
  (o.op.operands.toList.filterMap fun | .tmp t => some t | _ => none) ++
  (match o.guard with
   | some (g, _) => ((ops[g]?).bind (·.dst)).toList
   | none => [])
def lH:Option Nat->Nat->Bool
 | some d,s=>Nat.beq d s
 | none,_=>false
def FU (P : Program) (ops : Array Oper) (i j : Nat) (x y : Oper) : Bool :=
  match Nat.beq i j with
  | true => (match x.dst with
    | some d => !calm P x || !r6 d (looks ops x)
    | none => true)
  | false => (match y.dst with
    | some d => !r6 d (looks ops x) || r6 j (waits x) || (r6 i (waits y) && !calm P y)
    | none => true) &&
   (match x.dst, calm P x with
    | some d, true => !lH y.dst d
    | _, _ => true)
def idx:Nat->List Oper->List (Nat × Oper)
 | _,[]=>[]
 | i,o::l=>(i,o)::idx (i+1) l
def dW (P : Program) (n : Nat) (ops : Array Oper) : Bool :=
  ((idx 0 ops.toList).all fun p => match p.2.dst with
    | some d => Nat.blt d n
    | none => true) && (idx 0 ops.toList).all fun p => (idx 0 ops.toList).all fun q => FU P ops p.1 q.1 p.2 q.2
abbrev Made:=List (Nat × ZC × List ZB)
def jE (o:Oper):Made->List (ZC × List ZB)
 | []=>[]
 | (i,a,l)::m=>bif r6 i (waits o) then jE o m else (a,l)::jE o m
def uq (l:List (ZC × List ZB)) (t:T):T :=
 match l with
 | []=>t
 | p::l=>T.bf (p::l) t
def Te:List T->T
 | []=>T.fail
 | [t]=>t
 | t::ts=>T.all (t::ts)
def qT (P:Program) (t:TypeId) (x:Operand) (e:Env) (kk:ZC->List ZB->ZB->T):T :=
 bP e x fun v=>match v,cv P t with
  | .pointer p,some true=>bif (eQ P 9 t).length==P.cellsOf t then T.bk p fun a=>T.ah a (eQ P 9 t) (jd _ fun l=>kk a l (.agg l.toArray)) else T.fail
  | .pointer p,some false=>T.bk p fun a=>T.ah a (ct P t).2 (jd _ fun l=>kk a l (l.headD undef))
  | _,_=>T.fail
def cO (P:Program) (D:List Nat) (c:Bool):List (Nat × Oper)->List (Nat × Oper)
 | []=>[]
 | p::l=>match wN D p.1 p.2 && (calm P p.2==c) with
  | true=>p::cO P D c l
  | false=>cO P D c l
def fF (P:Program) (n:Nat) (ops:Array Oper):Nat->List Nat->Env->Made->(Env->T)->T
 | 0,_,_,_,_=>T.fail
 | fu+1,D,e,m,k =>
  match cO P D true (idx 0 ops.toList) with
  | (i,o)::_ =>
   kZ n ops o e (fun e=>match o.op with
    | .load t x=>qT P t x e fun a l v=>fF P n ops fu (i::D) (dO n e o.dst v) ((i,a,l)::m) k
    | _=>tQ P o e fun v=>fF P n ops fu (i::D) (dO n e o.dst v) m k)
    fun e=>fF P n ops fu (i::D) (dO n e o.dst undef) m k
  | [] =>
   match cO P D false (idx 0 ops.toList) with
   | []=>k e
   | q::qs=>Te ((q::qs).map fun p=>kZ n ops p.2 e (fun e=>tQ P p.2 e fun v=>uq (jE p.2 m) (fF P n ops fu (p.1::D) (dO n e p.2.dst v) m k))
     fun e=>fF P n ops fu (p.1::D) (dO n e p.2.dst undef) m k)
def uO (P:Program) (n:Nat) (_id:Nat) (ops:Array Oper) (e:Env) (k:Env->T):T :=
 match dW P n ops with
 | true=>fF P n ops (ops.size+1) [] e [] k
 | false=>T.fail
def dZ:Code->List Nat
 | .region _ ops _=>ops.toList.filterMap (·.dst)
 | .seq a b=>dZ a++dZ b
 | .cond _ a b=>dZ a++dZ b
 | .block _ c=>dZ c
 | .loop c=>dZ c
 | .scope c=>dZ c
 | .rangeFunc _ ps a b=>ps.toList++dZ a++dZ b
 | _=>[]
def rU (x:Nat):List Nat->List Nat
 | []=>[x]
 | y::l=>bif Nat.blt x y then x::y::l else bif Nat.beq x y then y::l else y::rU x l
def iC (l:List Nat):List Nat:=l.foldl (fun acc x=>rU x acc) []
def Rf:ZB->TypeDesc
 | .bool _=>.bool
 | .int k _=>.int k
 | .string _=>.string
 | .pointer _=>.pointer 0
 | .slice _ _ _=>.slice 0
 | .map _=>.map 0 0
 | _=>.invalid
def Od:ZB->fq
 | .agg cs=>(true,cs.toList.map Rf)
 | v=>(false,[Rf v])
def live (e:Env):List Nat->List (Nat × ZB)
 | []=>[]
 | s::l=>match cJ e s with
  | some v=>(s,v)::live e l
  | none=>live e l
def forget (e:Env) (l:List Nat):Env:=l.map (fun s=>(s,none))++e
def lX (l:List Nat) (vs:List ZB):Env:=(l.zip vs).map fun p=>(p.1,some p.2)
def zF (e:Env):List Nat->(List ZB->T)->T
 | [],k=>k []
 | s::l,k=>match cJ e s with
  | some v=>zF e l fun vs=>k (v::vs)
  | none=>T.fail
def HS (ms:List Nat) (e:Env) (lv:Nat) (body:Env->(Env->T)->T):T :=
 let lvs:=live e (iC ms)
 let ss:=lvs.map (·.1)
 let cs:=lvs.map fun p=>Od p.2
 T.loop cs (lvs.map (·.2)) (jd (flat cs) fun l=>body (lX ss (parts cs l)++forget e (iC ms)) fun e'=>zF e' ss fun vs=>T.again lv vs)
def jn (l:Nat):Code->Bool
 | .goto l'=>Nat.beq l l'
 | .seq a b=>jn l a || jn l b
 | .cond _ a b=>jn l a || jn l b
 | .block _ c=>jn l c
 | .loop c=>jn l c
 | .scope c=>jn l c
 | .rangeFunc _ _ a b=>jn l a || jn l b
 | _=>false
def labels:Code->List Nat
 | .label l=>[l]
 | .seq a b=>labels a++labels b
 | _=>[]
def Br (c:Code):Option Nat :=
 (labels c).find? fun l=>match findLabel c l with
  | some r=>jn l r
  | none=>false
def Rr:Code->Nat->Code
 | .seq a b,l=>match findLabel a l with
  | some _=>Rr a l
  | none=>.seq a (Rr b l)
 | _,_=>.skip
def Oc (ss:List Nat) (cs:List fq) (ms:List Nat) (e:Env) (lv:Nat) (first:(Env->T)->T) (after:Env->T):T :=
 T.join cs (first fun e'=>zF e' ss fun vs=>T.again lv vs) (jd (flat cs) fun l=>after (lX ss (parts cs l)++forget e (iC ms)))
def jC:Code->Option Nat
 | .region id _ _=>some id
 | .seq a b=>match jC a with
  | some i=>some i
  | none=>jC b
 | .cond _ a _=>jC a
 | .block _ c=>jC c
 | .loop c=>jC c
 | .scope c=>jC c
 | _=>none
def HO (cuts:List Nat):Option Nat->Nat->Bool
 | some i,k=>r6 (i+k) cuts
 | none,_=>false
def handsOn (P:Program):List Oper->List (Nat × fq)
 | []=>[]
 | [o]=>match o.dst with
  | some d=>[(d,ct P o.type)]
  | none=>[]
 | o::l=>match o.op,o.dst with
  | .assign _,some d=>(d,ct P o.type)::handsOn P l
  | _,_=>handsOn P l
def fm (l:Nat):Code->Bool
 | .label l'=>Nat.beq l l'
 | .seq a _=>fm l a
 | _=>false
def dstsOf (ops:Array Oper):List Nat:=ops.toList.filterMap (·.dst)
mutual
def fH (P:Program) (n:Nat) (cuts:List Nat):Nat->Code->Env->Nat->(Exit->Env->Nat->T)->T
 | 0,_,_,_,_=>T.fail
 | fu+1,c,e,lv,κ =>
  match c with
  | .skip=>κ .normal e lv
  | .label _=>κ .normal e lv
  | .exit i=>κ (.exit i) e lv
  | .goto l=>κ (.goto l) e lv
  | .ret=>κ .ret e lv
  | .seq a b =>
   match HO cuts (jC b) 1000 with
   | false=>fH P n cuts fu a e lv fun x e' lv'=>match x with
    | .normal=>fH P n cuts fu b e' lv' κ
    | x=>κ x e' lv'
   | true =>
    Oc ((live e (iC (dZ a))).map (·.1)) ((live e (iC (dZ a))).map fun p=>Od p.2) (dZ a) e lv
     (fun k=>fH P n cuts fu a e (lv+1) fun x e' lv'=>match x with
      | .normal=>k e'
      | x=>κ x e' lv')
     (fun e'=>fH P n cuts fu b e' lv κ)
  | .cond c a b=>match ev e c with
   | some (.bool t)=>cond t (fH P n cuts fu a e lv κ) (fH P n cuts fu b e lv κ)
   | _=>T.fail
  | .block id c=>fH P n cuts fu c e lv fun x e' lv'=>match x with
   | .exit i=>match Nat.beq i id with
    | true=>κ .normal e' lv'
    | false=>κ (.exit i) e' lv'
   | x=>κ x e' lv'
  | .region id ops draw =>
   match HO cuts (some id) 0 with
   | false=>match draw with
    | false=>Ep P n ops ops.toList e fun e'=>κ .normal e' lv
    | true=>uO P n id ops e fun e'=>κ .normal e' lv
   | true=>Oc ((handsOn P ops.toList).map (·.1)) ((handsOn P ops.toList).map (·.2)) (dstsOf ops) e lv
     (fun k=>match draw with
      | false=>Ep P n ops ops.toList e k
      | true=>uO P n id ops e k)
     (fun e'=>κ .normal e' lv)
  | .loop c=>HS (dZ c) e lv fun e' k=>fH P n cuts fu c e' (lv+1) fun x e'' lv'=>match x with
   | .normal=>k e''
   | x=>κ x e'' lv'
  | .scope c=>match Br c with
   | none=>kQ P n cuts fu c c e lv none (fun _=>T.fail) κ
   | some l=>match findLabel c l with
    | none=>T.fail
    | some r=>we P n cuts fu c c l r e lv κ
  | _=>T.fail
def kQ (P:Program) (n:Nat) (cuts:List Nat):Nat->Code->Code->Env->Nat->Option Nat->(Env->T)->(Exit->Env->Nat->T)->T
 | 0,_,_,_,_,_,_,_=>T.fail
 | fu+1,c,r,e,lv,back,k,κ=>fH P n cuts fu r e lv fun x e' lv'=>match x with
  | .goto l=>match lH back l with
   | true=>k e'
   | false=>match findLabel c l with
    | some r'=>kQ P n cuts fu c r' e' lv' back k κ
    | none=>κ (.goto l) e' lv'
  | x=>κ x e' lv'
def we (P:Program) (n:Nat) (cuts:List Nat):Nat->Code->Code->Nat->Code->Env->Nat->(Exit->Env->Nat->T)->T
 | 0,_,_,_,_,_,_,_=>T.fail
 | fu+1,c,t,l,r,e,lv,κ =>
  match fm l t with
  | true=>HS (dZ c) e lv fun e'' k=>kQ P n cuts fu c r e'' (lv+1) (some l) k κ
  | false=>match t with
   | .seq a b=>match findLabel a l with
    | some _=>T.fail
    | none=>fH P n cuts fu a e lv fun x e' lv'=>match x with
     | .normal=>we P n cuts fu c b l r e' lv' κ
     | .goto _=>T.fail
     | x=>κ x e' lv'
   | _=>T.fail
end
def vR (P:Program):List ResultVar->Env->(List ZB->T)->T
 | [],_,k=>k []
 | .tmp t::rs,e,k=>bP e (.tmp t) fun v=>vR P rs e fun l=>k (v::l)
 | .cell a t::rs,e,k=>bP e (.tmp a) fun p=>match p,cv P t with
  | .pointer p,some true=>bif (eQ P 9 t).length==P.cellsOf t then T.bk p fun a=>T.ah a (eQ P 9 t) (jd _ fun l=>vR P rs e fun l'=>k (.agg l.toArray::l')) else T.fail
  | .pointer p,some false=>T.bk p fun a=>T.ah a (ct P t).2 (jd _ fun l=>vR P rs e fun l'=>k (l.headD undef::l'))
  | _,_=>T.fail
def one (l:List ZB):ZB :=
 match l with
 | [v]=>v
 | l=>.tuple l.toArray
def tG:Nat->List ZB->Env
 | _,[]=>[]
 | i,v::vs=>(i,some v)::tG (i+1) vs
def bI (P:Program) (cuts:List Nat) (fn:Func) (args:List ZB):T :=
 match fn.body with
 | none=>T.fail
 | some c=>fH P fn.ntmps cuts 100000 c (tG 0 args) 0 fun x e _=>match x with
  | .normal=>vR P fn.results.toList e fun l=>T.ret (one l)
  | .ret=>vR P fn.results.toList e fun l=>T.ret (one l)
  | _=>T.fail
end Go.Sx
