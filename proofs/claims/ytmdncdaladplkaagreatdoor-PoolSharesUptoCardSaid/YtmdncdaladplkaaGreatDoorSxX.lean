/- Part of the framework. No condition. -/
import Derived.Test.YtmdncdaladplkaaGreatDoorSxT
set_option linter.all false
set_option maxHeartbeats 4000000
namespace Go.Sx
abbrev Env:=List (Nat × Option Xab)
def da:Env->Nat->Option Xab
 | [],_=>none
 | (s,v)::e,t=>bif Nat.beq s t then v else da e t
def eC (n:Nat) (e:Env) (dst:Option Tmp) (v:Xab):Env :=
 match dst with
 | none=>e
 | some d=>bif Nat.blt d n then (d,some v)::e else e
def ev (e:Env):Operand->Option Xab
 | .tmp t=>da e t
 | .const v=>some v
 | .global g=>some (.pointer (some ⟨g,0,none⟩))
 | .func f=>some (.func (.func f) #[] #[])
namespace T
def bf (p:Xac) (k:Xax->T):T :=
 match p with
 | some a=>k a
 | none=>T.fail
end T
def fA (P:Program):Nat->TypeId->List TypeDesc
 | 0,_=>[.invalid]
 | n+1,t =>
  match P.underlying t with
  | some (.struct a)=>a.toList.flatMap fun f=>fA P n f.type
  | some (.array k e)=>(List.replicate k (fA P n e)).flatten
  | some d=>[d]
  | none=>[.invalid]
def cM (P:Program) (t:TypeId):ep :=
 match P.underlying t with
 | some (.struct _)=>(true,fA P 9 t)
 | some (.array _ _)=>(true,fA P 9 t)
 | some d=>(false,[d])
 | none=>(false,[.invalid])
def lJ (P:Program) (t:TypeId):Bool × List ep :=
 match P.underlying t with
 | some (.tuple ts)=>(true,ts.toList.map (cM P))
 | _=>(false,[cM P t])
def KX (b:Bool):List ep :=
 match b with
 | true=>[(false,[.int .i64]),(false,[.int .i32])]
 | false=>[(false,[.string]),(false,[.bool])]
def ct (e:Env) (x:Operand) (k:Xab->T):T :=
 match ev e x with
 | some v=>k v
 | none=>T.fail
def iT (e:Env):List Operand->(List Xab->T)->T
 | [],k=>k []
 | x::xs,k=>ct e x fun v=>iT e xs fun l=>k (v::l)
def df (s:Xaa) (n:Int):Int:=((s.data.toList.getD n.toNat 0).toNat:Nat)
def Fq (op:BinOp) (k:IntKind) (x y:Int):Int :=
 match op with
 | .and=>k.wrap (BitVec.ofInt k.bits x &&& BitVec.ofInt k.bits y).toNat
 | .or=>k.wrap (BitVec.ofInt k.bits x ||| BitVec.ofInt k.bits y).toNat
 | .xor=>k.wrap (BitVec.ofInt k.bits x ^^^ BitVec.ofInt k.bits y).toNat
 | _=>k.wrap (BitVec.ofInt k.bits x &&& ~~~ BitVec.ofInt k.bits y).toNat
def JF (op:BinOp) (k:IntKind) (m n:Int) (a:Xab->T):T :=
 match op with
 | .add=>a (.int k (k.wrap (m+n)))
 | .sub=>a (.int k (k.wrap (m-n)))
 | .mul=>a (.int k (k.wrap (m*n)))
 | .quo=>T.need (n≠0) (a (.int k (k.wrap (m.tdiv n))))
 | .rem=>T.need (n≠0) (a (.int k (m.tmod n)))
 | .eql=>a (.bool (m==n))
 | .neq=>a (.bool (m != n))
 | .lss=>a (.bool (decide (m<n)))
 | .leq=>a (.bool (decide (m<=n)))
 | .gtr=>a (.bool (decide (m>n)))
 | .geq=>a (.bool (decide (m>=n)))
 | .and=>a (.int k (Fq .and k m n))
 | .or=>a (.int k (Fq .or k m n))
 | .xor=>a (.int k (Fq .xor k m n))
 | .andNot=>a (.int k (Fq .andNot k m n))
 | _=>T.fail
def A8 (op:BinOp) (k:IntKind) (m n:Int) (a:Xab->T):T :=
 match op with
 | .shl=>T.need (0<=n) (a (.int k (k.wrap (m*2^(min n.toNat k.bits)))))
 | .shr=>T.need (0<=n) (a (.int k (m.fdiv (2^(min n.toNat k.bits)))))
 | _=>T.fail
def Jy (op:BinOp) (x y:Xaa) (a:Xab->T):T :=
 match op with
 | .add=>T.need (((x.size+y.size:Nat):Int)<=IntKind.i64.max) (a (.string (x++y)))
 | .eql=>a (.bool (x.toList==y.toList))
 | .neq=>a (.bool !(x.toList==y.toList))
 | .lss=>a (.bool (Op.bytesLess x.toList y.toList))
 | .leq=>a (.bool (Op.bytesLess x.toList y.toList || x.toList==y.toList))
 | .gtr=>a (.bool !(Op.bytesLess x.toList y.toList || x.toList==y.toList))
 | .geq=>a (.bool !(Op.bytesLess x.toList y.toList))
 | _=>T.fail
def nD:BinOp->Bool
 | .shl=>true
 | .shr=>true
 | _=>false
def isNil (x:Operand):Bool :=
 match x with
 | .const (.pointer none)=>true
 | .const (.slice none 0 0)=>true
 | .const (.map none)=>true
 | _=>false
def lW (op:BinOp) (t:TypeId) (x y:Operand) (a b:Xab):Sem Xab:=do eqGuard op t x y a b; binOp op t a b
def R6 (P:Program) (op:BinOp) (t:TypeId) (x y:Operand) (a b:Xab) (c:Xab->T):T :=
 T.eH P (lW op t x y a b) false [(false,[.bool])] fun r=>c (.bool r)
def asked (op:BinOp) (b:Bool) (a:Xab->T) (other:T):T :=
 match op with
 | .eql=>a (.bool b)
 | .neq=>a (.bool !b)
 | _=>other
def sT (P:Program) (t:TypeId) (x y:Operand):Bool :=
 match P.underlying t with
 | some (.int _)=>true
 | some .string=>true
 | some .bool=>true
 | some (.pointer _)=>isNil y
 | some (.slice _)=>isNil y
 | some (.map _ _)=>isNil y
 | _=>false
def ug (P:Program) (op:BinOp) (t:TypeId) (a b:Xab) (c:Xab->T):T :=
 match a,b with
 | .int k m,.int k' n =>
  match nD op with
  | true=>A8 op k m n c
  | false=>match decide (k=k') with
   | true=>JF op k m n c
   | false=>T.fail
 | .string m,.string n=>Jy op m n c
 | .bool m,.bool n =>
  match P.underlying t with
  | some .bool=>asked op (m==n) c T.fail
  | _=>T.fail
 | .pointer p,.pointer _ =>
  match P.underlying t with
  | some (.pointer _)=>asked op p.isNone c T.fail
  | _=>T.fail
 | .slice p _ _,.slice _ _ _ =>
  match P.underlying t with
  | some (.slice _)=>asked op p.isNone c T.fail
  | _=>T.fail
 | .map p,.map _ =>
  match P.underlying t with
  | some (.map _ _)=>asked op p.isNone c T.fail
  | _=>T.fail
 | _,_=>T.fail
def E2 (P:Program) (op:BinOp) (t:TypeId) (x y:Operand) (a b:Xab) (c:Xab->T):T :=
 match sT P t x y with
 | true=>ug P op t a b c
 | false=>R6 P op t x y a b c
def Xw (op:UnOp) (a:Xab) (c:Xab->T):T :=
 match op,a with
 | .neg,.int k n=>c (.int k (k.wrap (0-n)))
 | .xor,.int k n=>c (.int k (Fq .xor k (if k.signed then -1 else k.max) n))
 | .not,.bool b=>c (.bool !b)
 | _,_=>T.fail
def yT (P:Program) (src dst:TypeId) (a:Xab) (b:Xab->T):T :=
 match P.underlying src,P.underlying dst,a with
 | some (.int _),some (.int k),.int _ n=>b (.int k (k.wrap n))
 | some .string,some .string,.string s=>b (.string s)
 | some .string,some .string,_=>T.fail
 | _,some (.slice _),_=>T.eH P (convert src dst a) false [(false,[.slice 0])] fun p l c=>b (.slice p l c)
 | _,some .string,_=>T.eH P (convert src dst a) false [(false,[.string])] fun s=>b (.string s)
 | _,_,_=>T.fail
def kQ:Option Xab->Int
 | some (.int _ n)=>n
 | _=>0
def eU:Option Xab->Bool
 | some (.int _ _)=>true
 | none=>true
 | _=>false
def lx (d:Int):Option Xab->Int
 | some (.int _ n)=>n
 | _=>d
def oo (P:Program) (t:TypeId):Bool:=(P.info? t).isSome
def jk (P:Program) (t:TypeId) (a:Xab) (lo hi b:Option Xab) (d:Xab->T):T :=
 match eU lo && eU hi && eU b with
 | false=>T.fail
 | true =>
  match P.underlying t with
  | some .string=>match a,b with
   | .string s,none =>
    T.need (0<=kQ lo/\kQ lo<=lx s.size hi/\lx s.size hi<=s.size) (d (.string (s.extract (kQ lo).toNat (lx s.size hi).toNat)))
   | _,_=>T.fail
  | some (.slice e)=>match b with
   | some _=>T.eH P (Instr.sliceAt t a lo hi b) false [(false,[.slice 0])] fun p l c=>d (.slice p l c)
   | none=>match a with
    | .slice p len cap =>
     match oo P e with
     | false=>T.fail
     | true=>T.need (0<=kQ lo/\kQ lo<=lx len hi/\lx len hi<=cap) (d (.slice (if cap=(kQ lo).toNat then p else p.map (·.add ((kQ lo).toNat*P.cellsOf e))) ((lx len hi).toNat-(kQ lo).toNat) (cap-(kQ lo).toNat)))
    | _=>T.fail
  | _=>T.eH P (Instr.sliceAt t a lo hi b) false [(false,[.slice 0])] fun p l c=>d (.slice p l c)
def uk (P:Program) (t:TypeId) (cs:List Xab) (off:Nat) (a:Xab->T):T :=
 match P.underlying t with
 | some (.struct _)=>a (.agg ((cs.drop off).take (P.cellsOf t)).toArray)
 | some (.array _ _)=>a (.agg ((cs.drop off).take (P.cellsOf t)).toArray)
 | some _=>match cs[off]? with
  | some v=>a v
  | none=>T.fail
 | none=>T.fail
def cH (P:Program) (t:TypeId):Option Bool :=
 match P.underlying t with
 | some (.struct _)=>some true
 | some (.array _ _)=>some true
 | some _=>some false
 | none=>none
def j4:Xab->List Xab
 | .agg cs=>cs.toList
 | _=>[]
def fp:Xab->Bool
 | .agg _=>true
 | _=>false
def gi (P:Program) (f:FuncId):Bool :=
 match P.funcs[f]? with
 | some fn => fn.body.isSome && !(fn.name == "runtime.NumGoroutine")
 | none=>false
def GJ:Operand->Bool
 | .tmp _=>true
 | .const _=>false
 | .global _=>false
 | .func _=>false
def JJ (f:FuncId) (args:Array Xab):Sem Xab:=do
 match <- callFunc f args with
 | .value v=>pure v
 | _ => stuck "no value"
def D3 (P:Program) (f:FuncId) (args:List Xab) (t:TypeId) (a:Xab->T):T :=
 match gi P f with
 | true=>T.call P f args (lJ P t).1 (lJ P t).2 (jO _ fun l=>a (rv (lJ P t).1 (lJ P t).2 l))
 | false=>T.eH P (JJ f args.toArray) (lJ P t).1 (lJ P t).2 (jO _ fun l=>a (rv (lJ P t).1 (lJ P t).2 l))
def AT (P:Program) (c:Call) (t:TypeId) (args:List Xab) (a:Xab->T):T :=
 match (c.argTypes[0]?).bind P.underlying with
 | some .string=>match args with
  | [.string s]=>a (.int .i64 s.size)
  | _=>T.fail
 | some (.slice _)=>match args with
  | [.slice _ n _]=>a (.int .i64 n)
  | _=>T.fail
 | _=>T.eH P (Builtin.len_ c.argTypes t args.toArray) false [(false,[.int .i64])] fun n=>a (.int .i64 n)
def L4 (P:Program) (c:Call) (args:List Xab) (a:Xab->T):T :=
 match (c.argTypes[0]?).bind P.underlying with
 | some (.slice _)=>match args with
  | [.slice _ _ n]=>a (.int .i64 n)
  | _=>T.fail
 | _=>T.fail
def sM (P:Program) (b:Builtin) (c:Call) (t:TypeId) (args:List Xab) (a:Xab->T):T :=
 match b,args with
 | .len,_=>AT P c t args a
 | .cap,_=>L4 P c args a
 | .append,_=>T.eH P (Builtin.append_ c.argTypes t args.toArray) false [(false,[.slice 0])] fun p l d=>a (.slice p l d)
 | .copy,_=>T.eH P (Builtin.copy_ c.argTypes t args.toArray) false [(false,[.int .i64])] fun n=>a (.int .i64 n)
 | .min,_=>T.eH P (Builtin.min_ c.argTypes t args.toArray) false [cM P t] (jO _ fun l=>a (rv false [cM P t] l))
 | .max,_=>T.eH P (Builtin.max_ c.argTypes t args.toArray) false [cM P t] (jO _ fun l=>a (rv false [cM P t] l))
 | .delete,_=>T.eH P (Builtin.delete_ c.argTypes t args.toArray) true [] (a (.tuple #[]))
 | .unsafeString,_=>T.eH P (Builtin.unsafeString_ c.argTypes t args.toArray) false [cM P t] (jO _ fun l=>a (rv false [cM P t] l))
 | .unsafeSliceData,_=>T.eH P (Builtin.unsafeSliceData_ c.argTypes t args.toArray) false [cM P t] (jO _ fun l=>a (rv false [cM P t] l))
 | _,_=>T.fail
def XB (P:Program) (t:TypeId) (lo hi c:Option Operand) (a:Xab) (d:List Xab) (b:Xab->T):T :=
 match lo,hi,c,d with
 | none,none,none,[]=>jk P t a none none none b
 | some _,none,none,[l]=>jk P t a (some l) none none b
 | none,some _,none,[h]=>jk P t a none (some h) none b
 | some _,some _,none,[l,h]=>jk P t a (some l) (some h) none b
 | some _,some _,some _,[l,h,m]=>jk P t a (some l) (some h) (some m) b
 | none,some _,some _,[h,m]=>jk P t a none (some h) (some m) b
 | _,_,_,_=>T.fail
def zt (P:Program) (t:TypeId) (v i:Xab) (c:Xab->T):T :=
 match v,i,P.underlying t with
 | .slice p len _,.int _ n,some (.slice b)=>bif !oo P b then T.fail else T.need (0<=n/\n<len) (T.bf p fun a=>c (.pointer (some (a.add (n.toNat*P.cellsOf b)))))
 | .pointer p,.int _ n,some (.array len b)=>bif !oo P b then T.fail else T.need (0<=n/\n<len) (T.bf p fun a=>c (.pointer (some (a.add (n.toNat*P.cellsOf b)))))
 | _,_,_=>T.fail
def Iy (P:Program) (t:TypeId) (v i:Xab) (a:Xab->T):T :=
 match v,i,P.underlying t with
 | .string s,.int _ n,some .string=>T.need (0<=n/\n<s.size) (a (.int .u8 (df s n)))
 | v,i,some (.array len b)=>T.eH P (Instr.index t v i) false [cM P b] (jO _ fun l=>a (rv false [cM P b] l))
 | _,_,_=>T.fail
def tX (xs:List Xab):Nat->List Xab->List Xab
 | _,[]=>xs
 | i,v::a=>tX (xs.set i v) (i+1) a
def fQ (place:Nat->Option (Nat × Nat)) (cells:List Xab):List (Nat × List Xab)->Option (List Xab)
 | []=>some cells
 | (i,l)::rest =>
  match place i with
  | none=>none
  | some (off,size)=>bif !(Nat.beq l.length size) || Nat.blt cells.length (off+l.length) then none else fQ place (tX cells off l) rest
def fI (agg:Nat->Option Bool):List (Nat × Xab)->(List (Nat × List Xab)->T)->T
 | [],k=>k []
 | (i,v)::l,k =>
  match agg i with
  | some true=>cond (fp v) (fI agg l fun r=>k ((i,j4 v)::r)) T.fail
  | some false=>cond (fp v) T.fail (fI agg l fun r=>k ((i,[v])::r))
  | none=>T.fail
def vJ (P:Program) (o:Oper) (e:Env) (h:Xab->T):T :=
 match o.op with
 | .move x=>ct e x h
 | .assign x=>ct e x h
 | .pick c a b=>ct e c fun c=>match c with
  | .bool b'=>cond b' (ct e a h) (ct e b h)
  | _=>T.fail
 | .alloc t=>match (P.info? t).bind (·.zero) with
  | some z=>T.new z.cells.toList t fun a=>h (.pointer (some a))
  | none=>T.fail
 | .box t x=>ct e x fun v=>match cH P t with
  | some true=>cond (fp v) (T.new (j4 v) t fun a=>h (.pointer (some a))) T.fail
  | some false=>cond (fp v) T.fail (T.new [v] t fun a=>h (.pointer (some a)))
  | none=>T.fail
 | .build t ps=>iT e (ps.toList.map (·.2)) fun j=>match P.underlying t,(P.info? t).bind (·.zero) with
  | some (.struct n),some z =>
   bif !(n.all fun f=>oo P f.type) then T.fail else fI (fun i=>(n[i]?).bind fun f=>cH P f.type) ((ps.toList.map (·.1)).zip j) fun A=>match fQ (((n.map fun f=>(f.offset,P.cellsOf f.type)))[·]?) z.cells.toList A with
   | some cs=>h (.agg cs.toArray)
   | none=>T.fail
  | some (.array _ k),some z =>
   bif !oo P k then T.fail else fI (fun _=>cH P k) ((ps.toList.map (·.1)).zip j) fun A=>match fQ (fun i=>some (i*P.cellsOf k,P.cellsOf k)) z.cells.toList A with
   | some cs=>h (.agg cs.toArray)
   | none=>T.fail
  | _,_=>T.fail
 | .buildSlice t len ps=>iT e (ps.toList.map (·.2)) fun j =>
  T.eH P (Instr.buildSlice t len ((ps.toList.map (·.1)).zip j).toArray) false [(false,[.slice 0])] fun p l c=>h (.slice p l c)
 | .load t x=>ct e x fun v=>match v,cH P t with
  | .pointer p,some true=>bif (fA P 9 t).length==P.cellsOf t then T.bf p fun a=>T.af a (fA P 9 t) (jO _ fun l=>h (.agg l.toArray)) else T.fail
  | .pointer p,some false=>T.bf p fun a=>T.af a (cM P t).2 (jO _ fun l=>h (l.headD undef))
  | _,_=>T.fail
 | .store t x y=>ct e x fun p=>ct e y fun v=>match p,cH P t with
  | .pointer p,some true=>cond (fp v) (bif (j4 v).length==P.cellsOf t then T.bf p fun a=>T.aD a (j4 v) (h undef) else T.fail) T.fail
  | .pointer p,some false=>bif P.cellsOf t==1 then cond (fp v) T.fail (T.bf p fun a=>T.aD a [v] (h undef)) else T.fail
  | _,_=>T.fail
 | .nilCheck x=>ct e x fun v=>match v with
  | .pointer p=>T.bf p fun a=>h (.pointer (some a))
  | .func (.func f) q u=>h (.func (.func f) q u)
  | .iface t v=>h (.iface t v)
  | _=>T.fail
 | .binOp op t x y _=>ct e x fun a=>ct e y fun b=>E2 P op t x y a b h
 | .unOp op _ x=>ct e x fun a=>Xw op a h
 | .convert s d x=>ct e x fun a=>yT P s d a h
 | .makeInterface t x=>ct e x fun a=>match P.underlying t with
  | some (.interface _)=>T.fail
  | some _=>h (.iface t a)
  | none=>T.fail
 | .makeFunc fn q u=>iT e q.toList fun q=>iT e u.toList fun u=>h (.func fn q.toArray u.toArray)
 | .makeMap t none=>T.eH P (Instr.makeMap t none) false [(false,[.map 0 0])] fun r=>h (.map r)
 | .makeSlice t l c=>ct e l fun l=>ct e c fun c=>T.eH P (Instr.makeSlice t l c) false [(false,[.slice 0])] fun p l c=>h (.slice p l c)
 | .slice t x lo hi B=>ct e x fun a=>iT e (lo.toList++hi.toList++B.toList) fun j=>XB P t lo hi B a j h
 | .fieldAddr s x f=>ct e x fun v=>match v,P.underlying s with
  | .pointer p,some (.struct n)=>match n[f]? with
   | some w=>match P.cellsOf w.type with
    | 0=>T.fail
    | _+1=>T.bf p fun a=>h (.pointer (some (a.add w.offset)))
   | none=>T.fail
  | _,_=>T.fail
 | .field s x f=>ct e x fun v=>match v,P.underlying s with
  | .agg cs,some (.struct n)=>match n[f]? with
   | some w=>uk P w.type cs.toList w.offset h
   | none=>T.fail
  | _,_=>T.fail
 | .indexAddr t x i=>ct e x fun v=>ct e i fun i=>zt P t v i h
 | .index t x i=>ct e x fun v=>ct e i fun i=>Iy P t v i h
 | .lookup t m x ok=>ct e m fun m=>ct e x fun x=>match P.underlying t with
  | some (.map _ k)=>match ok with
   | true=>T.eH P (Instr.lookup t m x true) true [cM P k,(false,[.bool])] (jO _ fun l=>h (rv true [cM P k,(false,[.bool])] l))
   | false=>T.eH P (Instr.lookup t m x false) false [cM P k] (jO _ fun l=>h (rv false [cM P k] l))
  | _=>T.fail
 | .mapUpdate t m x v=>ct e m fun m=>ct e x fun x=>ct e v fun v=>T.dX P (Instr.mapUpdate t m x v) (h undef)
 | .insert t m x v=>ct e m fun m=>ct e x fun x=>ct e v fun v=>T.dX P (Instr.mapUpdate t m x v) (h undef)
 | .mapEntry t m x=>ct e m fun m=>ct e x fun x=>match P.underlying t with
  | some (.map _ k)=>T.eH P (Instr.mapEntry t m x) true [cM P k,(false,[.int .i64])] (jO _ fun l=>h (rv true [cM P k,(false,[.int .i64])] l))
  | _=>T.fail
 | .entryStore t m x v=>ct e m fun m=>ct e x fun x=>ct e v fun v=>T.dX P (Instr.entryStore t m x v) (h undef)
 | .range t x=>ct e x fun x=>T.eH P (Instr.range t x) false [(false,[.pointer 0])] fun p=>h (.pointer p)
 | .next it b=>ct e it fun it=>match P.underlying o.type with
  | some (.tuple ts)=>match ts.toList with
   | []=>T.next P (Instr.next it b o.type) (KX b) (h (.tuple #[.bool false])) (jO _ fun l=>h (.tuple (.bool true::parts (KX b) l).toArray))
   | _::ts=>T.next P (Instr.next it b o.type) (ts.map (cM P)) (h (.tuple #[.bool false])) (jO _ fun l=>h (.tuple (.bool true::parts (ts.map (cM P)) l).toArray))
  | _=>T.fail
 | .entry it=>ct e it fun it=>T.eH P (Instr.entry it) true (KX false) (jO _ fun l=>h (rv true (KX false) l))
 | .typeAssert x t d ok=>ct e x fun x=>match ok with
  | true=>T.eH P (Instr.typeAssert x t d true) true [cM P d,(false,[.bool])] (jO _ fun l=>h (rv true [cM P d,(false,[.bool])] l))
  | false=>T.eH P (Instr.typeAssert x t d false) false [cM P d] (jO _ fun l=>h (rv false [cM P d] l))
 | .extract x i=>ct e x fun v=>match v with
  | .tuple j=>match j.toList[i]? with
   | some v=>h v
   | none=>T.fail
  | _=>T.fail
 | .call c=>match c.callee with
  | .builtin b=>iT e c.args.toList fun j=>sM P b c o.type j h
  | .value g=>match GJ g with
   | true=>ct e g fun g=>iT e c.args.toList fun j=>T.wI P g j (lJ P o.type).1 (lJ P o.type).2 (jO _ fun l=>h (rv (lJ P o.type).1 (lJ P o.type).2 l))
   | false=>ct e g fun g=>iT e c.args.toList fun j=>match g with
    | .func (.func f) q u=>D3 P f (q.toList++j++u.toList) o.type h
    | .func (.method _) _ _=>T.fail
    | .func (.methodOf _ _) _ _=>T.fail
    | .func (.via _ _ _ _) _ _=>T.fail
    | .func (.yield _) _ _=>T.fail
    | .nilFunc=>T.fail
    | .bool _=>T.fail
    | .int _ _=>T.fail
    | .float _ _=>T.fail
    | .complex _ _ _=>T.fail
    | .string _=>T.fail
    | .pointer _=>T.fail
    | .slice _ _ _=>T.fail
    | .map _=>T.fail
    | .chan _=>T.fail
    | .iface _ _=>T.fail
    | .nilIface=>T.fail
    | .agg _=>T.fail
    | .tuple _=>T.fail
  | .invoke _ _=>T.fail
 | _=>T.fail
def guardOf (ops:Array Oper) (o:Oper):Option (Option Tmp × Bool) :=
 match o.guard with
 | none=>none
 | some (j,a)=>some ((ops[j]?).bind (·.dst),a)
def mn (n:Nat) (ops:Array Oper) (o:Oper) (e:Env) (a no:Env->T):T :=
 match guardOf ops o with
 | none=>a e
 | some (none,_)=>no e
 | some (some d,c) =>
  match da e d with
  | some (.bool b)=>match c with
   | true=>cond b (a (eC n e (some d) (.bool true))) (no (eC n e (some d) (.bool false)))
   | false=>cond b (no (eC n e (some d) (.bool true))) (a (eC n e (some d) (.bool false)))
  | some (.tuple _)=>no e
  | _=>T.fail
def Gw (P:Program) (n:Nat) (ops:Array Oper):List Oper->Env->(Env->T)->T
 | [],e,k=>k e
 | o::rest,e,k=>mn n ops o e (fun e=>vJ P o e fun v=>Gw P n ops rest (eC n e o.dst v) k) (fun e=>Gw P n ops rest (eC n e o.dst undef) k)
def sY (P:Program) (o:Oper):Bool :=
 match o.op with
 | .move _=>true
 | .pick _ _ _=>true
 | .build _ _=>true
 | .nilCheck _=>true
 | .binOp _ t x y _=>sT P t x y
 | .unOp _ _ _=>true
 | .convert s d _=>match P.underlying s,P.underlying d with
  | some (.int _),some (.int _)=>true
  | some .string,some .string=>true
  | _,_=>false
 | .makeInterface _ _=>true
 | .makeFunc _ _ _=>true
 | .slice t _ _ _ none=>match P.underlying t with
  | some .string=>true
  | some (.slice _)=>true
  | _=>false
 | .fieldAddr _ _ _=>true
 | .field _ _ _=>true
 | .indexAddr _ _ _=>true
 | .index t _ _=>match P.underlying t with
  | some .string=>true
  | _=>false
 | .extract _ _=>true
 | .call c=>match c.callee with
  | .builtin .len=>match (c.argTypes[0]?).bind P.underlying with
   | some .string=>true
   | some (.slice _)=>true
   | _=>false
  | .builtin .cap=>match (c.argTypes[0]?).bind P.underlying with
   | some (.slice _)=>true
   | _=>false
  | _=>false
 | _=>false
def BR (o:Oper):Bool :=
 match o.op with
 | .load _ _=>true
 | _=>false
def calm (P:Program) (o:Oper):Bool:=sY P o || BR o
def tV (x:Nat):List Nat->Bool
 | []=>false
 | y::l=>Nat.beq x y || tV x l
def waits (o:Oper):List Nat:=(o.after.toList.filter fun e=>Region.binds .any e).map (·.on)
def yG (D:List Nat) (i:Nat) (o:Oper):Bool:=!tV i D && (waits o).all fun j=>tV j D
def looks (ops : Array Oper) (o : Oper) : List Nat :=
  (o.op.operands.toList.filterMap fun | .tmp t => some t | _ => none) ++
  (match o.guard with
   | some (g, _) => ((ops[g]?).bind (·.dst)).toList
   | none => [])
def nv:Option Nat->Nat->Bool
 | some d,s=>Nat.beq d s
 | none,_=>false
def JV (P : Program) (ops : Array Oper) (i j : Nat) (x y : Oper) : Bool :=
  match Nat.beq i j with
  | true => (match x.dst with
    | some d => !calm P x || !tV d (looks ops x)
    | none => true)
  | false => (match y.dst with
    | some d => !tV d (looks ops x) || tV j (waits x) || (tV i (waits y) && !calm P y)
    | none => true) &&
   (match x.dst, calm P x with
    | some d, true => !nv y.dst d
    | _, _ => true)
def idx:Nat->List Oper->List (Nat × Oper)
 | _,[]=>[]
 | i,o::l=>(i,o)::idx (i+1) l
def eN (P : Program) (n : Nat) (ops : Array Oper) : Bool :=
  ((idx 0 ops.toList).all fun p => match p.2.dst with
    | some d => Nat.blt d n
    | none => true) && (idx 0 ops.toList).all fun p => (idx 0 ops.toList).all fun q => JV P ops p.1 q.1 p.2 q.2
abbrev Made:=List (Nat × Xax × List Xab)
def kN (o:Oper):Made->List (Xax × List Xab)
 | []=>[]
 | (i,a,l)::m=>bif tV i (waits o) then kN o m else (a,l)::kN o m
def wv (l:List (Xax × List Xab)) (t:T):T :=
 match l with
 | []=>t
 | p::l=>T.bi (p::l) t
def WG:List T->T
 | []=>T.fail
 | [t]=>t
 | t::ts=>T.all (t::ts)
def sC (P:Program) (t:TypeId) (x:Operand) (e:Env) (b:Xax->List Xab->Xab->T):T :=
 ct e x fun v=>match v,cH P t with
  | .pointer p,some true=>bif (fA P 9 t).length==P.cellsOf t then T.bf p fun a=>T.af a (fA P 9 t) (jO _ fun l=>b a l (.agg l.toArray)) else T.fail
  | .pointer p,some false=>T.bf p fun a=>T.af a (cM P t).2 (jO _ fun l=>b a l (l.headD undef))
  | _,_=>T.fail
def dm (P:Program) (D:List Nat) (c:Bool):List (Nat × Oper)->List (Nat × Oper)
 | []=>[]
 | p::l=>match yG D p.1 p.2 && (calm P p.2==c) with
  | true=>p::dm P D c l
  | false=>dm P D c l
def gC (P:Program) (n:Nat) (ops:Array Oper):Nat->List Nat->Env->Made->(Env->T)->T
 | 0,_,_,_,_=>T.fail
 | b+1,D,e,m,k =>
  match dm P D true (idx 0 ops.toList) with
  | (i,o)::_ =>
   mn n ops o e (fun e=>match o.op with
    | .load t x=>sC P t x e fun a l v=>gC P n ops b (i::D) (eC n e o.dst v) ((i,a,l)::m) k
    | _=>vJ P o e fun v=>gC P n ops b (i::D) (eC n e o.dst v) m k)
    fun e=>gC P n ops b (i::D) (eC n e o.dst undef) m k
  | [] =>
   match dm P D false (idx 0 ops.toList) with
   | []=>k e
   | q::c=>WG ((q::c).map fun p=>mn n ops p.2 e (fun e=>vJ P p.2 e fun v=>wv (kN p.2 m) (gC P n ops b (p.1::D) (eC n e p.2.dst v) m k))
     fun e=>gC P n ops b (p.1::D) (eC n e p.2.dst undef) m k)
def wK (P:Program) (n _id:Nat) (ops:Array Oper) (e:Env) (k:Env->T):T :=
 match eN P n ops with
 | true=>gC P n ops (ops.size+1) [] e [] k
 | false=>T.fail
def eQ:Code->List Nat
 | .region _ ops _=>ops.toList.filterMap (·.dst)
 | .seq a b=>eQ a++eQ b
 | .cond _ a b=>eQ a++eQ b
 | .block _ c=>eQ c
 | .loop c=>eQ c
 | .scope c=>eQ c
 | .rangeFunc _ ps a b=>ps.toList++eQ a++eQ b
 | _=>[]
def tG (x:Nat):List Nat->List Nat
 | []=>[x]
 | y::l=>bif Nat.blt x y then x::y::l else bif Nat.beq x y then y::l else y::tG x l
def jj (l:List Nat):List Nat:=l.foldl (fun a x=>tG x a) []
def UM:Xab->TypeDesc
 | .bool _=>.bool
 | .int k _=>.int k
 | .string _=>.string
 | .pointer _=>.pointer 0
 | .slice _ _ _=>.slice 0
 | .map _=>.map 0 0
 | _=>.invalid
def Oc:Xab->ep
 | .agg cs=>(true,cs.toList.map UM)
 | v=>(false,[UM v])
def live (e:Env):List Nat->List (Nat × Xab)
 | []=>[]
 | s::l=>match da e s with
  | some v=>(s,v)::live e l
  | none=>live e l
def forget (e:Env) (l:List Nat):Env:=l.map (fun s=>(s,none))++e
def nL (l:List Nat) (a:List Xab):Env:=(l.zip a).map fun p=>(p.1,some p.2)
def By (e:Env):List Nat->(List Xab->T)->T
 | [],k=>k []
 | s::l,k=>match da e s with
  | some v=>By e l fun a=>k (v::a)
  | none=>T.fail
def Kp (ms:List Nat) (e:Env) (b:Nat) (a:Env->(Env->T)->T):T :=
 let lvs:=live e (jj ms)
 let ss:=lvs.map (·.1)
 let cs:=lvs.map fun p=>Oc p.2
 T.loop cs (lvs.map (·.2)) (jO (flat cs) fun l=>a (nL ss (parts cs l)++forget e (jj ms)) fun c=>By c ss fun d=>T.again b d)
def j7 (l:Nat):Code->Bool
 | .goto l'=>Nat.beq l l'
 | .seq a b=>j7 l a || j7 l b
 | .cond _ a b=>j7 l a || j7 l b
 | .block _ c=>j7 l c
 | .loop c=>j7 l c
 | .scope c=>j7 l c
 | .rangeFunc _ _ a b=>j7 l a || j7 l b
 | _=>false
def labels:Code->List Nat
 | .label l=>[l]
 | .seq a b=>labels a++labels b
 | _=>[]
def CZ (c:Code):Option Nat :=
 (labels c).find? fun l=>match findLabel c l with
  | some r=>j7 l r
  | none=>false
def Vj:Code->Nat->Code
 | .seq a b,l=>match findLabel a l with
  | some _=>Vj a l
  | none=>.seq a (Vj b l)
 | _,_=>.skip
def Rs (a:List Nat) (cs:List ep) (ms:List Nat) (e:Env) (b:Nat) (first:(Env->T)->T) (after:Env->T):T :=
 T.join cs (first fun c=>By c a fun d=>T.again b d) (jO (flat cs) fun l=>after (nL a (parts cs l)++forget e (jj ms)))
def kw:Code->Option Nat
 | .region id _ _=>some id
 | .seq a b=>match kw a with
  | some i=>some i
  | none=>kw b
 | .cond _ a _=>kw a
 | .block _ c=>kw c
 | .loop c=>kw c
 | .scope c=>kw c
 | _=>none
def Lt (a:List Nat):Option Nat->Nat->Bool
 | some i,k=>tV (i+k) a
 | none,_=>false
def handsOn (P:Program):List Oper->List (Nat × ep)
 | []=>[]
 | [o]=>match o.dst with
  | some d=>[(d,cM P o.type)]
  | none=>[]
 | o::l=>match o.op,o.dst with
  | .assign _,some d=>(d,cM P o.type)::handsOn P l
  | _,_=>handsOn P l
def fX (l:Nat):Code->Bool
 | .label l'=>Nat.beq l l'
 | .seq a _=>fX l a
 | _=>false
def dstsOf (ops:Array Oper):List Nat:=ops.toList.filterMap (·.dst)
mutual
def gu (P:Program) (n:Nat) (d:List Nat):Nat->Code->Env->Nat->(Exit->Env->Nat->T)->T
 | 0,_,_,_,_=>T.fail
 | j+1,c,e,g,κ =>
  match c with
  | .skip=>κ .normal e g
  | .label _=>κ .normal e g
  | .exit i=>κ (.exit i) e g
  | .goto l=>κ (.goto l) e g
  | .ret=>κ .ret e g
  | .seq a b =>
   match Lt d (kw b) 1000 with
   | false=>gu P n d j a e g fun x h f=>match x with
    | .normal=>gu P n d j b h f κ
    | x=>κ x h f
   | true =>
    Rs ((live e (jj (eQ a))).map (·.1)) ((live e (jj (eQ a))).map fun p=>Oc p.2) (eQ a) e g
     (fun k=>gu P n d j a e (g+1) fun x h f=>match x with
      | .normal=>k h
      | x=>κ x h f)
     (fun h=>gu P n d j b h g κ)
  | .cond c a b=>match ev e c with
   | some (.bool t)=>cond t (gu P n d j a e g κ) (gu P n d j b e g κ)
   | _=>T.fail
  | .block id c=>gu P n d j c e g fun x h f=>match x with
   | .exit i=>match Nat.beq i id with
    | true=>κ .normal h f
    | false=>κ (.exit i) h f
   | x=>κ x h f
  | .region id ops m =>
   match Lt d (some id) 0 with
   | false=>match m with
    | false=>Gw P n ops ops.toList e fun h=>κ .normal h g
    | true=>wK P n id ops e fun h=>κ .normal h g
   | true=>Rs ((handsOn P ops.toList).map (·.1)) ((handsOn P ops.toList).map (·.2)) (dstsOf ops) e g
     (fun k=>match m with
      | false=>Gw P n ops ops.toList e k
      | true=>wK P n id ops e k)
     (fun h=>κ .normal h g)
  | .loop c=>Kp (eQ c) e g fun h k=>gu P n d j c h (g+1) fun x o f=>match x with
   | .normal=>k o
   | x=>κ x o f
  | .scope c=>match CZ c with
   | none=>mw P n d j c c e g none (fun _=>T.fail) κ
   | some l=>match findLabel c l with
    | none=>T.fail
    | some r=>ym P n d j c c l r e g κ
  | _=>T.fail
def mw (P:Program) (n:Nat) (a:List Nat):Nat->Code->Code->Env->Nat->Option Nat->(Env->T)->(Exit->Env->Nat->T)->T
 | 0,_,_,_,_,_,_,_=>T.fail
 | f+1,c,r,e,g,back,k,κ=>gu P n a f r e g fun x d b=>match x with
  | .goto l=>match nv back l with
   | true=>k d
   | false=>match findLabel c l with
    | some h=>mw P n a f c h d b back k κ
    | none=>κ (.goto l) d b
  | x=>κ x d b
def ym (P:Program) (n:Nat) (d:List Nat):Nat->Code->Code->Nat->Code->Env->Nat->(Exit->Env->Nat->T)->T
 | 0,_,_,_,_,_,_,_=>T.fail
 | g+1,c,t,l,r,e,h,κ =>
  match fX l t with
  | true=>Kp (eQ c) e h fun i k=>mw P n d g c r i (h+1) (some l) k κ
  | false=>match t with
   | .seq a b=>match findLabel a l with
    | some _=>T.fail
    | none=>gu P n d g a e h fun x j f=>match x with
     | .normal=>ym P n d g c b l r j f κ
     | .goto _=>T.fail
     | x=>κ x j f
   | _=>T.fail
end
def yf (P:Program):List ResultVar->Env->(List Xab->T)->T
 | [],_,k=>k []
 | .tmp t::b,e,k=>ct e (.tmp t) fun v=>yf P b e fun l=>k (v::l)
 | .cell a t::b,e,k=>ct e (.tmp a) fun p=>match p,cH P t with
  | .pointer p,some true=>bif (fA P 9 t).length==P.cellsOf t then T.bf p fun a=>T.af a (fA P 9 t) (jO _ fun l=>yf P b e fun l'=>k (.agg l.toArray::l')) else T.fail
  | .pointer p,some false=>T.bf p fun a=>T.af a (cM P t).2 (jO _ fun l=>yf P b e fun l'=>k (l.headD undef::l'))
  | _,_=>T.fail
def one (l:List Xab):Xab :=
 match l with
 | [v]=>v
 | l=>.tuple l.toArray
def vu:Nat->List Xab->Env
 | _,[]=>[]
 | i,v::a=>(i,some v)::vu (i+1) a
def bZ (P:Program) (a:List Nat) (fn:Func) (args:List Xab):T :=
 match fn.body with
 | none=>T.fail
 | some c=>gu P fn.ntmps a 100000 c (vu 0 args) 0 fun x e _=>match x with
  | .normal=>yf P fn.results.toList e fun l=>T.ret (one l)
  | .ret=>yf P fn.results.toList e fun l=>T.ret (one l)
  | _=>T.fail
end Go.Sx
