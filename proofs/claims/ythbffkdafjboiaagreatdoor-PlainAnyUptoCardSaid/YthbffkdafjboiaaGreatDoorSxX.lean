/- Part of the framework. No condition. -/
import Derived.Test.YthbffkdafjboiaaGreatDoorSxT
set_option linter.all false
set_option maxHeartbeats 4000000
namespace Go.Sx
abbrev Env:=List (Nat × Option Xab)
def cQ:Env->Nat->Option Xab
 | [],_=>none
 | (s,v)::e,t=>bif Nat.beq s t then v else cQ e t
def dX (n:Nat) (e:Env) (dst:Option Tmp) (v:Xab):Env :=
 match dst with
 | none=>e
 | some d=>bif Nat.blt d n then (d,some v)::e else e
def ev (e:Env):Operand->Option Xab
 | .tmp t=>cQ e t
 | .const v=>some v
 | .global g=>some (.pointer (some ⟨g,0,none⟩))
 | .func f=>some (.func (.func f) #[] #[])
namespace T
def bi (p:Xac) (k:Xax->T):T :=
 match p with
 | some a=>k a
 | none=>T.fail
end T
def eX (P:Program):Nat->TypeId->List TypeDesc
 | 0,_=>[.invalid]
 | n+1,t =>
  match P.underlying t with
  | some (.struct fs)=>fs.toList.flatMap fun f=>eX P n f.type
  | some (.array k e)=>(List.replicate k (eX P n e)).flatten
  | some d=>[d]
  | none=>[.invalid]
def cG (P:Program) (t:TypeId):fI :=
 match P.underlying t with
 | some (.struct _)=>(true,eX P 9 t)
 | some (.array _ _)=>(true,eX P 9 t)
 | some d=>(false,[d])
 | none=>(false,[.invalid])
def lf (P:Program) (t:TypeId):Bool × List fI :=
 match P.underlying t with
 | some (.tuple ts)=>(true,ts.toList.map (cG P))
 | _=>(false,[cG P t])
def Je (b:Bool):List fI :=
 match b with
 | true=>[(false,[.int .i64]),(false,[.int .i32])]
 | false=>[(false,[.string]),(false,[.bool])]
def bY (e:Env) (x:Operand) (k:Xab->T):T :=
 match ev e x with
 | some v=>k v
 | none=>T.fail
def iq (e:Env):List Operand->(List Xab->T)->T
 | [],k=>k []
 | x::xs,k=>bY e x fun v=>iq e xs fun l=>k (v::l)
def cw (s:Xaa) (n:Int):Int:=((s.data.toList.getD n.toNat 0).toNat:Nat)
def DU (op:BinOp) (k:IntKind) (x y:Int):Int :=
 match op with
 | .and=>k.wrap (BitVec.ofInt k.bits x &&& BitVec.ofInt k.bits y).toNat
 | .or=>k.wrap (BitVec.ofInt k.bits x ||| BitVec.ofInt k.bits y).toNat
 | .xor=>k.wrap (BitVec.ofInt k.bits x ^^^ BitVec.ofInt k.bits y).toNat
 | _=>k.wrap (BitVec.ofInt k.bits x &&& ~~~ BitVec.ofInt k.bits y).toNat
def HS (op:BinOp) (k:IntKind) (m n:Int) (kk:Xab->T):T :=
 match op with
 | .add=>kk (.int k (k.wrap (m+n)))
 | .sub=>kk (.int k (k.wrap (m-n)))
 | .mul=>kk (.int k (k.wrap (m*n)))
 | .quo=>T.need (n≠0) (kk (.int k (k.wrap (m.tdiv n))))
 | .rem=>T.need (n≠0) (kk (.int k (m.tmod n)))
 | .eql=>kk (.bool (m==n))
 | .neq=>kk (.bool (m != n))
 | .lss=>kk (.bool (decide (m<n)))
 | .leq=>kk (.bool (decide (m<=n)))
 | .gtr=>kk (.bool (decide (m>n)))
 | .geq=>kk (.bool (decide (m>=n)))
 | .and=>kk (.int k (DU .and k m n))
 | .or=>kk (.int k (DU .or k m n))
 | .xor=>kk (.int k (DU .xor k m n))
 | .andNot=>kk (.int k (DU .andNot k m n))
 | _=>T.fail
def zP (op:BinOp) (k:IntKind) (m n:Int) (kk:Xab->T):T :=
 match op with
 | .shl=>T.need (0<=n) (kk (.int k (k.wrap (m*2^(min n.toNat k.bits)))))
 | .shr=>T.need (0<=n) (kk (.int k (m.fdiv (2^(min n.toNat k.bits)))))
 | _=>T.fail
def HM (op:BinOp) (x y:Xaa) (kk:Xab->T):T :=
 match op with
 | .add=>T.need (((x.size+y.size:Nat):Int)<=IntKind.i64.max) (kk (.string (x++y)))
 | .eql=>kk (.bool (x.toList==y.toList))
 | .neq=>kk (.bool !(x.toList==y.toList))
 | .lss=>kk (.bool (Op.bytesLess x.toList y.toList))
 | .leq=>kk (.bool (Op.bytesLess x.toList y.toList || x.toList==y.toList))
 | .gtr=>kk (.bool !(Op.bytesLess x.toList y.toList || x.toList==y.toList))
 | .geq=>kk (.bool !(Op.bytesLess x.toList y.toList))
 | _=>T.fail
def mX:BinOp->Bool
 | .shl=>true
 | .shr=>true
 | _=>false
def isNil (x:Operand):Bool :=
 match x with
 | .const (.pointer none)=>true
 | .const (.slice none 0 0)=>true
 | .const (.map none)=>true
 | _=>false
def kw (op:BinOp) (t:TypeId) (x y:Operand) (a b:Xab):Sem Xab:=do eqGuard op t x y a b; binOp op t a b
def PM (P:Program) (op:BinOp) (t:TypeId) (x y:Operand) (a b:Xab) (kk:Xab->T):T :=
 T.ek P (kw op t x y a b) false [(false,[.bool])] fun r=>kk (.bool r)
def asked (op:BinOp) (b:Bool) (kk:Xab->T) (other:T):T :=
 match op with
 | .eql=>kk (.bool b)
 | .neq=>kk (.bool !b)
 | _=>other
def rP (P:Program) (t:TypeId) (x y:Operand):Bool :=
 match P.underlying t with
 | some (.int _)=>true
 | some .string=>true
 | some .bool=>true
 | some (.pointer _)=>isNil y
 | some (.slice _)=>isNil y
 | some (.map _ _)=>isNil y
 | _=>false
def tk (P:Program) (op:BinOp) (t:TypeId) (a b:Xab) (kk:Xab->T):T :=
 match a,b with
 | .int k m,.int k' n =>
  match mX op with
  | true=>zP op k m n kk
  | false=>match decide (k=k') with
   | true=>HS op k m n kk
   | false=>T.fail
 | .string m,.string n=>HM op m n kk
 | .bool m,.bool n =>
  match P.underlying t with
  | some .bool=>asked op (m==n) kk T.fail
  | _=>T.fail
 | .pointer p,.pointer _ =>
  match P.underlying t with
  | some (.pointer _)=>asked op p.isNone kk T.fail
  | _=>T.fail
 | .slice p _ _,.slice _ _ _ =>
  match P.underlying t with
  | some (.slice _)=>asked op p.isNone kk T.fail
  | _=>T.fail
 | .map p,.map _ =>
  match P.underlying t with
  | some (.map _ _)=>asked op p.isNone kk T.fail
  | _=>T.fail
 | _,_=>T.fail
def DH (P:Program) (op:BinOp) (t:TypeId) (x y:Operand) (a b:Xab) (kk:Xab->T):T :=
 match rP P t x y with
 | true=>tk P op t a b kk
 | false=>PM P op t x y a b kk
def U9 (op:UnOp) (a:Xab) (kk:Xab->T):T :=
 match op,a with
 | .neg,.int k n=>kk (.int k (k.wrap (0-n)))
 | .xor,.int k n=>kk (.int k (DU .xor k (if k.signed then -1 else k.max) n))
 | .not,.bool b=>kk (.bool !b)
 | _,_=>T.fail
def xO (P:Program) (src dst:TypeId) (a:Xab) (kk:Xab->T):T :=
 match P.underlying src,P.underlying dst,a with
 | some (.int _),some (.int k),.int _ n=>kk (.int k (k.wrap n))
 | some .string,some .string,.string s=>kk (.string s)
 | some .string,some .string,_=>T.fail
 | _,some (.slice _),_=>T.ek P (convert src dst a) false [(false,[.slice 0])] fun p l c=>kk (.slice p l c)
 | _,some .string,_=>T.ek P (convert src dst a) false [(false,[.string])] fun s=>kk (.string s)
 | _,_,_=>T.fail
def kz:Option Xab->Int
 | some (.int _ n)=>n
 | _=>0
def eC:Option Xab->Bool
 | some (.int _ _)=>true
 | none=>true
 | _=>false
def kS (d:Int):Option Xab->Int
 | some (.int _ n)=>n
 | _=>d
def nN (P:Program) (t:TypeId):Bool:=(P.info? t).isSome
def iQ (P:Program) (t:TypeId) (a:Xab) (d hi j:Option Xab) (kk:Xab->T):T :=
 match eC d && eC hi && eC j with
 | false=>T.fail
 | true =>
  match P.underlying t with
  | some .string=>match a,j with
   | .string s,none =>
    T.need (0<=kz d/\kz d<=kS s.size hi/\kS s.size hi<=s.size) (kk (.string (s.extract (kz d).toNat (kS s.size hi).toNat)))
   | _,_=>T.fail
  | some (.slice e)=>match j with
   | some _=>T.ek P (Instr.sliceAt t a d hi j) false [(false,[.slice 0])] fun p l c=>kk (.slice p l c)
   | none=>match a with
    | .slice p len cap =>
     match nN P e with
     | false=>T.fail
     | true=>T.need (0<=kz d/\kz d<=kS len hi/\kS len hi<=cap) (kk (.slice (if cap=(kz d).toNat then p else p.map (·.add ((kz d).toNat*P.cellsOf e))) ((kS len hi).toNat-(kz d).toNat) (cap-(kz d).toNat)))
    | _=>T.fail
  | _=>T.ek P (Instr.sliceAt t a d hi j) false [(false,[.slice 0])] fun p l c=>kk (.slice p l c)
def tv (P:Program) (t:TypeId) (cs:List Xab) (off:Nat) (kk:Xab->T):T :=
 match P.underlying t with
 | some (.struct _)=>kk (.agg ((cs.drop off).take (P.cellsOf t)).toArray)
 | some (.array _ _)=>kk (.agg ((cs.drop off).take (P.cellsOf t)).toArray)
 | some _=>match cs[off]? with
  | some v=>kk v
  | none=>T.fail
 | none=>T.fail
def cH (P:Program) (t:TypeId):Option Bool :=
 match P.underlying t with
 | some (.struct _)=>some true
 | some (.array _ _)=>some true
 | some _=>some false
 | none=>none
def jN:Xab->List Xab
 | .agg cs=>cs.toList
 | _=>[]
def eS:Xab->Bool
 | .agg _=>true
 | _=>false
def fK (P:Program) (f:FuncId):Bool :=
 match P.funcs[f]? with
 | some fn => fn.body.isSome && !(fn.name == "runtime.NumGoroutine")
 | none=>false
def Fg:Operand->Bool
 | .tmp _=>true
 | .const _=>false
 | .global _=>false
 | .func _=>false
def HU (f:FuncId) (args:Array Xab):Sem Xab:=do
 match <- callFunc f args with
 | .value v=>pure v
 | _ => stuck "no value"
def CM (P:Program) (f:FuncId) (args:List Xab) (t:TypeId) (kk:Xab->T):T :=
 match fK P f with
 | true=>T.call P f args (lf P t).1 (lf P t).2 (jv _ fun l=>kk (rv (lf P t).1 (lf P t).2 l))
 | false=>T.ek P (HU f args.toArray) (lf P t).1 (lf P t).2 (jv _ fun l=>kk (rv (lf P t).1 (lf P t).2 l))
def zy (P:Program) (c:Call) (t:TypeId) (args:List Xab) (kk:Xab->T):T :=
 match (c.argTypes[0]?).bind P.underlying with
 | some .string=>match args with
  | [.string s]=>kk (.int .i64 s.size)
  | _=>T.fail
 | some (.slice _)=>match args with
  | [.slice _ n _]=>kk (.int .i64 n)
  | _=>T.fail
 | _=>T.ek P (Builtin.len_ c.argTypes t args.toArray) false [(false,[.int .i64])] fun n=>kk (.int .i64 n)
def J9 (P:Program) (c:Call) (args:List Xab) (kk:Xab->T):T :=
 match (c.argTypes[0]?).bind P.underlying with
 | some (.slice _)=>match args with
  | [.slice _ _ n]=>kk (.int .i64 n)
  | _=>T.fail
 | _=>T.fail
def rI (P:Program) (b:Builtin) (c:Call) (t:TypeId) (args:List Xab) (kk:Xab->T):T :=
 match b,args with
 | .len,_=>zy P c t args kk
 | .cap,_=>J9 P c args kk
 | .append,_=>T.ek P (Builtin.append_ c.argTypes t args.toArray) false [(false,[.slice 0])] fun p l d=>kk (.slice p l d)
 | .copy,_=>T.ek P (Builtin.copy_ c.argTypes t args.toArray) false [(false,[.int .i64])] fun n=>kk (.int .i64 n)
 | .min,_=>T.ek P (Builtin.min_ c.argTypes t args.toArray) false [cG P t] (jv _ fun l=>kk (rv false [cG P t] l))
 | .max,_=>T.ek P (Builtin.max_ c.argTypes t args.toArray) false [cG P t] (jv _ fun l=>kk (rv false [cG P t] l))
 | .delete,_=>T.ek P (Builtin.delete_ c.argTypes t args.toArray) true [] (kk (.tuple #[]))
 | .unsafeString,_=>T.ek P (Builtin.unsafeString_ c.argTypes t args.toArray) false [cG P t] (jv _ fun l=>kk (rv false [cG P t] l))
 | .unsafeSliceData,_=>T.ek P (Builtin.unsafeSliceData_ c.argTypes t args.toArray) false [cG P t] (jv _ fun l=>kk (rv false [cG P t] l))
 | _,_=>T.fail
def Vd (P:Program) (t:TypeId) (d hi j:Option Operand) (a:Xab) (vs:List Xab) (kk:Xab->T):T :=
 match d,hi,j,vs with
 | none,none,none,[]=>iQ P t a none none none kk
 | some _,none,none,[l]=>iQ P t a (some l) none none kk
 | none,some _,none,[h]=>iQ P t a none (some h) none kk
 | some _,some _,none,[l,h]=>iQ P t a (some l) (some h) none kk
 | some _,some _,some _,[l,h,m]=>iQ P t a (some l) (some h) (some m) kk
 | none,some _,some _,[h,m]=>iQ P t a none (some h) (some m) kk
 | _,_,_,_=>T.fail
def yk (P:Program) (t:TypeId) (v i:Xab) (kk:Xab->T):T :=
 match v,i,P.underlying t with
 | .slice p len _,.int _ n,some (.slice d)=>bif !nN P d then T.fail else T.need (0<=n/\n<len) (T.bi p fun a=>kk (.pointer (some (a.add (n.toNat*P.cellsOf d)))))
 | .pointer p,.int _ n,some (.array len d)=>bif !nN P d then T.fail else T.need (0<=n/\n<len) (T.bi p fun a=>kk (.pointer (some (a.add (n.toNat*P.cellsOf d)))))
 | _,_,_=>T.fail
def GX (P:Program) (t:TypeId) (v i:Xab) (kk:Xab->T):T :=
 match v,i,P.underlying t with
 | .string s,.int _ n,some .string=>T.need (0<=n/\n<s.size) (kk (.int .u8 (cw s n)))
 | v,i,some (.array len d)=>T.ek P (Instr.index t v i) false [cG P d] (jv _ fun l=>kk (rv false [cG P d] l))
 | _,_,_=>T.fail
def sZ (xs:List Xab):Nat->List Xab->List Xab
 | _,[]=>xs
 | i,v::vs=>sZ (xs.set i v) (i+1) vs
def fx (place:Nat->Option (Nat × Nat)) (cells:List Xab):List (Nat × List Xab)->Option (List Xab)
 | []=>some cells
 | (i,l)::rest =>
  match place i with
  | none=>none
  | some (off,size)=>bif !(Nat.beq l.length size) || Nat.blt cells.length (off+l.length) then none else fx place (sZ cells off l) rest
def fh (agg:Nat->Option Bool):List (Nat × Xab)->(List (Nat × List Xab)->T)->T
 | [],k=>k []
 | (i,v)::l,k =>
  match agg i with
  | some true=>cond (eS v) (fh agg l fun r=>k ((i,jN v)::r)) T.fail
  | some false=>cond (eS v) T.fail (fh agg l fun r=>k ((i,[v])::r))
  | none=>T.fail
def uH (P:Program) (o:Oper) (e:Env) (kk:Xab->T):T :=
 match o.op with
 | .move x=>bY e x kk
 | .assign x=>bY e x kk
 | .pick c a b=>bY e c fun c=>match c with
  | .bool b'=>cond b' (bY e a kk) (bY e b kk)
  | _=>T.fail
 | .alloc t=>match (P.info? t).bind (·.zero) with
  | some z=>T.new z.cells.toList t fun a=>kk (.pointer (some a))
  | none=>T.fail
 | .box t x=>bY e x fun v=>match cH P t with
  | some true=>cond (eS v) (T.new (jN v) t fun a=>kk (.pointer (some a))) T.fail
  | some false=>cond (eS v) T.fail (T.new [v] t fun a=>kk (.pointer (some a)))
  | none=>T.fail
 | .build t ps=>iq e (ps.toList.map (·.2)) fun vs=>match P.underlying t,(P.info? t).bind (·.zero) with
  | some (.struct fs),some z =>
   bif !(fs.all fun f=>nN P f.type) then T.fail else fh (fun i=>(fs[i]?).bind fun f=>cH P f.type) ((ps.toList.map (·.1)).zip vs) fun F=>match fx (((fs.map fun f=>(f.offset,P.cellsOf f.type)))[·]?) z.cells.toList F with
   | some cs=>kk (.agg cs.toArray)
   | none=>T.fail
  | some (.array _ j),some z =>
   bif !nN P j then T.fail else fh (fun _=>cH P j) ((ps.toList.map (·.1)).zip vs) fun F=>match fx (fun i=>some (i*P.cellsOf j,P.cellsOf j)) z.cells.toList F with
   | some cs=>kk (.agg cs.toArray)
   | none=>T.fail
  | _,_=>T.fail
 | .buildSlice t len ps=>iq e (ps.toList.map (·.2)) fun vs =>
  T.ek P (Instr.buildSlice t len ((ps.toList.map (·.1)).zip vs).toArray) false [(false,[.slice 0])] fun p l c=>kk (.slice p l c)
 | .load t x=>bY e x fun v=>match v,cH P t with
  | .pointer p,some true=>bif (eX P 9 t).length==P.cellsOf t then T.bi p fun a=>T.ah a (eX P 9 t) (jv _ fun l=>kk (.agg l.toArray)) else T.fail
  | .pointer p,some false=>T.bi p fun a=>T.ah a (cG P t).2 (jv _ fun l=>kk (l.headD undef))
  | _,_=>T.fail
 | .store t x y=>bY e x fun p=>bY e y fun v=>match p,cH P t with
  | .pointer p,some true=>cond (eS v) (bif (jN v).length==P.cellsOf t then T.bi p fun a=>T.aC a (jN v) (kk undef) else T.fail) T.fail
  | .pointer p,some false=>bif P.cellsOf t==1 then cond (eS v) T.fail (T.bi p fun a=>T.aC a [v] (kk undef)) else T.fail
  | _,_=>T.fail
 | .nilCheck x=>bY e x fun v=>match v with
  | .pointer p=>T.bi p fun a=>kk (.pointer (some a))
  | .func (.func f) u ca=>kk (.func (.func f) u ca)
  | .iface t v=>kk (.iface t v)
  | _=>T.fail
 | .binOp op t x y _=>bY e x fun a=>bY e y fun b=>DH P op t x y a b kk
 | .unOp op _ x=>bY e x fun a=>U9 op a kk
 | .convert s d x=>bY e x fun a=>xO P s d a kk
 | .makeInterface t x=>bY e x fun a=>match P.underlying t with
  | some (.interface _)=>T.fail
  | some _=>kk (.iface t a)
  | none=>T.fail
 | .makeFunc fn u ca=>iq e u.toList fun u=>iq e ca.toList fun ca=>kk (.func fn u.toArray ca.toArray)
 | .makeMap t none=>T.ek P (Instr.makeMap t none) false [(false,[.map 0 0])] fun r=>kk (.map r)
 | .makeSlice t l c=>bY e l fun l=>bY e c fun c=>T.ek P (Instr.makeSlice t l c) false [(false,[.slice 0])] fun p l c=>kk (.slice p l c)
 | .slice t x G hi J=>bY e x fun a=>iq e (G.toList++hi.toList++J.toList) fun vs=>Vd P t G hi J a vs kk
 | .fieldAddr s x f=>bY e x fun v=>match v,P.underlying s with
  | .pointer p,some (.struct fs)=>match fs[f]? with
   | some fd=>match P.cellsOf fd.type with
    | 0=>T.fail
    | _+1=>T.bi p fun a=>kk (.pointer (some (a.add fd.offset)))
   | none=>T.fail
  | _,_=>T.fail
 | .field s x f=>bY e x fun v=>match v,P.underlying s with
  | .agg cs,some (.struct fs)=>match fs[f]? with
   | some fd=>tv P fd.type cs.toList fd.offset kk
   | none=>T.fail
  | _,_=>T.fail
 | .indexAddr t x i=>bY e x fun v=>bY e i fun i=>yk P t v i kk
 | .index t x i=>bY e x fun v=>bY e i fun i=>GX P t v i kk
 | .lookup t m x ok=>bY e m fun m=>bY e x fun x=>match P.underlying t with
  | some (.map _ j)=>match ok with
   | true=>T.ek P (Instr.lookup t m x true) true [cG P j,(false,[.bool])] (jv _ fun l=>kk (rv true [cG P j,(false,[.bool])] l))
   | false=>T.ek P (Instr.lookup t m x false) false [cG P j] (jv _ fun l=>kk (rv false [cG P j] l))
  | _=>T.fail
 | .mapUpdate t m x v=>bY e m fun m=>bY e x fun x=>bY e v fun v=>T.ey P (Instr.mapUpdate t m x v) (kk undef)
 | .insert t m x v=>bY e m fun m=>bY e x fun x=>bY e v fun v=>T.ey P (Instr.mapUpdate t m x v) (kk undef)
 | .mapEntry t m x=>bY e m fun m=>bY e x fun x=>match P.underlying t with
  | some (.map _ j)=>T.ek P (Instr.mapEntry t m x) true [cG P j,(false,[.int .i64])] (jv _ fun l=>kk (rv true [cG P j,(false,[.int .i64])] l))
  | _=>T.fail
 | .entryStore t m x v=>bY e m fun m=>bY e x fun x=>bY e v fun v=>T.ey P (Instr.entryStore t m x v) (kk undef)
 | .range t x=>bY e x fun x=>T.ek P (Instr.range t x) false [(false,[.pointer 0])] fun p=>kk (.pointer p)
 | .next it b=>bY e it fun it=>match P.underlying o.type with
  | some (.tuple ts)=>match ts.toList with
   | []=>T.next P (Instr.next it b o.type) (Je b) (kk (.tuple #[.bool false])) (jv _ fun l=>kk (.tuple (.bool true::parts (Je b) l).toArray))
   | _::ts=>T.next P (Instr.next it b o.type) (ts.map (cG P)) (kk (.tuple #[.bool false])) (jv _ fun l=>kk (.tuple (.bool true::parts (ts.map (cG P)) l).toArray))
  | _=>T.fail
 | .entry it=>bY e it fun it=>T.ek P (Instr.entry it) true (Je false) (jv _ fun l=>kk (rv true (Je false) l))
 | .typeAssert x t d ok=>bY e x fun x=>match ok with
  | true=>T.ek P (Instr.typeAssert x t d true) true [cG P d,(false,[.bool])] (jv _ fun l=>kk (rv true [cG P d,(false,[.bool])] l))
  | false=>T.ek P (Instr.typeAssert x t d false) false [cG P d] (jv _ fun l=>kk (rv false [cG P d] l))
 | .extract x i=>bY e x fun v=>match v with
  | .tuple vs=>match vs.toList[i]? with
   | some v=>kk v
   | none=>T.fail
  | _=>T.fail
 | .call c=>match c.callee with
  | .builtin b=>iq e c.args.toList fun vs=>rI P b c o.type vs kk
  | .value g=>match Fg g with
   | true=>bY e g fun g=>iq e c.args.toList fun vs=>T.tH P g vs (lf P o.type).1 (lf P o.type).2 (jv _ fun l=>kk (rv (lf P o.type).1 (lf P o.type).2 l))
   | false=>bY e g fun g=>iq e c.args.toList fun vs=>match g with
    | .func (.func f) u ca=>CM P f (u.toList++vs++ca.toList) o.type kk
    | .func (.method _) _ _=>T.fail
    | .func (.methodOf _ _) _ _=>T.fail
    | .func (.via _ _ _ _) _ _=>T.fail
    | .func (.yield _) _ _=>T.fail
    | .nilFunc=>T.fail
    | .bool _=>T.fail
    | .int _ _=>T.fail
    | .float _ _=>T.fail
    | .complex _ _ _=>T.fail
    | .string _=>T.fail
    | .pointer _=>T.fail
    | .slice _ _ _=>T.fail
    | .map _=>T.fail
    | .chan _=>T.fail
    | .iface _ _=>T.fail
    | .nilIface=>T.fail
    | .agg _=>T.fail
    | .tuple _=>T.fail
  | .invoke _ _=>T.fail
 | _=>T.fail
def guardOf (ops:Array Oper) (o:Oper):Option (Option Tmp × Bool) :=
 match o.guard with
 | none=>none
 | some (j,want)=>some ((ops[j]?).bind (·.dst),want)
def lN (n:Nat) (ops:Array Oper) (o:Oper) (e:Env) (j no:Env->T):T :=
 match guardOf ops o with
 | none=>j e
 | some (none,_)=>no e
 | some (some d,want) =>
  match cQ e d with
  | some (.bool b)=>match want with
   | true=>cond b (j (dX n e (some d) (.bool true))) (no (dX n e (some d) (.bool false)))
   | false=>cond b (no (dX n e (some d) (.bool true))) (j (dX n e (some d) (.bool false)))
  | some (.tuple _)=>no e
  | _=>T.fail
def EZ (P:Program) (n:Nat) (ops:Array Oper):List Oper->Env->(Env->T)->T
 | [],e,k=>k e
 | o::rest,e,k=>lN n ops o e (fun e=>uH P o e fun v=>EZ P n ops rest (dX n e o.dst v) k) (fun e=>EZ P n ops rest (dX n e o.dst undef) k)
def rV (P:Program) (o:Oper):Bool :=
 match o.op with
 | .move _=>true
 | .pick _ _ _=>true
 | .build _ _=>true
 | .nilCheck _=>true
 | .binOp _ t x y _=>rP P t x y
 | .unOp _ _ _=>true
 | .convert s d _=>match P.underlying s,P.underlying d with
  | some (.int _),some (.int _)=>true
  | some .string,some .string=>true
  | _,_=>false
 | .makeInterface _ _=>true
 | .makeFunc _ _ _=>true
 | .slice t _ _ _ none=>match P.underlying t with
  | some .string=>true
  | some (.slice _)=>true
  | _=>false
 | .fieldAddr _ _ _=>true
 | .field _ _ _=>true
 | .indexAddr _ _ _=>true
 | .index t _ _=>match P.underlying t with
  | some .string=>true
  | _=>false
 | .extract _ _=>true
 | .call c=>match c.callee with
  | .builtin .len=>match (c.argTypes[0]?).bind P.underlying with
   | some .string=>true
   | some (.slice _)=>true
   | _=>false
  | .builtin .cap=>match (c.argTypes[0]?).bind P.underlying with
   | some (.slice _)=>true
   | _=>false
  | _=>false
 | _=>false
def AJ (o:Oper):Bool :=
 match o.op with
 | .load _ _=>true
 | _=>false
def calm (P:Program) (o:Oper):Bool:=rV P o || AJ o
def sX (x:Nat):List Nat->Bool
 | []=>false
 | y::l=>Nat.beq x y || sX x l
def waits (o:Oper):List Nat:=(o.after.toList.filter fun e=>Region.binds .any e).map (·.on)
def xE (D:List Nat) (i:Nat) (o:Oper):Bool:=!sX i D && (waits o).all fun j=>sX j D
def looks (ops : Array Oper) (o : Oper) : List Nat :=
  (o.op.operands.toList.filterMap fun | .tmp t => some t | _ => none) ++
  (match o.guard with
   | some (g, _) => ((ops[g]?).bind (·.dst)).toList
   | none => [])
def mP:Option Nat->Nat->Bool
 | some d,s=>Nat.beq d s
 | none,_=>false
def H9 (P : Program) (ops : Array Oper) (i j : Nat) (x y : Oper) : Bool :=
  match Nat.beq i j with
  | true => (match x.dst with
    | some d => !calm P x || !sX d (looks ops x)
    | none => true)
  | false => (match y.dst with
    | some d => !sX d (looks ops x) || sX j (waits x) || (sX i (waits y) && !calm P y)
    | none => true) &&
   (match x.dst, calm P x with
    | some d, true => !mP y.dst d
    | _, _ => true)
def idx:Nat->List Oper->List (Nat × Oper)
 | _,[]=>[]
 | i,o::l=>(i,o)::idx (i+1) l
def ej (P : Program) (n : Nat) (ops : Array Oper) : Bool :=
  ((idx 0 ops.toList).all fun p => match p.2.dst with
    | some d => Nat.blt d n
    | none => true) && (idx 0 ops.toList).all fun p => (idx 0 ops.toList).all fun q => H9 P ops p.1 q.1 p.2 q.2
abbrev Made:=List (Nat × Xax × List Xab)
def kq (o:Oper):Made->List (Xax × List Xab)
 | []=>[]
 | (i,a,l)::m=>bif sX i (waits o) then kq o m else (a,l)::kq o m
def vk (l:List (Xax × List Xab)) (t:T):T :=
 match l with
 | []=>t
 | p::l=>T.bj (p::l) t
def Um:List T->T
 | []=>T.fail
 | [t]=>t
 | t::ts=>T.all (t::ts)
def rz (P:Program) (t:TypeId) (x:Operand) (e:Env) (kk:Xax->List Xab->Xab->T):T :=
 bY e x fun v=>match v,cH P t with
  | .pointer p,some true=>bif (eX P 9 t).length==P.cellsOf t then T.bi p fun a=>T.ah a (eX P 9 t) (jv _ fun l=>kk a l (.agg l.toArray)) else T.fail
  | .pointer p,some false=>T.bi p fun a=>T.ah a (cG P t).2 (jv _ fun l=>kk a l (l.headD undef))
  | _,_=>T.fail
def cY (P:Program) (D:List Nat) (c:Bool):List (Nat × Oper)->List (Nat × Oper)
 | []=>[]
 | p::l=>match xE D p.1 p.2 && (calm P p.2==c) with
  | true=>p::cY P D c l
  | false=>cY P D c l
def fU (P:Program) (n:Nat) (ops:Array Oper):Nat->List Nat->Env->Made->(Env->T)->T
 | 0,_,_,_,_=>T.fail
 | fu+1,D,e,m,k =>
  match cY P D true (idx 0 ops.toList) with
  | (i,o)::_ =>
   lN n ops o e (fun e=>match o.op with
    | .load t x=>rz P t x e fun a l v=>fU P n ops fu (i::D) (dX n e o.dst v) ((i,a,l)::m) k
    | _=>uH P o e fun v=>fU P n ops fu (i::D) (dX n e o.dst v) m k)
    fun e=>fU P n ops fu (i::D) (dX n e o.dst undef) m k
  | [] =>
   match cY P D false (idx 0 ops.toList) with
   | []=>k e
   | q::d=>Um ((q::d).map fun p=>lN n ops p.2 e (fun e=>uH P p.2 e fun v=>vk (kq p.2 m) (fU P n ops fu (p.1::D) (dX n e p.2.dst v) m k))
     fun e=>fU P n ops fu (p.1::D) (dX n e p.2.dst undef) m k)
def vK (P:Program) (n:Nat) (_id:Nat) (ops:Array Oper) (e:Env) (k:Env->T):T :=
 match ej P n ops with
 | true=>fU P n ops (ops.size+1) [] e [] k
 | false=>T.fail
def ez:Code->List Nat
 | .region _ ops _=>ops.toList.filterMap (·.dst)
 | .seq a b=>ez a++ez b
 | .cond _ a b=>ez a++ez b
 | .block _ c=>ez c
 | .loop c=>ez c
 | .scope c=>ez c
 | .rangeFunc _ ps a b=>ps.toList++ez a++ez b
 | _=>[]
def sJ (x:Nat):List Nat->List Nat
 | []=>[x]
 | y::l=>bif Nat.blt x y then x::y::l else bif Nat.beq x y then y::l else y::sJ x l
def iP (l:List Nat):List Nat:=l.foldl (fun d x=>sJ x d) []
def Sr:Xab->TypeDesc
 | .bool _=>.bool
 | .int k _=>.int k
 | .string _=>.string
 | .pointer _=>.pointer 0
 | .slice _ _ _=>.slice 0
 | .map _=>.map 0 0
 | _=>.invalid
def L7:Xab->fI
 | .agg cs=>(true,cs.toList.map Sr)
 | v=>(false,[Sr v])
def live (e:Env):List Nat->List (Nat × Xab)
 | []=>[]
 | s::l=>match cQ e s with
  | some v=>(s,v)::live e l
  | none=>live e l
def forget (e:Env) (l:List Nat):Env:=l.map (fun s=>(s,none))++e
def np (l:List Nat) (vs:List Xab):Env:=(l.zip vs).map fun p=>(p.1,some p.2)
def As (e:Env):List Nat->(List Xab->T)->T
 | [],k=>k []
 | s::l,k=>match cQ e s with
  | some v=>As e l fun vs=>k (v::vs)
  | none=>T.fail
def ID (ms:List Nat) (e:Env) (lv:Nat) (j:Env->(Env->T)->T):T :=
 let d:=live e (iP ms)
 let ss:=d.map (·.1)
 let cs:=d.map fun p=>L7 p.2
 T.loop cs (d.map (·.2)) (jv (flat cs) fun l=>j (np ss (parts cs l)++forget e (iP ms)) fun e'=>As e' ss fun vs=>T.again lv vs)
def jO (l:Nat):Code->Bool
 | .goto l'=>Nat.beq l l'
 | .seq a b=>jO l a || jO l b
 | .cond _ a b=>jO l a || jO l b
 | .block _ c=>jO l c
 | .loop c=>jO l c
 | .scope c=>jO l c
 | .rangeFunc _ _ a b=>jO l a || jO l b
 | _=>false
def labels:Code->List Nat
 | .label l=>[l]
 | .seq a b=>labels a++labels b
 | _=>[]
def BL (c:Code):Option Nat :=
 (labels c).find? fun l=>match findLabel c l with
  | some r=>jO l r
  | none=>false
def S9:Code->Nat->Code
 | .seq a b,l=>match findLabel a l with
  | some _=>S9 a l
  | none=>.seq a (S9 b l)
 | _,_=>.skip
def O6 (ss:List Nat) (cs:List fI) (ms:List Nat) (e:Env) (lv:Nat) (first:(Env->T)->T) (after:Env->T):T :=
 T.join cs (first fun e'=>As e' ss fun vs=>T.again lv vs) (jv (flat cs) fun l=>after (np ss (parts cs l)++forget e (iP ms)))
def j3:Code->Option Nat
 | .region id _ _=>some id
 | .seq a b=>match j3 a with
  | some i=>some i
  | none=>j3 b
 | .cond _ a _=>j3 a
 | .block _ c=>j3 c
 | .loop c=>j3 c
 | .scope c=>j3 c
 | _=>none
def JD (cuts:List Nat):Option Nat->Nat->Bool
 | some i,k=>sX (i+k) cuts
 | none,_=>false
def handsOn (P:Program):List Oper->List (Nat × fI)
 | []=>[]
 | [o]=>match o.dst with
  | some d=>[(d,cG P o.type)]
  | none=>[]
 | o::l=>match o.op,o.dst with
  | .assign _,some d=>(d,cG P o.type)::handsOn P l
  | _,_=>handsOn P l
def fG (l:Nat):Code->Bool
 | .label l'=>Nat.beq l l'
 | .seq a _=>fG l a
 | _=>false
def dstsOf (ops:Array Oper):List Nat:=ops.toList.filterMap (·.dst)
mutual
def fO (P:Program) (n:Nat) (cuts:List Nat):Nat->Code->Env->Nat->(Exit->Env->Nat->T)->T
 | 0,_,_,_,_=>T.fail
 | fu+1,c,e,lv,κ =>
  match c with
  | .skip=>κ .normal e lv
  | .label _=>κ .normal e lv
  | .exit i=>κ (.exit i) e lv
  | .goto l=>κ (.goto l) e lv
  | .ret=>κ .ret e lv
  | .seq a b =>
   match JD cuts (j3 b) 1000 with
   | false=>fO P n cuts fu a e lv fun x e' d=>match x with
    | .normal=>fO P n cuts fu b e' d κ
    | x=>κ x e' d
   | true =>
    O6 ((live e (iP (ez a))).map (·.1)) ((live e (iP (ez a))).map fun p=>L7 p.2) (ez a) e lv
     (fun k=>fO P n cuts fu a e (lv+1) fun x e' d=>match x with
      | .normal=>k e'
      | x=>κ x e' d)
     (fun e'=>fO P n cuts fu b e' lv κ)
  | .cond c a b=>match ev e c with
   | some (.bool t)=>cond t (fO P n cuts fu a e lv κ) (fO P n cuts fu b e lv κ)
   | _=>T.fail
  | .block id c=>fO P n cuts fu c e lv fun x e' d=>match x with
   | .exit i=>match Nat.beq i id with
    | true=>κ .normal e' d
    | false=>κ (.exit i) e' d
   | x=>κ x e' d
  | .region id ops draw =>
   match JD cuts (some id) 0 with
   | false=>match draw with
    | false=>EZ P n ops ops.toList e fun e'=>κ .normal e' lv
    | true=>vK P n id ops e fun e'=>κ .normal e' lv
   | true=>O6 ((handsOn P ops.toList).map (·.1)) ((handsOn P ops.toList).map (·.2)) (dstsOf ops) e lv
     (fun k=>match draw with
      | false=>EZ P n ops ops.toList e k
      | true=>vK P n id ops e k)
     (fun e'=>κ .normal e' lv)
  | .loop c=>ID (ez c) e lv fun e' k=>fO P n cuts fu c e' (lv+1) fun x j d=>match x with
   | .normal=>k j
   | x=>κ x j d
  | .scope c=>match BL c with
   | none=>lP P n cuts fu c c e lv none (fun _=>T.fail) κ
   | some l=>match findLabel c l with
    | none=>T.fail
    | some r=>xk P n cuts fu c c l r e lv κ
  | _=>T.fail
def lP (P:Program) (n:Nat) (cuts:List Nat):Nat->Code->Code->Env->Nat->Option Nat->(Env->T)->(Exit->Env->Nat->T)->T
 | 0,_,_,_,_,_,_,_=>T.fail
 | fu+1,c,r,e,lv,back,k,κ=>fO P n cuts fu r e lv fun x e' d=>match x with
  | .goto l=>match mP back l with
   | true=>k e'
   | false=>match findLabel c l with
    | some j=>lP P n cuts fu c j e' d back k κ
    | none=>κ (.goto l) e' d
  | x=>κ x e' d
def xk (P:Program) (n:Nat) (cuts:List Nat):Nat->Code->Code->Nat->Code->Env->Nat->(Exit->Env->Nat->T)->T
 | 0,_,_,_,_,_,_,_=>T.fail
 | fu+1,c,t,l,r,e,lv,κ =>
  match fG l t with
  | true=>ID (ez c) e lv fun j k=>lP P n cuts fu c r j (lv+1) (some l) k κ
  | false=>match t with
   | .seq a b=>match findLabel a l with
    | some _=>T.fail
    | none=>fO P n cuts fu a e lv fun x e' d=>match x with
     | .normal=>xk P n cuts fu c b l r e' d κ
     | .goto _=>T.fail
     | x=>κ x e' d
   | _=>T.fail
end
def xe (P:Program):List ResultVar->Env->(List Xab->T)->T
 | [],_,k=>k []
 | .tmp t::rs,e,k=>bY e (.tmp t) fun v=>xe P rs e fun l=>k (v::l)
 | .cell a t::rs,e,k=>bY e (.tmp a) fun p=>match p,cH P t with
  | .pointer p,some true=>bif (eX P 9 t).length==P.cellsOf t then T.bi p fun a=>T.ah a (eX P 9 t) (jv _ fun l=>xe P rs e fun l'=>k (.agg l.toArray::l')) else T.fail
  | .pointer p,some false=>T.bi p fun a=>T.ah a (cG P t).2 (jv _ fun l=>xe P rs e fun l'=>k (l.headD undef::l'))
  | _,_=>T.fail
def one (l:List Xab):Xab :=
 match l with
 | [v]=>v
 | l=>.tuple l.toArray
def uy:Nat->List Xab->Env
 | _,[]=>[]
 | i,v::vs=>(i,some v)::uy (i+1) vs
def bM (P:Program) (cuts:List Nat) (fn:Func) (args:List Xab):T :=
 match fn.body with
 | none=>T.fail
 | some c=>fO P fn.ntmps cuts 100000 c (uy 0 args) 0 fun x e _=>match x with
  | .normal=>xe P fn.results.toList e fun l=>T.ret (one l)
  | .ret=>xe P fn.results.toList e fun l=>T.ret (one l)
  | _=>T.fail
end Go.Sx
