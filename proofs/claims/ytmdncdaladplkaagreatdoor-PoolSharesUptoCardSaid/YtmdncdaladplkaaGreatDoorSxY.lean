/- Part of the framework. No condition. -/
import Derived.Test.YtmdncdaladplkaaGreatDoorSxW
set_option linter.all false
set_option maxHeartbeats 4000000
namespace Go.Sx.Cr
noncomputable section
def Uk (a b:Xac):Bool :=
 match a,b with
 | none,none=>true
 | some ⟨b,o,none⟩,some ⟨b',o',none⟩=>Nat.beq b b' && Nat.beq o o'
 | _,_=>false
def rJ (q:Xab->Xab->Bool):List Xab->List Xab->Bool
 | [],[]=>true
 | a::l,b::k=>q a b && rJ q l k
 | _,_=>false
def sE:Nat->Xab->Xab->Bool
 | 0,_,_=>false
 | n+1,a,b=>match a,b with
  | .bool a,.bool b=>a==b
  | .int k a,.int k' b=>decide (k=k') && (a==b)
  | .string a,.string b=>a.data.toList==b.data.toList
  | .pointer a,.pointer b=>Uk a b
  | .slice a l c,.slice b l' c'=>Uk a b && Nat.beq l l' && Nat.beq c c'
  | .map none,.map none=>true
  | .map (some a),.map (some b)=>Nat.beq a b
  | .func (.func f) ⟨a⟩ ⟨c⟩,.func (.func d) ⟨a'⟩ ⟨c'⟩=>Nat.beq f d && rJ (sE n) a a' && rJ (sE n) c c'
  | .iface t a,.iface e a'=>Nat.beq t e && sE n a a'
  | .nilFunc,.nilFunc=>true
  | .nilIface,.nilIface=>true
  | .agg ⟨a⟩,.agg ⟨b⟩=>rJ (sE n) a b
  | .tuple ⟨a⟩,.tuple ⟨b⟩=>rJ (sE n) a b
  | _,_=>false
def du {α:Type} (q:α->α->Bool):List (α × Xab)->List (α × Xab)->Bool
 | [],[]=>true
 | a::l,b::k=>q a.1 b.1 && sE 9 a.2 b.2 && du q l k
 | _,_=>false
def RM:AO->AO->Bool
 | .gone,.gone=>true
 | .row c e m,.row c' b f=>Nat.beq e b && Nat.beq m f && rJ (sE 9) c c'
 | .xK d,.xK a=>du pF d a
 | .zN d,.zN a=>du wY d a
 | .zM d,.zM a=>du qL d a
 | _,_=>false
def Jo {α:Type} (q:α->α->Bool):Option α->Option α->Bool
 | none,none=>true
 | some a,some b=>q a b
 | _,_=>false
def CI {α:Type} (q:α->α->Bool):dY α->dY α->Bool
 | .nil,.nil=>true
 | .node o l r,.node o' l' a=>Jo q o o' && CI q l l' && CI q r a
 | _,_=>false
abbrev xx:=List (Nat × Nat × Nat × List Xab)
def xf (C:Cx) (s:CS) (w:List Nat):xx->Bool
 | []=>true
 | (i,b,off,l)::m=>match tV i w with
  | true=>xf C s w m
  | false=>((cells C s b off l.length).elim false fun k=>rJ (sE 9) k l) && xf C s w m
abbrev Cw:=List (Nat × Nat)
def EM (i nx:Nat):Cw->Nat
 | []=>nx
 | (j,b)::l=>match Nat.beq j i with
  | true=>b
  | false=>EM i nx l
abbrev DS:=Option (Ev × CS × Cw)
def GD (C:Cx) (call:gJ) (n i:Nat) (o:Oper) (e:Ev) (s:CS) (m:xx) (k:Ev->CS->xx->DS):DS :=
 match o.op with
 | .load t x=>(kR C e x).bind fun v=>(Dd C t v s).bind fun (b,off,l,u)=>k (EA n e o.dst u) s ((i,b,off,l)::m)
 | _=>(XG C call o e s).bind fun (v,s)=>k (EA n e o.dst v) s m
def Au (C:Cx) (call:gJ) (n:Nat) (ops:Array Oper) (e:Ev) (s:CS) (m:xx) (k:Nat->Ev->CS->Cw->DS) (q:Nat × Oper) (p:Cw):DS :=
 match q with
 | (i,o)=>(DO ops o e).bind fun w=>match w with
  | true=>(XG C call o e ⟨s.σ,EM i s.nx p⟩).bind fun (v,a)=>gj (xf C a (waits o) m) (k i (EA n e o.dst v) a ((i,EM i s.nx p)::p))
  | false=>k i (EA n e o.dst undef) s p
def sameAs (e:Ev) (s:CS) (x:DS):Bool:=x.elim false fun (a,b,_)=>CI (sE 9) a e && CI RM b.σ s.σ
def Rn (step:Nat × Oper->Cw->DS) (q:Nat × Oper) (a:List (Nat × Oper)) (p:Cw):DS :=
 (step q p).bind fun (e,s,p)=>gj (a.all fun q=>sameAs e s (step q p)) (some (e,s,p))
def zb (C:Cx) (call:gJ) (n:Nat) (ops:Array Oper):Nat->List Nat->Ev->CS->xx->Cw->DS
 | 0,_,_,_,_,_=>none
 | a+1,D,e,s,m,p =>
  match dm C.P D true (idx 0 ops.toList) with
  | (i,o)::_=>(DO ops o e).bind fun w=>match w with
   | true=>GD C call n i o e s m fun e s m=>zb C call n ops a (i::D) e s m p
   | false=>zb C call n ops a (i::D) (EA n e o.dst undef) s m p
  | []=>match dm C.P D false (idx 0 ops.toList) with
   | []=>some (e,s,p)
   | q::b=>Rn (Au C call n ops e s m fun i e s p=>zb C call n ops a (i::D) e s m p) q b p
def Fi (C:Cx) (call:gJ) (n:Nat) (ops:Array Oper) (a:Bool) (e:Ev) (s:CS):ES :=
 match a with
 | false=>Tj C call n ops ops.toList e s
 | true=>gj (eN C.P n ops) ((zb C call n ops (ops.size+1) [] e s [] []).bind fun (e,s,_)=>some (e,s))
abbrev XS:=Option (Exit × Ev × CS)
def xD:Exit->Bool
 | .normal=>true
 | _=>false
def Hr (r:XS) (k:Ev->CS->XS):XS :=
 r.bind fun (x,e,s)=>match xD x with
 | true=>k e s
 | false=>some (x,e,s)
def Eo (id:Nat):Exit->Bool
 | .exit i=>Nat.beq i id
 | _=>false
def Y8 (id:Nat) (r:XS):XS :=
 r.bind fun (x,e,s)=>match Eo id x with
 | true=>some (.normal,e,s)
 | false=>some (x,e,s)
def KO (step:Ev->CS->XS):Nat->Ev->CS->XS
 | 0,_,_=>none
 | k+1,e,s=>Hr (step e s) (KO step k)
def BG (c:Code):Exit->Option Code
 | .goto l=>findLabel c l
 | _=>none
def pU (step:Code->Ev->CS->XS) (c:Code):Nat->Code->Ev->CS->XS
 | 0,_,_,_=>none
 | k+1,r,e,s=>(step r e s).bind fun (x,e,s)=>match BG c x with
  | some r=>pU step c k r e s
  | none=>some (x,e,s)
def US (v:Option Xab) (a b:XS):XS :=
 match v with
 | some (.bool true)=>a
 | some (.bool false)=>b
 | _=>none
def mY (C:Cx) (call:gJ) (n:Nat):Nat->Code->Ev->CS->XS
 | 0,_,_,_=>none
 | d+1,c,e,s =>
  match c with
  | .skip=>some (.normal,e,s)
  | .label _=>some (.normal,e,s)
  | .exit i=>some (.exit i,e,s)
  | .goto l=>some (.goto l,e,s)
  | .ret=>some (.ret,e,s)
  | .seq a b=>Hr (mY C call n d a e s) (mY C call n d b)
  | .cond c a b=>US (kR C e c) (mY C call n d a e s) (mY C call n d b e s)
  | .block id c=>Y8 id (mY C call n d c e s)
  | .region _ ops f=>(Fi C call n ops f e s).bind fun (e,s)=>some (.normal,e,s)
  | .loop c=>KO (mY C call n d c) 100000 e s
  | .scope c=>pU (mY C call n d) c 100000 c e s
  | _=>none
def Vv (C:Cx) (s:CS) (e:Ev):ResultVar->Option Xab
 | .tmp t=>e.get t
 | .cell a t=>(e.get a).bind fun p=>(Dd C t p s).bind fun (_,_,_,v)=>some v
def My (C:Cx) (s:CS) (e:Ev):List ResultVar->Option (List Xab)
 | []=>some []
 | r::a=>(Vv C s e r).bind fun v=>(My C s e a).bind fun l=>some (v::l)
def JC:Nat->List Xab->Ev
 | _,[]=>.nil
 | i,v::l=>(JC (i+1) l).put i v
def returns:Exit->Bool
 | .normal=>true
 | .ret=>true
 | _=>false
def Ve (C:Cx) (call:gJ) (fn:Func) (args:List Xab) (s:CS):VS :=
 gj (Nat.ble args.length fn.ntmps) (fn.body.bind fun c=>(mY C call fn.ntmps 1000 c (JC 0 args) s).bind fun (x,e,s)=>gj (returns x) ((My C s e fn.results.toList).bind fun l=>some (one l,s)))
def Xv (C:Cx):Nat->FuncId->List Xab->CS->VS
 | 0,_,_,_=>none
 | a+1,f,args,s=>(C.P.funcs[f]?).bind fun fn=>Ve C (Xv C a) fn args s
end
end Go.Sx.Cr
