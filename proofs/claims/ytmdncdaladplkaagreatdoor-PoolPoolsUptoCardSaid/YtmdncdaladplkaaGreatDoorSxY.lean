/- Part of the framework. No condition. -/
import Derived.Test.YtmdncdaladplkaaGreatDoorSxW
set_option linter.all false
set_option maxHeartbeats 4000000
namespace Go.Sx.Cr
noncomputable section
def T8 (a b:Xac):Bool :=
 match a,b with
 | none,none=>true
 | some ⟨b,o,none⟩,some ⟨b',o',none⟩=>Nat.beq b b' && Nat.beq o o'
 | _,_=>false
def rG (q:Xab->Xab->Bool):List Xab->List Xab->Bool
 | [],[]=>true
 | a::l,b::k=>q a b && rG q l k
 | _,_=>false
def sA:Nat->Xab->Xab->Bool
 | 0,_,_=>false
 | n+1,a,b=>match a,b with
  | .bool a,.bool b=>a==b
  | .int k a,.int k' b=>decide (k=k') && (a==b)
  | .string a,.string b=>a.data.toList==b.data.toList
  | .pointer a,.pointer b=>T8 a b
  | .slice a l c,.slice b l' c'=>T8 a b && Nat.beq l l' && Nat.beq c c'
  | .map none,.map none=>true
  | .map (some a),.map (some b)=>Nat.beq a b
  | .func (.func f) ⟨a⟩ ⟨c⟩,.func (.func d) ⟨a'⟩ ⟨c'⟩=>Nat.beq f d && rG (sA n) a a' && rG (sA n) c c'
  | .iface t a,.iface e a'=>Nat.beq t e && sA n a a'
  | .nilFunc,.nilFunc=>true
  | .nilIface,.nilIface=>true
  | .agg ⟨a⟩,.agg ⟨b⟩=>rG (sA n) a b
  | .tuple ⟨a⟩,.tuple ⟨b⟩=>rG (sA n) a b
  | _,_=>false
def dp {α:Type} (q:α->α->Bool):List (α × Xab)->List (α × Xab)->Bool
 | [],[]=>true
 | a::l,b::k=>q a.1 b.1 && sA 9 a.2 b.2 && dp q l k
 | _,_=>false
def RA:AO->AO->Bool
 | .gone,.gone=>true
 | .row c e m,.row c' b f=>Nat.beq e b && Nat.beq m f && rG (sA 9) c c'
 | .xC d,.xC a=>dp pH d a
 | .zx d,.zx a=>dp wR d a
 | .zw d,.zw a=>dp qM d a
 | _,_=>false
def Ji {α:Type} (q:α->α->Bool):Option α->Option α->Bool
 | none,none=>true
 | some a,some b=>q a b
 | _,_=>false
def Cz {α:Type} (q:α->α->Bool):dU α->dU α->Bool
 | .nil,.nil=>true
 | .node o l r,.node o' l' a=>Ji q o o' && Cz q l l' && Cz q r a
 | _,_=>false
abbrev xp:=List (Nat × Nat × Nat × List Xab)
def w7 (C:Cx) (s:CS) (w:List Nat):xp->Bool
 | []=>true
 | (i,b,off,l)::m=>match tS i w with
  | true=>w7 C s w m
  | false=>((cells C s b off l.length).elim false fun k=>rG (sA 9) k l) && w7 C s w m
abbrev Cm:=List (Nat × Nat)
def ED (i nx:Nat):Cm->Nat
 | []=>nx
 | (j,b)::l=>match Nat.beq j i with
  | true=>b
  | false=>ED i nx l
abbrev DS:=Option (Ev × CS × Cm)
def Gy (C:Cx) (call:gp) (n i:Nat) (o:Oper) (e:Ev) (s:CS) (m:xp) (k:Ev->CS->xp->DS):DS :=
 match o.op with
 | .load t x=>(kU C e x).bind fun v=>(C3 C t v s).bind fun (b,off,l,u)=>k (Eo n e o.dst u) s ((i,b,off,l)::m)
 | _=>(Xs C call o e s).bind fun (v,s)=>k (Eo n e o.dst v) s m
def Am (C:Cx) (call:gp) (n:Nat) (ops:Array Oper) (e:Ev) (s:CS) (m:xp) (k:Nat->Ev->CS->Cm->DS) (q:Nat × Oper) (p:Cm):DS :=
 match q with
 | (i,o)=>(DF ops o e).bind fun w=>match w with
  | true=>(Xs C call o e ⟨s.σ,ED i s.nx p⟩).bind fun (v,a)=>fY (w7 C a (waits o) m) (k i (Eo n e o.dst v) a ((i,ED i s.nx p)::p))
  | false=>k i (Eo n e o.dst undef) s p
def sameAs (e:Ev) (s:CS) (x:DS):Bool:=x.elim false fun (a,b,_)=>Cz (sA 9) a e && Cz RA b.σ s.σ
def Re (step:Nat × Oper->Cm->DS) (q:Nat × Oper) (a:List (Nat × Oper)) (p:Cm):DS :=
 (step q p).bind fun (e,s,p)=>fY (a.all fun q=>sameAs e s (step q p)) (some (e,s,p))
def yM (C:Cx) (call:gp) (n:Nat) (ops:Array Oper):Nat->List Nat->Ev->CS->xp->Cm->DS
 | 0,_,_,_,_,_=>none
 | a+1,D,e,s,m,p =>
  match de C.P D true (idx 0 ops.toList) with
  | (i,o)::_=>(DF ops o e).bind fun w=>match w with
   | true=>Gy C call n i o e s m fun e s m=>yM C call n ops a (i::D) e s m p
   | false=>yM C call n ops a (i::D) (Eo n e o.dst undef) s m p
  | []=>match de C.P D false (idx 0 ops.toList) with
   | []=>some (e,s,p)
   | q::b=>Re (Am C call n ops e s m fun i e s p=>yM C call n ops a (i::D) e s m p) q b p
def E2 (C:Cx) (call:gp) (n:Nat) (ops:Array Oper) (a:Bool) (e:Ev) (s:CS):ES :=
 match a with
 | false=>S5 C call n ops ops.toList e s
 | true=>fY (eJ C.P n ops) ((yM C call n ops (ops.size+1) [] e s [] []).bind fun (e,s,_)=>some (e,s))
abbrev XS:=Option (Exit × Ev × CS)
def xv:Exit->Bool
 | .normal=>true
 | _=>false
def Hl (r:XS) (k:Ev->CS->XS):XS :=
 r.bind fun (x,e,s)=>match xv x with
 | true=>k e s
 | false=>some (x,e,s)
def Ec (id:Nat):Exit->Bool
 | .exit i=>Nat.beq i id
 | _=>false
def YS (id:Nat) (r:XS):XS :=
 r.bind fun (x,e,s)=>match Ec id x with
 | true=>some (.normal,e,s)
 | false=>some (x,e,s)
def KL (step:Ev->CS->XS):Nat->Ev->CS->XS
 | 0,_,_=>none
 | k+1,e,s=>Hl (step e s) (KL step k)
def Bx (c:Code):Exit->Option Code
 | .goto l=>findLabel c l
 | _=>none
def pW (step:Code->Ev->CS->XS) (c:Code):Nat->Code->Ev->CS->XS
 | 0,_,_,_=>none
 | k+1,r,e,s=>(step r e s).bind fun (x,e,s)=>match Bx c x with
  | some r=>pW step c k r e s
  | none=>some (x,e,s)
def UF (v:Option Xab) (a b:XS):XS :=
 match v with
 | some (.bool true)=>a
 | some (.bool false)=>b
 | _=>none
def mZ (C:Cx) (call:gp) (n:Nat):Nat->Code->Ev->CS->XS
 | 0,_,_,_=>none
 | d+1,c,e,s =>
  match c with
  | .skip=>some (.normal,e,s)
  | .label _=>some (.normal,e,s)
  | .exit i=>some (.exit i,e,s)
  | .goto l=>some (.goto l,e,s)
  | .ret=>some (.ret,e,s)
  | .seq a b=>Hl (mZ C call n d a e s) (mZ C call n d b)
  | .cond c a b=>UF (kU C e c) (mZ C call n d a e s) (mZ C call n d b e s)
  | .block id c=>YS id (mZ C call n d c e s)
  | .region _ ops f=>(E2 C call n ops f e s).bind fun (e,s)=>some (.normal,e,s)
  | .loop c=>KL (mZ C call n d c) 100000 e s
  | .scope c=>pW (mZ C call n d) c 100000 c e s
  | _=>none
def Vh (C:Cx) (s:CS) (e:Ev):ResultVar->Option Xab
 | .tmp t=>e.get t
 | .cell a t=>(e.get a).bind fun p=>(C3 C t p s).bind fun (_,_,_,v)=>some v
def Mp (C:Cx) (s:CS) (e:Ev):List ResultVar->Option (List Xab)
 | []=>some []
 | r::a=>(Vh C s e r).bind fun v=>(Mp C s e a).bind fun l=>some (v::l)
def Jx:Nat->List Xab->Ev
 | _,[]=>.nil
 | i,v::l=>(Jx (i+1) l).put i v
def returns:Exit->Bool
 | .normal=>true
 | .ret=>true
 | _=>false
def U1 (C:Cx) (call:gp) (fn:Func) (args:List Xab) (s:CS):VS :=
 fY (Nat.ble args.length fn.ntmps) (fn.body.bind fun c=>(mZ C call fn.ntmps 1000 c (Jx 0 args) s).bind fun (x,e,s)=>fY (returns x) ((Mp C s e fn.results.toList).bind fun l=>some (one l,s)))
def Xh (C:Cx):Nat->FuncId->List Xab->CS->VS
 | 0,_,_,_=>none
 | a+1,f,args,s=>(C.P.funcs[f]?).bind fun fn=>U1 C (Xh C a) fn args s
end
end Go.Sx.Cr
