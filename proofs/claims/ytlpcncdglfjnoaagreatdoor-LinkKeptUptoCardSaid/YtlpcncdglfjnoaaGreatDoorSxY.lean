/- Part of the framework. No condition. -/
import Derived.Test.YtlpcncdglfjnoaaGreatDoorSxW
set_option linter.all false
set_option maxHeartbeats 4000000
namespace Go.Sx.Cr
noncomputable section
def SC (a b:Xac):Bool :=
 match a,b with
 | none,none=>true
 | some ⟨b,o,none⟩,some ⟨b',o',none⟩=>Nat.beq b b' && Nat.beq o o'
 | _,_=>false
def oL (q:Xab->Xab->Bool):List Xab->List Xab->Bool
 | [],[]=>true
 | a::l,b::k=>q a b && oL q l k
 | _,_=>false
def sY:Nat->Xab->Xab->Bool
 | 0,_,_=>false
 | n+1,a,b=>match a,b with
  | .bool a,.bool b=>a==b
  | .int k a,.int k' b=>decide (k=k') && (a==b)
  | .string a,.string b=>a.data.toList==b.data.toList
  | .pointer a,.pointer b=>SC a b
  | .slice a l c,.slice b l' c'=>SC a b && Nat.beq l l' && Nat.beq c c'
  | .map none,.map none=>true
  | .map (some a),.map (some b)=>Nat.beq a b
  | .func (.func f) ⟨a⟩ ⟨c⟩,.func (.func d) ⟨a'⟩ ⟨c'⟩=>Nat.beq f d && oL (sY n) a a' && oL (sY n) c c'
  | .iface t a,.iface e a'=>Nat.beq t e && sY n a a'
  | .nilFunc,.nilFunc=>true
  | .nilIface,.nilIface=>true
  | .agg ⟨a⟩,.agg ⟨b⟩=>oL (sY n) a b
  | .tuple ⟨a⟩,.tuple ⟨b⟩=>oL (sY n) a b
  | _,_=>false
def dB {α:Type} (q:α->α->Bool):List (α × Xab)->List (α × Xab)->Bool
 | [],[]=>true
 | a::l,b::k=>q a.1 b.1 && sY 9 a.2 b.2 && dB q l k
 | _,_=>false
def Qh:AO->AO->Bool
 | .gone,.gone=>true
 | .row c e m,.row c' b f=>Nat.beq e b && Nat.beq m f && oL (sY 9) c c'
 | .xU d,.xU a=>dB qb d a
 | .zK d,.zK a=>dB xj d a
 | .zJ d,.zJ a=>dB rb d a
 | _,_=>false
def ID {α:Type} (q:α->α->Bool):Option α->Option α->Bool
 | none,none=>true
 | some a,some b=>q a b
 | _,_=>false
def Ct {α:Type} (q:α->α->Bool):eh α->eh α->Bool
 | .nil,.nil=>true
 | .node o l r,.node o' l' a=>ID q o o' && Ct q l l' && Ct q r a
 | _,_=>false
abbrev xI:=List (Nat × Nat × Nat × List Xab)
def xu (C:Cx) (s:CS) (w:List Nat):xI->Bool
 | []=>true
 | (i,b,off,l)::m=>match uv i w with
  | true=>xu C s w m
  | false=>((cells C s b off l.length).elim false fun k=>oL (sY 9) k l) && xu C s w m
abbrev Ce:=List (Nat × Nat)
def Et (i nx:Nat):Ce->Nat
 | []=>nx
 | (j,b)::l=>match Nat.beq j i with
  | true=>b
  | false=>Et i nx l
abbrev DS:=Option (Ev × CS × Ce)
def Ga (C:Cx) (call:gU) (n i:Nat) (o:Oper) (e:Ev) (s:CS) (m:xI) (k:Ev->CS->xI->DS):DS :=
 match o.op with
 | .load t x=>(kU C e x).bind fun v=>(CV C t v s).bind fun (b,off,l,u)=>k (Ec n e o.dst u) s ((i,b,off,l)::m)
 | _=>(VT C call o e s).bind fun (v,s)=>k (Ec n e o.dst v) s m
def Ap (C:Cx) (call:gU) (n:Nat) (ops:Array Oper) (e:Ev) (s:CS) (m:xI) (k:Nat->Ev->CS->Ce->DS) (q:Nat × Oper) (p:Ce):DS :=
 match q with
 | (i,o)=>(Dt ops o e).bind fun w=>match w with
  | true=>(VT C call o e ⟨s.σ,Et i s.nx p⟩).bind fun (v,a)=>gu (xu C a (waits o) m) (k i (Ec n e o.dst v) a ((i,Et i s.nx p)::p))
  | false=>k i (Ec n e o.dst undef) s p
def sameAs (e:Ev) (s:CS) (x:DS):Bool:=x.elim false fun (a,b,_)=>Ct (sY 9) a e && Ct Qh b.σ s.σ
def PW (step:Nat × Oper->Ce->DS) (q:Nat × Oper) (a:List (Nat × Oper)) (p:Ce):DS :=
 (step q p).bind fun (e,s,p)=>gu (a.all fun q=>sameAs e s (step q p)) (some (e,s,p))
def zd (C:Cx) (call:gU) (n:Nat) (ops:Array Oper):Nat->List Nat->Ev->CS->xI->Ce->DS
 | 0,_,_,_,_,_=>none
 | a+1,D,e,s,m,p =>
  match dt C.P D true (idx 0 ops.toList) with
  | (i,o)::_=>(Dt ops o e).bind fun w=>match w with
   | true=>Ga C call n i o e s m fun e s m=>zd C call n ops a (i::D) e s m p
   | false=>zd C call n ops a (i::D) (Ec n e o.dst undef) s m p
  | []=>match dt C.P D false (idx 0 ops.toList) with
   | []=>some (e,s,p)
   | q::b=>PW (Ap C call n ops e s m fun i e s p=>zd C call n ops a (i::D) e s m p) q b p
def EN (C:Cx) (call:gU) (n:Nat) (ops:Array Oper) (a:Bool) (e:Ev) (s:CS):ES :=
 match a with
 | false=>Ry C call n ops ops.toList e s
 | true=>gu (eQ C.P n ops) ((zd C call n ops (ops.size+1) [] e s [] []).bind fun (e,s,_)=>some (e,s))
abbrev XS:=Option (Exit × Ev × CS)
def xN:Exit->Bool
 | .normal=>true
 | _=>false
def GZ (r:XS) (k:Ev->CS->XS):XS :=
 r.bind fun (x,e,s)=>match xN x with
 | true=>k e s
 | false=>some (x,e,s)
def D3 (id:Nat):Exit->Bool
 | .exit i=>Nat.beq i id
 | _=>false
def Xb (id:Nat) (r:XS):XS :=
 r.bind fun (x,e,s)=>match D3 id x with
 | true=>some (.normal,e,s)
 | false=>some (x,e,s)
def Ka (step:Ev->CS->XS):Nat->Ev->CS->XS
 | 0,_,_=>none
 | k+1,e,s=>GZ (step e s) (Ka step k)
def Bo (c:Code):Exit->Option Code
 | .goto l=>findLabel c l
 | _=>none
def qn (step:Code->Ev->CS->XS) (c:Code):Nat->Code->Ev->CS->XS
 | 0,_,_,_=>none
 | k+1,r,e,s=>(step r e s).bind fun (x,e,s)=>match Bo c x with
  | some r=>qn step c k r e s
  | none=>some (x,e,s)
def Tk (v:Option Xab) (a b:XS):XS :=
 match v with
 | some (.bool true)=>a
 | some (.bool false)=>b
 | _=>none
def nv (C:Cx) (call:gU) (n:Nat):Nat->Code->Ev->CS->XS
 | 0,_,_,_=>none
 | d+1,c,e,s =>
  match c with
  | .skip=>some (.normal,e,s)
  | .label _=>some (.normal,e,s)
  | .exit i=>some (.exit i,e,s)
  | .goto l=>some (.goto l,e,s)
  | .ret=>some (.ret,e,s)
  | .seq a b=>GZ (nv C call n d a e s) (nv C call n d b)
  | .cond c a b=>Tk (kU C e c) (nv C call n d a e s) (nv C call n d b e s)
  | .block id c=>Xb id (nv C call n d c e s)
  | .region _ ops f=>(EN C call n ops f e s).bind fun (e,s)=>some (.normal,e,s)
  | .loop c=>Ka (nv C call n d c) 100000 e s
  | .scope c=>qn (nv C call n d) c 100000 c e s
  | _=>none
def T1 (C:Cx) (s:CS) (e:Ev):ResultVar->Option Xab
 | .tmp t=>e.get t
 | .cell a t=>(e.get a).bind fun p=>(CV C t p s).bind fun (_,_,_,v)=>some v
def LC (C:Cx) (s:CS) (e:Ev):List ResultVar->Option (List Xab)
 | []=>some []
 | r::a=>(T1 C s e r).bind fun v=>(LC C s e a).bind fun l=>some (v::l)
def IT:Nat->List Xab->Ev
 | _,[]=>.nil
 | i,v::l=>(IT (i+1) l).put i v
def returns:Exit->Bool
 | .normal=>true
 | .ret=>true
 | _=>false
def TI (C:Cx) (call:gU) (fn:Func) (args:List Xab) (s:CS):VS :=
 gu (Nat.ble args.length fn.ntmps) (fn.body.bind fun c=>(nv C call fn.ntmps 1000 c (IT 0 args) s).bind fun (x,e,s)=>gu (returns x) ((LC C s e fn.results.toList).bind fun l=>some (one l,s)))
def VD (C:Cx):Nat->FuncId->List Xab->CS->VS
 | 0,_,_,_=>none
 | a+1,f,args,s=>(C.P.funcs[f]?).bind fun fn=>TI C (VD C a) fn args s
end
end Go.Sx.Cr
