/- Part of the framework. No condition. -/
import Derived.Test.YthbffkdafjboiaaGreatDoorSxW
set_option linter.all false
set_option maxHeartbeats 4000000
namespace Go.Sx.Cr
noncomputable section
def RT (a b:Xac):Bool :=
 match a,b with
 | none,none=>true
 | some ⟨b,o,none⟩,some ⟨b',o',none⟩=>Nat.beq b b' && Nat.beq o o'
 | _,_=>false
def qM (q:Xab->Xab->Bool):List Xab->List Xab->Bool
 | [],[]=>true
 | a::l,b::k=>q a b && qM q l k
 | _,_=>false
def rB:Nat->Xab->Xab->Bool
 | 0,_,_=>false
 | n+1,a,b=>match a,b with
  | .bool a,.bool b=>a==b
  | .int k a,.int k' b=>decide (k=k') && (a==b)
  | .string a,.string b=>a.data.toList==b.data.toList
  | .pointer a,.pointer b=>RT a b
  | .slice a l c,.slice b l' c'=>RT a b && Nat.beq l l' && Nat.beq c c'
  | .map none,.map none=>true
  | .map (some a),.map (some b)=>Nat.beq a b
  | .func (.func f) ⟨a⟩ ⟨c⟩,.func (.func f') ⟨a'⟩ ⟨c'⟩=>Nat.beq f f' && qM (rB n) a a' && qM (rB n) c c'
  | .iface t a,.iface t' a'=>Nat.beq t t' && rB n a a'
  | .nilFunc,.nilFunc=>true
  | .nilIface,.nilIface=>true
  | .agg ⟨a⟩,.agg ⟨b⟩=>qM (rB n) a b
  | .tuple ⟨a⟩,.tuple ⟨b⟩=>qM (rB n) a b
  | _,_=>false
def db {α:Type} (q:α->α->Bool):List (α × Xab)->List (α × Xab)->Bool
 | [],[]=>true
 | a::l,b::k=>q a.1 b.1 && rB 9 a.2 b.2 && db q l k
 | _,_=>false
def Ps:AO->AO->Bool
 | .gone,.gone=>true
 | .row c e m,.row c' e' m'=>Nat.beq e e' && Nat.beq m m' && qM (rB 9) c c'
 | .wJ d,.wJ d'=>db oT d d'
 | .yF d,.yF d'=>db vW d d'
 | .yE d,.yE d'=>db qb d d'
 | _,_=>false
def HA {α:Type} (q:α->α->Bool):Option α->Option α->Bool
 | none,none=>true
 | some a,some b=>q a b
 | _,_=>false
def BD {α:Type} (q:α->α->Bool):dL α->dL α->Bool
 | .nil,.nil=>true
 | .node o l r,.node o' l' d=>HA q o o' && BD q l l' && BD q r d
 | _,_=>false
abbrev wx:=List (Nat × Nat × Nat × List Xab)
def we (C:Cx) (s:CS) (w:List Nat):wx->Bool
 | []=>true
 | (i,b,off,l)::m=>match sX i w with
  | true=>we C s w m
  | false=>((cells C s b off l.length).elim false fun k=>qM (rB 9) k l) && we C s w m
abbrev Bo:=List (Nat × Nat)
def Dw (i nx:Nat):Bo->Nat
 | []=>nx
 | (j,b)::l=>match Nat.beq j i with
  | true=>b
  | false=>Dw i nx l
abbrev DS:=Option (Ev × CS × Bo)
def Fb (C:Cx) (call:fY) (n:Nat) (i:Nat) (o:Oper) (e:Ev) (s:CS) (m:wx) (k:Ev->CS->wx->DS):DS :=
 match o.op with
 | .load t x=>(kA C e x).bind fun v=>(B1 C t v s).bind fun (b,off,l,u)=>k (Dh n e o.dst u) s ((i,b,off,l)::m)
 | _=>(Vi C call o e s).bind fun (v,s)=>k (Dh n e o.dst v) s m
def ze (C:Cx) (call:fY) (n:Nat) (ops:Array Oper) (e:Ev) (s:CS) (m:wx) (k:Nat->Ev->CS->Bo->DS) (q:Nat × Oper) (p:Bo):DS :=
 match q with
 | (i,o)=>(CC ops o e).bind fun w=>match w with
  | true=>(Vi C call o e ⟨s.σ,Dw i s.nx p⟩).bind fun (v,s')=>fF (we C s' (waits o) m) (k i (Dh n e o.dst v) s' ((i,Dw i s.nx p)::p))
  | false=>k i (Dh n e o.dst undef) s p
def sameAs (e:Ev) (s:CS) (x:DS):Bool:=x.elim false fun (e',s',_)=>BD (rB 9) e' e && BD Ps s'.σ s.σ
def O1 (step:Nat × Oper->Bo->DS) (q:Nat × Oper) (d:List (Nat × Oper)) (p:Bo):DS :=
 (step q p).bind fun (e,s,p)=>fF (d.all fun q=>sameAs e s (step q p)) (some (e,s,p))
def xY (C:Cx) (call:fY) (n:Nat) (ops:Array Oper):Nat->List Nat->Ev->CS->wx->Bo->DS
 | 0,_,_,_,_,_=>none
 | fu+1,D,e,s,m,p =>
  match cY C.P D true (idx 0 ops.toList) with
  | (i,o)::_=>(CC ops o e).bind fun w=>match w with
   | true=>Fb C call n i o e s m fun e s m=>xY C call n ops fu (i::D) e s m p
   | false=>xY C call n ops fu (i::D) (Dh n e o.dst undef) s m p
  | []=>match cY C.P D false (idx 0 ops.toList) with
   | []=>some (e,s,p)
   | q::d=>O1 (ze C call n ops e s m fun i e s p=>xY C call n ops fu (i::D) e s m p) q d p
def DP (C:Cx) (call:fY) (n:Nat) (ops:Array Oper) (draw:Bool) (e:Ev) (s:CS):ES :=
 match draw with
 | false=>QO C call n ops ops.toList e s
 | true=>fF (ej C.P n ops) ((xY C call n ops (ops.size+1) [] e s [] []).bind fun (e,s,_)=>some (e,s))
abbrev XS:=Option (Exit × Ev × CS)
def wC:Exit->Bool
 | .normal=>true
 | _=>false
def F0 (r:XS) (k:Ev->CS->XS):XS :=
 r.bind fun (x,e,s)=>match wC x with
 | true=>k e s
 | false=>some (x,e,s)
def C9 (id:Nat):Exit->Bool
 | .exit i=>Nat.beq i id
 | _=>false
def WB (id:Nat) (r:XS):XS :=
 r.bind fun (x,e,s)=>match C9 id x with
 | true=>some (.normal,e,s)
 | false=>some (x,e,s)
def I0 (step:Ev->CS->XS):Nat->Ev->CS->XS
 | 0,_,_=>none
 | k+1,e,s=>F0 (step e s) (I0 step k)
def Ay (c:Code):Exit->Option Code
 | .goto l=>findLabel c l
 | _=>none
def pj (step:Code->Ev->CS->XS) (c:Code):Nat->Code->Ev->CS->XS
 | 0,_,_,_=>none
 | k+1,r,e,s=>(step r e s).bind fun (x,e,s)=>match Ay c x with
  | some r=>pj step c k r e s
  | none=>some (x,e,s)
def SA (v:Option Xab) (a b:XS):XS :=
 match v with
 | some (.bool true)=>a
 | some (.bool false)=>b
 | _=>none
def mw (C:Cx) (call:fY) (n:Nat):Nat->Code->Ev->CS->XS
 | 0,_,_,_=>none
 | fu+1,c,e,s =>
  match c with
  | .skip=>some (.normal,e,s)
  | .label _=>some (.normal,e,s)
  | .exit i=>some (.exit i,e,s)
  | .goto l=>some (.goto l,e,s)
  | .ret=>some (.ret,e,s)
  | .seq a b=>F0 (mw C call n fu a e s) (mw C call n fu b)
  | .cond c a b=>SA (kA C e c) (mw C call n fu a e s) (mw C call n fu b e s)
  | .block id c=>WB id (mw C call n fu c e s)
  | .region _ ops draw=>(DP C call n ops draw e s).bind fun (e,s)=>some (.normal,e,s)
  | .loop c=>I0 (mw C call n fu c) 100000 e s
  | .scope c=>pj (mw C call n fu) c 100000 c e s
  | _=>none
def Tm (C:Cx) (s:CS) (e:Ev):ResultVar->Option Xab
 | .tmp t=>e.get t
 | .cell a t=>(e.get a).bind fun p=>(B1 C t p s).bind fun (_,_,_,v)=>some v
def Kx (C:Cx) (s:CS) (e:Ev):List ResultVar->Option (List Xab)
 | []=>some []
 | r::rs=>(Tm C s e r).bind fun v=>(Kx C s e rs).bind fun l=>some (v::l)
def HP:Nat->List Xab->Ev
 | _,[]=>.nil
 | i,v::l=>(HP (i+1) l).put i v
def returns:Exit->Bool
 | .normal=>true
 | .ret=>true
 | _=>false
def S4 (C:Cx) (call:fY) (fn:Func) (args:List Xab) (s:CS):VS :=
 fF (Nat.ble args.length fn.ntmps) (fn.body.bind fun c=>(mw C call fn.ntmps 1000 c (HP 0 args) s).bind fun (x,e,s)=>fF (returns x) ((Kx C s e fn.results.toList).bind fun l=>some (one l,s)))
def U8 (C:Cx):Nat->FuncId->List Xab->CS->VS
 | 0,_,_,_=>none
 | fu+1,f,args,s=>(C.P.funcs[f]?).bind fun fn=>S4 C (U8 C fu) fn args s
end
end Go.Sx.Cr
