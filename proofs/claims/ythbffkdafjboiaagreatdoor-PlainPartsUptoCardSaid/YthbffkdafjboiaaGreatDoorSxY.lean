/- Part of the framework. No condition. -/
import Derived.Test.YthbffkdafjboiaaGreatDoorSxW
set_option linter.all false
set_option maxHeartbeats 4000000
namespace Go.Sx.Cr
noncomputable section
def Qj (a b:ZC):Bool :=
 match a,b with
 | none,none=>true
 | some ⟨b,o,none⟩,some ⟨b',o',none⟩=>Nat.beq b b' && Nat.beq o o'
 | _,_=>false
def qd (q:ZB->ZB->Bool):List ZB->List ZB->Bool
 | [],[]=>true
 | a::l,b::k=>q a b && qd q l k
 | _,_=>false
def qJ:Nat->ZB->ZB->Bool
 | 0,_,_=>false
 | n+1,a,b=>match a,b with
  | .bool a,.bool b=>a==b
  | .int k a,.int k' b=>decide (k=k') && (a==b)
  | .string a,.string b=>a.data.toList==b.data.toList
  | .pointer a,.pointer b=>Qj a b
  | .slice a l c,.slice b l' c'=>Qj a b && Nat.beq l l' && Nat.beq c c'
  | .map none,.map none=>true
  | .map (some a),.map (some b)=>Nat.beq a b
  | .func (.func f) ⟨a⟩ ⟨c⟩,.func (.func f') ⟨a'⟩ ⟨c'⟩=>Nat.beq f f' && qd (qJ n) a a' && qd (qJ n) c c'
  | .iface t a,.iface t' a'=>Nat.beq t t' && qJ n a a'
  | .nilFunc,.nilFunc=>true
  | .nilIface,.nilIface=>true
  | .agg ⟨a⟩,.agg ⟨b⟩=>qd (qJ n) a b
  | .tuple ⟨a⟩,.tuple ⟨b⟩=>qd (qJ n) a b
  | _,_=>false
def cZ {α:Type} (q:α->α->Bool):List (α × ZB)->List (α × ZB)->Bool
 | [],[]=>true
 | a::l,b::k=>q a.1 b.1 && qJ 9 a.2 b.2 && cZ q l k
 | _,_=>false
def N4:AO->AO->Bool
 | .gone,.gone=>true
 | .row c e m,.row c' e' m'=>Nat.beq e e' && Nat.beq m m' && qd (qJ 9) c c'
 | .vL d,.vL d'=>cZ n' d d'
 | .xW d,.xW d'=>cZ uQ d d'
 | .xV d,.xV d'=>cZ pn d d'
 | _,_=>false
def GI {α:Type} (q:α->α->Bool):Option α->Option α->Bool
 | none,none=>true
 | some a,some b=>q a b
 | _,_=>false
def AK {α:Type} (q:α->α->Bool):dI α->dI α->Bool
 | .nil,.nil=>true
 | .node o l r,.node o' l' r'=>GI q o o' && AK q l l' && AK q r r'
 | _,_=>false
abbrev vu:=List (Nat × Nat × Nat × List ZB)
def uX (C:Cx) (s:CS) (w:List Nat):vu->Bool
 | []=>true
 | (i,b,off,l)::m=>match r5 i w with
  | true=>uX C s w m
  | false=>((cells C s b off l.length).elim false fun k=>qd (qJ 9) k l) && uX C s w m
abbrev Az:=List (Nat × Nat)
def CH (i nx:Nat):Az->Nat
 | []=>nx
 | (j,b)::l=>match Nat.beq j i with
  | true=>b
  | false=>CH i nx l
abbrev DS:=Option (Ev × CS × Az)
def Ed (C:Cx) (call:fV) (n:Nat) (i:Nat) (o:Oper) (e:Ev) (s:CS) (m:vu) (k:Ev->CS->vu->DS):DS :=
 match o.op with
 | .load t x=>(j4 C e x).bind fun v=>(A' C t v s).bind fun (b,off,l,u)=>k (Cp n e o.dst u) s ((i,b,off,l)::m)
 | _=>(TO C call o e s).bind fun (v,s)=>k (Cp n e o.dst v) s m
def yw (C:Cx) (call:fV) (n:Nat) (ops:Array Oper) (e:Ev) (s:CS) (m:vu) (k:Nat->Ev->CS->Az->DS) (q:Nat × Oper) (p:Az):DS :=
 match q with
 | (i,o)=>(BI ops o e).bind fun w=>match w with
  | true=>(TO C call o e ⟨s.σ,CH i s.nx p⟩).bind fun (v,s')=>fG (uX C s' (waits o) m) (k i (Cp n e o.dst v) s' ((i,CH i s.nx p)::p))
  | false=>k i (Cp n e o.dst undef) s p
def sameAs (e:Ev) (s:CS) (x:DS):Bool:=x.elim false fun (e',s',_)=>AK (qJ 9) e' e && AK N4 s'.σ s.σ
def NJ (step:Nat × Oper->Az->DS) (q:Nat × Oper) (qs:List (Nat × Oper)) (p:Az):DS :=
 (step q p).bind fun (e,s,p)=>fG (qs.all fun q=>sameAs e s (step q p)) (some (e,s,p))
def xo (C:Cx) (call:fV) (n:Nat) (ops:Array Oper):Nat->List Nat->Ev->CS->vu->Az->DS
 | 0,_,_,_,_,_=>none
 | fu+1,D,e,s,m,p =>
  match cU C.P D true (idx 0 ops.toList) with
  | (i,o)::_=>(BI ops o e).bind fun w=>match w with
   | true=>Ed C call n i o e s m fun e s m=>xo C call n ops fu (i::D) e s m p
   | false=>xo C call n ops fu (i::D) (Cp n e o.dst undef) s m p
  | []=>match cU C.P D false (idx 0 ops.toList) with
   | []=>some (e,s,p)
   | q::qs=>NJ (yw C call n ops e s m fun i e s p=>xo C call n ops fu (i::D) e s m p) q qs p
def C1 (C:Cx) (call:fV) (n:Nat) (ops:Array Oper) (draw:Bool) (e:Ev) (s:CS):ES :=
 match draw with
 | false=>Pg C call n ops ops.toList e s
 | true=>fG (ee C.P n ops) ((xo C call n ops (ops.size+1) [] e s [] []).bind fun (e,s,_)=>some (e,s))
abbrev XS:=Option (Exit × Ev × CS)
def vB:Exit->Bool
 | .normal=>true
 | _=>false
def EZ (r:XS) (k:Ev->CS->XS):XS :=
 r.bind fun (x,e,s)=>match vB x with
 | true=>k e s
 | false=>some (x,e,s)
def Cf (id:Nat):Exit->Bool
 | .exit i=>Nat.beq i id
 | _=>false
def U' (id:Nat) (r:XS):XS :=
 r.bind fun (x,e,s)=>match Cf id x with
 | true=>some (.normal,e,s)
 | false=>some (x,e,s)
def H7 (step:Ev->CS->XS):Nat->Ev->CS->XS
 | 0,_,_=>none
 | k+1,e,s=>EZ (step e s) (H7 step k)
def zI (c:Code):Exit->Option Code
 | .goto l=>findLabel c l
 | _=>none
def oy (step:Code->Ev->CS->XS) (c:Code):Nat->Code->Ev->CS->XS
 | 0,_,_,_=>none
 | k+1,r,e,s=>(step r e s).bind fun (x,e,s)=>match zI c x with
  | some r=>oy step c k r e s
  | none=>some (x,e,s)
def QZ (v:Option ZB) (a b:XS):XS :=
 match v with
 | some (.bool true)=>a
 | some (.bool false)=>b
 | _=>none
def lN (C:Cx) (call:fV) (n:Nat):Nat->Code->Ev->CS->XS
 | 0,_,_,_=>none
 | fu+1,c,e,s =>
  match c with
  | .skip=>some (.normal,e,s)
  | .label _=>some (.normal,e,s)
  | .exit i=>some (.exit i,e,s)
  | .goto l=>some (.goto l,e,s)
  | .ret=>some (.ret,e,s)
  | .seq a b=>EZ (lN C call n fu a e s) (lN C call n fu b)
  | .cond c a b=>QZ (j4 C e c) (lN C call n fu a e s) (lN C call n fu b e s)
  | .block id c=>U' id (lN C call n fu c e s)
  | .region _ ops draw=>(C1 C call n ops draw e s).bind fun (e,s)=>some (.normal,e,s)
  | .loop c=>H7 (lN C call n fu c) 100000 e s
  | .scope c=>oy (lN C call n fu) c 100000 c e s
  | _=>none
def RA (C:Cx) (s:CS) (e:Ev):ResultVar->Option ZB
 | .tmp t=>e.get t
 | .cell a t=>(e.get a).bind fun p=>(A' C t p s).bind fun (_,_,_,v)=>some v
def Jx (C:Cx) (s:CS) (e:Ev):List ResultVar->Option (List ZB)
 | []=>some []
 | r::rs=>(RA C s e r).bind fun v=>(Jx C s e rs).bind fun l=>some (v::l)
def GY:Nat->List ZB->Ev
 | _,[]=>.nil
 | i,v::l=>(GY (i+1) l).put i v
def returns:Exit->Bool
 | .normal=>true
 | .ret=>true
 | _=>false
def Rl (C:Cx) (call:fV) (fn:Func) (args:List ZB) (s:CS):VS :=
 fG (Nat.ble args.length fn.ntmps) (fn.body.bind fun c=>(lN C call fn.ntmps 1000 c (GY 0 args) s).bind fun (x,e,s)=>fG (returns x) ((Jx C s e fn.results.toList).bind fun l=>some (one l,s)))
def TA (C:Cx):Nat->FuncId->List ZB->CS->VS
 | 0,_,_,_=>none
 | fu+1,f,args,s=>(C.P.funcs[f]?).bind fun fn=>Rl C (TA C fu) fn args s
end
end Go.Sx.Cr
