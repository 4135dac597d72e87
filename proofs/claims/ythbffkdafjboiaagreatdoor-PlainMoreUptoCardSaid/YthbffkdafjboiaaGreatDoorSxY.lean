/- Part of the framework. No condition. -/
import Derived.Test.YthbffkdafjboiaaGreatDoorSxW
set_option linter.all false
set_option maxHeartbeats 4000000
namespace Go.Sx.Cr
noncomputable section
def Rr (a b:Xac):Bool :=
 match a,b with
 | none,none=>true
 | some ⟨b,o,none⟩,some ⟨b',o',none⟩=>Nat.beq b b' && Nat.beq o o'
 | _,_=>false
def qv (q:Xab->Xab->Bool):List Xab->List Xab->Bool
 | [],[]=>true
 | a::l,b::k=>q a b && qv q l k
 | _,_=>false
def q8:Nat->Xab->Xab->Bool
 | 0,_,_=>false
 | n+1,a,b=>match a,b with
  | .bool a,.bool b=>a==b
  | .int k a,.int k' b=>decide (k=k') && (a==b)
  | .string a,.string b=>a.data.toList==b.data.toList
  | .pointer a,.pointer b=>Rr a b
  | .slice a l c,.slice b l' c'=>Rr a b && Nat.beq l l' && Nat.beq c c'
  | .map none,.map none=>true
  | .map (some a),.map (some b)=>Nat.beq a b
  | .func (.func f) ⟨a⟩ ⟨c⟩,.func (.func f') ⟨a'⟩ ⟨c'⟩=>Nat.beq f f' && qv (q8 n) a a' && qv (q8 n) c c'
  | .iface t a,.iface t' a'=>Nat.beq t t' && q8 n a a'
  | .nilFunc,.nilFunc=>true
  | .nilIface,.nilIface=>true
  | .agg ⟨a⟩,.agg ⟨b⟩=>qv (q8 n) a b
  | .tuple ⟨a⟩,.tuple ⟨b⟩=>qv (q8 n) a b
  | _,_=>false
def db {α:Type} (q:α->α->Bool):List (α × Xab)->List (α × Xab)->Bool
 | [],[]=>true
 | a::l,b::k=>q a.1 b.1 && q8 9 a.2 b.2 && db q l k
 | _,_=>false
def OZ:AO->AO->Bool
 | .gone,.gone=>true
 | .row c e m,.row c' e' m'=>Nat.beq e e' && Nat.beq m m' && qv (q8 9) c c'
 | .wv d,.wv d'=>db oy d d'
 | .yo d,.yo d'=>db vD d d'
 | .ym d,.ym d'=>db pM d d'
 | _,_=>false
def Hk {α:Type} (q:α->α->Bool):Option α->Option α->Bool
 | none,none=>true
 | some a,some b=>q a b
 | _,_=>false
def Bd {α:Type} (q:α->α->Bool):dK α->dK α->Bool
 | .nil,.nil=>true
 | .node o l r,.node o' l' r'=>Hk q o o' && Bd q l l' && Bd q r r'
 | _,_=>false
abbrev wa:=List (Nat × Nat × Nat × List Xab)
def vN (C:Cx) (s:CS) (w:List Nat):wa->Bool
 | []=>true
 | (i,b,off,l)::m=>match sI i w with
  | true=>vN C s w m
  | false=>((cells C s b off l.length).elim false fun k=>qv (q8 9) k l) && vN C s w m
abbrev A5:=List (Nat × Nat)
def Df (i nx:Nat):A5->Nat
 | []=>nx
 | (j,b)::l=>match Nat.beq j i with
  | true=>b
  | false=>Df i nx l
abbrev DS:=Option (Ev × CS × A5)
def EN (C:Cx) (call:gd) (n:Nat) (i:Nat) (o:Oper) (e:Ev) (s:CS) (m:wa) (k:Ev->CS->wa->DS):DS :=
 match o.op with
 | .load t x=>(ko C e x).bind fun v=>(BF C t v s).bind fun (b,off,l,u)=>k (C0 n e o.dst u) s ((i,b,off,l)::m)
 | _=>(U4 C call o e s).bind fun (v,s)=>k (C0 n e o.dst v) s m
def y6 (C:Cx) (call:gd) (n:Nat) (ops:Array Oper) (e:Ev) (s:CS) (m:wa) (k:Nat->Ev->CS->A5->DS) (q:Nat × Oper) (p:A5):DS :=
 match q with
 | (i,o)=>(Cg ops o e).bind fun w=>match w with
  | true=>(U4 C call o e ⟨s.σ,Df i s.nx p⟩).bind fun (v,s')=>fM (vN C s' (waits o) m) (k i (C0 n e o.dst v) s' ((i,Df i s.nx p)::p))
  | false=>k i (C0 n e o.dst undef) s p
def sameAs (e:Ev) (s:CS) (x:DS):Bool:=x.elim false fun (e',s',_)=>Bd (q8 9) e' e && Bd OZ s'.σ s.σ
def OC (step:Nat × Oper->A5->DS) (q:Nat × Oper) (j:List (Nat × Oper)) (p:A5):DS :=
 (step q p).bind fun (e,s,p)=>fM (j.all fun q=>sameAs e s (step q p)) (some (e,s,p))
def xK (C:Cx) (call:gd) (n:Nat) (ops:Array Oper):Nat->List Nat->Ev->CS->wa->A5->DS
 | 0,_,_,_,_,_=>none
 | fu+1,D,e,s,m,p =>
  match cY C.P D true (idx 0 ops.toList) with
  | (i,o)::_=>(Cg ops o e).bind fun w=>match w with
   | true=>EN C call n i o e s m fun e s m=>xK C call n ops fu (i::D) e s m p
   | false=>xK C call n ops fu (i::D) (C0 n e o.dst undef) s m p
  | []=>match cY C.P D false (idx 0 ops.toList) with
   | []=>some (e,s,p)
   | q::j=>OC (y6 C call n ops e s m fun i e s p=>xK C call n ops fu (i::D) e s m p) q j p
def Dz (C:Cx) (call:gd) (n:Nat) (ops:Array Oper) (draw:Bool) (e:Ev) (s:CS):ES :=
 match draw with
 | false=>Qi C call n ops ops.toList e s
 | true=>fM (ej C.P n ops) ((xK C call n ops (ops.size+1) [] e s [] []).bind fun (e,s,_)=>some (e,s))
abbrev XS:=Option (Exit × Ev × CS)
def wh:Exit->Bool
 | .normal=>true
 | _=>false
def FJ (r:XS) (k:Ev->CS->XS):XS :=
 r.bind fun (x,e,s)=>match wh x with
 | true=>k e s
 | false=>some (x,e,s)
def CQ (id:Nat):Exit->Bool
 | .exit i=>Nat.beq i id
 | _=>false
def WG (id:Nat) (r:XS):XS :=
 r.bind fun (x,e,s)=>match CQ id x with
 | true=>some (.normal,e,s)
 | false=>some (x,e,s)
def IK (step:Ev->CS->XS):Nat->Ev->CS->XS
 | 0,_,_=>none
 | k+1,e,s=>FJ (step e s) (IK step k)
def Ai (c:Code):Exit->Option Code
 | .goto l=>findLabel c l
 | _=>none
def oP (step:Code->Ev->CS->XS) (c:Code):Nat->Code->Ev->CS->XS
 | 0,_,_,_=>none
 | k+1,r,e,s=>(step r e s).bind fun (x,e,s)=>match Ai c x with
  | some r=>oP step c k r e s
  | none=>some (x,e,s)
def R6 (v:Option Xab) (a b:XS):XS :=
 match v with
 | some (.bool true)=>a
 | some (.bool false)=>b
 | _=>none
def lV (C:Cx) (call:gd) (n:Nat):Nat->Code->Ev->CS->XS
 | 0,_,_,_=>none
 | fu+1,c,e,s =>
  match c with
  | .skip=>some (.normal,e,s)
  | .label _=>some (.normal,e,s)
  | .exit i=>some (.exit i,e,s)
  | .goto l=>some (.goto l,e,s)
  | .ret=>some (.ret,e,s)
  | .seq a b=>FJ (lV C call n fu a e s) (lV C call n fu b)
  | .cond c a b=>R6 (ko C e c) (lV C call n fu a e s) (lV C call n fu b e s)
  | .block id c=>WG id (lV C call n fu c e s)
  | .region _ ops draw=>(Dz C call n ops draw e s).bind fun (e,s)=>some (.normal,e,s)
  | .loop c=>IK (lV C call n fu c) 100000 e s
  | .scope c=>oP (lV C call n fu) c 100000 c e s
  | _=>none
def SR (C:Cx) (s:CS) (e:Ev):ResultVar->Option Xab
 | .tmp t=>e.get t
 | .cell a t=>(e.get a).bind fun p=>(BF C t p s).bind fun (_,_,_,v)=>some v
def Kd (C:Cx) (s:CS) (e:Ev):List ResultVar->Option (List Xab)
 | []=>some []
 | r::rs=>(SR C s e r).bind fun v=>(Kd C s e rs).bind fun l=>some (v::l)
def Hz:Nat->List Xab->Ev
 | _,[]=>.nil
 | i,v::l=>(Hz (i+1) l).put i v
def returns:Exit->Bool
 | .normal=>true
 | .ret=>true
 | _=>false
def Sz (C:Cx) (call:gd) (fn:Func) (args:List Xab) (s:CS):VS :=
 fM (Nat.ble args.length fn.ntmps) (fn.body.bind fun c=>(lV C call fn.ntmps 1000 c (Hz 0 args) s).bind fun (x,e,s)=>fM (returns x) ((Kd C s e fn.results.toList).bind fun l=>some (one l,s)))
def RI (C:Cx):Nat->FuncId->List Xab->CS->VS
 | 0,_,_,_=>none
 | fu+1,f,args,s=>(C.P.funcs[f]?).bind fun fn=>Sz C (RI C fu) fn args s
end
end Go.Sx.Cr
