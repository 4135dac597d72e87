/- Closed runs, part Y: regions, code, functions over a store. No condition. -/
import Derived.Test.YtlpcncdglfjnoaaGreatDoorSxW
set_option linter.all false
set_option maxHeartbeats 4000000
namespace Go.Sx.Cr
noncomputable section
def Oa (a b:Option YC):Bool :=
 match a,b with
 | none,none=>true
 | some ⟨b,o,none⟩,some ⟨b',o',none⟩=>Nat.beq b b' && Nat.beq o o'
 | _,_=>false
def ow (q:YB->YB->Bool):List YB->List YB->Bool
 | [],[]=>true
 | a::l,b::k=>q a b && ow q l k
 | _,_=>false
def qC:Nat->YB->YB->Bool
 | 0,_,_=>false
 | n+1,a,b=>match a,b with
  | .bool a,.bool b=>a==b
  | .int k a,.int k' b=>decide (k=k') && (a==b)
  | .string a,.string b=>a.data.toList==b.data.toList
  | .pointer a,.pointer b=>Oa a b
  | .slice a l c,.slice b l' c'=>Oa a b && Nat.beq l l' && Nat.beq c c'
  | .map none,.map none=>true
  | .map (some a),.map (some b)=>Nat.beq a b
  | .func (.func f) ⟨a⟩ ⟨c⟩,.func (.func f') ⟨a'⟩ ⟨c'⟩=>Nat.beq f f' && ow (qC n) a a' && ow (qC n) c c'
  | .iface t a,.iface t' a'=>Nat.beq t t' && qC n a a'
  | .nilFunc,.nilFunc=>true
  | .nilIface,.nilIface=>true
  | .agg ⟨a⟩,.agg ⟨b⟩=>ow (qC n) a b
  | .tuple ⟨a⟩,.tuple ⟨b⟩=>ow (qC n) a b
  | _,_=>false
def cV {α:Type} (q:α->α->Bool):List (α × YB)->List (α × YB)->Bool
 | [],[]=>true
 | a::l,b::k=>q a.1 b.1 && qC 9 a.2 b.2 && cV q l k
 | _,_=>false
def NZ:AO->AO->Bool
 | .gone,.gone=>true
 | .row c e m,.row c' e' m'=>Nat.beq e e' && Nat.beq m m' && ow (qC 9) c c'
 | .vL d,.vL d'=>cV nD d d'
 | .xY d,.xY d'=>cV uD d d'
 | .xZ d,.xZ d'=>cV oH d d'
 | _,_=>false
def GG {α:Type} (q:α->α->Bool):Option α->Option α->Bool
 | none,none=>true
 | some a,some b=>q a b
 | _,_=>false
def Ao {α:Type} (q:α->α->Bool):dC α->dC α->Bool
 | .nil,.nil=>true
 | .node o l r,.node o' l' r'=>GG q o o' && Ao q l l' && Ao q r r'
 | _,_=>false
abbrev tZ:=List (Nat × Nat × Nat × List YB)
def uT (C:Cx) (s:CS) (w:List Nat):tZ->Bool
 | []=>true
 | (i,b,off,l)::m=>match rW i w with
  | true=>uT C s w m
  | false=>((cells C s b off l.length).elim false fun k=>ow (qC 9) k l) && uT C s w m
abbrev Ap:=List (Nat × Nat)
def BV (i nx:Nat):Ap->Nat
 | []=>nx
 | (j,b)::l=>match Nat.beq j i with
  | true=>b
  | false=>BV i nx l
abbrev DS:=Option (Ev × CS × Ap)
def DO (C:Cx) (call:fL) (n:Nat) (i:Nat) (o:Oper) (e:Ev) (s:CS) (m:tZ) (k:Ev->CS->tZ->DS):DS :=
 match o.op with
 | .load t x=>(jT C e x).bind fun v=>(By C t v s).bind fun (b,off,l,u)=>k (CG n e o.dst u) s ((i,b,off,l)::m)
 | _=>(Ts C call o e s).bind fun (v,s)=>k (CG n e o.dst v) s m
def yj (C:Cx) (call:fL) (n:Nat) (ops:Array Oper) (e:Ev) (s:CS) (m:tZ) (k:Nat->Ev->CS->Ap->DS) (q:Nat × Oper) (p:Ap):DS :=
 match q with
 | (i,o)=>(AT ops o e).bind fun w=>match w with
  | true=>(Ts C call o e ⟨s.σ,BV i s.nx p⟩).bind fun (v,s')=>fz (uT C s' (waits o) m) (k i (CG n e o.dst v) s' ((i,BV i s.nx p)::p))
  | false=>k i (CG n e o.dst undef) s p
def sameAs (e:Ev) (s:CS) (x:DS):Bool:=x.elim false fun (e',s',_)=>Ao (qC 9) e' e && Ao NZ s'.σ s.σ
def NO (step:Nat × Oper->Ap->DS) (q:Nat × Oper) (qs:List (Nat × Oper)) (p:Ap):DS :=
 (step q p).bind fun (e,s,p)=>fz (qs.all fun q=>sameAs e s (step q p)) (some (e,s,p))
def w8 (C:Cx) (call:fL) (n:Nat) (ops:Array Oper):Nat->List Nat->Ev->CS->tZ->Ap->DS
 | 0,_,_,_,_,_=>none
 | fu+1,D,e,s,m,p =>
  match cM C.P D true (idx 0 ops.toList) with
  | (i,o)::_=>(AT ops o e).bind fun w=>match w with
   | true=>DO C call n i o e s m fun e s m=>w8 C call n ops fu (i::D) e s m p
   | false=>w8 C call n ops fu (i::D) (CG n e o.dst undef) s m p
  | []=>match cM C.P D false (idx 0 ops.toList) with
   | []=>some (e,s,p)
   | q::qs=>NO (yj C call n ops e s m fun i e s p=>w8 C call n ops fu (i::D) e s m p) q qs p
def C3 (C:Cx) (call:fL) (n:Nat) (ops:Array Oper) (draw:Bool) (e:Ev) (s:CS):ES :=
 match draw with
 | false=>O' C call n ops ops.toList e s
 | true=>fz (dV C.P n ops) ((w8 C call n ops (ops.size+1) [] e s [] []).bind fun (e,s,_)=>some (e,s))
abbrev XS:=Option (Exit × Ev × CS)
def wJ:Exit->Bool
 | .normal=>true
 | _=>false
def Dp (r:XS) (k:Ev->CS->XS):XS :=
 r.bind fun (x,e,s)=>match wJ x with
 | true=>k e s
 | false=>some (x,e,s)
def B0 (id:Nat):Exit->Bool
 | .exit i=>Nat.beq i id
 | _=>false
def TH (id:Nat) (r:XS):XS :=
 r.bind fun (x,e,s)=>match B0 id x with
 | true=>some (.normal,e,s)
 | false=>some (x,e,s)
def Ie (step:Ev->CS->XS):Nat->Ev->CS->XS
 | 0,_,_=>none
 | k+1,e,s=>Dp (step e s) (Ie step k)
def Ak (c:Code):Exit->Option Code
 | .goto l=>findLabel c l
 | _=>none
def pa (step:Code->Ev->CS->XS) (c:Code):Nat->Code->Ev->CS->XS
 | 0,_,_,_=>none
 | k+1,r,e,s=>(step r e s).bind fun (x,e,s)=>match Ak c x with
  | some r=>pa step c k r e s
  | none=>some (x,e,s)
def Q1 (v:Option YB) (a b:XS):XS :=
 match v with
 | some (.bool true)=>a
 | some (.bool false)=>b
 | _=>none
def lH (C:Cx) (call:fL) (n:Nat):Nat->Code->Ev->CS->XS
 | 0,_,_,_=>none
 | fu+1,c,e,s =>
  match c with
  | .skip=>some (.normal,e,s)
  | .label _=>some (.normal,e,s)
  | .exit i=>some (.exit i,e,s)
  | .goto l=>some (.goto l,e,s)
  | .ret=>some (.ret,e,s)
  | .seq a b=>Dp (lH C call n fu a e s) (lH C call n fu b)
  | .cond c a b=>Q1 (jT C e c) (lH C call n fu a e s) (lH C call n fu b e s)
  | .block id c=>TH id (lH C call n fu c e s)
  | .region _ ops draw=>(C3 C call n ops draw e s).bind fun (e,s)=>some (.normal,e,s)
  | .loop c=>Ie (lH C call n fu c) 100000 e s
  | .scope c=>pa (lH C call n fu) c 100000 c e s
  | _=>none
def Re (C:Cx) (s:CS) (e:Ev):ResultVar->Option YB
 | .tmp t=>e.get t
 | .cell a t=>(e.get a).bind fun p=>(By C t p s).bind fun (_,_,_,v)=>some v
def Jb (C:Cx) (s:CS) (e:Ev):List ResultVar->Option (List YB)
 | []=>some []
 | r::rs=>(Re C s e r).bind fun v=>(Jb C s e rs).bind fun l=>some (v::l)
def G1:Nat->List YB->Ev
 | _,[]=>.nil
 | i,v::l=>(G1 (i+1) l).put i v
def returns:Exit->Bool
 | .normal=>true
 | .ret=>true
 | _=>false
def Rk (C:Cx) (call:fL) (fn:Func) (args:List YB) (s:CS):VS :=
 fz (Nat.ble args.length fn.ntmps) (fn.body.bind fun c=>(lH C call fn.ntmps 1000 c (G1 0 args) s).bind fun (x,e,s)=>fz (returns x) ((Jb C s e fn.results.toList).bind fun l=>some (one l,s)))
def RH (C:Cx):Nat->FuncId->List YB->CS->VS
 | 0,_,_,_=>none
 | fu+1,f,args,s=>(C.P.funcs[f]?).bind fun fn=>Rk C (RH C fu) fn args s
end
end Go.Sx.Cr
