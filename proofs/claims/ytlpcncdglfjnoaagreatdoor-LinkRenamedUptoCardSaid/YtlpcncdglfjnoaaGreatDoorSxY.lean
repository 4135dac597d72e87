/- Part of the framework. No condition. -/
import Derived.Test.YtlpcncdglfjnoaaGreatDoorSxW
set_option linter.all false
set_option maxHeartbeats 4000000
namespace Go.Sx.Cr
noncomputable section
def Pd (a b:XC):Bool :=
 match a,b with
 | none,none=>true
 | some ⟨b,o,none⟩,some ⟨b',o',none⟩=>Nat.beq b b' && Nat.beq o o'
 | _,_=>false
def qP (q:XB->XB->Bool):List XB->List XB->Bool
 | [],[]=>true
 | a::l,b::k=>q a b && qP q l k
 | _,_=>false
def qw:Nat->XB->XB->Bool
 | 0,_,_=>false
 | n+1,a,b=>match a,b with
  | .bool a,.bool b=>a==b
  | .int k a,.int k' b=>decide (k=k') && (a==b)
  | .string a,.string b=>a.data.toList==b.data.toList
  | .pointer a,.pointer b=>Pd a b
  | .slice a l c,.slice b l' c'=>Pd a b && Nat.beq l l' && Nat.beq c c'
  | .map none,.map none=>true
  | .map (some a),.map (some b)=>Nat.beq a b
  | .func (.func f) ⟨a⟩ ⟨c⟩,.func (.func d) ⟨a'⟩ ⟨c'⟩=>Nat.beq f d && qP (qw n) a a' && qP (qw n) c c'
  | .iface t a,.iface e a'=>Nat.beq t e && qw n a a'
  | .nilFunc,.nilFunc=>true
  | .nilIface,.nilIface=>true
  | .agg ⟨a⟩,.agg ⟨b⟩=>qP (qw n) a b
  | .tuple ⟨a⟩,.tuple ⟨b⟩=>qP (qw n) a b
  | _,_=>false
def de {α:Type} (q:α->α->Bool):List (α × XB)->List (α × XB)->Bool
 | [],[]=>true
 | a::l,b::k=>q a.1 b.1 && qw 9 a.2 b.2 && de q l k
 | _,_=>false
def Nu:AO->AO->Bool
 | .gone,.gone=>true
 | .row c e m,.row c' b f=>Nat.beq e b && Nat.beq m f && qP (qw 9) c c'
 | .vW d,.vW a=>de nO d a
 | .xW d,.xW a=>de uX d a
 | .xV d,.xV a=>de oV d a
 | _,_=>false
def Gr {α:Type} (q:α->α->Bool):Option α->Option α->Bool
 | none,none=>true
 | some a,some b=>q a b
 | _,_=>false
def Ax {α:Type} (q:α->α->Bool):dF α->dF α->Bool
 | .nil,.nil=>true
 | .node o l r,.node o' l' a=>Gr q o o' && Ax q l l' && Ax q r a
 | _,_=>false
abbrev vK:=List (Nat × Nat × Nat × List XB)
def vh (C:Cx) (s:CS) (w:List Nat):vK->Bool
 | []=>true
 | (i,b,off,l)::m=>match rS i w with
  | true=>vh C s w m
  | false=>((cells C s b off l.length).elim false fun k=>qP (qw 9) k l) && vh C s w m
abbrev Ao:=List (Nat × Nat)
def Cm (i nx:Nat):Ao->Nat
 | []=>nx
 | (j,b)::l=>match Nat.beq j i with
  | true=>b
  | false=>Cm i nx l
abbrev DS:=Option (Ev × CS × Ao)
def DT (C:Cx) (call:fL) (n i:Nat) (o:Oper) (e:Ev) (s:CS) (m:vK) (k:Ev->CS->vK->DS):DS :=
 match o.op with
 | .load t x=>(jO C e x).bind fun v=>(A0 C t v s).bind fun (b,off,l,u)=>k (Ca n e o.dst u) s ((i,b,off,l)::m)
 | _=>(Si C call o e s).bind fun (v,s)=>k (Ca n e o.dst v) s m
def yw (C:Cx) (call:fL) (n:Nat) (ops:Array Oper) (e:Ev) (s:CS) (m:vK) (k:Nat->Ev->CS->Ao->DS) (q:Nat × Oper) (p:Ao):DS :=
 match q with
 | (i,o)=>(Bv ops o e).bind fun w=>match w with
  | true=>(Si C call o e ⟨s.σ,Cm i s.nx p⟩).bind fun (v,a)=>fx (vh C a (waits o) m) (k i (Ca n e o.dst v) a ((i,Cm i s.nx p)::p))
  | false=>k i (Ca n e o.dst undef) s p
def sameAs (e:Ev) (s:CS) (x:DS):Bool:=x.elim false fun (a,b,_)=>Ax (qw 9) a e && Ax Nu b.σ s.σ
def M6 (step:Nat × Oper->Ao->DS) (q:Nat × Oper) (a:List (Nat × Oper)) (p:Ao):DS :=
 (step q p).bind fun (e,s,p)=>fx (a.all fun q=>sameAs e s (step q p)) (some (e,s,p))
def xw (C:Cx) (call:fL) (n:Nat) (ops:Array Oper):Nat->List Nat->Ev->CS->vK->Ao->DS
 | 0,_,_,_,_,_=>none
 | a+1,D,e,s,m,p =>
  match cY C.P D true (idx 0 ops.toList) with
  | (i,o)::_=>(Bv ops o e).bind fun w=>match w with
   | true=>DT C call n i o e s m fun e s m=>xw C call n ops a (i::D) e s m p
   | false=>xw C call n ops a (i::D) (Ca n e o.dst undef) s m p
  | []=>match cY C.P D false (idx 0 ops.toList) with
   | []=>some (e,s,p)
   | q::b=>M6 (yw C call n ops e s m fun i e s p=>xw C call n ops a (i::D) e s m p) q b p
def CI (C:Cx) (call:fL) (n:Nat) (ops:Array Oper) (a:Bool) (e:Ev) (s:CS):ES :=
 match a with
 | false=>Ow C call n ops ops.toList e s
 | true=>fx (dX C.P n ops) ((xw C call n ops (ops.size+1) [] e s [] []).bind fun (e,s,_)=>some (e,s))
abbrev XS:=Option (Exit × Ev × CS)
def vP:Exit->Bool
 | .normal=>true
 | _=>false
def EE (r:XS) (k:Ev->CS->XS):XS :=
 r.bind fun (x,e,s)=>match vP x with
 | true=>k e s
 | false=>some (x,e,s)
def BZ (id:Nat):Exit->Bool
 | .exit i=>Nat.beq i id
 | _=>false
def TE (id:Nat) (r:XS):XS :=
 r.bind fun (x,e,s)=>match BZ id x with
 | true=>some (.normal,e,s)
 | false=>some (x,e,s)
def HL (step:Ev->CS->XS):Nat->Ev->CS->XS
 | 0,_,_=>none
 | k+1,e,s=>EE (step e s) (HL step k)
def zE (c:Code):Exit->Option Code
 | .goto l=>findLabel c l
 | _=>none
def oi (step:Code->Ev->CS->XS) (c:Code):Nat->Code->Ev->CS->XS
 | 0,_,_,_=>none
 | k+1,r,e,s=>(step r e s).bind fun (x,e,s)=>match zE c x with
  | some r=>oi step c k r e s
  | none=>some (x,e,s)
def PJ (v:Option XB) (a b:XS):XS :=
 match v with
 | some (.bool true)=>a
 | some (.bool false)=>b
 | _=>none
def lh (C:Cx) (call:fL) (n:Nat):Nat->Code->Ev->CS->XS
 | 0,_,_,_=>none
 | d+1,c,e,s =>
  match c with
  | .skip=>some (.normal,e,s)
  | .label _=>some (.normal,e,s)
  | .exit i=>some (.exit i,e,s)
  | .goto l=>some (.goto l,e,s)
  | .ret=>some (.ret,e,s)
  | .seq a b=>EE (lh C call n d a e s) (lh C call n d b)
  | .cond c a b=>PJ (jO C e c) (lh C call n d a e s) (lh C call n d b e s)
  | .block id c=>TE id (lh C call n d c e s)
  | .region _ ops f=>(CI C call n ops f e s).bind fun (e,s)=>some (.normal,e,s)
  | .loop c=>HL (lh C call n d c) 100000 e s
  | .scope c=>oi (lh C call n d) c 100000 c e s
  | _=>none
def Qi (C:Cx) (s:CS) (e:Ev):ResultVar->Option XB
 | .tmp t=>e.get t
 | .cell a t=>(e.get a).bind fun p=>(A0 C t p s).bind fun (_,_,_,v)=>some v
def IW (C:Cx) (s:CS) (e:Ev):List ResultVar->Option (List XB)
 | []=>some []
 | r::a=>(Qi C s e r).bind fun v=>(IW C s e a).bind fun l=>some (v::l)
def GG:Nat->List XB->Ev
 | _,[]=>.nil
 | i,v::l=>(GG (i+1) l).put i v
def returns:Exit->Bool
 | .normal=>true
 | .ret=>true
 | _=>false
def P3 (C:Cx) (call:fL) (fn:Func) (args:List XB) (s:CS):VS :=
 fx (Nat.ble args.length fn.ntmps) (fn.body.bind fun c=>(lh C call fn.ntmps 1000 c (GG 0 args) s).bind fun (x,e,s)=>fx (returns x) ((IW C s e fn.results.toList).bind fun l=>some (one l,s)))
def R3 (C:Cx):Nat->FuncId->List XB->CS->VS
 | 0,_,_,_=>none
 | a+1,f,args,s=>(C.P.funcs[f]?).bind fun fn=>P3 C (R3 C a) fn args s
end
end Go.Sx.Cr
