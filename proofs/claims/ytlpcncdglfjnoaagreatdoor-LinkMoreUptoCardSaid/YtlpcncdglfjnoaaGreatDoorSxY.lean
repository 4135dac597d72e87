/- Closed runs, part Y: regions, code, functions over a store. No condition. -/
import Derived.Test.YtlpcncdglfjnoaaGreatDoorSxW
set_option linter.all false
set_option maxHeartbeats 4000000
namespace Go.Sx.Cr
noncomputable section
def Ph (a b:Option ZC):Bool :=
 match a,b with
 | none,none=>true
 | some ⟨b,o,none⟩,some ⟨b',o',none⟩=>Nat.beq b b' && Nat.beq o o'
 | _,_=>false
def ph (q:ZB->ZB->Bool):List ZB->List ZB->Bool
 | [],[]=>true
 | a::l,b::k=>q a b && ph q l k
 | _,_=>false
def rk:Nat->ZB->ZB->Bool
 | 0,_,_=>false
 | n+1,a,b=>match a,b with
  | .bool a,.bool b=>a==b
  | .int k a,.int k' b=>decide (k=k') && (a==b)
  | .string a,.string b=>a.data.toList==b.data.toList
  | .pointer a,.pointer b=>Ph a b
  | .slice a l c,.slice b l' c'=>Ph a b && Nat.beq l l' && Nat.beq c c'
  | .map none,.map none=>true
  | .map (some a),.map (some b)=>Nat.beq a b
  | .func (.func f) ⟨a⟩ ⟨c⟩,.func (.func f') ⟨a'⟩ ⟨c'⟩=>Nat.beq f f' && ph (rk n) a a' && ph (rk n) c c'
  | .iface t a,.iface t' a'=>Nat.beq t t' && rk n a a'
  | .nilFunc,.nilFunc=>true
  | .nilIface,.nilIface=>true
  | .agg ⟨a⟩,.agg ⟨b⟩=>ph (rk n) a b
  | .tuple ⟨a⟩,.tuple ⟨b⟩=>ph (rk n) a b
  | _,_=>false
def cT {α:Type} (q:α->α->Bool):List (α × ZB)->List (α × ZB)->Bool
 | [],[]=>true
 | a::l,b::k=>q a.1 b.1 && rk 9 a.2 b.2 && cT q l k
 | _,_=>false
def MY:AO->AO->Bool
 | .gone,.gone=>true
 | .row c e m,.row c' e' m'=>Nat.beq e e' && Nat.beq m m' && ph (rk 9) c c'
 | .wo d,.wo d'=>cT oc d d'
 | .xW d,.xW d'=>cT uh d d'
 | .yd d,.yd d'=>cT oX d d'
 | _,_=>false
def GA {α:Type} (q:α->α->Bool):Option α->Option α->Bool
 | none,none=>true
 | some a,some b=>q a b
 | _,_=>false
def Aq {α:Type} (q:α->α->Bool):dB α->dB α->Bool
 | .nil,.nil=>true
 | .node o l r,.node o' l' r'=>GA q o o' && Aq q l l' && Aq q r r'
 | _,_=>false
abbrev uy:=List (Nat × Nat × Nat × List ZB)
def uv (C:Cx) (s:CS) (w:List Nat):uy->Bool
 | []=>true
 | (i,b,off,l)::m=>match r6 i w with
  | true=>uv C s w m
  | false=>((cells C s b off l.length).elim false fun k=>ph (rk 9) k l) && uv C s w m
abbrev Ar:=List (Nat × Nat)
def CE (i nx:Nat):Ar->Nat
 | []=>nx
 | (j,b)::l=>match Nat.beq j i with
  | true=>b
  | false=>CE i nx l
abbrev DS:=Option (Ev × CS × Ar)
def FE (C:Cx) (call:fL) (n:Nat) (i:Nat) (o:Oper) (e:Ev) (s:CS) (m:uy) (k:Ev->CS->uy->DS):DS :=
 match o.op with
 | .load t x=>(jQ C e x).bind fun v=>(AW C t v s).bind fun (b,off,l,u)=>k (Dg n e o.dst u) s ((i,b,off,l)::m)
 | _=>(TI C call o e s).bind fun (v,s)=>k (Dg n e o.dst v) s m
def yr (C:Cx) (call:fL) (n:Nat) (ops:Array Oper) (e:Ev) (s:CS) (m:uy) (k:Nat->Ev->CS->Ar->DS) (q:Nat × Oper) (p:Ar):DS :=
 match q with
 | (i,o)=>(A9 ops o e).bind fun w=>match w with
  | true=>(TI C call o e ⟨s.σ,CE i s.nx p⟩).bind fun (v,s')=>fw (uv C s' (waits o) m) (k i (Dg n e o.dst v) s' ((i,CE i s.nx p)::p))
  | false=>k i (Dg n e o.dst undef) s p
def sameAs (e:Ev) (s:CS) (x:DS):Bool:=x.elim false fun (e',s',_)=>Aq (rk 9) e' e && Aq MY s'.σ s.σ
def Mj (step:Nat × Oper->Ar->DS) (q:Nat × Oper) (qs:List (Nat × Oper)) (p:Ar):DS :=
 (step q p).bind fun (e,s,p)=>fw (qs.all fun q=>sameAs e s (step q p)) (some (e,s,p))
def xk (C:Cx) (call:fL) (n:Nat) (ops:Array Oper):Nat->List Nat->Ev->CS->uy->Ar->DS
 | 0,_,_,_,_,_=>none
 | fu+1,D,e,s,m,p =>
  match cO C.P D true (idx 0 ops.toList) with
  | (i,o)::_=>(A9 ops o e).bind fun w=>match w with
   | true=>FE C call n i o e s m fun e s m=>xk C call n ops fu (i::D) e s m p
   | false=>xk C call n ops fu (i::D) (Dg n e o.dst undef) s m p
  | []=>match cO C.P D false (idx 0 ops.toList) with
   | []=>some (e,s,p)
   | q::qs=>Mj (yr C call n ops e s m fun i e s p=>xk C call n ops fu (i::D) e s m p) q qs p
def C6 (C:Cx) (call:fL) (n:Nat) (ops:Array Oper) (draw:Bool) (e:Ev) (s:CS):ES :=
 match draw with
 | false=>PI C call n ops ops.toList e s
 | true=>fw (dW C.P n ops) ((xk C call n ops (ops.size+1) [] e s [] []).bind fun (e,s,_)=>some (e,s))
abbrev XS:=Option (Exit × Ev × CS)
def wb:Exit->Bool
 | .normal=>true
 | _=>false
def EZ (r:XS) (k:Ev->CS->XS):XS :=
 r.bind fun (x,e,s)=>match wb x with
 | true=>k e s
 | false=>some (x,e,s)
def C2 (id:Nat):Exit->Bool
 | .exit i=>Nat.beq i id
 | _=>false
def UJ (id:Nat) (r:XS):XS :=
 r.bind fun (x,e,s)=>match C2 id x with
 | true=>some (.normal,e,s)
 | false=>some (x,e,s)
def HY (step:Ev->CS->XS):Nat->Ev->CS->XS
 | 0,_,_=>none
 | k+1,e,s=>EZ (step e s) (HY step k)
def Ac (c:Code):Exit->Option Code
 | .goto l=>findLabel c l
 | _=>none
def pj (step:Code->Ev->CS->XS) (c:Code):Nat->Code->Ev->CS->XS
 | 0,_,_,_=>none
 | k+1,r,e,s=>(step r e s).bind fun (x,e,s)=>match Ac c x with
  | some r=>pj step c k r e s
  | none=>some (x,e,s)
def Rg (v:Option ZB) (a b:XS):XS :=
 match v with
 | some (.bool true)=>a
 | some (.bool false)=>b
 | _=>none
def lG (C:Cx) (call:fL) (n:Nat):Nat->Code->Ev->CS->XS
 | 0,_,_,_=>none
 | fu+1,c,e,s =>
  match c with
  | .skip=>some (.normal,e,s)
  | .label _=>some (.normal,e,s)
  | .exit i=>some (.exit i,e,s)
  | .goto l=>some (.goto l,e,s)
  | .ret=>some (.ret,e,s)
  | .seq a b=>EZ (lG C call n fu a e s) (lG C call n fu b)
  | .cond c a b=>Rg (jQ C e c) (lG C call n fu a e s) (lG C call n fu b e s)
  | .block id c=>UJ id (lG C call n fu c e s)
  | .region _ ops draw=>(C6 C call n ops draw e s).bind fun (e,s)=>some (.normal,e,s)
  | .loop c=>HY (lG C call n fu c) 100000 e s
  | .scope c=>pj (lG C call n fu) c 100000 c e s
  | _=>none
def QM (C:Cx) (s:CS) (e:Ev):ResultVar->Option ZB
 | .tmp t=>e.get t
 | .cell a t=>(e.get a).bind fun p=>(AW C t p s).bind fun (_,_,_,v)=>some v
def IZ (C:Cx) (s:CS) (e:Ev):List ResultVar->Option (List ZB)
 | []=>some []
 | r::rs=>(QM C s e r).bind fun v=>(IZ C s e rs).bind fun l=>some (v::l)
def GV:Nat->List ZB->Ev
 | _,[]=>.nil
 | i,v::l=>(GV (i+1) l).put i v
def returns:Exit->Bool
 | .normal=>true
 | .ret=>true
 | _=>false
def QV (C:Cx) (call:fL) (fn:Func) (args:List ZB) (s:CS):VS :=
 fw (Nat.ble args.length fn.ntmps) (fn.body.bind fun c=>(lG C call fn.ntmps 1000 c (GV 0 args) s).bind fun (x,e,s)=>fw (returns x) ((IZ C s e fn.results.toList).bind fun l=>some (one l,s)))
def O9 (C:Cx):Nat->FuncId->List ZB->CS->VS
 | 0,_,_,_=>none
 | fu+1,f,args,s=>(C.P.funcs[f]?).bind fun fn=>QV C (O9 C fu) fn args s
end
end Go.Sx.Cr
