/- Part of the framework. No condition. -/
import Derived.Test.YtmdncdaladplkaaGreatDoorSxW
set_option linter.all false
set_option maxHeartbeats 4000000
namespace Go.Sx.Cr
noncomputable section
def U' (a b:Xac):Bool :=
 match a,b with
 | none,none=>true
 | some ⟨b,o,none⟩,some ⟨b',o',none⟩=>Nat.beq b b' && Nat.beq o o'
 | _,_=>false
def sr (q:Xab->Xab->Bool):List Xab->List Xab->Bool
 | [],[]=>true
 | a::l,b::k=>q a b && sr q l k
 | _,_=>false
def tn:Nat->Xab->Xab->Bool
 | 0,_,_=>false
 | n+1,a,b=>match a,b with
  | .bool a,.bool b=>a==b
  | .int k a,.int k' b=>decide (k=k') && (a==b)
  | .string a,.string b=>a.data.toList==b.data.toList
  | .pointer a,.pointer b=>U' a b
  | .slice a l c,.slice b l' c'=>U' a b && Nat.beq l l' && Nat.beq c c'
  | .map none,.map none=>true
  | .map (some a),.map (some b)=>Nat.beq a b
  | .func (.func f) ⟨a⟩ ⟨c⟩,.func (.func d) ⟨a'⟩ ⟨c'⟩=>Nat.beq f d && sr (tn n) a a' && sr (tn n) c c'
  | .iface t a,.iface e a'=>Nat.beq t e && tn n a a'
  | .nilFunc,.nilFunc=>true
  | .nilIface,.nilIface=>true
  | .agg ⟨a⟩,.agg ⟨b⟩=>sr (tn n) a b
  | .tuple ⟨a⟩,.tuple ⟨b⟩=>sr (tn n) a b
  | _,_=>false
def dz {α:Type} (q:α->α->Bool):List (α × Xab)->List (α × Xab)->Bool
 | [],[]=>true
 | a::l,b::k=>q a.1 b.1 && tn 9 a.2 b.2 && dz q l k
 | _,_=>false
def SG:AO->AO->Bool
 | .gone,.gone=>true
 | .row c e m,.row c' b f=>Nat.beq e b && Nat.beq m f && sr (tn 9) c c'
 | .yh d,.yh a=>dz qh d a
 | .Ac d,.Ac a=>dz xA d a
 | .Ab d,.Ab a=>dz rp d a
 | _,_=>false
def JZ {α:Type} (q:α->α->Bool):Option α->Option α->Bool
 | none,none=>true
 | some a,some b=>q a b
 | _,_=>false
def C9 {α:Type} (q:α->α->Bool):eb α->eb α->Bool
 | .nil,.nil=>true
 | .node o l r,.node o' l' a=>JZ q o o' && C9 q l l' && C9 q r a
 | _,_=>false
abbrev xX:=List (Nat × Nat × Nat × List Xab)
def xI (C:Cx) (s:CS) (w:List Nat):xX->Bool
 | []=>true
 | (i,b,off,l)::m=>match uG i w with
  | true=>xI C s w m
  | false=>((cells C s b off l.length).elim false λk=>sr (tn 9) k l) && xI C s w m
abbrev CX:=List (Nat × Nat)
def Fj (i nx:Nat):CX->Nat
 | []=>nx
 | (j,b)::l=>match Nat.beq j i with
  | true=>b
  | false=>Fj i nx l
abbrev DS:=Option (Ev × CS × CX)
def Hb (C:Cx) (call:gY) (n i:Nat) (o:Oper) (e:Ev) (s:CS) (m:xX) (k:Ev->CS->xX->DS):DS :=
 match o.op with
 | .load t x=>(lJ C e x).bind λv=>(DE C t v s).bind λ(b,off,l,u)=>k (E1 n e o.dst u) s ((i,b,off,l)::m)
 | _=>(Yx C call o e s).bind λ(v,s)=>k (E1 n e o.dst v) s m
def AJ (C:Cx) (call:gY) (n:Nat) (ops:Array Oper) (e:Ev) (s:CS) (m:xX) (k:Nat->Ev->CS->CX->DS) (q:Nat × Oper) (p:CX):DS :=
 match q with
 | (i,o)=>(Eg ops o e).bind λw=>match w with
  | true=>(Yx C call o e ⟨s.σ,Fj i s.nx p⟩).bind λ(v,a)=>gF (xI C a (waits o) m) (k i (E1 n e o.dst v) a ((i,Fj i s.nx p)::p))
  | false=>k i (E1 n e o.dst undef) s p
def sameAs (e:Ev) (s:CS) (x:DS):Bool:=x.elim false λ(a,b,_)=>C9 (tn 9) a e && C9 SG b.σ s.σ
def R9 (step:Nat × Oper->CX->DS) (q:Nat × Oper) (a:List (Nat × Oper)) (p:CX):DS :=
 (step q p).bind λ(e,s,p)=>gF (a.all λq=>sameAs e s (step q p)) (some (e,s,p))
def zr (C:Cx) (call:gY) (n:Nat) (ops:Array Oper):Nat->List Nat->Ev->CS->xX->CX->DS
 | 0,_,_,_,_,_=>none
 | a+1,D,e,s,m,p =>
  match dm C.P D true (idx 0 ops.toList) with
  | (i,o)::_=>(Eg ops o e).bind λw=>match w with
   | true=>Hb C call n i o e s m λe s m=>zr C call n ops a (i::D) e s m p
   | false=>zr C call n ops a (i::D) (E1 n e o.dst undef) s m p
  | []=>match dm C.P D false (idx 0 ops.toList) with
   | []=>some (e,s,p)
   | q::b=>R9 (AJ C call n ops e s m λi e s p=>zr C call n ops a (i::D) e s m p) q b p
def FN (C:Cx) (call:gY) (n:Nat) (ops:Array Oper) (a:Bool) (e:Ev) (s:CS):ES :=
 match a with
 | false=>T' C call n ops ops.toList e s
 | true=>gF (eN C.P n ops) ((zr C call n ops (ops.size+1) [] e s [] []).bind λ(e,s,_)=>some (e,s))
abbrev XS:=Option (Exit × Ev × CS)
def x7:Exit->Bool
 | .normal=>true
 | _=>false
def H0 (r:XS) (k:Ev->CS->XS):XS :=
 r.bind λ(x,e,s)=>match x7 x with
 | true=>k e s
 | false=>some (x,e,s)
def EO (id:Nat):Exit->Bool
 | .exit i=>Nat.beq i id
 | _=>false
def ZX (id:Nat) (r:XS):XS :=
 r.bind λ(x,e,s)=>match EO id x with
 | true=>some (.normal,e,s)
 | false=>some (x,e,s)
def Lz (step:Ev->CS->XS):Nat->Ev->CS->XS
 | 0,_,_=>none
 | k+1,e,s=>H0 (step e s) (Lz step k)
def BZ (c:Code):Exit->Option Code
 | .goto l=>findLabel c l
 | _=>none
def qA (step:Code->Ev->CS->XS) (c:Code):Nat->Code->Ev->CS->XS
 | 0,_,_,_=>none
 | k+1,r,e,s=>(step r e s).bind λ(x,e,s)=>match BZ c x with
  | some r=>qA step c k r e s
  | none=>some (x,e,s)
def VJ (v:Option Xab) (a b:XS):XS :=
 match v with
 | some (.bool true)=>a
 | some (.bool false)=>b
 | _=>none
def nM (C:Cx) (call:gY) (n:Nat):Nat->Code->Ev->CS->XS
 | 0,_,_,_=>none
 | d+1,c,e,s =>
  match c with
  | .skip=>some (.normal,e,s)
  | .label _=>some (.normal,e,s)
  | .exit i=>some (.exit i,e,s)
  | .goto l=>some (.goto l,e,s)
  | .ret=>some (.ret,e,s)
  | .seq a b=>H0 (nM C call n d a e s) (nM C call n d b)
  | .cond c a b=>VJ (lJ C e c) (nM C call n d a e s) (nM C call n d b e s)
  | .block id c=>ZX id (nM C call n d c e s)
  | .region _ ops f=>(FN C call n ops f e s).bind λ(e,s)=>some (.normal,e,s)
  | .loop c=>Lz (nM C call n d c) 100000 e s
  | .scope c=>qA (nM C call n d) c 100000 c e s
  | _=>none
def Wl (C:Cx) (s:CS) (e:Ev):ResultVar->Option Xab
 | .tmp t=>e.get t
 | .cell a t=>(e.get a).bind λp=>(DE C t p s).bind λ(_,_,_,v)=>some v
def Ni (C:Cx) (s:CS) (e:Ev):List ResultVar->Option (List Xab)
 | []=>some []
 | r::a=>(Wl C s e r).bind λv=>(Ni C s e a).bind λl=>some (v::l)
def Kf:Nat->List Xab->Ev
 | _,[]=>.nil
 | i,v::l=>(Kf (i+1) l).put i v
def returns:Exit->Bool
 | .normal=>true
 | .ret=>true
 | _=>false
def V4 (C:Cx) (call:gY) (fn:Func) (args:List Xab) (s:CS):VS :=
 gF (Nat.ble args.length fn.ntmps) (fn.body.bind λc=>(nM C call fn.ntmps 1000 c (Kf 0 args) s).bind λ(x,e,s)=>gF (returns x) ((Ni C s e fn.results.toList).bind λl=>some (one l,s)))
def Yk (C:Cx):Nat->FuncId->List Xab->CS->VS
 | 0,_,_,_=>none
 | a+1,f,args,s=>(C.P.funcs[f]?).bind λfn=>V4 C (Yk C a) fn args s
end
end Go.Sx.Cr
