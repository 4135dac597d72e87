/- Part of the framework. No condition. -/
import Derived.Test.YtlpcncdglfjnoaaGreatDoorSxM
import Derived.Orders
set_option linter.all false
set_option maxHeartbeats 4000000
namespace Go.Sx
section congr
variable {P:Program}
variable {H I:Env}
def bt {x:Operand} (h:ev H x=ev I x) (k:XB->T):bK H x k=bK I x k:=by
 unfold bK; rw [h]
theorem eu {e a:Env}:∀ {xs:List Operand},(∀ x∈xs,ev e x=ev a x)->∀ (k:List XB->T),gR e xs k=gR a xs k
 | [],_,k=>rfl
 | x::xs,h,k=>by
  simp only [gR];rw [bt (h x ah)]
  congr 1
  funext v
  exact eu (fun x b=>h x (by simp [b])) _
def wz {o:Oper} (h:∀ x∈o.op.operands,ev H x=ev I x) (kk:XB->T):tO P o H kk=tO P o I kk:=by
 obtain ⟨dst,op,g,pos,after,guard⟩:=o;cases op <;> simp only [Op.operands] at h <;> simp only [tO]
 case pick c x y =>
  rw [bt (h c ah)]
  congr 1; funext v
  cases v <;> first | rfl | (rw [bt (h x ah),bt (h y ah)])
 case build t ps=>rw [eu (fun x a=>h x (by simpa using a))]
 case buildSlice t l ps=>rw [eu (fun x a=>h x (by simpa using a))]
 case store t x y =>
  rw [bt (h x ah)]
  congr 1; funext v
  rw [bt (h y ah)]
 case binOp op t x y i =>
  rw [bt (h x ah)]
  congr 1; funext v
  rw [bt (h y ah)]
 case makeFunc fn j k =>
  rw [eu (fun x a=>h x (by simp at a ⊢; exact .inl a))]
  congr 1; funext v
  rw [eu (fun x a=>h x (by simp at a ⊢; exact .inr a))]
 case makeMap t r=>cases r <;> rfl
 case makeSlice t x y =>
  rw [bt (h x ah)]
  congr 1; funext v
  rw [bt (h y ah)]
 case slice t x n hi p =>
  rw [bt (h x ah)]
  congr 1; funext v
  rw [eu (fun y d=>h y (by
   simp only [List.mem_append,Option.mem_toList] at d;simp only [Array.mem_append,Array.mem_singleton,Option.mem_toArray];rcases d with (d | d) | d
   ·exact .inl (.inl (.inr d))
   ·exact .inl (.inr d)
   ·exact .inr d))]
 case indexAddr t x y =>
  rw [bt (h x ah)]
  congr 1; funext v
  rw [bt (h y ah)]
 case index t x y =>
  rw [bt (h x ah)]
  congr 1; funext v
  rw [bt (h y ah)]
 case lookup t x y ok =>
  rw [bt (h x ah)]
  congr 1; funext v
  rw [bt (h y ah)]
 case mapUpdate t x y z =>
  rw [bt (h x ah)]
  congr 1; funext v
  rw [bt (h y ah)]
  congr 1; funext v
  rw [bt (h z ah)]
 case insert t x y z =>
  rw [bt (h x ah)]
  congr 1; funext v
  rw [bt (h y ah)]
  congr 1; funext v
  rw [bt (h z ah)]
 case mapEntry t x y =>
  rw [bt (h x ah)]
  congr 1; funext v
  rw [bt (h y ah)]
 case entryStore t x y z =>
  rw [bt (h x ah)]
  congr 1; funext v
  rw [bt (h y ah)]
  congr 1; funext v
  rw [bt (h z ah)]
 case call c =>
  cases hc:c.callee with
  | builtin b =>
   simp only [hc];rw [eu (fun x a=>h x (by simp [Call.operands,hc]; simpa using a))]
  | invoke r m=>simp only [hc]
  | value f =>
   simp only [hc];cases DX f
   ·simp only;rw [bt (h f (by simp [Call.operands,hc]))]
    congr 1; funext v
    rw [eu (xs:=c.args.toList) (fun x a=>h x (by simp [Call.operands,hc]; right; simpa using a))]
   ·simp only;rw [bt (h f (by simp [Call.operands,hc]))]
    congr 1; funext v
    rw [eu (xs:=c.args.toList) (fun x a=>h x (by simp [Call.operands,hc]; right; simpa using a))]
 all_goals first | rfl | exact bt (h _ ah) _
end congr
section pures
variable {P:Program} {L:Lp} {K:XB->Hp->Prop} {h:Hp}
def dJ (F:(XB->T)->T) (d:XB->T) (L:Lp) (K:XB->Hp->Prop) (h:Hp):Prop :=
 ∃ v,d v L K h/\∀ (a:XB->T) b c h',a v b c h'->F a b c h'
variable {I:Env}
def dm {x:Operand} {F:(XB->T)->XB->T} {a:XB->T} (f:∀ v,F a v L K h->dJ (fun a=>F a v) a L K h)
  (c:bK I x (F a) L K h):dJ (fun a=>bK I x (F a)) a L K h:=by
 obtain ⟨v,hv,c⟩:=bn c;obtain ⟨u,hk,b⟩:=f v c;refine ⟨u,hk,fun d g i h' j=>?_⟩;unfold bK;simp only [hv];exact b d g i h' j
theorem nP {e:Env}:∀ {xs:List Operand} {F:(XB->T)->List XB->T} {a:XB->T},(∀ v,F a v L K h->dJ (fun a=>F a v) a L K h) ->
  gR e xs (F a) L K h->dJ (fun a=>gR e xs (F a)) a L K h
 | [],F,a,c,b=>c [] b
 | x::xs,F,a,c,b=>by
  refine dm (F:=fun a v=>gR e xs fun l=>F a (v::l)) ?_ b;intro v b;exact nP (F:=fun a l=>F a (v::l)) (fun l hl=>c (v::l) hl) b
def cM {a:XB->T} {v:XB} (b:a v L K h):dJ (fun a=>a v) a L K h:=⟨v,b,fun _ _ _ _ c=>c⟩
def oB {p:Prop} {F:(XB->T)->T} {a:XB->T} (e:F a L K h->dJ F a L K h) (c:T.need p (F a) L K h):dJ (fun a=>T.need p (F a)) a L K h:=by
 obtain ⟨f,c⟩:=c;obtain ⟨v,hk,b⟩:=e c;exact ⟨v,hk,fun d g i h' j=>⟨f,b d g i h' j⟩⟩
def zX {q:XC} {F:(XB->T)->YA->T} {b:XB->T} (f:∀ a,F b a L K h->dJ (fun b=>F b a) b L K h) (d:T.bd q (F b) L K h) :
  dJ (fun b=>T.bd q (F b)) b L K h:=by
 obtain ⟨a,rfl,d⟩:=fM d;obtain ⟨v,hk,c⟩:=f a d;exact ⟨v,hk,fun e g i h' j=>c e g i h' j⟩
variable {O:Bool}
def rc {F G:(XB->T)->T} {a:XB->T} (d:F a L K h->dJ F a L K h) (e:G a L K h->dJ G a L K h) (c:cond O (F a) (G a) L K h) :
  dJ (fun a=>cond O (F a) (G a)) a L K h:=by
 cases O
 ·exact e c
 ·exact d c
def uC {op:BinOp} {a:XB->T} (c:asked op O a T.fail L K h):dJ (fun a=>asked op O a T.fail) a L K h:=by
 cases op <;> first | exact cM c | exact c.elim
variable {U:IntKind} {V Y:Int}
def O6 {op:BinOp} {a:XB->T} (b:GK op U V Y a L K h):dJ (fun a=>GK op U V Y a) a L K h:=by
 cases op <;> first
  | exact b.elim
  | exact cM b
  | exact oB (F:=fun a=>a _) cM b
def Ix {op:BinOp} {a:XB->T} (b:y6 op U V Y a L K h):dJ (fun a=>y6 op U V Y a) a L K h:=by
 cases op <;> first
  | exact b.elim
  | exact oB (F:=fun a=>a _) cM b
def Pg {op:BinOp} {m n:XA} {a:XB->T} (b:GB op m n a L K h):dJ (fun a=>GB op m n a) a L K h:=by
 cases op <;> first
  | exact b.elim
  | exact cM b
  | exact oB (F:=fun a=>a _) cM b
variable {H:TypeId}
def KR {op:BinOp} {a b:XB} {g:XB->T} (e:r8 P op H a b g L K h):dJ (fun g=>r8 P op H a b g) g L K h:=by
 unfold r8 at e ⊢;cases a <;> cases b <;> first | exact e.elim | skip
 case bool.bool m n =>
  generalize P.underlying H=f at e ⊢;cases f with
  | none=>exact e.elim
  | some d=>cases d <;> first | exact e.elim | exact uC e
 case int.int k m k' n =>
  simp only at e ⊢;cases i:lP op with
  | true=>simp only [i] at e ⊢; exact Ix e
  | false =>
   simp only [i] at e ⊢
   by_cases hk:k=k'
   ·subst hk;simp only [decide_true] at e ⊢;exact O6 e
   ·simp only [hk,decide_false] at e;exact e.elim
 case string.string m n=>exact Pg e
 case pointer.pointer p q =>
  generalize P.underlying H=f at e ⊢;cases f with
  | none=>exact e.elim
  | some d=>cases d <;> first | exact e.elim | exact uC e
 case slice.slice p l c q l' c' =>
  generalize P.underlying H=f at e ⊢;cases f with
  | none=>exact e.elim
  | some d=>cases d <;> first | exact e.elim | exact uC e
 case map.map p q =>
  generalize P.underlying H=f at e ⊢;cases f with
  | none=>exact e.elim
  | some d=>cases d <;> first | exact e.elim | exact uC e
def Rx {op:UnOp} {a:XB} {b:XB->T} (c:R4 op a b L K h):dJ (fun b=>R4 op a b) b L K h:=by
 cases op <;> cases a <;> first | exact c.elim | exact cM c
def JI {cs : List XB} {off : Nat} {b : XB -> T} (a : sn P H cs off b L K h) : dJ (fun b => sn P H cs off b) b L K h := by
  unfold sn at a ⊢;generalize P.underlying H = c at a ⊢;cases c with
  | none => exact a.elim
  | some d =>
    cases d <;> first
      | exact cM a
      | (cases hv : cs[off]? with
         | none => simp only [hv] at a; exact a.elim
         | some v => simp only [hv] at a ⊢; exact cM a)
def ID {a:XB} {e hi:Option XB} {c:XB->T} (f:(match P.underlying H with
  | some .string=>true
  | some (.slice _)=>true
  | _=>false)=true) (b:iq P H a e hi none c L K h):dJ (fun c=>iq P H a e hi none c) c L K h:=by
 unfold iq at b ⊢;cases hint:ej e && ej hi && ej none with
 | false=>simp only [hint] at b; exact b.elim
 | true =>
  simp only [hint] at b ⊢;generalize P.underlying H=i at b f ⊢;cases i with
  | none=>cases f
  | some d =>
   cases d <;> simp only [Bool.false_eq_true] at f
   case string=>cases a <;> first | exact b.elim | exact oB (F:=fun c=>c _) cM b
   case slice j =>
    cases a <;> first | exact b.elim | skip
    simp only at b ⊢;cases g:mG P j with
    | false=>simp only [g] at b; exact b.elim
    | true=>simp only [g] at b ⊢; exact oB (F:=fun c=>c _) cM b
theorem rD {agg:Nat->Option Bool}:∀ {ps:List (Nat × XB)} {F:(XB->T)->List (Nat × List XB)->T} {a:XB->T},(∀ r,F a r L K h->dJ (fun a=>F a r) a L K h) ->
  eW agg ps (F a) L K h->dJ (fun a=>eW agg ps (F a)) a L K h
 | [],F,a,d,c=>d [] c
 | (i,v)::l,F,a,d,c=>by
  simp only [eW] at c ⊢;cases f:agg i with
  | none=>rw [f] at c; exact c.elim
  | some b =>
   rw [f] at c;cases b with
   | true=>exact rc (F:=fun a=>eW agg l fun r=>F a ((i,ji v)::r)) (G:=fun _=>T.fail) (fun c=>rD (F:=fun a r=>F a ((i,ji v)::r)) (fun r e=>d _ e) c) (fun c=>c.elim) c
   | false=>exact rc (F:=fun _=>T.fail) (G:=fun a=>eW agg l fun r=>F a ((i,[v])::r)) (fun c=>c.elim) (fun c=>rD (F:=fun a r=>F a ((i,[v])::r)) (fun r e=>d _ e) c) c
def LL {o:Oper} {g:XB->T} (n:qT P o=true) (j:tO P o I g L K h):dJ (fun g=>tO P o I g) g L K h:=by
 obtain ⟨dst,op,D,pos,after,guard⟩:=o;cases op <;> simp only [qT,Bool.false_eq_true] at n <;> simp only [tO] at j ⊢
 case move x=>exact dm (F:=fun g v=>g v) (fun v hv=>cM hv) j
 case pick c x y =>
  refine dm (F:=fun g c=>match c with
   | .bool b'=>cond b' (bK I x g) (bK I y g)
   | _=>T.fail) (fun v hv=>?_) j
  cases v <;> first | exact hv.elim | skip
  exact rc (F:=fun g=>bK I x g) (G:=fun g=>bK I y g) (fun j=>dm (F:=fun g v=>g v) (fun v hv=>cM hv) j) (fun j=>dm (F:=fun g v=>g v) (fun v hv=>cM hv) j) hv
 case build t ps =>
  refine nP (F:=fun g q=>match P.underlying t,(P.info? t).bind (·.zero) with
   | some (.struct u),some z =>
    bif !(u.all fun f=>mG P f.type) then T.fail else eW (fun i=>(u[i]?).bind fun f=>cB P f.type) ((ps.toList.map (·.1)).zip q) fun A=>match fj (((u.map fun f=>(f.offset,P.cellsOf f.type)))[·]?) z.cells.toList A with
    | some cs=>g (.agg cs.toArray)
    | none=>T.fail
   | some (.array _ C),some z =>
    bif !mG P C then T.fail else eW (fun _=>cB P C) ((ps.toList.map (·.1)).zip q) fun A=>match fj (fun i=>some (i*P.cellsOf C,P.cellsOf C)) z.cells.toList A with
    | some cs=>g (.agg cs.toArray)
    | none=>T.fail
   | _,_=>T.fail) (fun q hv=>?_) j
  generalize P.underlying t=B at hv ⊢;generalize (P.info? t).bind (·.zero)=z at hv ⊢;cases B with
  | none=>exact hv.elim
  | some d =>
   cases d <;> first | exact hv.elim | skip
   case array len C =>
    cases z with
    | none=>exact hv.elim
    | some z =>
     refine rc (F:=fun _=>T.fail) (G:=fun g=>eW (fun _=>cB P C) ((ps.toList.map (·.1)).zip q) fun A=>match fj (fun i=>some (i*P.cellsOf C,P.cellsOf C)) z.cells.toList A with
      | some cs=>g (.agg cs.toArray)
      | none=>T.fail) (fun j=>j.elim) (fun j=>?_) hv
     refine rD (F:=fun g A=>match fj (fun i=>some (i*P.cellsOf C,P.cellsOf C)) z.cells.toList A with
      | some cs=>g (.agg cs.toArray)
      | none=>T.fail) (fun A j=>?_) j
     cases E:fj (fun i=>some (i*P.cellsOf C,P.cellsOf C)) z.cells.toList A with
     | none=>simp only [E] at j; exact j.elim
     | some cs=>simp only [E] at j ⊢; exact cM j
   case struct u =>
    cases z with
    | none=>exact hv.elim
    | some z =>
     refine rc (F:=fun _=>T.fail) (G:=fun g=>eW (fun i=>(u[i]?).bind fun f=>cB P f.type) ((ps.toList.map (·.1)).zip q) fun A=>match fj (((u.map fun f=>(f.offset,P.cellsOf f.type)))[·]?) z.cells.toList A with
      | some cs=>g (.agg cs.toArray)
      | none=>T.fail) (fun j=>j.elim) (fun j=>?_) hv
     refine rD (F:=fun g A=>match fj (((u.map fun f=>(f.offset,P.cellsOf f.type)))[·]?) z.cells.toList A with
      | some cs=>g (.agg cs.toArray)
      | none=>T.fail) (fun A j=>?_) j
     cases E:fj (((u.map fun f=>(f.offset,P.cellsOf f.type)))[·]?) z.cells.toList A with
     | none=>simp only [E] at j; exact j.elim
     | some cs=>simp only [E] at j ⊢; exact cM j
 case nilCheck x =>
  refine dm (F:=fun g v=>match v with
   | .pointer p=>T.bd p fun a=>g (.pointer (some a))
   | .func (.func f) N H=>g (.func (.func f) N H)
   | .iface t v=>g (.iface t v)
   | _=>T.fail) (fun v hv=>?_) j
  cases v with
  | pointer p=>exact zX (F:=fun g a=>g (.pointer (some a))) (fun a J=>cM J) hv
  | func fn N H=>cases fn <;> first | exact hv.elim | exact cM hv
  | iface t w=>exact cM hv
  | _=>exact hv.elim
 case binOp op t x y U =>
  refine dm (F:=fun g a=>bK I y fun b=>Cz P op t x y a b g) (fun a J=>?_) j;refine dm (F:=fun g b=>Cz P op t x y a b g) (fun b Q=>?_) J;unfold Cz at Q ⊢;simp only [n] at Q ⊢;exact KR Q
 case unOp op t x=>exact dm (F:=fun g a=>R4 op a g) (fun v hv=>Rx hv) j
 case convert s d x =>
  refine dm (F:=fun g a=>xn P s d a g) (fun v hv=>?_) j;unfold xn at hv ⊢;generalize P.underlying s=us at hv n ⊢;generalize P.underlying d=B at hv n ⊢;cases us with
  | none=>cases n
  | some us =>
   cases B with
   | none=>cases us <;> cases n
   | some B =>
    cases us <;> first | (cases B <;> cases n; done) | skip
    case int k=>cases B <;> first | (cases n; done) | (cases v <;> first | exact hv.elim | exact cM hv)
    case string=>cases B <;> first | (cases n; done) | (cases v <;> first | exact hv.elim | exact cM hv)
 case makeInterface t x =>
  refine dm (F:=fun g a=>match P.underlying t with
   | some (.interface _)=>T.fail
   | some _=>g (.iface t a)
   | none=>T.fail) (fun v hv=>?_) j
  generalize P.underlying t=B at hv ⊢;cases B with
  | none=>exact hv.elim
  | some d=>cases d <;> first | exact hv.elim | exact cM hv
 case makeFunc fn N H =>
  refine nP (F:=fun g N=>gR I H.toList fun H=>g (.func fn N.toArray H.toArray)) (fun N hv=>?_) j;exact nP (F:=fun g H=>g (.func fn N.toArray H.toArray)) (fun H hv=>cM hv) hv
 case slice t x O hi R =>
  cases R with
  | some m=>cases n
  | none =>
  simp only at n;refine dm (F:=fun g a=>gR I (O.toList++hi.toList++(none:Option Operand).toList) fun q=>Sb P t O hi none a q g) (fun a J=>?_) j;refine nP (F:=fun g q=>Sb P t O hi none a q g) (fun q hv=>?_) J;unfold Sb at hv ⊢;cases O <;> cases hi <;> rcases q with _ | ⟨l,_ | ⟨V,_ | ⟨W,q⟩⟩⟩ <;> first
   | exact hv.elim
   | exact ID n hv
 case fieldAddr s x f =>
  refine dm (F:=fun g v=>match v,P.underlying s with
   | .pointer p,some (.struct u)=>match u[f]? with
    | some M=>match P.cellsOf M.type with
     | 0=>T.fail
     | _+1=>T.bd p fun a=>g (.pointer (some (a.add M.offset)))
    | none=>T.fail
   | _,_=>T.fail) (fun v hv=>?_) j
  generalize P.underlying s=us at hv ⊢;cases v <;> first | exact hv.elim | skip
  cases us with
  | none=>exact hv.elim
  | some us =>
   cases us <;> first | exact hv.elim | skip
   rename_i u;simp only at hv ⊢;cases E:u[f]? with
   | none=>simp only [E] at hv; exact hv.elim
   | some M =>
    simp only [E] at hv ⊢;cases hc:P.cellsOf M.type with
    | zero=>simp only [hc] at hv; exact hv.elim
    | succ m=>simp only [hc] at hv ⊢; exact zX (F:=fun g a=>g (.pointer (some (a.add M.offset)))) (fun a J=>cM J) hv
 case field s x f =>
  refine dm (F:=fun g v=>match v,P.underlying s with
   | .agg cs,some (.struct u)=>match u[f]? with
    | some M=>sn P M.type cs.toList M.offset g
    | none=>T.fail
   | _,_=>T.fail) (fun v hv=>?_) j
  generalize P.underlying s=us at hv ⊢;cases v <;> first | exact hv.elim | skip
  cases us with
  | none=>exact hv.elim
  | some us =>
   cases us <;> first | exact hv.elim | skip
   rename_i u;simp only at hv ⊢;cases E:u[f]? with
   | none=>simp only [E] at hv; exact hv.elim
   | some M=>simp only [E] at hv ⊢; exact JI hv
 case indexAddr t x i =>
  refine dm (F:=fun g v=>bK I i fun i=>xJ P t v i g) (fun v hv=>?_) j;refine dm (F:=fun g i=>xJ P t v i g) (fun i hi=>?_) hv;unfold xJ at hi ⊢;generalize P.underlying t=us at hi ⊢;cases v <;> cases i <;> first | exact hi.elim | skip
  all_goals
   cases us with
   | none=>exact hi.elim
   | some us =>
    cases us <;> first | exact hi.elim | skip
    refine rc (F:=fun _=>T.fail) (fun j=>j.elim) (fun j=>?_) hi;exact oB (F:=fun g=>T.bd _ fun a=>g (.pointer (some (a.add (_*P.cellsOf _))))) (zX (F:=fun g a=>g (.pointer (some (a.add (_*P.cellsOf _))))) (fun a J=>cM J)) j
 case index t x i =>
  refine dm (F:=fun g v=>bK I i fun i=>FO P t v i g) (fun v hv=>?_) j;refine dm (F:=fun g i=>FO P t v i g) (fun i hi=>?_) hv;unfold FO at hi ⊢;generalize P.underlying t=us at hi n ⊢;cases us with
  | none=>cases n
  | some us =>
   cases us <;> simp only [Bool.false_eq_true] at n;cases v <;> cases i <;> first | exact hi.elim | exact oB (F:=fun g=>g _) cM hi
 case extract x i =>
  refine dm (F:=fun g v=>match v with
   | .tuple q=>match q.toList[i]? with
    | some v=>g v
    | none=>T.fail
   | _=>T.fail) (fun v hv=>?_) j
  cases v <;> first | exact hv.elim | skip
  rename_i q;simp only at hv ⊢;cases hi:q.toList[i]? with
  | none=>simp only [hi] at hv; exact hv.elim
  | some w=>simp only [hi] at hv ⊢; exact cM hv
 case call c =>
  cases hc:c.callee with
  | value f=>simp only [hc] at n; cases n
  | invoke r m=>simp only [hc] at n; cases n
  | builtin b =>
   simp only [hc] at n j ⊢;refine nP (F:=fun g q=>qD P b c D q g) (fun q hv=>?_) j;cases b <;> simp only [Bool.false_eq_true] at n
   case len =>
    have hv:yQ P c D q g L K h:=hv;show dJ (fun g=>yQ P c D q g) g L K h;unfold yQ at hv ⊢;generalize (c.argTypes[0]?).bind P.underlying=B at hv n ⊢;cases B with
    | none=>cases n
    | some d =>
     cases d <;> simp only [Bool.false_eq_true] at n
     all_goals
      rcases q with _ | ⟨v,_ | ⟨S,l⟩⟩ <;> first | exact hv.elim | skip
      all_goals cases v <;> first | exact hv.elim | exact cM hv
   case cap =>
    have hv:IE P c q g L K h:=hv;show dJ (fun g=>IE P c q g) g L K h;unfold IE at hv ⊢;generalize (c.argTypes[0]?).bind P.underlying=B at hv n ⊢;cases B with
    | none=>cases n
    | some d =>
     cases d <;> simp only [Bool.false_eq_true] at n
     all_goals
      rcases q with _ | ⟨v,_ | ⟨S,l⟩⟩ <;> first | exact hv.elim | skip
      all_goals cases v <;> first | exact hv.elim | exact cM hv
end pures
section draws
variable {P:Program} {n:Nd} {ops:Array Oper}
theorem fS {x:Nat}:∀ {l:List Nat},rS x l=true↔x∈l
 | []=>by simp [rS]
 | y::l=>by
  simp only [rS,Bool.or_eq_true,List.mem_cons,fS (l:=l)];constructor
  ·rintro (h | h)
   ·exact .inl (VF h)
   ·exact .inr h
  ·rintro (h | h)
   ·subst h; exact .inl ah
   ·exact .inr h
theorem Hf {p:Nat × Oper}:∀ {l:List Oper} {k:Nat},p∈idx k l↔∃ j,l[j]?=some p.2/\p.1=k+j
 | [],k=>by simp [idx]
 | o::l,k=>by
  simp only [idx,List.mem_cons,Hf (l:=l)];constructor
  ·rintro (h | ⟨j,h1,h2⟩)
   ·subst h; exact ⟨0,ah,ah⟩
   ·exact ⟨j+1,by simpa using h1,ad⟩
  ·rintro ⟨j,h1,h2⟩;cases j with
   | zero=>left; simp at h1; subst h1; obtain ⟨a,b⟩:=p; simp at h2; subst h2; rfl
   | succ j=>right; exact ⟨j,by simpa using h1,ad⟩
def hO {i:Nat} {o:Oper}:(i,o)∈idx 0 ops.toList↔ops[i]?=some o:=by
 rw [Hf];constructor
 ·rintro ⟨j,h1,h2⟩;simp at h2; subst h2;simpa using h1
 ·intro h; exact ⟨i,by simpa using h,ah⟩
def MD (b:dX P n ops=true) {i:Nat} {x:Oper} (hi:ops[i]?=some x) {d:Nat} (c:x.dst=some d):d<n:=by
 unfold dX at b;rw [VJ] at b;have h1:=VT.1 b.1 (i,x) (hO.2 hi);simp only [c] at h1;simpa [Nat.blt_eq] using h1
def FV (b:dX P n ops=true) {i:Nat} {x:Oper} (hi:ops[i]?=some x) {d:Nat} (c:x.dst=some d) (hc:calm P x=true):d∉looks ops x:=by
 unfold dX at b;rw [VJ] at b;have h1:=VT.1 (VT.1 b.2 (i,x) (hO.2 hi)) (i,x) (hO.2 hi);unfold GZ at h1;have f:Nat.beq i i=true:=ah
 simp only [f,c,hc,Bool.not_true,Bool.false_or,Bool.not_eq_true'] at h1;intro hl;rw [fS.2 hl] at h1; cases h1
def nC (b:dX P n ops=true) {i j:Nat} {x y:Oper} (hi:ops[i]?=some x) (k:ops[j]?=some y) (c:i≠j) :
  (∀ d,y.dst=some d->d∈looks ops x->j∈waits x\/(i∈waits y/\calm P y=false))/\(∀ d,x.dst=some d->calm P x=true->y.dst≠some d):=by
 unfold dX at b;rw [VJ] at b;have h1:=VT.1 (VT.1 b.2 (i,x) (hO.2 hi)) (j,y) (hO.2 k);unfold GZ at h1;have f:Nat.beq i j=false:=by
  cases f:Nat.beq i j
  ·rfl
  ·exact (c (VF f)).elim
 simp only [f,Bool.and_eq_true] at h1;refine ⟨fun d g hl=>?_,fun d g hc l=>?_⟩
 ·have h2:=h1.1;simp only [g,Bool.or_eq_true,Bool.and_eq_true,Bool.not_eq_true'] at h2;rcases h2 with (h2 | h2) | ⟨h2,o⟩
  ·have:=fS.2 hl; rw [this] at h2; cases h2
  ·exact .inl (fS.1 h2)
  ·exact .inr ⟨fS.1 h2,o⟩
 ·have h2:=h1.2;simp only [g,hc,l,lJ] at h2;simp at h2
def zV (ops:Array Oper) (o:Oper) (e:Env) (b:Bool):Prop :=
 match o.guard with
 | none=>b=true
 | some (j,w)=>match (ops[j]?).bind (·.dst) with
  | none=>b=false
  | some d=>(∃ t,cQ e d=some (.bool t)/\b=(t==w))\/(∃ c,cQ e d=some (.tuple c)/\b=false)
def xz {o:Oper} {j d:Nat} {w:Bool} (b:o.guard=some (j,w)) (c:(ops[j]?).bind (·.dst)=some d):d∈looks ops o:=by
 unfold looks;rw [b];simp only [c];exact Wd _ ah
def zV.wanted {o:Oper} {e:Env} {b:Bool} (h:zV ops o e b) {tm:Array XB} (g:∀ s∈looks ops o,∀ v,cQ e s=some v->tm.getD s undef=v) :
  Region.wanted o (yielded ops tm)=b:=by
 unfold zV at h;cases f:o.guard with
 | none=>simp only [f] at h; subst h; exact xk f
 | some p =>
  obtain ⟨j,w⟩:=p;simp only [f] at h;rw [xu f];cases c:(ops[j]?).bind (·.dst) with
  | none=>simp only [c] at h; subst h; simp [yielded,c]
  | some d =>
   simp only [c] at h;have hl:=xz f c;rcases h with ⟨t,h1,rfl⟩ | ⟨i,h1,rfl⟩
   ·rw [uD c (g d hl _ h1)]; cases t <;> cases w <;> rfl
   ·rw [sf c (g d hl _ h1)]; rfl
def zV.congr {o:Oper} {e g:Env} {b:Bool} (h:zV ops o e b) (i:∀ s∈looks ops o,cQ g s=cQ e s):zV ops o g b:=by
 unfold zV at h ⊢;cases c:o.guard with
 | none=>simp only [c] at h ⊢; exact h
 | some p =>
  obtain ⟨j,w⟩:=p;simp only [c] at h ⊢;cases f:(ops[j]?).bind (·.dst) with
  | none=>simp only [f] at h ⊢; exact h
  | some d=>simp only [f] at h ⊢; rw [i d (xz c f)]; exact h
def rj {e:Env} {d:Nat} {v:XB} (h:cQ e d=some v) (s:Nat):cQ (dQ n e (some d) v) s=cQ e s:=by
 simp only [dQ];cases Nat.blt d n with
 | false=>rfl
 | true =>
  simp only [cond_true,du]
  by_cases b:d=s
  ·subst b; rw [VE rfl,h]
  ·rw [Vu b]
variable {H:Lp}
def yK {o:Oper} {e:Env} {f i:Env->T} {K:XB->Hp->Prop} {h:Hp} (c:kI n ops o e f i H K h) :
  ∃ g b,(∀ s,cQ g s=cQ e s)/\zV ops o e b/\((b=true/\f g H K h)\/(b=false/\i g H K h)):=by
 unfold kI guardOf at c;unfold zV;cases k:o.guard with
 | none=>simp only [k] at c ⊢; exact ⟨e,true,fun _=>rfl,rfl,.inl ⟨rfl,c⟩⟩
 | some p =>
  obtain ⟨j,w⟩:=p;simp only [k] at c ⊢;cases l:(ops[j]?).bind (·.dst) with
  | none=>simp only [l] at c ⊢; exact ⟨e,false,fun _=>rfl,rfl,.inr ⟨rfl,c⟩⟩
  | some d =>
   simp only [l] at c ⊢;cases hv:cQ e d with
   | none=>simp only [hv] at c; exact c.elim
   | some v =>
    cases v <;> simp only [hv] at c <;> first | exact c.elim | skip
    case tuple r=>exact ⟨e,false,fun _=>rfl,.inr ⟨r,rfl,rfl⟩,.inr ⟨rfl,c⟩⟩
    case bool b =>
     cases w <;> simp only at c <;> rcases fy c with ⟨q,c⟩ | ⟨q,c⟩ <;> subst q
     ·exact ⟨_,false,rj hv,.inl ⟨true,rfl,rfl⟩,.inr ⟨rfl,c⟩⟩
     ·exact ⟨_,true,rj hv,.inl ⟨false,rfl,rfl⟩,.inl ⟨rfl,c⟩⟩
     ·exact ⟨_,true,rj hv,.inl ⟨true,rfl,rfl⟩,.inl ⟨rfl,c⟩⟩
     ·exact ⟨_,false,rj hv,.inl ⟨false,rfl,rfl⟩,.inr ⟨rfl,c⟩⟩
def only (e:Env) (l:List Nat):Env:=l.filterMap fun s=>(cQ e s).map fun v=>(s,some v)
theorem rr {e:Env}:∀ {l:List Nat} {s:Nat},cQ (only e l) s=if s∈l then cQ e s else none
 | [],s=>by simp [only,cQ]
 | t::l,s=>by
  unfold only;rw [List.filterMap_cons];cases hv:cQ e t with
  | none =>
   simp only [Option.map_none];rw [show List.filterMap (fun s=>(cQ e s).map fun v=>(s,some v)) l=only e l from rfl,rr]
   by_cases h1:s∈l
   ·simp [h1]
   ·by_cases h2:s=t
    ·subst h2; simp [h1,hv]
    ·simp [h1,h2]
  | some v =>
   simp only [Option.map_some];rw [du,show List.filterMap (fun s=>(cQ e s).map fun v=>(s,some v)) l=only e l from rfl,rr]
   by_cases h1:t=s
   ·subst h1; simp [hv]
   ·have h2:¬ s=t:=fun b=>h1 b.symm
    simp [h1,h2]
def xc {o:Oper} {t:Nat} (h:Operand.tmp t∈o.op.operands):t∈looks ops o:=by
 unfold looks;refine V7 _ (WV.2 ⟨.tmp t,by simpa using h,rfl⟩)
def DI {o:Oper} {e:Env} {kk:XB->T}:tO P o (only e (looks ops o)) kk=tO P o e kk:=by
 refine wz (fun x b=>?_) kk;cases x <;> try rfl
 rename_i t;simp only [ev];rw [rr,VE (xc b)]
def Df {e:Env} {a:Act} {l:List Nat} (b:a.tmps.size=n.n) (c:a.defers=n.d) (h:∀ s∈l,∀ v,cQ e s=some v->a.tmps.getD s undef=v):gd n (only e l) a:=by
 refine ⟨b,c,fun s v hv=>?_⟩;rw [rr] at hv;split at hv
 ·rename_i f; exact h s f v hv
 ·cases hv
def Mw (P : Program) (n : Nd) (ops : Array Oper) (e : Env) (m : Made) (h : Hp) (i : Nat) (o : Oper) : Prop :=
  calm P o = true /\ ∃ v b, (∀ d, o.dst = some d -> d < n -> cQ e d = some v) /\ zV ops o e b /\
    ((b = false /\ v = undef) \/ (b = true /\ ((∀ (c : XB -> T) L K h', c v L K h' -> tO P o e c L K h') \/
      (∃ p l, (i, p, l) ∈ m /\ aE h p 0 l /\ ∀ (c : XB -> T) L K h', aE h' p 0 l -> c v L K h' -> tO P o e c L K h'))))
def yq (ops:Array Oper):List Nat->Prop
 | []=>True
 | i::D=>i∉D/\(∀ o,ops[i]?=some o->∀ j∈waits o,j∈D)/\yq ops D
structure qh (P:Program) (n:Nd) (ops:Array Oper) (e0:Env) (listed:Array Bool) (a:Act) (h:Hp) (D:List Nat) (e:Env) (m:Made):Prop where
 um:listed.size=ops.size
 size:a.tmps.size=n.n
 defers:a.defers=n.d
 lD:∀ i,listed[i]?=some true->i∈D
 dD:∀ i∈D,∃ o,ops[i]?=some o
 closed:yq ops D
 Td:∀ s v,cQ e s=some v->(∀ j∈D,∀ o,ops[j]?=some o->listed[j]?=some false->o.dst≠some s)->a.tmps.getD s undef=v
 MV:∀ i∈D,∀ o,ops[i]?=some o->listed[i]?=some false->Mw P n ops e m h i o
 fr:Fr (dstsOf ops) e0 e
theorem qC:∀ {D:List Nat},yq ops D->∀ i∈D,∀ o,ops[i]?=some o->∀ j∈waits o,j∈D
 | d::D,hc,i,hi,o,b,j,c=>by
  rcases VK.1 hi with rfl | hi
  ·exact Vz _ (hc.2.1 o b j c)
  ·exact Vz _ (qC hc.2.2 i hi o b j c)
theorem sy (listed:Array Bool):∀ {D:List Nat},yq ops D->(∀ i∈D,∃ o,ops[i]?=some o)->(∃ i∈D,listed[i]?=some false)->(∀ i∈D,listed[i]?=some true\/listed[i]?=some false) ->
  ∃ i∈D,listed[i]?=some false/\∀ o,ops[i]?=some o->∀ j∈waits o,listed[j]?=some true
 | i'::D,hc,g,⟨i,hi,f⟩,b=>by
  by_cases c:∃ i∈D,listed[i]?=some false
  ·obtain ⟨k,hk,h1,h2⟩:=sy listed hc.2.2 (fun i hi=>g i (Vz _ hi)) c (fun i hi=>b i (Vz _ hi));exact ⟨k,Vz _ hk,h1,h2⟩
  ·have d:i=i':=by
    rcases VK.1 hi with h | h
    ·exact h
    ·exact (c ⟨i,h,f⟩).elim
   subst d;refine ⟨i,ah,f,fun o l j p=>?_⟩;have hjD:=hc.2.1 o l j p;rcases b j (Vz _ hjD) with h | h
   ·exact h
   ·exact (c ⟨j,hjD,h⟩).elim
def jJ {e:Env} {dst:Option Tmp} {v:XB} {s:Nat} (b:dst≠some s):cQ (dQ n e dst v) s=cQ e s:=by
 cases dst with
 | none=>rfl
 | some d =>
  simp only [dQ];cases Nat.blt d n with
  | false=>rfl
  | true=>simp only [cond_true,du]; rw [Vu (fun c:d=s=>b (by rw [c]))]
def sH {e:Env} {d:Nat} {v:XB} (b:d<n):cQ (dQ n e (some d) v) d=some v:=by
 have c:Nat.blt d n=true:=by rw [Nat.blt_eq]; exact b
 simp only [dQ,c,cond_true,du,if_true]
def Hy {a:Act} {dst:Option Tmp} {v:XB} {s:Nat} (c:dst≠some s):(a.put dst v).tmps.getD s undef=a.tmps.getD s undef:=by
 cases dst with
 | none=>rfl
 | some d =>
  have b:d≠s:=fun f=>c (by rw [f])
  simp [Act.put,Array.getD_eq_getD_getElem?,Array.getElem?_setIfInBounds,b]
def tW {a:Act} {d:Nat} {v:XB} (b:d<a.tmps.size):(a.put (some d) v).tmps.getD d undef=v:=by
 simp [Act.put,Array.getD_eq_getD_getElem?,Array.getElem?_setIfInBounds,b]
def Dx (a:Act) (dst:Option Tmp) (v:XB):(a.put dst v).tmps.size=a.tmps.size:=by cases dst <;> simp [Act.put]
def put_defers (a:Act) (dst:Option Tmp) (v:XB):(a.put dst v).defers=a.defers:=by cases dst <;> rfl
variable {e0:Env} {listed:Array Bool} {a:Act} {h:Hp} {D:List Nat} {e:Env} {m:Made}
def EI {i:Nat} {o:Oper} (b:ops[i]?=some o) {d:Nat} (c:o.dst=some d):d∈dstsOf ops:=Hr (j:=i) (by rw [b]; exact c)
def Fr.step {n:Nat} {l:List Nat} {e0 e b:Env} {o:Oper} {v:XB} (h:Fr l e0 e) (c:∀ s,cQ b s=cQ e s) (f:∀ d,o.dst=some d->d∈l):Fr l e0 (Sx.dQ n b o.dst v) :=
 (h.trans (fun s _=>c s)).trans (Fr.dQ n b v f)
def qh.vC (I:qh P n ops e0 listed a h D e m) {i:Nat} {o:Oper} (d:ops[i]?=some o) (hn:listed[i]?≠some true):listed[i]?=some false:=by
 have c:i<ops.size:=by
  rcases Wo i ops.size with h | h
  ·exact h
  ·rw [Wp h] at d; cases d
 have b:i<listed.size:=by rw [I.um]; exact c
 rw [WB b] at hn ⊢;cases f:listed[i] with
 | false=>rfl
 | true=>rw [f] at hn; exact (hn rfl).elim
def qh.HV (c:dX P n ops=true) (I:qh P n ops e0 listed a h D e m) {i:Nat} {o:Oper} (f:ops[i]?=some o) (p:∀ j∈waits o,listed[j]?=some true)
  (hi:i∉D\/calm P o=true):∀ s∈looks ops o,∀ v,cQ e s=some v->a.tmps.getD s undef=v:=by
 intro s k v hv;refine I.Td s v hv ?_;intro j q r b g l;have hcj:=(I.MV j q r b g).1
 by_cases d:i=j
 ·subst d;rw [f] at b; obtain rfl:=VP b;exact FV c f l hcj k
 ·rcases (nC c f b d).1 s l k with h1 | ⟨_,h1⟩
  ·rw [p j h1] at g; cases g
  ·rw [hcj] at h1; cases h1
def qh.exec (p:dX P n ops=true) (I:qh P n ops e0 listed a h D e m) {i:Nat} {o:Oper} (y:ops[i]?=some o) (q:i∈D) (z:listed[i]?=some false) {v:XB}
  (hv:∀ d,o.dst=some d->cQ e d=some v) (hc:calm P o=true):qh P n ops e0 (listed.setIfInBounds i true) (a.put o.dst v) h D e m:=by
 have r:i<listed.size:=by
  rcases Wo i listed.size with h | h
  ·exact h
  ·rw [Wp h] at z; cases z
 have iC:∀ j,(listed.setIfInBounds i true)[j]?=if i=j then some true else listed[j]?:=by
  intro j;rw [WC]
  by_cases b:i=j
  ·subst b; simp [r]
  ·simp [b]
 refine ⟨by simp [I.um],by rw [Dx,I.size],by rw [put_defers,I.defers],?_,I.dD,I.closed,?_,?_,I.fr⟩
 ·intro j g;rw [iC] at g
  by_cases b:i=j
  ·subst b; exact q
  ·rw [Vu b] at g; exact I.lD j g
 ·intro s u t w
  by_cases k:o.dst=some s
  ·rw [k];rw [hv s k] at t;obtain rfl:=VP t;exact tW (by rw [I.size]; exact MD p y k)
  ·rw [Hy k];refine I.Td s u t ?_;intro j g x f c l
   by_cases b:i=j
   ·subst b; rw [y] at f; obtain rfl:=VP f; exact k l
   ·exact w j g x f (by rw [iC,Vu b]; exact c) l
 ·intro j g x f c;rw [iC] at c
  by_cases b:i=j
  ·rw [VE b] at c; cases c
  ·rw [Vu b] at c; exact I.MV j g x f c
def Mw.congr {e g:Env} {m q:Made} {h h':Hp} {i:Nat} {o:Oper} (t:Mw P n ops e m h i o) (hl:∀ s∈looks ops o,cQ g s=cQ e s) (u:∀ d,o.dst=some d->cQ g d=cQ e d)
  (w:∀ p l,(i,p,l)∈m->aE h p 0 l->(i,p,l)∈q/\aE h' p 0 l):Mw P n ops g q h' i o:=by
 obtain ⟨hc,v,b,h1,h2,c⟩:=t;have j:∀ kk,tO P o g kk=tO P o e kk:=fun kk=>wz (fun x j=>by
  cases x <;> try rfl
  exact hl _ (xc j)) kk
 refine ⟨hc,v,b,fun d f k=>by rw [u d f]; exact h1 d f k,h2.congr hl,?_⟩;rcases c with c | ⟨r,c | ⟨p,l,c,y,z⟩⟩
 ·exact .inl c
 ·exact .inr ⟨r,.inl fun kk L K h' hk=>by rw [j]; exact c kk L K h' hk⟩
 ·obtain ⟨A,B⟩:=w p l c y;exact .inr ⟨r,.inr ⟨p,l,A,B,fun kk L K h' hc hk=>by rw [j]; exact z kk L K h' hc hk⟩⟩
def qh.ahead (q:dX P n ops=true) (I:qh P n ops e0 listed a h D e m) {i:Nat} {o:Oper} (g:ops[i]?=some o) (f:i∉D) (G:∀ j∈waits o,j∈D) (hc:calm P o=true)
  {v:XB} {A:Env} (y:∀ s,cQ A s=cQ e s) {m':Made} (H:∀ x∈m,x∈m')
  (J:Mw P n ops (dQ n A o.dst v) m' h i o):qh P n ops e0 listed a h (i::D) (dQ n A o.dst v) m':=by
 have B:listed[i]?=some false:=I.vC g (fun C=>f (I.lD i C));refine ⟨I.um,I.size,I.defers,fun j c=>Vz _ (I.lD j c),?_,⟨f,?_,I.closed⟩,?_,?_,I.fr.step y (fun d k=>EI g k)⟩
 ·intro j c;rcases VK.1 c with rfl | c
  ·exact ⟨o,g⟩
  ·exact I.dD j c
 ·intro o' r j c;rw [g] at r; obtain rfl:=VP r;exact G j c
 ·intro s u F t;have k:o.dst≠some s:=t i ah o g B;rw [jJ k,y] at F;exact I.Td s u F fun j c z b E=>t j (Vz _ c) z b E
 ·intro j c z b E;rcases VK.1 c with rfl | c
  ·rw [g] at b; obtain rfl:=VP b; exact J
  ·have w:j≠i:=fun C=>f (C▸c)
   have hpj:=I.MV j c z b E;refine hpj.congr ?_ ?_ (fun p l h1 h2=>⟨H _ h1,h2⟩)
   ·intro s K
    by_cases k:o.dst=some s
    ·exfalso;rcases (nC q b g w).1 s k K with h1 | ⟨_,h1⟩
     ·exact f (qC I.closed j c z b i h1)
     ·rw [hc] at h1; cases h1
    ·rw [jJ k,y]
   ·intro d k;rw [jJ ((nC q b g w).2 d k hpj.1),y]
def qh.effect (t:dX P n ops=true) (I:qh P n ops e0 listed a h D e m) {i:Nat} {o:Oper} (w:ops[i]?=some o) (q:i∉D) (J:∀ j∈waits o,listed[j]?=some true) (hc:calm P o=false)
  {v:XB} {K:Env} (B:∀ s,cQ K s=cQ e s) {h':Hp} (E:∀ j p l,(j,p,l)∈m->aE h p 0 l->j∉waits o->aE h' p 0 l) :
  qh P n ops e0 (listed.setIfInBounds i true) (a.put o.dst v) h' (i::D) (dQ n K o.dst v) m:=by
 have x:listed[i]?=some false:=I.vC w (fun g=>q (I.lD i g));have F:i<listed.size:=by
  rcases Wo i listed.size with h | h
  ·exact h
  ·rw [Wp h] at x; cases x
 have iC:∀ j,(listed.setIfInBounds i true)[j]?=if i=j then some true else listed[j]?:=by
  intro j;rw [WC]
  by_cases b:i=j
  ·subst b; simp [F]
  ·simp [b]
 refine ⟨by simp [I.um],by rw [Dx,I.size],by rw [put_defers,I.defers],?_,?_,⟨q,?_,I.closed⟩,?_,?_,I.fr.step B (fun d k=>EI w k)⟩
 ·intro j c;rw [iC] at c
  by_cases b:i=j
  ·subst b; simp
  ·rw [Vu b] at c; exact Vz _ (I.lD j c)
 ·intro j c;rcases VK.1 c with rfl | c
  ·exact ⟨o,w⟩
  ·exact I.dD j c
 ·intro o' y j c;rw [w] at y; obtain rfl:=VP y;exact I.lD j (J j c)
 ·intro s u z G
  by_cases k:o.dst=some s
  ·rw [k] at z ⊢;have hdn:=MD t w k;rw [sH hdn] at z;obtain rfl:=VP z;exact tW (by rw [I.size]; exact hdn)
  ·rw [jJ k,B] at z;rw [Hy k];refine I.Td s u z ?_;intro j c C f r;have H:i≠j:=fun g=>q (g▸c)
   exact G j (Vz _ c) C f (by rw [iC,Vu H]; exact r)
 ·intro j c C f r;rw [iC] at r
  by_cases b:i=j
  ·rw [VE b] at r; cases r
  ·rw [Vu b] at r;rcases VK.1 c with g | c
   ·exact (b g.symm).elim
   ·have hpj:=I.MV j c C f r;have A:j∉waits o:=fun g=>by rw [J j g] at r; cases r
    refine hpj.congr ?_ ?_ (fun p l h1 h2=>⟨h1,E j p l h1 h2 A⟩)
    ·intro s L
     by_cases k:o.dst=some s
     ·exfalso;rcases (nC t f w (fun g=>b g.symm)).1 s k L with h1 | ⟨h1,_⟩
      ·exact q (qC I.closed j c C f i h1)
      ·exact A h1
     ·rw [jJ k,B]
    ·intro d k;rw [jJ ((nC t f w (fun g=>b g.symm)).2 d k hpj.1),B]
def nN {listed:Array Bool} (t:listed.size=ops.size) {i:Nat}:i∈Region.ready .any ops listed↔∃ o,ops[i]?=some o/\listed[i]?=some false/\∀ j∈waits o,listed[j]?=some true:=by
 unfold Region.ready;rw [Xu,Xd];constructor
 ·rintro ⟨c,q⟩;rw [VJ] at q;obtain ⟨h1,h2⟩:=q;have g:ops[i]?=some ops[i]:=WB c;rw [g] at h2;refine ⟨ops[i],g,?_,?_⟩
  ·have d:i<listed.size:=by rw [t]; exact c
   rw [WB d];simp only [Bool.not_eq_true',Array.getD_eq_getD_getElem?,Array.getElem?_eq_getElem d,Option.getD_some] at h1;rw [h1]
  ·intro j r;simp only [Option.map_some,Option.getD_some] at h2;unfold waits at r;obtain ⟨k,f,rfl⟩:=Vy.1 r;obtain ⟨l,p⟩:=Xu.1 f;have h3:=(Array.all_eq_true_iff_forall_mem.1 h2) k (by simpa using l);rw [p] at h3;simp only [Bool.not_true,Bool.false_or,Array.getD_eq_getD_getElem?] at h3;cases s:listed[k.on]? with
   | none=>rw [s] at h3; cases h3
   | some b=>rw [s] at h3; simp at h3; rw [h3]
 ·rintro ⟨o,g,h1,h2⟩;have c:i<ops.size:=by
   rcases Wo i ops.size with h | h
   ·exact h
   ·rw [Wp h] at g; cases g
  refine ⟨c,?_⟩;rw [VJ];refine ⟨by simp [Array.getD_eq_getD_getElem?,h1],?_⟩;rw [g];simp only [Option.map_some,Option.getD_some];refine Array.all_eq_true_iff_forall_mem.2 fun k f=>?_
  cases u:Region.binds .any k with
  | false=>rfl
  | true =>
   have:=h2 k.on (Vy.2 ⟨k,Xu.2 ⟨by simpa using f,u⟩,rfl⟩)
   simp [Array.getD_eq_getD_getElem?,this]
theorem fo {D:List Nat} {c:Bool} {p:Nat × Oper}:∀ {l:List (Nat × Oper)},p∈cY P D c l↔p∈l/\w9 D p.1 p.2=true/\calm P p.2=c
 | []=>by simp [cY]
 | q::l=>by
  unfold cY;cases b:w9 D q.1 q.2 && (calm P q.2==c) with
  | true =>
   rw [VJ] at b;simp only [List.mem_cons,fo (l:=l)];constructor
   ·rintro (rfl | h)
    ·exact ⟨.inl rfl,b.1,by simpa using b.2⟩
    ·exact ⟨.inr h.1,h.2⟩
   ·rintro ⟨rfl | h,h2⟩
    ·exact .inl rfl
    ·exact .inr ⟨h,h2⟩
  | false =>
   simp only [List.mem_cons,fo (l:=l)];constructor
   ·rintro ⟨h1,h2⟩; exact ⟨.inr h1,h2⟩
   ·rintro ⟨rfl | h,h2⟩
    ·rw [h2.1,h2.2] at b; simp at b
    ·exact ⟨h,h2⟩
def sY {D:List Nat} {i:Nat} {o:Oper}:w9 D i o=true↔i∉D/\∀ j∈waits o,j∈D:=by
 unfold w9;rw [VJ];constructor
 ·rintro ⟨h1,h2⟩;refine ⟨fun c=>?_,fun j b=>fS.1 (VT.1 h2 j b)⟩;rw [fS.2 c] at h1; cases h1
 ·rintro ⟨h1,h2⟩;refine ⟨?_,VT.2 fun j b=>fS.2 (h2 j b)⟩;cases d:rS i D with
  | false=>rfl
  | true=>exact (h1 (fS.1 d)).elim
def O5 {K:XB->Hp->Prop} {h:Hp} {o:Oper} {m:Made} {t:T} (g:uw (jK o m) t H K h):t H K h/\∀ j p l,(j,p,l)∈m->j∉waits o->aE h p 0 l:=by
 have h1:∀ l:List (YA × List XB),uw l t H K h->T.EK h l/\t H K h:=by
  intro l hl;cases l with
  | nil=>exact ⟨trivial,hl⟩
  | cons p l=>exact hl
 obtain ⟨h2,k⟩:=h1 _ g;refine ⟨k,?_⟩;clear g h1 k
 induction m with
 | nil=>intro j p l b; cases b
 | cons x m r =>
  obtain ⟨i,q,s⟩:=x;intro j p l b c;unfold jK at h2;cases f:rS i (waits o) with
  | true =>
   rw [f] at h2;rcases VK.1 b with d | b
   ·simp only [Prod.mk.injEq] at d;obtain ⟨rfl,rfl,rfl⟩:=d;exact (c (fS.1 f)).elim
   ·exact r h2 j p l b c
  | false =>
   rw [f] at h2;simp only [cond_false] at h2;rcases VK.1 b with d | b
   ·simp only [Prod.mk.injEq] at d;obtain ⟨rfl,rfl,rfl⟩:=d;exact h2.1
   ·exact r h2.2 j p l b c
theorem OL {K:XB->Hp->Prop} {h:Hp}:∀ {ts:List T} {t:T},t∈ts->Re ts H K h->t H K h
 | [],t,b,_=>by cases b
 | [u],t,b,c=>by simp at b; subst b; exact c
 | u::g::ts,t,b,c=>by
  have:∀ ts:List T,t∈ts->T.every H K h ts->t H K h:=by
   intro ts
   induction ts with
   | nil=>intro d; cases d
   | cons v ts f =>
    intro d c;rcases VK.1 d with rfl | d
    ·exact c.1
    ·exact f d c.2
  exact this _ b c
def left (listed:Array Bool):Nat:=(listed.toList.filter fun b=>!b).length
theorem Bk:∀ (l:List Bool) (i:Nat),l[i]?=some false->((l.set i true).filter fun b=>!b).length+1=(l.filter fun b=>!b).length
 | [],i,h=>by simp at h
 | b::l,0,h=>by simp at h; subst h; simp
 | b::l,i+1,h=>by
  simp at h
  have:=Bk l i h
  cases b
  ·simp only [List.set_cons_succ,List.filter_cons,Bool.not_false,if_true,List.length_cons]; omega
  ·simp only [List.set_cons_succ,List.filter_cons,Bool.not_true,Bool.false_eq_true,if_false]; exact this
def Dk {listed:Array Bool} {i:Nat} (b:listed[i]?=some false):left (listed.setIfInBounds i true)+1=left listed:=by
 unfold left;rw [Array.toList_setIfInBounds];exact Bk _ i (by simpa using b)
def Jz {listed:Array Bool} (h0:left listed=0) (i:Nat):listed[i]?≠some false:=by
 intro b
 have:=Dk b
 omega
def GP (v:XB) (h:Hp):XB->T:=fun v' _ _ h'=>v'=v/\h'=h
variable {I:World}
def Oy (z:dX P n ops=true) {K:XB->Hp->Prop} {k:Env->T} {Q:Exit->Act->World->Prop} {i:Nat}
  {listed:Array Bool} {a:Act} {w:World} {R:Act->World->Prop} (hi:i∈Region.ready .any ops listed) (hs:dG I w)
  (next:∀ a' w' D e m F,dG I w'->qh P n ops e0 (listed.setIfInBounds i true) a' w'.heap D e m->fF P n ops F D e m k H K w'.heap->R a' w') :
  ∀ F D e m,qh P n ops e0 listed a w.heap D e m->fF P n ops F D e m k H K w.heap->wpOp P ops Q i R a w:=by
 intro F
 induction F with
 | zero=>intro D e m c Y; exact Y.elim
 | succ F ih =>
  intro D e m c Y;obtain ⟨o,S,hf,hr⟩:=(nN c.um).1 hi
  by_cases O:i∈D
  ·
   obtain ⟨hc,v,b,hv,hg,f⟩:=c.MV i O o S hf;have hlk:=c.HV z S hr (.inr hc);have hwant:=hg.wanted hlk;have hv':∀ d,o.dst=some d->cQ e d=some v:=fun d Z=>hv d Z (MD z S Z)
   unfold wpOp;rw [S];simp only;have I':=c.exec z S O hf hv' hc;rcases f with ⟨rfl,rfl⟩ | ⟨rfl,f⟩
   ·rw [Vu (by simp [hwant])];exact next _ _ D e m (F+1) hs I' Y
   ·rw [VE hwant];refine .inl ?_;have G:T0 P o a.eval w.heap (fun v' h'=>v'=v/\h'=w.heap):=by
     have hxx:tO P o e (GP v w.heap) [] (fun _ _=>True) w.heap:=by
      rcases f with f | ⟨p,l,_,hcl,f⟩
      ·exact f (GP v w.heap) [] (fun _ _=>True) w.heap ⟨rfl,rfl⟩
      ·exact f (GP v w.heap) [] (fun _ _=>True) w.heap hcl ⟨rfl,rfl⟩
     rw [<- DI (ops:=ops)] at hxx;exact F' (Df c.size c.defers hlk) hxx
    refine w5 G ?_;rintro v' w' hs' ⟨rfl,hh⟩;refine next _ _ D e m (F+1) (hs.trans hs') (by rw [hh]; exact I') (by rw [hh]; exact Y)
  ·unfold fF at Y;cases B:cY P D true (idx 0 ops.toList) with
   | cons q qs =>
    obtain ⟨j,A⟩:=q;simp only [B] at Y;have hq:(j,A)∈cY P D true (idx 0 ops.toList):=by rw [B]; simp
    obtain ⟨hq1,hq2,C⟩:=fo.1 hq;have hoj:=hO.1 hq1;obtain ⟨hjD,U⟩:=sY.1 hq2;obtain ⟨E,b,he,hg,f⟩:=yK Y;have hg':∀ u,zV ops A (dQ n E A.dst u) b:=fun u=>hg.congr fun s hs=>by
     by_cases Z:A.dst=some s
     ·exact (FV z hoj Z C hs).elim
     ·rw [jJ Z,he]
    have J:∀ u d,A.dst=some d->d<n->cQ (dQ n E A.dst u) d=some u:=fun u d Z hdn=>by rw [Z]; exact sH hdn
    have hxe:∀ u kk,tO P A (dQ n E A.dst u) kk=tO P A E kk:=fun u kk=>wz (fun x f=>by
     cases x <;> try rfl
     rename_i s;simp only [ev];exact jJ (fun Z=>FV z hoj Z C (xc f))) kk
    rcases f with ⟨rfl,f⟩ | ⟨rfl,f⟩
    ·
     unfold calm at C;cases r:qT P A with
     | true =>
      have hx':tO P A E (fun v=>fF P n ops F (j::D) (dQ n E A.dst v) m k) H K w.heap:=by
       have hnl:∀ t x,A.op≠.load t x:=by
        intro t x hh;unfold qT at r;rw [hh] at r; cases r
       obtain ⟨dst,op,type,pos,after,guard⟩:=A;cases op <;> first | exact f | exact (hnl _ _ rfl).elim
      obtain ⟨v,hk,V⟩:=LL r hx';refine ih (j::D) _ m (c.ahead z hoj hjD U (by unfold calm; rw [r]; rfl) he (fun x f=>f) ?_) hk;exact ⟨by unfold calm; rw [r]; rfl,v,true,J v,hg' v,.inr ⟨rfl,.inl fun kk H K h' M=>by rw [hxe]; exact V kk H K h' M⟩⟩
     | false =>
      rw [r,Xj] at C;obtain ⟨t,x,G⟩:∃ t x,A.op=.load t x:=by
       unfold zL at C;cases G:A.op <;> rw [G] at C <;> first | (cases C; done) | exact ⟨_,_,rfl⟩
      have hcj:calm P A=true:=by unfold calm zL; rw [G]; simp
      simp only [G] at f;unfold qq at f;obtain ⟨u,hu,f⟩:=bn f;have hx2:qq P t x E (fun a l v=>fF P n ops F (j::D) (dQ n E A.dst v) ((j,a,l)::m) k) H K w.heap:=by
       unfold qq bK; simp only [hu]; exact f
      cases hb:cB P t with
      | none=>cases u <;> simp only [hb] at f <;> exact f.elim
      | some bb =>
       obtain ⟨pp,rfl⟩:∃ pp,u=.pointer pp:=by
        cases u <;> cases bb <;> simp only [hb] at f <;> first | exact f.elim | exact ⟨_,rfl⟩
       have g:(match bb with
        | true=>(bif (eQ P 9 t).length==P.cellsOf t then T.bd pp fun a=>T.ae a (eQ P 9 t) (iV _ fun l=>fF P n ops F (j::D) (dQ n E A.dst (.agg l.toArray)) ((j,a,l)::m) k) else T.fail)
        | false=>T.bd pp fun a=>T.ae a (cz P t).2 (iV _ fun l=>fF P n ops F (j::D) (dQ n E A.dst (l.headD undef)) ((j,a,l)::m) k)) H K w.heap:=by
        cases bb <;> simp only [hb] at f <;> exact f
       have hfin:∃ p l v,pp=some p/\aE w.heap p 0 l/\fF P n ops F (j::D) (dQ n E A.dst v) ((j,p,l)::m) k H K w.heap /\
         ∀ (kk:XB->T) H K h',aE h' p 0 l->kk v H K h'->tO P A E kk H K h':=by
        have hxop:∀ kk,tO P A E kk=qq P t x E (fun _ _ v=>kk v):=by
         intro kk;unfold tO;rw [G] <;> rfl
        cases bb with
        | true =>
         simp only at g;rcases fy g with ⟨hl,g⟩ | ⟨hl,g⟩
         ·obtain ⟨p,rfl,g⟩:=fM g;obtain ⟨y,hc,g⟩:=g;rw [dC] at g;refine ⟨p,_,_,rfl,hc,g,fun kk H K h' W M=>?_⟩;rw [hxop];unfold qq bK;simp only [hu,hb,hl];exact ⟨y,W,by rw [dC]; exact M⟩
         ·exact g.elim
        | false =>
         simp only at g;obtain ⟨p,rfl,g⟩:=fM g;obtain ⟨y,hc,g⟩:=g;rw [dC] at g;refine ⟨p,_,_,rfl,hc,g,fun kk H K h' W M=>?_⟩;rw [hxop];unfold qq bK;simp only [hu,hb];exact ⟨y,W,by rw [dC]; exact M⟩
       obtain ⟨p,l,v,rfl,hc,hk,V⟩:=hfin;refine ih (j::D) _ ((j,p,l)::m) (c.ahead z hoj hjD U hcj he (fun x f=>Vz _ f) ?_) hk;exact ⟨hcj,v,true,J v,hg' v,.inr ⟨rfl,.inr ⟨p,l,ah,hc,fun kk H K h' W M=>by rw [hxe]; exact V kk H K h' W M⟩⟩⟩
    ·
     refine ih (j::D) _ m (c.ahead z hoj hjD U C he (fun x f=>f) ?_) f;exact ⟨C,undef,false,J undef,hg' undef,.inl ⟨rfl,rfl⟩⟩
   | nil =>
    simp only [B] at Y;have U:∀ j∈waits o,j∈D:=fun j hj=>c.lD j (hr j hj)
    have hrx:w9 D i o=true:=sY.2 ⟨O,U⟩;have hc:calm P o=false:=by
     cases hc:calm P o with
     | false=>rfl
     | true =>
      have:(i,o)∈cY P D true (idx 0 ops.toList):=fo.2 ⟨hO.2 S,hrx,hc⟩
      rw [B] at this; cases this
    have N:(i,o)∈cY P D false (idx 0 ops.toList):=fo.2 ⟨hO.2 S,hrx,hc⟩;cases X:cY P D false (idx 0 ops.toList) with
    | nil=>rw [X] at N; cases N
    | cons q qs =>
     simp only [X] at Y;rw [X] at N;have hti:=OL (Vy.2 ⟨(i,o),N,rfl⟩) Y;simp only at hti;obtain ⟨E,b,he,hg,f⟩:=yK hti;have hlk:=c.HV z S hr (.inl O);have hwant:=hg.wanted hlk;unfold wpOp;rw [S];simp only;rcases f with ⟨rfl,f⟩ | ⟨rfl,f⟩
     ·rw [VE hwant];refine .inl ?_;rw [<- DI (ops:=ops)] at f;have hlk':∀ s∈looks ops o,∀ v,cQ E s=some v->a.tmps.getD s undef=v:=fun s hs v hv=>hlk s hs v (by rw [<- he]; exact hv)
      refine w5 (F' (Df c.size c.defers hlk') f) ?_;intro v w' hs' hst;obtain ⟨hst1,hst2⟩:=O5 hst;exact next _ _ (i::D) _ m F (hs.trans hs') (c.effect z S O hr hc he (fun j p l h1 _ h3=>hst2 j p l h1 h3)) hst1
     ·rw [Vu (by simp [hwant])];exact next _ _ (i::D) _ m F hs (c.effect z S O hr hc he (fun j p l _ h2 _=>h2)) f
def Kq (A:dX P n ops=true) {K:XB->Hp->Prop} {k:Env->T} {Q:Exit->Act->Hp->Prop} 
  (hk:∀ e a h,k e H K h->gd n e a->Fr (dstsOf ops) e0 e->Q .normal a h):∀ (d:Nat) (listed:Array Bool) (a:Act) (w:World) (D:List Nat) (e:Env) (m:Made) (f:Nat),left listed<=d->dG I w ->
   qh P n ops e0 listed a w.heap D e m->fF P n ops f D e m k H K w.heap->wpAny P .any ops (T1 I Q) d listed a w:=by
 have y:∀ (listed:Array Bool) (a:Act) (w:World),dG I w->Region.ready .any ops listed=[]->∀ f D e m,qh P n ops e0 listed a w.heap D e m->fF P n ops f D e m k H K w.heap->T1 I Q .normal a w:=by
  intro listed a w u t f D e m b p;have r:∀ i∈D,listed[i]?=some true\/listed[i]?=some false:=by
   intro i hi;obtain ⟨o,ho⟩:=b.dD i hi
   by_cases h1:listed[i]?=some true
   ·exact .inl h1
   ·exact .inr (b.vC ho h1)
  have g:∀ i∈D,listed[i]?=some true:=by
   intro i hi;rcases r i hi with h1 | h1
   ·exact h1
   ·obtain ⟨j,z,h2,O⟩:=sy listed b.closed b.dD ⟨i,hi,h1⟩ r;obtain ⟨o,ho⟩:=b.dD j z
    have:j∈Region.ready .any ops listed:=(nN b.um).2 ⟨o,ho,h2,O o ho⟩
    rw [t] at this; cases this
  have B:∀ c,cY P D c (idx 0 ops.toList)=[]:=by
   intro c;cases C:cY P D c (idx 0 ops.toList) with
   | nil=>rfl
   | cons q qs =>
    obtain ⟨i,o⟩:=q;have R:(i,o)∈cY P D c (idx 0 ops.toList):=by rw [C]; simp
    obtain ⟨E,F,_⟩:=fo.1 R;have ho:=hO.1 E;obtain ⟨G,S⟩:=sY.1 F
    have:i∈Region.ready .any ops listed:=(nN b.um).2 ⟨o,ho,b.vC ho (fun U=>G (b.lD i U)),fun j z=>g j (S j z)⟩
    rw [t] at this; cases this
  cases f with
  | zero=>exact p.elim
  | succ f =>
   unfold fF at p;simp only [B] at p;refine ⟨u,hk e a w.heap p ⟨b.size,b.defers,fun s v hv=>b.Td s v hv ?_⟩ b.fr⟩;intro j z o ho x;rw [g j z] at x; cases x
 intro d
 induction d with
 | zero =>
  intro listed a w D e m f hl u b p;have t:Region.ready .any ops listed=[]:=by
   cases C:Region.ready .any ops listed with
   | nil=>rfl
   | cons i l =>
    have:i∈Region.ready .any ops listed:=by rw [C]; simp
    obtain ⟨o,ho,x,_⟩:=(nN b.um).1 this;exact (Jz ad i x).elim
  exact ⟨t,y listed a w u t f D e m b p⟩
 | succ d V =>
  intro listed a w D e m f hl u b p;refine ⟨fun t=>y listed a w u t f D e m b p,fun i hi=>?_⟩;obtain ⟨o,ho,x,_⟩:=(nN b.um).1 hi;refine Oy A hi u ?_ f D e m b p;intro a' w' W X Y J M Z N;exact V _ a' w' W X Y J (by have:=Dk x; omega) M Z N
def UL (j:P.follows .mixedOrders=true):UI P n:=by
 intro id ops e k L K Q a h hk d g q w f o;subst o;unfold uJ at d;cases b:dX P n ops with
 | false=>simp only [b] at d; exact d.elim
 | true =>
  simp only [b] at d;have c:∀ (l:Array Bool) (i:Nat),l=Array.replicate ops.size false->l[i]?≠some true:=by
   intro l i hl p;subst hl;simp [Array.getElem?_replicate] at p
  refine wp_region_any j (Kq (e0:=e) b hk ops.size _ a { w with drawn:=w.drawn+1 } [] e [] (ops.size+1) ?_ ⟨f.os,f.tape,f.output⟩ ?_ d)
  ·unfold left;refine Wi (WT _ _) ?_
   simp
  ·exact ⟨ah,g.size,g.defers,fun i hi=>(c _ i rfl hi).elim,fun i hi=>(by cases hi),trivial,fun s v hv _=>g.get s v hv,fun i hi=>(by cases hi),Fr.refl _ _⟩
end draws
end Go.Sx
