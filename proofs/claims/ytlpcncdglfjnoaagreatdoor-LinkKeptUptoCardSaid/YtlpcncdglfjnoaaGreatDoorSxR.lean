/- Part of the framework. No condition. -/
import Derived.Test.YtlpcncdglfjnoaaGreatDoorSxM
import Derived.Orders
set_option linter.all false
set_option maxHeartbeats 4000000
namespace Go.Sx
section congr
variable {P:Program}
variable {H I:Env}
def bM {x:Operand} (h:ev H x=ev I x) (k:Xab->T):cg H x k=cg I x k:=by
 unfold cg; rw [h]
theorem fc {e a:Env}:∀ {xs:List Operand},(∀ x∈xs,ev e x=ev a x)->∀ (k:List Xab->T),ja e xs k=ja a xs k
 | [],_,k=>rfl
 | x::xs,h,k=>by
  simp only [ja];rw [bM (h x aj)]
  congr 1
  funext v
  exact fc (fun x b=>h x (by simp [b])) _
def yg {o:Oper} (h:∀ x∈o.op.operands,ev H x=ev I x) (kk:Xab->T):wj P o H kk=wj P o I kk:=by
 obtain ⟨dst,op,g,pos,after,guard⟩:=o;cases op <;> simp only [Op.operands] at h <;> simp only [wj]
 case pick c x y =>
  rw [bM (h c aj)]
  congr 1; funext v
  cases v <;> first | rfl | (rw [bM (h x aj),bM (h y aj)])
 case build t ps=>rw [fc (fun x a=>h x (by simpa using a))]
 case buildSlice t l ps=>rw [fc (fun x a=>h x (by simpa using a))]
 case store t x y =>
  rw [bM (h x aj)]
  congr 1; funext v
  rw [bM (h y aj)]
 case binOp op t x y j =>
  rw [bM (h x aj)]
  congr 1; funext v
  rw [bM (h y aj)]
 case makeFunc fn k n =>
  rw [fc (fun x a=>h x (by simp at a ⊢; exact .inl a))]
  congr 1; funext v
  rw [fc (fun x a=>h x (by simp at a ⊢; exact .inr a))]
 case makeMap t r=>cases r <;> rfl
 case makeSlice t x y =>
  rw [bM (h x aj)]
  congr 1; funext v
  rw [bM (h y aj)]
 case slice t x lo hi p =>
  rw [bM (h x aj)]
  congr 1; funext v
  rw [fc (fun y d=>h y (by
   simp only [List.mem_append,Option.mem_toList] at d;simp only [Array.mem_append,Array.mem_singleton,Option.mem_toArray];rcases d with (d | d) | d
   ·exact .inl (.inl (.inr d))
   ·exact .inl (.inr d)
   ·exact .inr d))]
 case indexAddr t x y =>
  rw [bM (h x aj)]
  congr 1; funext v
  rw [bM (h y aj)]
 case index t x y =>
  rw [bM (h x aj)]
  congr 1; funext v
  rw [bM (h y aj)]
 case lookup t x y ok =>
  rw [bM (h x aj)]
  congr 1; funext v
  rw [bM (h y aj)]
 case mapUpdate t x y z =>
  rw [bM (h x aj)]
  congr 1; funext v
  rw [bM (h y aj)]
  congr 1; funext v
  rw [bM (h z aj)]
 case insert t x y z =>
  rw [bM (h x aj)]
  congr 1; funext v
  rw [bM (h y aj)]
  congr 1; funext v
  rw [bM (h z aj)]
 case mapEntry t x y =>
  rw [bM (h x aj)]
  congr 1; funext v
  rw [bM (h y aj)]
 case entryStore t x y z =>
  rw [bM (h x aj)]
  congr 1; funext v
  rw [bM (h y aj)]
  congr 1; funext v
  rw [bM (h z aj)]
 case call c =>
  cases hc:c.callee with
  | builtin b =>
   simp only [hc];rw [fc (fun x a=>h x (by simp [Call.operands,hc]; simpa using a))]
  | invoke r m=>simp only [hc]
  | value f =>
   simp only [hc];cases Gd f
   ·simp only;rw [bM (h f (by simp [Call.operands,hc]))]
    congr 1; funext v
    rw [fc (xs:=c.args.toList) (fun x a=>h x (by simp [Call.operands,hc]; right; simpa using a))]
   ·simp only;rw [bM (h f (by simp [Call.operands,hc]))]
    congr 1; funext v
    rw [fc (xs:=c.args.toList) (fun x a=>h x (by simp [Call.operands,hc]; right; simpa using a))]
 all_goals first | rfl | exact bM (h _ aj) _
end congr
section pures
variable {P:Program} {L:Lp} {K:Xab->Hp->Prop} {h:Hp}
def ep (F:(Xab->T)->T) (d:Xab->T) (L:Lp) (K:Xab->Hp->Prop) (h:Hp):Prop :=
 ∃ v,d v L K h/\∀ (a:Xab->T) b c h',a v b c h'->F a b c h'
variable {I:Env}
def dK {x:Operand} {F:(Xab->T)->Xab->T} {a:Xab->T} (f:∀ v,F a v L K h->ep (fun a=>F a v) a L K h)
  (c:cg I x (F a) L K h):ep (fun a=>cg I x (F a)) a L K h:=by
 obtain ⟨v,hv,c⟩:=bJ c;obtain ⟨u,hk,b⟩:=f v c;refine ⟨u,hk,fun d g i h' j=>?_⟩;unfold cg;simp only [hv];exact b d g i h' j
theorem qc {e:Env}:∀ {c:List Operand} {F:(Xab->T)->List Xab->T} {a:Xab->T},(∀ v,F a v L K h->ep (fun a=>F a v) a L K h) ->
  ja e c (F a) L K h->ep (fun a=>ja e c (F a)) a L K h
 | [],F,a,d,b=>d [] b
 | x::c,F,a,d,b=>by
  refine dK (F:=fun a v=>ja e c fun l=>F a (v::l)) ?_ b;intro v b;exact qc (F:=fun a l=>F a (v::l)) (fun l hl=>d (v::l) hl) b
def cZ {a:Xab->T} {v:Xab} (b:a v L K h):ep (fun a=>a v) a L K h:=⟨v,b,fun _ _ _ _ c=>c⟩
def qE {p:Prop} {F:(Xab->T)->T} {a:Xab->T} (e:F a L K h->ep F a L K h) (c:T.need p (F a) L K h):ep (fun a=>T.need p (F a)) a L K h:=by
 obtain ⟨f,c⟩:=c;obtain ⟨v,hk,b⟩:=e c;exact ⟨v,hk,fun d g i h' j=>⟨f,b d g i h' j⟩⟩
def BT {q:Xac} {F:(Xab->T)->Xax->T} {b:Xab->T} (f:∀ a,F b a L K h->ep (fun b=>F b a) b L K h) (d:T.aR q (F b) L K h) :
  ep (fun b=>T.aR q (F b)) b L K h:=by
 obtain ⟨a,rfl,d⟩:=gV d;obtain ⟨v,hk,c⟩:=f a d;exact ⟨v,hk,fun e g i h' j=>c e g i h' j⟩
variable {O:Bool}
def tQ {F G:(Xab->T)->T} {a:Xab->T} (d:F a L K h->ep F a L K h) (e:G a L K h->ep G a L K h) (c:cond O (F a) (G a) L K h) :
  ep (fun a=>cond O (F a) (G a)) a L K h:=by
 cases O
 ·exact e c
 ·exact d c
def wX {op:BinOp} {a:Xab->T} (c:asked op O a T.fail L K h):ep (fun a=>asked op O a T.fail) a L K h:=by
 cases op <;> first | exact cZ c | exact c.elim
variable {U:IntKind} {V Y:Int}
def Sn {op:BinOp} {a:Xab->T} (b:IW op U V Y a L K h):ep (fun a=>IW op U V Y a) a L K h:=by
 cases op <;> first
  | exact b.elim
  | exact cZ b
  | exact qE (F:=fun a=>a _) cZ b
def KZ {op:BinOp} {a:Xab->T} (b:AX op U V Y a L K h):ep (fun a=>AX op U V Y a) a L K h:=by
 cases op <;> first
  | exact b.elim
  | exact qE (F:=fun a=>a _) cZ b
def SH {op:BinOp} {m n:Xaa} {a:Xab->T} (b:IQ op m n a L K h):ep (fun a=>IQ op m n a) a L K h:=by
 cases op <;> first
  | exact b.elim
  | exact cZ b
  | exact qE (F:=fun a=>a _) cZ b
variable {H:TypeId}
def NG {op:BinOp} {a b:Xab} {g:Xab->T} (e:uG P op H a b g L K h):ep (fun g=>uG P op H a b g) g L K h:=by
 unfold uG at e ⊢;cases a <;> cases b <;> first | exact e.elim | skip
 case bool.bool m n =>
  generalize P.underlying H=f at e ⊢;cases f with
  | none=>exact e.elim
  | some d=>cases d <;> first | exact e.elim | exact wX e
 case int.int k m k' n =>
  simp only at e ⊢;cases i:nY op with
  | true=>simp only [i] at e ⊢; exact KZ e
  | false =>
   simp only [i] at e ⊢
   by_cases hk:k=k'
   ·subst hk;simp only [decide_true] at e ⊢;exact Sn e
   ·simp only [hk,decide_false] at e;exact e.elim
 case string.string m n=>exact SH e
 case pointer.pointer p q =>
  generalize P.underlying H=f at e ⊢;cases f with
  | none=>exact e.elim
  | some d=>cases d <;> first | exact e.elim | exact wX e
 case slice.slice p l c q l' c' =>
  generalize P.underlying H=f at e ⊢;cases f with
  | none=>exact e.elim
  | some d=>cases d <;> first | exact e.elim | exact wX e
 case map.map p q =>
  generalize P.underlying H=f at e ⊢;cases f with
  | none=>exact e.elim
  | some d=>cases d <;> first | exact e.elim | exact wX e
def Vg {op:UnOp} {a:Xab} {b:Xab->T} (c:VE op a b L K h):ep (fun b=>VE op a b) b L K h:=by
 cases op <;> cases a <;> first | exact c.elim | exact cZ c
def Ms {cs : List Xab} {off : Nat} {b : Xab -> T} (a : uK P H cs off b L K h) : ep (fun b => uK P H cs off b) b L K h := by
  unfold uK at a ⊢;generalize P.underlying H = c at a ⊢;cases c with
  | none => exact a.elim
  | some d =>
    cases d <;> first
      | exact cZ a
      | (cases hv : cs[off]? with
         | none => simp only [hv] at a; exact a.elim
         | some v => simp only [hv] at a ⊢; exact cZ a)
def K8 {a:Xab} {lo hi:Option Xab} {c:Xab->T} (e:(match P.underlying H with
  | some .string=>true
  | some (.slice _)=>true
  | _=>false)=true) (b:jx P H a lo hi none c L K h):ep (fun c=>jx P H a lo hi none c) c L K h:=by
 unfold jx at b ⊢;cases hint:eU lo && eU hi && eU none with
 | false=>simp only [hint] at b; exact b.elim
 | true =>
  simp only [hint] at b ⊢;generalize P.underlying H=g at b e ⊢;cases g with
  | none=>cases e
  | some d =>
   cases d <;> simp only [Bool.false_eq_true] at e
   case string=>cases a <;> first | exact b.elim | exact qE (F:=fun c=>c _) cZ b
   case slice i =>
    cases a <;> first | exact b.elim | skip
    simp only at b ⊢;cases f:oK P i with
    | false=>simp only [f] at b; exact b.elim
    | true=>simp only [f] at b ⊢; exact qE (F:=fun c=>c _) cZ b
theorem uh {agg:Nat->Option Bool}:∀ {ps:List (Nat × Xab)} {F:(Xab->T)->List (Nat × List Xab)->T} {a:Xab->T},(∀ r,F a r L K h->ep (fun a=>F a r) a L K h) ->
  fK agg ps (F a) L K h->ep (fun a=>fK agg ps (F a)) a L K h
 | [],F,a,d,c=>d [] c
 | (i,v)::l,F,a,d,c=>by
  simp only [fK] at c ⊢;cases f:agg i with
  | none=>rw [f] at c; exact c.elim
  | some b =>
   rw [f] at c;cases b with
   | true=>exact tQ (F:=fun a=>fK agg l fun r=>F a ((i,ka v)::r)) (G:=fun _=>T.fail) (fun c=>uh (F:=fun a r=>F a ((i,ka v)::r)) (fun r e=>d _ e) c) (fun c=>c.elim) c
   | false=>exact tQ (F:=fun _=>T.fail) (G:=fun a=>fK agg l fun r=>F a ((i,[v])::r)) (fun c=>c.elim) (fun c=>uh (F:=fun a r=>F a ((i,[v])::r)) (fun r e=>d _ e) c) c
def Ox {o:Oper} {g:Xab->T} (n:tF P o=true) (j:wj P o I g L K h):ep (fun g=>wj P o I g) g L K h:=by
 obtain ⟨dst,op,D,pos,after,guard⟩:=o;cases op <;> simp only [tF,Bool.false_eq_true] at n <;> simp only [wj] at j ⊢
 case move x=>exact dK (F:=fun g v=>g v) (fun v hv=>cZ hv) j
 case pick c x y =>
  refine dK (F:=fun g c=>match c with
   | .bool b'=>cond b' (cg I x g) (cg I y g)
   | _=>T.fail) (fun v hv=>?_) j
  cases v <;> first | exact hv.elim | skip
  exact tQ (F:=fun g=>cg I x g) (G:=fun g=>cg I y g) (fun j=>dK (F:=fun g v=>g v) (fun v hv=>cZ hv) j) (fun j=>dK (F:=fun g v=>g v) (fun v hv=>cZ hv) j) hv
 case build t ps =>
  refine qc (F:=fun g q=>match P.underlying t,(P.info? t).bind (·.zero) with
   | some (.struct u),some z =>
    bif !(u.all fun f=>oK P f.type) then T.fail else fK (fun i=>(u[i]?).bind fun f=>cP P f.type) ((ps.toList.map (·.1)).zip q) fun A=>match fV (((u.map fun f=>(f.offset,P.cellsOf f.type)))[·]?) z.cells.toList A with
    | some cs=>g (.agg cs.toArray)
    | none=>T.fail
   | some (.array _ C),some z =>
    bif !oK P C then T.fail else fK (fun _=>cP P C) ((ps.toList.map (·.1)).zip q) fun A=>match fV (fun i=>some (i*P.cellsOf C,P.cellsOf C)) z.cells.toList A with
    | some cs=>g (.agg cs.toArray)
    | none=>T.fail
   | _,_=>T.fail) (fun q hv=>?_) j
  generalize P.underlying t=B at hv ⊢;generalize (P.info? t).bind (·.zero)=z at hv ⊢;cases B with
  | none=>exact hv.elim
  | some d =>
   cases d <;> first | exact hv.elim | skip
   case array len C =>
    cases z with
    | none=>exact hv.elim
    | some z =>
     refine tQ (F:=fun _=>T.fail) (G:=fun g=>fK (fun _=>cP P C) ((ps.toList.map (·.1)).zip q) fun A=>match fV (fun i=>some (i*P.cellsOf C,P.cellsOf C)) z.cells.toList A with
      | some cs=>g (.agg cs.toArray)
      | none=>T.fail) (fun j=>j.elim) (fun j=>?_) hv
     refine uh (F:=fun g A=>match fV (fun i=>some (i*P.cellsOf C,P.cellsOf C)) z.cells.toList A with
      | some cs=>g (.agg cs.toArray)
      | none=>T.fail) (fun A j=>?_) j
     cases E:fV (fun i=>some (i*P.cellsOf C,P.cellsOf C)) z.cells.toList A with
     | none=>simp only [E] at j; exact j.elim
     | some cs=>simp only [E] at j ⊢; exact cZ j
   case struct u =>
    cases z with
    | none=>exact hv.elim
    | some z =>
     refine tQ (F:=fun _=>T.fail) (G:=fun g=>fK (fun i=>(u[i]?).bind fun f=>cP P f.type) ((ps.toList.map (·.1)).zip q) fun A=>match fV (((u.map fun f=>(f.offset,P.cellsOf f.type)))[·]?) z.cells.toList A with
      | some cs=>g (.agg cs.toArray)
      | none=>T.fail) (fun j=>j.elim) (fun j=>?_) hv
     refine uh (F:=fun g A=>match fV (((u.map fun f=>(f.offset,P.cellsOf f.type)))[·]?) z.cells.toList A with
      | some cs=>g (.agg cs.toArray)
      | none=>T.fail) (fun A j=>?_) j
     cases E:fV (((u.map fun f=>(f.offset,P.cellsOf f.type)))[·]?) z.cells.toList A with
     | none=>simp only [E] at j; exact j.elim
     | some cs=>simp only [E] at j ⊢; exact cZ j
 case nilCheck x =>
  refine dK (F:=fun g v=>match v with
   | .pointer p=>T.aR p fun a=>g (.pointer (some a))
   | .func (.func f) N H=>g (.func (.func f) N H)
   | .iface t v=>g (.iface t v)
   | _=>T.fail) (fun v hv=>?_) j
  cases v with
  | pointer p=>exact BT (F:=fun g a=>g (.pointer (some a))) (fun a J=>cZ J) hv
  | func fn N H=>cases fn <;> first | exact hv.elim | exact cZ hv
  | iface t w=>exact cZ hv
  | _=>exact hv.elim
 case binOp op t x y S =>
  refine dK (F:=fun g a=>cg I y fun b=>EF P op t x y a b g) (fun a J=>?_) j;refine dK (F:=fun g b=>EF P op t x y a b g) (fun b O=>?_) J;unfold EF at O ⊢;simp only [n] at O ⊢;exact NG O
 case unOp op t x=>exact dK (F:=fun g a=>VE op a g) (fun v hv=>Vg hv) j
 case convert s d x =>
  refine dK (F:=fun g a=>yX P s d a g) (fun v hv=>?_) j;unfold yX at hv ⊢;generalize P.underlying s=us at hv n ⊢;generalize P.underlying d=B at hv n ⊢;cases us with
  | none=>cases n
  | some us =>
   cases B with
   | none=>cases us <;> cases n
   | some B =>
    cases us <;> first | (cases B <;> cases n; done) | skip
    case int k=>cases B <;> first | (cases n; done) | (cases v <;> first | exact hv.elim | exact cZ hv)
    case string=>cases B <;> first | (cases n; done) | (cases v <;> first | exact hv.elim | exact cZ hv)
 case makeInterface t x =>
  refine dK (F:=fun g a=>match P.underlying t with
   | some (.interface _)=>T.fail
   | some _=>g (.iface t a)
   | none=>T.fail) (fun v hv=>?_) j
  generalize P.underlying t=B at hv ⊢;cases B with
  | none=>exact hv.elim
  | some d=>cases d <;> first | exact hv.elim | exact cZ hv
 case makeFunc fn N H =>
  refine qc (F:=fun g N=>ja I H.toList fun H=>g (.func fn N.toArray H.toArray)) (fun N hv=>?_) j;exact qc (F:=fun g H=>g (.func fn N.toArray H.toArray)) (fun H hv=>cZ hv) hv
 case slice t x lo hi Q =>
  cases Q with
  | some m=>cases n
  | none =>
  simp only at n;refine dK (F:=fun g a=>ja I (lo.toList++hi.toList++(none:Option Operand).toList) fun q=>VK P t lo hi none a q g) (fun a J=>?_) j;refine qc (F:=fun g q=>VK P t lo hi none a q g) (fun q hv=>?_) J;unfold VK at hv ⊢;cases lo <;> cases hi <;> rcases q with _ | ⟨l,_ | ⟨U,_ | ⟨V,q⟩⟩⟩ <;> first
   | exact hv.elim
   | exact K8 n hv
 case fieldAddr s x f =>
  refine dK (F:=fun g v=>match v,P.underlying s with
   | .pointer p,some (.struct u)=>match u[f]? with
    | some M=>match P.cellsOf M.type with
     | 0=>T.fail
     | _+1=>T.aR p fun a=>g (.pointer (some (a.add M.offset)))
    | none=>T.fail
   | _,_=>T.fail) (fun v hv=>?_) j
  generalize P.underlying s=us at hv ⊢;cases v <;> first | exact hv.elim | skip
  cases us with
  | none=>exact hv.elim
  | some us =>
   cases us <;> first | exact hv.elim | skip
   rename_i u;simp only at hv ⊢;cases E:u[f]? with
   | none=>simp only [E] at hv; exact hv.elim
   | some M =>
    simp only [E] at hv ⊢;cases hc:P.cellsOf M.type with
    | zero=>simp only [hc] at hv; exact hv.elim
    | succ m=>simp only [hc] at hv ⊢; exact BT (F:=fun g a=>g (.pointer (some (a.add M.offset)))) (fun a J=>cZ J) hv
 case field s x f =>
  refine dK (F:=fun g v=>match v,P.underlying s with
   | .agg cs,some (.struct u)=>match u[f]? with
    | some M=>uK P M.type cs.toList M.offset g
    | none=>T.fail
   | _,_=>T.fail) (fun v hv=>?_) j
  generalize P.underlying s=us at hv ⊢;cases v <;> first | exact hv.elim | skip
  cases us with
  | none=>exact hv.elim
  | some us =>
   cases us <;> first | exact hv.elim | skip
   rename_i u;simp only at hv ⊢;cases E:u[f]? with
   | none=>simp only [E] at hv; exact hv.elim
   | some M=>simp only [E] at hv ⊢; exact Ms hv
 case indexAddr t x i =>
  refine dK (F:=fun g v=>cg I i fun i=>zt P t v i g) (fun v hv=>?_) j;refine dK (F:=fun g i=>zt P t v i g) (fun i hi=>?_) hv;unfold zt at hi ⊢;generalize P.underlying t=us at hi ⊢;cases v <;> cases i <;> first | exact hi.elim | skip
  all_goals
   cases us with
   | none=>exact hi.elim
   | some us =>
    cases us <;> first | exact hi.elim | skip
    refine tQ (F:=fun _=>T.fail) (fun j=>j.elim) (fun j=>?_) hi;exact qE (F:=fun g=>T.aR _ fun a=>g (.pointer (some (a.add (_*P.cellsOf _))))) (BT (F:=fun g a=>g (.pointer (some (a.add (_*P.cellsOf _))))) (fun a J=>cZ J)) j
 case index t x i =>
  refine dK (F:=fun g v=>cg I i fun i=>H0 P t v i g) (fun v hv=>?_) j;refine dK (F:=fun g i=>H0 P t v i g) (fun i hi=>?_) hv;unfold H0 at hi ⊢;generalize P.underlying t=us at hi n ⊢;cases us with
  | none=>cases n
  | some us =>
   cases us <;> simp only [Bool.false_eq_true] at n;cases v <;> cases i <;> first | exact hi.elim | exact qE (F:=fun g=>g _) cZ hi
 case extract x i =>
  refine dK (F:=fun g v=>match v with
   | .tuple q=>match q.toList[i]? with
    | some v=>g v
    | none=>T.fail
   | _=>T.fail) (fun v hv=>?_) j
  cases v <;> first | exact hv.elim | skip
  rename_i q;simp only at hv ⊢;cases hi:q.toList[i]? with
  | none=>simp only [hi] at hv; exact hv.elim
  | some w=>simp only [hi] at hv ⊢; exact cZ hv
 case call c =>
  cases hc:c.callee with
  | value f=>simp only [hc] at n; cases n
  | invoke r m=>simp only [hc] at n; cases n
  | builtin b =>
   simp only [hc] at n j ⊢;refine qc (F:=fun g q=>tk P b c D q g) (fun q hv=>?_) j;cases b <;> simp only [Bool.false_eq_true] at n
   case len =>
    have hv:AG P c D q g L K h:=hv;show ep (fun g=>AG P c D q g) g L K h;unfold AG at hv ⊢;generalize (c.argTypes[0]?).bind P.underlying=B at hv n ⊢;cases B with
    | none=>cases n
    | some d =>
     cases d <;> simp only [Bool.false_eq_true] at n
     all_goals
      rcases q with _ | ⟨v,_ | ⟨R,l⟩⟩ <;> first | exact hv.elim | skip
      all_goals cases v <;> first | exact hv.elim | exact cZ hv
   case cap =>
    have hv:La P c q g L K h:=hv;show ep (fun g=>La P c q g) g L K h;unfold La at hv ⊢;generalize (c.argTypes[0]?).bind P.underlying=B at hv n ⊢;cases B with
    | none=>cases n
    | some d =>
     cases d <;> simp only [Bool.false_eq_true] at n
     all_goals
      rcases q with _ | ⟨v,_ | ⟨R,l⟩⟩ <;> first | exact hv.elim | skip
      all_goals cases v <;> first | exact hv.elim | exact cZ hv
end pures
section draws
variable {P:Program} {n:Nd} {ops:Array Oper}
theorem ij {x:Nat}:∀ {l:List Nat},uv x l=true↔x∈l
 | []=>by simp [uv]
 | y::l=>by
  simp only [uv,Bool.or_eq_true,List.mem_cons,ij (l:=l)];constructor
  ·rintro (h | h)
   ·exact .inl (Zd h)
   ·exact .inr h
  ·rintro (h | h)
   ·subst h; exact .inl aj
   ·exact .inr h
theorem JB {p:Nat × Oper}:∀ {l:List Oper} {k:Nat},p∈idx k l↔∃ j,l[j]?=some p.2/\p.1=k+j
 | [],k=>by simp [idx]
 | o::l,k=>by
  simp only [idx,List.mem_cons,JB (l:=l)];constructor
  ·rintro (h | ⟨j,h1,h2⟩)
   ·subst h; exact ⟨0,aj,aj⟩
   ·exact ⟨j+1,by simpa using h1,ad⟩
  ·rintro ⟨j,h1,h2⟩;cases j with
   | zero=>left; simp at h1; subst h1; obtain ⟨a,b⟩:=p; simp at h2; subst h2; rfl
   | succ j=>right; exact ⟨j,by simpa using h1,ad⟩
def jt {i:Nat} {o:Oper}:(i,o)∈idx 0 ops.toList↔ops[i]?=some o:=by
 rw [JB];constructor
 ·rintro ⟨j,h1,h2⟩;simp at h2; subst h2;simpa using h1
 ·intro h; exact ⟨i,by simpa using h,aj⟩
def Ps (b:eQ P n ops=true) {i:Nat} {x:Oper} (hi:ops[i]?=some x) {d:Nat} (c:x.dst=some d):d<n:=by
 unfold eQ at b;rw [Zz] at b;have h1:=Zx.1 b.1 (i,x) (jt.2 hi);simp only [c] at h1;simpa [Nat.blt_eq] using h1
def H4 (b:eQ P n ops=true) {i:Nat} {x:Oper} (hi:ops[i]?=some x) {d:Nat} (c:x.dst=some d) (hc:calm P x=true):d∉looks ops x:=by
 unfold eQ at b;rw [Zz] at b;have h1:=Zx.1 (Zx.1 b.2 (i,x) (jt.2 hi)) (i,x) (jt.2 hi);unfold Jh at h1;have f:Nat.beq i i=true:=aj
 simp only [f,c,hc,Bool.not_true,Bool.false_or,Bool.not_eq_true'] at h1;intro hl;rw [ij.2 hl] at h1; cases h1
def pO (b:eQ P n ops=true) {i j:Nat} {x y:Oper} (hi:ops[i]?=some x) (k:ops[j]?=some y) (c:i≠j) :
  (∀ d,y.dst=some d->d∈looks ops x->j∈waits x\/(i∈waits y/\calm P y=false))/\(∀ d,x.dst=some d->calm P x=true->y.dst≠some d):=by
 unfold eQ at b;rw [Zz] at b;have h1:=Zx.1 (Zx.1 b.2 (i,x) (jt.2 hi)) (j,y) (jt.2 k);unfold Jh at h1;have f:Nat.beq i j=false:=by
  cases f:Nat.beq i j
  ·rfl
  ·exact (c (Zd f)).elim
 simp only [f,Bool.and_eq_true] at h1;refine ⟨fun d g hl=>?_,fun d g hc l=>?_⟩
 ·have h2:=h1.1;simp only [g,Bool.or_eq_true,Bool.and_eq_true,Bool.not_eq_true'] at h2;rcases h2 with (h2 | h2) | ⟨h2,o⟩
  ·have:=ij.2 hl; rw [this] at h2; cases h2
  ·exact .inl (ij.1 h2)
  ·exact .inr ⟨ij.1 h2,o⟩
 ·have h2:=h1.2;simp only [g,hc,l,nQ] at h2;simp at h2
def BQ (ops:Array Oper) (o:Oper) (e:Env) (b:Bool):Prop :=
 match o.guard with
 | none=>b=true
 | some (j,w)=>match (ops[j]?).bind (·.dst) with
  | none=>b=false
  | some d=>(∃ t,dc e d=some (.bool t)/\b=(t==w))\/(∃ c,dc e d=some (.tuple c)/\b=false)
def zg {o:Oper} {j d:Nat} {w:Bool} (b:o.guard=some (j,w)) (c:(ops[j]?).bind (·.dst)=some d):d∈looks ops o:=by
 unfold looks;rw [b];simp only [c];exact Zv _ aj
def BQ.wanted {o:Oper} {e:Env} {b:Bool} (h:BQ ops o e b) {tm:Array Xab} (g:∀ s∈looks ops o,∀ v,dc e s=some v->tm.getD s undef=v) :
  Region.wanted o (yielded ops tm)=b:=by
 unfold BQ at h;cases f:o.guard with
 | none=>simp only [f] at h; subst h; exact yV f
 | some p =>
  obtain ⟨j,w⟩:=p;simp only [f] at h;rw [zb f];cases c:(ops[j]?).bind (·.dst) with
  | none=>simp only [c] at h; subst h; simp [yielded,c]
  | some d =>
   simp only [c] at h;have hl:=zg f c;rcases h with ⟨t,h1,rfl⟩ | ⟨i,h1,rfl⟩
   ·rw [wY c (g d hl _ h1)]; cases t <;> cases w <;> rfl
   ·rw [uJ c (g d hl _ h1)]; rfl
def BQ.congr {o:Oper} {e g:Env} {b:Bool} (h:BQ ops o e b) (i:∀ s∈looks ops o,dc g s=dc e s):BQ ops o g b:=by
 unfold BQ at h ⊢;cases c:o.guard with
 | none=>simp only [c] at h ⊢; exact h
 | some p =>
  obtain ⟨j,w⟩:=p;simp only [c] at h ⊢;cases f:(ops[j]?).bind (·.dst) with
  | none=>simp only [f] at h ⊢; exact h
  | some d=>simp only [f] at h ⊢; rw [i d (zg c f)]; exact h
def tW {e:Env} {d:Nat} {v:Xab} (h:dc e d=some v) (s:Nat):dc (eH n e (some d) v) s=dc e s:=by
 simp only [eH];cases Nat.blt d n with
 | false=>rfl
 | true =>
  simp only [cond_true,dP]
  by_cases b:d=s
  ·subst b; rw [Y8 rfl,h]
  ·rw [Y1 b]
variable {H:Lp}
def AE {o:Oper} {e:Env} {f no:Env->T} {K:Xab->Hp->Prop} {h:Hp} (c:mC n ops o e f no H K h) :
  ∃ g b,(∀ s,dc g s=dc e s)/\BQ ops o e b/\((b=true/\f g H K h)\/(b=false/\no g H K h)):=by
 unfold mC guardOf at c;unfold BQ;cases i:o.guard with
 | none=>simp only [i] at c ⊢; exact ⟨e,true,fun _=>rfl,rfl,.inl ⟨rfl,c⟩⟩
 | some p =>
  obtain ⟨j,w⟩:=p;simp only [i] at c ⊢;cases k:(ops[j]?).bind (·.dst) with
  | none=>simp only [k] at c ⊢; exact ⟨e,false,fun _=>rfl,rfl,.inr ⟨rfl,c⟩⟩
  | some d =>
   simp only [k] at c ⊢;cases hv:dc e d with
   | none=>simp only [hv] at c; exact c.elim
   | some v =>
    cases v <;> simp only [hv] at c <;> first | exact c.elim | skip
    case tuple q=>exact ⟨e,false,fun _=>rfl,.inr ⟨q,rfl,rfl⟩,.inr ⟨rfl,c⟩⟩
    case bool b =>
     cases w <;> simp only at c <;> rcases gw c with ⟨l,c⟩ | ⟨l,c⟩ <;> subst l
     ·exact ⟨_,false,tW hv,.inl ⟨true,rfl,rfl⟩,.inr ⟨rfl,c⟩⟩
     ·exact ⟨_,true,tW hv,.inl ⟨false,rfl,rfl⟩,.inl ⟨rfl,c⟩⟩
     ·exact ⟨_,true,tW hv,.inl ⟨true,rfl,rfl⟩,.inl ⟨rfl,c⟩⟩
     ·exact ⟨_,false,tW hv,.inl ⟨false,rfl,rfl⟩,.inr ⟨rfl,c⟩⟩
def only (e:Env) (l:List Nat):Env:=l.filterMap fun s=>(dc e s).map fun v=>(s,some v)
theorem ub {e:Env}:∀ {l:List Nat} {s:Nat},dc (only e l) s=if s∈l then dc e s else none
 | [],s=>by simp [only,dc]
 | t::l,s=>by
  unfold only;rw [List.filterMap_cons];cases hv:dc e t with
  | none =>
   simp only [Option.map_none];rw [show List.filterMap (fun s=>(dc e s).map fun v=>(s,some v)) l=only e l from rfl,ub]
   by_cases h1:s∈l
   ·simp [h1]
   ·by_cases h2:s=t
    ·subst h2; simp [h1,hv]
    ·simp [h1,h2]
  | some v =>
   simp only [Option.map_some];rw [dP,show List.filterMap (fun s=>(dc e s).map fun v=>(s,some v)) l=only e l from rfl,ub]
   by_cases h1:t=s
   ·subst h1; simp [hv]
   ·have h2:¬ s=t:=fun b=>h1 b.symm
    simp [h1,h2]
def yM {o:Oper} {t:Nat} (h:Operand.tmp t∈o.op.operands):t∈looks ops o:=by
 unfold looks;refine Zq _ (av9.2 ⟨.tmp t,by simpa using h,rfl⟩)
def F2 {o:Oper} {e:Env} {kk:Xab->T}:wj P o (only e (looks ops o)) kk=wj P o e kk:=by
 refine yg (fun x b=>?_) kk;cases x <;> try rfl
 rename_i t;simp only [ev];rw [ub,Y8 (yM b)]
def Fx {e:Env} {a:Act} {l:List Nat} (b:a.tmps.size=n.n) (c:a.defers=n.d) (h:∀ s∈l,∀ v,dc e s=some v->a.tmps.getD s undef=v):iB n (only e l) a:=by
 refine ⟨b,c,fun s v hv=>?_⟩;rw [ub] at hv;split at hv
 ·rename_i f; exact h s f v hv
 ·cases hv
def Pm (P : Program) (n : Nd) (ops : Array Oper) (e : Env) (m : Made) (h : Hp) (i : Nat) (o : Oper) : Prop :=
  calm P o = true /\ ∃ v b, (∀ d, o.dst = some d -> d < n -> dc e d = some v) /\ BQ ops o e b /\
    ((b = false /\ v = undef) \/ (b = true /\ ((∀ (c : Xab -> T) L K h', c v L K h' -> wj P o e c L K h') \/
      (∃ p l, (i, p, l) ∈ m /\ aI h p 0 l /\ ∀ (c : Xab -> T) L K h', aI h' p 0 l -> c v L K h' -> wj P o e c L K h'))))
def An (ops:Array Oper):List Nat->Prop
 | []=>True
 | i::D=>i∉D/\(∀ o,ops[i]?=some o->∀ j∈waits o,j∈D)/\An ops D
structure sK (P:Program) (n:Nd) (ops:Array Oper) (e0:Env) (listed:Array Bool) (a:Act) (h:Hp) (D:List Nat) (e:Env) (m:Made):Prop where
 wM:listed.size=ops.size
 size:a.tmps.size=n.n
 defers:a.defers=n.d
 lD:∀ i,listed[i]?=some true->i∈D
 dD:∀ i∈D,∃ o,ops[i]?=some o
 closed:An ops D
 WC:∀ s v,dc e s=some v->(∀ j∈D,∀ o,ops[j]?=some o->listed[j]?=some false->o.dst≠some s)->a.tmps.getD s undef=v
 PJ:∀ i∈D,∀ o,ops[i]?=some o->listed[i]?=some false->Pm P n ops e m h i o
 fr:Fr (dstsOf ops) e0 e
theorem tj:∀ {D:List Nat},An ops D->∀ i∈D,∀ o,ops[i]?=some o->∀ j∈waits o,j∈D
 | d::D,hc,i,hi,o,b,j,c=>by
  rcases Zo.1 hi with rfl | hi
  ·exact Ze _ (hc.2.1 o b j c)
  ·exact Ze _ (tj hc.2.2 i hi o b j c)
theorem uM (listed:Array Bool):∀ {D:List Nat},An ops D->(∀ i∈D,∃ o,ops[i]?=some o)->(∃ i∈D,listed[i]?=some false)->(∀ i∈D,listed[i]?=some true\/listed[i]?=some false) ->
  ∃ i∈D,listed[i]?=some false/\∀ o,ops[i]?=some o->∀ j∈waits o,listed[j]?=some true
 | i'::D,hc,g,⟨i,hi,f⟩,b=>by
  by_cases c:∃ i∈D,listed[i]?=some false
  ·obtain ⟨k,hk,h1,h2⟩:=uM listed hc.2.2 (fun i hi=>g i (Ze _ hi)) c (fun i hi=>b i (Ze _ hi));exact ⟨k,Ze _ hk,h1,h2⟩
  ·have d:i=i':=by
    rcases Zo.1 hi with h | h
    ·exact h
    ·exact (c ⟨i,h,f⟩).elim
   subst d;refine ⟨i,aj,f,fun o l j p=>?_⟩;have hjD:=hc.2.1 o l j p;rcases b j (Ze _ hjD) with h | h
   ·exact h
   ·exact (c ⟨j,hjD,h⟩).elim
def kP {e:Env} {dst:Option Tmp} {v:Xab} {s:Nat} (b:dst≠some s):dc (eH n e dst v) s=dc e s:=by
 cases dst with
 | none=>rfl
 | some d =>
  simp only [eH];cases Nat.blt d n with
  | false=>rfl
  | true=>simp only [cond_true,dP]; rw [Y1 (fun c:d=s=>b (by rw [c]))]
def uU {e:Env} {d:Nat} {v:Xab} (b:d<n):dc (eH n e (some d) v) d=some v:=by
 have c:Nat.blt d n=true:=by rw [Nat.blt_eq]; exact b
 simp only [eH,c,cond_true,dP,if_true]
def JW {a:Act} {dst:Option Tmp} {v:Xab} {s:Nat} (c:dst≠some s):(a.put dst v).tmps.getD s undef=a.tmps.getD s undef:=by
 cases dst with
 | none=>rfl
 | some d =>
  have b:d≠s:=fun f=>c (by rw [f])
  simp [Act.put,Array.getD_eq_getD_getElem?,Array.getElem?_setIfInBounds,b]
def wA {a:Act} {d:Nat} {v:Xab} (b:d<a.tmps.size):(a.put (some d) v).tmps.getD d undef=v:=by
 simp [Act.put,Array.getD_eq_getD_getElem?,Array.getElem?_setIfInBounds,b]
def FO (a:Act) (dst:Option Tmp) (v:Xab):(a.put dst v).tmps.size=a.tmps.size:=by cases dst <;> simp [Act.put]
def put_defers (a:Act) (dst:Option Tmp) (v:Xab):(a.put dst v).defers=a.defers:=by cases dst <;> rfl
variable {e0:Env} {listed:Array Bool} {a:Act} {h:Hp} {D:List Nat} {e:Env} {m:Made}
def G5 {i:Nat} {o:Oper} (b:ops[i]?=some o) {d:Nat} (c:o.dst=some d):d∈dstsOf ops:=JM (j:=i) (by rw [b]; exact c)
def Fr.step {n:Nat} {l:List Nat} {e0 e b:Env} {o:Oper} {v:Xab} (h:Fr l e0 e) (c:∀ s,dc b s=dc e s) (f:∀ d,o.dst=some d->d∈l):Fr l e0 (Sx.eH n b o.dst v) :=
 (h.trans (fun s _=>c s)).trans (Fr.eH n b v f)
def sK.xF (I:sK P n ops e0 listed a h D e m) {i:Nat} {o:Oper} (d:ops[i]?=some o) (hn:listed[i]?≠some true):listed[i]?=some false:=by
 have c:i<ops.size:=by
  rcases ZP i ops.size with h | h
  ·exact h
  ·rw [ZY h] at d; cases d
 have b:i<listed.size:=by rw [I.wM]; exact c
 rw [ae9 b] at hn ⊢;cases f:listed[i] with
 | false=>rfl
 | true=>rw [f] at hn; exact (hn rfl).elim
def sK.Kl (c:eQ P n ops=true) (I:sK P n ops e0 listed a h D e m) {i:Nat} {o:Oper} (f:ops[i]?=some o) (p:∀ j∈waits o,listed[j]?=some true)
  (hi:i∉D\/calm P o=true):∀ s∈looks ops o,∀ v,dc e s=some v->a.tmps.getD s undef=v:=by
 intro s k v hv;refine I.WC s v hv ?_;intro j q r b g l;have hcj:=(I.PJ j q r b g).1
 by_cases d:i=j
 ·subst d;rw [f] at b; obtain rfl:=Zl b;exact H4 c f l hcj k
 ·rcases (pO c f b d).1 s l k with h1 | ⟨_,h1⟩
  ·rw [p j h1] at g; cases g
  ·rw [hcj] at h1; cases h1
def sK.exec (p:eQ P n ops=true) (I:sK P n ops e0 listed a h D e m) {i:Nat} {o:Oper} (y:ops[i]?=some o) (q:i∈D) (z:listed[i]?=some false) {v:Xab}
  (hv:∀ d,o.dst=some d->dc e d=some v) (hc:calm P o=true):sK P n ops e0 (listed.setIfInBounds i true) (a.put o.dst v) h D e m:=by
 have r:i<listed.size:=by
  rcases ZP i listed.size with h | h
  ·exact h
  ·rw [ZY h] at z; cases z
 have lI:∀ j,(listed.setIfInBounds i true)[j]?=if i=j then some true else listed[j]?:=by
  intro j;rw [ah9]
  by_cases b:i=j
  ·subst b; simp [r]
  ·simp [b]
 refine ⟨by simp [I.wM],by rw [FO,I.size],by rw [put_defers,I.defers],?_,I.dD,I.closed,?_,?_,I.fr⟩
 ·intro j g;rw [lI] at g
  by_cases b:i=j
  ·subst b; exact q
  ·rw [Y1 b] at g; exact I.lD j g
 ·intro s u t w
  by_cases k:o.dst=some s
  ·rw [k];rw [hv s k] at t;obtain rfl:=Zl t;exact wA (by rw [I.size]; exact Ps p y k)
  ·rw [JW k];refine I.WC s u t ?_;intro j g x f c l
   by_cases b:i=j
   ·subst b; rw [y] at f; obtain rfl:=Zl f; exact k l
   ·exact w j g x f (by rw [lI,Y1 b]; exact c) l
 ·intro j g x f c;rw [lI] at c
  by_cases b:i=j
  ·rw [Y8 b] at c; cases c
  ·rw [Y1 b] at c; exact I.PJ j g x f c
def Pm.congr {e g:Env} {m q:Made} {h h':Hp} {i:Nat} {o:Oper} (t:Pm P n ops e m h i o) (hl:∀ s∈looks ops o,dc g s=dc e s) (u:∀ d,o.dst=some d->dc g d=dc e d)
  (w:∀ p l,(i,p,l)∈m->aI h p 0 l->(i,p,l)∈q/\aI h' p 0 l):Pm P n ops g q h' i o:=by
 obtain ⟨hc,v,b,h1,h2,c⟩:=t;have j:∀ kk,wj P o g kk=wj P o e kk:=fun kk=>yg (fun x j=>by
  cases x <;> try rfl
  exact hl _ (yM j)) kk
 refine ⟨hc,v,b,fun d f k=>by rw [u d f]; exact h1 d f k,h2.congr hl,?_⟩;rcases c with c | ⟨r,c | ⟨p,l,c,y,z⟩⟩
 ·exact .inl c
 ·exact .inr ⟨r,.inl fun kk L K h' hk=>by rw [j]; exact c kk L K h' hk⟩
 ·obtain ⟨A,B⟩:=w p l c y;exact .inr ⟨r,.inr ⟨p,l,A,B,fun kk L K h' hc hk=>by rw [j]; exact z kk L K h' hc hk⟩⟩
def sK.ahead (q:eQ P n ops=true) (I:sK P n ops e0 listed a h D e m) {i:Nat} {o:Oper} (g:ops[i]?=some o) (f:i∉D) (G:∀ j∈waits o,j∈D) (hc:calm P o=true)
  {v:Xab} {A:Env} (y:∀ s,dc A s=dc e s) {m':Made} (H:∀ x∈m,x∈m')
  (J:Pm P n ops (eH n A o.dst v) m' h i o):sK P n ops e0 listed a h (i::D) (eH n A o.dst v) m':=by
 have B:listed[i]?=some false:=I.xF g (fun C=>f (I.lD i C));refine ⟨I.wM,I.size,I.defers,fun j c=>Ze _ (I.lD j c),?_,⟨f,?_,I.closed⟩,?_,?_,I.fr.step y (fun d k=>G5 g k)⟩
 ·intro j c;rcases Zo.1 c with rfl | c
  ·exact ⟨o,g⟩
  ·exact I.dD j c
 ·intro o' r j c;rw [g] at r; obtain rfl:=Zl r;exact G j c
 ·intro s u F t;have k:o.dst≠some s:=t i aj o g B;rw [kP k,y] at F;exact I.WC s u F fun j c z b E=>t j (Ze _ c) z b E
 ·intro j c z b E;rcases Zo.1 c with rfl | c
  ·rw [g] at b; obtain rfl:=Zl b; exact J
  ·have w:j≠i:=fun C=>f (C▸c)
   have hpj:=I.PJ j c z b E;refine hpj.congr ?_ ?_ (fun p l h1 h2=>⟨H _ h1,h2⟩)
   ·intro s K
    by_cases k:o.dst=some s
    ·exfalso;rcases (pO q b g w).1 s k K with h1 | ⟨_,h1⟩
     ·exact f (tj I.closed j c z b i h1)
     ·rw [hc] at h1; cases h1
    ·rw [kP k,y]
   ·intro d k;rw [kP ((pO q b g w).2 d k hpj.1),y]
def sK.effect (t:eQ P n ops=true) (I:sK P n ops e0 listed a h D e m) {i:Nat} {o:Oper} (w:ops[i]?=some o) (q:i∉D) (J:∀ j∈waits o,listed[j]?=some true) (hc:calm P o=false)
  {v:Xab} {K:Env} (B:∀ s,dc K s=dc e s) {h':Hp} (E:∀ j p l,(j,p,l)∈m->aI h p 0 l->j∉waits o->aI h' p 0 l) :
  sK P n ops e0 (listed.setIfInBounds i true) (a.put o.dst v) h' (i::D) (eH n K o.dst v) m:=by
 have x:listed[i]?=some false:=I.xF w (fun g=>q (I.lD i g));have F:i<listed.size:=by
  rcases ZP i listed.size with h | h
  ·exact h
  ·rw [ZY h] at x; cases x
 have lI:∀ j,(listed.setIfInBounds i true)[j]?=if i=j then some true else listed[j]?:=by
  intro j;rw [ah9]
  by_cases b:i=j
  ·subst b; simp [F]
  ·simp [b]
 refine ⟨by simp [I.wM],by rw [FO,I.size],by rw [put_defers,I.defers],?_,?_,⟨q,?_,I.closed⟩,?_,?_,I.fr.step B (fun d k=>G5 w k)⟩
 ·intro j c;rw [lI] at c
  by_cases b:i=j
  ·subst b; simp
  ·rw [Y1 b] at c; exact Ze _ (I.lD j c)
 ·intro j c;rcases Zo.1 c with rfl | c
  ·exact ⟨o,w⟩
  ·exact I.dD j c
 ·intro o' y j c;rw [w] at y; obtain rfl:=Zl y;exact I.lD j (J j c)
 ·intro s u z G
  by_cases k:o.dst=some s
  ·rw [k] at z ⊢;have hdn:=Ps t w k;rw [uU hdn] at z;obtain rfl:=Zl z;exact wA (by rw [I.size]; exact hdn)
  ·rw [kP k,B] at z;rw [JW k];refine I.WC s u z ?_;intro j c C f r;have H:i≠j:=fun g=>q (g▸c)
   exact G j (Ze _ c) C f (by rw [lI,Y1 H]; exact r)
 ·intro j c C f r;rw [lI] at r
  by_cases b:i=j
  ·rw [Y8 b] at r; cases r
  ·rw [Y1 b] at r;rcases Zo.1 c with g | c
   ·exact (b g.symm).elim
   ·have hpj:=I.PJ j c C f r;have A:j∉waits o:=fun g=>by rw [J j g] at r; cases r
    refine hpj.congr ?_ ?_ (fun p l h1 h2=>⟨h1,E j p l h1 h2 A⟩)
    ·intro s L
     by_cases k:o.dst=some s
     ·exfalso;rcases (pO t f w (fun g=>b g.symm)).1 s k L with h1 | ⟨h1,_⟩
      ·exact q (tj I.closed j c C f i h1)
      ·exact A h1
     ·rw [kP k,B]
    ·intro d k;rw [kP ((pO t f w (fun g=>b g.symm)).2 d k hpj.1),B]
def qa {listed:Array Bool} (t:listed.size=ops.size) {i:Nat}:i∈Region.ready .any ops listed↔∃ o,ops[i]?=some o/\listed[i]?=some false/\∀ j∈waits o,listed[j]?=some true:=by
 unfold Region.ready;rw [List.mem_filter,ap9];constructor
 ·rintro ⟨c,q⟩;rw [Zz] at q;obtain ⟨h1,h2⟩:=q;have g:ops[i]?=some ops[i]:=ae9 c;rw [g] at h2;refine ⟨ops[i],g,?_,?_⟩
  ·have d:i<listed.size:=by rw [t]; exact c
   rw [ae9 d];simp only [Bool.not_eq_true',Array.getD_eq_getD_getElem?,Array.getElem?_eq_getElem d,Option.getD_some] at h1;rw [h1]
  ·intro j r;simp only [Option.map_some,Option.getD_some] at h2;unfold waits at r;obtain ⟨k,f,rfl⟩:=Y9.1 r;obtain ⟨l,p⟩:=List.mem_filter.1 f;have h3:=(Array.all_eq_true_iff_forall_mem.1 h2) k (by simpa using l);rw [p] at h3;simp only [Bool.not_true,Bool.false_or,Array.getD_eq_getD_getElem?] at h3;cases s:listed[k.on]? with
   | none=>rw [s] at h3; cases h3
   | some b=>rw [s] at h3; simp at h3; rw [h3]
 ·rintro ⟨o,g,h1,h2⟩;have c:i<ops.size:=by
   rcases ZP i ops.size with h | h
   ·exact h
   ·rw [ZY h] at g; cases g
  refine ⟨c,?_⟩;rw [Zz];refine ⟨by simp [Array.getD_eq_getD_getElem?,h1],?_⟩;rw [g];simp only [Option.map_some,Option.getD_some];refine Array.all_eq_true_iff_forall_mem.2 fun k f=>?_
  cases u:Region.binds .any k with
  | false=>rfl
  | true =>
   have:=h2 k.on (Y9.2 ⟨k,List.mem_filter.2 ⟨by simpa using f,u⟩,rfl⟩)
   simp [Array.getD_eq_getD_getElem?,this]
theorem gf {D:List Nat} {c:Bool} {p:Nat × Oper}:∀ {l:List (Nat × Oper)},p∈dt P D c l↔p∈l/\yK D p.1 p.2=true/\calm P p.2=c
 | []=>by simp [dt]
 | q::l=>by
  unfold dt;cases b:yK D q.1 q.2 && (calm P q.2==c) with
  | true =>
   rw [Zz] at b;simp only [List.mem_cons,gf (l:=l)];constructor
   ·rintro (rfl | h)
    ·exact ⟨.inl rfl,b.1,by simpa using b.2⟩
    ·exact ⟨.inr h.1,h.2⟩
   ·rintro ⟨rfl | h,h2⟩
    ·exact .inl rfl
    ·exact .inr ⟨h,h2⟩
  | false =>
   simp only [List.mem_cons,gf (l:=l)];constructor
   ·rintro ⟨h1,h2⟩; exact ⟨.inr h1,h2⟩
   ·rintro ⟨rfl | h,h2⟩
    ·rw [h2.1,h2.2] at b; simp at b
    ·exact ⟨h,h2⟩
def vA {D:List Nat} {i:Nat} {o:Oper}:yK D i o=true↔i∉D/\∀ j∈waits o,j∈D:=by
 unfold yK;rw [Zz];constructor
 ·rintro ⟨h1,h2⟩;refine ⟨fun c=>?_,fun j b=>ij.1 (Zx.1 h2 j b)⟩;rw [ij.2 c] at h1; cases h1
 ·rintro ⟨h1,h2⟩;refine ⟨?_,Zx.2 fun j b=>ij.2 (h2 j b)⟩;cases d:uv i D with
  | false=>rfl
  | true=>exact (h1 (ij.1 d)).elim
def Sk {K:Xab->Hp->Prop} {h:Hp} {o:Oper} {m:Made} {t:T} (g:wP (kQ o m) t H K h):t H K h/\∀ j p l,(j,p,l)∈m->j∉waits o->aI h p 0 l:=by
 have h1:∀ l:List (Xax × List Xab),wP l t H K h->T.BO h l/\t H K h:=by
  intro l hl;cases l with
  | nil=>exact ⟨trivial,hl⟩
  | cons p l=>exact hl
 obtain ⟨h2,k⟩:=h1 _ g;refine ⟨k,?_⟩;clear g h1 k
 induction m with
 | nil=>intro j p l b; cases b
 | cons x m r =>
  obtain ⟨i,q,s⟩:=x;intro j p l b c;unfold kQ at h2;cases f:uv i (waits o) with
  | true =>
   rw [f] at h2;rcases Zo.1 b with d | b
   ·simp only [Prod.mk.injEq] at d;obtain ⟨rfl,rfl,rfl⟩:=d;exact (c (ij.1 f)).elim
   ·exact r h2 j p l b c
  | false =>
   rw [f] at h2;simp only [cond_false] at h2;rcases Zo.1 b with d | b
   ·simp only [Prod.mk.injEq] at d;obtain ⟨rfl,rfl,rfl⟩:=d;exact h2.1
   ·exact r h2.2 j p l b c
theorem RP {K:Xab->Hp->Prop} {h:Hp}:∀ {ts:List T} {t:T},t∈ts->UU ts H K h->t H K h
 | [],t,b,_=>by cases b
 | [u],t,b,c=>by simp at b; subst b; exact c
 | u::g::ts,t,b,c=>by
  have:∀ ts:List T,t∈ts->T.every H K h ts->t H K h:=by
   intro ts
   induction ts with
   | nil=>intro d; cases d
   | cons v ts f =>
    intro d c;rcases Zo.1 d with rfl | d
    ·exact c.1
    ·exact f d c.2
  exact this _ b c
def left (listed:Array Bool):Nat:=(listed.toList.filter fun b=>!b).length
theorem Di:∀ (l:List Bool) (i:Nat),l[i]?=some false->((l.set i true).filter fun b=>!b).length+1=(l.filter fun b=>!b).length
 | [],i,h=>by simp at h
 | b::l,0,h=>by simp at h; subst h; simp
 | b::l,i+1,h=>by
  simp at h
  have:=Di l i h
  cases b
  ·simp only [List.set_cons_succ,List.filter_cons,Bool.not_false,if_true,List.length_cons]; omega
  ·simp only [List.set_cons_succ,List.filter_cons,Bool.not_true,Bool.false_eq_true,if_false]; exact this
def FC {listed:Array Bool} {i:Nat} (b:listed[i]?=some false):left (listed.setIfInBounds i true)+1=left listed:=by
 unfold left;rw [Array.toList_setIfInBounds];exact Di _ i (by simpa using b)
def Mh {listed:Array Bool} (h0:left listed=0) (i:Nat):listed[i]?≠some false:=by
 intro b
 have:=FC b
 omega
def I2 (v:Xab) (h:Hp):Xab->T:=fun v' _ _ h'=>v'=v/\h'=h
variable {I:World}
def RA (z:eQ P n ops=true) {K:Xab->Hp->Prop} {k:Env->T} {Q:Exit->Act->World->Prop} {i:Nat}
  {listed:Array Bool} {a:Act} {w:World} {R:Act->World->Prop} (hi:i∈Region.ready .any ops listed) (hs:ec I w)
  (next:∀ a' w' D e m F,ec I w'->sK P n ops e0 (listed.setIfInBounds i true) a' w'.heap D e m->gP P n ops F D e m k H K w'.heap->R a' w') :
  ∀ F D e m,sK P n ops e0 listed a w.heap D e m->gP P n ops F D e m k H K w.heap->wpOp P ops Q i R a w:=by
 intro F
 induction F with
 | zero=>intro D e m c Y; exact Y.elim
 | succ F ih =>
  intro D e m c Y;obtain ⟨o,S,hf,hr⟩:=(qa c.wM).1 hi
  by_cases O:i∈D
  ·
   obtain ⟨hc,v,b,hv,hg,f⟩:=c.PJ i O o S hf;have hlk:=c.Kl z S hr (.inr hc);have hwant:=hg.wanted hlk;have hv':∀ d,o.dst=some d->dc e d=some v:=fun d Z=>hv d Z (Ps z S Z)
   unfold wpOp;rw [S];simp only;have I':=c.exec z S O hf hv' hc;rcases f with ⟨rfl,rfl⟩ | ⟨rfl,f⟩
   ·rw [Y1 (by simp [hwant])];exact next _ _ D e m (F+1) hs I' Y
   ·rw [Y8 hwant];refine .inl ?_;have G:Xx P o a.eval w.heap (fun v' h'=>v'=v/\h'=w.heap):=by
     have hxx:wj P o e (I2 v w.heap) [] (fun _ _=>True) w.heap:=by
      rcases f with f | ⟨p,l,_,hcl,f⟩
      ·exact f (I2 v w.heap) [] (fun _ _=>True) w.heap ⟨rfl,rfl⟩
      ·exact f (I2 v w.heap) [] (fun _ _=>True) w.heap hcl ⟨rfl,rfl⟩
     rw [<- F2 (ops:=ops)] at hxx;exact Ij (Fx c.size c.defers hlk) hxx
    refine yG G ?_;rintro v' w' hs' ⟨rfl,hh⟩;refine next _ _ D e m (F+1) (hs.trans hs') (by rw [hh]; exact I') (by rw [hh]; exact Y)
  ·unfold gP at Y;cases B:dt P D true (idx 0 ops.toList) with
   | cons q qs =>
    obtain ⟨j,A⟩:=q;simp only [B] at Y;have hq:(j,A)∈dt P D true (idx 0 ops.toList):=by rw [B]; simp
    obtain ⟨hq1,hq2,C⟩:=gf.1 hq;have hoj:=jt.1 hq1;obtain ⟨hjD,U⟩:=vA.1 hq2;obtain ⟨E,b,he,hg,f⟩:=AE Y;have hg':∀ u,BQ ops A (eH n E A.dst u) b:=fun u=>hg.congr fun s hs=>by
     by_cases Z:A.dst=some s
     ·exact (H4 z hoj Z C hs).elim
     ·rw [kP Z,he]
    have J:∀ u d,A.dst=some d->d<n->dc (eH n E A.dst u) d=some u:=fun u d Z hdn=>by rw [Z]; exact uU hdn
    have hxe:∀ u kk,wj P A (eH n E A.dst u) kk=wj P A E kk:=fun u kk=>yg (fun x f=>by
     cases x <;> try rfl
     rename_i s;simp only [ev];exact kP (fun Z=>H4 z hoj Z C (yM f))) kk
    rcases f with ⟨rfl,f⟩ | ⟨rfl,f⟩
    ·
     unfold calm at C;cases r:tF P A with
     | true =>
      have hx':wj P A E (fun v=>gP P n ops F (j::D) (eH n E A.dst v) m k) H K w.heap:=by
       have hnl:∀ t x,A.op≠.load t x:=by
        intro t x hh;unfold tF at r;rw [hh] at r; cases r
       obtain ⟨dst,op,type,pos,after,guard⟩:=A;cases op <;> first | exact f | exact (hnl _ _ rfl).elim
      obtain ⟨v,hk,V⟩:=Ox r hx';refine ih (j::D) _ m (c.ahead z hoj hjD U (by unfold calm; rw [r]; rfl) he (fun x f=>f) ?_) hk;exact ⟨by unfold calm; rw [r]; rfl,v,true,J v,hg' v,.inr ⟨rfl,.inl fun kk H K h' M=>by rw [hxe]; exact V kk H K h' M⟩⟩
     | false =>
      rw [r,bu9] at C;obtain ⟨t,x,G⟩:∃ t x,A.op=.load t x:=by
       unfold BA at C;cases G:A.op <;> rw [G] at C <;> first | (cases C; done) | exact ⟨_,_,rfl⟩
      have hcj:calm P A=true:=by unfold calm BA; rw [G]; simp
      simp only [G] at f;unfold sW at f;obtain ⟨u,hu,f⟩:=bJ f;have hx2:sW P t x E (fun a l v=>gP P n ops F (j::D) (eH n E A.dst v) ((j,a,l)::m) k) H K w.heap:=by
       unfold sW cg; simp only [hu]; exact f
      cases hb:cP P t with
      | none=>cases u <;> simp only [hb] at f <;> exact f.elim
      | some bb =>
       obtain ⟨pp,rfl⟩:∃ pp,u=.pointer pp:=by
        cases u <;> cases bb <;> simp only [hb] at f <;> first | exact f.elim | exact ⟨_,rfl⟩
       have g:(match bb with
        | true=>(bif (fB P 9 t).length==P.cellsOf t then T.aR pp fun a=>T.af a (fB P 9 t) (jW _ fun l=>gP P n ops F (j::D) (eH n E A.dst (.agg l.toArray)) ((j,a,l)::m) k) else T.fail)
        | false=>T.aR pp fun a=>T.af a (cM P t).2 (jW _ fun l=>gP P n ops F (j::D) (eH n E A.dst (l.headD undef)) ((j,a,l)::m) k)) H K w.heap:=by
        cases bb <;> simp only [hb] at f <;> exact f
       have hfin:∃ p l v,pp=some p/\aI w.heap p 0 l/\gP P n ops F (j::D) (eH n E A.dst v) ((j,p,l)::m) k H K w.heap /\
         ∀ (kk:Xab->T) H K h',aI h' p 0 l->kk v H K h'->wj P A E kk H K h':=by
        have hxop:∀ kk,wj P A E kk=sW P t x E (fun _ _ v=>kk v):=by
         intro kk;unfold wj;rw [G] <;> rfl
        cases bb with
        | true =>
         simp only at g;rcases gw g with ⟨hl,g⟩ | ⟨hl,g⟩
         ·obtain ⟨p,rfl,g⟩:=gV g;obtain ⟨y,hc,g⟩:=g;rw [dX] at g;refine ⟨p,_,_,rfl,hc,g,fun kk H K h' W M=>?_⟩;rw [hxop];unfold sW cg;simp only [hu,hb,hl];exact ⟨y,W,by rw [dX]; exact M⟩
         ·exact g.elim
        | false =>
         simp only at g;obtain ⟨p,rfl,g⟩:=gV g;obtain ⟨y,hc,g⟩:=g;rw [dX] at g;refine ⟨p,_,_,rfl,hc,g,fun kk H K h' W M=>?_⟩;rw [hxop];unfold sW cg;simp only [hu,hb];exact ⟨y,W,by rw [dX]; exact M⟩
       obtain ⟨p,l,v,rfl,hc,hk,V⟩:=hfin;refine ih (j::D) _ ((j,p,l)::m) (c.ahead z hoj hjD U hcj he (fun x f=>Ze _ f) ?_) hk;exact ⟨hcj,v,true,J v,hg' v,.inr ⟨rfl,.inr ⟨p,l,aj,hc,fun kk H K h' W M=>by rw [hxe]; exact V kk H K h' W M⟩⟩⟩
    ·
     refine ih (j::D) _ m (c.ahead z hoj hjD U C he (fun x f=>f) ?_) f;exact ⟨C,undef,false,J undef,hg' undef,.inl ⟨rfl,rfl⟩⟩
   | nil =>
    simp only [B] at Y;have U:∀ j∈waits o,j∈D:=fun j hj=>c.lD j (hr j hj)
    have hrx:yK D i o=true:=vA.2 ⟨O,U⟩;have hc:calm P o=false:=by
     cases hc:calm P o with
     | false=>rfl
     | true =>
      have:(i,o)∈dt P D true (idx 0 ops.toList):=gf.2 ⟨jt.2 S,hrx,hc⟩
      rw [B] at this; cases this
    have N:(i,o)∈dt P D false (idx 0 ops.toList):=gf.2 ⟨jt.2 S,hrx,hc⟩;cases X:dt P D false (idx 0 ops.toList) with
    | nil=>rw [X] at N; cases N
    | cons q qs =>
     simp only [X] at Y;rw [X] at N;have hti:=RP (Y9.2 ⟨(i,o),N,rfl⟩) Y;simp only at hti;obtain ⟨E,b,he,hg,f⟩:=AE hti;have hlk:=c.Kl z S hr (.inl O);have hwant:=hg.wanted hlk;unfold wpOp;rw [S];simp only;rcases f with ⟨rfl,f⟩ | ⟨rfl,f⟩
     ·rw [Y8 hwant];refine .inl ?_;rw [<- F2 (ops:=ops)] at f;have hlk':∀ s∈looks ops o,∀ v,dc E s=some v->a.tmps.getD s undef=v:=fun s hs v hv=>hlk s hs v (by rw [<- he]; exact hv)
      refine yG (Ij (Fx c.size c.defers hlk') f) ?_;intro v w' hs' hst;obtain ⟨hst1,hst2⟩:=Sk hst;exact next _ _ (i::D) _ m F (hs.trans hs') (c.effect z S O hr hc he (fun j p l h1 _ h3=>hst2 j p l h1 h3)) hst1
     ·rw [Y1 (by simp [hwant])];exact next _ _ (i::D) _ m F hs (c.effect z S O hr hc he (fun j p l _ h2 _=>h2)) f
def Nc (A:eQ P n ops=true) {K:Xab->Hp->Prop} {k:Env->T} {Q:Exit->Act->Hp->Prop} 
  (hk:∀ e a h,k e H K h->iB n e a->Fr (dstsOf ops) e0 e->Q .normal a h):∀ (d:Nat) (listed:Array Bool) (a:Act) (w:World) (D:List Nat) (e:Env) (m:Made) (f:Nat),left listed<=d->ec I w ->
   sK P n ops e0 listed a w.heap D e m->gP P n ops f D e m k H K w.heap->wpAny P .any ops (Xy I Q) d listed a w:=by
 have y:∀ (listed:Array Bool) (a:Act) (w:World),ec I w->Region.ready .any ops listed=[]->∀ f D e m,sK P n ops e0 listed a w.heap D e m->gP P n ops f D e m k H K w.heap->Xy I Q .normal a w:=by
  intro listed a w u t f D e m b p;have r:∀ i∈D,listed[i]?=some true\/listed[i]?=some false:=by
   intro i hi;obtain ⟨o,ho⟩:=b.dD i hi
   by_cases h1:listed[i]?=some true
   ·exact .inl h1
   ·exact .inr (b.xF ho h1)
  have g:∀ i∈D,listed[i]?=some true:=by
   intro i hi;rcases r i hi with h1 | h1
   ·exact h1
   ·obtain ⟨j,z,h2,O⟩:=uM listed b.closed b.dD ⟨i,hi,h1⟩ r;obtain ⟨o,ho⟩:=b.dD j z
    have:j∈Region.ready .any ops listed:=(qa b.wM).2 ⟨o,ho,h2,O o ho⟩
    rw [t] at this; cases this
  have B:∀ c,dt P D c (idx 0 ops.toList)=[]:=by
   intro c;cases C:dt P D c (idx 0 ops.toList) with
   | nil=>rfl
   | cons q qs =>
    obtain ⟨i,o⟩:=q;have R:(i,o)∈dt P D c (idx 0 ops.toList):=by rw [C]; simp
    obtain ⟨E,F,_⟩:=gf.1 R;have ho:=jt.1 E;obtain ⟨G,S⟩:=vA.1 F
    have:i∈Region.ready .any ops listed:=(qa b.wM).2 ⟨o,ho,b.xF ho (fun U=>G (b.lD i U)),fun j z=>g j (S j z)⟩
    rw [t] at this; cases this
  cases f with
  | zero=>exact p.elim
  | succ f =>
   unfold gP at p;simp only [B] at p;refine ⟨u,hk e a w.heap p ⟨b.size,b.defers,fun s v hv=>b.WC s v hv ?_⟩ b.fr⟩;intro j z o ho x;rw [g j z] at x; cases x
 intro d
 induction d with
 | zero =>
  intro listed a w D e m f hl u b p;have t:Region.ready .any ops listed=[]:=by
   cases C:Region.ready .any ops listed with
   | nil=>rfl
   | cons i l =>
    have:i∈Region.ready .any ops listed:=by rw [C]; simp
    obtain ⟨o,ho,x,_⟩:=(qa b.wM).1 this;exact (Mh ad i x).elim
  exact ⟨t,y listed a w u t f D e m b p⟩
 | succ d V =>
  intro listed a w D e m f hl u b p;refine ⟨fun t=>y listed a w u t f D e m b p,fun i hi=>?_⟩;obtain ⟨o,ho,x,_⟩:=(qa b.wM).1 hi;refine RA A hi u ?_ f D e m b p;intro a' w' W X Y J M Z N;exact V _ a' w' W X Y J (by have:=FC x; omega) M Z N
def Yi (j:P.follows .mixedOrders=true):Yg P n:=by
 intro id ops e k L K Q a h hk d g q w f o;subst o;unfold w9 at d;cases b:eQ P n ops with
 | false=>simp only [b] at d; exact d.elim
 | true =>
  simp only [b] at d;have c:∀ (l:Array Bool) (i:Nat),l=Array.replicate ops.size false->l[i]?≠some true:=by
   intro l i hl p;subst hl;simp [Array.getElem?_replicate] at p
  refine wp_region_any j (Nc (e0:=e) b hk ops.size _ a { w with drawn:=w.drawn+1 } [] e [] (ops.size+1) ?_ ⟨f.os,f.tape,f.output⟩ ?_ d)
  ·unfold left;refine ZK (ao9 _ _) ?_
   simp
  ·exact ⟨aj,g.size,g.defers,fun i hi=>(c _ i rfl hi).elim,fun i hi=>(by cases hi),trivial,fun s v hv _=>g.get s v hv,fun i hi=>(by cases hi),Fr.refl _ _⟩
end draws
end Go.Sx
