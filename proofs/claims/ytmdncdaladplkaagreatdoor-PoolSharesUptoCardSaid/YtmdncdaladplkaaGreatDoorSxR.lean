/- Part of the framework. No condition. -/
import Derived.Test.YtmdncdaladplkaaGreatDoorSxM
import Derived.Orders
set_option linter.all false
set_option maxHeartbeats 4000000
namespace Go.Sx
section congr
variable {P:Program}
variable {H O:Env}
def bJ {x:Operand} (h:ev H x=ev O x) (k:Xab->T):ct H x k=ct O x k:=by
 unfold ct; rw [h]
theorem eY {e a:Env}:∀ {xs:List Operand},(∀ x∈xs,ev e x=ev a x)->∀ (k:List Xab->T),iT e xs k=iT a xs k
 | [],_,k=>rfl
 | x::xs,h,k=>by
  simp only [iT];rw [bJ (h x aj)]
  congr 1
  funext v
  exact eY (fun x b=>h x (by simp [b])) _
def yc {o:Oper} (h:∀ x∈o.op.operands,ev H x=ev O x) (kk:Xab->T):vJ P o H kk=vJ P o O kk:=by
 obtain ⟨dst,op,g,pos,after,guard⟩:=o;cases op <;> simp only [Op.operands] at h <;> simp only [vJ]
 case pick c x y =>
  rw [bJ (h c aj)]
  congr 1; funext v
  cases v <;> first | rfl | (rw [bJ (h x aj),bJ (h y aj)])
 case build t ps=>rw [eY (fun x a=>h x (by simpa using a))]
 case buildSlice t l ps=>rw [eY (fun x a=>h x (by simpa using a))]
 case store t x y =>
  rw [bJ (h x aj)]
  congr 1; funext v
  rw [bJ (h y aj)]
 case binOp op t x y i =>
  rw [bJ (h x aj)]
  congr 1; funext v
  rw [bJ (h y aj)]
 case makeFunc fn j k =>
  rw [eY (fun x a=>h x (by simp at a ⊢; exact .inl a))]
  congr 1; funext v
  rw [eY (fun x a=>h x (by simp at a ⊢; exact .inr a))]
 case makeMap t r=>cases r <;> rfl
 case makeSlice t x y =>
  rw [bJ (h x aj)]
  congr 1; funext v
  rw [bJ (h y aj)]
 case slice t x lo hi n =>
  rw [bJ (h x aj)]
  congr 1; funext v
  rw [eY (fun y d=>h y (by
   simp only [List.mem_append,Option.mem_toList] at d;simp only [Array.mem_append,Array.mem_singleton,Option.mem_toArray];rcases d with (d | d) | d
   ·exact .inl (.inl (.inr d))
   ·exact .inl (.inr d)
   ·exact .inr d))]
 case indexAddr t x y =>
  rw [bJ (h x aj)]
  congr 1; funext v
  rw [bJ (h y aj)]
 case index t x y =>
  rw [bJ (h x aj)]
  congr 1; funext v
  rw [bJ (h y aj)]
 case lookup t x y ok =>
  rw [bJ (h x aj)]
  congr 1; funext v
  rw [bJ (h y aj)]
 case mapUpdate t x y z =>
  rw [bJ (h x aj)]
  congr 1; funext v
  rw [bJ (h y aj)]
  congr 1; funext v
  rw [bJ (h z aj)]
 case insert t x y z =>
  rw [bJ (h x aj)]
  congr 1; funext v
  rw [bJ (h y aj)]
  congr 1; funext v
  rw [bJ (h z aj)]
 case mapEntry t x y =>
  rw [bJ (h x aj)]
  congr 1; funext v
  rw [bJ (h y aj)]
 case entryStore t x y z =>
  rw [bJ (h x aj)]
  congr 1; funext v
  rw [bJ (h y aj)]
  congr 1; funext v
  rw [bJ (h z aj)]
 case call c =>
  cases hc:c.callee with
  | builtin b =>
   simp only [hc];rw [eY (fun x a=>h x (by simp [Call.operands,hc]; simpa using a))]
  | invoke r m=>simp only [hc]
  | value f =>
   simp only [hc];cases GJ f
   ·simp only;rw [bJ (h f (by simp [Call.operands,hc]))]
    congr 1; funext v
    rw [eY (xs:=c.args.toList) (fun x a=>h x (by simp [Call.operands,hc]; right; simpa using a))]
   ·simp only;rw [bJ (h f (by simp [Call.operands,hc]))]
    congr 1; funext v
    rw [eY (xs:=c.args.toList) (fun x a=>h x (by simp [Call.operands,hc]; right; simpa using a))]
 all_goals first | rfl | exact bJ (h _ aj) _
end congr
section pures
variable {P:Program} {L:Lp} {K:Xab->Hp->Prop} {h:Hp}
def ec (F:(Xab->T)->T) (d:Xab->T) (L:Lp) (K:Xab->Hp->Prop) (h:Hp):Prop :=
 ∃ v,d v L K h/\∀ (a:Xab->T) b c h',a v b c h'->F a b c h'
variable {O:Env}
def dG {x:Operand} {F:(Xab->T)->Xab->T} {a:Xab->T} (d:∀ v,F a v L K h->ec (fun a=>F a v) a L K h)
  (ht:ct O x (F a) L K h):ec (fun a=>ct O x (F a)) a L K h:=by
 obtain ⟨v,hv,ht⟩:=bH ht;obtain ⟨u,hk,b⟩:=d v ht;refine ⟨u,hk,fun c f g h' i=>?_⟩;unfold ct;simp only [hv];exact b c f g h' i
theorem pG {e:Env}:∀ {xs:List Operand} {F:(Xab->T)->List Xab->T} {a:Xab->T},(∀ v,F a v L K h->ec (fun a=>F a v) a L K h) ->
  iT e xs (F a) L K h->ec (fun a=>iT e xs (F a)) a L K h
 | [],F,a,b,ht=>b [] ht
 | x::xs,F,a,b,ht=>by
  refine dG (F:=fun a v=>iT e xs fun l=>F a (v::l)) ?_ ht;intro v ht;exact pG (F:=fun a l=>F a (v::l)) (fun l hl=>b (v::l) hl) ht
def cX {a:Xab->T} {v:Xab} (ht:a v L K h):ec (fun a=>a v) a L K h:=⟨v,ht,fun _ _ _ _ b=>b⟩
def qi {p:Prop} {F:(Xab->T)->T} {a:Xab->T} (d:F a L K h->ec F a L K h) (ht:T.need p (F a) L K h):ec (fun a=>T.need p (F a)) a L K h:=by
 obtain ⟨e,ht⟩:=ht;obtain ⟨v,hk,b⟩:=d ht;exact ⟨v,hk,fun c f g h' i=>⟨e,b c f g h' i⟩⟩
def Cb {q:Xac} {F:(Xab->T)->Xax->T} {b:Xab->T} (e:∀ a,F b a L K h->ec (fun b=>F b a) b L K h) (ht:T.bf q (F b) L K h) :
  ec (fun b=>T.bf q (F b)) b L K h:=by
 obtain ⟨a,rfl,ht⟩:=gM ht;obtain ⟨v,hk,c⟩:=e a ht;exact ⟨v,hk,fun d f g h' i=>c d f g h' i⟩
variable {U:Bool}
def tp {F G:(Xab->T)->T} {a:Xab->T} (c:F a L K h->ec F a L K h) (d:G a L K h->ec G a L K h) (ht:cond U (F a) (G a) L K h) :
  ec (fun a=>cond U (F a) (G a)) a L K h:=by
 cases U
 ·exact d ht
 ·exact c ht
def wF {op:BinOp} {a:Xab->T} (ht:asked op U a T.fail L K h):ec (fun a=>asked op U a T.fail) a L K h:=by
 cases op <;> first | exact cX ht | exact ht.elim
variable {V:IntKind} {Y Z:Int}
def T5 {op:BinOp} {a:Xab->T} (ht:JF op V Y Z a L K h):ec (fun a=>JF op V Y Z a) a L K h:=by
 cases op <;> first
  | exact ht.elim
  | exact cX ht
  | exact qi (F:=fun a=>a _) cX ht
def LU {op:BinOp} {a:Xab->T} (ht:A8 op V Y Z a L K h):ec (fun a=>A8 op V Y Z a) a L K h:=by
 cases op <;> first
  | exact ht.elim
  | exact qi (F:=fun a=>a _) cX ht
def Uo {op:BinOp} {m n:Xaa} {a:Xab->T} (ht:Jy op m n a L K h):ec (fun a=>Jy op m n a) a L K h:=by
 cases op <;> first
  | exact ht.elim
  | exact cX ht
  | exact qi (F:=fun a=>a _) cX ht
variable {H:TypeId}
def OJ {op:BinOp} {a b:Xab} {f:Xab->T} (ht:ug P op H a b f L K h):ec (fun f=>ug P op H a b f) f L K h:=by
 unfold ug at ht ⊢;cases a <;> cases b <;> first | exact ht.elim | skip
 case bool.bool m n =>
  generalize P.underlying H=e at ht ⊢;cases e with
  | none=>exact ht.elim
  | some d=>cases d <;> first | exact ht.elim | exact wF ht
 case int.int k m k' n =>
  simp only at ht ⊢;cases g:nD op with
  | true=>simp only [g] at ht ⊢; exact LU ht
  | false =>
   simp only [g] at ht ⊢
   by_cases hk:k=k'
   ·subst hk;simp only [decide_true] at ht ⊢;exact T5 ht
   ·simp only [hk,decide_false] at ht;exact ht.elim
 case string.string m n=>exact Uo ht
 case pointer.pointer p q =>
  generalize P.underlying H=e at ht ⊢;cases e with
  | none=>exact ht.elim
  | some d=>cases d <;> first | exact ht.elim | exact wF ht
 case slice.slice p l c q l' c' =>
  generalize P.underlying H=e at ht ⊢;cases e with
  | none=>exact ht.elim
  | some d=>cases d <;> first | exact ht.elim | exact wF ht
 case map.map p q =>
  generalize P.underlying H=e at ht ⊢;cases e with
  | none=>exact ht.elim
  | some d=>cases d <;> first | exact ht.elim | exact wF ht
def W5 {op:UnOp} {a:Xab} {b:Xab->T} (ht:Xw op a b L K h):ec (fun b=>Xw op a b) b L K h:=by
 cases op <;> cases a <;> first | exact ht.elim | exact cX ht
def Ns {cs : List Xab} {off : Nat} {a : Xab -> T} (ht : uk P H cs off a L K h) : ec (fun a => uk P H cs off a) a L K h := by
  unfold uk at ht ⊢;generalize P.underlying H = b at ht ⊢;cases b with
  | none => exact ht.elim
  | some d =>
    cases d <;> first
      | exact cX ht
      | (cases hv : cs[off]? with
         | none => simp only [hv] at ht; exact ht.elim
         | some v => simp only [hv] at ht ⊢; exact cX ht)
def L0 {a:Xab} {lo hi:Option Xab} {b:Xab->T} (c:(match P.underlying H with
  | some .string=>true
  | some (.slice _)=>true
  | _=>false)=true) (ht:jk P H a lo hi none b L K h):ec (fun b=>jk P H a lo hi none b) b L K h:=by
 unfold jk at ht ⊢;cases hint:eU lo && eU hi && eU none with
 | false=>simp only [hint] at ht; exact ht.elim
 | true =>
  simp only [hint] at ht ⊢;generalize P.underlying H=f at ht c ⊢;cases f with
  | none=>cases c
  | some d =>
   cases d <;> simp only [Bool.false_eq_true] at c
   case string=>cases a <;> first | exact ht.elim | exact qi (F:=fun b=>b _) cX ht
   case slice g =>
    cases a <;> first | exact ht.elim | skip
    simp only at ht ⊢;cases e:oo P g with
    | false=>simp only [e] at ht; exact ht.elim
    | true=>simp only [e] at ht ⊢; exact qi (F:=fun b=>b _) cX ht
theorem tK {agg:Nat->Option Bool}:∀ {ps:List (Nat × Xab)} {F:(Xab->T)->List (Nat × List Xab)->T} {a:Xab->T},(∀ r,F a r L K h->ec (fun a=>F a r) a L K h) ->
  fI agg ps (F a) L K h->ec (fun a=>fI agg ps (F a)) a L K h
 | [],F,a,c,ht=>c [] ht
 | (i,v)::l,F,a,c,ht=>by
  simp only [fI] at ht ⊢;cases e:agg i with
  | none=>rw [e] at ht; exact ht.elim
  | some b =>
   rw [e] at ht;cases b with
   | true=>exact tp (F:=fun a=>fI agg l fun r=>F a ((i,j4 v)::r)) (G:=fun _=>T.fail) (fun ht=>tK (F:=fun a r=>F a ((i,j4 v)::r)) (fun r d=>c _ d) ht) (fun ht=>ht.elim) ht
   | false=>exact tp (F:=fun _=>T.fail) (G:=fun a=>fI agg l fun r=>F a ((i,[v])::r)) (fun ht=>ht.elim) (fun ht=>tK (F:=fun a r=>F a ((i,[v])::r)) (fun r d=>c _ d) ht) ht
def PJ {o:Oper} {g:Xab->T} (j:sY P o=true) (ht:vJ P o O g L K h):ec (fun g=>vJ P o O g) g L K h:=by
 obtain ⟨dst,op,C,pos,after,guard⟩:=o;cases op <;> simp only [sY,Bool.false_eq_true] at j <;> simp only [vJ] at ht ⊢
 case move x=>exact dG (F:=fun g v=>g v) (fun v hv=>cX hv) ht
 case pick c x y =>
  refine dG (F:=fun g c=>match c with
   | .bool b'=>cond b' (ct O x g) (ct O y g)
   | _=>T.fail) (fun v hv=>?_) ht
  cases v <;> first | exact hv.elim | skip
  exact tp (F:=fun g=>ct O x g) (G:=fun g=>ct O y g) (fun ht=>dG (F:=fun g v=>g v) (fun v hv=>cX hv) ht) (fun ht=>dG (F:=fun g v=>g v) (fun v hv=>cX hv) ht) hv
 case build t ps =>
  refine pG (F:=fun g n=>match P.underlying t,(P.info? t).bind (·.zero) with
   | some (.struct q),some z =>
    bif !(q.all fun f=>oo P f.type) then T.fail else fI (fun i=>(q[i]?).bind fun f=>cH P f.type) ((ps.toList.map (·.1)).zip n) fun u=>match fQ (((q.map fun f=>(f.offset,P.cellsOf f.type)))[·]?) z.cells.toList u with
    | some cs=>g (.agg cs.toArray)
    | none=>T.fail
   | some (.array _ B),some z =>
    bif !oo P B then T.fail else fI (fun _=>cH P B) ((ps.toList.map (·.1)).zip n) fun u=>match fQ (fun i=>some (i*P.cellsOf B,P.cellsOf B)) z.cells.toList u with
    | some cs=>g (.agg cs.toArray)
    | none=>T.fail
   | _,_=>T.fail) (fun n hv=>?_) ht
  generalize P.underlying t=A at hv ⊢;generalize (P.info? t).bind (·.zero)=z at hv ⊢;cases A with
  | none=>exact hv.elim
  | some d =>
   cases d <;> first | exact hv.elim | skip
   case array len B =>
    cases z with
    | none=>exact hv.elim
    | some z =>
     refine tp (F:=fun _=>T.fail) (G:=fun g=>fI (fun _=>cH P B) ((ps.toList.map (·.1)).zip n) fun u=>match fQ (fun i=>some (i*P.cellsOf B,P.cellsOf B)) z.cells.toList u with
      | some cs=>g (.agg cs.toArray)
      | none=>T.fail) (fun ht=>ht.elim) (fun ht=>?_) hv
     refine tK (F:=fun g u=>match fQ (fun i=>some (i*P.cellsOf B,P.cellsOf B)) z.cells.toList u with
      | some cs=>g (.agg cs.toArray)
      | none=>T.fail) (fun u ht=>?_) ht
     cases D:fQ (fun i=>some (i*P.cellsOf B,P.cellsOf B)) z.cells.toList u with
     | none=>simp only [D] at ht; exact ht.elim
     | some cs=>simp only [D] at ht ⊢; exact cX ht
   case struct q =>
    cases z with
    | none=>exact hv.elim
    | some z =>
     refine tp (F:=fun _=>T.fail) (G:=fun g=>fI (fun i=>(q[i]?).bind fun f=>cH P f.type) ((ps.toList.map (·.1)).zip n) fun u=>match fQ (((q.map fun f=>(f.offset,P.cellsOf f.type)))[·]?) z.cells.toList u with
      | some cs=>g (.agg cs.toArray)
      | none=>T.fail) (fun ht=>ht.elim) (fun ht=>?_) hv
     refine tK (F:=fun g u=>match fQ (((q.map fun f=>(f.offset,P.cellsOf f.type)))[·]?) z.cells.toList u with
      | some cs=>g (.agg cs.toArray)
      | none=>T.fail) (fun u ht=>?_) ht
     cases D:fQ (((q.map fun f=>(f.offset,P.cellsOf f.type)))[·]?) z.cells.toList u with
     | none=>simp only [D] at ht; exact ht.elim
     | some cs=>simp only [D] at ht ⊢; exact cX ht
 case nilCheck x =>
  refine dG (F:=fun g v=>match v with
   | .pointer p=>T.bf p fun a=>g (.pointer (some a))
   | .func (.func f) J E=>g (.func (.func f) J E)
   | .iface t v=>g (.iface t v)
   | _=>T.fail) (fun v hv=>?_) ht
  cases v with
  | pointer p=>exact Cb (F:=fun g a=>g (.pointer (some a))) (fun a H=>cX H) hv
  | func fn J E=>cases fn <;> first | exact hv.elim | exact cX hv
  | iface t w=>exact cX hv
  | _=>exact hv.elim
 case binOp op t x y R =>
  refine dG (F:=fun g a=>ct O y fun b=>E2 P op t x y a b g) (fun a H=>?_) ht;refine dG (F:=fun g b=>E2 P op t x y a b g) (fun b M=>?_) H;unfold E2 at M ⊢;simp only [j] at M ⊢;exact OJ M
 case unOp op t x=>exact dG (F:=fun g a=>Xw op a g) (fun v hv=>W5 hv) ht
 case convert s d x =>
  refine dG (F:=fun g a=>yT P s d a g) (fun v hv=>?_) ht;unfold yT at hv ⊢;generalize P.underlying s=us at hv j ⊢;generalize P.underlying d=A at hv j ⊢;cases us with
  | none=>cases j
  | some us =>
   cases A with
   | none=>cases us <;> cases j
   | some A =>
    cases us <;> first | (cases A <;> cases j; done) | skip
    case int k=>cases A <;> first | (cases j; done) | (cases v <;> first | exact hv.elim | exact cX hv)
    case string=>cases A <;> first | (cases j; done) | (cases v <;> first | exact hv.elim | exact cX hv)
 case makeInterface t x =>
  refine dG (F:=fun g a=>match P.underlying t with
   | some (.interface _)=>T.fail
   | some _=>g (.iface t a)
   | none=>T.fail) (fun v hv=>?_) ht
  generalize P.underlying t=A at hv ⊢;cases A with
  | none=>exact hv.elim
  | some d=>cases d <;> first | exact hv.elim | exact cX hv
 case makeFunc fn J E =>
  refine pG (F:=fun g J=>iT O E.toList fun E=>g (.func fn J.toArray E.toArray)) (fun J hv=>?_) ht;exact pG (F:=fun g E=>g (.func fn J.toArray E.toArray)) (fun E hv=>cX hv) hv
 case slice t x lo hi N =>
  cases N with
  | some m=>cases j
  | none =>
  simp only at j;refine dG (F:=fun g a=>iT O (lo.toList++hi.toList++(none:Option Operand).toList) fun n=>XB P t lo hi none a n g) (fun a H=>?_) ht;refine pG (F:=fun g n=>XB P t lo hi none a n g) (fun n hv=>?_) H;unfold XB at hv ⊢;cases lo <;> cases hi <;> rcases n with _ | ⟨l,_ | ⟨S,_ | ⟨U,n⟩⟩⟩ <;> first
   | exact hv.elim
   | exact L0 j hv
 case fieldAddr s x f =>
  refine dG (F:=fun g v=>match v,P.underlying s with
   | .pointer p,some (.struct q)=>match q[f]? with
    | some I=>match P.cellsOf I.type with
     | 0=>T.fail
     | _+1=>T.bf p fun a=>g (.pointer (some (a.add I.offset)))
    | none=>T.fail
   | _,_=>T.fail) (fun v hv=>?_) ht
  generalize P.underlying s=us at hv ⊢;cases v <;> first | exact hv.elim | skip
  cases us with
  | none=>exact hv.elim
  | some us =>
   cases us <;> first | exact hv.elim | skip
   rename_i q;simp only at hv ⊢;cases D:q[f]? with
   | none=>simp only [D] at hv; exact hv.elim
   | some I =>
    simp only [D] at hv ⊢;cases hc:P.cellsOf I.type with
    | zero=>simp only [hc] at hv; exact hv.elim
    | succ m=>simp only [hc] at hv ⊢; exact Cb (F:=fun g a=>g (.pointer (some (a.add I.offset)))) (fun a H=>cX H) hv
 case field s x f =>
  refine dG (F:=fun g v=>match v,P.underlying s with
   | .agg cs,some (.struct q)=>match q[f]? with
    | some I=>uk P I.type cs.toList I.offset g
    | none=>T.fail
   | _,_=>T.fail) (fun v hv=>?_) ht
  generalize P.underlying s=us at hv ⊢;cases v <;> first | exact hv.elim | skip
  cases us with
  | none=>exact hv.elim
  | some us =>
   cases us <;> first | exact hv.elim | skip
   rename_i q;simp only at hv ⊢;cases D:q[f]? with
   | none=>simp only [D] at hv; exact hv.elim
   | some I=>simp only [D] at hv ⊢; exact Ns hv
 case indexAddr t x i =>
  refine dG (F:=fun g v=>ct O i fun i=>zt P t v i g) (fun v hv=>?_) ht;refine dG (F:=fun g i=>zt P t v i g) (fun i hi=>?_) hv;unfold zt at hi ⊢;generalize P.underlying t=us at hi ⊢;cases v <;> cases i <;> first | exact hi.elim | skip
  all_goals
   cases us with
   | none=>exact hi.elim
   | some us =>
    cases us <;> first | exact hi.elim | skip
    refine tp (F:=fun _=>T.fail) (fun ht=>ht.elim) (fun ht=>?_) hi;exact qi (F:=fun g=>T.bf _ fun a=>g (.pointer (some (a.add (_*P.cellsOf _))))) (Cb (F:=fun g a=>g (.pointer (some (a.add (_*P.cellsOf _))))) (fun a H=>cX H)) ht
 case index t x i =>
  refine dG (F:=fun g v=>ct O i fun i=>Iy P t v i g) (fun v hv=>?_) ht;refine dG (F:=fun g i=>Iy P t v i g) (fun i hi=>?_) hv;unfold Iy at hi ⊢;generalize P.underlying t=us at hi j ⊢;cases us with
  | none=>cases j
  | some us =>
   cases us <;> simp only [Bool.false_eq_true] at j;cases v <;> cases i <;> first | exact hi.elim | exact qi (F:=fun g=>g _) cX hi
 case extract x i =>
  refine dG (F:=fun g v=>match v with
   | .tuple n=>match n.toList[i]? with
    | some v=>g v
    | none=>T.fail
   | _=>T.fail) (fun v hv=>?_) ht
  cases v <;> first | exact hv.elim | skip
  rename_i n;simp only at hv ⊢;cases hi:n.toList[i]? with
  | none=>simp only [hi] at hv; exact hv.elim
  | some w=>simp only [hi] at hv ⊢; exact cX hv
 case call c =>
  cases hc:c.callee with
  | value f=>simp only [hc] at j; cases j
  | invoke r m=>simp only [hc] at j; cases j
  | builtin b =>
   simp only [hc] at j ht ⊢;refine pG (F:=fun g n=>sM P b c C n g) (fun n hv=>?_) ht;cases b <;> simp only [Bool.false_eq_true] at j
   case len =>
    have hv:AT P c C n g L K h:=hv;show ec (fun g=>AT P c C n g) g L K h;unfold AT at hv ⊢;generalize (c.argTypes[0]?).bind P.underlying=A at hv j ⊢;cases A with
    | none=>cases j
    | some d =>
     cases d <;> simp only [Bool.false_eq_true] at j
     all_goals
      rcases n with _ | ⟨v,_ | ⟨Q,l⟩⟩ <;> first | exact hv.elim | skip
      all_goals cases v <;> first | exact hv.elim | exact cX hv
   case cap =>
    have hv:L4 P c n g L K h:=hv;show ec (fun g=>L4 P c n g) g L K h;unfold L4 at hv ⊢;generalize (c.argTypes[0]?).bind P.underlying=A at hv j ⊢;cases A with
    | none=>cases j
    | some d =>
     cases d <;> simp only [Bool.false_eq_true] at j
     all_goals
      rcases n with _ | ⟨v,_ | ⟨Q,l⟩⟩ <;> first | exact hv.elim | skip
      all_goals cases v <;> first | exact hv.elim | exact cX hv
end pures
section draws
variable {P:Program} {n:Nd} {ops:Array Oper}
theorem ij {x:Nat}:∀ {l:List Nat},tV x l=true↔x∈l
 | []=>by simp [tV]
 | y::l=>by
  simp only [tV,Bool.or_eq_true,List.mem_cons,ij (l:=l)];constructor
  ·rintro (h | h)
   ·exact .inl (au9 h)
   ·exact .inr h
  ·rintro (h | h)
   ·subst h; exact .inl aj
   ·exact .inr h
theorem Kf {p:Nat × Oper}:∀ {l:List Oper} {k:Nat},p∈idx k l↔∃ j,l[j]?=some p.2/\p.1=k+j
 | [],k=>by simp [idx]
 | o::l,k=>by
  simp only [idx,List.mem_cons,Kf (l:=l)];constructor
  ·rintro (h | ⟨j,h1,h2⟩)
   ·subst h; exact ⟨0,aj,aj⟩
   ·exact ⟨j+1,by simpa using h1,ad⟩
  ·rintro ⟨j,h1,h2⟩;cases j with
   | zero=>left; simp at h1; subst h1; obtain ⟨a,b⟩:=p; simp at h2; subst h2; rfl
   | succ j=>right; exact ⟨j,by simpa using h1,ad⟩
def jh {i:Nat} {o:Oper}:(i,o)∈idx 0 ops.toList↔ops[i]?=some o:=by
 rw [Kf];constructor
 ·rintro ⟨j,h1,h2⟩;simp at h2; subst h2;simpa using h1
 ·intro h; exact ⟨i,by simpa using h,aj⟩
def QJ (b:eN P n ops=true) {i:Nat} {x:Oper} (hi:ops[i]?=some x) {d:Nat} (c:x.dst=some d):d<n:=by
 unfold eN at b;rw [bm9] at b;have h1:=bn9.1 b.1 (i,x) (jh.2 hi);simp only [c] at h1;simpa [Nat.blt_eq] using h1
def IE (b:eN P n ops=true) {i:Nat} {x:Oper} (hi:ops[i]?=some x) {d:Nat} (c:x.dst=some d) (hc:calm P x=true):d∉looks ops x:=by
 unfold eN at b;rw [bm9] at b;have h1:=bn9.1 (bn9.1 b.2 (i,x) (jh.2 hi)) (i,x) (jh.2 hi);unfold JV at h1;have f:Nat.beq i i=true:=aj
 simp only [f,c,hc,Bool.not_true,Bool.false_or,Bool.not_eq_true'] at h1;intro hl;rw [ij.2 hl] at h1; cases h1
def pf (b:eN P n ops=true) {i j:Nat} {x y:Oper} (hi:ops[i]?=some x) (k:ops[j]?=some y) (c:i≠j) :
  (∀ d,y.dst=some d->d∈looks ops x->j∈waits x\/(i∈waits y/\calm P y=false))/\(∀ d,x.dst=some d->calm P x=true->y.dst≠some d):=by
 unfold eN at b;rw [bm9] at b;have h1:=bn9.1 (bn9.1 b.2 (i,x) (jh.2 hi)) (j,y) (jh.2 k);unfold JV at h1;have f:Nat.beq i j=false:=by
  cases f:Nat.beq i j
  ·rfl
  ·exact (c (au9 f)).elim
 simp only [f,Bool.and_eq_true] at h1;refine ⟨fun d g hl=>?_,fun d g hc l=>?_⟩
 ·have h2:=h1.1;simp only [g,Bool.or_eq_true,Bool.and_eq_true,Bool.not_eq_true'] at h2;rcases h2 with (h2 | h2) | ⟨h2,o⟩
  ·have:=ij.2 hl; rw [this] at h2; cases h2
  ·exact .inl (ij.1 h2)
  ·exact .inr ⟨ij.1 h2,o⟩
 ·have h2:=h1.2;simp only [g,hc,l,nv] at h2;simp at h2
def B8 (ops:Array Oper) (o:Oper) (e:Env) (b:Bool):Prop :=
 match o.guard with
 | none=>b=true
 | some (j,w)=>match (ops[j]?).bind (·.dst) with
  | none=>b=false
  | some d=>(∃ t,da e d=some (.bool t)/\b=(t==w))\/(∃ c,da e d=some (.tuple c)/\b=false)
def ze {o:Oper} {j d:Nat} {w:Bool} (b:o.guard=some (j,w)) (c:(ops[j]?).bind (·.dst)=some d):d∈looks ops o:=by
 unfold looks;rw [b];simp only [c];exact br9 _ aj
def B8.wanted {o:Oper} {e:Env} {b:Bool} (h:B8 ops o e b) {tm:Array Xab} (ht:∀ s∈looks ops o,∀ v,da e s=some v->tm.getD s undef=v) :
  Region.wanted o (yielded ops tm)=b:=by
 unfold B8 at h;cases f:o.guard with
 | none=>simp only [f] at h; subst h; exact yR f
 | some p =>
  obtain ⟨j,w⟩:=p;simp only [f] at h;rw [y7 f];cases c:(ops[j]?).bind (·.dst) with
  | none=>simp only [c] at h; subst h; simp [yielded,c]
  | some d =>
   simp only [c] at h;have hl:=ze f c;rcases h with ⟨t,h1,rfl⟩ | ⟨g,h1,rfl⟩
   ·rw [wG c (ht d hl _ h1)]; cases t <;> cases w <;> rfl
   ·rw [uj c (ht d hl _ h1)]; rfl
def B8.congr {o:Oper} {e g:Env} {b:Bool} (h:B8 ops o e b) (i:∀ s∈looks ops o,da g s=da e s):B8 ops o g b:=by
 unfold B8 at h ⊢;cases c:o.guard with
 | none=>simp only [c] at h ⊢; exact h
 | some p =>
  obtain ⟨j,w⟩:=p;simp only [c] at h ⊢;cases f:(ops[j]?).bind (·.dst) with
  | none=>simp only [f] at h ⊢; exact h
  | some d=>simp only [f] at h ⊢; rw [i d (ze c f)]; exact h
def tz {e:Env} {d:Nat} {v:Xab} (h:da e d=some v) (s:Nat):da (eC n e (some d) v) s=da e s:=by
 simp only [eC];cases Nat.blt d n with
 | false=>rfl
 | true =>
  simp only [cond_true,dN]
  by_cases b:d=s
  ·subst b; rw [ag9 rfl,h]
  ·rw [ac9 b]
variable {H:Lp}
def AP {o:Oper} {e:Env} {c no:Env->T} {K:Xab->Hp->Prop} {h:Hp} (ht:mn n ops o e c no H K h) :
  ∃ f b,(∀ s,da f s=da e s)/\B8 ops o e b/\((b=true/\c f H K h)\/(b=false/\no f H K h)):=by
 unfold mn guardOf at ht;unfold B8;cases g:o.guard with
 | none=>simp only [g] at ht ⊢; exact ⟨e,true,fun _=>rfl,rfl,.inl ⟨rfl,ht⟩⟩
 | some p =>
  obtain ⟨j,w⟩:=p;simp only [g] at ht ⊢;cases i:(ops[j]?).bind (·.dst) with
  | none=>simp only [i] at ht ⊢; exact ⟨e,false,fun _=>rfl,rfl,.inr ⟨rfl,ht⟩⟩
  | some d =>
   simp only [i] at ht ⊢;cases hv:da e d with
   | none=>simp only [hv] at ht; exact ht.elim
   | some v =>
    cases v <;> simp only [hv] at ht <;> first | exact ht.elim | skip
    case tuple l=>exact ⟨e,false,fun _=>rfl,.inr ⟨l,rfl,rfl⟩,.inr ⟨rfl,ht⟩⟩
    case bool b =>
     cases w <;> simp only at ht <;> rcases gk ht with ⟨k,ht⟩ | ⟨k,ht⟩ <;> subst k
     ·exact ⟨_,false,tz hv,.inl ⟨true,rfl,rfl⟩,.inr ⟨rfl,ht⟩⟩
     ·exact ⟨_,true,tz hv,.inl ⟨false,rfl,rfl⟩,.inl ⟨rfl,ht⟩⟩
     ·exact ⟨_,true,tz hv,.inl ⟨true,rfl,rfl⟩,.inl ⟨rfl,ht⟩⟩
     ·exact ⟨_,false,tz hv,.inl ⟨false,rfl,rfl⟩,.inr ⟨rfl,ht⟩⟩
def only (e:Env) (l:List Nat):Env:=l.filterMap fun s=>(da e s).map fun v=>(s,some v)
theorem tF {e:Env}:∀ {l:List Nat} {s:Nat},da (only e l) s=if s∈l then da e s else none
 | [],s=>by simp [only,da]
 | t::l,s=>by
  unfold only;rw [List.filterMap_cons];cases hv:da e t with
  | none =>
   simp only [Option.map_none];rw [show List.filterMap (fun s=>(da e s).map fun v=>(s,some v)) l=only e l from rfl,tF]
   by_cases h1:s∈l
   ·simp [h1]
   ·by_cases h2:s=t
    ·subst h2; simp [h1,hv]
    ·simp [h1,h2]
  | some v =>
   simp only [Option.map_some];rw [dN,show List.filterMap (fun s=>(da e s).map fun v=>(s,some v)) l=only e l from rfl,tF]
   by_cases h1:t=s
   ·subst h1; simp [hv]
   ·have h2:¬ s=t:=fun b=>h1 b.symm
    simp [h1,h2]
def yH {o:Oper} {t:Nat} (h:Operand.tmp t∈o.op.operands):t∈looks ops o:=by
 unfold looks;refine bh9 _ (dw9.2 ⟨.tmp t,by simpa using h,rfl⟩)
def Gu {o:Oper} {e:Env} {kk:Xab->T}:vJ P o (only e (looks ops o)) kk=vJ P o e kk:=by
 refine yc (fun x b=>?_) kk;cases x <;> try rfl
 rename_i t;simp only [ev];rw [tF,ag9 (yH b)]
def FW {e:Env} {a:Act} {l:List Nat} (b:a.tmps.size=n.n) (c:a.defers=n.d) (h:∀ s∈l,∀ v,da e s=some v->a.tmps.getD s undef=v):ix n (only e l) a:=by
 refine ⟨b,c,fun s v hv=>?_⟩;rw [tF] at hv;split at hv
 ·rename_i f; exact h s f v hv
 ·cases hv
def QB (P : Program) (n : Nd) (ops : Array Oper) (e : Env) (m : Made) (h : Hp) (i : Nat) (o : Oper) : Prop :=
  calm P o = true /\ ∃ v b, (∀ d, o.dst = some d -> d < n -> da e d = some v) /\ B8 ops o e b /\
    ((b = false /\ v = undef) \/ (b = true /\ ((∀ (c : Xab -> T) L K h', c v L K h' -> vJ P o e c L K h') \/
      (∃ p l, (i, p, l) ∈ m /\ aH h p 0 l /\ ∀ (c : Xab -> T) L K h', aH h' p 0 l -> c v L K h' -> vJ P o e c L K h'))))
def Aq (ops:Array Oper):List Nat->Prop
 | []=>True
 | i::D=>i∉D/\(∀ o,ops[i]?=some o->∀ j∈waits o,j∈D)/\Aq ops D
structure r6 (P:Program) (n:Nd) (ops:Array Oper) (e0:Env) (listed:Array Bool) (a:Act) (h:Hp) (D:List Nat) (e:Env) (m:Made):Prop where
 wm:listed.size=ops.size
 size:a.tmps.size=n.n
 defers:a.defers=n.d
 lD:∀ i,listed[i]?=some true->i∈D
 dD:∀ i∈D,∃ o,ops[i]?=some o
 closed:Aq ops D
 YC:∀ s v,da e s=some v->(∀ j∈D,∀ o,ops[j]?=some o->listed[j]?=some false->o.dst≠some s)->a.tmps.getD s undef=v
 Q8:∀ i∈D,∀ o,ops[i]?=some o->listed[i]?=some false->QB P n ops e m h i o
 fr:Fr (dstsOf ops) e0 e
theorem sL:∀ {D:List Nat},Aq ops D->∀ i∈D,∀ o,ops[i]?=some o->∀ j∈waits o,j∈D
 | d::D,hc,i,hi,o,b,j,c=>by
  rcases be9.1 hi with rfl | hi
  ·exact ap9 _ (hc.2.1 o b j c)
  ·exact ap9 _ (sL hc.2.2 i hi o b j c)
theorem um (listed:Array Bool):∀ {D:List Nat},Aq ops D->(∀ i∈D,∃ o,ops[i]?=some o)->(∃ i∈D,listed[i]?=some false)->(∀ i∈D,listed[i]?=some true\/listed[i]?=some false) ->
  ∃ i∈D,listed[i]?=some false/\∀ o,ops[i]?=some o->∀ j∈waits o,listed[j]?=some true
 | i'::D,hc,g,⟨i,hi,f⟩,b=>by
  by_cases c:∃ i∈D,listed[i]?=some false
  ·obtain ⟨k,hk,h1,h2⟩:=um listed hc.2.2 (fun i hi=>g i (ap9 _ hi)) c (fun i hi=>b i (ap9 _ hi));exact ⟨k,ap9 _ hk,h1,h2⟩
  ·have d:i=i':=by
    rcases be9.1 hi with h | h
    ·exact h
    ·exact (c ⟨i,h,f⟩).elim
   subst d;refine ⟨i,aj,f,fun o l j p=>?_⟩;have hjD:=hc.2.1 o l j p;rcases b j (ap9 _ hjD) with h | h
   ·exact h
   ·exact (c ⟨j,hjD,h⟩).elim
def kM {e:Env} {dst:Option Tmp} {v:Xab} {s:Nat} (b:dst≠some s):da (eC n e dst v) s=da e s:=by
 cases dst with
 | none=>rfl
 | some d =>
  simp only [eC];cases Nat.blt d n with
  | false=>rfl
  | true=>simp only [cond_true,dN]; rw [ac9 (fun c:d=s=>b (by rw [c]))]
def uz {e:Env} {d:Nat} {v:Xab} (b:d<n):da (eC n e (some d) v) d=some v:=by
 have c:Nat.blt d n=true:=by rw [Nat.blt_eq]; exact b
 simp only [eC,c,cond_true,dN,if_true]
def KC {a:Act} {dst:Option Tmp} {v:Xab} {s:Nat} (c:dst≠some s):(a.put dst v).tmps.getD s undef=a.tmps.getD s undef:=by
 cases dst with
 | none=>rfl
 | some d =>
  have b:d≠s:=fun f=>c (by rw [f])
  simp [Act.put,Array.getD_eq_getD_getElem?,Array.getElem?_setIfInBounds,b]
def vV {a:Act} {d:Nat} {v:Xab} (b:d<a.tmps.size):(a.put (some d) v).tmps.getD d undef=v:=by
 simp [Act.put,Array.getD_eq_getD_getElem?,Array.getElem?_setIfInBounds,b]
def Gh (a:Act) (dst:Option Tmp) (v:Xab):(a.put dst v).tmps.size=a.tmps.size:=by cases dst <;> simp [Act.put]
def put_defers (a:Act) (dst:Option Tmp) (v:Xab):(a.put dst v).defers=a.defers:=by cases dst <;> rfl
variable {e0:Env} {listed:Array Bool} {a:Act} {h:Hp} {D:List Nat} {e:Env} {m:Made}
def Hw {i:Nat} {o:Oper} (b:ops[i]?=some o) {d:Nat} (c:o.dst=some d):d∈dstsOf ops:=Kq (j:=i) (by rw [b]; exact c)
def Fr.step {n:Nat} {l:List Nat} {e0 e b:Env} {o:Oper} {v:Xab} (h:Fr l e0 e) (c:∀ s,da b s=da e s) (f:∀ d,o.dst=some d->d∈l):Fr l e0 (Sx.eC n b o.dst v) :=
 (h.trans (fun s _=>c s)).trans (Fr.eC n b v f)
def r6.xt (I:r6 P n ops e0 listed a h D e m) {i:Nat} {o:Oper} (d:ops[i]?=some o) (hn:listed[i]?≠some true):listed[i]?=some false:=by
 have c:i<ops.size:=by
  rcases cm9 i ops.size with h | h
  ·exact h
  ·rw [cu9 h] at d; cases d
 have b:i<listed.size:=by rw [I.wm]; exact c
 rw [dg9 b] at hn ⊢;cases f:listed[i] with
 | false=>rfl
 | true=>rw [f] at hn; exact (hn rfl).elim
def r6.K2 (c:eN P n ops=true) (I:r6 P n ops e0 listed a h D e m) {i:Nat} {o:Oper} (f:ops[i]?=some o) (p:∀ j∈waits o,listed[j]?=some true)
  (hi:i∉D\/calm P o=true):∀ s∈looks ops o,∀ v,da e s=some v->a.tmps.getD s undef=v:=by
 intro s k v hv;refine I.YC s v hv ?_;intro j q r b g l;have hcj:=(I.Q8 j q r b g).1
 by_cases d:i=j
 ·subst d;rw [f] at b; obtain rfl:=bb9 b;exact IE c f l hcj k
 ·rcases (pf c f b d).1 s l k with h1 | ⟨_,h1⟩
  ·rw [p j h1] at g; cases g
  ·rw [hcj] at h1; cases h1
def r6.exec (p:eN P n ops=true) (I:r6 P n ops e0 listed a h D e m) {i:Nat} {o:Oper} (y:ops[i]?=some o) (q:i∈D) (z:listed[i]?=some false) {v:Xab}
  (hv:∀ d,o.dst=some d->da e d=some v) (hc:calm P o=true):r6 P n ops e0 (listed.setIfInBounds i true) (a.put o.dst v) h D e m:=by
 have r:i<listed.size:=by
  rcases cm9 i listed.size with h | h
  ·exact h
  ·rw [cu9 h] at z; cases z
 have lG:∀ j,(listed.setIfInBounds i true)[j]?=if i=j then some true else listed[j]?:=by
  intro j;rw [di9]
  by_cases b:i=j
  ·subst b; simp [r]
  ·simp [b]
 refine ⟨by simp [I.wm],by rw [Gh,I.size],by rw [put_defers,I.defers],?_,I.dD,I.closed,?_,?_,I.fr⟩
 ·intro j g;rw [lG] at g
  by_cases b:i=j
  ·subst b; exact q
  ·rw [ac9 b] at g; exact I.lD j g
 ·intro s u t w
  by_cases k:o.dst=some s
  ·rw [k];rw [hv s k] at t;obtain rfl:=bb9 t;exact vV (by rw [I.size]; exact QJ p y k)
  ·rw [KC k];refine I.YC s u t ?_;intro j g x f c l
   by_cases b:i=j
   ·subst b; rw [y] at f; obtain rfl:=bb9 f; exact k l
   ·exact w j g x f (by rw [lG,ac9 b]; exact c) l
 ·intro j g x f c;rw [lG] at c
  by_cases b:i=j
  ·rw [ag9 b] at c; cases c
  ·rw [ac9 b] at c; exact I.Q8 j g x f c
def QB.congr {e g:Env} {m q:Made} {h h':Hp} {i:Nat} {o:Oper} (t:QB P n ops e m h i o) (hl:∀ s∈looks ops o,da g s=da e s) (u:∀ d,o.dst=some d->da g d=da e d)
  (w:∀ p l,(i,p,l)∈m->aH h p 0 l->(i,p,l)∈q/\aH h' p 0 l):QB P n ops g q h' i o:=by
 obtain ⟨hc,v,b,h1,h2,c⟩:=t;have j:∀ kk,vJ P o g kk=vJ P o e kk:=fun kk=>yc (fun x j=>by
  cases x <;> try rfl
  exact hl _ (yH j)) kk
 refine ⟨hc,v,b,fun d f k=>by rw [u d f]; exact h1 d f k,h2.congr hl,?_⟩;rcases c with c | ⟨r,c | ⟨p,l,c,y,z⟩⟩
 ·exact .inl c
 ·exact .inr ⟨r,.inl fun kk L K h' hk=>by rw [j]; exact c kk L K h' hk⟩
 ·obtain ⟨A,B⟩:=w p l c y;exact .inr ⟨r,.inr ⟨p,l,A,B,fun kk L K h' hc hk=>by rw [j]; exact z kk L K h' hc hk⟩⟩
def r6.ahead (q:eN P n ops=true) (I:r6 P n ops e0 listed a h D e m) {i:Nat} {o:Oper} (g:ops[i]?=some o) (f:i∉D) (G:∀ j∈waits o,j∈D) (hc:calm P o=true)
  {v:Xab} {A:Env} (y:∀ s,da A s=da e s) {m':Made} (H:∀ x∈m,x∈m')
  (J:QB P n ops (eC n A o.dst v) m' h i o):r6 P n ops e0 listed a h (i::D) (eC n A o.dst v) m':=by
 have B:listed[i]?=some false:=I.xt g (fun C=>f (I.lD i C));refine ⟨I.wm,I.size,I.defers,fun j c=>ap9 _ (I.lD j c),?_,⟨f,?_,I.closed⟩,?_,?_,I.fr.step y (fun d k=>Hw g k)⟩
 ·intro j c;rcases be9.1 c with rfl | c
  ·exact ⟨o,g⟩
  ·exact I.dD j c
 ·intro o' r j c;rw [g] at r; obtain rfl:=bb9 r;exact G j c
 ·intro s u F t;have k:o.dst≠some s:=t i aj o g B;rw [kM k,y] at F;exact I.YC s u F fun j c z b E=>t j (ap9 _ c) z b E
 ·intro j c z b E;rcases be9.1 c with rfl | c
  ·rw [g] at b; obtain rfl:=bb9 b; exact J
  ·have w:j≠i:=fun C=>f (C▸c)
   have hpj:=I.Q8 j c z b E;refine hpj.congr ?_ ?_ (fun p l h1 h2=>⟨H _ h1,h2⟩)
   ·intro s K
    by_cases k:o.dst=some s
    ·exfalso;rcases (pf q b g w).1 s k K with h1 | ⟨_,h1⟩
     ·exact f (sL I.closed j c z b i h1)
     ·rw [hc] at h1; cases h1
    ·rw [kM k,y]
   ·intro d k;rw [kM ((pf q b g w).2 d k hpj.1),y]
def r6.effect (t:eN P n ops=true) (I:r6 P n ops e0 listed a h D e m) {i:Nat} {o:Oper} (w:ops[i]?=some o) (q:i∉D) (J:∀ j∈waits o,listed[j]?=some true) (hc:calm P o=false)
  {v:Xab} {K:Env} (B:∀ s,da K s=da e s) {h':Hp} (E:∀ j p l,(j,p,l)∈m->aH h p 0 l->j∉waits o->aH h' p 0 l) :
  r6 P n ops e0 (listed.setIfInBounds i true) (a.put o.dst v) h' (i::D) (eC n K o.dst v) m:=by
 have x:listed[i]?=some false:=I.xt w (fun g=>q (I.lD i g));have F:i<listed.size:=by
  rcases cm9 i listed.size with h | h
  ·exact h
  ·rw [cu9 h] at x; cases x
 have lG:∀ j,(listed.setIfInBounds i true)[j]?=if i=j then some true else listed[j]?:=by
  intro j;rw [di9]
  by_cases b:i=j
  ·subst b; simp [F]
  ·simp [b]
 refine ⟨by simp [I.wm],by rw [Gh,I.size],by rw [put_defers,I.defers],?_,?_,⟨q,?_,I.closed⟩,?_,?_,I.fr.step B (fun d k=>Hw w k)⟩
 ·intro j c;rw [lG] at c
  by_cases b:i=j
  ·subst b; simp
  ·rw [ac9 b] at c; exact ap9 _ (I.lD j c)
 ·intro j c;rcases be9.1 c with rfl | c
  ·exact ⟨o,w⟩
  ·exact I.dD j c
 ·intro o' y j c;rw [w] at y; obtain rfl:=bb9 y;exact I.lD j (J j c)
 ·intro s u z G
  by_cases k:o.dst=some s
  ·rw [k] at z ⊢;have hdn:=QJ t w k;rw [uz hdn] at z;obtain rfl:=bb9 z;exact vV (by rw [I.size]; exact hdn)
  ·rw [kM k,B] at z;rw [KC k];refine I.YC s u z ?_;intro j c C f r;have H:i≠j:=fun g=>q (g▸c)
   exact G j (ap9 _ c) C f (by rw [lG,ac9 H]; exact r)
 ·intro j c C f r;rw [lG] at r
  by_cases b:i=j
  ·rw [ag9 b] at r; cases r
  ·rw [ac9 b] at r;rcases be9.1 c with g | c
   ·exact (b g.symm).elim
   ·have hpj:=I.Q8 j c C f r;have A:j∉waits o:=fun g=>by rw [J j g] at r; cases r
    refine hpj.congr ?_ ?_ (fun p l h1 h2=>⟨h1,E j p l h1 h2 A⟩)
    ·intro s L
     by_cases k:o.dst=some s
     ·exfalso;rcases (pf t f w (fun g=>b g.symm)).1 s k L with h1 | ⟨h1,_⟩
      ·exact q (sL I.closed j c C f i h1)
      ·exact A h1
     ·rw [kM k,B]
    ·intro d k;rw [kM ((pf t f w (fun g=>b g.symm)).2 d k hpj.1),B]
def pC {listed:Array Bool} (t:listed.size=ops.size) {i:Nat}:i∈Region.ready .any ops listed↔∃ o,ops[i]?=some o/\listed[i]?=some false/\∀ j∈waits o,listed[j]?=some true:=by
 unfold Region.ready;rw [List.mem_filter,dv9];constructor
 ·rintro ⟨c,q⟩;rw [bm9] at q;obtain ⟨h1,h2⟩:=q;have g:ops[i]?=some ops[i]:=dg9 c;rw [g] at h2;refine ⟨ops[i],g,?_,?_⟩
  ·have d:i<listed.size:=by rw [t]; exact c
   rw [dg9 d];simp only [Bool.not_eq_true',Array.getD_eq_getD_getElem?,Array.getElem?_eq_getElem d,Option.getD_some] at h1;rw [h1]
  ·intro j r;simp only [Option.map_some,Option.getD_some] at h2;unfold waits at r;obtain ⟨k,f,rfl⟩:=an9.1 r;obtain ⟨l,p⟩:=List.mem_filter.1 f;have h3:=(Array.all_eq_true_iff_forall_mem.1 h2) k (by simpa using l);rw [p] at h3;simp only [Bool.not_true,Bool.false_or,Array.getD_eq_getD_getElem?] at h3;cases s:listed[k.on]? with
   | none=>rw [s] at h3; cases h3
   | some b=>rw [s] at h3; simp at h3; rw [h3]
 ·rintro ⟨o,g,h1,h2⟩;have c:i<ops.size:=by
   rcases cm9 i ops.size with h | h
   ·exact h
   ·rw [cu9 h] at g; cases g
  refine ⟨c,?_⟩;rw [bm9];refine ⟨by simp [Array.getD_eq_getD_getElem?,h1],?_⟩;rw [g];simp only [Option.map_some,Option.getD_some];refine Array.all_eq_true_iff_forall_mem.2 fun k f=>?_
  cases u:Region.binds .any k with
  | false=>rfl
  | true =>
   have:=h2 k.on (an9.2 ⟨k,List.mem_filter.2 ⟨by simpa using f,u⟩,rfl⟩)
   simp [Array.getD_eq_getD_getElem?,this]
theorem fW {D:List Nat} {c:Bool} {p:Nat × Oper}:∀ {l:List (Nat × Oper)},p∈dm P D c l↔p∈l/\yG D p.1 p.2=true/\calm P p.2=c
 | []=>by simp [dm]
 | q::l=>by
  unfold dm;cases b:yG D q.1 q.2 && (calm P q.2==c) with
  | true =>
   rw [bm9] at b;simp only [List.mem_cons,fW (l:=l)];constructor
   ·rintro (rfl | h)
    ·exact ⟨.inl rfl,b.1,by simpa using b.2⟩
    ·exact ⟨.inr h.1,h.2⟩
   ·rintro ⟨rfl | h,h2⟩
    ·exact .inl rfl
    ·exact .inr ⟨h,h2⟩
  | false =>
   simp only [List.mem_cons,fW (l:=l)];constructor
   ·rintro ⟨h1,h2⟩; exact ⟨.inr h1,h2⟩
   ·rintro ⟨rfl | h,h2⟩
    ·rw [h2.1,h2.2] at b; simp at b
    ·exact ⟨h,h2⟩
def uQ {D:List Nat} {i:Nat} {o:Oper}:yG D i o=true↔i∉D/\∀ j∈waits o,j∈D:=by
 unfold yG;rw [bm9];constructor
 ·rintro ⟨h1,h2⟩;refine ⟨fun c=>?_,fun j b=>ij.1 (bn9.1 h2 j b)⟩;rw [ij.2 c] at h1; cases h1
 ·rintro ⟨h1,h2⟩;refine ⟨?_,bn9.2 fun j b=>ij.2 (h2 j b)⟩;cases d:tV i D with
  | false=>rfl
  | true=>exact (h1 (ij.1 d)).elim
def T3 {K:Xab->Hp->Prop} {h:Hp} {o:Oper} {m:Made} {t:T} (ht:wv (kN o m) t H K h):t H K h/\∀ j p l,(j,p,l)∈m->j∉waits o->aH h p 0 l:=by
 have h1:∀ l:List (Xax × List Xab),wv l t H K h->T.B7 h l/\t H K h:=by
  intro l hl;cases l with
  | nil=>exact ⟨trivial,hl⟩
  | cons p l=>exact hl
 obtain ⟨h2,g⟩:=h1 _ ht;refine ⟨g,?_⟩;clear ht h1 g
 induction m with
 | nil=>intro j p l b; cases b
 | cons x m k =>
  obtain ⟨i,q,lq⟩:=x;intro j p l b c;unfold kN at h2;cases f:tV i (waits o) with
  | true =>
   rw [f] at h2;rcases be9.1 b with d | b
   ·simp only [Prod.mk.injEq] at d;obtain ⟨rfl,rfl,rfl⟩:=d;exact (c (ij.1 f)).elim
   ·exact k h2 j p l b c
  | false =>
   rw [f] at h2;simp only [cond_false] at h2;rcases be9.1 b with d | b
   ·simp only [Prod.mk.injEq] at d;obtain ⟨rfl,rfl,rfl⟩:=d;exact h2.1
   ·exact k h2.2 j p l b c
theorem Tz {K:Xab->Hp->Prop} {h:Hp}:∀ {ts:List T} {t:T},t∈ts->WG ts H K h->t H K h
 | [],t,ht,_=>by cases ht
 | [u],t,ht,b=>by simp at ht; subst ht; exact b
 | u::f::ts,t,ht,b=>by
  have:∀ ts:List T,t∈ts->T.every H K h ts->t H K h:=by
   intro ts
   induction ts with
   | nil=>intro c; cases c
   | cons v ts d =>
    intro c b;rcases be9.1 c with rfl | c
    ·exact b.1
    ·exact d c b.2
  exact this _ ht b
def left (listed:Array Bool):Nat:=(listed.toList.filter fun b=>!b).length
theorem DF:∀ (l:List Bool) (i:Nat),l[i]?=some false->((l.set i true).filter fun b=>!b).length+1=(l.filter fun b=>!b).length
 | [],i,h=>by simp at h
 | b::l,0,h=>by simp at h; subst h; simp
 | b::l,i+1,h=>by
  simp at h
  have:=DF l i h
  cases b
  ·simp only [List.set_cons_succ,List.filter_cons,Bool.not_false,if_true,List.length_cons]; omega
  ·simp only [List.set_cons_succ,List.filter_cons,Bool.not_true,Bool.false_eq_true,if_false]; exact this
def F1 {listed:Array Bool} {i:Nat} (b:listed[i]?=some false):left (listed.setIfInBounds i true)+1=left listed:=by
 unfold left;rw [Array.toList_setIfInBounds];exact DF _ i (by simpa using b)
def M' {listed:Array Bool} (h0:left listed=0) (i:Nat):listed[i]?≠some false:=by
 intro b
 have:=F1 b
 omega
def JL (v:Xab) (h:Hp):Xab->T:=fun v' _ _ h'=>v'=v/\h'=h
variable {O:World}
def Tl (r:eN P n ops=true) {K:Xab->Hp->Prop} {k:Env->T} {Q:Exit->Act->World->Prop} {i:Nat}
  {listed:Array Bool} {a:Act} {w:World} {R:Act->World->Prop} (hi:i∈Region.ready .any ops listed) (Z:dM O w)
  (next:∀ a' w' D e m E,dM O w'->r6 P n ops e0 (listed.setIfInBounds i true) a' w'.heap D e m->gC P n ops E D e m k H K w'.heap->R a' w') :
  ∀ E D e m,r6 P n ops e0 listed a w.heap D e m->gC P n ops E D e m k H K w.heap->wpOp P ops Q i R a w:=by
 intro E
 induction E with
 | zero=>intro D e m I ht; exact ht.elim
 | succ E ih =>
  intro D e m I ht;obtain ⟨o,S,hf,hr⟩:=(pC I.wm).1 hi
  by_cases N:i∈D
  ·
   obtain ⟨hc,v,b,hv,hg,c⟩:=I.Q8 i N o S hf;have hlk:=I.K2 r S hr (.inr hc);have hwant:=hg.wanted hlk;have hv':∀ d,o.dst=some d->da e d=some v:=fun d Y=>hv d Y (QJ r S Y)
   unfold wpOp;rw [S];simp only;have I':=I.exec r S N hf hv' hc;rcases c with ⟨rfl,rfl⟩ | ⟨rfl,c⟩
   ·rw [ac9 (by simp [hwant])];exact next _ _ D e m (E+1) Z I' ht
   ·rw [ag9 hwant];refine .inl ?_;have F:Zv P o a.eval w.heap (fun v' h'=>v'=v/\h'=w.heap):=by
     have hxx:vJ P o e (JL v w.heap) [] (fun _ _=>True) w.heap:=by
      rcases c with c | ⟨p,l,_,hcl,c⟩
      ·exact c (JL v w.heap) [] (fun _ _=>True) w.heap ⟨rfl,rfl⟩
      ·exact c (JL v w.heap) [] (fun _ _=>True) w.heap hcl ⟨rfl,rfl⟩
     rw [<- Gu (ops:=ops)] at hxx;exact I0 (FW I.size I.defers hlk) hxx
    refine yD F ?_;rintro v' w' hs' ⟨rfl,hh⟩;refine next _ _ D e m (E+1) (Z.trans hs') (by rw [hh]; exact I') (by rw [hh]; exact ht)
  ·unfold gC at ht;cases A:dm P D true (idx 0 ops.toList) with
   | cons q qs =>
    obtain ⟨j,z⟩:=q;simp only [A] at ht;have hq:(j,z)∈dm P D true (idx 0 ops.toList):=by rw [A]; simp
    obtain ⟨hq1,hq2,B⟩:=fW.1 hq;have hoj:=jh.1 hq1;obtain ⟨hjD,U⟩:=uQ.1 hq2;obtain ⟨C,b,he,hg,c⟩:=AP ht;have hg':∀ u,B8 ops z (eC n C z.dst u) b:=fun u=>hg.congr fun s Z=>by
     by_cases Y:z.dst=some s
     ·exact (IE r hoj Y B Z).elim
     ·rw [kM Y,he]
    have G:∀ u d,z.dst=some d->d<n->da (eC n C z.dst u) d=some u:=fun u d Y hdn=>by rw [Y]; exact uz hdn
    have hxe:∀ u kk,vJ P z (eC n C z.dst u) kk=vJ P z C kk:=fun u kk=>yc (fun x c=>by
     cases x <;> try rfl
     rename_i s;simp only [ev];exact kM (fun Y=>IE r hoj Y B (yH c))) kk
    rcases c with ⟨rfl,c⟩ | ⟨rfl,c⟩
    ·
     unfold calm at B;cases g:sY P z with
     | true =>
      have hx':vJ P z C (fun v=>gC P n ops E (j::D) (eC n C z.dst v) m k) H K w.heap:=by
       have hnl:∀ t x,z.op≠.load t x:=by
        intro t x hh;unfold sY at g;rw [hh] at g; cases g
       obtain ⟨dst,op,type,pos,after,guard⟩:=z;cases op <;> first | exact c | exact (hnl _ _ rfl).elim
      obtain ⟨v,hk,V⟩:=PJ g hx';refine ih (j::D) _ m (I.ahead r hoj hjD U (by unfold calm; rw [g]; rfl) he (fun x c=>c) ?_) hk;exact ⟨by unfold calm; rw [g]; rfl,v,true,G v,hg' v,.inr ⟨rfl,.inl fun kk H K h' J=>by rw [hxe]; exact V kk H K h' J⟩⟩
     | false =>
      rw [g,ey9] at B;obtain ⟨t,x,F⟩:∃ t x,z.op=.load t x:=by
       unfold BR at B;cases F:z.op <;> rw [F] at B <;> first | (cases B; done) | exact ⟨_,_,rfl⟩
      have hcj:calm P z=true:=by unfold calm BR; rw [F]; simp
      simp only [F] at c;unfold sC at c;obtain ⟨u,hu,c⟩:=bH c;have hx2:sC P t x C (fun a l v=>gC P n ops E (j::D) (eC n C z.dst v) ((j,a,l)::m) k) H K w.heap:=by
       unfold sC ct; simp only [hu]; exact c
      cases hb:cH P t with
      | none=>cases u <;> simp only [hb] at c <;> exact c.elim
      | some bb =>
       obtain ⟨pp,rfl⟩:∃ pp,u=.pointer pp:=by
        cases u <;> cases bb <;> simp only [hb] at c <;> first | exact c.elim | exact ⟨_,rfl⟩
       have f:(match bb with
        | true=>(bif (fA P 9 t).length==P.cellsOf t then T.bf pp fun a=>T.af a (fA P 9 t) (jO _ fun l=>gC P n ops E (j::D) (eC n C z.dst (.agg l.toArray)) ((j,a,l)::m) k) else T.fail)
        | false=>T.bf pp fun a=>T.af a (cM P t).2 (jO _ fun l=>gC P n ops E (j::D) (eC n C z.dst (l.headD undef)) ((j,a,l)::m) k)) H K w.heap:=by
        cases bb <;> simp only [hb] at c <;> exact c
       have hfin:∃ p l v,pp=some p/\aH w.heap p 0 l/\gC P n ops E (j::D) (eC n C z.dst v) ((j,p,l)::m) k H K w.heap /\
         ∀ (kk:Xab->T) H K h',aH h' p 0 l->kk v H K h'->vJ P z C kk H K h':=by
        have hxop:∀ kk,vJ P z C kk=sC P t x C (fun _ _ v=>kk v):=by
         intro kk;unfold vJ;rw [F] <;> rfl
        cases bb with
        | true =>
         simp only at f;rcases gk f with ⟨hl,f⟩ | ⟨hl,f⟩
         ·obtain ⟨p,rfl,f⟩:=gM f;obtain ⟨y,hc,f⟩:=f;rw [dU] at f;refine ⟨p,_,_,rfl,hc,f,fun kk H K h' W J=>?_⟩;rw [hxop];unfold sC ct;simp only [hu,hb,hl];exact ⟨y,W,by rw [dU]; exact J⟩
         ·exact f.elim
        | false =>
         simp only at f;obtain ⟨p,rfl,f⟩:=gM f;obtain ⟨y,hc,f⟩:=f;rw [dU] at f;refine ⟨p,_,_,rfl,hc,f,fun kk H K h' W J=>?_⟩;rw [hxop];unfold sC ct;simp only [hu,hb];exact ⟨y,W,by rw [dU]; exact J⟩
       obtain ⟨p,l,v,rfl,hc,hk,V⟩:=hfin;refine ih (j::D) _ ((j,p,l)::m) (I.ahead r hoj hjD U hcj he (fun x c=>ap9 _ c) ?_) hk;exact ⟨hcj,v,true,G v,hg' v,.inr ⟨rfl,.inr ⟨p,l,aj,hc,fun kk H K h' W J=>by rw [hxe]; exact V kk H K h' W J⟩⟩⟩
    ·
     refine ih (j::D) _ m (I.ahead r hoj hjD U B he (fun x c=>c) ?_) c;exact ⟨B,undef,false,G undef,hg' undef,.inl ⟨rfl,rfl⟩⟩
   | nil =>
    simp only [A] at ht;have U:∀ j∈waits o,j∈D:=fun j hj=>I.lD j (hr j hj)
    have hrx:yG D i o=true:=uQ.2 ⟨N,U⟩;have hc:calm P o=false:=by
     cases hc:calm P o with
     | false=>rfl
     | true =>
      have:(i,o)∈dm P D true (idx 0 ops.toList):=fW.2 ⟨jh.2 S,hrx,hc⟩
      rw [A] at this; cases this
    have M:(i,o)∈dm P D false (idx 0 ops.toList):=fW.2 ⟨jh.2 S,hrx,hc⟩;cases X:dm P D false (idx 0 ops.toList) with
    | nil=>rw [X] at M; cases M
    | cons q qs =>
     simp only [X] at ht;rw [X] at M;have hti:=Tz (an9.2 ⟨(i,o),M,rfl⟩) ht;simp only at hti;obtain ⟨C,b,he,hg,c⟩:=AP hti;have hlk:=I.K2 r S hr (.inl N);have hwant:=hg.wanted hlk;unfold wpOp;rw [S];simp only;rcases c with ⟨rfl,c⟩ | ⟨rfl,c⟩
     ·rw [ag9 hwant];refine .inl ?_;rw [<- Gu (ops:=ops)] at c;have hlk':∀ s∈looks ops o,∀ v,da C s=some v->a.tmps.getD s undef=v:=fun s Z v hv=>hlk s Z v (by rw [<- he]; exact hv)
      refine yD (I0 (FW I.size I.defers hlk') c) ?_;intro v w' hs' hst;obtain ⟨hst1,hst2⟩:=T3 hst;exact next _ _ (i::D) _ m E (Z.trans hs') (I.effect r S N hr hc he (fun j p l h1 _ h3=>hst2 j p l h1 h3)) hst1
     ·rw [ac9 (by simp [hwant])];exact next _ _ (i::D) _ m E Z (I.effect r S N hr hc he (fun j p l _ h2 _=>h2)) c
def Og (y:eN P n ops=true) {K:Xab->Hp->Prop} {k:Env->T} {Q:Exit->Act->Hp->Prop} 
  (hk:∀ e a h,k e H K h->ix n e a->Fr (dstsOf ops) e0 e->Q .normal a h):∀ (b:Nat) (listed:Array Bool) (a:Act) (w:World) (D:List Nat) (e:Env) (m:Made) (d:Nat),left listed<=b->dM O w ->
   r6 P n ops e0 listed a w.heap D e m->gC P n ops d D e m k H K w.heap->wpAny P .any ops (Zw O Q) b listed a w:=by
 have u:∀ (listed:Array Bool) (a:Act) (w:World),dM O w->Region.ready .any ops listed=[]->∀ d D e m,r6 P n ops e0 listed a w.heap D e m->gC P n ops d D e m k H K w.heap->Zw O Q .normal a w:=by
  intro listed a w r p d D e m I ht;have g:∀ i∈D,listed[i]?=some true\/listed[i]?=some false:=by
   intro i hi;obtain ⟨o,ho⟩:=I.dD i hi
   by_cases h1:listed[i]?=some true
   ·exact .inl h1
   ·exact .inr (I.xt ho h1)
  have f:∀ i∈D,listed[i]?=some true:=by
   intro i hi;rcases g i hi with h1 | h1
   ·exact h1
   ·obtain ⟨j,x,h2,M⟩:=um listed I.closed I.dD ⟨i,hi,h1⟩ g;obtain ⟨o,ho⟩:=I.dD j x
    have:j∈Region.ready .any ops listed:=(pC I.wm).2 ⟨o,ho,h2,M o ho⟩
    rw [p] at this; cases this
  have z:∀ c,dm P D c (idx 0 ops.toList)=[]:=by
   intro c;cases A:dm P D c (idx 0 ops.toList) with
   | nil=>rfl
   | cons q Z =>
    obtain ⟨i,o⟩:=q;have N:(i,o)∈dm P D c (idx 0 ops.toList):=by rw [A]; simp
    obtain ⟨B,C,_⟩:=fW.1 N;have ho:=jh.1 B;obtain ⟨E,R⟩:=uQ.1 C
    have:i∈Region.ready .any ops listed:=(pC I.wm).2 ⟨o,ho,I.xt ho (fun S=>E (I.lD i S)),fun j x=>f j (R j x)⟩
    rw [p] at this; cases this
  cases d with
  | zero=>exact ht.elim
  | succ d =>
   unfold gC at ht;simp only [z] at ht;refine ⟨r,hk e a w.heap ht ⟨I.size,I.defers,fun s v hv=>I.YC s v hv ?_⟩ I.fr⟩;intro j x o ho t;rw [f j x] at t; cases t
 intro b
 induction b with
 | zero =>
  intro listed a w D e m d hl r I ht;have p:Region.ready .any ops listed=[]:=by
   cases A:Region.ready .any ops listed with
   | nil=>rfl
   | cons i l =>
    have:i∈Region.ready .any ops listed:=by rw [A]; simp
    obtain ⟨o,ho,t,_⟩:=(pC I.wm).1 this;exact (M' ad i t).elim
  exact ⟨p,u listed a w r p d D e m I ht⟩
 | succ b U =>
  intro listed a w D e m d hl r I ht;refine ⟨fun p=>u listed a w r p d D e m I ht,fun i hi=>?_⟩;obtain ⟨o,ho,t,_⟩:=(pC I.wm).1 hi;refine Tl y hi r ?_ d D e m I ht;intro a' w' V W X F G Y J;exact U _ a' w' V W X F (by have:=F1 t; omega) G Y J
def rok (f:P.follows .mixedOrders=true):ROk P n:=by
 intro id ops e k L K Q a h hk ht g p w d j;subst j;unfold wK at ht;cases b:eN P n ops with
 | false=>simp only [b] at ht; exact ht.elim
 | true =>
  simp only [b] at ht;have c:∀ (l:Array Bool) (i:Nat),l=Array.replicate ops.size false->l[i]?≠some true:=by
   intro l i hl o;subst hl;simp [Array.getElem?_replicate] at o
  refine wp_region_any f (Og (e0:=e) b hk ops.size _ a { w with drawn:=w.drawn+1 } [] e [] (ops.size+1) ?_ ⟨d.os,d.tape,d.output⟩ ?_ ht)
  ·unfold left;refine cq9 (do9 _ _) ?_
   simp
  ·exact ⟨aj,g.size,g.defers,fun i hi=>(c _ i rfl hi).elim,fun i hi=>(by cases hi),trivial,fun s v hv _=>g.get s v hv,fun i hi=>(by cases hi),Fr.refl _ _⟩
end draws
end Go.Sx
