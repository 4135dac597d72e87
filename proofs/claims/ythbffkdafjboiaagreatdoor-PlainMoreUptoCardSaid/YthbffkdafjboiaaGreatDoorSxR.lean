/- Part of the framework. No condition. -/
import Derived.Test.YthbffkdafjboiaaGreatDoorSxM
import Derived.Orders
set_option linter.all false
set_option maxHeartbeats 4000000
namespace Go.Sx
section congr
variable {P:Program}
def bJ {e e':Env} {x:Operand} (h:ev e x=ev e' x) (k:Xab->T):cg e x k=cg e' x k:=by
 unfold cg; rw [h]
theorem eH {e e':Env}:∀ {xs:List Operand},(∀ x∈xs,ev e x=ev e' x)->∀ (k:List Xab->T),iv e xs k=iv e' xs k
 | [],_,k=>rfl
 | x::xs,h,k=>by
  simp only [iv];rw [bJ (h x aj)]
  congr 1
  funext v
  exact eH (fun x hx=>h x (by simp [hx])) _
def wP {o:Oper} {e e':Env} (h:∀ x∈o.op.operands,ev e x=ev e' x) (kk:Xab->T):uq P o e kk=uq P o e' kk:=by
 obtain ⟨dst,op,j,pos,after,guard⟩:=o;cases op <;> simp only [Op.operands] at h <;> simp only [uq]
 case pick c x y =>
  rw [bJ (h c aj)]
  congr 1; funext v
  cases v <;> first | rfl | (rw [bJ (h x aj),bJ (h y aj)])
 case build t ps=>rw [eH (fun x hx=>h x (by simpa using hx))]
 case buildSlice t l ps=>rw [eH (fun x hx=>h x (by simpa using hx))]
 case store t x y =>
  rw [bJ (h x aj)]
  congr 1; funext v
  rw [bJ (h y aj)]
 case binOp op t x y u =>
  rw [bJ (h x aj)]
  congr 1; funext v
  rw [bJ (h y aj)]
 case makeFunc fn G ca =>
  rw [eH (fun x hx=>h x (by simp at hx ⊢; exact .inl hx))]
  congr 1; funext v
  rw [eH (fun x hx=>h x (by simp at hx ⊢; exact .inr hx))]
 case makeMap t r=>cases r <;> rfl
 case makeSlice t x y =>
  rw [bJ (h x aj)]
  congr 1; funext v
  rw [bJ (h y aj)]
 case slice t x J hi O =>
  rw [bJ (h x aj)]
  congr 1; funext v
  rw [eH (fun y hy=>h y (by
   simp only [List.mem_append,Option.mem_toList] at hy;simp only [Array.mem_append,Array.mem_singleton,Option.mem_toArray];rcases hy with (hy | hy) | hy
   ·exact .inl (.inl (.inr hy))
   ·exact .inl (.inr hy)
   ·exact .inr hy))]
 case indexAddr t x y =>
  rw [bJ (h x aj)]
  congr 1; funext v
  rw [bJ (h y aj)]
 case index t x y =>
  rw [bJ (h x aj)]
  congr 1; funext v
  rw [bJ (h y aj)]
 case lookup t x y ok =>
  rw [bJ (h x aj)]
  congr 1; funext v
  rw [bJ (h y aj)]
 case mapUpdate t x y z =>
  rw [bJ (h x aj)]
  congr 1; funext v
  rw [bJ (h y aj)]
  congr 1; funext v
  rw [bJ (h z aj)]
 case insert t x y z =>
  rw [bJ (h x aj)]
  congr 1; funext v
  rw [bJ (h y aj)]
  congr 1; funext v
  rw [bJ (h z aj)]
 case mapEntry t x y =>
  rw [bJ (h x aj)]
  congr 1; funext v
  rw [bJ (h y aj)]
 case entryStore t x y z =>
  rw [bJ (h x aj)]
  congr 1; funext v
  rw [bJ (h y aj)]
  congr 1; funext v
  rw [bJ (h z aj)]
 case call c =>
  cases hc:c.callee with
  | builtin b =>
   simp only [hc];rw [eH (fun x hx=>h x (by simp [Call.operands,hc]; simpa using hx))]
  | invoke r m=>simp only [hc]
  | value f =>
   simp only [hc];cases EQ f
   ·simp only;rw [bJ (h f (by simp [Call.operands,hc]))]
    congr 1; funext v
    rw [eH (xs:=c.args.toList) (fun x hx=>h x (by simp [Call.operands,hc]; right; simpa using hx))]
   ·simp only;rw [bJ (h f (by simp [Call.operands,hc]))]
    congr 1; funext v
    rw [eH (xs:=c.args.toList) (fun x hx=>h x (by simp [Call.operands,hc]; right; simpa using hx))]
 all_goals first | rfl | exact bJ (h _ aj) _
end congr
section pures
variable {P:Program} {L:Lp} {K:Xab->Hp->Prop} {h:Hp}
def dQ (F:(Xab->T)->T) (kk:Xab->T) (L:Lp) (K:Xab->Hp->Prop) (h:Hp):Prop :=
 ∃ v,kk v L K h/\∀ (j:Xab->T) u K' h',j v u K' h'->F j u K' h'
def dq {e:Env} {x:Operand} {F:(Xab->T)->Xab->T} {kk:Xab->T} (O:∀ v,F kk v L K h->dQ (fun kk=>F kk v) kk L K h)
  (G:cg e x (F kk) L K h):dQ (fun kk=>cg e x (F kk)) kk L K h:=by
 obtain ⟨v,hv,G⟩:=bz G;obtain ⟨u,hk,j⟩:=O v G;refine ⟨u,hk,fun J U K' h' hx=>?_⟩;unfold cg;simp only [hv];exact j J U K' h' hx
theorem oz {e:Env}:∀ {xs:List Operand} {F:(Xab->T)->List Xab->T} {kk:Xab->T},(∀ v,F kk v L K h->dQ (fun kk=>F kk v) kk L K h) ->
  iv e xs (F kk) L K h->dQ (fun kk=>iv e xs (F kk)) kk L K h
 | [],F,kk,u,j=>u [] j
 | x::xs,F,kk,u,j=>by
  refine dq (F:=fun kk v=>iv e xs fun l=>F kk (v::l)) ?_ j;intro v j;exact oz (F:=fun kk l=>F kk (v::l)) (fun l hl=>u (v::l) hl) j
def cM {kk:Xab->T} {v:Xab} (j:kk v L K h):dQ (fun kk=>kk v) kk L K h:=⟨v,j,fun _ _ _ _ hx=>hx⟩
def pd {p:Prop} {F:(Xab->T)->T} {kk:Xab->T} (J:F kk L K h->dQ F kk L K h) (u:T.need p (F kk) L K h):dQ (fun kk=>T.need p (F kk)) kk L K h:=by
 obtain ⟨O,u⟩:=u;obtain ⟨v,hk,j⟩:=J u;exact ⟨v,hk,fun G U K' h' hx=>⟨O,j G U K' h' hx⟩⟩
def AI {q:Xac} {F:(Xab->T)->Xax->T} {kk:Xab->T} (J:∀ a,F kk a L K h->dQ (fun kk=>F kk a) kk L K h) (u:T.bG q (F kk) L K h) :
  dQ (fun kk=>T.bG q (F kk)) kk L K h:=by
 obtain ⟨a,rfl,u⟩:=gf u;obtain ⟨v,hk,j⟩:=J a u;exact ⟨v,hk,fun G O K' h' hx=>j G O K' h' hx⟩
def rT {b:Bool} {F G:(Xab->T)->T} {kk:Xab->T} (u:F kk L K h->dQ F kk L K h) (hG:G kk L K h->dQ G kk L K h) (j:cond b (F kk) (G kk) L K h) :
  dQ (fun kk=>cond b (F kk) (G kk)) kk L K h:=by
 cases b
 ·exact hG j
 ·exact u j
def vc {op:BinOp} {b:Bool} {kk:Xab->T} (j:asked op b kk T.fail L K h):dQ (fun kk=>asked op b kk T.fail) kk L K h:=by
 cases op <;> first | exact cM j | exact j.elim
def Ra {op:BinOp} {k:IntKind} {m n:Int} {kk:Xab->T} (j:HD op k m n kk L K h):dQ (fun kk=>HD op k m n kk) kk L K h:=by
 cases op <;> first
  | exact j.elim
  | exact cM j
  | exact pd (F:=fun kk=>kk _) cM j
def JD {op:BinOp} {k:IntKind} {m n:Int} {kk:Xab->T} (j:zK op k m n kk L K h):dQ (fun kk=>zK op k m n kk) kk L K h:=by
 cases op <;> first
  | exact j.elim
  | exact pd (F:=fun kk=>kk _) cM j
def Rw {op:BinOp} {m n:Xaa} {kk:Xab->T} (j:Hw op m n kk L K h):dQ (fun kk=>Hw op m n kk) kk L K h:=by
 cases op <;> first
  | exact j.elim
  | exact cM j
  | exact pd (F:=fun kk=>kk _) cM j
def Me {op:BinOp} {t:TypeId} {a b:Xab} {kk:Xab->T} (j:sR P op t a b kk L K h):dQ (fun kk=>sR P op t a b kk) kk L K h:=by
 unfold sR at j ⊢;cases a <;> cases b <;> first | exact j.elim | skip
 case bool.bool m n =>
  generalize P.underlying t=u at j ⊢;cases u with
  | none=>exact j.elim
  | some d=>cases d <;> first | exact j.elim | exact vc j
 case int.int k m k' n =>
  simp only at j ⊢;cases hs:mD op with
  | true=>simp only [hs] at j ⊢; exact JD j
  | false =>
   simp only [hs] at j ⊢
   by_cases hk:k=k'
   ·subst hk;simp only [decide_true] at j ⊢;exact Ra j
   ·simp only [hk,decide_false] at j;exact j.elim
 case string.string m n=>exact Rw j
 case pointer.pointer p q =>
  generalize P.underlying t=u at j ⊢;cases u with
  | none=>exact j.elim
  | some d=>cases d <;> first | exact j.elim | exact vc j
 case slice.slice p l c q l' c' =>
  generalize P.underlying t=u at j ⊢;cases u with
  | none=>exact j.elim
  | some d=>cases d <;> first | exact j.elim | exact vc j
 case map.map p q =>
  generalize P.underlying t=u at j ⊢;cases u with
  | none=>exact j.elim
  | some d=>cases d <;> first | exact j.elim | exact vc j
def Ui {op:UnOp} {a:Xab} {kk:Xab->T} (j:UQ op a kk L K h):dQ (fun kk=>UQ op a kk) kk L K h:=by
 cases op <;> cases a <;> first | exact j.elim | exact cM j
def KW {t : TypeId} {cs : List Xab} {off : Nat} {kk : Xab -> T} (j : sV P t cs off kk L K h) : dQ (fun kk => sV P t cs off kk) kk L K h := by
  unfold sV at j ⊢;generalize P.underlying t = u at j ⊢;cases u with
  | none => exact j.elim
  | some d =>
    cases d <;> first
      | exact cM j
      | (cases hv : cs[off]? with
         | none => simp only [hv] at j; exact j.elim
         | some v => simp only [hv] at j ⊢; exact cM j)
def JK {t:TypeId} {a:Xab} {u hi:Option Xab} {kk:Xab->T} (G:(match P.underlying t with
  | some .string=>true
  | some (.slice _)=>true
  | _=>false)=true) (j:iR P t a u hi none kk L K h):dQ (fun kk=>iR P t a u hi none kk) kk L K h:=by
 unfold iR at j ⊢;cases hint:eA u && eA hi && eA none with
 | false=>simp only [hint] at j; exact j.elim
 | true =>
  simp only [hint] at j ⊢;generalize P.underlying t=O at j G ⊢;cases O with
  | none=>cases G
  | some d =>
   cases d <;> simp only [Bool.false_eq_true] at G
   case string=>cases a <;> first | exact j.elim | exact pd (F:=fun kk=>kk _) cM j
   case slice U =>
    cases a <;> first | exact j.elim | skip
    simp only at j ⊢;cases J:nq P U with
    | false=>simp only [J] at j; exact j.elim
    | true=>simp only [J] at j ⊢; exact pd (F:=fun kk=>kk _) cM j
theorem sy {agg:Nat->Option Bool}:∀ {ps:List (Nat × Xab)} {F:(Xab->T)->List (Nat × List Xab)->T} {kk:Xab->T},(∀ r,F kk r L K h->dQ (fun kk=>F kk r) kk L K h) ->
  fm agg ps (F kk) L K h->dQ (fun kk=>fm agg ps (F kk)) kk L K h
 | [],F,kk,u,j=>u [] j
 | (i,v)::l,F,kk,u,j=>by
  simp only [fm] at j ⊢;cases O:agg i with
  | none=>rw [O] at j; exact j.elim
  | some b =>
   rw [O] at j;cases b with
   | true=>exact rT (F:=fun kk=>fm agg l fun r=>F kk ((i,jK v)::r)) (G:=fun _=>T.fail) (fun j=>sy (F:=fun kk r=>F kk ((i,jK v)::r)) (fun r J=>u _ J) j) (fun j=>j.elim) j
   | false=>exact rT (F:=fun _=>T.fail) (G:=fun kk=>fm agg l fun r=>F kk ((i,[v])::r)) (fun j=>j.elim) (fun j=>sy (F:=fun kk r=>F kk ((i,[v])::r)) (fun r J=>u _ J) j) j
def M8 {o:Oper} {e:Env} {kk:Xab->T} (u:rG P o=true) (j:uq P o e kk L K h):dQ (fun kk=>uq P o e kk) kk L K h:=by
 obtain ⟨dst,op,V,pos,after,guard⟩:=o;cases op <;> simp only [rG,Bool.false_eq_true] at u <;> simp only [uq] at j ⊢
 case move x=>exact dq (F:=fun kk v=>kk v) (fun v hv=>cM hv) j
 case pick c x y =>
  refine dq (F:=fun kk c=>match c with
   | .bool b'=>cond b' (cg e x kk) (cg e y kk)
   | _=>T.fail) (fun v hv=>?_) j
  cases v <;> first | exact hv.elim | skip
  exact rT (F:=fun kk=>cg e x kk) (G:=fun kk=>cg e y kk) (fun j=>dq (F:=fun kk v=>kk v) (fun v hv=>cM hv) j) (fun j=>dq (F:=fun kk v=>kk v) (fun v hv=>cM hv) j) hv
 case build t ps =>
  refine oz (F:=fun kk vs=>match P.underlying t,(P.info? t).bind (·.zero) with
   | some (.struct fs),some z =>
    bif !(fs.all fun f=>nq P f.type) then T.fail else fm (fun i=>(fs[i]?).bind fun f=>cF P f.type) ((ps.toList.map (·.1)).zip vs) fun J=>match fA (((fs.map fun f=>(f.offset,P.cellsOf f.type)))[·]?) z.cells.toList J with
    | some cs=>kk (.agg cs.toArray)
    | none=>T.fail
   | some (.array _ U),some z =>
    bif !nq P U then T.fail else fm (fun _=>cF P U) ((ps.toList.map (·.1)).zip vs) fun J=>match fA (fun i=>some (i*P.cellsOf U,P.cellsOf U)) z.cells.toList J with
    | some cs=>kk (.agg cs.toArray)
    | none=>T.fail
   | _,_=>T.fail) (fun vs hv=>?_) j
  generalize P.underlying t=O at hv ⊢;generalize (P.info? t).bind (·.zero)=z at hv ⊢;cases O with
  | none=>exact hv.elim
  | some d =>
   cases d <;> first | exact hv.elim | skip
   case array len U =>
    cases z with
    | none=>exact hv.elim
    | some z =>
     refine rT (F:=fun _=>T.fail) (G:=fun kk=>fm (fun _=>cF P U) ((ps.toList.map (·.1)).zip vs) fun J=>match fA (fun i=>some (i*P.cellsOf U,P.cellsOf U)) z.cells.toList J with
      | some cs=>kk (.agg cs.toArray)
      | none=>T.fail) (fun j=>j.elim) (fun j=>?_) hv
     refine sy (F:=fun kk J=>match fA (fun i=>some (i*P.cellsOf U,P.cellsOf U)) z.cells.toList J with
      | some cs=>kk (.agg cs.toArray)
      | none=>T.fail) (fun J j=>?_) j
     cases X:fA (fun i=>some (i*P.cellsOf U,P.cellsOf U)) z.cells.toList J with
     | none=>simp only [X] at j; exact j.elim
     | some cs=>simp only [X] at j ⊢; exact cM j
   case struct fs =>
    cases z with
    | none=>exact hv.elim
    | some z =>
     refine rT (F:=fun _=>T.fail) (G:=fun kk=>fm (fun i=>(fs[i]?).bind fun f=>cF P f.type) ((ps.toList.map (·.1)).zip vs) fun J=>match fA (((fs.map fun f=>(f.offset,P.cellsOf f.type)))[·]?) z.cells.toList J with
      | some cs=>kk (.agg cs.toArray)
      | none=>T.fail) (fun j=>j.elim) (fun j=>?_) hv
     refine sy (F:=fun kk J=>match fA (((fs.map fun f=>(f.offset,P.cellsOf f.type)))[·]?) z.cells.toList J with
      | some cs=>kk (.agg cs.toArray)
      | none=>T.fail) (fun J j=>?_) j
     cases X:fA (((fs.map fun f=>(f.offset,P.cellsOf f.type)))[·]?) z.cells.toList J with
     | none=>simp only [X] at j; exact j.elim
     | some cs=>simp only [X] at j ⊢; exact cM j
 case nilCheck x =>
  refine dq (F:=fun kk v=>match v with
   | .pointer p=>T.bG p fun a=>kk (.pointer (some a))
   | .func (.func f) Z ca=>kk (.func (.func f) Z ca)
   | .iface t v=>kk (.iface t v)
   | _=>T.fail) (fun v hv=>?_) j
  cases v with
  | pointer p=>exact AI (F:=fun kk a=>kk (.pointer (some a))) (fun a Y=>cM Y) hv
  | func fn Z ca=>cases fn <;> first | exact hv.elim | exact cM hv
  | iface t w=>exact cM hv
  | _=>exact hv.elim
 case binOp op t x y yt =>
  refine dq (F:=fun kk a=>cg e y fun b=>Dp P op t x y a b kk) (fun a Y=>?_) j;refine dq (F:=fun kk b=>Dp P op t x y a b kk) (fun b hb=>?_) Y;unfold Dp at hb ⊢;simp only [u] at hb ⊢;exact Me hb
 case unOp op t x=>exact dq (F:=fun kk a=>UQ op a kk) (fun v hv=>Ui hv) j
 case convert s d x =>
  refine dq (F:=fun kk a=>xD P s d a kk) (fun v hv=>?_) j;unfold xD at hv ⊢;generalize P.underlying s=us at hv u ⊢;generalize P.underlying d=O at hv u ⊢;cases us with
  | none=>cases u
  | some us =>
   cases O with
   | none=>cases us <;> cases u
   | some O =>
    cases us <;> first | (cases O <;> cases u; done) | skip
    case int k=>cases O <;> first | (cases u; done) | (cases v <;> first | exact hv.elim | exact cM hv)
    case string=>cases O <;> first | (cases u; done) | (cases v <;> first | exact hv.elim | exact cM hv)
 case makeInterface t x =>
  refine dq (F:=fun kk a=>match P.underlying t with
   | some (.interface _)=>T.fail
   | some _=>kk (.iface t a)
   | none=>T.fail) (fun v hv=>?_) j
  generalize P.underlying t=O at hv ⊢;cases O with
  | none=>exact hv.elim
  | some d=>cases d <;> first | exact hv.elim | exact cM hv
 case makeFunc fn Z ca =>
  refine oz (F:=fun kk Z=>iv e ca.toList fun ca=>kk (.func fn Z.toArray ca.toArray)) (fun Z hv=>?_) j;exact oz (F:=fun kk ca=>kk (.func fn Z.toArray ca.toArray)) (fun ca hv=>cM hv) hv
 case slice t x lo hi mx =>
  cases mx with
  | some m=>cases u
  | none =>
  simp only at u;refine dq (F:=fun kk a=>iv e (lo.toList++hi.toList++(none:Option Operand).toList) fun vs=>UX P t lo hi none a vs kk) (fun a Y=>?_) j;refine oz (F:=fun kk vs=>UX P t lo hi none a vs kk) (fun vs hv=>?_) Y;unfold UX at hv ⊢;cases lo <;> cases hi <;> rcases vs with _ | ⟨l,_ | ⟨l2,_ | ⟨l3,vs⟩⟩⟩ <;> first
   | exact hv.elim
   | exact JK u hv
 case fieldAddr s x f =>
  refine dq (F:=fun kk v=>match v,P.underlying s with
   | .pointer p,some (.struct fs)=>match fs[f]? with
    | some fd=>match P.cellsOf fd.type with
     | 0=>T.fail
     | _+1=>T.bG p fun a=>kk (.pointer (some (a.add fd.offset)))
    | none=>T.fail
   | _,_=>T.fail) (fun v hv=>?_) j
  generalize P.underlying s=us at hv ⊢;cases v <;> first | exact hv.elim | skip
  cases us with
  | none=>exact hv.elim
  | some us =>
   cases us <;> first | exact hv.elim | skip
   rename_i fs;simp only at hv ⊢;cases X:fs[f]? with
   | none=>simp only [X] at hv; exact hv.elim
   | some fd =>
    simp only [X] at hv ⊢;cases hc:P.cellsOf fd.type with
    | zero=>simp only [hc] at hv; exact hv.elim
    | succ m=>simp only [hc] at hv ⊢; exact AI (F:=fun kk a=>kk (.pointer (some (a.add fd.offset)))) (fun a Y=>cM Y) hv
 case field s x f =>
  refine dq (F:=fun kk v=>match v,P.underlying s with
   | .agg cs,some (.struct fs)=>match fs[f]? with
    | some fd=>sV P fd.type cs.toList fd.offset kk
    | none=>T.fail
   | _,_=>T.fail) (fun v hv=>?_) j
  generalize P.underlying s=us at hv ⊢;cases v <;> first | exact hv.elim | skip
  cases us with
  | none=>exact hv.elim
  | some us =>
   cases us <;> first | exact hv.elim | skip
   rename_i fs;simp only at hv ⊢;cases X:fs[f]? with
   | none=>simp only [X] at hv; exact hv.elim
   | some fd=>simp only [X] at hv ⊢; exact KW hv
 case indexAddr t x i =>
  refine dq (F:=fun kk v=>cg e i fun i=>xY P t v i kk) (fun v hv=>?_) j;refine dq (F:=fun kk i=>xY P t v i kk) (fun i hi=>?_) hv;unfold xY at hi ⊢;generalize P.underlying t=us at hi ⊢;cases v <;> cases i <;> first | exact hi.elim | skip
  all_goals
   cases us with
   | none=>exact hi.elim
   | some us =>
    cases us <;> first | exact hi.elim | skip
    refine rT (F:=fun _=>T.fail) (fun j=>j.elim) (fun j=>?_) hi;exact pd (F:=fun kk=>T.bG _ fun a=>kk (.pointer (some (a.add (_*P.cellsOf _))))) (AI (F:=fun kk a=>kk (.pointer (some (a.add (_*P.cellsOf _))))) (fun a Y=>cM Y)) j
 case index t x i =>
  refine dq (F:=fun kk v=>cg e i fun i=>GG P t v i kk) (fun v hv=>?_) j;refine dq (F:=fun kk i=>GG P t v i kk) (fun i hi=>?_) hv;unfold GG at hi ⊢;generalize P.underlying t=us at hi u ⊢;cases us with
  | none=>cases u
  | some us =>
   cases us <;> simp only [Bool.false_eq_true] at u;cases v <;> cases i <;> first | exact hi.elim | exact pd (F:=fun kk=>kk _) cM hi
 case extract x i =>
  refine dq (F:=fun kk v=>match v with
   | .tuple vs=>match vs.toList[i]? with
    | some v=>kk v
    | none=>T.fail
   | _=>T.fail) (fun v hv=>?_) j
  cases v <;> first | exact hv.elim | skip
  rename_i vs;simp only at hv ⊢;cases hi:vs.toList[i]? with
  | none=>simp only [hi] at hv; exact hv.elim
  | some w=>simp only [hi] at hv ⊢; exact cM hv
 case call c =>
  cases hc:c.callee with
  | value f=>simp only [hc] at u; cases u
  | invoke r m=>simp only [hc] at u; cases u
  | builtin b =>
   simp only [hc] at u j ⊢;refine oz (F:=fun kk vs=>rk P b c V vs kk) (fun vs hv=>?_) j;cases b <;> simp only [Bool.false_eq_true] at u
   case len =>
    have hv:zt P c V vs kk L K h:=hv;show dQ (fun kk=>zt P c V vs kk) kk L K h;unfold zt at hv ⊢;generalize (c.argTypes[0]?).bind P.underlying=O at hv u ⊢;cases O with
    | none=>cases u
    | some d =>
     cases d <;> simp only [Bool.false_eq_true] at u
     all_goals
      rcases vs with _ | ⟨v,_ | ⟨v2,l⟩⟩ <;> first | exact hv.elim | skip
      all_goals cases v <;> first | exact hv.elim | exact cM hv
   case cap =>
    have hv:JM P c vs kk L K h:=hv;show dQ (fun kk=>JM P c vs kk) kk L K h;unfold JM at hv ⊢;generalize (c.argTypes[0]?).bind P.underlying=O at hv u ⊢;cases O with
    | none=>cases u
    | some d =>
     cases d <;> simp only [Bool.false_eq_true] at u
     all_goals
      rcases vs with _ | ⟨v,_ | ⟨v2,l⟩⟩ <;> first | exact hv.elim | skip
      all_goals cases v <;> first | exact hv.elim | exact cM hv
end pures
section draws
variable {P:Program} {n:Nd} {ops:Array Oper}
theorem gF {x:Nat}:∀ {l:List Nat},sI x l=true↔x∈l
 | []=>by simp [sI]
 | y::l=>by
  simp only [sI,Bool.or_eq_true,List.mem_cons,gF (l:=l)];constructor
  ·rintro (h | h)
   ·exact .inl (Zf h)
   ·exact .inr h
  ·rintro (h | h)
   ·subst h; exact .inl aj
   ·exact .inr h
theorem Ia {p:Nat × Oper}:∀ {l:List Oper} {k:Nat},p∈idx k l↔∃ j,l[j]?=some p.2/\p.1=k+j
 | [],k=>by simp [idx]
 | o::l,k=>by
  simp only [idx,List.mem_cons,Ia (l:=l)];constructor
  ·rintro (h | ⟨j,h1,h2⟩)
   ·subst h; exact ⟨0,aj,aj⟩
   ·exact ⟨j+1,by simpa using h1,ad⟩
  ·rintro ⟨j,h1,h2⟩;cases j with
   | zero=>left; simp at h1; subst h1; obtain ⟨a,b⟩:=p; simp at h2; subst h2; rfl
   | succ j=>right; exact ⟨j,by simpa using h1,ad⟩
def iM {i:Nat} {o:Oper}:(i,o)∈idx 0 ops.toList↔ops[i]?=some o:=by
 rw [Ia];constructor
 ·rintro ⟨j,h1,h2⟩;simp at h2; subst h2;simpa using h1
 ·intro h; exact ⟨i,by simpa using h,aj⟩
def N3 (j:ej P n ops=true) {i:Nat} {x:Oper} (hi:ops[i]?=some x) {d:Nat} (u:x.dst=some d):d<n:=by
 unfold ej at j;rw [Zz] at j;have h1:=Zx.1 j.1 (i,x) (iM.2 hi);simp only [u] at h1;simpa [Nat.blt_eq] using h1
def GK (j:ej P n ops=true) {i:Nat} {x:Oper} (hi:ops[i]?=some x) {d:Nat} (u:x.dst=some d) (hc:calm P x=true):d∉looks ops x:=by
 unfold ej at j;rw [Zz] at j;have h1:=Zx.1 (Zx.1 j.2 (i,x) (iM.2 hi)) (i,x) (iM.2 hi);unfold HT at h1;have hb:Nat.beq i i=true:=aj
 simp only [hb,u,hc,Bool.not_true,Bool.false_or,Bool.not_eq_true'] at h1;intro hl;rw [gF.2 hl] at h1; cases h1
def oh (u:ej P n ops=true) {i j:Nat} {x y:Oper} (hi:ops[i]?=some x) (O:ops[j]?=some y) (G:i≠j) :
  (∀ d,y.dst=some d->d∈looks ops x->j∈waits x\/(i∈waits y/\calm P y=false))/\(∀ d,x.dst=some d->calm P x=true->y.dst≠some d):=by
 unfold ej at u;rw [Zz] at u;have h1:=Zx.1 (Zx.1 u.2 (i,x) (iM.2 hi)) (j,y) (iM.2 O);unfold HT at h1;have hb:Nat.beq i j=false:=by
  cases hb:Nat.beq i j
  ·rfl
  ·exact (G (Zf hb)).elim
 simp only [hb,Bool.and_eq_true] at h1;refine ⟨fun d J hl=>?_,fun d J hc hy=>?_⟩
 ·have h2:=h1.1;simp only [J,Bool.or_eq_true,Bool.and_eq_true,Bool.not_eq_true'] at h2;rcases h2 with (h2 | h2) | ⟨h2,h3⟩
  ·have:=gF.2 hl; rw [this] at h2; cases h2
  ·exact .inl (gF.1 h2)
  ·exact .inr ⟨gF.1 h2,h3⟩
 ·have h2:=h1.2;simp only [J,hc,hy,ml] at h2;simp at h2
def AG (ops:Array Oper) (o:Oper) (e:Env) (b:Bool):Prop :=
 match o.guard with
 | none=>b=true
 | some (j,w)=>match (ops[j]?).bind (·.dst) with
  | none=>b=false
  | some d=>(∃ t,cQ e d=some (.bool t)/\b=(t==w))\/(∃ vs,cQ e d=some (.tuple vs)/\b=false)
def xO {o:Oper} {j d:Nat} {w:Bool} (u:o.guard=some (j,w)) (G:(ops[j]?).bind (·.dst)=some d):d∈looks ops o:=by
 unfold looks;rw [u];simp only [G];exact ZE _ aj
def AG.wanted {o:Oper} {e:Env} {b:Bool} (h:AG ops o e b) {tm:Array Xab} (J:∀ s∈looks ops o,∀ v,cQ e s=some v->tm.getD s undef=v) :
  Region.wanted o (yielded ops tm)=b:=by
 unfold AG at h;cases G:o.guard with
 | none=>simp only [G] at h; subst h; exact xB G
 | some p =>
  obtain ⟨j,w⟩:=p;simp only [G] at h;rw [xI G];cases u:(ops[j]?).bind (·.dst) with
  | none=>simp only [u] at h; subst h; simp [yielded,u]
  | some d =>
   simp only [u] at h;have hl:=xO G u;rcases h with ⟨t,h1,rfl⟩ | ⟨vs,h1,rfl⟩
   ·rw [vf u (J d hl _ h1)]; cases t <;> cases w <;> rfl
   ·rw [sT u (J d hl _ h1)]; rfl
def AG.congr {o:Oper} {e e':Env} {b:Bool} (h:AG ops o e b) (J:∀ s∈looks ops o,cQ e' s=cQ e s):AG ops o e' b:=by
 unfold AG at h ⊢;cases u:o.guard with
 | none=>simp only [u] at h ⊢; exact h
 | some p =>
  obtain ⟨j,w⟩:=p;simp only [u] at h ⊢;cases G:(ops[j]?).bind (·.dst) with
  | none=>simp only [G] at h ⊢; exact h
  | some d=>simp only [G] at h ⊢; rw [J d (xO u G)]; exact h
def rY {e:Env} {d:Nat} {v:Xab} (h:cQ e d=some v) (s:Nat):cQ (dZ n e (some d) v) s=cQ e s:=by
 simp only [dZ];cases Nat.blt d n with
 | false=>rfl
 | true =>
  simp only [cond_true,dA]
  by_cases hs:d=s
  ·subst hs; rw [Y8 rfl,h]
  ·rw [Y2 hs]
def zq {o:Oper} {e:Env} {G no:Env->T} {L:Lp} {K:Xab->Hp->Prop} {h:Hp} (u:lx n ops o e G no L K h) :
  ∃ e' b,(∀ s,cQ e' s=cQ e s)/\AG ops o e b/\((b=true/\G e' L K h)\/(b=false/\no e' L K h)):=by
 unfold lx guardOf at u;unfold AG;cases J:o.guard with
 | none=>simp only [J] at u ⊢; exact ⟨e,true,fun _=>rfl,rfl,.inl ⟨rfl,u⟩⟩
 | some p =>
  obtain ⟨j,w⟩:=p;simp only [J] at u ⊢;cases O:(ops[j]?).bind (·.dst) with
  | none=>simp only [O] at u ⊢; exact ⟨e,false,fun _=>rfl,rfl,.inr ⟨rfl,u⟩⟩
  | some d =>
   simp only [O] at u ⊢;cases hv:cQ e d with
   | none=>simp only [hv] at u; exact u.elim
   | some v =>
    cases v <;> simp only [hv] at u <;> first | exact u.elim | skip
    case tuple vs=>exact ⟨e,false,fun _=>rfl,.inr ⟨vs,rfl,rfl⟩,.inr ⟨rfl,u⟩⟩
    case bool b =>
     cases w <;> simp only at u <;> rcases fN u with ⟨hb,u⟩ | ⟨hb,u⟩ <;> subst hb
     ·exact ⟨_,false,rY hv,.inl ⟨true,rfl,rfl⟩,.inr ⟨rfl,u⟩⟩
     ·exact ⟨_,true,rY hv,.inl ⟨false,rfl,rfl⟩,.inl ⟨rfl,u⟩⟩
     ·exact ⟨_,true,rY hv,.inl ⟨true,rfl,rfl⟩,.inl ⟨rfl,u⟩⟩
     ·exact ⟨_,false,rY hv,.inl ⟨false,rfl,rfl⟩,.inr ⟨rfl,u⟩⟩
def only (e:Env) (l:List Nat):Env:=l.filterMap fun s=>(cQ e s).map fun v=>(s,some v)
theorem r8 {e:Env}:∀ {l:List Nat} {s:Nat},cQ (only e l) s=if s∈l then cQ e s else none
 | [],s=>by simp [only,cQ]
 | t::l,s=>by
  unfold only;rw [List.filterMap_cons];cases hv:cQ e t with
  | none =>
   simp only [Option.map_none];rw [show List.filterMap (fun s=>(cQ e s).map fun v=>(s,some v)) l=only e l from rfl,r8]
   by_cases h1:s∈l
   ·simp [h1]
   ·by_cases h2:s=t
    ·subst h2; simp [h1,hv]
    ·simp [h1,h2]
  | some v =>
   simp only [Option.map_some];rw [dA,show List.filterMap (fun s=>(cQ e s).map fun v=>(s,some v)) l=only e l from rfl,r8]
   by_cases h1:t=s
   ·subst h1; simp [hv]
   ·have h2:¬ s=t:=fun j=>h1 j.symm
    simp [h1,h2]
def xt {o:Oper} {t:Nat} (h:Operand.tmp t∈o.op.operands):t∈looks ops o:=by
 unfold looks;refine Zq _ (av9.2 ⟨.tmp t,by simpa using h,rfl⟩)
def EF {o:Oper} {e:Env} {kk:Xab->T}:uq P o (only e (looks ops o)) kk=uq P o e kk:=by
 refine wP (fun x hx=>?_) kk;cases x <;> try rfl
 rename_i t;simp only [ev];rw [r8,Y8 (xt hx)]
def D8 {e:Env} {a:Act} {l:List Nat} (hs:a.tmps.size=n.n) (j:a.defers=n.d) (h:∀ s∈l,∀ v,cQ e s=some v->a.tmps.getD s undef=v):gK n (only e l) a:=by
 refine ⟨hs,j,fun s v hv=>?_⟩;rw [r8] at hv;split at hv
 ·rename_i hm; exact h s hm v hv
 ·cases hv
def NZ (P : Program) (n : Nd) (ops : Array Oper) (e : Env) (m : Made) (h : Hp) (i : Nat) (o : Oper) : Prop :=
  calm P o = true /\ ∃ v b, (∀ d, o.dst = some d -> d < n -> cQ e d = some v) /\ AG ops o e b /\
    ((b = false /\ v = undef) \/ (b = true /\ ((∀ (kk : Xab -> T) L K h', kk v L K h' -> uq P o e kk L K h') \/
      (∃ p l, (i, p, l) ∈ m /\ aI h p 0 l /\ ∀ (kk : Xab -> T) L K h', aI h' p 0 l -> kk v L K h' -> uq P o e kk L K h'))))
def yZ (ops:Array Oper):List Nat->Prop
 | []=>True
 | i::D=>i∉D/\(∀ o,ops[i]?=some o->∀ j∈waits o,j∈D)/\yZ ops D
structure qO (P:Program) (n:Nd) (ops:Array Oper) (e0:Env) (listed:Array Bool) (a:Act) (h:Hp) (D:List Nat) (e:Env) (m:Made):Prop where
 uQ:listed.size=ops.size
 size:a.tmps.size=n.n
 defers:a.defers=n.d
 lD:∀ i,listed[i]?=some true->i∈D
 dD:∀ i∈D,∃ o,ops[i]?=some o
 closed:yZ ops D
 V3:∀ s v,cQ e s=some v->(∀ j∈D,∀ o,ops[j]?=some o->listed[j]?=some false->o.dst≠some s)->a.tmps.getD s undef=v
 Ol:∀ i∈D,∀ o,ops[i]?=some o->listed[i]?=some false->NZ P n ops e m h i o
 fr:Fr (dstsOf ops) e0 e
theorem rj:∀ {D:List Nat},yZ ops D->∀ i∈D,∀ o,ops[i]?=some o->∀ j∈waits o,j∈D
 | i'::D,hc,i,hi,o,u,j,G=>by
  rcases Zo.1 hi with rfl | hi
  ·exact Zd _ (hc.2.1 o u j G)
  ·exact Zd _ (rj hc.2.2 i hi o u j G)
theorem sX (listed:Array Bool):∀ {D:List Nat},yZ ops D->(∀ i∈D,∃ o,ops[i]?=some o)->(∃ i∈D,listed[i]?=some false)->(∀ i∈D,listed[i]?=some true\/listed[i]?=some false) ->
  ∃ i∈D,listed[i]?=some false/\∀ o,ops[i]?=some o->∀ j∈waits o,listed[j]?=some true
 | i'::D,hc,V,⟨i,hi,U⟩,u=>by
  by_cases G:∃ i∈D,listed[i]?=some false
  ·obtain ⟨k,hk,h1,h2⟩:=sX listed hc.2.2 (fun i hi=>V i (Zd _ hi)) G (fun i hi=>u i (Zd _ hi));exact ⟨k,Zd _ hk,h1,h2⟩
  ·have O:i=i':=by
    rcases Zo.1 hi with h | h
    ·exact h
    ·exact (G ⟨i,h,U⟩).elim
   subst O;refine ⟨i,aj,U,fun o X j Y=>?_⟩;have J:=hc.2.1 o X j Y;rcases u j (Zd _ J) with h | h
   ·exact h
   ·exact (G ⟨j,J,h⟩).elim
def kf {e:Env} {dst:Option Tmp} {v:Xab} {s:Nat} (j:dst≠some s):cQ (dZ n e dst v) s=cQ e s:=by
 cases dst with
 | none=>rfl
 | some d =>
  simp only [dZ];cases Nat.blt d n with
  | false=>rfl
  | true=>simp only [cond_true,dA]; rw [Y2 (fun u:d=s=>j (by rw [u]))]
def tk {e:Env} {d:Nat} {v:Xab} (j:d<n):cQ (dZ n e (some d) v) d=some v:=by
 have hb:Nat.blt d n=true:=by rw [Nat.blt_eq]; exact j
 simp only [dZ,hb,cond_true,dA,if_true]
def Ix {a:Act} {dst:Option Tmp} {v:Xab} {s:Nat} (u:dst≠some s):(a.put dst v).tmps.getD s undef=a.tmps.getD s undef:=by
 cases dst with
 | none=>rfl
 | some d =>
  have j:d≠s:=fun G=>u (by rw [G])
  simp [Act.put,Array.getD_eq_getD_getElem?,Array.getElem?_setIfInBounds,j]
def uC {a:Act} {d:Nat} {v:Xab} (j:d<a.tmps.size):(a.put (some d) v).tmps.getD d undef=v:=by
 simp [Act.put,Array.getD_eq_getD_getElem?,Array.getElem?_setIfInBounds,j]
def Et (a:Act) (dst:Option Tmp) (v:Xab):(a.put dst v).tmps.size=a.tmps.size:=by cases dst <;> simp [Act.put]
def put_defers (a:Act) (dst:Option Tmp) (v:Xab):(a.put dst v).defers=a.defers:=by cases dst <;> rfl
variable {e0:Env} {listed:Array Bool} {a:Act} {h:Hp} {D:List Nat} {e:Env} {m:Made}
def FO {i:Nat} {o:Oper} (u:ops[i]?=some o) {d:Nat} (G:o.dst=some d):d∈dstsOf ops:=Ip (j:=i) (by rw [u]; exact G)
def Fr.step {n:Nat} {l:List Nat} {e0 e e':Env} {o:Oper} {v:Xab} (h:Fr l e0 e) (j:∀ s,cQ e' s=cQ e s) (u:∀ d,o.dst=some d->d∈l):Fr l e0 (Sx.dZ n e' o.dst v) :=
 (h.trans (fun s _=>j s)).trans (Fr.dZ n e' v u)
def qO.vV (I:qO P n ops e0 listed a h D e m) {i:Nat} {o:Oper} (G:ops[i]?=some o) (hn:listed[i]?≠some true):listed[i]?=some false:=by
 have u:i<ops.size:=by
  rcases ZS i ops.size with h | h
  ·exact h
  ·rw [ZT h] at G; cases G
 have j:i<listed.size:=by rw [I.uQ]; exact u
 rw [ah9 j] at hn ⊢;cases hb:listed[i] with
 | false=>rfl
 | true=>rw [hb] at hn; exact (hn rfl).elim
def qO.IX (G:ej P n ops=true) (I:qO P n ops e0 listed a h D e m) {i:Nat} {o:Oper} (U:ops[i]?=some o) (Y:∀ j∈waits o,listed[j]?=some true)
  (hi:i∉D\/calm P o=true):∀ s∈looks ops o,∀ v,cQ e s=some v->a.tmps.getD s undef=v:=by
 intro s hs v hv;refine I.V3 s v hv ?_;intro j Z oj u V X;have J:=(I.Ol j Z oj u V).1
 by_cases O:i=j
 ·subst O;rw [U] at u; obtain rfl:=Zn u;exact GK G U X J hs
 ·rcases (oh G U u O).1 s X hs with h1 | ⟨_,h1⟩
  ·rw [Y j h1] at V; cases V
  ·rw [J] at h1; cases h1
def qO.exec (Y:ej P n ops=true) (I:qO P n ops e0 listed a h D e m) {i:Nat} {o:Oper} (ho:ops[i]?=some o) (Z:i∈D) (hf:listed[i]?=some false) {v:Xab}
  (hv:∀ d,o.dst=some d->cQ e d=some v) (hc:calm P o=true):qO P n ops e0 (listed.setIfInBounds i true) (a.put o.dst v) h D e m:=by
 have hlt:i<listed.size:=by
  rcases ZS i listed.size with h | h
  ·exact h
  ·rw [ZT h] at hf; cases hf
 have kR:∀ j,(listed.setIfInBounds i true)[j]?=if i=j then some true else listed[j]?:=by
  intro j;rw [ak9]
  by_cases G:i=j
  ·subst G; simp [hlt]
  ·simp [G]
 refine ⟨by simp [I.uQ],by rw [Et,I.size],by rw [put_defers,I.defers],?_,I.dD,I.closed,?_,?_,I.fr⟩
 ·intro j U;rw [kR] at U
  by_cases G:i=j
  ·subst G; exact Z
  ·rw [Y2 G] at U; exact I.lD j U
 ·intro s u hu hno
  by_cases V:o.dst=some s
  ·rw [V];rw [hv s V] at hu;obtain rfl:=Zn hu;exact uC (by rw [I.size]; exact N3 Y ho V)
  ·rw [Ix V];refine I.V3 s u hu ?_;intro j U oj O J X
   by_cases G:i=j
   ·subst G; rw [ho] at O; obtain rfl:=Zn O; exact V X
   ·exact hno j U oj O (by rw [kR,Y2 G]; exact J) X
 ·intro j U oj O J;rw [kR] at J
  by_cases G:i=j
  ·rw [Y8 G] at J; cases J
  ·rw [Y2 G] at J; exact I.Ol j U oj O J
def NZ.congr {e e':Env} {m m':Made} {h h':Hp} {i:Nat} {o:Oper} (G:NZ P n ops e m h i o) (hl:∀ s∈looks ops o,cQ e' s=cQ e s) (J:∀ d,o.dst=some d->cQ e' d=cQ e d)
  (hm:∀ p l,(i,p,l)∈m->aI h p 0 l->(i,p,l)∈m'/\aI h' p 0 l):NZ P n ops e' m' h' i o:=by
 obtain ⟨hc,v,b,h1,h2,h3⟩:=G;have hx:∀ kk,uq P o e' kk=uq P o e kk:=fun kk=>wP (fun x hx=>by
  cases x <;> try rfl
  exact hl _ (xt hx)) kk
 refine ⟨hc,v,b,fun d j u=>by rw [J d j]; exact h1 d j u,h2.congr hl,?_⟩;rcases h3 with h3 | ⟨hb,h3 | ⟨p,l,h3,h4,h5⟩⟩
 ·exact .inl h3
 ·exact .inr ⟨hb,.inl fun kk L K h' hk=>by rw [hx]; exact h3 kk L K h' hk⟩
 ·obtain ⟨h6,h7⟩:=hm p l h3 h4;exact .inr ⟨hb,.inr ⟨p,l,h6,h7,fun kk L K h' hc hk=>by rw [hx]; exact h5 kk L K h' hc hk⟩⟩
def qO.ahead (X:ej P n ops=true) (I:qO P n ops e0 listed a h D e m) {i:Nat} {o:Oper} (U:ops[i]?=some o) (O:i∉D) (hw:∀ j∈waits o,j∈D) (hc:calm P o=true)
  {v:Xab} {e':Env} (he:∀ s,cQ e' s=cQ e s) {m':Made} (hm:∀ x∈m,x∈m')
  (hp:NZ P n ops (dZ n e' o.dst v) m' h i o):qO P n ops e0 listed a h (i::D) (dZ n e' o.dst v) m':=by
 have hfi:listed[i]?=some false:=I.vV U (fun hh=>O (I.lD i hh));refine ⟨I.uQ,I.size,I.defers,fun j J=>Zd _ (I.lD j J),?_,⟨O,?_,I.closed⟩,?_,?_,I.fr.step he (fun d V=>FO U V)⟩
 ·intro j J;rcases Zo.1 J with rfl | J
  ·exact ⟨o,U⟩
  ·exact I.dD j J
 ·intro o' Y j J;rw [U] at Y; obtain rfl:=Zn Y;exact hw j J
 ·intro s u hu Z;have V:o.dst≠some s:=Z i aj o U hfi;rw [kf V,he] at hu;exact I.V3 s u hu fun j J oj G hf=>Z j (Zd _ J) oj G hf
 ·intro j J oj G hf;rcases Zo.1 J with rfl | J
  ·rw [U] at G; obtain rfl:=Zn G; exact hp
  ·have hne:j≠i:=fun hh=>O (hh▸J)
   have hpj:=I.Ol j J oj G hf;refine hpj.congr ?_ ?_ (fun p l h1 h2=>⟨hm _ h1,h2⟩)
   ·intro s hs
    by_cases V:o.dst=some s
    ·exfalso;rcases (oh X G U hne).1 s V hs with h1 | ⟨_,h1⟩
     ·exact O (rj I.closed j J oj G i h1)
     ·rw [hc] at h1; cases h1
    ·rw [kf V,he]
   ·intro d V;rw [kf ((oh X G U hne).2 d V hpj.1),he]
def qO.effect (Z:ej P n ops=true) (I:qO P n ops e0 listed a h D e m) {i:Nat} {o:Oper} (ho:ops[i]?=some o) (X:i∉D) (hr:∀ j∈waits o,listed[j]?=some true) (hc:calm P o=false)
  {v:Xab} {e':Env} (he:∀ s,cQ e' s=cQ e s) {h':Hp} (hst:∀ j p l,(j,p,l)∈m->aI h p 0 l->j∉waits o->aI h' p 0 l) :
  qO P n ops e0 (listed.setIfInBounds i true) (a.put o.dst v) h' (i::D) (dZ n e' o.dst v) m:=by
 have hfi:listed[i]?=some false:=I.vV ho (fun U=>X (I.lD i U));have hlt:i<listed.size:=by
  rcases ZS i listed.size with h | h
  ·exact h
  ·rw [ZT h] at hfi; cases hfi
 have kR:∀ j,(listed.setIfInBounds i true)[j]?=if i=j then some true else listed[j]?:=by
  intro j;rw [ak9]
  by_cases G:i=j
  ·subst G; simp [hlt]
  ·simp [G]
 refine ⟨by simp [I.uQ],by rw [Et,I.size],by rw [put_defers,I.defers],?_,?_,⟨X,?_,I.closed⟩,?_,?_,I.fr.step he (fun d V=>FO ho V)⟩
 ·intro j J;rw [kR] at J
  by_cases G:i=j
  ·subst G; simp
  ·rw [Y2 G] at J; exact Zd _ (I.lD j J)
 ·intro j J;rcases Zo.1 J with rfl | J
  ·exact ⟨o,ho⟩
  ·exact I.dD j J
 ·intro o' ho' j J;rw [ho] at ho'; obtain rfl:=Zn ho';exact I.lD j (hr j J)
 ·intro s u hu hno
  by_cases V:o.dst=some s
  ·rw [V] at hu ⊢;have hdn:=N3 Z ho V;rw [tk hdn] at hu;obtain rfl:=Zn hu;exact uC (by rw [I.size]; exact hdn)
  ·rw [kf V,he] at hu;rw [Ix V];refine I.V3 s u hu ?_;intro j J oj O Y;have hne:i≠j:=fun U=>X (U▸J)
   exact hno j (Zd _ J) oj O (by rw [kR,Y2 hne]; exact Y)
 ·intro j J oj O Y;rw [kR] at Y
  by_cases G:i=j
  ·rw [Y8 G] at Y; cases Y
  ·rw [Y2 G] at Y;rcases Zo.1 J with U | J
   ·exact (G U.symm).elim
   ·have hpj:=I.Ol j J oj O Y;have hnw:j∉waits o:=fun U=>by rw [hr j U] at Y; cases Y
    refine hpj.congr ?_ ?_ (fun p l h1 h2=>⟨h1,hst j p l h1 h2 hnw⟩)
    ·intro s hs
     by_cases V:o.dst=some s
     ·exfalso;rcases (oh Z O ho (fun U=>G U.symm)).1 s V hs with h1 | ⟨h1,_⟩
      ·exact X (rj I.closed j J oj O i h1)
      ·exact hnw h1
     ·rw [kf V,he]
    ·intro d V;rw [kf ((oh Z O ho (fun U=>G U.symm)).2 d V hpj.1),he]
def ow {listed:Array Bool} (hs:listed.size=ops.size) {i:Nat}:i∈Region.ready .any ops listed↔∃ o,ops[i]?=some o/\listed[i]?=some false/\∀ j∈waits o,listed[j]?=some true:=by
 unfold Region.ready;rw [List.mem_filter,aw9];constructor
 ·rintro ⟨u,Y⟩;rw [Zz] at Y;obtain ⟨h1,h2⟩:=Y;have O:ops[i]?=some ops[i]:=ah9 u;rw [O] at h2;refine ⟨ops[i],O,?_,?_⟩
  ·have G:i<listed.size:=by rw [hs]; exact u
   rw [ah9 G];simp only [Bool.not_eq_true',Array.getD_eq_getD_getElem?,Array.getElem?_eq_getElem G,Option.getD_some] at h1;rw [h1]
  ·intro j Z;simp only [Option.map_some,Option.getD_some] at h2;unfold waits at Z;obtain ⟨U,J,rfl⟩:=Za.1 Z;obtain ⟨V,X⟩:=List.mem_filter.1 J;have h3:=(Array.all_eq_true_iff_forall_mem.1 h2) U (by simpa using V);rw [X] at h3;simp only [Bool.not_true,Bool.false_or,Array.getD_eq_getD_getElem?] at h3;cases hx:listed[U.on]? with
   | none=>rw [hx] at h3; cases h3
   | some b=>rw [hx] at h3; simp at h3; rw [h3]
 ·rintro ⟨o,O,h1,h2⟩;have u:i<ops.size:=by
   rcases ZS i ops.size with h | h
   ·exact h
   ·rw [ZT h] at O; cases O
  refine ⟨u,?_⟩;rw [Zz];refine ⟨by simp [Array.getD_eq_getD_getElem?,h1],?_⟩;rw [O];simp only [Option.map_some,Option.getD_some];refine Array.all_eq_true_iff_forall_mem.2 fun U J=>?_
  cases hb:Region.binds .any U with
  | false=>rfl
  | true =>
   have:=h2 U.on (Za.2 ⟨U,List.mem_filter.2 ⟨by simpa using J,hb⟩,rfl⟩)
   simp [Array.getD_eq_getD_getElem?,this]
theorem fF {D:List Nat} {c:Bool} {p:Nat × Oper}:∀ {l:List (Nat × Oper)},p∈cY P D c l↔p∈l/\xr D p.1 p.2=true/\calm P p.2=c
 | []=>by simp [cY]
 | q::l=>by
  unfold cY;cases hb:xr D q.1 q.2 && (calm P q.2==c) with
  | true =>
   rw [Zz] at hb;simp only [List.mem_cons,fF (l:=l)];constructor
   ·rintro (rfl | h)
    ·exact ⟨.inl rfl,hb.1,by simpa using hb.2⟩
    ·exact ⟨.inr h.1,h.2⟩
   ·rintro ⟨rfl | h,h2⟩
    ·exact .inl rfl
    ·exact .inr ⟨h,h2⟩
  | false =>
   simp only [List.mem_cons,fF (l:=l)];constructor
   ·rintro ⟨h1,h2⟩; exact ⟨.inr h1,h2⟩
   ·rintro ⟨rfl | h,h2⟩
    ·rw [h2.1,h2.2] at hb; simp at hb
    ·exact ⟨h,h2⟩
def tL {D:List Nat} {i:Nat} {o:Oper}:xr D i o=true↔i∉D/\∀ j∈waits o,j∈D:=by
 unfold xr;rw [Zz];constructor
 ·rintro ⟨h1,h2⟩;refine ⟨fun G=>?_,fun j u=>gF.1 (Zx.1 h2 j u)⟩;rw [gF.2 G] at h1; cases h1
 ·rintro ⟨h1,h2⟩;refine ⟨?_,Zx.2 fun j u=>gF.2 (h2 j u)⟩;cases hb:sI i D with
  | false=>rfl
  | true=>exact (h1 (gF.1 hb)).elim
def Q8 {L:Lp} {K:Xab->Hp->Prop} {h:Hp} {o:Oper} {m:Made} {t:T} (O:uU (kg o m) t L K h):t L K h/\∀ j p l,(j,p,l)∈m->j∉waits o->aI h p 0 l:=by
 have h1:∀ l:List (Xax × List Xab),uU l t L K h->T.DF h l/\t L K h:=by
  intro l hl;cases l with
  | nil=>exact ⟨trivial,hl⟩
  | cons p l=>exact hl
 obtain ⟨h2,h3⟩:=h1 _ O;refine ⟨h3,?_⟩;clear O h1 h3
 induction m with
 | nil=>intro j p l u; cases u
 | cons x m U =>
  obtain ⟨i,q,V⟩:=x;intro j p l u G;unfold kg at h2;cases hb:sI i (waits o) with
  | true =>
   rw [hb] at h2;rcases Zo.1 u with J | u
   ·simp only [Prod.mk.injEq] at J;obtain ⟨rfl,rfl,rfl⟩:=J;exact (G (gF.1 hb)).elim
   ·exact U h2 j p l u G
  | false =>
   rw [hb] at h2;simp only [cond_false] at h2;rcases Zo.1 u with J | u
   ·simp only [Prod.mk.injEq] at J;obtain ⟨rfl,rfl,rfl⟩:=J;exact h2.1
   ·exact U h2.2 j p l u G
theorem Qy {L:Lp} {K:Xab->Hp->Prop} {h:Hp}:∀ {ts:List T} {t:T},t∈ts->TY ts L K h->t L K h
 | [],t,j,_=>by cases j
 | [u],t,j,hx=>by simp at j; subst j; exact hx
 | u::O::ts,t,j,hx=>by
  have:∀ ts:List T,t∈ts->T.every L K h ts->t L K h:=by
   intro ts
   induction ts with
   | nil=>intro G; cases G
   | cons v ts J =>
    intro G hx;rcases Zo.1 G with rfl | G
    ·exact hx.1
    ·exact J G hx.2
  exact this _ j hx
def left (listed:Array Bool):Nat:=(listed.toList.filter fun b=>!b).length
theorem B5:∀ (l:List Bool) (i:Nat),l[i]?=some false->((l.set i true).filter fun b=>!b).length+1=(l.filter fun b=>!b).length
 | [],i,h=>by simp at h
 | b::l,0,h=>by simp at h; subst h; simp
 | b::l,i+1,h=>by
  simp at h
  have:=B5 l i h
  cases b
  ·simp only [List.set_cons_succ,List.filter_cons,Bool.not_false,if_true,List.length_cons]; omega
  ·simp only [List.set_cons_succ,List.filter_cons,Bool.not_true,Bool.false_eq_true,if_false]; exact this
def Ee {listed:Array Bool} {i:Nat} (j:listed[i]?=some false):left (listed.setIfInBounds i true)+1=left listed:=by
 unfold left;rw [Array.toList_setIfInBounds];exact B5 _ i (by simpa using j)
def KK {listed:Array Bool} (h0:left listed=0) (i:Nat):listed[i]?≠some false:=by
 intro j
 have:=Ee j
 omega
def HJ (v:Xab) (h:Hp):Xab->T:=fun v' _ _ h'=>v'=v/\h'=h
def Qk (O:ej P n ops=true) {L:Lp} {K:Xab->Hp->Prop} {k:Env->T} {Q:Exit->Act->World->Prop} {w0:World} {i:Nat}
  {listed:Array Bool} {a:Act} {w:World} {R:Act->World->Prop} (hi:i∈Region.ready .any ops listed) (hs:dI w0 w)
  (next:∀ a' w' D e m fu,dI w0 w'->qO P n ops e0 (listed.setIfInBounds i true) a' w'.heap D e m->fW P n ops fu D e m k L K w'.heap->R a' w') :
  ∀ fu D e m,qO P n ops e0 listed a w.heap D e m->fW P n ops fu D e m k L K w.heap->wpOp P ops Q i R a w:=by
 intro fu
 induction fu with
 | zero=>intro D e m I ht; exact ht.elim
 | succ fu ih =>
  intro D e m I ht;obtain ⟨o,ho,hf,hr⟩:=(ow I.uQ).1 hi
  by_cases hiD:i∈D
  ·
   obtain ⟨hc,v,b,hv,hg,hx⟩:=I.Ol i hiD o ho hf;have hlk:=I.IX O ho hr (.inr hc);have U:=hg.wanted hlk;have hv':∀ d,o.dst=some d->cQ e d=some v:=fun d hd=>hv d hd (N3 O ho hd)
   unfold wpOp;rw [ho];simp only;have I':=I.exec O ho hiD hf hv' hc;rcases hx with ⟨rfl,rfl⟩ | ⟨rfl,hx⟩
   ·rw [Y2 (by simp [U])];exact next _ _ D e m (fu+1) hs I' ht
   ·rw [Y8 U];refine .inl ?_;have Z:Xj P o a.eval w.heap (fun v' h'=>v'=v/\h'=w.heap):=by
     have hxx:uq P o e (HJ v w.heap) [] (fun _ _=>True) w.heap:=by
      rcases hx with hx | ⟨p,l,_,hcl,hx⟩
      ·exact hx (HJ v w.heap) [] (fun _ _=>True) w.heap ⟨rfl,rfl⟩
      ·exact hx (HJ v w.heap) [] (fun _ _=>True) w.heap hcl ⟨rfl,rfl⟩
     rw [<- EF (ops:=ops)] at hxx;exact G2 (D8 I.size I.defers hlk) hxx
    refine xn Z ?_;rintro v' w' hs' ⟨rfl,hh⟩;refine next _ _ D e m (fu+1) (hs.trans hs') (by rw [hh]; exact I') (by rw [hh]; exact ht)
  ·unfold fW at ht;cases X:cY P D true (idx 0 ops.toList) with
   | cons q qs =>
    obtain ⟨j,V⟩:=q;simp only [X] at ht;have hq:(j,V)∈cY P D true (idx 0 ops.toList):=by rw [X]; simp
    obtain ⟨hq1,hq2,Y⟩:=fF.1 hq;have hoj:=iM.1 hq1;obtain ⟨hjD,hjw⟩:=tL.1 hq2;obtain ⟨e',b,he,hg,hx⟩:=zq ht;have hg':∀ u,AG ops V (dZ n e' V.dst u) b:=fun u=>hg.congr fun s hs=>by
     by_cases hd:V.dst=some s
     ·exact (GK O hoj hd Y hs).elim
     ·rw [kf hd,he]
    have hself:∀ u d,V.dst=some d->d<n->cQ (dZ n e' V.dst u) d=some u:=fun u d hd hdn=>by rw [hd]; exact tk hdn
    have hxe:∀ u kk,uq P V (dZ n e' V.dst u) kk=uq P V e' kk:=fun u kk=>wP (fun x hx=>by
     cases x <;> try rfl
     rename_i s;simp only [ev];exact kf (fun hd=>GK O hoj hd Y (xt hx))) kk
    rcases hx with ⟨rfl,hx⟩ | ⟨rfl,hx⟩
    ·
     unfold calm at Y;cases J:rG P V with
     | true =>
      have hx':uq P V e' (fun v=>fW P n ops fu (j::D) (dZ n e' V.dst v) m k) L K w.heap:=by
       have hnl:∀ t x,V.op≠.load t x:=by
        intro t x hh;unfold rG at J;rw [hh] at J; cases J
       obtain ⟨dst,op,type,pos,after,guard⟩:=V;cases op <;> first | exact hx | exact (hnl _ _ rfl).elim
      obtain ⟨v,hk,hall⟩:=M8 J hx';refine ih (j::D) _ m (I.ahead O hoj hjD hjw (by unfold calm; rw [J]; rfl) he (fun x hx=>hx) ?_) hk;exact ⟨by unfold calm; rw [J]; rfl,v,true,hself v,hg' v,.inr ⟨rfl,.inl fun kk L K h' hkk=>by rw [hxe]; exact hall kk L K h' hkk⟩⟩
     | false =>
      rw [J,bl9] at Y;obtain ⟨t,x,Z⟩:∃ t x,V.op=.load t x:=by
       unfold As at Y;cases Z:V.op <;> rw [Z] at Y <;> first | (cases Y; done) | exact ⟨_,_,rfl⟩
      have hcj:calm P V=true:=by unfold calm As; rw [Z]; simp
      simp only [Z] at hx;unfold qX at hx;obtain ⟨u,hu,hx⟩:=bz hx;have hx2:qX P t x e' (fun a l v=>fW P n ops fu (j::D) (dZ n e' V.dst v) ((j,a,l)::m) k) L K w.heap:=by
       unfold qX cg; simp only [hu]; exact hx
      cases hb:cF P t with
      | none=>cases u <;> simp only [hb] at hx <;> exact hx.elim
      | some bb =>
       obtain ⟨pp,rfl⟩:∃ pp,u=.pointer pp:=by
        cases u <;> cases bb <;> simp only [hb] at hx <;> first | exact hx.elim | exact ⟨_,rfl⟩
       have G:(match bb with
        | true=>(bif (ff P 9 t).length==P.cellsOf t then T.bG pp fun a=>T.ah a (ff P 9 t) (ju _ fun l=>fW P n ops fu (j::D) (dZ n e' V.dst (.agg l.toArray)) ((j,a,l)::m) k) else T.fail)
        | false=>T.bG pp fun a=>T.ah a (cD P t).2 (ju _ fun l=>fW P n ops fu (j::D) (dZ n e' V.dst (l.headD undef)) ((j,a,l)::m) k)) L K w.heap:=by
        cases bb <;> simp only [hb] at hx <;> exact hx
       have hfin:∃ p l v,pp=some p/\aI w.heap p 0 l/\fW P n ops fu (j::D) (dZ n e' V.dst v) ((j,p,l)::m) k L K w.heap /\
         ∀ (kk:Xab->T) L K h',aI h' p 0 l->kk v L K h'->uq P V e' kk L K h':=by
        have hxop:∀ kk,uq P V e' kk=qX P t x e' (fun _ _ v=>kk v):=by
         intro kk;unfold uq;rw [Z] <;> rfl
        cases bb with
        | true =>
         simp only at G;rcases fN G with ⟨hl,G⟩ | ⟨hl,G⟩
         ·obtain ⟨p,rfl,G⟩:=gf G;obtain ⟨y,hc,G⟩:=G;rw [dG] at G;refine ⟨p,_,_,rfl,hc,G,fun kk L K h' hc' hkk=>?_⟩;rw [hxop];unfold qX cg;simp only [hu,hb,hl];exact ⟨y,hc',by rw [dG]; exact hkk⟩
         ·exact G.elim
        | false =>
         simp only at G;obtain ⟨p,rfl,G⟩:=gf G;obtain ⟨y,hc,G⟩:=G;rw [dG] at G;refine ⟨p,_,_,rfl,hc,G,fun kk L K h' hc' hkk=>?_⟩;rw [hxop];unfold qX cg;simp only [hu,hb];exact ⟨y,hc',by rw [dG]; exact hkk⟩
       obtain ⟨p,l,v,rfl,hc,hk,hall⟩:=hfin;refine ih (j::D) _ ((j,p,l)::m) (I.ahead O hoj hjD hjw hcj he (fun x hx=>Zd _ hx) ?_) hk;exact ⟨hcj,v,true,hself v,hg' v,.inr ⟨rfl,.inr ⟨p,l,aj,hc,fun kk L K h' hc' hkk=>by rw [hxe]; exact hall kk L K h' hc' hkk⟩⟩⟩
    ·
     refine ih (j::D) _ m (I.ahead O hoj hjD hjw Y he (fun x hx=>hx) ?_) hx;exact ⟨Y,undef,false,hself undef,hg' undef,.inl ⟨rfl,rfl⟩⟩
   | nil =>
    simp only [X] at ht;have hjw:∀ j∈waits o,j∈D:=fun j hj=>I.lD j (hr j hj)
    have hrx:xr D i o=true:=tL.2 ⟨hiD,hjw⟩;have hc:calm P o=false:=by
     cases hc:calm P o with
     | false=>rfl
     | true =>
      have:(i,o)∈cY P D true (idx 0 ops.toList):=fF.2 ⟨iM.2 ho,hrx,hc⟩
      rw [X] at this; cases this
    have hmem:(i,o)∈cY P D false (idx 0 ops.toList):=fF.2 ⟨iM.2 ho,hrx,hc⟩;cases heff:cY P D false (idx 0 ops.toList) with
    | nil=>rw [heff] at hmem; cases hmem
    | cons q qs =>
     simp only [heff] at ht;rw [heff] at hmem;have hti:=Qy (Za.2 ⟨(i,o),hmem,rfl⟩) ht;simp only at hti;obtain ⟨e',b,he,hg,hx⟩:=zq hti;have hlk:=I.IX O ho hr (.inl hiD);have U:=hg.wanted hlk;unfold wpOp;rw [ho];simp only;rcases hx with ⟨rfl,hx⟩ | ⟨rfl,hx⟩
     ·rw [Y8 U];refine .inl ?_;rw [<- EF (ops:=ops)] at hx;have hlk':∀ s∈looks ops o,∀ v,cQ e' s=some v->a.tmps.getD s undef=v:=fun s hs v hv=>hlk s hs v (by rw [<- he]; exact hv)
      refine xn (G2 (D8 I.size I.defers hlk') hx) ?_;intro v w' hs' hst;obtain ⟨hst1,hst2⟩:=Q8 hst;exact next _ _ (i::D) _ m fu (hs.trans hs') (I.effect O ho hiD hr hc he (fun j p l h1 _ h3=>hst2 j p l h1 h3)) hst1
     ·rw [Y2 (by simp [U])];exact next _ _ (i::D) _ m fu hs (I.effect O ho hiD hr hc he (fun j p l _ h2 _=>h2)) hx
def LH (Z:ej P n ops=true) {L:Lp} {K:Xab->Hp->Prop} {k:Env->T} {Q:Exit->Act->Hp->Prop} {Y:World}
  (hk:∀ e a h,k e L K h->gK n e a->Fr (dstsOf ops) e0 e->Q .normal a h):∀ (fuel:Nat) (listed:Array Bool) (a:Act) (w:World) (D:List Nat) (e:Env) (m:Made) (fu:Nat),left listed<=fuel->dI Y w ->
   qO P n ops e0 listed a w.heap D e m->fW P n ops fu D e m k L K w.heap->wpAny P .any ops (Xk Y Q) fuel listed a w:=by
 have fin:∀ (listed:Array Bool) (a:Act) (w:World),dI Y w->Region.ready .any ops listed=[]->∀ fu D e m,qO P n ops e0 listed a w.heap D e m->fW P n ops fu D e m k L K w.heap->Xk Y Q .normal a w:=by
  intro listed a w hs U fu D e m I J;have O:∀ i∈D,listed[i]?=some true\/listed[i]?=some false:=by
   intro i hi;obtain ⟨o,G⟩:=I.dD i hi
   by_cases h1:listed[i]?=some true
   ·exact .inl h1
   ·exact .inr (I.vV G h1)
  have u:∀ i∈D,listed[i]?=some true:=by
   intro i hi;rcases O i hi with h1 | h1
   ·exact h1
   ·obtain ⟨j,X,h2,h3⟩:=sX listed I.closed I.dD ⟨i,hi,h1⟩ O;obtain ⟨o,G⟩:=I.dD j X
    have:j∈Region.ready .any ops listed:=(ow I.uQ).2 ⟨o,G,h2,h3 o G⟩
    rw [U] at this; cases this
  have hno:∀ c,cY P D c (idx 0 ops.toList)=[]:=by
   intro c;cases hx:cY P D c (idx 0 ops.toList) with
   | nil=>rfl
   | cons q qs =>
    obtain ⟨i,o⟩:=q;have hq:(i,o)∈cY P D c (idx 0 ops.toList):=by rw [hx]; simp
    obtain ⟨hq1,hq2,_⟩:=fF.1 hq;have G:=iM.1 hq1;obtain ⟨hiD,hw⟩:=tL.1 hq2
    have:i∈Region.ready .any ops listed:=(ow I.uQ).2 ⟨o,G,I.vV G (fun hh=>hiD (I.lD i hh)),fun j X=>u j (hw j X)⟩
    rw [U] at this; cases this
  cases fu with
  | zero=>exact J.elim
  | succ fu =>
   unfold fW at J;simp only [hno] at J;refine ⟨hs,hk e a w.heap J ⟨I.size,I.defers,fun s v hv=>I.V3 s v hv ?_⟩ I.fr⟩;intro j X o G V;rw [u j X] at V; cases V
 intro fuel
 induction fuel with
 | zero =>
  intro listed a w D e m fu hl hs I J;have U:Region.ready .any ops listed=[]:=by
   cases hx:Region.ready .any ops listed with
   | nil=>rfl
   | cons i l =>
    have:i∈Region.ready .any ops listed:=by rw [hx]; simp
    obtain ⟨o,G,V,_⟩:=(ow I.uQ).1 this;exact (KK ad i V).elim
  exact ⟨U,fin listed a w hs U fu D e m I J⟩
 | succ fuel ih =>
  intro listed a w D e m fu hl hs I J;refine ⟨fun U=>fin listed a w hs U fu D e m I J,fun i hi=>?_⟩;obtain ⟨o,G,V,_⟩:=(ow I.uQ).1 hi;refine Qk Z hi hs ?_ fu D e m I J;intro a' w' D' e' m' fu' hs' I' ht';exact ih _ a' w' D' e' m' fu' (by have:=Ee V; omega) hs' I' ht'
def Yg (hm:P.follows .mixedOrders=true):Yd P n:=by
 intro id ops e k L K Q a h hk G g O w hs hw;subst hw;unfold vl at G;cases j:ej P n ops with
 | false=>simp only [j] at G; exact G.elim
 | true =>
  simp only [j] at G;have u:∀ (l:Array Bool) (i:Nat),l=Array.replicate ops.size false->l[i]?≠some true:=by
   intro l i hl J;subst hl;simp [Array.getElem?_replicate] at J
  refine wp_region_any hm (LH (e0:=e) j hk ops.size _ a { w with drawn:=w.drawn+1 } [] e [] (ops.size+1) ?_ ⟨hs.os,hs.tape,hs.output⟩ ?_ G)
  ·unfold left;refine ZW (Z8 _ _) ?_
   simp
  ·exact ⟨aj,g.size,g.defers,fun i hi=>(u _ i rfl hi).elim,fun i hi=>(by cases hi),trivial,fun s v hv _=>g.get s v hv,fun i hi=>(by cases hi),Fr.refl _ _⟩
end draws
end Go.Sx
