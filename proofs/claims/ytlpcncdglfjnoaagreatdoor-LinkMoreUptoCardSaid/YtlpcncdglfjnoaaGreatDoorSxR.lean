/- A framework of our own, part R: regions whose order is drawn: every order comes to what the one order comes to that a tree follows. No condition. -/
import Derived.Test.YtlpcncdglfjnoaaGreatDoorSxM
import Derived.Orders
set_option linter.all false
set_option maxHeartbeats 4000000
namespace Go.Sx
section congr
variable {P:Program}
theorem br {e e':Env} {x:Operand} (h:ev e x=ev e' x) (k:ZB->T):bP e x k=bP e' x k:=by
 unfold bP; rw [h]
theorem ep {e e':Env}:∀ {xs:List Operand},(∀ x∈xs,ev e x=ev e' x)->∀ (k:List ZB->T),gT e xs k=gT e' xs k
 | [],_,k=>rfl
 | x::xs,h,k=>by
  simp only [gT];rw [br (h x aj)]
  congr 1
  funext v
  exact ep (fun x hx=>h x (by simp [hx])) _
theorem wx {o:Oper} {e e':Env} (h:∀ x∈o.op.operands,ev e x=ev e' x) (kk:ZB->T):tQ P o e kk=tQ P o e' kk:=by
 obtain ⟨dst,op,type,pos,after,guard⟩:=o;cases op <;> simp only [Op.operands] at h <;> simp only [tQ]
 case pick c x y =>
  rw [br (h c aj)]
  congr 1; funext v
  cases v <;> first | rfl | (rw [br (h x aj),br (h y aj)])
 case build t ps=>rw [ep (fun x hx=>h x (by simpa using hx))]
 case buildSlice t l ps=>rw [ep (fun x hx=>h x (by simpa using hx))]
 case store t x y =>
  rw [br (h x aj)]
  congr 1; funext v
  rw [br (h y aj)]
 case binOp op t x y yt =>
  rw [br (h x aj)]
  congr 1; funext v
  rw [br (h y aj)]
 case makeFunc fn fi ca =>
  rw [ep (fun x hx=>h x (by simp at hx ⊢; exact .inl hx))]
  congr 1; funext v
  rw [ep (fun x hx=>h x (by simp at hx ⊢; exact .inr hx))]
 case makeMap t r=>cases r <;> rfl
 case makeSlice t x y =>
  rw [br (h x aj)]
  congr 1; funext v
  rw [br (h y aj)]
 case slice t x lo hi mx =>
  rw [br (h x aj)]
  congr 1; funext v
  rw [ep (fun y hy=>h y (by
   simp only [List.mem_append,Option.mem_toList] at hy;simp only [Array.mem_append,Array.mem_singleton,Option.mem_toArray];rcases hy with (hy | hy) | hy
   ·exact .inl (.inl (.inr hy))
   ·exact .inl (.inr hy)
   ·exact .inr hy))]
 case indexAddr t x y =>
  rw [br (h x aj)]
  congr 1; funext v
  rw [br (h y aj)]
 case index t x y =>
  rw [br (h x aj)]
  congr 1; funext v
  rw [br (h y aj)]
 case lookup t x y ok =>
  rw [br (h x aj)]
  congr 1; funext v
  rw [br (h y aj)]
 case mapUpdate t x y z =>
  rw [br (h x aj)]
  congr 1; funext v
  rw [br (h y aj)]
  congr 1; funext v
  rw [br (h z aj)]
 case insert t x y z =>
  rw [br (h x aj)]
  congr 1; funext v
  rw [br (h y aj)]
  congr 1; funext v
  rw [br (h z aj)]
 case mapEntry t x y =>
  rw [br (h x aj)]
  congr 1; funext v
  rw [br (h y aj)]
 case entryStore t x y z =>
  rw [br (h x aj)]
  congr 1; funext v
  rw [br (h y aj)]
  congr 1; funext v
  rw [br (h z aj)]
 case call c =>
  cases hc:c.callee with
  | builtin b =>
   simp only [hc];rw [ep (fun x hx=>h x (by simp [Call.operands,hc]; simpa using hx))]
  | invoke r m=>simp only [hc]
  | value f =>
   simp only [hc];cases EG f
   ·simp only;rw [br (h f (by simp [Call.operands,hc]))]
    congr 1; funext v
    rw [ep (xs:=c.args.toList) (fun x hx=>h x (by simp [Call.operands,hc]; right; simpa using hx))]
   ·simp only;rw [br (h f (by simp [Call.operands,hc]))]
    congr 1; funext v
    rw [ep (xs:=c.args.toList) (fun x hx=>h x (by simp [Call.operands,hc]; right; simpa using hx))]
 all_goals first | rfl | exact br (h _ aj) _
end congr
section pures
variable {P:Program} {L:Lp} {K:ZB->Hp->Prop} {h:Hp}
def dI (F:(ZB->T)->T) (kk:ZB->T) (L:Lp) (K:ZB->Hp->Prop) (h:Hp):Prop :=
 ∃ v,kk v L K h/\∀ (kk':ZB->T) L' K' h',kk' v L' K' h'->F kk' L' K' h'
theorem dc {e:Env} {x:Operand} {F:(ZB->T)->ZB->T} {kk:ZB->T} (hF:∀ v,F kk v L K h->dI (fun kk=>F kk v) kk L K h)
  (ht:bP e x (F kk) L K h):dI (fun kk=>bP e x (F kk)) kk L K h:=by
 obtain ⟨v,hv,ht⟩:=bn ht;obtain ⟨u,hk,hall⟩:=hF v ht;refine ⟨u,hk,fun kk' L' K' h' hx=>?_⟩;unfold bP;simp only [hv];exact hall kk' L' K' h' hx
theorem nq {e:Env}:∀ {xs:List Operand} {F:(ZB->T)->List ZB->T} {kk:ZB->T},(∀ v,F kk v L K h->dI (fun kk=>F kk v) kk L K h) ->
  gT e xs (F kk) L K h->dI (fun kk=>gT e xs (F kk)) kk L K h
 | [],F,kk,hF,ht=>hF [] ht
 | x::xs,F,kk,hF,ht=>by
  refine dc (F:=fun kk v=>gT e xs fun l=>F kk (v::l)) ?_ ht;intro v ht;exact nq (F:=fun kk l=>F kk (v::l)) (fun l hl=>hF (v::l) hl) ht
theorem cG {kk:ZB->T} {v:ZB} (ht:kk v L K h):dI (fun kk=>kk v) kk L K h:=⟨v,ht,fun _ _ _ _ hx=>hx⟩
theorem pa {p:Prop} {F:(ZB->T)->T} {kk:ZB->T} (hF:F kk L K h->dI F kk L K h) (ht:T.need p (F kk) L K h):dI (fun kk=>T.need p (F kk)) kk L K h:=by
 obtain ⟨hp,ht⟩:=ht;obtain ⟨v,hk,hall⟩:=hF ht;exact ⟨v,hk,fun kk' L' K' h' hx=>⟨hp,hall kk' L' K' h' hx⟩⟩
theorem Aa {q:Option ZC} {F:(ZB->T)->ZC->T} {kk:ZB->T} (hF:∀ a,F kk a L K h->dI (fun kk=>F kk a) kk L K h) (ht:T.bk q (F kk) L K h) :
  dI (fun kk=>T.bk q (F kk)) kk L K h:=by
 obtain ⟨a,rfl,ht⟩:=fK ht;obtain ⟨v,hk,hall⟩:=hF a ht;exact ⟨v,hk,fun kk' L' K' h' hx=>hall kk' L' K' h' hx⟩
theorem rK {b:Bool} {F G:(ZB->T)->T} {kk:ZB->T} (hF:F kk L K h->dI F kk L K h) (hG:G kk L K h->dI G kk L K h) (ht:cond b (F kk) (G kk) L K h) :
  dI (fun kk=>cond b (F kk) (G kk)) kk L K h:=by
 cases b
 ·exact hG ht
 ·exact hF ht
theorem ul {op:BinOp} {b:Bool} {kk:ZB->T} (ht:asked op b kk T.fail L K h):dI (fun kk=>asked op b kk T.fail) kk L K h:=by
 cases op <;> first | exact cG ht | exact ht.elim
theorem OB {op:BinOp} {k:IntKind} {m n:Int} {kk:ZB->T} (ht:FW op k m n kk L K h):dI (fun kk=>FW op k m n kk) kk L K h:=by
 cases op <;> first
  | exact ht.elim
  | exact cG ht
  | exact pa (F:=fun kk=>kk _) cG ht
theorem Jx {op:BinOp} {k:IntKind} {m n:Int} {kk:ZB->T} (ht:yJ op k m n kk L K h):dI (fun kk=>yJ op k m n kk) kk L K h:=by
 cases op <;> first
  | exact ht.elim
  | exact pa (F:=fun kk=>kk _) cG ht
theorem OR {op:BinOp} {m n:ZA} {kk:ZB->T} (ht:Gb op m n kk L K h):dI (fun kk=>Gb op m n kk) kk L K h:=by
 cases op <;> first
  | exact ht.elim
  | exact cG ht
  | exact pa (F:=fun kk=>kk _) cG ht
theorem N' {op:BinOp} {t:TypeId} {a b:ZB} {kk:ZB->T} (ht:sy P op t a b kk L K h):dI (fun kk=>sy P op t a b kk) kk L K h:=by
 unfold sy at ht ⊢;cases a <;> cases b <;> first | exact ht.elim | skip
 case bool.bool m n =>
  generalize P.underlying t=ud at ht ⊢;cases ud with
  | none=>exact ht.elim
  | some d=>cases d <;> first | exact ht.elim | exact ul ht
 case int.int k m k' n =>
  simp only at ht ⊢;cases hs:lZ op with
  | true=>simp only [hs] at ht ⊢; exact Jx ht
  | false =>
   simp only [hs] at ht ⊢
   by_cases hk:k=k'
   ·subst hk;simp only [decide_true] at ht ⊢;exact OB ht
   ·simp only [hk,decide_false] at ht;exact ht.elim
 case string.string m n=>exact OR ht
 case pointer.pointer p q =>
  generalize P.underlying t=ud at ht ⊢;cases ud with
  | none=>exact ht.elim
  | some d=>cases d <;> first | exact ht.elim | exact ul ht
 case slice.slice p l c q l' c' =>
  generalize P.underlying t=ud at ht ⊢;cases ud with
  | none=>exact ht.elim
  | some d=>cases d <;> first | exact ht.elim | exact ul ht
 case map.map p q =>
  generalize P.underlying t=ud at ht ⊢;cases ud with
  | none=>exact ht.elim
  | some d=>cases d <;> first | exact ht.elim | exact ul ht
theorem RQ {op:UnOp} {a:ZB} {kk:ZB->T} (ht:RT op a kk L K h):dI (fun kk=>RT op a kk) kk L K h:=by
 cases op <;> cases a <;> first | exact ht.elim | exact cG ht
theorem K4 {t : TypeId} {cs : List ZB} {off : Nat} {kk : ZB -> T} (ht : sJ P t cs off kk L K h) : dI (fun kk => sJ P t cs off kk) kk L K h := by
  unfold sJ at ht ⊢;generalize P.underlying t = ud at ht ⊢;cases ud with
  | none => exact ht.elim
  | some d =>
    cases d <;> first
      | exact cG ht
      | (cases hv : cs[off]? with
         | none => simp only [hv] at ht; exact ht.elim
         | some v => simp only [hv] at ht ⊢; exact cG ht)
theorem JY {t:TypeId} {a:ZB} {lo hi:Option ZB} {kk:ZB->T} (hp:(match P.underlying t with
  | some .string=>true
  | some (.slice _)=>true
  | _=>false)=true) (ht:iw P t a lo hi none kk L K h):dI (fun kk=>iw P t a lo hi none kk) kk L K h:=by
 unfold iw at ht ⊢;cases hint:eb lo && eb hi && eb none with
 | false=>simp only [hint] at ht; exact ht.elim
 | true =>
  simp only [hint] at ht ⊢;generalize P.underlying t=ud at ht hp ⊢;cases ud with
  | none=>cases hp
  | some d =>
   cases d <;> simp only [Bool.false_eq_true] at hp
   case string=>cases a <;> first | exact ht.elim | exact pa (F:=fun kk=>kk _) cG ht
   case slice el =>
    cases a <;> first | exact ht.elim | skip
    simp only at ht ⊢;cases hT:mz P el with
    | false=>simp only [hT] at ht; exact ht.elim
    | true=>simp only [hT] at ht ⊢; exact pa (F:=fun kk=>kk _) cG ht
theorem rP {agg:Nat->Option Bool}:∀ {ps:List (Nat × ZB)} {F:(ZB->T)->List (Nat × List ZB)->T} {kk:ZB->T},(∀ r,F kk r L K h->dI (fun kk=>F kk r) kk L K h) ->
  eZ agg ps (F kk) L K h->dI (fun kk=>eZ agg ps (F kk)) kk L K h
 | [],F,kk,hF,ht=>hF [] ht
 | (i,v)::l,F,kk,hF,ht=>by
  simp only [eZ] at ht ⊢;cases ha:agg i with
  | none=>rw [ha] at ht; exact ht.elim
  | some b =>
   rw [ha] at ht;cases b with
   | true=>exact rK (F:=fun kk=>eZ agg l fun r=>F kk ((i,ja v)::r)) (G:=fun _=>T.fail) (fun ht=>rP (F:=fun kk r=>F kk ((i,ja v)::r)) (fun r hr=>hF _ hr) ht) (fun ht=>ht.elim) ht
   | false=>exact rK (F:=fun _=>T.fail) (G:=fun kk=>eZ agg l fun r=>F kk ((i,[v])::r)) (fun ht=>ht.elim) (fun ht=>rP (F:=fun kk r=>F kk ((i,[v])::r)) (fun r hr=>hF _ hr) ht) ht
theorem KS {o:Oper} {e:Env} {kk:ZB->T} (hp:qK P o=true) (ht:tQ P o e kk L K h):dI (fun kk=>tQ P o e kk) kk L K h:=by
 obtain ⟨dst,op,type,pos,after,guard⟩:=o;cases op <;> simp only [qK,Bool.false_eq_true] at hp <;> simp only [tQ] at ht ⊢
 case move x=>exact dc (F:=fun kk v=>kk v) (fun v hv=>cG hv) ht
 case pick c x y =>
  refine dc (F:=fun kk c=>match c with
   | .bool b'=>cond b' (bP e x kk) (bP e y kk)
   | _=>T.fail) (fun v hv=>?_) ht
  cases v <;> first | exact hv.elim | skip
  exact rK (F:=fun kk=>bP e x kk) (G:=fun kk=>bP e y kk) (fun ht=>dc (F:=fun kk v=>kk v) (fun v hv=>cG hv) ht) (fun ht=>dc (F:=fun kk v=>kk v) (fun v hv=>cG hv) ht) hv
 case build t ps =>
  refine nq (F:=fun kk vs=>match P.underlying t,(P.info? t).bind (·.zero) with
   | some (.struct fs),some z =>
    bif !(fs.all fun f=>mz P f.type) then T.fail else eZ (fun i=>(fs[i]?).bind fun f=>cv P f.type) ((ps.toList.map (·.1)).zip vs) fun ls=>match ff (((fs.map fun f=>(f.offset,P.cellsOf f.type)))[·]?) z.cells.toList ls with
    | some cs=>kk (.agg cs.toArray)
    | none=>T.fail
   | some (.array _ el),some z =>
    bif !mz P el then T.fail else eZ (fun _=>cv P el) ((ps.toList.map (·.1)).zip vs) fun ls=>match ff (fun i=>some (i*P.cellsOf el,P.cellsOf el)) z.cells.toList ls with
    | some cs=>kk (.agg cs.toArray)
    | none=>T.fail
   | _,_=>T.fail) (fun vs hv=>?_) ht
  generalize P.underlying t=ud at hv ⊢;generalize (P.info? t).bind (·.zero)=z at hv ⊢;cases ud with
  | none=>exact hv.elim
  | some d =>
   cases d <;> first | exact hv.elim | skip
   case array len el =>
    cases z with
    | none=>exact hv.elim
    | some z =>
     refine rK (F:=fun _=>T.fail) (G:=fun kk=>eZ (fun _=>cv P el) ((ps.toList.map (·.1)).zip vs) fun ls=>match ff (fun i=>some (i*P.cellsOf el,P.cellsOf el)) z.cells.toList ls with
      | some cs=>kk (.agg cs.toArray)
      | none=>T.fail) (fun ht=>ht.elim) (fun ht=>?_) hv
     refine rP (F:=fun kk ls=>match ff (fun i=>some (i*P.cellsOf el,P.cellsOf el)) z.cells.toList ls with
      | some cs=>kk (.agg cs.toArray)
      | none=>T.fail) (fun ls ht=>?_) ht
     cases hf:ff (fun i=>some (i*P.cellsOf el,P.cellsOf el)) z.cells.toList ls with
     | none=>simp only [hf] at ht; exact ht.elim
     | some cs=>simp only [hf] at ht ⊢; exact cG ht
   case struct fs =>
    cases z with
    | none=>exact hv.elim
    | some z =>
     refine rK (F:=fun _=>T.fail) (G:=fun kk=>eZ (fun i=>(fs[i]?).bind fun f=>cv P f.type) ((ps.toList.map (·.1)).zip vs) fun ls=>match ff (((fs.map fun f=>(f.offset,P.cellsOf f.type)))[·]?) z.cells.toList ls with
      | some cs=>kk (.agg cs.toArray)
      | none=>T.fail) (fun ht=>ht.elim) (fun ht=>?_) hv
     refine rP (F:=fun kk ls=>match ff (((fs.map fun f=>(f.offset,P.cellsOf f.type)))[·]?) z.cells.toList ls with
      | some cs=>kk (.agg cs.toArray)
      | none=>T.fail) (fun ls ht=>?_) ht
     cases hf:ff (((fs.map fun f=>(f.offset,P.cellsOf f.type)))[·]?) z.cells.toList ls with
     | none=>simp only [hf] at ht; exact ht.elim
     | some cs=>simp only [hf] at ht ⊢; exact cG ht
 case nilCheck x =>
  refine dc (F:=fun kk v=>match v with
   | .pointer p=>T.bk p fun a=>kk (.pointer (some a))
   | .func (.func f) fi ca=>kk (.func (.func f) fi ca)
   | .iface t v=>kk (.iface t v)
   | _=>T.fail) (fun v hv=>?_) ht
  cases v with
  | pointer p=>exact Aa (F:=fun kk a=>kk (.pointer (some a))) (fun a ha=>cG ha) hv
  | func fn fi ca=>cases fn <;> first | exact hv.elim | exact cG hv
  | iface t w=>exact cG hv
  | _=>exact hv.elim
 case binOp op t x y yt =>
  refine dc (F:=fun kk a=>bP e y fun b=>Cc P op t x y a b kk) (fun a ha=>?_) ht;refine dc (F:=fun kk b=>Cc P op t x y a b kk) (fun b hb=>?_) ha;unfold Cc at hb ⊢;simp only [hp] at hb ⊢;exact N' hb
 case unOp op t x=>exact dc (F:=fun kk a=>RT op a kk) (fun v hv=>RQ hv) ht
 case convert s d x =>
  refine dc (F:=fun kk a=>xz P s d a kk) (fun v hv=>?_) ht;unfold xz at hv ⊢;generalize P.underlying s=us at hv hp ⊢;generalize P.underlying d=ud at hv hp ⊢;cases us with
  | none=>cases hp
  | some us =>
   cases ud with
   | none=>cases us <;> cases hp
   | some ud =>
    cases us <;> first | (cases ud <;> cases hp; done) | skip
    case int k=>cases ud <;> first | (cases hp; done) | (cases v <;> first | exact hv.elim | exact cG hv)
    case string=>cases ud <;> first | (cases hp; done) | (cases v <;> first | exact hv.elim | exact cG hv)
 case makeInterface t x =>
  refine dc (F:=fun kk a=>match P.underlying t with
   | some (.interface _)=>T.fail
   | some _=>kk (.iface t a)
   | none=>T.fail) (fun v hv=>?_) ht
  generalize P.underlying t=ud at hv ⊢;cases ud with
  | none=>exact hv.elim
  | some d=>cases d <;> first | exact hv.elim | exact cG hv
 case makeFunc fn fi ca =>
  refine nq (F:=fun kk fi=>gT e ca.toList fun ca=>kk (.func fn fi.toArray ca.toArray)) (fun fi hv=>?_) ht;exact nq (F:=fun kk ca=>kk (.func fn fi.toArray ca.toArray)) (fun ca hv=>cG hv) hv
 case slice t x lo hi mx =>
  cases mx with
  | some m=>cases hp
  | none =>
  simp only at hp;refine dc (F:=fun kk a=>gT e (lo.toList++hi.toList++(none:Option Operand).toList) fun vs=>TM P t lo hi none a vs kk) (fun a ha=>?_) ht;refine nq (F:=fun kk vs=>TM P t lo hi none a vs kk) (fun vs hv=>?_) ha;unfold TM at hv ⊢;cases lo <;> cases hi <;> rcases vs with _ | ⟨l,_ | ⟨l2,_ | ⟨l3,vs⟩⟩⟩ <;> first
   | exact hv.elim
   | exact JY hp hv
 case fieldAddr s x f =>
  refine dc (F:=fun kk v=>match v,P.underlying s with
   | .pointer p,some (.struct fs)=>match fs[f]? with
    | some fd=>match P.cellsOf fd.type with
     | 0=>T.fail
     | _+1=>T.bk p fun a=>kk (.pointer (some (a.add fd.offset)))
    | none=>T.fail
   | _,_=>T.fail) (fun v hv=>?_) ht
  generalize P.underlying s=us at hv ⊢;cases v <;> first | exact hv.elim | skip
  cases us with
  | none=>exact hv.elim
  | some us =>
   cases us <;> first | exact hv.elim | skip
   rename_i fs;simp only at hv ⊢;cases hf:fs[f]? with
   | none=>simp only [hf] at hv; exact hv.elim
   | some fd =>
    simp only [hf] at hv ⊢;cases hc:P.cellsOf fd.type with
    | zero=>simp only [hc] at hv; exact hv.elim
    | succ m=>simp only [hc] at hv ⊢; exact Aa (F:=fun kk a=>kk (.pointer (some (a.add fd.offset)))) (fun a ha=>cG ha) hv
 case field s x f =>
  refine dc (F:=fun kk v=>match v,P.underlying s with
   | .agg cs,some (.struct fs)=>match fs[f]? with
    | some fd=>sJ P fd.type cs.toList fd.offset kk
    | none=>T.fail
   | _,_=>T.fail) (fun v hv=>?_) ht
  generalize P.underlying s=us at hv ⊢;cases v <;> first | exact hv.elim | skip
  cases us with
  | none=>exact hv.elim
  | some us =>
   cases us <;> first | exact hv.elim | skip
   rename_i fs;simp only at hv ⊢;cases hf:fs[f]? with
   | none=>simp only [hf] at hv; exact hv.elim
   | some fd=>simp only [hf] at hv ⊢; exact K4 hv
 case indexAddr t x i =>
  refine dc (F:=fun kk v=>bP e i fun i=>xA P t v i kk) (fun v hv=>?_) ht;refine dc (F:=fun kk i=>xA P t v i kk) (fun i hi=>?_) hv;unfold xA at hi ⊢;generalize P.underlying t=us at hi ⊢;cases v <;> cases i <;> first | exact hi.elim | skip
  all_goals
   cases us with
   | none=>exact hi.elim
   | some us =>
    cases us <;> first | exact hi.elim | skip
    refine rK (F:=fun _=>T.fail) (fun ht=>ht.elim) (fun ht=>?_) hi;exact pa (F:=fun kk=>T.bk _ fun a=>kk (.pointer (some (a.add (_*P.cellsOf _))))) (Aa (F:=fun kk a=>kk (.pointer (some (a.add (_*P.cellsOf _))))) (fun a ha=>cG ha)) ht
 case index t x i =>
  refine dc (F:=fun kk v=>bP e i fun i=>FP P t v i kk) (fun v hv=>?_) ht;refine dc (F:=fun kk i=>FP P t v i kk) (fun i hi=>?_) hv;unfold FP at hi ⊢;generalize P.underlying t=us at hi hp ⊢;cases us with
  | none=>cases hp
  | some us =>
   cases us <;> simp only [Bool.false_eq_true] at hp;cases v <;> cases i <;> first | exact hi.elim | exact pa (F:=fun kk=>kk _) cG hi
 case extract x i =>
  refine dc (F:=fun kk v=>match v with
   | .tuple vs=>match vs.toList[i]? with
    | some v=>kk v
    | none=>T.fail
   | _=>T.fail) (fun v hv=>?_) ht
  cases v <;> first | exact hv.elim | skip
  rename_i vs;simp only at hv ⊢;cases hi:vs.toList[i]? with
  | none=>simp only [hi] at hv; exact hv.elim
  | some w=>simp only [hi] at hv ⊢; exact cG hv
 case call c =>
  cases hc:c.callee with
  | value f=>simp only [hc] at hp; cases hp
  | invoke r m=>simp only [hc] at hp; cases hp
  | builtin b =>
   simp only [hc] at hp ht ⊢;refine nq (F:=fun kk vs=>qS P b c type vs kk) (fun vs hv=>?_) ht;cases b <;> simp only [Bool.false_eq_true] at hp
   case len =>
    have hv:yP P c type vs kk L K h:=hv;show dI (fun kk=>yP P c type vs kk) kk L K h;unfold yP at hv ⊢;generalize (c.argTypes[0]?).bind P.underlying=ud at hv hp ⊢;cases ud with
    | none=>cases hp
    | some d =>
     cases d <;> simp only [Bool.false_eq_true] at hp
     all_goals
      rcases vs with _ | ⟨v,_ | ⟨v2,l⟩⟩ <;> first | exact hv.elim | skip
      all_goals cases v <;> first | exact hv.elim | exact cG hv
   case cap =>
    have hv:Jd P c vs kk L K h:=hv;show dI (fun kk=>Jd P c vs kk) kk L K h;unfold Jd at hv ⊢;generalize (c.argTypes[0]?).bind P.underlying=ud at hv hp ⊢;cases ud with
    | none=>cases hp
    | some d =>
     cases d <;> simp only [Bool.false_eq_true] at hp
     all_goals
      rcases vs with _ | ⟨v,_ | ⟨v2,l⟩⟩ <;> first | exact hv.elim | skip
      all_goals cases v <;> first | exact hv.elim | exact cG hv
end pures
section draws
variable {P:Program} {n:Nd} {ops:Array Oper}
theorem fX {x:Nat}:∀ {l:List Nat},r6 x l=true↔x∈l
 | []=>by simp [r6]
 | y::l=>by
  simp only [r6,Bool.or_eq_true,List.mem_cons,fX (l:=l)];constructor
  ·rintro (h | h)
   ·exact .inl (W3 h)
   ·exact .inr h
  ·rintro (h | h)
   ·subst h; exact .inl aj
   ·exact .inr h
theorem HP {p:Nat × Oper}:∀ {l:List Oper} {k:Nat},p∈idx k l↔∃ j,l[j]?=some p.2/\p.1=k+j
 | [],k=>by simp [idx]
 | o::l,k=>by
  simp only [idx,List.mem_cons,HP (l:=l)];constructor
  ·rintro (h | ⟨j,h1,h2⟩)
   ·subst h; exact ⟨0,aj,aj⟩
   ·exact ⟨j+1,by simpa using h1,ad⟩
  ·rintro ⟨j,h1,h2⟩;cases j with
   | zero=>left; simp at h1; subst h1; obtain ⟨a,b⟩:=p; simp at h2; subst h2; rfl
   | succ j=>right; exact ⟨j,by simpa using h1,ad⟩
theorem ij {i:Nat} {o:Oper}:(i,o)∈idx 0 ops.toList↔ops[i]?=some o:=by
 rw [HP];constructor
 ·rintro ⟨j,h1,h2⟩;simp at h2; subst h2;simpa using h1
 ·intro h; exact ⟨i,by simpa using h,aj⟩
theorem NS (hok:dW P n ops=true) {i:Nat} {x:Oper} (hi:ops[i]?=some x) {d:Nat} (hd:x.dst=some d):d<n:=by
 unfold dW at hok;rw [XO] at hok;have h1:=Xn.1 hok.1 (i,x) (ij.2 hi);simp only [hd] at h1;simpa [Nat.blt_eq] using h1
theorem GZ (hok:dW P n ops=true) {i:Nat} {x:Oper} (hi:ops[i]?=some x) {d:Nat} (hd:x.dst=some d) (hc:calm P x=true):d∉looks ops x:=by
 unfold dW at hok;rw [XO] at hok;have h1:=Xn.1 (Xn.1 hok.2 (i,x) (ij.2 hi)) (i,x) (ij.2 hi);unfold FU at h1;have hb:Nat.beq i i=true:=aj
 simp only [hb,hd,hc,Bool.not_true,Bool.false_or,Bool.not_eq_true'] at h1;intro hl;rw [fX.2 hl] at h1; cases h1
theorem mV (hok:dW P n ops=true) {i j:Nat} {x y:Oper} (hi:ops[i]?=some x) (hj:ops[j]?=some y) (hne:i≠j) :
  (∀ d,y.dst=some d->d∈looks ops x->j∈waits x\/(i∈waits y/\calm P y=false))/\(∀ d,x.dst=some d->calm P x=true->y.dst≠some d):=by
 unfold dW at hok;rw [XO] at hok;have h1:=Xn.1 (Xn.1 hok.2 (i,x) (ij.2 hi)) (j,y) (ij.2 hj);unfold FU at h1;have hb:Nat.beq i j=false:=by
  cases hb:Nat.beq i j
  ·rfl
  ·exact (hne (W3 hb)).elim
 simp only [hb,Bool.and_eq_true] at h1;refine ⟨fun d hd hl=>?_,fun d hd hc hy=>?_⟩
 ·have h2:=h1.1;simp only [hd,Bool.or_eq_true,Bool.and_eq_true,Bool.not_eq_true'] at h2;rcases h2 with (h2 | h2) | ⟨h2,h3⟩
  ·have:=fX.2 hl; rw [this] at h2; cases h2
  ·exact .inl (fX.1 h2)
  ·exact .inr ⟨fX.1 h2,h3⟩
 ·have h2:=h1.2;simp only [hd,hc,hy,lH] at h2;simp at h2
def yG (ops:Array Oper) (o:Oper) (e:Env) (b:Bool):Prop :=
 match o.guard with
 | none=>b=true
 | some (j,w)=>match (ops[j]?).bind (·.dst) with
  | none=>b=false
  | some d=>(∃ t,cJ e d=some (.bool t)/\b=(t==w))\/(∃ vs,cJ e d=some (.tuple vs)/\b=false)
theorem xm {o:Oper} {j d:Nat} {w:Bool} (hg:o.guard=some (j,w)) (hd:(ops[j]?).bind (·.dst)=some d):d∈looks ops o:=by
 unfold looks;rw [hg];simp only [hd];exact Xr _ aj
theorem yG.wanted {o:Oper} {e:Env} {b:Bool} (h:yG ops o e b) {tm:Array ZB} (ht:∀ s∈looks ops o,∀ v,cJ e s=some v->tm.getD s undef=v) :
  Region.wanted o (yielded ops tm)=b:=by
 unfold yG at h;cases hg:o.guard with
 | none=>simp only [hg] at h; subst h; exact xK hg
 | some p =>
  obtain ⟨j,w⟩:=p;simp only [hg] at h;rw [xH hg];cases hd:(ops[j]?).bind (·.dst) with
  | none=>simp only [hd] at h; subst h; simp [yielded,hd]
  | some d =>
   simp only [hd] at h;have hl:=xm hg hd;rcases h with ⟨t,h1,rfl⟩ | ⟨vs,h1,rfl⟩
   ·rw [uj hd (ht d hl _ h1)]; cases t <;> cases w <;> rfl
   ·rw [sA hd (ht d hl _ h1)]; rfl
theorem yG.congr {o:Oper} {e e':Env} {b:Bool} (h:yG ops o e b) (he:∀ s∈looks ops o,cJ e' s=cJ e s):yG ops o e' b:=by
 unfold yG at h ⊢;cases hg:o.guard with
 | none=>simp only [hg] at h ⊢; exact h
 | some p =>
  obtain ⟨j,w⟩:=p;simp only [hg] at h ⊢;cases hd:(ops[j]?).bind (·.dst) with
  | none=>simp only [hd] at h ⊢; exact h
  | some d=>simp only [hd] at h ⊢; rw [he d (xm hg hd)]; exact h
theorem rE {e:Env} {d:Nat} {v:ZB} (h:cJ e d=some v) (s:Nat):cJ (dO n e (some d) v) s=cJ e s:=by
 simp only [dO];cases Nat.blt d n with
 | false=>rfl
 | true =>
  simp only [cond_true,dl]
  by_cases hs:d=s
  ·subst hs; rw [W2 rfl,h]
  ·rw [WV hs]
theorem zL {o:Oper} {e:Env} {yes no:Env->T} {L:Lp} {K:ZB->Hp->Prop} {h:Hp} (ht:kZ n ops o e yes no L K h) :
  ∃ e' b,(∀ s,cJ e' s=cJ e s)/\yG ops o e b/\((b=true/\yes e' L K h)\/(b=false/\no e' L K h)):=by
 unfold kZ guardOf at ht;unfold yG;cases hg:o.guard with
 | none=>simp only [hg] at ht ⊢; exact ⟨e,true,fun _=>rfl,rfl,.inl ⟨rfl,ht⟩⟩
 | some p =>
  obtain ⟨j,w⟩:=p;simp only [hg] at ht ⊢;cases hj:(ops[j]?).bind (·.dst) with
  | none=>simp only [hj] at ht ⊢; exact ⟨e,false,fun _=>rfl,rfl,.inr ⟨rfl,ht⟩⟩
  | some d =>
   simp only [hj] at ht ⊢;cases hv:cJ e d with
   | none=>simp only [hv] at ht; exact ht.elim
   | some v =>
    cases v <;> simp only [hv] at ht <;> first | exact ht.elim | skip
    case tuple vs=>exact ⟨e,false,fun _=>rfl,.inr ⟨vs,rfl,rfl⟩,.inr ⟨rfl,ht⟩⟩
    case bool b =>
     cases w <;> simp only at ht <;> rcases fx ht with ⟨hb,ht⟩ | ⟨hb,ht⟩ <;> subst hb
     ·exact ⟨_,false,rE hv,.inl ⟨true,rfl,rfl⟩,.inr ⟨rfl,ht⟩⟩
     ·exact ⟨_,true,rE hv,.inl ⟨false,rfl,rfl⟩,.inl ⟨rfl,ht⟩⟩
     ·exact ⟨_,true,rE hv,.inl ⟨true,rfl,rfl⟩,.inl ⟨rfl,ht⟩⟩
     ·exact ⟨_,false,rE hv,.inl ⟨false,rfl,rfl⟩,.inr ⟨rfl,ht⟩⟩
def only (e:Env) (l:List Nat):Env:=l.filterMap fun s=>(cJ e s).map fun v=>(s,some v)
theorem rI {e:Env}:∀ {l:List Nat} {s:Nat},cJ (only e l) s=if s∈l then cJ e s else none
 | [],s=>by simp [only,cJ]
 | t::l,s=>by
  unfold only;rw [List.filterMap_cons];cases hv:cJ e t with
  | none =>
   simp only [Option.map_none];rw [show List.filterMap (fun s=>(cJ e s).map fun v=>(s,some v)) l=only e l from rfl,rI]
   by_cases h1:s∈l
   ·simp [h1]
   ·by_cases h2:s=t
    ·subst h2; simp [h1,hv]
    ·simp [h1,h2]
  | some v =>
   simp only [Option.map_some];rw [dl,show List.filterMap (fun s=>(cJ e s).map fun v=>(s,some v)) l=only e l from rfl,rI]
   by_cases h1:t=s
   ·subst h1; simp [hv]
   ·have h2:¬ s=t:=fun hh=>h1 hh.symm
    simp [h1,h2]
theorem wO {o:Oper} {t:Nat} (h:Operand.tmp t∈o.op.operands):t∈looks ops o:=by
 unfold looks;refine Xk _ (Ye.2 ⟨.tmp t,by simpa using h,rfl⟩)
theorem Fx {o:Oper} {e:Env} {kk:ZB->T}:tQ P o (only e (looks ops o)) kk=tQ P o e kk:=by
 refine wx (fun x hx=>?_) kk;cases x <;> try rfl
 rename_i t;simp only [ev];rw [rI,W2 (wO hx)]
theorem D1 {e:Env} {a:Act} {l:List Nat} (hs:a.tmps.size=n.n) (hd:a.defers=n.d) (h:∀ s∈l,∀ v,cJ e s=some v->a.tmps.getD s undef=v):gh n (only e l) a:=by
 refine ⟨hs,hd,fun s v hv=>?_⟩;rw [rI] at hv;split at hv
 ·rename_i hm; exact h s hm v hv
 ·cases hv
def Lm (P : Program) (n : Nd) (ops : Array Oper) (e : Env) (m : Made) (h : Hp) (i : Nat) (o : Oper) : Prop :=
  calm P o = true /\ ∃ v b, (∀ d, o.dst = some d -> d < n -> cJ e d = some v) /\ yG ops o e b /\
    ((b = false /\ v = undef) \/ (b = true /\ ((∀ (kk : ZB -> T) L K h', kk v L K h' -> tQ P o e kk L K h') \/
      (∃ p l, (i, p, l) ∈ m /\ aG h p 0 l /\ ∀ (kk : ZB -> T) L K h', aG h' p 0 l -> kk v L K h' -> tQ P o e kk L K h'))))
def yk (ops:Array Oper):List Nat->Prop
 | []=>True
 | i::D=>i∉D/\(∀ o,ops[i]?=some o->∀ j∈waits o,j∈D)/\yk ops D
structure qP (P:Program) (n:Nd) (ops:Array Oper) (e0:Env) (listed:Array Bool) (a:Act) (h:Hp) (D:List Nat) (e:Env) (m:Made):Prop where
 vF:listed.size=ops.size
 size:a.tmps.size=n.n
 defers:a.defers=n.d
 lD:∀ i,listed[i]?=some true->i∈D
 dD:∀ i∈D,∃ o,ops[i]?=some o
 closed:yk ops D
 UC:∀ s v,cJ e s=some v->(∀ j∈D,∀ o,ops[j]?=some o->listed[j]?=some false->o.dst≠some s)->a.tmps.getD s undef=v
 Ny:∀ i∈D,∀ o,ops[i]?=some o->listed[i]?=some false->Lm P n ops e m h i o
 fr:Fr (dstsOf ops) e0 e
theorem qM:∀ {D:List Nat},yk ops D->∀ i∈D,∀ o,ops[i]?=some o->∀ j∈waits o,j∈D
 | i'::D,hc,i,hi,o,ho,j,hj=>by
  rcases Xo.1 hi with rfl | hi
  ·exact Xb _ (hc.2.1 o ho j hj)
  ·exact Xb _ (qM hc.2.2 i hi o ho j hj)
theorem sR (listed:Array Bool):∀ {D:List Nat},yk ops D->(∀ i∈D,∃ o,ops[i]?=some o)->(∃ i∈D,listed[i]?=some false)->(∀ i∈D,listed[i]?=some true\/listed[i]?=some false) ->
  ∃ i∈D,listed[i]?=some false/\∀ o,ops[i]?=some o->∀ j∈waits o,listed[j]?=some true
 | i'::D,hc,hd,⟨i,hi,hf⟩,hall=>by
  by_cases hex:∃ i∈D,listed[i]?=some false
  ·obtain ⟨k,hk,h1,h2⟩:=sR listed hc.2.2 (fun i hi=>hd i (Xb _ hi)) hex (fun i hi=>hall i (Xb _ hi));exact ⟨k,Xb _ hk,h1,h2⟩
  ·have hi':i=i':=by
    rcases Xo.1 hi with h | h
    ·exact h
    ·exact (hex ⟨i,h,hf⟩).elim
   subst hi';refine ⟨i,aj,hf,fun o ho j hj=>?_⟩;have hjD:=hc.2.1 o ho j hj;rcases hall j (Xb _ hjD) with h | h
   ·exact h
   ·exact (hex ⟨j,hjD,h⟩).elim
theorem jF {e:Env} {dst:Option Tmp} {v:ZB} {s:Nat} (hd:dst≠some s):cJ (dO n e dst v) s=cJ e s:=by
 cases dst with
 | none=>rfl
 | some d =>
  simp only [dO];cases Nat.blt d n with
  | false=>rfl
  | true=>simp only [cond_true,dl]; rw [WV (fun hh:d=s=>hd (by rw [hh]))]
theorem sr {e:Env} {d:Nat} {v:ZB} (hd:d<n):cJ (dO n e (some d) v) d=some v:=by
 have hb:Nat.blt d n=true:=by rw [Nat.blt_eq]; exact hd
 simp only [dO,hb,cond_true,dl,if_true]
theorem HW {a:Act} {dst:Option Tmp} {v:ZB} {s:Nat} (hd:dst≠some s):(a.put dst v).tmps.getD s undef=a.tmps.getD s undef:=by
 cases dst with
 | none=>rfl
 | some d =>
  have hne:d≠s:=fun hh=>hd (by rw [hh])
  simp [Act.put,Array.getD_eq_getD_getElem?,Array.getElem?_setIfInBounds,hne]
theorem tS {a:Act} {d:Nat} {v:ZB} (hd:d<a.tmps.size):(a.put (some d) v).tmps.getD d undef=v:=by
 simp [Act.put,Array.getD_eq_getD_getElem?,Array.getElem?_setIfInBounds,hd]
theorem Dx (a:Act) (dst:Option Tmp) (v:ZB):(a.put dst v).tmps.size=a.tmps.size:=by cases dst <;> simp [Act.put]
theorem put_defers (a:Act) (dst:Option Tmp) (v:ZB):(a.put dst v).defers=a.defers:=by cases dst <;> rfl
variable {e0:Env} {listed:Array Bool} {a:Act} {h:Hp} {D:List Nat} {e:Env} {m:Made}
theorem EF {i:Nat} {o:Oper} (ho:ops[i]?=some o) {d:Nat} (hd:o.dst=some d):d∈dstsOf ops:=HL (j:=i) (by rw [ho]; exact hd)
theorem Fr.step {n:Nat} {l:List Nat} {e0 e e':Env} {o:Oper} {v:ZB} (h:Fr l e0 e) (he:∀ s,cJ e' s=cJ e s) (hd:∀ d,o.dst=some d->d∈l):Fr l e0 (Sx.dO n e' o.dst v) :=
 (h.trans (fun s _=>he s)).trans (Fr.dO n e' v hd)
theorem qP.uE (I:qP P n ops e0 listed a h D e m) {i:Nat} {o:Oper} (ho:ops[i]?=some o) (hn:listed[i]?≠some true):listed[i]?=some false:=by
 have hlt:i<ops.size:=by
  rcases XE i ops.size with h | h
  ·exact h
  ·rw [XF h] at ho; cases ho
 have hlt':i<listed.size:=by rw [I.vF]; exact hlt
 rw [X0 hlt'] at hn ⊢;cases hb:listed[i] with
 | false=>rfl
 | true=>rw [hb] at hn; exact (hn rfl).elim
theorem qP.Ii (hok:dW P n ops=true) (I:qP P n ops e0 listed a h D e m) {i:Nat} {o:Oper} (ho:ops[i]?=some o) (hr:∀ j∈waits o,listed[j]?=some true)
  (hi:i∉D\/calm P o=true):∀ s∈looks ops o,∀ v,cJ e s=some v->a.tmps.getD s undef=v:=by
 intro s hs v hv;refine I.UC s v hv ?_;intro j hj oj hoj hf hd;have hcj:=(I.Ny j hj oj hoj hf).1
 by_cases hij:i=j
 ·subst hij;rw [ho] at hoj; obtain rfl:=Xc hoj;exact GZ hok ho hd hcj hs
 ·rcases (mV hok ho hoj hij).1 s hd hs with h1 | ⟨_,h1⟩
  ·rw [hr j h1] at hf; cases hf
  ·rw [hcj] at h1; cases h1
theorem qP.exec (hok:dW P n ops=true) (I:qP P n ops e0 listed a h D e m) {i:Nat} {o:Oper} (ho:ops[i]?=some o) (hiD:i∈D) (hf:listed[i]?=some false) {v:ZB}
  (hv:∀ d,o.dst=some d->cJ e d=some v) (hc:calm P o=true):qP P n ops e0 (listed.setIfInBounds i true) (a.put o.dst v) h D e m:=by
 have hlt:i<listed.size:=by
  rcases XE i listed.size with h | h
  ·exact h
  ·rw [XF h] at hf; cases hf
 have kp:∀ j,(listed.setIfInBounds i true)[j]?=if i=j then some true else listed[j]?:=by
  intro j;rw [X3]
  by_cases hij:i=j
  ·subst hij; simp [hlt]
  ·simp [hij]
 refine ⟨by simp [I.vF],by rw [Dx,I.size],by rw [put_defers,I.defers],?_,I.dD,I.closed,?_,?_,I.fr⟩
 ·intro j hj;rw [kp] at hj
  by_cases hij:i=j
  ·subst hij; exact hiD
  ·rw [WV hij] at hj; exact I.lD j hj
 ·intro s u hu hno
  by_cases hd:o.dst=some s
  ·rw [hd];rw [hv s hd] at hu;obtain rfl:=Xc hu;exact tS (by rw [I.size]; exact NS hok ho hd)
  ·rw [HW hd];refine I.UC s u hu ?_;intro j hj oj hoj hf' hd'
   by_cases hij:i=j
   ·subst hij; rw [ho] at hoj; obtain rfl:=Xc hoj; exact hd hd'
   ·exact hno j hj oj hoj (by rw [kp,WV hij]; exact hf') hd'
 ·intro j hj oj hoj hf';rw [kp] at hf'
  by_cases hij:i=j
  ·rw [W2 hij] at hf'; cases hf'
  ·rw [WV hij] at hf'; exact I.Ny j hj oj hoj hf'
theorem Lm.congr {e e':Env} {m m':Made} {h h':Hp} {i:Nat} {o:Oper} (hp:Lm P n ops e m h i o) (hl:∀ s∈looks ops o,cJ e' s=cJ e s) (hd:∀ d,o.dst=some d->cJ e' d=cJ e d)
  (hm:∀ p l,(i,p,l)∈m->aG h p 0 l->(i,p,l)∈m'/\aG h' p 0 l):Lm P n ops e' m' h' i o:=by
 obtain ⟨hc,v,b,h1,h2,h3⟩:=hp;have hx:∀ kk,tQ P o e' kk=tQ P o e kk:=fun kk=>wx (fun x hx=>by
  cases x <;> try rfl
  exact hl _ (wO hx)) kk
 refine ⟨hc,v,b,fun d hd1 hd2=>by rw [hd d hd1]; exact h1 d hd1 hd2,h2.congr hl,?_⟩;rcases h3 with h3 | ⟨hb,h3 | ⟨p,l,h3,h4,h5⟩⟩
 ·exact .inl h3
 ·exact .inr ⟨hb,.inl fun kk L K h' hk=>by rw [hx]; exact h3 kk L K h' hk⟩
 ·obtain ⟨h6,h7⟩:=hm p l h3 h4;exact .inr ⟨hb,.inr ⟨p,l,h6,h7,fun kk L K h' hc hk=>by rw [hx]; exact h5 kk L K h' hc hk⟩⟩
theorem qP.ahead (hok:dW P n ops=true) (I:qP P n ops e0 listed a h D e m) {i:Nat} {o:Oper} (ho:ops[i]?=some o) (hiD:i∉D) (hw:∀ j∈waits o,j∈D) (hc:calm P o=true)
  {v:ZB} {e':Env} (he:∀ s,cJ e' s=cJ e s) {m':Made} (hm:∀ x∈m,x∈m')
  (hp:Lm P n ops (dO n e' o.dst v) m' h i o):qP P n ops e0 listed a h (i::D) (dO n e' o.dst v) m':=by
 have hfi:listed[i]?=some false:=I.uE ho (fun hh=>hiD (I.lD i hh));refine ⟨I.vF,I.size,I.defers,fun j hj=>Xb _ (I.lD j hj),?_,⟨hiD,?_,I.closed⟩,?_,?_,I.fr.step he (fun d hd=>EF ho hd)⟩
 ·intro j hj;rcases Xo.1 hj with rfl | hj
  ·exact ⟨o,ho⟩
  ·exact I.dD j hj
 ·intro o' ho' j hj;rw [ho] at ho'; obtain rfl:=Xc ho';exact hw j hj
 ·intro s u hu hno;have hd:o.dst≠some s:=hno i aj o ho hfi;rw [jF hd,he] at hu;exact I.UC s u hu fun j hj oj hoj hf=>hno j (Xb _ hj) oj hoj hf
 ·intro j hj oj hoj hf;rcases Xo.1 hj with rfl | hj
  ·rw [ho] at hoj; obtain rfl:=Xc hoj; exact hp
  ·have hne:j≠i:=fun hh=>hiD (hh▸hj)
   have hpj:=I.Ny j hj oj hoj hf;refine hpj.congr ?_ ?_ (fun p l h1 h2=>⟨hm _ h1,h2⟩)
   ·intro s hs
    by_cases hd:o.dst=some s
    ·exfalso;rcases (mV hok hoj ho hne).1 s hd hs with h1 | ⟨_,h1⟩
     ·exact hiD (qM I.closed j hj oj hoj i h1)
     ·rw [hc] at h1; cases h1
    ·rw [jF hd,he]
   ·intro d hd;rw [jF ((mV hok hoj ho hne).2 d hd hpj.1),he]
theorem qP.effect (hok:dW P n ops=true) (I:qP P n ops e0 listed a h D e m) {i:Nat} {o:Oper} (ho:ops[i]?=some o) (hiD:i∉D) (hr:∀ j∈waits o,listed[j]?=some true) (hc:calm P o=false)
  {v:ZB} {e':Env} (he:∀ s,cJ e' s=cJ e s) {h':Hp} (hst:∀ j p l,(j,p,l)∈m->aG h p 0 l->j∉waits o->aG h' p 0 l) :
  qP P n ops e0 (listed.setIfInBounds i true) (a.put o.dst v) h' (i::D) (dO n e' o.dst v) m:=by
 have hfi:listed[i]?=some false:=I.uE ho (fun hh=>hiD (I.lD i hh));have hlt:i<listed.size:=by
  rcases XE i listed.size with h | h
  ·exact h
  ·rw [XF h] at hfi; cases hfi
 have kp:∀ j,(listed.setIfInBounds i true)[j]?=if i=j then some true else listed[j]?:=by
  intro j;rw [X3]
  by_cases hij:i=j
  ·subst hij; simp [hlt]
  ·simp [hij]
 refine ⟨by simp [I.vF],by rw [Dx,I.size],by rw [put_defers,I.defers],?_,?_,⟨hiD,?_,I.closed⟩,?_,?_,I.fr.step he (fun d hd=>EF ho hd)⟩
 ·intro j hj;rw [kp] at hj
  by_cases hij:i=j
  ·subst hij; simp
  ·rw [WV hij] at hj; exact Xb _ (I.lD j hj)
 ·intro j hj;rcases Xo.1 hj with rfl | hj
  ·exact ⟨o,ho⟩
  ·exact I.dD j hj
 ·intro o' ho' j hj;rw [ho] at ho'; obtain rfl:=Xc ho';exact I.lD j (hr j hj)
 ·intro s u hu hno
  by_cases hd:o.dst=some s
  ·rw [hd] at hu ⊢;have hdn:=NS hok ho hd;rw [sr hdn] at hu;obtain rfl:=Xc hu;exact tS (by rw [I.size]; exact hdn)
  ·rw [jF hd,he] at hu;rw [HW hd];refine I.UC s u hu ?_;intro j hj oj hoj hf;have hne:i≠j:=fun hh=>hiD (hh▸hj)
   exact hno j (Xb _ hj) oj hoj (by rw [kp,WV hne]; exact hf)
 ·intro j hj oj hoj hf;rw [kp] at hf
  by_cases hij:i=j
  ·rw [W2 hij] at hf; cases hf
  ·rw [WV hij] at hf;rcases Xo.1 hj with hh | hj
   ·exact (hij hh.symm).elim
   ·have hpj:=I.Ny j hj oj hoj hf;have hnw:j∉waits o:=fun hh=>by rw [hr j hh] at hf; cases hf
    refine hpj.congr ?_ ?_ (fun p l h1 h2=>⟨h1,hst j p l h1 h2 hnw⟩)
    ·intro s hs
     by_cases hd:o.dst=some s
     ·exfalso;rcases (mV hok hoj ho (fun hh=>hij hh.symm)).1 s hd hs with h1 | ⟨h1,_⟩
      ·exact hiD (qM I.closed j hj oj hoj i h1)
      ·exact hnw h1
     ·rw [jF hd,he]
    ·intro d hd;rw [jF ((mV hok hoj ho (fun hh=>hij hh.symm)).2 d hd hpj.1),he]
theorem nJ {listed:Array Bool} (hs:listed.size=ops.size) {i:Nat}:i∈Region.ready .any ops listed↔∃ o,ops[i]?=some o/\listed[i]?=some false/\∀ j∈waits o,listed[j]?=some true:=by
 unfold Region.ready;rw [List.mem_filter,Yo];constructor
 ·rintro ⟨hlt,hh⟩;rw [XO] at hh;obtain ⟨h1,h2⟩:=hh;have ho:ops[i]?=some ops[i]:=X0 hlt;rw [ho] at h2;refine ⟨ops[i],ho,?_,?_⟩
  ·have hlt':i<listed.size:=by rw [hs]; exact hlt
   rw [X0 hlt'];simp only [Bool.not_eq_true',Array.getD_eq_getD_getElem?,Array.getElem?_eq_getElem hlt',Option.getD_some] at h1;rw [h1]
  ·intro j hj;simp only [Option.map_some,Option.getD_some] at h2;unfold waits at hj;obtain ⟨ed,hed,rfl⟩:=WX.1 hj;obtain ⟨hed1,hed2⟩:=List.mem_filter.1 hed;have h3:=(Array.all_eq_true_iff_forall_mem.1 h2) ed (by simpa using hed1);rw [hed2] at h3;simp only [Bool.not_true,Bool.false_or,Array.getD_eq_getD_getElem?] at h3;cases hx:listed[ed.on]? with
   | none=>rw [hx] at h3; cases h3
   | some b=>rw [hx] at h3; simp at h3; rw [h3]
 ·rintro ⟨o,ho,h1,h2⟩;have hlt:i<ops.size:=by
   rcases XE i ops.size with h | h
   ·exact h
   ·rw [XF h] at ho; cases ho
  refine ⟨hlt,?_⟩;rw [XO];refine ⟨by simp [Array.getD_eq_getD_getElem?,h1],?_⟩;rw [ho];simp only [Option.map_some,Option.getD_some];refine Array.all_eq_true_iff_forall_mem.2 fun ed hed=>?_
  cases hb:Region.binds .any ed with
  | false=>rfl
  | true =>
   have:=h2 ed.on (WX.2 ⟨ed,List.mem_filter.2 ⟨by simpa using hed,hb⟩,rfl⟩)
   simp [Array.getD_eq_getD_getElem?,this]
theorem fl {D:List Nat} {c:Bool} {p:Nat × Oper}:∀ {l:List (Nat × Oper)},p∈cO P D c l↔p∈l/\wN D p.1 p.2=true/\calm P p.2=c
 | []=>by simp [cO]
 | q::l=>by
  unfold cO;cases hb:wN D q.1 q.2 && (calm P q.2==c) with
  | true =>
   rw [XO] at hb;simp only [List.mem_cons,fl (l:=l)];constructor
   ·rintro (rfl | h)
    ·exact ⟨.inl rfl,hb.1,by simpa using hb.2⟩
    ·exact ⟨.inr h.1,h.2⟩
   ·rintro ⟨rfl | h,h2⟩
    ·exact .inl rfl
    ·exact .inr ⟨h,h2⟩
  | false =>
   simp only [List.mem_cons,fl (l:=l)];constructor
   ·rintro ⟨h1,h2⟩; exact ⟨.inr h1,h2⟩
   ·rintro ⟨rfl | h,h2⟩
    ·rw [h2.1,h2.2] at hb; simp at hb
    ·exact ⟨h,h2⟩
theorem te {D:List Nat} {i:Nat} {o:Oper}:wN D i o=true↔i∉D/\∀ j∈waits o,j∈D:=by
 unfold wN;rw [XO];constructor
 ·rintro ⟨h1,h2⟩;refine ⟨fun hh=>?_,fun j hj=>fX.1 (Xn.1 h2 j hj)⟩;rw [fX.2 hh] at h1; cases h1
 ·rintro ⟨h1,h2⟩;refine ⟨?_,Xn.2 fun j hj=>fX.2 (h2 j hj)⟩;cases hb:r6 i D with
  | false=>rfl
  | true=>exact (h1 (fX.1 hb)).elim
theorem Qo {L:Lp} {K:ZB->Hp->Prop} {h:Hp} {o:Oper} {m:Made} {t:T} (ht:uq (jE o m) t L K h):t L K h/\∀ j p l,(j,p,l)∈m->j∉waits o->aG h p 0 l:=by
 have h1:∀ l:List (ZC × List ZB),uq l t L K h->T.C1 h l/\t L K h:=by
  intro l hl;cases l with
  | nil=>exact ⟨trivial,hl⟩
  | cons p l=>exact hl
 obtain ⟨h2,h3⟩:=h1 _ ht;refine ⟨h3,?_⟩;clear ht h1 h3
 induction m with
 | nil=>intro j p l hj; cases hj
 | cons x m ih =>
  obtain ⟨i,q,lq⟩:=x;intro j p l hj hnw;unfold jE at h2;cases hb:r6 i (waits o) with
  | true =>
   rw [hb] at h2;rcases Xo.1 hj with hh | hj
   ·simp only [Prod.mk.injEq] at hh;obtain ⟨rfl,rfl,rfl⟩:=hh;exact (hnw (fX.1 hb)).elim
   ·exact ih h2 j p l hj hnw
  | false =>
   rw [hb] at h2;simp only [cond_false] at h2;rcases Xo.1 hj with hh | hj
   ·simp only [Prod.mk.injEq] at hh;obtain ⟨rfl,rfl,rfl⟩:=hh;exact h2.1
   ·exact ih h2.2 j p l hj hnw
theorem OM {L:Lp} {K:ZB->Hp->Prop} {h:Hp}:∀ {ts:List T} {t:T},t∈ts->Te ts L K h->t L K h
 | [],t,ht,_=>by cases ht
 | [u],t,ht,hx=>by simp at ht; subst ht; exact hx
 | u::u2::ts,t,ht,hx=>by
  have:∀ ts:List T,t∈ts->T.every L K h ts->t L K h:=by
   intro ts
   induction ts with
   | nil=>intro hh; cases hh
   | cons v ts ih =>
    intro hh hx;rcases Xo.1 hh with rfl | hh
    ·exact hx.1
    ·exact ih hh hx.2
  exact this _ ht hx
def left (listed:Array Bool):Nat:=(listed.toList.filter fun b=>!b).length
theorem BA:∀ (l:List Bool) (i:Nat),l[i]?=some false->((l.set i true).filter fun b=>!b).length+1=(l.filter fun b=>!b).length
 | [],i,h=>by simp at h
 | b::l,0,h=>by simp at h; subst h; simp
 | b::l,i+1,h=>by
  simp at h
  have:=BA l i h
  cases b
  ·simp only [List.set_cons_succ,List.filter_cons,Bool.not_false,if_true,List.length_cons]; omega
  ·simp only [List.set_cons_succ,List.filter_cons,Bool.not_true,Bool.false_eq_true,if_false]; exact this
theorem Du {listed:Array Bool} {i:Nat} (hf:listed[i]?=some false):left (listed.setIfInBounds i true)+1=left listed:=by
 unfold left;rw [Array.toList_setIfInBounds];exact BA _ i (by simpa using hf)
theorem Jb {listed:Array Bool} (h0:left listed=0) (i:Nat):listed[i]?≠some false:=by
 intro hf
 have:=Du hf
 omega
def GP (v:ZB) (h:Hp):ZB->T:=fun v' _ _ h'=>v'=v/\h'=h
theorem PZ (hok:dW P n ops=true) {L:Lp} {K:ZB->Hp->Prop} {k:Env->T} {Q:Exit->Act->World->Prop} {w0:World} {i:Nat}
  {listed:Array Bool} {a:Act} {w:World} {R:Act->World->Prop} (hi:i∈Region.ready .any ops listed) (hs:dz w0 w)
  (next:∀ a' w' D e m fu,dz w0 w'->qP P n ops e0 (listed.setIfInBounds i true) a' w'.heap D e m->fF P n ops fu D e m k L K w'.heap->R a' w') :
  ∀ fu D e m,qP P n ops e0 listed a w.heap D e m->fF P n ops fu D e m k L K w.heap->wpOp P ops Q i R a w:=by
 intro fu
 induction fu with
 | zero=>intro D e m I ht; exact ht.elim
 | succ fu ih =>
  intro D e m I ht;obtain ⟨o,ho,hf,hr⟩:=(nJ I.vF).1 hi
  by_cases hiD:i∈D
  ·
   obtain ⟨hc,v,b,hv,hg,hx⟩:=I.Ny i hiD o ho hf;have hlk:=I.Ii hok ho hr (.inr hc);have hwant:=hg.wanted hlk;have hv':∀ d,o.dst=some d->cJ e d=some v:=fun d hd=>hv d hd (NS hok ho hd)
   unfold wpOp;rw [ho];simp only;have I':=I.exec hok ho hiD hf hv' hc;rcases hx with ⟨rfl,rfl⟩ | ⟨rfl,hx⟩
   ·rw [WV (by simp [hwant])];exact next _ _ D e m (fu+1) hs I' ht
   ·rw [W2 hwant];refine .inl ?_;have hop:Vl P o a.eval w.heap (fun v' h'=>v'=v/\h'=w.heap):=by
     have hxx:tQ P o e (GP v w.heap) [] (fun _ _=>True) w.heap:=by
      rcases hx with hx | ⟨p,l,_,hcl,hx⟩
      ·exact hx (GP v w.heap) [] (fun _ _=>True) w.heap ⟨rfl,rfl⟩
      ·exact hx (GP v w.heap) [] (fun _ _=>True) w.heap hcl ⟨rfl,rfl⟩
     rw [<- Fx (ops:=ops)] at hxx;exact Gr (D1 I.size I.defers hlk) hxx
    refine vX hop ?_;rintro v' w' hs' ⟨rfl,hh⟩;refine next _ _ D e m (fu+1) (hs.trans hs') (by rw [hh]; exact I') (by rw [hh]; exact ht)
  ·unfold fF at ht;cases hcalm:cO P D true (idx 0 ops.toList) with
   | cons q qs =>
    obtain ⟨j,oj⟩:=q;simp only [hcalm] at ht;have hq:(j,oj)∈cO P D true (idx 0 ops.toList):=by rw [hcalm]; simp
    obtain ⟨hq1,hq2,hq3⟩:=fl.1 hq;have hoj:=ij.1 hq1;obtain ⟨hjD,hjw⟩:=te.1 hq2;obtain ⟨e',b,he,hg,hx⟩:=zL ht;have hg':∀ u,yG ops oj (dO n e' oj.dst u) b:=fun u=>hg.congr fun s hs=>by
     by_cases hd:oj.dst=some s
     ·exact (GZ hok hoj hd hq3 hs).elim
     ·rw [jF hd,he]
    have hself:∀ u d,oj.dst=some d->d<n->cJ (dO n e' oj.dst u) d=some u:=fun u d hd hdn=>by rw [hd]; exact sr hdn
    have hxe:∀ u kk,tQ P oj (dO n e' oj.dst u) kk=tQ P oj e' kk:=fun u kk=>wx (fun x hx=>by
     cases x <;> try rfl
     rename_i s;simp only [ev];exact jF (fun hd=>GZ hok hoj hd hq3 (wO hx))) kk
    rcases hx with ⟨rfl,hx⟩ | ⟨rfl,hx⟩
    ·
     unfold calm at hq3;cases hpure:qK P oj with
     | true =>
      have hx':tQ P oj e' (fun v=>fF P n ops fu (j::D) (dO n e' oj.dst v) m k) L K w.heap:=by
       have hnl:∀ t x,oj.op≠.load t x:=by
        intro t x hh;unfold qK at hpure;rw [hh] at hpure; cases hpure
       obtain ⟨dst,op,type,pos,after,guard⟩:=oj;cases op <;> first | exact hx | exact (hnl _ _ rfl).elim
      obtain ⟨v,hk,hall⟩:=KS hpure hx';refine ih (j::D) _ m (I.ahead hok hoj hjD hjw (by unfold calm; rw [hpure]; rfl) he (fun x hx=>hx) ?_) hk;exact ⟨by unfold calm; rw [hpure]; rfl,v,true,hself v,hg' v,.inr ⟨rfl,.inl fun kk L K h' hkk=>by rw [hxe]; exact hall kk L K h' hkk⟩⟩
     | false =>
      rw [hpure,Bool.false_or] at hq3;obtain ⟨t,x,hop⟩:∃ t x,oj.op=.load t x:=by
       unfold zg at hq3;cases hop:oj.op <;> rw [hop] at hq3 <;> first | (cases hq3; done) | exact ⟨_,_,rfl⟩
      have hcj:calm P oj=true:=by unfold calm zg; rw [hop]; simp
      simp only [hop] at hx;unfold qT at hx;obtain ⟨u,hu,hx⟩:=bn hx;have hx2:qT P t x e' (fun a l v=>fF P n ops fu (j::D) (dO n e' oj.dst v) ((j,a,l)::m) k) L K w.heap:=by
       unfold qT bP; simp only [hu]; exact hx
      cases hb:cv P t with
      | none=>cases u <;> simp only [hb] at hx <;> exact hx.elim
      | some bb =>
       obtain ⟨pp,rfl⟩:∃ pp,u=.pointer pp:=by
        cases u <;> cases bb <;> simp only [hb] at hx <;> first | exact hx.elim | exact ⟨_,rfl⟩
       have hx3:(match bb with
        | true=>(bif (eQ P 9 t).length==P.cellsOf t then T.bk pp fun a=>T.ah a (eQ P 9 t) (jd _ fun l=>fF P n ops fu (j::D) (dO n e' oj.dst (.agg l.toArray)) ((j,a,l)::m) k) else T.fail)
        | false=>T.bk pp fun a=>T.ah a (ct P t).2 (jd _ fun l=>fF P n ops fu (j::D) (dO n e' oj.dst (l.headD undef)) ((j,a,l)::m) k)) L K w.heap:=by
        cases bb <;> simp only [hb] at hx <;> exact hx
       have hfin:∃ p l v,pp=some p/\aG w.heap p 0 l/\fF P n ops fu (j::D) (dO n e' oj.dst v) ((j,p,l)::m) k L K w.heap /\
         ∀ (kk:ZB->T) L K h',aG h' p 0 l->kk v L K h'->tQ P oj e' kk L K h':=by
        have hxop:∀ kk,tQ P oj e' kk=qT P t x e' (fun _ _ v=>kk v):=by
         intro kk;unfold tQ;rw [hop] <;> rfl
        cases bb with
        | true =>
         simp only at hx3;rcases fx hx3 with ⟨hl,hx3⟩ | ⟨hl,hx3⟩
         ·obtain ⟨p,rfl,hx3⟩:=fK hx3;obtain ⟨y,hc,hx3⟩:=hx3;rw [du] at hx3;refine ⟨p,_,_,rfl,hc,hx3,fun kk L K h' hc' hkk=>?_⟩;rw [hxop];unfold qT bP;simp only [hu,hb,hl];exact ⟨y,hc',by rw [du]; exact hkk⟩
         ·exact hx3.elim
        | false =>
         simp only at hx3;obtain ⟨p,rfl,hx3⟩:=fK hx3;obtain ⟨y,hc,hx3⟩:=hx3;rw [du] at hx3;refine ⟨p,_,_,rfl,hc,hx3,fun kk L K h' hc' hkk=>?_⟩;rw [hxop];unfold qT bP;simp only [hu,hb];exact ⟨y,hc',by rw [du]; exact hkk⟩
       obtain ⟨p,l,v,rfl,hc,hk,hall⟩:=hfin;refine ih (j::D) _ ((j,p,l)::m) (I.ahead hok hoj hjD hjw hcj he (fun x hx=>Xb _ hx) ?_) hk;exact ⟨hcj,v,true,hself v,hg' v,.inr ⟨rfl,.inr ⟨p,l,aj,hc,fun kk L K h' hc' hkk=>by rw [hxe]; exact hall kk L K h' hc' hkk⟩⟩⟩
    ·
     refine ih (j::D) _ m (I.ahead hok hoj hjD hjw hq3 he (fun x hx=>hx) ?_) hx;exact ⟨hq3,undef,false,hself undef,hg' undef,.inl ⟨rfl,rfl⟩⟩
   | nil =>
    simp only [hcalm] at ht;have hjw:∀ j∈waits o,j∈D:=fun j hj=>I.lD j (hr j hj)
    have hrx:wN D i o=true:=te.2 ⟨hiD,hjw⟩;have hc:calm P o=false:=by
     cases hc:calm P o with
     | false=>rfl
     | true =>
      have:(i,o)∈cO P D true (idx 0 ops.toList):=fl.2 ⟨ij.2 ho,hrx,hc⟩
      rw [hcalm] at this; cases this
    have hmem:(i,o)∈cO P D false (idx 0 ops.toList):=fl.2 ⟨ij.2 ho,hrx,hc⟩;cases heff:cO P D false (idx 0 ops.toList) with
    | nil=>rw [heff] at hmem; cases hmem
    | cons q qs =>
     simp only [heff] at ht;rw [heff] at hmem;have hti:=OM (WX.2 ⟨(i,o),hmem,rfl⟩) ht;simp only at hti;obtain ⟨e',b,he,hg,hx⟩:=zL hti;have hlk:=I.Ii hok ho hr (.inl hiD);have hwant:=hg.wanted hlk;unfold wpOp;rw [ho];simp only;rcases hx with ⟨rfl,hx⟩ | ⟨rfl,hx⟩
     ·rw [W2 hwant];refine .inl ?_;rw [<- Fx (ops:=ops)] at hx;have hlk':∀ s∈looks ops o,∀ v,cJ e' s=some v->a.tmps.getD s undef=v:=fun s hs v hv=>hlk s hs v (by rw [<- he]; exact hv)
      refine vX (Gr (D1 I.size I.defers hlk') hx) ?_;intro v w' hs' hst;obtain ⟨hst1,hst2⟩:=Qo hst;exact next _ _ (i::D) _ m fu (hs.trans hs') (I.effect hok ho hiD hr hc he (fun j p l h1 _ h3=>hst2 j p l h1 h3)) hst1
     ·rw [WV (by simp [hwant])];exact next _ _ (i::D) _ m fu hs (I.effect hok ho hiD hr hc he (fun j p l _ h2 _=>h2)) hx
theorem LG (hok:dW P n ops=true) {L:Lp} {K:ZB->Hp->Prop} {k:Env->T} {Q:Exit->Act->Hp->Prop} {w0:World}
  (hk:∀ e a h,k e L K h->gh n e a->Fr (dstsOf ops) e0 e->Q .normal a h):∀ (fuel:Nat) (listed:Array Bool) (a:Act) (w:World) (D:List Nat) (e:Env) (m:Made) (fu:Nat),left listed<=fuel->dz w0 w ->
   qP P n ops e0 listed a w.heap D e m->fF P n ops fu D e m k L K w.heap->wpAny P .any ops (Vn w0 Q) fuel listed a w:=by
 have fin:∀ (listed:Array Bool) (a:Act) (w:World),dz w0 w->Region.ready .any ops listed=[]->∀ fu D e m,qP P n ops e0 listed a w.heap D e m->fF P n ops fu D e m k L K w.heap->Vn w0 Q .normal a w:=by
  intro listed a w hs hr fu D e m I ht;have hall:∀ i∈D,listed[i]?=some true\/listed[i]?=some false:=by
   intro i hi;obtain ⟨o,ho⟩:=I.dD i hi
   by_cases h1:listed[i]?=some true
   ·exact .inl h1
   ·exact .inr (I.uE ho h1)
  have hdone:∀ i∈D,listed[i]?=some true:=by
   intro i hi;rcases hall i hi with h1 | h1
   ·exact h1
   ·obtain ⟨j,hj,h2,h3⟩:=sR listed I.closed I.dD ⟨i,hi,h1⟩ hall;obtain ⟨o,ho⟩:=I.dD j hj
    have:j∈Region.ready .any ops listed:=(nJ I.vF).2 ⟨o,ho,h2,h3 o ho⟩
    rw [hr] at this; cases this
  have hno:∀ c,cO P D c (idx 0 ops.toList)=[]:=by
   intro c;cases hx:cO P D c (idx 0 ops.toList) with
   | nil=>rfl
   | cons q qs =>
    obtain ⟨i,o⟩:=q;have hq:(i,o)∈cO P D c (idx 0 ops.toList):=by rw [hx]; simp
    obtain ⟨hq1,hq2,_⟩:=fl.1 hq;have ho:=ij.1 hq1;obtain ⟨hiD,hw⟩:=te.1 hq2
    have:i∈Region.ready .any ops listed:=(nJ I.vF).2 ⟨o,ho,I.uE ho (fun hh=>hiD (I.lD i hh)),fun j hj=>hdone j (hw j hj)⟩
    rw [hr] at this; cases this
  cases fu with
  | zero=>exact ht.elim
  | succ fu =>
   unfold fF at ht;simp only [hno] at ht;refine ⟨hs,hk e a w.heap ht ⟨I.size,I.defers,fun s v hv=>I.UC s v hv ?_⟩ I.fr⟩;intro j hj o ho hf;rw [hdone j hj] at hf; cases hf
 intro fuel
 induction fuel with
 | zero =>
  intro listed a w D e m fu hl hs I ht;have hr:Region.ready .any ops listed=[]:=by
   cases hx:Region.ready .any ops listed with
   | nil=>rfl
   | cons i l =>
    have:i∈Region.ready .any ops listed:=by rw [hx]; simp
    obtain ⟨o,ho,hf,_⟩:=(nJ I.vF).1 this;exact (Jb ad i hf).elim
  exact ⟨hr,fin listed a w hs hr fu D e m I ht⟩
 | succ fuel ih =>
  intro listed a w D e m fu hl hs I ht;refine ⟨fun hr=>fin listed a w hs hr fu D e m I ht,fun i hi=>?_⟩;obtain ⟨o,ho,hf,_⟩:=(nJ I.vF).1 hi;refine PZ hok hi hs ?_ fu D e m I ht;intro a' w' D' e' m' fu' hs' I' ht';exact ih _ a' w' D' e' m' fu' (by have:=Du hf; omega) hs' I' ht'
theorem Wp (hm:P.follows .mixedOrders=true):Wf P n:=by
 intro id ops e k L K Q a h hk ht g w0 w hs hw;subst hw;unfold uO at ht;cases hok:dW P n ops with
 | false=>simp only [hok] at ht; exact ht.elim
 | true =>
  simp only [hok] at ht;have hnone:∀ (l:Array Bool) (i:Nat),l=Array.replicate ops.size false->l[i]?≠some true:=by
   intro l i hl hh;subst hl;simp [Array.getElem?_replicate] at hh
  refine wp_region_any hm (LG (e0:=e) hok hk ops.size _ a { w with drawn:=w.drawn+1 } [] e [] (ops.size+1) ?_ ⟨hs.os,hs.tape,hs.output⟩ ?_ ht)
  ·unfold left;refine XU (Yd _ _) ?_
   simp
  ·exact ⟨aj,g.size,g.defers,fun i hi=>(hnone _ i rfl hi).elim,fun i hi=>(by cases hi),trivial,fun s v hv _=>g.get s v hv,fun i hi=>(by cases hi),Fr.refl _ _⟩
end draws
end Go.Sx
