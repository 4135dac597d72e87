/- Part of the framework. No condition. -/
import Derived.Test.YthbffkdafjboiaaGreatDoorSxM
import Derived.Orders
set_option linter.all false
set_option maxHeartbeats 4000000
namespace Go.Sx
section congr
variable {P:Program}
def bK {e e':Env} {x:Operand} (h:ev e x=ev e' x) (k:Xab->T):bY e x k=bY e' x k:=by
 unfold bY; rw [h]
theorem eF {e e':Env}:∀ {xs:List Operand},(∀ x∈xs,ev e x=ev e' x)->∀ (k:List Xab->T),iq e xs k=iq e' xs k
 | [],_,k=>rfl
 | x::xs,h,k=>by
  simp only [iq];rw [bK (h x aj)]
  congr 1
  funext v
  exact eF (fun x hx=>h x (by simp [hx])) _
def w9 {o:Oper} {e e':Env} (h:∀ x∈o.op.operands,ev e x=ev e' x) (kk:Xab->T):uH P o e kk=uH P o e' kk:=by
 obtain ⟨dst,op,j,pos,after,guard⟩:=o;cases op <;> simp only [Op.operands] at h <;> simp only [uH]
 case pick c x y =>
  rw [bK (h c aj)]
  congr 1; funext v
  cases v <;> first | rfl | (rw [bK (h x aj),bK (h y aj)])
 case build t ps=>rw [eF (fun x hx=>h x (by simpa using hx))]
 case buildSlice t l ps=>rw [eF (fun x hx=>h x (by simpa using hx))]
 case store t x y =>
  rw [bK (h x aj)]
  congr 1; funext v
  rw [bK (h y aj)]
 case binOp op t x y u =>
  rw [bK (h x aj)]
  congr 1; funext v
  rw [bK (h y aj)]
 case makeFunc fn F ca =>
  rw [eF (fun x hx=>h x (by simp at hx ⊢; exact .inl hx))]
  congr 1; funext v
  rw [eF (fun x hx=>h x (by simp at hx ⊢; exact .inr hx))]
 case makeMap t r=>cases r <;> rfl
 case makeSlice t x y =>
  rw [bK (h x aj)]
  congr 1; funext v
  rw [bK (h y aj)]
 case slice t x G hi J =>
  rw [bK (h x aj)]
  congr 1; funext v
  rw [eF (fun y d=>h y (by
   simp only [List.mem_append,Option.mem_toList] at d;simp only [Array.mem_append,Array.mem_singleton,Option.mem_toArray];rcases d with (d | d) | d
   ·exact .inl (.inl (.inr d))
   ·exact .inl (.inr d)
   ·exact .inr d))]
 case indexAddr t x y =>
  rw [bK (h x aj)]
  congr 1; funext v
  rw [bK (h y aj)]
 case index t x y =>
  rw [bK (h x aj)]
  congr 1; funext v
  rw [bK (h y aj)]
 case lookup t x y ok =>
  rw [bK (h x aj)]
  congr 1; funext v
  rw [bK (h y aj)]
 case mapUpdate t x y z =>
  rw [bK (h x aj)]
  congr 1; funext v
  rw [bK (h y aj)]
  congr 1; funext v
  rw [bK (h z aj)]
 case insert t x y z =>
  rw [bK (h x aj)]
  congr 1; funext v
  rw [bK (h y aj)]
  congr 1; funext v
  rw [bK (h z aj)]
 case mapEntry t x y =>
  rw [bK (h x aj)]
  congr 1; funext v
  rw [bK (h y aj)]
 case entryStore t x y z =>
  rw [bK (h x aj)]
  congr 1; funext v
  rw [bK (h y aj)]
  congr 1; funext v
  rw [bK (h z aj)]
 case call c =>
  cases hc:c.callee with
  | builtin b =>
   simp only [hc];rw [eF (fun x hx=>h x (by simp [Call.operands,hc]; simpa using hx))]
  | invoke r m=>simp only [hc]
  | value f =>
   simp only [hc];cases Fg f
   ·simp only;rw [bK (h f (by simp [Call.operands,hc]))]
    congr 1; funext v
    rw [eF (xs:=c.args.toList) (fun x hx=>h x (by simp [Call.operands,hc]; right; simpa using hx))]
   ·simp only;rw [bK (h f (by simp [Call.operands,hc]))]
    congr 1; funext v
    rw [eF (xs:=c.args.toList) (fun x hx=>h x (by simp [Call.operands,hc]; right; simpa using hx))]
 all_goals first | rfl | exact bK (h _ aj) _
end congr
section pures
variable {P:Program} {L:Lp} {K:Xab->Hp->Prop} {h:Hp}
def dM (F:(Xab->T)->T) (kk:Xab->T) (L:Lp) (K:Xab->Hp->Prop) (h:Hp):Prop :=
 ∃ v,kk v L K h/\∀ (d:Xab->T) j K' h',d v j K' h'->F d j K' h'
def dq {e:Env} {x:Operand} {F:(Xab->T)->Xab->T} {kk:Xab->T} (J:∀ v,F kk v L K h->dM (fun kk=>F kk v) kk L K h)
  (j:bY e x (F kk) L K h):dM (fun kk=>bY e x (F kk)) kk L K h:=by
 obtain ⟨v,hv,j⟩:=bH j;obtain ⟨u,hk,d⟩:=J v j;refine ⟨u,hk,fun G O K' h' hx=>?_⟩;unfold bY;simp only [hv];exact d G O K' h' hx
theorem oU {e:Env}:∀ {xs:List Operand} {F:(Xab->T)->List Xab->T} {kk:Xab->T},(∀ v,F kk v L K h->dM (fun kk=>F kk v) kk L K h) ->
  iq e xs (F kk) L K h->dM (fun kk=>iq e xs (F kk)) kk L K h
 | [],F,kk,j,d=>j [] d
 | x::xs,F,kk,j,d=>by
  refine dq (F:=fun kk v=>iq e xs fun l=>F kk (v::l)) ?_ d;intro v d;exact oU (F:=fun kk l=>F kk (v::l)) (fun l hl=>j (v::l) hl) d
def cO {kk:Xab->T} {v:Xab} (d:kk v L K h):dM (fun kk=>kk v) kk L K h:=⟨v,d,fun _ _ _ _ hx=>hx⟩
def pF {p:Prop} {F:(Xab->T)->T} {kk:Xab->T} (G:F kk L K h->dM F kk L K h) (j:T.need p (F kk) L K h):dM (fun kk=>T.need p (F kk)) kk L K h:=by
 obtain ⟨J,j⟩:=j;obtain ⟨v,hk,d⟩:=G j;exact ⟨v,hk,fun u O K' h' hx=>⟨J,d u O K' h' hx⟩⟩
def A0 {q:Xac} {F:(Xab->T)->Xax->T} {kk:Xab->T} (G:∀ a,F kk a L K h->dM (fun kk=>F kk a) kk L K h) (j:T.bi q (F kk) L K h) :
  dM (fun kk=>T.bi q (F kk)) kk L K h:=by
 obtain ⟨a,rfl,j⟩:=gb j;obtain ⟨v,hk,d⟩:=G a j;exact ⟨v,hk,fun u J K' h' hx=>d u J K' h' hx⟩
def sq {b:Bool} {F G:(Xab->T)->T} {kk:Xab->T} (j:F kk L K h->dM F kk L K h) (hG:G kk L K h->dM G kk L K h) (d:cond b (F kk) (G kk) L K h) :
  dM (fun kk=>cond b (F kk) (G kk)) kk L K h:=by
 cases b
 ·exact hG d
 ·exact j d
def vD {op:BinOp} {b:Bool} {kk:Xab->T} (d:asked op b kk T.fail L K h):dM (fun kk=>asked op b kk T.fail) kk L K h:=by
 cases op <;> first | exact cO d | exact d.elim
def RG {op:BinOp} {k:IntKind} {m n:Int} {kk:Xab->T} (d:HS op k m n kk L K h):dM (fun kk=>HS op k m n kk) kk L K h:=by
 cases op <;> first
  | exact d.elim
  | exact cO d
  | exact pF (F:=fun kk=>kk _) cO d
def JX {op:BinOp} {k:IntKind} {m n:Int} {kk:Xab->T} (d:zP op k m n kk L K h):dM (fun kk=>zP op k m n kk) kk L K h:=by
 cases op <;> first
  | exact d.elim
  | exact pF (F:=fun kk=>kk _) cO d
def RX {op:BinOp} {m n:Xaa} {kk:Xab->T} (d:HM op m n kk L K h):dM (fun kk=>HM op m n kk) kk L K h:=by
 cases op <;> first
  | exact d.elim
  | exact cO d
  | exact pF (F:=fun kk=>kk _) cO d
def MD {op:BinOp} {t:TypeId} {a b:Xab} {kk:Xab->T} (j:tk P op t a b kk L K h):dM (fun kk=>tk P op t a b kk) kk L K h:=by
 unfold tk at j ⊢;cases a <;> cases b <;> first | exact j.elim | skip
 case bool.bool m n =>
  generalize P.underlying t=u at j ⊢;cases u with
  | none=>exact j.elim
  | some d=>cases d <;> first | exact j.elim | exact vD j
 case int.int k m k' n =>
  simp only at j ⊢;cases hs:mX op with
  | true=>simp only [hs] at j ⊢; exact JX j
  | false =>
   simp only [hs] at j ⊢
   by_cases hk:k=k'
   ·subst hk;simp only [decide_true] at j ⊢;exact RG j
   ·simp only [hk,decide_false] at j;exact j.elim
 case string.string m n=>exact RX j
 case pointer.pointer p q =>
  generalize P.underlying t=u at j ⊢;cases u with
  | none=>exact j.elim
  | some d=>cases d <;> first | exact j.elim | exact vD j
 case slice.slice p l c q l' c' =>
  generalize P.underlying t=u at j ⊢;cases u with
  | none=>exact j.elim
  | some d=>cases d <;> first | exact j.elim | exact vD j
 case map.map p q =>
  generalize P.underlying t=u at j ⊢;cases u with
  | none=>exact j.elim
  | some d=>cases d <;> first | exact j.elim | exact vD j
def UH {op:UnOp} {a:Xab} {kk:Xab->T} (d:U9 op a kk L K h):dM (fun kk=>U9 op a kk) kk L K h:=by
 cases op <;> cases a <;> first | exact d.elim | exact cO d
def Ln {t : TypeId} {cs : List Xab} {off : Nat} {kk : Xab -> T} (j : tv P t cs off kk L K h) : dM (fun kk => tv P t cs off kk) kk L K h := by
  unfold tv at j ⊢;generalize P.underlying t = u at j ⊢;cases u with
  | none => exact j.elim
  | some d =>
    cases d <;> first
      | exact cO j
      | (cases hv : cs[off]? with
         | none => simp only [hv] at j; exact j.elim
         | some v => simp only [hv] at j ⊢; exact cO j)
def J8 {t:TypeId} {a:Xab} {u hi:Option Xab} {kk:Xab->T} (G:(match P.underlying t with
  | some .string=>true
  | some (.slice _)=>true
  | _=>false)=true) (j:iQ P t a u hi none kk L K h):dM (fun kk=>iQ P t a u hi none kk) kk L K h:=by
 unfold iQ at j ⊢;cases hint:eC u && eC hi && eC none with
 | false=>simp only [hint] at j; exact j.elim
 | true =>
  simp only [hint] at j ⊢;generalize P.underlying t=O at j G ⊢;cases O with
  | none=>cases G
  | some d =>
   cases d <;> simp only [Bool.false_eq_true] at G
   case string=>cases a <;> first | exact j.elim | exact pF (F:=fun kk=>kk _) cO j
   case slice U =>
    cases a <;> first | exact j.elim | skip
    simp only at j ⊢;cases J:nN P U with
    | false=>simp only [J] at j; exact j.elim
    | true=>simp only [J] at j ⊢; exact pF (F:=fun kk=>kk _) cO j
theorem sM {agg:Nat->Option Bool}:∀ {ps:List (Nat × Xab)} {F:(Xab->T)->List (Nat × List Xab)->T} {kk:Xab->T},(∀ r,F kk r L K h->dM (fun kk=>F kk r) kk L K h) ->
  fh agg ps (F kk) L K h->dM (fun kk=>fh agg ps (F kk)) kk L K h
 | [],F,kk,j,d=>j [] d
 | (i,v)::l,F,kk,j,d=>by
  simp only [fh] at d ⊢;cases J:agg i with
  | none=>rw [J] at d; exact d.elim
  | some b =>
   rw [J] at d;cases b with
   | true=>exact sq (F:=fun kk=>fh agg l fun r=>F kk ((i,jN v)::r)) (G:=fun _=>T.fail) (fun d=>sM (F:=fun kk r=>F kk ((i,jN v)::r)) (fun r u=>j _ u) d) (fun d=>d.elim) d
   | false=>exact sq (F:=fun _=>T.fail) (G:=fun kk=>fh agg l fun r=>F kk ((i,[v])::r)) (fun d=>d.elim) (fun d=>sM (F:=fun kk r=>F kk ((i,[v])::r)) (fun r u=>j _ u) d) d
def NB {o:Oper} {e:Env} {kk:Xab->T} (u:rV P o=true) (j:uH P o e kk L K h):dM (fun kk=>uH P o e kk) kk L K h:=by
 obtain ⟨dst,op,V,pos,after,guard⟩:=o;cases op <;> simp only [rV,Bool.false_eq_true] at u <;> simp only [uH] at j ⊢
 case move x=>exact dq (F:=fun kk v=>kk v) (fun v hv=>cO hv) j
 case pick c x y =>
  refine dq (F:=fun kk c=>match c with
   | .bool b'=>cond b' (bY e x kk) (bY e y kk)
   | _=>T.fail) (fun v hv=>?_) j
  cases v <;> first | exact hv.elim | skip
  exact sq (F:=fun kk=>bY e x kk) (G:=fun kk=>bY e y kk) (fun j=>dq (F:=fun kk v=>kk v) (fun v hv=>cO hv) j) (fun j=>dq (F:=fun kk v=>kk v) (fun v hv=>cO hv) j) hv
 case build t ps =>
  refine oU (F:=fun kk vs=>match P.underlying t,(P.info? t).bind (·.zero) with
   | some (.struct fs),some z =>
    bif !(fs.all fun f=>nN P f.type) then T.fail else fh (fun i=>(fs[i]?).bind fun f=>cH P f.type) ((ps.toList.map (·.1)).zip vs) fun J=>match fx (((fs.map fun f=>(f.offset,P.cellsOf f.type)))[·]?) z.cells.toList J with
    | some cs=>kk (.agg cs.toArray)
    | none=>T.fail
   | some (.array _ U),some z =>
    bif !nN P U then T.fail else fh (fun _=>cH P U) ((ps.toList.map (·.1)).zip vs) fun J=>match fx (fun i=>some (i*P.cellsOf U,P.cellsOf U)) z.cells.toList J with
    | some cs=>kk (.agg cs.toArray)
    | none=>T.fail
   | _,_=>T.fail) (fun vs hv=>?_) j
  generalize P.underlying t=O at hv ⊢;generalize (P.info? t).bind (·.zero)=z at hv ⊢;cases O with
  | none=>exact hv.elim
  | some d =>
   cases d <;> first | exact hv.elim | skip
   case array len U =>
    cases z with
    | none=>exact hv.elim
    | some z =>
     refine sq (F:=fun _=>T.fail) (G:=fun kk=>fh (fun _=>cH P U) ((ps.toList.map (·.1)).zip vs) fun J=>match fx (fun i=>some (i*P.cellsOf U,P.cellsOf U)) z.cells.toList J with
      | some cs=>kk (.agg cs.toArray)
      | none=>T.fail) (fun j=>j.elim) (fun j=>?_) hv
     refine sM (F:=fun kk J=>match fx (fun i=>some (i*P.cellsOf U,P.cellsOf U)) z.cells.toList J with
      | some cs=>kk (.agg cs.toArray)
      | none=>T.fail) (fun J j=>?_) j
     cases X:fx (fun i=>some (i*P.cellsOf U,P.cellsOf U)) z.cells.toList J with
     | none=>simp only [X] at j; exact j.elim
     | some cs=>simp only [X] at j ⊢; exact cO j
   case struct fs =>
    cases z with
    | none=>exact hv.elim
    | some z =>
     refine sq (F:=fun _=>T.fail) (G:=fun kk=>fh (fun i=>(fs[i]?).bind fun f=>cH P f.type) ((ps.toList.map (·.1)).zip vs) fun J=>match fx (((fs.map fun f=>(f.offset,P.cellsOf f.type)))[·]?) z.cells.toList J with
      | some cs=>kk (.agg cs.toArray)
      | none=>T.fail) (fun j=>j.elim) (fun j=>?_) hv
     refine sM (F:=fun kk J=>match fx (((fs.map fun f=>(f.offset,P.cellsOf f.type)))[·]?) z.cells.toList J with
      | some cs=>kk (.agg cs.toArray)
      | none=>T.fail) (fun J j=>?_) j
     cases X:fx (((fs.map fun f=>(f.offset,P.cellsOf f.type)))[·]?) z.cells.toList J with
     | none=>simp only [X] at j; exact j.elim
     | some cs=>simp only [X] at j ⊢; exact cO j
 case nilCheck x =>
  refine dq (F:=fun kk v=>match v with
   | .pointer p=>T.bi p fun a=>kk (.pointer (some a))
   | .func (.func f) Z ca=>kk (.func (.func f) Z ca)
   | .iface t v=>kk (.iface t v)
   | _=>T.fail) (fun v hv=>?_) j
  cases v with
  | pointer p=>exact A0 (F:=fun kk a=>kk (.pointer (some a))) (fun a Y=>cO Y) hv
  | func fn Z ca=>cases fn <;> first | exact hv.elim | exact cO hv
  | iface t w=>exact cO hv
  | _=>exact hv.elim
 case binOp op t x y yt =>
  refine dq (F:=fun kk a=>bY e y fun b=>DH P op t x y a b kk) (fun a Y=>?_) j;refine dq (F:=fun kk b=>DH P op t x y a b kk) (fun b hb=>?_) Y;unfold DH at hb ⊢;simp only [u] at hb ⊢;exact MD hb
 case unOp op t x=>exact dq (F:=fun kk a=>U9 op a kk) (fun v hv=>UH hv) j
 case convert s d x =>
  refine dq (F:=fun kk a=>xO P s d a kk) (fun v hv=>?_) j;unfold xO at hv ⊢;generalize P.underlying s=us at hv u ⊢;generalize P.underlying d=O at hv u ⊢;cases us with
  | none=>cases u
  | some us =>
   cases O with
   | none=>cases us <;> cases u
   | some O =>
    cases us <;> first | (cases O <;> cases u; done) | skip
    case int k=>cases O <;> first | (cases u; done) | (cases v <;> first | exact hv.elim | exact cO hv)
    case string=>cases O <;> first | (cases u; done) | (cases v <;> first | exact hv.elim | exact cO hv)
 case makeInterface t x =>
  refine dq (F:=fun kk a=>match P.underlying t with
   | some (.interface _)=>T.fail
   | some _=>kk (.iface t a)
   | none=>T.fail) (fun v hv=>?_) j
  generalize P.underlying t=O at hv ⊢;cases O with
  | none=>exact hv.elim
  | some d=>cases d <;> first | exact hv.elim | exact cO hv
 case makeFunc fn Z ca =>
  refine oU (F:=fun kk Z=>iq e ca.toList fun ca=>kk (.func fn Z.toArray ca.toArray)) (fun Z hv=>?_) j;exact oU (F:=fun kk ca=>kk (.func fn Z.toArray ca.toArray)) (fun ca hv=>cO hv) hv
 case slice t x lo hi mx =>
  cases mx with
  | some m=>cases u
  | none =>
  simp only at u;refine dq (F:=fun kk a=>iq e (lo.toList++hi.toList++(none:Option Operand).toList) fun vs=>Vd P t lo hi none a vs kk) (fun a Y=>?_) j;refine oU (F:=fun kk vs=>Vd P t lo hi none a vs kk) (fun vs hv=>?_) Y;unfold Vd at hv ⊢;cases lo <;> cases hi <;> rcases vs with _ | ⟨l,_ | ⟨l2,_ | ⟨l3,vs⟩⟩⟩ <;> first
   | exact hv.elim
   | exact J8 u hv
 case fieldAddr s x f =>
  refine dq (F:=fun kk v=>match v,P.underlying s with
   | .pointer p,some (.struct fs)=>match fs[f]? with
    | some fd=>match P.cellsOf fd.type with
     | 0=>T.fail
     | _+1=>T.bi p fun a=>kk (.pointer (some (a.add fd.offset)))
    | none=>T.fail
   | _,_=>T.fail) (fun v hv=>?_) j
  generalize P.underlying s=us at hv ⊢;cases v <;> first | exact hv.elim | skip
  cases us with
  | none=>exact hv.elim
  | some us =>
   cases us <;> first | exact hv.elim | skip
   rename_i fs;simp only at hv ⊢;cases X:fs[f]? with
   | none=>simp only [X] at hv; exact hv.elim
   | some fd =>
    simp only [X] at hv ⊢;cases hc:P.cellsOf fd.type with
    | zero=>simp only [hc] at hv; exact hv.elim
    | succ m=>simp only [hc] at hv ⊢; exact A0 (F:=fun kk a=>kk (.pointer (some (a.add fd.offset)))) (fun a Y=>cO Y) hv
 case field s x f =>
  refine dq (F:=fun kk v=>match v,P.underlying s with
   | .agg cs,some (.struct fs)=>match fs[f]? with
    | some fd=>tv P fd.type cs.toList fd.offset kk
    | none=>T.fail
   | _,_=>T.fail) (fun v hv=>?_) j
  generalize P.underlying s=us at hv ⊢;cases v <;> first | exact hv.elim | skip
  cases us with
  | none=>exact hv.elim
  | some us =>
   cases us <;> first | exact hv.elim | skip
   rename_i fs;simp only at hv ⊢;cases X:fs[f]? with
   | none=>simp only [X] at hv; exact hv.elim
   | some fd=>simp only [X] at hv ⊢; exact Ln hv
 case indexAddr t x i =>
  refine dq (F:=fun kk v=>bY e i fun i=>yk P t v i kk) (fun v hv=>?_) j;refine dq (F:=fun kk i=>yk P t v i kk) (fun i hi=>?_) hv;unfold yk at hi ⊢;generalize P.underlying t=us at hi ⊢;cases v <;> cases i <;> first | exact hi.elim | skip
  all_goals
   cases us with
   | none=>exact hi.elim
   | some us =>
    cases us <;> first | exact hi.elim | skip
    refine sq (F:=fun _=>T.fail) (fun j=>j.elim) (fun j=>?_) hi;exact pF (F:=fun kk=>T.bi _ fun a=>kk (.pointer (some (a.add (_*P.cellsOf _))))) (A0 (F:=fun kk a=>kk (.pointer (some (a.add (_*P.cellsOf _))))) (fun a Y=>cO Y)) j
 case index t x i =>
  refine dq (F:=fun kk v=>bY e i fun i=>GX P t v i kk) (fun v hv=>?_) j;refine dq (F:=fun kk i=>GX P t v i kk) (fun i hi=>?_) hv;unfold GX at hi ⊢;generalize P.underlying t=us at hi u ⊢;cases us with
  | none=>cases u
  | some us =>
   cases us <;> simp only [Bool.false_eq_true] at u;cases v <;> cases i <;> first | exact hi.elim | exact pF (F:=fun kk=>kk _) cO hi
 case extract x i =>
  refine dq (F:=fun kk v=>match v with
   | .tuple vs=>match vs.toList[i]? with
    | some v=>kk v
    | none=>T.fail
   | _=>T.fail) (fun v hv=>?_) j
  cases v <;> first | exact hv.elim | skip
  rename_i vs;simp only at hv ⊢;cases hi:vs.toList[i]? with
  | none=>simp only [hi] at hv; exact hv.elim
  | some w=>simp only [hi] at hv ⊢; exact cO hv
 case call c =>
  cases hc:c.callee with
  | value f=>simp only [hc] at u; cases u
  | invoke r m=>simp only [hc] at u; cases u
  | builtin b =>
   simp only [hc] at u j ⊢;refine oU (F:=fun kk vs=>rI P b c V vs kk) (fun vs hv=>?_) j;cases b <;> simp only [Bool.false_eq_true] at u
   case len =>
    have hv:zy P c V vs kk L K h:=hv;show dM (fun kk=>zy P c V vs kk) kk L K h;unfold zy at hv ⊢;generalize (c.argTypes[0]?).bind P.underlying=O at hv u ⊢;cases O with
    | none=>cases u
    | some d =>
     cases d <;> simp only [Bool.false_eq_true] at u
     all_goals
      rcases vs with _ | ⟨v,_ | ⟨v2,l⟩⟩ <;> first | exact hv.elim | skip
      all_goals cases v <;> first | exact hv.elim | exact cO hv
   case cap =>
    have hv:J9 P c vs kk L K h:=hv;show dM (fun kk=>J9 P c vs kk) kk L K h;unfold J9 at hv ⊢;generalize (c.argTypes[0]?).bind P.underlying=O at hv u ⊢;cases O with
    | none=>cases u
    | some d =>
     cases d <;> simp only [Bool.false_eq_true] at u
     all_goals
      rcases vs with _ | ⟨v,_ | ⟨v2,l⟩⟩ <;> first | exact hv.elim | skip
      all_goals cases v <;> first | exact hv.elim | exact cO hv
end pures
section draws
variable {P:Program} {n:Nd} {ops:Array Oper}
theorem gy {x:Nat}:∀ {l:List Nat},sX x l=true↔x∈l
 | []=>by simp [sX]
 | y::l=>by
  simp only [sX,Bool.or_eq_true,List.mem_cons,gy (l:=l)];constructor
  ·rintro (h | h)
   ·exact .inl (YL h)
   ·exact .inr h
  ·rintro (h | h)
   ·subst h; exact .inl aj
   ·exact .inr h
theorem It {p:Nat × Oper}:∀ {l:List Oper} {k:Nat},p∈idx k l↔∃ j,l[j]?=some p.2/\p.1=k+j
 | [],k=>by simp [idx]
 | o::l,k=>by
  simp only [idx,List.mem_cons,It (l:=l)];constructor
  ·rintro (h | ⟨j,h1,h2⟩)
   ·subst h; exact ⟨0,aj,aj⟩
   ·exact ⟨j+1,by simpa using h1,ad⟩
  ·rintro ⟨j,h1,h2⟩;cases j with
   | zero=>left; simp at h1; subst h1; obtain ⟨a,b⟩:=p; simp at h2; subst h2; rfl
   | succ j=>right; exact ⟨j,by simpa using h1,ad⟩
def iM {i:Nat} {o:Oper}:(i,o)∈idx 0 ops.toList↔ops[i]?=some o:=by
 rw [It];constructor
 ·rintro ⟨j,h1,h2⟩;simp at h2; subst h2;simpa using h1
 ·intro h; exact ⟨i,by simpa using h,aj⟩
def Ox (j:ej P n ops=true) {i:Nat} {x:Oper} (hi:ops[i]?=some x) {d:Nat} (u:x.dst=some d):d<n:=by
 unfold ej at j;rw [YZ] at j;have h1:=Y1.1 j.1 (i,x) (iM.2 hi);simp only [u] at h1;simpa [Nat.blt_eq] using h1
def G0 (j:ej P n ops=true) {i:Nat} {x:Oper} (hi:ops[i]?=some x) {d:Nat} (u:x.dst=some d) (hc:calm P x=true):d∉looks ops x:=by
 unfold ej at j;rw [YZ] at j;have h1:=Y1.1 (Y1.1 j.2 (i,x) (iM.2 hi)) (i,x) (iM.2 hi);unfold H9 at h1;have F:Nat.beq i i=true:=aj
 simp only [F,u,hc,Bool.not_true,Bool.false_or,Bool.not_eq_true'] at h1;intro hl;rw [gy.2 hl] at h1; cases h1
def oG (u:ej P n ops=true) {i j:Nat} {x y:Oper} (hi:ops[i]?=some x) (O:ops[j]?=some y) (F:i≠j) :
  (∀ d,y.dst=some d->d∈looks ops x->j∈waits x\/(i∈waits y/\calm P y=false))/\(∀ d,x.dst=some d->calm P x=true->y.dst≠some d):=by
 unfold ej at u;rw [YZ] at u;have h1:=Y1.1 (Y1.1 u.2 (i,x) (iM.2 hi)) (j,y) (iM.2 O);unfold H9 at h1;have G:Nat.beq i j=false:=by
  cases G:Nat.beq i j
  ·rfl
  ·exact (F (YL G)).elim
 simp only [G,Bool.and_eq_true] at h1;refine ⟨fun d J hl=>?_,fun d J hc U=>?_⟩
 ·have h2:=h1.1;simp only [J,Bool.or_eq_true,Bool.and_eq_true,Bool.not_eq_true'] at h2;rcases h2 with (h2 | h2) | ⟨h2,h3⟩
  ·have:=gy.2 hl; rw [this] at h2; cases h2
  ·exact .inl (gy.1 h2)
  ·exact .inr ⟨gy.1 h2,h3⟩
 ·have h2:=h1.2;simp only [J,hc,U,mP] at h2;simp at h2
def AX (ops:Array Oper) (o:Oper) (e:Env) (b:Bool):Prop :=
 match o.guard with
 | none=>b=true
 | some (j,w)=>match (ops[j]?).bind (·.dst) with
  | none=>b=false
  | some d=>(∃ t,cQ e d=some (.bool t)/\b=(t==w))\/(∃ vs,cQ e d=some (.tuple vs)/\b=false)
def x8 {o:Oper} {j d:Nat} {w:Bool} (u:o.guard=some (j,w)) (F:(ops[j]?).bind (·.dst)=some d):d∈looks ops o:=by
 unfold looks;rw [u];simp only [F];exact Y8 _ aj
def AX.wanted {o:Oper} {e:Env} {b:Bool} (h:AX ops o e b) {tm:Array Xab} (G:∀ s∈looks ops o,∀ v,cQ e s=some v->tm.getD s undef=v) :
  Region.wanted o (yielded ops tm)=b:=by
 unfold AX at h;cases F:o.guard with
 | none=>simp only [F] at h; subst h; exact xM F
 | some p =>
  obtain ⟨j,w⟩:=p;simp only [F] at h;rw [xW F];cases u:(ops[j]?).bind (·.dst) with
  | none=>simp only [u] at h; subst h; simp [yielded,u]
  | some d =>
   simp only [u] at h;have hl:=x8 F u;rcases h with ⟨t,h1,rfl⟩ | ⟨vs,h1,rfl⟩
   ·rw [vF u (G d hl _ h1)]; cases t <;> cases w <;> rfl
   ·rw [tq u (G d hl _ h1)]; rfl
def AX.congr {o:Oper} {e e':Env} {b:Bool} (h:AX ops o e b) (G:∀ s∈looks ops o,cQ e' s=cQ e s):AX ops o e' b:=by
 unfold AX at h ⊢;cases u:o.guard with
 | none=>simp only [u] at h ⊢; exact h
 | some p =>
  obtain ⟨j,w⟩:=p;simp only [u] at h ⊢;cases F:(ops[j]?).bind (·.dst) with
  | none=>simp only [F] at h ⊢; exact h
  | some d=>simp only [F] at h ⊢; rw [G d (x8 u F)]; exact h
def sD {e:Env} {d:Nat} {v:Xab} (h:cQ e d=some v) (s:Nat):cQ (dX n e (some d) v) s=cQ e s:=by
 simp only [dX];cases Nat.blt d n with
 | false=>rfl
 | true =>
  simp only [cond_true,dB]
  by_cases hs:d=s
  ·subst hs; rw [YC rfl,h]
  ·rw [Yx hs]
def zw {o:Oper} {e:Env} {F no:Env->T} {L:Lp} {K:Xab->Hp->Prop} {h:Hp} (u:lN n ops o e F no L K h) :
  ∃ e' b,(∀ s,cQ e' s=cQ e s)/\AX ops o e b/\((b=true/\F e' L K h)\/(b=false/\no e' L K h)):=by
 unfold lN guardOf at u;unfold AX;cases G:o.guard with
 | none=>simp only [G] at u ⊢; exact ⟨e,true,fun _=>rfl,rfl,.inl ⟨rfl,u⟩⟩
 | some p =>
  obtain ⟨j,w⟩:=p;simp only [G] at u ⊢;cases J:(ops[j]?).bind (·.dst) with
  | none=>simp only [J] at u ⊢; exact ⟨e,false,fun _=>rfl,rfl,.inr ⟨rfl,u⟩⟩
  | some d =>
   simp only [J] at u ⊢;cases hv:cQ e d with
   | none=>simp only [hv] at u; exact u.elim
   | some v =>
    cases v <;> simp only [hv] at u <;> first | exact u.elim | skip
    case tuple vs=>exact ⟨e,false,fun _=>rfl,.inr ⟨vs,rfl,rfl⟩,.inr ⟨rfl,u⟩⟩
    case bool b =>
     cases w <;> simp only at u <;> rcases fL u with ⟨O,u⟩ | ⟨O,u⟩ <;> subst O
     ·exact ⟨_,false,sD hv,.inl ⟨true,rfl,rfl⟩,.inr ⟨rfl,u⟩⟩
     ·exact ⟨_,true,sD hv,.inl ⟨false,rfl,rfl⟩,.inl ⟨rfl,u⟩⟩
     ·exact ⟨_,true,sD hv,.inl ⟨true,rfl,rfl⟩,.inl ⟨rfl,u⟩⟩
     ·exact ⟨_,false,sD hv,.inl ⟨false,rfl,rfl⟩,.inr ⟨rfl,u⟩⟩
def only (e:Env) (l:List Nat):Env:=l.filterMap fun s=>(cQ e s).map fun v=>(s,some v)
theorem sI {e:Env}:∀ {l:List Nat} {s:Nat},cQ (only e l) s=if s∈l then cQ e s else none
 | [],s=>by simp [only,cQ]
 | t::l,s=>by
  unfold only;rw [ap9];cases hv:cQ e t with
  | none =>
   simp only [Option.map_none];rw [show List.filterMap (fun s=>(cQ e s).map fun v=>(s,some v)) l=only e l from rfl,sI]
   by_cases h1:s∈l
   ·simp [h1]
   ·by_cases h2:s=t
    ·subst h2; simp [h1,hv]
    ·simp [h1,h2]
  | some v =>
   simp only [Option.map_some];rw [dB,show List.filterMap (fun s=>(cQ e s).map fun v=>(s,some v)) l=only e l from rfl,sI]
   by_cases h1:t=s
   ·subst h1; simp [hv]
   ·have h2:¬ s=t:=fun d=>h1 d.symm
    simp [h1,h2]
def xF {o:Oper} {t:Nat} (h:Operand.tmp t∈o.op.operands):t∈looks ops o:=by
 unfold looks;refine Y3 _ (ZQ.2 ⟨.tmp t,by simpa using h,rfl⟩)
def EX {o:Oper} {e:Env} {kk:Xab->T}:uH P o (only e (looks ops o)) kk=uH P o e kk:=by
 refine w9 (fun x hx=>?_) kk;cases x <;> try rfl
 rename_i t;simp only [ev];rw [sI,YC (xF hx)]
def Em {e:Env} {a:Act} {l:List Nat} (hs:a.tmps.size=n.n) (j:a.defers=n.d) (h:∀ s∈l,∀ v,cQ e s=some v->a.tmps.getD s undef=v):gK n (only e l) a:=by
 refine ⟨hs,j,fun s v hv=>?_⟩;rw [sI] at hv;split at hv
 ·rename_i hm; exact h s hm v hv
 ·cases hv
def Ot (P : Program) (n : Nd) (ops : Array Oper) (e : Env) (m : Made) (h : Hp) (i : Nat) (o : Oper) : Prop :=
  calm P o = true /\ ∃ v b, (∀ d, o.dst = some d -> d < n -> cQ e d = some v) /\ AX ops o e b /\
    ((b = false /\ v = undef) \/ (b = true /\ ((∀ (kk : Xab -> T) L K h', kk v L K h' -> uH P o e kk L K h') \/
      (∃ p l, (i, p, l) ∈ m /\ aJ h p 0 l /\ ∀ (kk : Xab -> T) L K h', aJ h' p 0 l -> kk v L K h' -> uH P o e kk L K h'))))
def zc (ops:Array Oper):List Nat->Prop
 | []=>True
 | i::D=>i∉D/\(∀ o,ops[i]?=some o->∀ j∈waits o,j∈D)/\zc ops D
structure rh (P:Program) (n:Nd) (ops:Array Oper) (e0:Env) (listed:Array Bool) (a:Act) (h:Hp) (D:List Nat) (e:Env) (m:Made):Prop where
 vf:listed.size=ops.size
 size:a.tmps.size=n.n
 defers:a.defers=n.d
 lD:∀ i,listed[i]?=some true->i∈D
 dD:∀ i∈D,∃ o,ops[i]?=some o
 closed:zc ops D
 V4:∀ s v,cQ e s=some v->(∀ j∈D,∀ o,ops[j]?=some o->listed[j]?=some false->o.dst≠some s)->a.tmps.getD s undef=v
 OP:∀ i∈D,∀ o,ops[i]?=some o->listed[i]?=some false->Ot P n ops e m h i o
 fr:Fr (dstsOf ops) e0 e
theorem rH:∀ {D:List Nat},zc ops D->∀ i∈D,∀ o,ops[i]?=some o->∀ j∈waits o,j∈D
 | i'::D,hc,i,hi,o,d,j,u=>by
  rcases YS.1 hi with rfl | hi
  ·exact YM _ (hc.2.1 o d j u)
  ·exact YM _ (rH hc.2.2 i hi o d j u)
theorem tA (listed:Array Bool):∀ {D:List Nat},zc ops D->(∀ i∈D,∃ o,ops[i]?=some o)->(∃ i∈D,listed[i]?=some false)->(∀ i∈D,listed[i]?=some true\/listed[i]?=some false) ->
  ∃ i∈D,listed[i]?=some false/\∀ o,ops[i]?=some o->∀ j∈waits o,listed[j]?=some true
 | i'::D,hc,O,⟨i,hi,J⟩,d=>by
  by_cases u:∃ i∈D,listed[i]?=some false
  ·obtain ⟨k,hk,h1,h2⟩:=tA listed hc.2.2 (fun i hi=>O i (YM _ hi)) u (fun i hi=>d i (YM _ hi));exact ⟨k,YM _ hk,h1,h2⟩
  ·have G:i=i':=by
    rcases YS.1 hi with h | h
    ·exact h
    ·exact (u ⟨i,h,J⟩).elim
   subst G;refine ⟨i,aj,J,fun o U j V=>?_⟩;have F:=hc.2.1 o U j V;rcases d j (YM _ F) with h | h
   ·exact h
   ·exact (u ⟨j,F,h⟩).elim
def kp {e:Env} {dst:Option Tmp} {v:Xab} {s:Nat} (j:dst≠some s):cQ (dX n e dst v) s=cQ e s:=by
 cases dst with
 | none=>rfl
 | some d =>
  simp only [dX];cases Nat.blt d n with
  | false=>rfl
  | true=>simp only [cond_true,dB]; rw [Yx (fun u:d=s=>j (by rw [u]))]
def tI {e:Env} {d:Nat} {v:Xab} (j:d<n):cQ (dX n e (some d) v) d=some v:=by
 have u:Nat.blt d n=true:=by rw [Nat.blt_eq]; exact j
 simp only [dX,u,cond_true,dB,if_true]
def IM {a:Act} {dst:Option Tmp} {v:Xab} {s:Nat} (u:dst≠some s):(a.put dst v).tmps.getD s undef=a.tmps.getD s undef:=by
 cases dst with
 | none=>rfl
 | some d =>
  have j:d≠s:=fun F=>u (by rw [F])
  simp [Act.put,Array.getD_eq_getD_getElem?,Array.getElem?_setIfInBounds,j]
def uS {a:Act} {d:Nat} {v:Xab} (j:d<a.tmps.size):(a.put (some d) v).tmps.getD d undef=v:=by
 simp [Act.put,Array.getD_eq_getD_getElem?,Array.getElem?_setIfInBounds,j]
def EK (a:Act) (dst:Option Tmp) (v:Xab):(a.put dst v).tmps.size=a.tmps.size:=by cases dst <;> simp [Act.put]
def put_defers (a:Act) (dst:Option Tmp) (v:Xab):(a.put dst v).defers=a.defers:=by cases dst <;> rfl
variable {e0:Env} {listed:Array Bool} {a:Act} {h:Hp} {D:List Nat} {e:Env} {m:Made}
def F5 {i:Nat} {o:Oper} (u:ops[i]?=some o) {d:Nat} (F:o.dst=some d):d∈dstsOf ops:=IE (j:=i) (by rw [u]; exact F)
def Fr.step {n:Nat} {l:List Nat} {e0 e e':Env} {o:Oper} {v:Xab} (h:Fr l e0 e) (j:∀ s,cQ e' s=cQ e s) (u:∀ d,o.dst=some d->d∈l):Fr l e0 (Sx.dX n e' o.dst v) :=
 (h.trans (fun s _=>j s)).trans (Fr.dX n e' v u)
def rh.wq (I:rh P n ops e0 listed a h D e m) {i:Nat} {o:Oper} (u:ops[i]?=some o) (hn:listed[i]?≠some true):listed[i]?=some false:=by
 have j:i<ops.size:=by
  rcases Zn i ops.size with h | h
  ·exact h
  ·rw [Zt h] at u; cases u
 have d:i<listed.size:=by rw [I.vf]; exact j
 rw [ZG d] at hn ⊢;cases F:listed[i] with
 | false=>rfl
 | true=>rw [F] at hn; exact (hn rfl).elim
def rh.Jh (u:ej P n ops=true) (I:rh P n ops e0 listed a h D e m) {i:Nat} {o:Oper} (J:ops[i]?=some o) (V:∀ j∈waits o,listed[j]?=some true)
  (hi:i∉D\/calm P o=true):∀ s∈looks ops o,∀ v,cQ e s=some v->a.tmps.getD s undef=v:=by
 intro s hs v hv;refine I.V4 s v hv ?_;intro j X Y d O U;have F:=(I.OP j X Y d O).1
 by_cases G:i=j
 ·subst G;rw [J] at d; obtain rfl:=YR d;exact G0 u J U F hs
 ·rcases (oG u J d G).1 s U hs with h1 | ⟨_,h1⟩
  ·rw [V j h1] at O; cases O
  ·rw [F] at h1; cases h1
def rh.exec (X:ej P n ops=true) (I:rh P n ops e0 listed a h D e m) {i:Nat} {o:Oper} (ho:ops[i]?=some o) (Y:i∈D) (hf:listed[i]?=some false) {v:Xab}
  (hv:∀ d,o.dst=some d->cQ e d=some v) (hc:calm P o=true):rh P n ops e0 (listed.setIfInBounds i true) (a.put o.dst v) h D e m:=by
 have Z:i<listed.size:=by
  rcases Zn i listed.size with h | h
  ·exact h
  ·rw [Zt h] at hf; cases hf
 have la:∀ j,(listed.setIfInBounds i true)[j]?=if i=j then some true else listed[j]?:=by
  intro j;rw [ZI]
  by_cases F:i=j
  ·subst F; simp [Z]
  ·simp [F]
 refine ⟨by simp [I.vf],by rw [EK,I.size],by rw [put_defers,I.defers],?_,I.dD,I.closed,?_,?_,I.fr⟩
 ·intro j O;rw [la] at O
  by_cases F:i=j
  ·subst F; exact Y
  ·rw [Yx F] at O; exact I.lD j O
 ·intro s u hu hno
  by_cases U:o.dst=some s
  ·rw [U];rw [hv s U] at hu;obtain rfl:=YR hu;exact uS (by rw [I.size]; exact Ox X ho U)
  ·rw [IM U];refine I.V4 s u hu ?_;intro j O oj J G V
   by_cases F:i=j
   ·subst F; rw [ho] at J; obtain rfl:=YR J; exact U V
   ·exact hno j O oj J (by rw [la,Yx F]; exact G) V
 ·intro j O oj J G;rw [la] at G
  by_cases F:i=j
  ·rw [YC F] at G; cases G
  ·rw [Yx F] at G; exact I.OP j O oj J G
def Ot.congr {e e':Env} {m m':Made} {h h':Hp} {i:Nat} {o:Oper} (G:Ot P n ops e m h i o) (hl:∀ s∈looks ops o,cQ e' s=cQ e s) (J:∀ d,o.dst=some d->cQ e' d=cQ e d)
  (hm:∀ p l,(i,p,l)∈m->aJ h p 0 l->(i,p,l)∈m'/\aJ h' p 0 l):Ot P n ops e' m' h' i o:=by
 obtain ⟨hc,v,b,h1,h2,h3⟩:=G;have hx:∀ kk,uH P o e' kk=uH P o e kk:=fun kk=>w9 (fun x hx=>by
  cases x <;> try rfl
  exact hl _ (xF hx)) kk
 refine ⟨hc,v,b,fun d j u=>by rw [J d j]; exact h1 d j u,h2.congr hl,?_⟩;rcases h3 with h3 | ⟨F,h3 | ⟨p,l,h3,h4,h5⟩⟩
 ·exact .inl h3
 ·exact .inr ⟨F,.inl fun kk L K h' hk=>by rw [hx]; exact h3 kk L K h' hk⟩
 ·obtain ⟨h6,h7⟩:=hm p l h3 h4;exact .inr ⟨F,.inr ⟨p,l,h6,h7,fun kk L K h' hc hk=>by rw [hx]; exact h5 kk L K h' hc hk⟩⟩
def rh.ahead (V:ej P n ops=true) (I:rh P n ops e0 listed a h D e m) {i:Nat} {o:Oper} (O:ops[i]?=some o) (J:i∉D) (hw:∀ j∈waits o,j∈D) (hc:calm P o=true)
  {v:Xab} {e':Env} (he:∀ s,cQ e' s=cQ e s) {m':Made} (hm:∀ x∈m,x∈m')
  (hp:Ot P n ops (dX n e' o.dst v) m' h i o):rh P n ops e0 listed a h (i::D) (dX n e' o.dst v) m':=by
 have hfi:listed[i]?=some false:=I.wq O (fun hh=>J (I.lD i hh));refine ⟨I.vf,I.size,I.defers,fun j G=>YM _ (I.lD j G),?_,⟨J,?_,I.closed⟩,?_,?_,I.fr.step he (fun d U=>F5 O U)⟩
 ·intro j G;rcases YS.1 G with rfl | G
  ·exact ⟨o,O⟩
  ·exact I.dD j G
 ·intro o' X j G;rw [O] at X; obtain rfl:=YR X;exact hw j G
 ·intro s u hu Y;have U:o.dst≠some s:=Y i aj o O hfi;rw [kp U,he] at hu;exact I.V4 s u hu fun j G oj F hf=>Y j (YM _ G) oj F hf
 ·intro j G oj F hf;rcases YS.1 G with rfl | G
  ·rw [O] at F; obtain rfl:=YR F; exact hp
  ·have Z:j≠i:=fun hh=>J (hh▸G)
   have hpj:=I.OP j G oj F hf;refine hpj.congr ?_ ?_ (fun p l h1 h2=>⟨hm _ h1,h2⟩)
   ·intro s hs
    by_cases U:o.dst=some s
    ·exfalso;rcases (oG V F O Z).1 s U hs with h1 | ⟨_,h1⟩
     ·exact J (rH I.closed j G oj F i h1)
     ·rw [hc] at h1; cases h1
    ·rw [kp U,he]
   ·intro d U;rw [kp ((oG V F O Z).2 d U hpj.1),he]
def rh.effect (Y:ej P n ops=true) (I:rh P n ops e0 listed a h D e m) {i:Nat} {o:Oper} (Z:ops[i]?=some o) (V:i∉D) (hr:∀ j∈waits o,listed[j]?=some true) (hc:calm P o=false)
  {v:Xab} {e':Env} (he:∀ s,cQ e' s=cQ e s) {h':Hp} (hst:∀ j p l,(j,p,l)∈m->aJ h p 0 l->j∉waits o->aJ h' p 0 l) :
  rh P n ops e0 (listed.setIfInBounds i true) (a.put o.dst v) h' (i::D) (dX n e' o.dst v) m:=by
 have hfi:listed[i]?=some false:=I.wq Z (fun O=>V (I.lD i O));have hlt:i<listed.size:=by
  rcases Zn i listed.size with h | h
  ·exact h
  ·rw [Zt h] at hfi; cases hfi
 have la:∀ j,(listed.setIfInBounds i true)[j]?=if i=j then some true else listed[j]?:=by
  intro j;rw [ZI]
  by_cases F:i=j
  ·subst F; simp [hlt]
  ·simp [F]
 refine ⟨by simp [I.vf],by rw [EK,I.size],by rw [put_defers,I.defers],?_,?_,⟨V,?_,I.closed⟩,?_,?_,I.fr.step he (fun d U=>F5 Z U)⟩
 ·intro j G;rw [la] at G
  by_cases F:i=j
  ·subst F; simp
  ·rw [Yx F] at G; exact YM _ (I.lD j G)
 ·intro j G;rcases YS.1 G with rfl | G
  ·exact ⟨o,Z⟩
  ·exact I.dD j G
 ·intro o' ho' j G;rw [Z] at ho'; obtain rfl:=YR ho';exact I.lD j (hr j G)
 ·intro s u hu hno
  by_cases U:o.dst=some s
  ·rw [U] at hu ⊢;have hdn:=Ox Y Z U;rw [tI hdn] at hu;obtain rfl:=YR hu;exact uS (by rw [I.size]; exact hdn)
  ·rw [kp U,he] at hu;rw [IM U];refine I.V4 s u hu ?_;intro j G oj J X;have hne:i≠j:=fun O=>V (O▸G)
   exact hno j (YM _ G) oj J (by rw [la,Yx hne]; exact X)
 ·intro j G oj J X;rw [la] at X
  by_cases F:i=j
  ·rw [YC F] at X; cases X
  ·rw [Yx F] at X;rcases YS.1 G with O | G
   ·exact (F O.symm).elim
   ·have hpj:=I.OP j G oj J X;have hnw:j∉waits o:=fun O=>by rw [hr j O] at X; cases X
    refine hpj.congr ?_ ?_ (fun p l h1 h2=>⟨h1,hst j p l h1 h2 hnw⟩)
    ·intro s hs
     by_cases U:o.dst=some s
     ·exfalso;rcases (oG Y J Z (fun O=>F O.symm)).1 s U hs with h1 | ⟨h1,_⟩
      ·exact V (rH I.closed j G oj J i h1)
      ·exact hnw h1
     ·rw [kp U,he]
    ·intro d U;rw [kp ((oG Y J Z (fun O=>F O.symm)).2 d U hpj.1),he]
def oQ {listed:Array Bool} (hs:listed.size=ops.size) {i:Nat}:i∈Region.ready .any ops listed↔∃ o,ops[i]?=some o/\listed[i]?=some false/\∀ j∈waits o,listed[j]?=some true:=by
 unfold Region.ready;rw [List.mem_filter,ag9];constructor
 ·rintro ⟨d,V⟩;rw [YZ] at V;obtain ⟨h1,h2⟩:=V;have G:ops[i]?=some ops[i]:=ZG d;rw [G] at h2;refine ⟨ops[i],G,?_,?_⟩
  ·have u:i<listed.size:=by rw [hs]; exact d
   rw [ZG u];simp only [Bool.not_eq_true',Array.getD_eq_getD_getElem?,Array.getElem?_eq_getElem u,Option.getD_some] at h1;rw [h1]
  ·intro j X;simp only [Option.map_some,Option.getD_some] at h2;unfold waits at X;obtain ⟨J,F,rfl⟩:=YF.1 X;obtain ⟨O,U⟩:=List.mem_filter.1 F;have h3:=(Array.all_eq_true_iff_forall_mem.1 h2) J (by simpa using O);rw [U] at h3;simp only [Bool.not_true,Bool.false_or,Array.getD_eq_getD_getElem?] at h3;cases hx:listed[J.on]? with
   | none=>rw [hx] at h3; cases h3
   | some b=>rw [hx] at h3; simp at h3; rw [h3]
 ·rintro ⟨o,G,h1,h2⟩;have d:i<ops.size:=by
   rcases Zn i ops.size with h | h
   ·exact h
   ·rw [Zt h] at G; cases G
  refine ⟨d,?_⟩;rw [YZ];refine ⟨by simp [Array.getD_eq_getD_getElem?,h1],?_⟩;rw [G];simp only [Option.map_some,Option.getD_some];refine Array.all_eq_true_iff_forall_mem.2 fun J F=>?_
  cases Y:Region.binds .any J with
  | false=>rfl
  | true =>
   have:=h2 J.on (YF.2 ⟨J,List.mem_filter.2 ⟨by simpa using F,Y⟩,rfl⟩)
   simp [Array.getD_eq_getD_getElem?,this]
theorem fE {D:List Nat} {c:Bool} {p:Nat × Oper}:∀ {l:List (Nat × Oper)},p∈cY P D c l↔p∈l/\xE D p.1 p.2=true/\calm P p.2=c
 | []=>by simp [cY]
 | q::l=>by
  unfold cY;cases d:xE D q.1 q.2 && (calm P q.2==c) with
  | true =>
   rw [YZ] at d;simp only [List.mem_cons,fE (l:=l)];constructor
   ·rintro (rfl | h)
    ·exact ⟨.inl rfl,d.1,by simpa using d.2⟩
    ·exact ⟨.inr h.1,h.2⟩
   ·rintro ⟨rfl | h,h2⟩
    ·exact .inl rfl
    ·exact .inr ⟨h,h2⟩
  | false =>
   simp only [List.mem_cons,fE (l:=l)];constructor
   ·rintro ⟨h1,h2⟩; exact ⟨.inr h1,h2⟩
   ·rintro ⟨rfl | h,h2⟩
    ·rw [h2.1,h2.2] at d; simp at d
    ·exact ⟨h,h2⟩
def ua {D:List Nat} {i:Nat} {o:Oper}:xE D i o=true↔i∉D/\∀ j∈waits o,j∈D:=by
 unfold xE;rw [YZ];constructor
 ·rintro ⟨h1,h2⟩;refine ⟨fun u=>?_,fun j d=>gy.1 (Y1.1 h2 j d)⟩;rw [gy.2 u] at h1; cases h1
 ·rintro ⟨h1,h2⟩;refine ⟨?_,Y1.2 fun j d=>gy.2 (h2 j d)⟩;cases F:sX i D with
  | false=>rfl
  | true=>exact (h1 (gy.1 F)).elim
def RE {L:Lp} {K:Xab->Hp->Prop} {h:Hp} {o:Oper} {m:Made} {t:T} (J:vk (kq o m) t L K h):t L K h/\∀ j p l,(j,p,l)∈m->j∉waits o->aJ h p 0 l:=by
 have h1:∀ l:List (Xax × List Xab),vk l t L K h->T.BC h l/\t L K h:=by
  intro l hl;cases l with
  | nil=>exact ⟨trivial,hl⟩
  | cons p l=>exact hl
 obtain ⟨h2,h3⟩:=h1 _ J;refine ⟨h3,?_⟩;clear J h1 h3
 induction m with
 | nil=>intro j p l d; cases d
 | cons x m O =>
  obtain ⟨i,q,U⟩:=x;intro j p l d u;unfold kq at h2;cases G:sX i (waits o) with
  | true =>
   rw [G] at h2;rcases YS.1 d with F | d
   ·simp only [Prod.mk.injEq] at F;obtain ⟨rfl,rfl,rfl⟩:=F;exact (u (gy.1 G)).elim
   ·exact O h2 j p l d u
  | false =>
   rw [G] at h2;simp only [cond_false] at h2;rcases YS.1 d with F | d
   ·simp only [Prod.mk.injEq] at F;obtain ⟨rfl,rfl,rfl⟩:=F;exact h2.1
   ·exact O h2.2 j p l d u
theorem Q9 {L:Lp} {K:Xab->Hp->Prop} {h:Hp}:∀ {ts:List T} {t:T},t∈ts->Um ts L K h->t L K h
 | [],t,d,_=>by cases d
 | [u],t,d,hx=>by simp at d; subst d; exact hx
 | u::G::ts,t,d,hx=>by
  have:∀ ts:List T,t∈ts->T.every L K h ts->t L K h:=by
   intro ts
   induction ts with
   | nil=>intro j; cases j
   | cons v ts F =>
    intro j hx;rcases YS.1 j with rfl | j
    ·exact hx.1
    ·exact F j hx.2
  exact this _ d hx
def left (listed:Array Bool):Nat:=(listed.toList.filter fun b=>!b).length
theorem Cs:∀ (l:List Bool) (i:Nat),l[i]?=some false->((l.set i true).filter fun b=>!b).length+1=(l.filter fun b=>!b).length
 | [],i,h=>by simp at h
 | b::l,0,h=>by simp at h; subst h; simp
 | b::l,i+1,h=>by
  simp at h
  have:=Cs l i h
  cases b
  ·simp only [List.set_cons_succ,List.filter_cons,Bool.not_false,if_true,List.length_cons]; omega
  ·simp only [List.set_cons_succ,List.filter_cons,Bool.not_true,Bool.false_eq_true,if_false]; exact this
def Eu {listed:Array Bool} {i:Nat} (d:listed[i]?=some false):left (listed.setIfInBounds i true)+1=left listed:=by
 unfold left;rw [Array.toList_setIfInBounds];exact Cs _ i (by simpa using d)
def K5 {listed:Array Bool} (h0:left listed=0) (i:Nat):listed[i]?≠some false:=by
 intro d
 have:=Eu d
 omega
def HX (v:Xab) (h:Hp):Xab->T:=fun v' _ _ h'=>v'=v/\h'=h
def QQ (J:ej P n ops=true) {L:Lp} {K:Xab->Hp->Prop} {k:Env->T} {Q:Exit->Act->World->Prop} {w0:World} {i:Nat}
  {listed:Array Bool} {a:Act} {w:World} {R:Act->World->Prop} (hi:i∈Region.ready .any ops listed) (hs:dK w0 w)
  (next:∀ a' w' D e m fu,dK w0 w'->rh P n ops e0 (listed.setIfInBounds i true) a' w'.heap D e m->fU P n ops fu D e m k L K w'.heap->R a' w') :
  ∀ fu D e m,rh P n ops e0 listed a w.heap D e m->fU P n ops fu D e m k L K w.heap->wpOp P ops Q i R a w:=by
 intro fu
 induction fu with
 | zero=>intro D e m I ht; exact ht.elim
 | succ fu ih =>
  intro D e m I ht;obtain ⟨o,ho,hf,hr⟩:=(oQ I.vf).1 hi
  by_cases hiD:i∈D
  ·
   obtain ⟨hc,v,b,hv,hg,hx⟩:=I.OP i hiD o ho hf;have hlk:=I.Jh J ho hr (.inr hc);have O:=hg.wanted hlk;have hv':∀ d,o.dst=some d->cQ e d=some v:=fun d hd=>hv d hd (Ox J ho hd)
   unfold wpOp;rw [ho];simp only;have I':=I.exec J ho hiD hf hv' hc;rcases hx with ⟨rfl,rfl⟩ | ⟨rfl,hx⟩
   ·rw [Yx (by simp [O])];exact next _ _ D e m (fu+1) hs I' ht
   ·rw [YC O];refine .inl ?_;have Y:W3 P o a.eval w.heap (fun v' h'=>v'=v/\h'=w.heap):=by
     have hxx:uH P o e (HX v w.heap) [] (fun _ _=>True) w.heap:=by
      rcases hx with hx | ⟨p,l,_,hcl,hx⟩
      ·exact hx (HX v w.heap) [] (fun _ _=>True) w.heap ⟨rfl,rfl⟩
      ·exact hx (HX v w.heap) [] (fun _ _=>True) w.heap hcl ⟨rfl,rfl⟩
     rw [<- EX (ops:=ops)] at hxx;exact Hh (Em I.size I.defers hlk) hxx
    refine xB Y ?_;rintro v' w' hs' ⟨rfl,hh⟩;refine next _ _ D e m (fu+1) (hs.trans hs') (by rw [hh]; exact I') (by rw [hh]; exact ht)
  ·unfold fU at ht;cases V:cY P D true (idx 0 ops.toList) with
   | cons q qs =>
    obtain ⟨j,U⟩:=q;simp only [V] at ht;have hq:(j,U)∈cY P D true (idx 0 ops.toList):=by rw [V]; simp
    obtain ⟨hq1,hq2,X⟩:=fE.1 hq;have hoj:=iM.1 hq1;obtain ⟨hjD,hjw⟩:=ua.1 hq2;obtain ⟨e',b,he,hg,hx⟩:=zw ht;have hg':∀ u,AX ops U (dX n e' U.dst u) b:=fun u=>hg.congr fun s hs=>by
     by_cases hd:U.dst=some s
     ·exact (G0 J hoj hd X hs).elim
     ·rw [kp hd,he]
    have Z:∀ u d,U.dst=some d->d<n->cQ (dX n e' U.dst u) d=some u:=fun u d hd hdn=>by rw [hd]; exact tI hdn
    have hxe:∀ u kk,uH P U (dX n e' U.dst u) kk=uH P U e' kk:=fun u kk=>w9 (fun x hx=>by
     cases x <;> try rfl
     rename_i s;simp only [ev];exact kp (fun hd=>G0 J hoj hd X (xF hx))) kk
    rcases hx with ⟨rfl,hx⟩ | ⟨rfl,hx⟩
    ·
     unfold calm at X;cases G:rV P U with
     | true =>
      have hx':uH P U e' (fun v=>fU P n ops fu (j::D) (dX n e' U.dst v) m k) L K w.heap:=by
       have hnl:∀ t x,U.op≠.load t x:=by
        intro t x hh;unfold rV at G;rw [hh] at G; cases G
       obtain ⟨dst,op,type,pos,after,guard⟩:=U;cases op <;> first | exact hx | exact (hnl _ _ rfl).elim
      obtain ⟨v,hk,hall⟩:=NB G hx';refine ih (j::D) _ m (I.ahead J hoj hjD hjw (by unfold calm; rw [G]; rfl) he (fun x hx=>hx) ?_) hk;exact ⟨by unfold calm; rw [G]; rfl,v,true,Z v,hg' v,.inr ⟨rfl,.inl fun kk L K h' hkk=>by rw [hxe]; exact hall kk L K h' hkk⟩⟩
     | false =>
      rw [G,ad9] at X;obtain ⟨t,x,Y⟩:∃ t x,U.op=.load t x:=by
       unfold AJ at X;cases Y:U.op <;> rw [Y] at X <;> first | (cases X; done) | exact ⟨_,_,rfl⟩
      have hcj:calm P U=true:=by unfold calm AJ; rw [Y]; simp
      simp only [Y] at hx;unfold rz at hx;obtain ⟨u,hu,hx⟩:=bH hx;have hx2:rz P t x e' (fun a l v=>fU P n ops fu (j::D) (dX n e' U.dst v) ((j,a,l)::m) k) L K w.heap:=by
       unfold rz bY; simp only [hu]; exact hx
      cases hb:cH P t with
      | none=>cases u <;> simp only [hb] at hx <;> exact hx.elim
      | some bb =>
       obtain ⟨pp,rfl⟩:∃ pp,u=.pointer pp:=by
        cases u <;> cases bb <;> simp only [hb] at hx <;> first | exact hx.elim | exact ⟨_,rfl⟩
       have F:(match bb with
        | true=>(bif (eX P 9 t).length==P.cellsOf t then T.bi pp fun a=>T.ah a (eX P 9 t) (jv _ fun l=>fU P n ops fu (j::D) (dX n e' U.dst (.agg l.toArray)) ((j,a,l)::m) k) else T.fail)
        | false=>T.bi pp fun a=>T.ah a (cG P t).2 (jv _ fun l=>fU P n ops fu (j::D) (dX n e' U.dst (l.headD undef)) ((j,a,l)::m) k)) L K w.heap:=by
        cases bb <;> simp only [hb] at hx <;> exact hx
       have hfin:∃ p l v,pp=some p/\aJ w.heap p 0 l/\fU P n ops fu (j::D) (dX n e' U.dst v) ((j,p,l)::m) k L K w.heap /\
         ∀ (kk:Xab->T) L K h',aJ h' p 0 l->kk v L K h'->uH P U e' kk L K h':=by
        have hxop:∀ kk,uH P U e' kk=rz P t x e' (fun _ _ v=>kk v):=by
         intro kk;unfold uH;rw [Y] <;> rfl
        cases bb with
        | true =>
         simp only at F;rcases fL F with ⟨hl,F⟩ | ⟨hl,F⟩
         ·obtain ⟨p,rfl,F⟩:=gb F;obtain ⟨y,hc,F⟩:=F;rw [dI] at F;refine ⟨p,_,_,rfl,hc,F,fun kk L K h' hc' hkk=>?_⟩;rw [hxop];unfold rz bY;simp only [hu,hb,hl];exact ⟨y,hc',by rw [dI]; exact hkk⟩
         ·exact F.elim
        | false =>
         simp only at F;obtain ⟨p,rfl,F⟩:=gb F;obtain ⟨y,hc,F⟩:=F;rw [dI] at F;refine ⟨p,_,_,rfl,hc,F,fun kk L K h' hc' hkk=>?_⟩;rw [hxop];unfold rz bY;simp only [hu,hb];exact ⟨y,hc',by rw [dI]; exact hkk⟩
       obtain ⟨p,l,v,rfl,hc,hk,hall⟩:=hfin;refine ih (j::D) _ ((j,p,l)::m) (I.ahead J hoj hjD hjw hcj he (fun x hx=>YM _ hx) ?_) hk;exact ⟨hcj,v,true,Z v,hg' v,.inr ⟨rfl,.inr ⟨p,l,aj,hc,fun kk L K h' hc' hkk=>by rw [hxe]; exact hall kk L K h' hc' hkk⟩⟩⟩
    ·
     refine ih (j::D) _ m (I.ahead J hoj hjD hjw X he (fun x hx=>hx) ?_) hx;exact ⟨X,undef,false,Z undef,hg' undef,.inl ⟨rfl,rfl⟩⟩
   | nil =>
    simp only [V] at ht;have hjw:∀ j∈waits o,j∈D:=fun j hj=>I.lD j (hr j hj)
    have hrx:xE D i o=true:=ua.2 ⟨hiD,hjw⟩;have hc:calm P o=false:=by
     cases hc:calm P o with
     | false=>rfl
     | true =>
      have:(i,o)∈cY P D true (idx 0 ops.toList):=fE.2 ⟨iM.2 ho,hrx,hc⟩
      rw [V] at this; cases this
    have hmem:(i,o)∈cY P D false (idx 0 ops.toList):=fE.2 ⟨iM.2 ho,hrx,hc⟩;cases heff:cY P D false (idx 0 ops.toList) with
    | nil=>rw [heff] at hmem; cases hmem
    | cons q qs =>
     simp only [heff] at ht;rw [heff] at hmem;have hti:=Q9 (YF.2 ⟨(i,o),hmem,rfl⟩) ht;simp only at hti;obtain ⟨e',b,he,hg,hx⟩:=zw hti;have hlk:=I.Jh J ho hr (.inl hiD);have O:=hg.wanted hlk;unfold wpOp;rw [ho];simp only;rcases hx with ⟨rfl,hx⟩ | ⟨rfl,hx⟩
     ·rw [YC O];refine .inl ?_;rw [<- EX (ops:=ops)] at hx;have hlk':∀ s∈looks ops o,∀ v,cQ e' s=some v->a.tmps.getD s undef=v:=fun s hs v hv=>hlk s hs v (by rw [<- he]; exact hv)
      refine xB (Hh (Em I.size I.defers hlk') hx) ?_;intro v w' hs' hst;obtain ⟨hst1,hst2⟩:=RE hst;exact next _ _ (i::D) _ m fu (hs.trans hs') (I.effect J ho hiD hr hc he (fun j p l h1 _ h3=>hst2 j p l h1 h3)) hst1
     ·rw [Yx (by simp [O])];exact next _ _ (i::D) _ m fu hs (I.effect J ho hiD hr hc he (fun j p l _ h2 _=>h2)) hx
def Mc (Y:ej P n ops=true) {L:Lp} {K:Xab->Hp->Prop} {k:Env->T} {Q:Exit->Act->Hp->Prop} {X:World}
  (hk:∀ e a h,k e L K h->gK n e a->Fr (dstsOf ops) e0 e->Q .normal a h):∀ (fuel:Nat) (listed:Array Bool) (a:Act) (w:World) (D:List Nat) (e:Env) (m:Made) (fu:Nat),left listed<=fuel->dK X w ->
   rh P n ops e0 listed a w.heap D e m->fU P n ops fu D e m k L K w.heap->wpAny P .any ops (W4 X Q) fuel listed a w:=by
 have U:∀ (listed:Array Bool) (a:Act) (w:World),dK X w->Region.ready .any ops listed=[]->∀ fu D e m,rh P n ops e0 listed a w.heap D e m->fU P n ops fu D e m k L K w.heap->W4 X Q .normal a w:=by
  intro listed a w hs J fu D e m I F;have G:∀ i∈D,listed[i]?=some true\/listed[i]?=some false:=by
   intro i hi;obtain ⟨o,u⟩:=I.dD i hi
   by_cases h1:listed[i]?=some true
   ·exact .inl h1
   ·exact .inr (I.wq u h1)
  have d:∀ i∈D,listed[i]?=some true:=by
   intro i hi;rcases G i hi with h1 | h1
   ·exact h1
   ·obtain ⟨j,V,h2,h3⟩:=tA listed I.closed I.dD ⟨i,hi,h1⟩ G;obtain ⟨o,u⟩:=I.dD j V
    have:j∈Region.ready .any ops listed:=(oQ I.vf).2 ⟨o,u,h2,h3 o u⟩
    rw [J] at this; cases this
  have Z:∀ c,cY P D c (idx 0 ops.toList)=[]:=by
   intro c;cases hx:cY P D c (idx 0 ops.toList) with
   | nil=>rfl
   | cons q qs =>
    obtain ⟨i,o⟩:=q;have hq:(i,o)∈cY P D c (idx 0 ops.toList):=by rw [hx]; simp
    obtain ⟨hq1,hq2,_⟩:=fE.1 hq;have u:=iM.1 hq1;obtain ⟨hiD,hw⟩:=ua.1 hq2
    have:i∈Region.ready .any ops listed:=(oQ I.vf).2 ⟨o,u,I.wq u (fun hh=>hiD (I.lD i hh)),fun j V=>d j (hw j V)⟩
    rw [J] at this; cases this
  cases fu with
  | zero=>exact F.elim
  | succ fu =>
   unfold fU at F;simp only [Z] at F;refine ⟨hs,hk e a w.heap F ⟨I.size,I.defers,fun s v hv=>I.V4 s v hv ?_⟩ I.fr⟩;intro j V o u O;rw [d j V] at O; cases O
 intro fuel
 induction fuel with
 | zero =>
  intro listed a w D e m fu hl hs I F;have J:Region.ready .any ops listed=[]:=by
   cases hx:Region.ready .any ops listed with
   | nil=>rfl
   | cons i l =>
    have:i∈Region.ready .any ops listed:=by rw [hx]; simp
    obtain ⟨o,u,O,_⟩:=(oQ I.vf).1 this;exact (K5 ad i O).elim
  exact ⟨J,U listed a w hs J fu D e m I F⟩
 | succ fuel ih =>
  intro listed a w D e m fu hl hs I F;refine ⟨fun J=>U listed a w hs J fu D e m I F,fun i hi=>?_⟩;obtain ⟨o,u,O,_⟩:=(oQ I.vf).1 hi;refine QQ Y hi hs ?_ fu D e m I F;intro a' w' D' e' m' fu' hs' I' ht';exact ih _ a' w' D' e' m' fu' (by have:=Eu O; omega) hs' I' ht'
def XP (hm:P.follows .mixedOrders=true):XN P n:=by
 intro id ops e k L K Q a h hk u g G w hs hw;subst hw;unfold vK at u;cases d:ej P n ops with
 | false=>simp only [d] at u; exact u.elim
 | true =>
  simp only [d] at u;have j:∀ (l:Array Bool) (i:Nat),l=Array.replicate ops.size false->l[i]?≠some true:=by
   intro l i hl F;subst hl;simp [Array.getElem?_replicate] at F
  refine wp_region_any hm (Mc (e0:=e) d hk ops.size _ a { w with drawn:=w.drawn+1 } [] e [] (ops.size+1) ?_ ⟨hs.os,hs.tape,hs.output⟩ ?_ u)
  ·unfold left;refine Zq (ZP _ _) ?_
   simp
  ·exact ⟨aj,g.size,g.defers,fun i hi=>(j _ i rfl hi).elim,fun i hi=>(by cases hi),trivial,fun s v hv _=>g.get s v hv,fun i hi=>(by cases hi),Fr.refl _ _⟩
end draws
end Go.Sx
