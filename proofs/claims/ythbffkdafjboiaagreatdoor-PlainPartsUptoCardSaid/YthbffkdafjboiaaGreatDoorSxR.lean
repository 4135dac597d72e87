/- Part of the framework. No condition. -/
import Derived.Test.YthbffkdafjboiaaGreatDoorSxM
import Derived.Orders
set_option linter.all false
set_option maxHeartbeats 4000000
namespace Go.Sx
section congr
variable {P:Program}
def bI {e e':Env} {x:Operand} (h:ev e x=ev e' x) (k:ZB->T):bU e x k=bU e' x k:=by
 unfold bU; rw [h]
theorem eA {e e':Env}:∀ {xs:List Operand},(∀ x∈xs,ev e x=ev e' x)->∀ (k:List ZB->T),gY e xs k=gY e' xs k
 | [],_,k=>rfl
 | x::xs,h,k=>by
  simp only [gY];rw [bI (h x aj)]
  congr 1
  funext v
  exact eA (fun x hx=>h x (by simp [hx])) _
def we {o:Oper} {e e':Env} (h:∀ x∈o.op.operands,ev e x=ev e' x) (kk:ZB->T):tS P o e kk=tS P o e' kk:=by
 obtain ⟨dst,op,type,pos,after,guard⟩:=o;cases op <;> simp only [Op.operands] at h <;> simp only [tS]
 case pick c x y =>
  rw [bI (h c aj)]
  congr 1; funext v
  cases v <;> first | rfl | (rw [bI (h x aj),bI (h y aj)])
 case build t ps=>rw [eA (fun x hx=>h x (by simpa using hx))]
 case buildSlice t l ps=>rw [eA (fun x hx=>h x (by simpa using hx))]
 case store t x y =>
  rw [bI (h x aj)]
  congr 1; funext v
  rw [bI (h y aj)]
 case binOp op t x y yt =>
  rw [bI (h x aj)]
  congr 1; funext v
  rw [bI (h y aj)]
 case makeFunc fn fi ca =>
  rw [eA (fun x hx=>h x (by simp at hx ⊢; exact .inl hx))]
  congr 1; funext v
  rw [eA (fun x hx=>h x (by simp at hx ⊢; exact .inr hx))]
 case makeMap t r=>cases r <;> rfl
 case makeSlice t x y =>
  rw [bI (h x aj)]
  congr 1; funext v
  rw [bI (h y aj)]
 case slice t x lo hi mx =>
  rw [bI (h x aj)]
  congr 1; funext v
  rw [eA (fun y hy=>h y (by
   simp only [List.mem_append,Option.mem_toList] at hy;simp only [Array.mem_append,Array.mem_singleton,Option.mem_toArray];rcases hy with (hy | hy) | hy
   ·exact .inl (.inl (.inr hy))
   ·exact .inl (.inr hy)
   ·exact .inr hy))]
 case indexAddr t x y =>
  rw [bI (h x aj)]
  congr 1; funext v
  rw [bI (h y aj)]
 case index t x y =>
  rw [bI (h x aj)]
  congr 1; funext v
  rw [bI (h y aj)]
 case lookup t x y ok =>
  rw [bI (h x aj)]
  congr 1; funext v
  rw [bI (h y aj)]
 case mapUpdate t x y z =>
  rw [bI (h x aj)]
  congr 1; funext v
  rw [bI (h y aj)]
  congr 1; funext v
  rw [bI (h z aj)]
 case insert t x y z =>
  rw [bI (h x aj)]
  congr 1; funext v
  rw [bI (h y aj)]
  congr 1; funext v
  rw [bI (h z aj)]
 case mapEntry t x y =>
  rw [bI (h x aj)]
  congr 1; funext v
  rw [bI (h y aj)]
 case entryStore t x y z =>
  rw [bI (h x aj)]
  congr 1; funext v
  rw [bI (h y aj)]
  congr 1; funext v
  rw [bI (h z aj)]
 case call c =>
  cases hc:c.callee with
  | builtin b =>
   simp only [hc];rw [eA (fun x hx=>h x (by simp [Call.operands,hc]; simpa using hx))]
  | invoke r m=>simp only [hc]
  | value f =>
   simp only [hc];cases Eg f
   ·simp only;rw [bI (h f (by simp [Call.operands,hc]))]
    congr 1; funext v
    rw [eA (xs:=c.args.toList) (fun x hx=>h x (by simp [Call.operands,hc]; right; simpa using hx))]
   ·simp only;rw [bI (h f (by simp [Call.operands,hc]))]
    congr 1; funext v
    rw [eA (xs:=c.args.toList) (fun x hx=>h x (by simp [Call.operands,hc]; right; simpa using hx))]
 all_goals first | rfl | exact bI (h _ aj) _
end congr
section pures
variable {P:Program} {L:Lp} {K:ZB->Hp->Prop} {h:Hp}
def dM (F:(ZB->T)->T) (kk:ZB->T) (L:Lp) (K:ZB->Hp->Prop) (h:Hp):Prop :=
 ∃ v,kk v L K h/\∀ (kk':ZB->T) L' K' h',kk' v L' K' h'->F kk' L' K' h'
def dm {e:Env} {x:Operand} {F:(ZB->T)->ZB->T} {kk:ZB->T} (hF:∀ v,F kk v L K h->dM (fun kk=>F kk v) kk L K h)
  (ht:bU e x (F kk) L K h):dM (fun kk=>bU e x (F kk)) kk L K h:=by
 obtain ⟨v,hv,ht⟩:=bz ht;obtain ⟨u,hk,hall⟩:=hF v ht;refine ⟨u,hk,fun kk' L' K' h' hx=>?_⟩;unfold bU;simp only [hv];exact hall kk' L' K' h' hx
theorem oa {e:Env}:∀ {xs:List Operand} {F:(ZB->T)->List ZB->T} {kk:ZB->T},(∀ v,F kk v L K h->dM (fun kk=>F kk v) kk L K h) ->
  gY e xs (F kk) L K h->dM (fun kk=>gY e xs (F kk)) kk L K h
 | [],F,kk,hF,ht=>hF [] ht
 | x::xs,F,kk,hF,ht=>by
  refine dm (F:=fun kk v=>gY e xs fun l=>F kk (v::l)) ?_ ht;intro v ht;exact oa (F:=fun kk l=>F kk (v::l)) (fun l hl=>hF (v::l) hl) ht
def cK {kk:ZB->T} {v:ZB} (ht:kk v L K h):dM (fun kk=>kk v) kk L K h:=⟨v,ht,fun _ _ _ _ hx=>hx⟩
def oK {p:Prop} {F:(ZB->T)->T} {kk:ZB->T} (hF:F kk L K h->dM F kk L K h) (ht:T.need p (F kk) L K h):dM (fun kk=>T.need p (F kk)) kk L K h:=by
 obtain ⟨hp,ht⟩:=ht;obtain ⟨v,hk,hall⟩:=hF ht;exact ⟨v,hk,fun kk' L' K' h' hx=>⟨hp,hall kk' L' K' h' hx⟩⟩
def Af {q:ZC} {F:(ZB->T)->Zx->T} {kk:ZB->T} (hF:∀ a,F kk a L K h->dM (fun kk=>F kk a) kk L K h) (ht:T.bF q (F kk) L K h) :
  dM (fun kk=>T.bF q (F kk)) kk L K h:=by
 obtain ⟨a,rfl,ht⟩:=fW ht;obtain ⟨v,hk,hall⟩:=hF a ht;exact ⟨v,hk,fun kk' L' K' h' hx=>hall kk' L' K' h' hx⟩
def rB {b:Bool} {F G:(ZB->T)->T} {kk:ZB->T} (hF:F kk L K h->dM F kk L K h) (hG:G kk L K h->dM G kk L K h) (ht:cond b (F kk) (G kk) L K h) :
  dM (fun kk=>cond b (F kk) (G kk)) kk L K h:=by
 cases b
 ·exact hG ht
 ·exact hF ht
def uC {op:BinOp} {b:Bool} {kk:ZB->T} (ht:asked op b kk T.fail L K h):dM (fun kk=>asked op b kk T.fail) kk L K h:=by
 cases op <;> first | exact cK ht | exact ht.elim
def P8 {op:BinOp} {k:IntKind} {m n:Int} {kk:ZB->T} (ht:G1 op k m n kk L K h):dM (fun kk=>G1 op k m n kk) kk L K h:=by
 cases op <;> first
  | exact ht.elim
  | exact cK ht
  | exact oK (F:=fun kk=>kk _) cK ht
def IX {op:BinOp} {k:IntKind} {m n:Int} {kk:ZB->T} (ht:zd op k m n kk L K h):dM (fun kk=>zd op k m n kk) kk L K h:=by
 cases op <;> first
  | exact ht.elim
  | exact oK (F:=fun kk=>kk _) cK ht
def Qo {op:BinOp} {m n:ZA} {kk:ZB->T} (ht:GV op m n kk L K h):dM (fun kk=>GV op m n kk) kk L K h:=by
 cases op <;> first
  | exact ht.elim
  | exact cK ht
  | exact oK (F:=fun kk=>kk _) cK ht
def Ln {op:BinOp} {t:TypeId} {a b:ZB} {kk:ZB->T} (ht:sq P op t a b kk L K h):dM (fun kk=>sq P op t a b kk) kk L K h:=by
 unfold sq at ht ⊢;cases a <;> cases b <;> first | exact ht.elim | skip
 case bool.bool m n =>
  generalize P.underlying t=ud at ht ⊢;cases ud with
  | none=>exact ht.elim
  | some d=>cases d <;> first | exact ht.elim | exact uC ht
 case int.int k m k' n =>
  simp only at ht ⊢;cases hs:ml op with
  | true=>simp only [hs] at ht ⊢; exact IX ht
  | false =>
   simp only [hs] at ht ⊢
   by_cases hk:k=k'
   ·subst hk;simp only [decide_true] at ht ⊢;exact P8 ht
   ·simp only [hk,decide_false] at ht;exact ht.elim
 case string.string m n=>exact Qo ht
 case pointer.pointer p q =>
  generalize P.underlying t=ud at ht ⊢;cases ud with
  | none=>exact ht.elim
  | some d=>cases d <;> first | exact ht.elim | exact uC ht
 case slice.slice p l c q l' c' =>
  generalize P.underlying t=ud at ht ⊢;cases ud with
  | none=>exact ht.elim
  | some d=>cases d <;> first | exact ht.elim | exact uC ht
 case map.map p q =>
  generalize P.underlying t=ud at ht ⊢;cases ud with
  | none=>exact ht.elim
  | some d=>cases d <;> first | exact ht.elim | exact uC ht
def S9 {op:UnOp} {a:ZB} {kk:ZB->T} (ht:TB op a kk L K h):dM (fun kk=>TB op a kk) kk L K h:=by
 cases op <;> cases a <;> first | exact ht.elim | exact cK ht
def Kf {t : TypeId} {cs : List ZB} {off : Nat} {kk : ZB -> T} (ht : sy P t cs off kk L K h) : dM (fun kk => sy P t cs off kk) kk L K h := by
  unfold sy at ht ⊢;generalize P.underlying t = ud at ht ⊢;cases ud with
  | none => exact ht.elim
  | some d =>
    cases d <;> first
      | exact cK ht
      | (cases hv : cs[off]? with
         | none => simp only [hv] at ht; exact ht.elim
         | some v => simp only [hv] at ht ⊢; exact cK ht)
def I8 {t:TypeId} {a:ZB} {lo hi:Option ZB} {kk:ZB->T} (hp:(match P.underlying t with
  | some .string=>true
  | some (.slice _)=>true
  | _=>false)=true) (ht:iI P t a lo hi none kk L K h):dM (fun kk=>iI P t a lo hi none kk) kk L K h:=by
 unfold iI at ht ⊢;cases hint:ep lo && ep hi && ep none with
 | false=>simp only [hint] at ht; exact ht.elim
 | true =>
  simp only [hint] at ht ⊢;generalize P.underlying t=ud at ht hp ⊢;cases ud with
  | none=>cases hp
  | some d =>
   cases d <;> simp only [Bool.false_eq_true] at hp
   case string=>cases a <;> first | exact ht.elim | exact oK (F:=fun kk=>kk _) cK ht
   case slice el =>
    cases a <;> first | exact ht.elim | skip
    simp only at ht ⊢;cases hT:mV P el with
    | false=>simp only [hT] at ht; exact ht.elim
    | true=>simp only [hT] at ht ⊢; exact oK (F:=fun kk=>kk _) cK ht
theorem rR {agg:Nat->Option Bool}:∀ {ps:List (Nat × ZB)} {F:(ZB->T)->List (Nat × List ZB)->T} {kk:ZB->T},(∀ r,F kk r L K h->dM (fun kk=>F kk r) kk L K h) ->
  fc agg ps (F kk) L K h->dM (fun kk=>fc agg ps (F kk)) kk L K h
 | [],F,kk,hF,ht=>hF [] ht
 | (i,v)::l,F,kk,hF,ht=>by
  simp only [fc] at ht ⊢;cases ha:agg i with
  | none=>rw [ha] at ht; exact ht.elim
  | some b =>
   rw [ha] at ht;cases b with
   | true=>exact rB (F:=fun kk=>fc agg l fun r=>F kk ((i,jy v)::r)) (G:=fun _=>T.fail) (fun ht=>rR (F:=fun kk r=>F kk ((i,jy v)::r)) (fun r hr=>hF _ hr) ht) (fun ht=>ht.elim) ht
   | false=>exact rB (F:=fun _=>T.fail) (G:=fun kk=>fc agg l fun r=>F kk ((i,[v])::r)) (fun ht=>ht.elim) (fun ht=>rR (F:=fun kk r=>F kk ((i,[v])::r)) (fun r hr=>hF _ hr) ht) ht
def Ml {o:Oper} {e:Env} {kk:ZB->T} (hp:ri P o=true) (ht:tS P o e kk L K h):dM (fun kk=>tS P o e kk) kk L K h:=by
 obtain ⟨dst,op,type,pos,after,guard⟩:=o;cases op <;> simp only [ri,Bool.false_eq_true] at hp <;> simp only [tS] at ht ⊢
 case move x=>exact dm (F:=fun kk v=>kk v) (fun v hv=>cK hv) ht
 case pick c x y =>
  refine dm (F:=fun kk c=>match c with
   | .bool b'=>cond b' (bU e x kk) (bU e y kk)
   | _=>T.fail) (fun v hv=>?_) ht
  cases v <;> first | exact hv.elim | skip
  exact rB (F:=fun kk=>bU e x kk) (G:=fun kk=>bU e y kk) (fun ht=>dm (F:=fun kk v=>kk v) (fun v hv=>cK hv) ht) (fun ht=>dm (F:=fun kk v=>kk v) (fun v hv=>cK hv) ht) hv
 case build t ps =>
  refine oa (F:=fun kk vs=>match P.underlying t,(P.info? t).bind (·.zero) with
   | some (.struct fs),some z =>
    bif !(fs.all fun f=>mV P f.type) then T.fail else fc (fun i=>(fs[i]?).bind fun f=>cB P f.type) ((ps.toList.map (·.1)).zip vs) fun ls=>match ft (((fs.map fun f=>(f.offset,P.cellsOf f.type)))[·]?) z.cells.toList ls with
    | some cs=>kk (.agg cs.toArray)
    | none=>T.fail
   | some (.array _ el),some z =>
    bif !mV P el then T.fail else fc (fun _=>cB P el) ((ps.toList.map (·.1)).zip vs) fun ls=>match ft (fun i=>some (i*P.cellsOf el,P.cellsOf el)) z.cells.toList ls with
    | some cs=>kk (.agg cs.toArray)
    | none=>T.fail
   | _,_=>T.fail) (fun vs hv=>?_) ht
  generalize P.underlying t=ud at hv ⊢;generalize (P.info? t).bind (·.zero)=z at hv ⊢;cases ud with
  | none=>exact hv.elim
  | some d =>
   cases d <;> first | exact hv.elim | skip
   case array len el =>
    cases z with
    | none=>exact hv.elim
    | some z =>
     refine rB (F:=fun _=>T.fail) (G:=fun kk=>fc (fun _=>cB P el) ((ps.toList.map (·.1)).zip vs) fun ls=>match ft (fun i=>some (i*P.cellsOf el,P.cellsOf el)) z.cells.toList ls with
      | some cs=>kk (.agg cs.toArray)
      | none=>T.fail) (fun ht=>ht.elim) (fun ht=>?_) hv
     refine rR (F:=fun kk ls=>match ft (fun i=>some (i*P.cellsOf el,P.cellsOf el)) z.cells.toList ls with
      | some cs=>kk (.agg cs.toArray)
      | none=>T.fail) (fun ls ht=>?_) ht
     cases hf:ft (fun i=>some (i*P.cellsOf el,P.cellsOf el)) z.cells.toList ls with
     | none=>simp only [hf] at ht; exact ht.elim
     | some cs=>simp only [hf] at ht ⊢; exact cK ht
   case struct fs =>
    cases z with
    | none=>exact hv.elim
    | some z =>
     refine rB (F:=fun _=>T.fail) (G:=fun kk=>fc (fun i=>(fs[i]?).bind fun f=>cB P f.type) ((ps.toList.map (·.1)).zip vs) fun ls=>match ft (((fs.map fun f=>(f.offset,P.cellsOf f.type)))[·]?) z.cells.toList ls with
      | some cs=>kk (.agg cs.toArray)
      | none=>T.fail) (fun ht=>ht.elim) (fun ht=>?_) hv
     refine rR (F:=fun kk ls=>match ft (((fs.map fun f=>(f.offset,P.cellsOf f.type)))[·]?) z.cells.toList ls with
      | some cs=>kk (.agg cs.toArray)
      | none=>T.fail) (fun ls ht=>?_) ht
     cases hf:ft (((fs.map fun f=>(f.offset,P.cellsOf f.type)))[·]?) z.cells.toList ls with
     | none=>simp only [hf] at ht; exact ht.elim
     | some cs=>simp only [hf] at ht ⊢; exact cK ht
 case nilCheck x =>
  refine dm (F:=fun kk v=>match v with
   | .pointer p=>T.bF p fun a=>kk (.pointer (some a))
   | .func (.func f) fi ca=>kk (.func (.func f) fi ca)
   | .iface t v=>kk (.iface t v)
   | _=>T.fail) (fun v hv=>?_) ht
  cases v with
  | pointer p=>exact Af (F:=fun kk a=>kk (.pointer (some a))) (fun a ha=>cK ha) hv
  | func fn fi ca=>cases fn <;> first | exact hv.elim | exact cK hv
  | iface t w=>exact cK hv
  | _=>exact hv.elim
 case binOp op t x y yt =>
  refine dm (F:=fun kk a=>bU e y fun b=>CT P op t x y a b kk) (fun a ha=>?_) ht;refine dm (F:=fun kk b=>CT P op t x y a b kk) (fun b hb=>?_) ha;unfold CT at hb ⊢;simp only [hp] at hb ⊢;exact Ln hb
 case unOp op t x=>exact dm (F:=fun kk a=>TB op a kk) (fun v hv=>S9 hv) ht
 case convert s d x =>
  refine dm (F:=fun kk a=>xf P s d a kk) (fun v hv=>?_) ht;unfold xf at hv ⊢;generalize P.underlying s=us at hv hp ⊢;generalize P.underlying d=ud at hv hp ⊢;cases us with
  | none=>cases hp
  | some us =>
   cases ud with
   | none=>cases us <;> cases hp
   | some ud =>
    cases us <;> first | (cases ud <;> cases hp; done) | skip
    case int k=>cases ud <;> first | (cases hp; done) | (cases v <;> first | exact hv.elim | exact cK hv)
    case string=>cases ud <;> first | (cases hp; done) | (cases v <;> first | exact hv.elim | exact cK hv)
 case makeInterface t x =>
  refine dm (F:=fun kk a=>match P.underlying t with
   | some (.interface _)=>T.fail
   | some _=>kk (.iface t a)
   | none=>T.fail) (fun v hv=>?_) ht
  generalize P.underlying t=ud at hv ⊢;cases ud with
  | none=>exact hv.elim
  | some d=>cases d <;> first | exact hv.elim | exact cK hv
 case makeFunc fn fi ca =>
  refine oa (F:=fun kk fi=>gY e ca.toList fun ca=>kk (.func fn fi.toArray ca.toArray)) (fun fi hv=>?_) ht;exact oa (F:=fun kk ca=>kk (.func fn fi.toArray ca.toArray)) (fun ca hv=>cK hv) hv
 case slice t x lo hi mx =>
  cases mx with
  | some m=>cases hp
  | none =>
  simp only at hp;refine dm (F:=fun kk a=>gY e (lo.toList++hi.toList++(none:Option Operand).toList) fun vs=>TI P t lo hi none a vs kk) (fun a ha=>?_) ht;refine oa (F:=fun kk vs=>TI P t lo hi none a vs kk) (fun vs hv=>?_) ha;unfold TI at hv ⊢;cases lo <;> cases hi <;> rcases vs with _ | ⟨l,_ | ⟨l2,_ | ⟨l3,vs⟩⟩⟩ <;> first
   | exact hv.elim
   | exact I8 hp hv
 case fieldAddr s x f =>
  refine dm (F:=fun kk v=>match v,P.underlying s with
   | .pointer p,some (.struct fs)=>match fs[f]? with
    | some fd=>match P.cellsOf fd.type with
     | 0=>T.fail
     | _+1=>T.bF p fun a=>kk (.pointer (some (a.add fd.offset)))
    | none=>T.fail
   | _,_=>T.fail) (fun v hv=>?_) ht
  generalize P.underlying s=us at hv ⊢;cases v <;> first | exact hv.elim | skip
  cases us with
  | none=>exact hv.elim
  | some us =>
   cases us <;> first | exact hv.elim | skip
   rename_i fs;simp only at hv ⊢;cases hf:fs[f]? with
   | none=>simp only [hf] at hv; exact hv.elim
   | some fd =>
    simp only [hf] at hv ⊢;cases hc:P.cellsOf fd.type with
    | zero=>simp only [hc] at hv; exact hv.elim
    | succ m=>simp only [hc] at hv ⊢; exact Af (F:=fun kk a=>kk (.pointer (some (a.add fd.offset)))) (fun a ha=>cK ha) hv
 case field s x f =>
  refine dm (F:=fun kk v=>match v,P.underlying s with
   | .agg cs,some (.struct fs)=>match fs[f]? with
    | some fd=>sy P fd.type cs.toList fd.offset kk
    | none=>T.fail
   | _,_=>T.fail) (fun v hv=>?_) ht
  generalize P.underlying s=us at hv ⊢;cases v <;> first | exact hv.elim | skip
  cases us with
  | none=>exact hv.elim
  | some us =>
   cases us <;> first | exact hv.elim | skip
   rename_i fs;simp only at hv ⊢;cases hf:fs[f]? with
   | none=>simp only [hf] at hv; exact hv.elim
   | some fd=>simp only [hf] at hv ⊢; exact Kf hv
 case indexAddr t x i =>
  refine dm (F:=fun kk v=>bU e i fun i=>xF P t v i kk) (fun v hv=>?_) ht;refine dm (F:=fun kk i=>xF P t v i kk) (fun i hi=>?_) hv;unfold xF at hi ⊢;generalize P.underlying t=us at hi ⊢;cases v <;> cases i <;> first | exact hi.elim | skip
  all_goals
   cases us with
   | none=>exact hi.elim
   | some us =>
    cases us <;> first | exact hi.elim | skip
    refine rB (F:=fun _=>T.fail) (fun ht=>ht.elim) (fun ht=>?_) hi;exact oK (F:=fun kk=>T.bF _ fun a=>kk (.pointer (some (a.add (_*P.cellsOf _))))) (Af (F:=fun kk a=>kk (.pointer (some (a.add (_*P.cellsOf _))))) (fun a ha=>cK ha)) ht
 case index t x i =>
  refine dm (F:=fun kk v=>bU e i fun i=>F6 P t v i kk) (fun v hv=>?_) ht;refine dm (F:=fun kk i=>F6 P t v i kk) (fun i hi=>?_) hv;unfold F6 at hi ⊢;generalize P.underlying t=us at hi hp ⊢;cases us with
  | none=>cases hp
  | some us =>
   cases us <;> simp only [Bool.false_eq_true] at hp;cases v <;> cases i <;> first | exact hi.elim | exact oK (F:=fun kk=>kk _) cK hi
 case extract x i =>
  refine dm (F:=fun kk v=>match v with
   | .tuple vs=>match vs.toList[i]? with
    | some v=>kk v
    | none=>T.fail
   | _=>T.fail) (fun v hv=>?_) ht
  cases v <;> first | exact hv.elim | skip
  rename_i vs;simp only at hv ⊢;cases hi:vs.toList[i]? with
  | none=>simp only [hi] at hv; exact hv.elim
  | some w=>simp only [hi] at hv ⊢; exact cK hv
 case call c =>
  cases hc:c.callee with
  | value f=>simp only [hc] at hp; cases hp
  | invoke r m=>simp only [hc] at hp; cases hp
  | builtin b =>
   simp only [hc] at hp ht ⊢;refine oa (F:=fun kk vs=>qR P b c type vs kk) (fun vs hv=>?_) ht;cases b <;> simp only [Bool.false_eq_true] at hp
   case len =>
    have hv:yQ P c type vs kk L K h:=hv;show dM (fun kk=>yQ P c type vs kk) kk L K h;unfold yQ at hv ⊢;generalize (c.argTypes[0]?).bind P.underlying=ud at hv hp ⊢;cases ud with
    | none=>cases hp
    | some d =>
     cases d <;> simp only [Bool.false_eq_true] at hp
     all_goals
      rcases vs with _ | ⟨v,_ | ⟨v2,l⟩⟩ <;> first | exact hv.elim | skip
      all_goals cases v <;> first | exact hv.elim | exact cK hv
   case cap =>
    have hv:I9 P c vs kk L K h:=hv;show dM (fun kk=>I9 P c vs kk) kk L K h;unfold I9 at hv ⊢;generalize (c.argTypes[0]?).bind P.underlying=ud at hv hp ⊢;cases ud with
    | none=>cases hp
    | some d =>
     cases d <;> simp only [Bool.false_eq_true] at hp
     all_goals
      rcases vs with _ | ⟨v,_ | ⟨v2,l⟩⟩ <;> first | exact hv.elim | skip
      all_goals cases v <;> first | exact hv.elim | exact cK hv
end pures
section draws
variable {P:Program} {n:Nd} {ops:Array Oper}
theorem gi {x:Nat}:∀ {l:List Nat},r5 x l=true↔x∈l
 | []=>by simp [r5]
 | y::l=>by
  simp only [r5,Bool.or_eq_true,List.mem_cons,gi (l:=l)];constructor
  ·rintro (h | h)
   ·exact .inl (Xg h)
   ·exact .inr h
  ·rintro (h | h)
   ·subst h; exact .inl aj
   ·exact .inr h
theorem Hy {p:Nat × Oper}:∀ {l:List Oper} {k:Nat},p∈idx k l↔∃ j,l[j]?=some p.2/\p.1=k+j
 | [],k=>by simp [idx]
 | o::l,k=>by
  simp only [idx,List.mem_cons,Hy (l:=l)];constructor
  ·rintro (h | ⟨j,h1,h2⟩)
   ·subst h; exact ⟨0,aj,aj⟩
   ·exact ⟨j+1,by simpa using h1,ad⟩
  ·rintro ⟨j,h1,h2⟩;cases j with
   | zero=>left; simp at h1; subst h1; obtain ⟨a,b⟩:=p; simp at h2; subst h2; rfl
   | succ j=>right; exact ⟨j,by simpa using h1,ad⟩
def iE {i:Nat} {o:Oper}:(i,o)∈idx 0 ops.toList↔ops[i]?=some o:=by
 rw [Hy];constructor
 ·rintro ⟨j,h1,h2⟩;simp at h2; subst h2;simpa using h1
 ·intro h; exact ⟨i,by simpa using h,aj⟩
def Nb (hok:ee P n ops=true) {i:Nat} {x:Oper} (hi:ops[i]?=some x) {d:Nat} (hd:x.dst=some d):d<n:=by
 unfold ee at hok;rw [Xz] at hok;have h1:=XA.1 hok.1 (i,x) (iE.2 hi);simp only [hd] at h1;simpa [Nat.blt_eq] using h1
def F9 (hok:ee P n ops=true) {i:Nat} {x:Oper} (hi:ops[i]?=some x) {d:Nat} (hd:x.dst=some d) (hc:calm P x=true):d∉looks ops x:=by
 unfold ee at hok;rw [Xz] at hok;have h1:=XA.1 (XA.1 hok.2 (i,x) (iE.2 hi)) (i,x) (iE.2 hi);unfold Hf at h1;have hb:Nat.beq i i=true:=aj
 simp only [hb,hd,hc,Bool.not_true,Bool.false_or,Bool.not_eq_true'] at h1;intro hl;rw [gi.2 hl] at h1; cases h1
def nP (hok:ee P n ops=true) {i j:Nat} {x y:Oper} (hi:ops[i]?=some x) (hj:ops[j]?=some y) (hne:i≠j) :
  (∀ d,y.dst=some d->d∈looks ops x->j∈waits x\/(i∈waits y/\calm P y=false))/\(∀ d,x.dst=some d->calm P x=true->y.dst≠some d):=by
 unfold ee at hok;rw [Xz] at hok;have h1:=XA.1 (XA.1 hok.2 (i,x) (iE.2 hi)) (j,y) (iE.2 hj);unfold Hf at h1;have hb:Nat.beq i j=false:=by
  cases hb:Nat.beq i j
  ·rfl
  ·exact (hne (Xg hb)).elim
 simp only [hb,Bool.and_eq_true] at h1;refine ⟨fun d hd hl=>?_,fun d hd hc hy=>?_⟩
 ·have h2:=h1.1;simp only [hd,Bool.or_eq_true,Bool.and_eq_true,Bool.not_eq_true'] at h2;rcases h2 with (h2 | h2) | ⟨h2,h3⟩
  ·have:=gi.2 hl; rw [this] at h2; cases h2
  ·exact .inl (gi.1 h2)
  ·exact .inr ⟨gi.1 h2,h3⟩
 ·have h2:=h1.2;simp only [hd,hc,hy,lY] at h2;simp at h2
def Ad (ops:Array Oper) (o:Oper) (e:Env) (b:Bool):Prop :=
 match o.guard with
 | none=>b=true
 | some (j,w)=>match (ops[j]?).bind (·.dst) with
  | none=>b=false
  | some d=>(∃ t,cM e d=some (.bool t)/\b=(t==w))\/(∃ vs,cM e d=some (.tuple vs)/\b=false)
def xu {o:Oper} {j d:Nat} {w:Bool} (hg:o.guard=some (j,w)) (hd:(ops[j]?).bind (·.dst)=some d):d∈looks ops o:=by
 unfold looks;rw [hg];simp only [hd];exact XF _ aj
def Ad.wanted {o:Oper} {e:Env} {b:Bool} (h:Ad ops o e b) {tm:Array ZB} (ht:∀ s∈looks ops o,∀ v,cM e s=some v->tm.getD s undef=v) :
  Region.wanted o (yielded ops tm)=b:=by
 unfold Ad at h;cases hg:o.guard with
 | none=>simp only [hg] at h; subst h; exact xd hg
 | some p =>
  obtain ⟨j,w⟩:=p;simp only [hg] at h;rw [xm hg];cases hd:(ops[j]?).bind (·.dst) with
  | none=>simp only [hd] at h; subst h; simp [yielded,hd]
  | some d =>
   simp only [hd] at h;have hl:=xu hg hd;rcases h with ⟨t,h1,rfl⟩ | ⟨vs,h1,rfl⟩
   ·rw [uD hd (ht d hl _ h1)]; cases t <;> cases w <;> rfl
   ·rw [sx hd (ht d hl _ h1)]; rfl
def Ad.congr {o:Oper} {e e':Env} {b:Bool} (h:Ad ops o e b) (he:∀ s∈looks ops o,cM e' s=cM e s):Ad ops o e' b:=by
 unfold Ad at h ⊢;cases hg:o.guard with
 | none=>simp only [hg] at h ⊢; exact h
 | some p =>
  obtain ⟨j,w⟩:=p;simp only [hg] at h ⊢;cases hd:(ops[j]?).bind (·.dst) with
  | none=>simp only [hd] at h ⊢; exact h
  | some d=>simp only [hd] at h ⊢; rw [he d (xu hg hd)]; exact h
def rG {e:Env} {d:Nat} {v:ZB} (h:cM e d=some v) (s:Nat):cM (dV n e (some d) v) s=cM e s:=by
 simp only [dV];cases Nat.blt d n with
 | false=>rfl
 | true =>
  simp only [cond_true,du]
  by_cases hs:d=s
  ·subst hs; rw [Xb rfl,h]
  ·rw [W6 hs]
def yO {o:Oper} {e:Env} {yes no:Env->T} {L:Lp} {K:ZB->Hp->Prop} {h:Hp} (ht:kY n ops o e yes no L K h) :
  ∃ e' b,(∀ s,cM e' s=cM e s)/\Ad ops o e b/\((b=true/\yes e' L K h)\/(b=false/\no e' L K h)):=by
 unfold kY guardOf at ht;unfold Ad;cases hg:o.guard with
 | none=>simp only [hg] at ht ⊢; exact ⟨e,true,fun _=>rfl,rfl,.inl ⟨rfl,ht⟩⟩
 | some p =>
  obtain ⟨j,w⟩:=p;simp only [hg] at ht ⊢;cases hj:(ops[j]?).bind (·.dst) with
  | none=>simp only [hj] at ht ⊢; exact ⟨e,false,fun _=>rfl,rfl,.inr ⟨rfl,ht⟩⟩
  | some d =>
   simp only [hj] at ht ⊢;cases hv:cM e d with
   | none=>simp only [hv] at ht; exact ht.elim
   | some v =>
    cases v <;> simp only [hv] at ht <;> first | exact ht.elim | skip
    case tuple vs=>exact ⟨e,false,fun _=>rfl,.inr ⟨vs,rfl,rfl⟩,.inr ⟨rfl,ht⟩⟩
    case bool b =>
     cases w <;> simp only at ht <;> rcases fH ht with ⟨hb,ht⟩ | ⟨hb,ht⟩ <;> subst hb
     ·exact ⟨_,false,rG hv,.inl ⟨true,rfl,rfl⟩,.inr ⟨rfl,ht⟩⟩
     ·exact ⟨_,true,rG hv,.inl ⟨false,rfl,rfl⟩,.inl ⟨rfl,ht⟩⟩
     ·exact ⟨_,true,rG hv,.inl ⟨true,rfl,rfl⟩,.inl ⟨rfl,ht⟩⟩
     ·exact ⟨_,false,rG hv,.inl ⟨false,rfl,rfl⟩,.inr ⟨rfl,ht⟩⟩
def only (e:Env) (l:List Nat):Env:=l.filterMap fun s=>(cM e s).map fun v=>(s,some v)
theorem rL {e:Env}:∀ {l:List Nat} {s:Nat},cM (only e l) s=if s∈l then cM e s else none
 | [],s=>by simp [only,cM]
 | t::l,s=>by
  unfold only;rw [List.filterMap_cons];cases hv:cM e t with
  | none =>
   simp only [Option.map_none];rw [show List.filterMap (fun s=>(cM e s).map fun v=>(s,some v)) l=only e l from rfl,rL]
   by_cases h1:s∈l
   ·simp [h1]
   ·by_cases h2:s=t
    ·subst h2; simp [h1,hv]
    ·simp [h1,h2]
  | some v =>
   simp only [Option.map_some];rw [du,show List.filterMap (fun s=>(cM e s).map fun v=>(s,some v)) l=only e l from rfl,rL]
   by_cases h1:t=s
   ·subst h1; simp [hv]
   ·have h2:¬ s=t:=fun hh=>h1 hh.symm
    simp [h1,h2]
def wX {o:Oper} {t:Nat} (h:Operand.tmp t∈o.op.operands):t∈looks ops o:=by
 unfold looks;refine Xy _ (Yw.2 ⟨.tmp t,by simpa using h,rfl⟩)
def D5 {o:Oper} {e:Env} {kk:ZB->T}:tS P o (only e (looks ops o)) kk=tS P o e kk:=by
 refine we (fun x hx=>?_) kk;cases x <;> try rfl
 rename_i t;simp only [ev];rw [rL,Xb (wX hx)]
def Dy {e:Env} {a:Act} {l:List Nat} (hs:a.tmps.size=n.n) (hd:a.defers=n.d) (h:∀ s∈l,∀ v,cM e s=some v->a.tmps.getD s undef=v):gu n (only e l) a:=by
 refine ⟨hs,hd,fun s v hv=>?_⟩;rw [rL] at hv;split at hv
 ·rename_i hm; exact h s hm v hv
 ·cases hv
def M8 (P : Program) (n : Nd) (ops : Array Oper) (e : Env) (m : Made) (h : Hp) (i : Nat) (o : Oper) : Prop :=
  calm P o = true /\ ∃ v b, (∀ d, o.dst = some d -> d < n -> cM e d = some v) /\ Ad ops o e b /\
    ((b = false /\ v = undef) \/ (b = true /\ ((∀ (kk : ZB -> T) L K h', kk v L K h' -> tS P o e kk L K h') \/
      (∃ p l, (i, p, l) ∈ m /\ aJ h p 0 l /\ ∀ (kk : ZB -> T) L K h', aJ h' p 0 l -> kk v L K h' -> tS P o e kk L K h'))))
def yu (ops:Array Oper):List Nat->Prop
 | []=>True
 | i::D=>i∉D/\(∀ o,ops[i]?=some o->∀ j∈waits o,j∈D)/\yu ops D
structure qx (P:Program) (n:Nd) (ops:Array Oper) (e0:Env) (listed:Array Bool) (a:Act) (h:Hp) (D:List Nat) (e:Env) (m:Made):Prop where
 um:listed.size=ops.size
 size:a.tmps.size=n.n
 defers:a.defers=n.d
 lD:∀ i,listed[i]?=some true->i∈D
 dD:∀ i∈D,∃ o,ops[i]?=some o
 closed:yu ops D
 UC:∀ s v,cM e s=some v->(∀ j∈D,∀ o,ops[j]?=some o->listed[j]?=some false->o.dst≠some s)->a.tmps.getD s undef=v
 Nw:∀ i∈D,∀ o,ops[i]?=some o->listed[i]?=some false->M8 P n ops e m h i o
 fr:Fr (dstsOf ops) e0 e
theorem qQ:∀ {D:List Nat},yu ops D->∀ i∈D,∀ o,ops[i]?=some o->∀ j∈waits o,j∈D
 | i'::D,hc,i,hi,o,ho,j,hj=>by
  rcases Xq.1 hi with rfl | hi
  ·exact Xh _ (hc.2.1 o ho j hj)
  ·exact Xh _ (qQ hc.2.2 i hi o ho j hj)
theorem sB (listed:Array Bool):∀ {D:List Nat},yu ops D->(∀ i∈D,∃ o,ops[i]?=some o)->(∃ i∈D,listed[i]?=some false)->(∀ i∈D,listed[i]?=some true\/listed[i]?=some false) ->
  ∃ i∈D,listed[i]?=some false/\∀ o,ops[i]?=some o->∀ j∈waits o,listed[j]?=some true
 | i'::D,hc,hd,⟨i,hi,hf⟩,hall=>by
  by_cases hex:∃ i∈D,listed[i]?=some false
  ·obtain ⟨k,hk,h1,h2⟩:=sB listed hc.2.2 (fun i hi=>hd i (Xh _ hi)) hex (fun i hi=>hall i (Xh _ hi));exact ⟨k,Xh _ hk,h1,h2⟩
  ·have hi':i=i':=by
    rcases Xq.1 hi with h | h
    ·exact h
    ·exact (hex ⟨i,h,hf⟩).elim
   subst hi';refine ⟨i,aj,hf,fun o ho j hj=>?_⟩;have hjD:=hc.2.1 o ho j hj;rcases hall j (Xh _ hjD) with h | h
   ·exact h
   ·exact (hex ⟨j,hjD,h⟩).elim
def j0 {e:Env} {dst:Option Tmp} {v:ZB} {s:Nat} (hd:dst≠some s):cM (dV n e dst v) s=cM e s:=by
 cases dst with
 | none=>rfl
 | some d =>
  simp only [dV];cases Nat.blt d n with
  | false=>rfl
  | true=>simp only [cond_true,du]; rw [W6 (fun hh:d=s=>hd (by rw [hh]))]
def sJ {e:Env} {d:Nat} {v:ZB} (hd:d<n):cM (dV n e (some d) v) d=some v:=by
 have hb:Nat.blt d n=true:=by rw [Nat.blt_eq]; exact hd
 simp only [dV,hb,cond_true,du,if_true]
def HT {a:Act} {dst:Option Tmp} {v:ZB} {s:Nat} (hd:dst≠some s):(a.put dst v).tmps.getD s undef=a.tmps.getD s undef:=by
 cases dst with
 | none=>rfl
 | some d =>
  have hne:d≠s:=fun hh=>hd (by rw [hh])
  simp [Act.put,Array.getD_eq_getD_getElem?,Array.getElem?_setIfInBounds,hne]
def ub {a:Act} {d:Nat} {v:ZB} (hd:d<a.tmps.size):(a.put (some d) v).tmps.getD d undef=v:=by
 simp [Act.put,Array.getD_eq_getD_getElem?,Array.getElem?_setIfInBounds,hd]
def DT (a:Act) (dst:Option Tmp) (v:ZB):(a.put dst v).tmps.size=a.tmps.size:=by cases dst <;> simp [Act.put]
def put_defers (a:Act) (dst:Option Tmp) (v:ZB):(a.put dst v).defers=a.defers:=by cases dst <;> rfl
variable {e0:Env} {listed:Array Bool} {a:Act} {h:Hp} {D:List Nat} {e:Env} {m:Made}
def E6 {i:Nat} {o:Oper} (ho:ops[i]?=some o) {d:Nat} (hd:o.dst=some d):d∈dstsOf ops:=HL (j:=i) (by rw [ho]; exact hd)
def Fr.step {n:Nat} {l:List Nat} {e0 e e':Env} {o:Oper} {v:ZB} (h:Fr l e0 e) (he:∀ s,cM e' s=cM e s) (hd:∀ d,o.dst=some d->d∈l):Fr l e0 (Sx.dV n e' o.dst v) :=
 (h.trans (fun s _=>he s)).trans (Fr.dV n e' v hd)
def qx.vl (I:qx P n ops e0 listed a h D e m) {i:Nat} {o:Oper} (ho:ops[i]?=some o) (hn:listed[i]?≠some true):listed[i]?=some false:=by
 have hlt:i<ops.size:=by
  rcases XR i ops.size with h | h
  ·exact h
  ·rw [XY h] at ho; cases ho
 have hlt':i<listed.size:=by rw [I.um]; exact hlt
 rw [Yf hlt'] at hn ⊢;cases hb:listed[i] with
 | false=>rfl
 | true=>rw [hb] at hn; exact (hn rfl).elim
def qx.Ik (hok:ee P n ops=true) (I:qx P n ops e0 listed a h D e m) {i:Nat} {o:Oper} (ho:ops[i]?=some o) (hr:∀ j∈waits o,listed[j]?=some true)
  (hi:i∉D\/calm P o=true):∀ s∈looks ops o,∀ v,cM e s=some v->a.tmps.getD s undef=v:=by
 intro s hs v hv;refine I.UC s v hv ?_;intro j hj oj hoj hf hd;have hcj:=(I.Nw j hj oj hoj hf).1
 by_cases hij:i=j
 ·subst hij;rw [ho] at hoj; obtain rfl:=Xo hoj;exact F9 hok ho hd hcj hs
 ·rcases (nP hok ho hoj hij).1 s hd hs with h1 | ⟨_,h1⟩
  ·rw [hr j h1] at hf; cases hf
  ·rw [hcj] at h1; cases h1
def qx.exec (hok:ee P n ops=true) (I:qx P n ops e0 listed a h D e m) {i:Nat} {o:Oper} (ho:ops[i]?=some o) (hiD:i∈D) (hf:listed[i]?=some false) {v:ZB}
  (hv:∀ d,o.dst=some d->cM e d=some v) (hc:calm P o=true):qx P n ops e0 (listed.setIfInBounds i true) (a.put o.dst v) h D e m:=by
 have hlt:i<listed.size:=by
  rcases XR i listed.size with h | h
  ·exact h
  ·rw [XY h] at hf; cases hf
 have kG:∀ j,(listed.setIfInBounds i true)[j]?=if i=j then some true else listed[j]?:=by
  intro j;rw [Yh]
  by_cases hij:i=j
  ·subst hij; simp [hlt]
  ·simp [hij]
 refine ⟨by simp [I.um],by rw [DT,I.size],by rw [put_defers,I.defers],?_,I.dD,I.closed,?_,?_,I.fr⟩
 ·intro j hj;rw [kG] at hj
  by_cases hij:i=j
  ·subst hij; exact hiD
  ·rw [W6 hij] at hj; exact I.lD j hj
 ·intro s u hu hno
  by_cases hd:o.dst=some s
  ·rw [hd];rw [hv s hd] at hu;obtain rfl:=Xo hu;exact ub (by rw [I.size]; exact Nb hok ho hd)
  ·rw [HT hd];refine I.UC s u hu ?_;intro j hj oj hoj hf' hd'
   by_cases hij:i=j
   ·subst hij; rw [ho] at hoj; obtain rfl:=Xo hoj; exact hd hd'
   ·exact hno j hj oj hoj (by rw [kG,W6 hij]; exact hf') hd'
 ·intro j hj oj hoj hf';rw [kG] at hf'
  by_cases hij:i=j
  ·rw [Xb hij] at hf'; cases hf'
  ·rw [W6 hij] at hf'; exact I.Nw j hj oj hoj hf'
def M8.congr {e e':Env} {m m':Made} {h h':Hp} {i:Nat} {o:Oper} (hp:M8 P n ops e m h i o) (hl:∀ s∈looks ops o,cM e' s=cM e s) (hd:∀ d,o.dst=some d->cM e' d=cM e d)
  (hm:∀ p l,(i,p,l)∈m->aJ h p 0 l->(i,p,l)∈m'/\aJ h' p 0 l):M8 P n ops e' m' h' i o:=by
 obtain ⟨hc,v,b,h1,h2,h3⟩:=hp;have hx:∀ kk,tS P o e' kk=tS P o e kk:=fun kk=>we (fun x hx=>by
  cases x <;> try rfl
  exact hl _ (wX hx)) kk
 refine ⟨hc,v,b,fun d hd1 hd2=>by rw [hd d hd1]; exact h1 d hd1 hd2,h2.congr hl,?_⟩;rcases h3 with h3 | ⟨hb,h3 | ⟨p,l,h3,h4,h5⟩⟩
 ·exact .inl h3
 ·exact .inr ⟨hb,.inl fun kk L K h' hk=>by rw [hx]; exact h3 kk L K h' hk⟩
 ·obtain ⟨h6,h7⟩:=hm p l h3 h4;exact .inr ⟨hb,.inr ⟨p,l,h6,h7,fun kk L K h' hc hk=>by rw [hx]; exact h5 kk L K h' hc hk⟩⟩
def qx.ahead (hok:ee P n ops=true) (I:qx P n ops e0 listed a h D e m) {i:Nat} {o:Oper} (ho:ops[i]?=some o) (hiD:i∉D) (hw:∀ j∈waits o,j∈D) (hc:calm P o=true)
  {v:ZB} {e':Env} (he:∀ s,cM e' s=cM e s) {m':Made} (hm:∀ x∈m,x∈m')
  (hp:M8 P n ops (dV n e' o.dst v) m' h i o):qx P n ops e0 listed a h (i::D) (dV n e' o.dst v) m':=by
 have hfi:listed[i]?=some false:=I.vl ho (fun hh=>hiD (I.lD i hh));refine ⟨I.um,I.size,I.defers,fun j hj=>Xh _ (I.lD j hj),?_,⟨hiD,?_,I.closed⟩,?_,?_,I.fr.step he (fun d hd=>E6 ho hd)⟩
 ·intro j hj;rcases Xq.1 hj with rfl | hj
  ·exact ⟨o,ho⟩
  ·exact I.dD j hj
 ·intro o' ho' j hj;rw [ho] at ho'; obtain rfl:=Xo ho';exact hw j hj
 ·intro s u hu hno;have hd:o.dst≠some s:=hno i aj o ho hfi;rw [j0 hd,he] at hu;exact I.UC s u hu fun j hj oj hoj hf=>hno j (Xh _ hj) oj hoj hf
 ·intro j hj oj hoj hf;rcases Xq.1 hj with rfl | hj
  ·rw [ho] at hoj; obtain rfl:=Xo hoj; exact hp
  ·have hne:j≠i:=fun hh=>hiD (hh▸hj)
   have hpj:=I.Nw j hj oj hoj hf;refine hpj.congr ?_ ?_ (fun p l h1 h2=>⟨hm _ h1,h2⟩)
   ·intro s hs
    by_cases hd:o.dst=some s
    ·exfalso;rcases (nP hok hoj ho hne).1 s hd hs with h1 | ⟨_,h1⟩
     ·exact hiD (qQ I.closed j hj oj hoj i h1)
     ·rw [hc] at h1; cases h1
    ·rw [j0 hd,he]
   ·intro d hd;rw [j0 ((nP hok hoj ho hne).2 d hd hpj.1),he]
def qx.effect (hok:ee P n ops=true) (I:qx P n ops e0 listed a h D e m) {i:Nat} {o:Oper} (ho:ops[i]?=some o) (hiD:i∉D) (hr:∀ j∈waits o,listed[j]?=some true) (hc:calm P o=false)
  {v:ZB} {e':Env} (he:∀ s,cM e' s=cM e s) {h':Hp} (hst:∀ j p l,(j,p,l)∈m->aJ h p 0 l->j∉waits o->aJ h' p 0 l) :
  qx P n ops e0 (listed.setIfInBounds i true) (a.put o.dst v) h' (i::D) (dV n e' o.dst v) m:=by
 have hfi:listed[i]?=some false:=I.vl ho (fun hh=>hiD (I.lD i hh));have hlt:i<listed.size:=by
  rcases XR i listed.size with h | h
  ·exact h
  ·rw [XY h] at hfi; cases hfi
 have kG:∀ j,(listed.setIfInBounds i true)[j]?=if i=j then some true else listed[j]?:=by
  intro j;rw [Yh]
  by_cases hij:i=j
  ·subst hij; simp [hlt]
  ·simp [hij]
 refine ⟨by simp [I.um],by rw [DT,I.size],by rw [put_defers,I.defers],?_,?_,⟨hiD,?_,I.closed⟩,?_,?_,I.fr.step he (fun d hd=>E6 ho hd)⟩
 ·intro j hj;rw [kG] at hj
  by_cases hij:i=j
  ·subst hij; simp
  ·rw [W6 hij] at hj; exact Xh _ (I.lD j hj)
 ·intro j hj;rcases Xq.1 hj with rfl | hj
  ·exact ⟨o,ho⟩
  ·exact I.dD j hj
 ·intro o' ho' j hj;rw [ho] at ho'; obtain rfl:=Xo ho';exact I.lD j (hr j hj)
 ·intro s u hu hno
  by_cases hd:o.dst=some s
  ·rw [hd] at hu ⊢;have hdn:=Nb hok ho hd;rw [sJ hdn] at hu;obtain rfl:=Xo hu;exact ub (by rw [I.size]; exact hdn)
  ·rw [j0 hd,he] at hu;rw [HT hd];refine I.UC s u hu ?_;intro j hj oj hoj hf;have hne:i≠j:=fun hh=>hiD (hh▸hj)
   exact hno j (Xh _ hj) oj hoj (by rw [kG,W6 hne]; exact hf)
 ·intro j hj oj hoj hf;rw [kG] at hf
  by_cases hij:i=j
  ·rw [Xb hij] at hf; cases hf
  ·rw [W6 hij] at hf;rcases Xq.1 hj with hh | hj
   ·exact (hij hh.symm).elim
   ·have hpj:=I.Nw j hj oj hoj hf;have hnw:j∉waits o:=fun hh=>by rw [hr j hh] at hf; cases hf
    refine hpj.congr ?_ ?_ (fun p l h1 h2=>⟨h1,hst j p l h1 h2 hnw⟩)
    ·intro s hs
     by_cases hd:o.dst=some s
     ·exfalso;rcases (nP hok hoj ho (fun hh=>hij hh.symm)).1 s hd hs with h1 | ⟨h1,_⟩
      ·exact hiD (qQ I.closed j hj oj hoj i h1)
      ·exact hnw h1
     ·rw [j0 hd,he]
    ·intro d hd;rw [j0 ((nP hok hoj ho (fun hh=>hij hh.symm)).2 d hd hpj.1),he]
def nY {listed:Array Bool} (hs:listed.size=ops.size) {i:Nat}:i∈Region.ready .any ops listed↔∃ o,ops[i]?=some o/\listed[i]?=some false/\∀ j∈waits o,listed[j]?=some true:=by
 unfold Region.ready;rw [List.mem_filter,YM];constructor
 ·rintro ⟨hlt,hh⟩;rw [Xz] at hh;obtain ⟨h1,h2⟩:=hh;have ho:ops[i]?=some ops[i]:=Yf hlt;rw [ho] at h2;refine ⟨ops[i],ho,?_,?_⟩
  ·have hlt':i<listed.size:=by rw [hs]; exact hlt
   rw [Yf hlt'];simp only [Bool.not_eq_true',Array.getD_eq_getD_getElem?,Array.getElem?_eq_getElem hlt',Option.getD_some] at h1;rw [h1]
  ·intro j hj;simp only [Option.map_some,Option.getD_some] at h2;unfold waits at hj;obtain ⟨ed,hed,rfl⟩:=Xd.1 hj;obtain ⟨hed1,hed2⟩:=List.mem_filter.1 hed;have h3:=(Array.all_eq_true_iff_forall_mem.1 h2) ed (by simpa using hed1);rw [hed2] at h3;simp only [Bool.not_true,Bool.false_or,Array.getD_eq_getD_getElem?] at h3;cases hx:listed[ed.on]? with
   | none=>rw [hx] at h3; cases h3
   | some b=>rw [hx] at h3; simp at h3; rw [h3]
 ·rintro ⟨o,ho,h1,h2⟩;have hlt:i<ops.size:=by
   rcases XR i ops.size with h | h
   ·exact h
   ·rw [XY h] at ho; cases ho
  refine ⟨hlt,?_⟩;rw [Xz];refine ⟨by simp [Array.getD_eq_getD_getElem?,h1],?_⟩;rw [ho];simp only [Option.map_some,Option.getD_some];refine Array.all_eq_true_iff_forall_mem.2 fun ed hed=>?_
  cases hb:Region.binds .any ed with
  | false=>rfl
  | true =>
   have:=h2 ed.on (Xd.2 ⟨ed,List.mem_filter.2 ⟨by simpa using hed,hb⟩,rfl⟩)
   simp [Array.getD_eq_getD_getElem?,this]
theorem fB {D:List Nat} {c:Bool} {p:Nat × Oper}:∀ {l:List (Nat × Oper)},p∈cU P D c l↔p∈l/\wW D p.1 p.2=true/\calm P p.2=c
 | []=>by simp [cU]
 | q::l=>by
  unfold cU;cases hb:wW D q.1 q.2 && (calm P q.2==c) with
  | true =>
   rw [Xz] at hb;simp only [List.mem_cons,fB (l:=l)];constructor
   ·rintro (rfl | h)
    ·exact ⟨.inl rfl,hb.1,by simpa using hb.2⟩
    ·exact ⟨.inr h.1,h.2⟩
   ·rintro ⟨rfl | h,h2⟩
    ·exact .inl rfl
    ·exact .inr ⟨h,h2⟩
  | false =>
   simp only [List.mem_cons,fB (l:=l)];constructor
   ·rintro ⟨h1,h2⟩; exact ⟨.inr h1,h2⟩
   ·rintro ⟨rfl | h,h2⟩
    ·rw [h2.1,h2.2] at hb; simp at hb
    ·exact ⟨h,h2⟩
def tf {D:List Nat} {i:Nat} {o:Oper}:wW D i o=true↔i∉D/\∀ j∈waits o,j∈D:=by
 unfold wW;rw [Xz];constructor
 ·rintro ⟨h1,h2⟩;refine ⟨fun hh=>?_,fun j hj=>gi.1 (XA.1 h2 j hj)⟩;rw [gi.2 hh] at h1; cases h1
 ·rintro ⟨h1,h2⟩;refine ⟨?_,XA.2 fun j hj=>gi.2 (h2 j hj)⟩;cases hb:r5 i D with
  | false=>rfl
  | true=>exact (h1 (gi.1 hb)).elim
def P6 {L:Lp} {K:ZB->Hp->Prop} {h:Hp} {o:Oper} {m:Made} {t:T} (ht:uu (j1 o m) t L K h):t L K h/\∀ j p l,(j,p,l)∈m->j∉waits o->aJ h p 0 l:=by
 have h1:∀ l:List (Zx × List ZB),uu l t L K h->T.C6 h l/\t L K h:=by
  intro l hl;cases l with
  | nil=>exact ⟨trivial,hl⟩
  | cons p l=>exact hl
 obtain ⟨h2,h3⟩:=h1 _ ht;refine ⟨h3,?_⟩;clear ht h1 h3
 induction m with
 | nil=>intro j p l hj; cases hj
 | cons x m ih =>
  obtain ⟨i,q,lq⟩:=x;intro j p l hj hnw;unfold j1 at h2;cases hb:r5 i (waits o) with
  | true =>
   rw [hb] at h2;rcases Xq.1 hj with hh | hj
   ·simp only [Prod.mk.injEq] at hh;obtain ⟨rfl,rfl,rfl⟩:=hh;exact (hnw (gi.1 hb)).elim
   ·exact ih h2 j p l hj hnw
  | false =>
   rw [hb] at h2;simp only [cond_false] at h2;rcases Xq.1 hj with hh | hj
   ·simp only [Prod.mk.injEq] at hh;obtain ⟨rfl,rfl,rfl⟩:=hh;exact h2.1
   ·exact ih h2.2 j p l hj hnw
theorem PA {L:Lp} {K:ZB->Hp->Prop} {h:Hp}:∀ {ts:List T} {t:T},t∈ts->SH ts L K h->t L K h
 | [],t,ht,_=>by cases ht
 | [u],t,ht,hx=>by simp at ht; subst ht; exact hx
 | u::u2::ts,t,ht,hx=>by
  have:∀ ts:List T,t∈ts->T.every L K h ts->t L K h:=by
   intro ts
   induction ts with
   | nil=>intro hh; cases hh
   | cons v ts ih =>
    intro hh hx;rcases Xq.1 hh with rfl | hh
    ·exact hx.1
    ·exact ih hh hx.2
  exact this _ ht hx
def left (listed:Array Bool):Nat:=(listed.toList.filter fun b=>!b).length
theorem By:∀ (l:List Bool) (i:Nat),l[i]?=some false->((l.set i true).filter fun b=>!b).length+1=(l.filter fun b=>!b).length
 | [],i,h=>by simp at h
 | b::l,0,h=>by simp at h; subst h; simp
 | b::l,i+1,h=>by
  simp at h
  have:=By l i h
  cases b
  ·simp only [List.set_cons_succ,List.filter_cons,Bool.not_false,if_true,List.length_cons]; omega
  ·simp only [List.set_cons_succ,List.filter_cons,Bool.not_true,Bool.false_eq_true,if_false]; exact this
def DE {listed:Array Bool} {i:Nat} (hf:listed[i]?=some false):left (listed.setIfInBounds i true)+1=left listed:=by
 unfold left;rw [Array.toList_setIfInBounds];exact By _ i (by simpa using hf)
def J4 {listed:Array Bool} (h0:left listed=0) (i:Nat):listed[i]?≠some false:=by
 intro hf
 have:=DE hf
 omega
def G6 (v:ZB) (h:Hp):ZB->T:=fun v' _ _ h'=>v'=v/\h'=h
def Pj (hok:ee P n ops=true) {L:Lp} {K:ZB->Hp->Prop} {k:Env->T} {Q:Exit->Act->World->Prop} {w0:World} {i:Nat}
  {listed:Array Bool} {a:Act} {w:World} {R:Act->World->Prop} (hi:i∈Region.ready .any ops listed) (hs:dG w0 w)
  (next:∀ a' w' D e m fu,dG w0 w'->qx P n ops e0 (listed.setIfInBounds i true) a' w'.heap D e m->fR P n ops fu D e m k L K w'.heap->R a' w') :
  ∀ fu D e m,qx P n ops e0 listed a w.heap D e m->fR P n ops fu D e m k L K w.heap->wpOp P ops Q i R a w:=by
 intro fu
 induction fu with
 | zero=>intro D e m I ht; exact ht.elim
 | succ fu ih =>
  intro D e m I ht;obtain ⟨o,ho,hf,hr⟩:=(nY I.um).1 hi
  by_cases hiD:i∈D
  ·
   obtain ⟨hc,v,b,hv,hg,hx⟩:=I.Nw i hiD o ho hf;have hlk:=I.Ik hok ho hr (.inr hc);have hwant:=hg.wanted hlk;have hv':∀ d,o.dst=some d->cM e d=some v:=fun d hd=>hv d hd (Nb hok ho hd)
   unfold wpOp;rw [ho];simp only;have I':=I.exec hok ho hiD hf hv' hc;rcases hx with ⟨rfl,rfl⟩ | ⟨rfl,hx⟩
   ·rw [W6 (by simp [hwant])];exact next _ _ D e m (fu+1) hs I' ht
   ·rw [Xb hwant];refine .inl ?_;have hop:VB P o a.eval w.heap (fun v' h'=>v'=v/\h'=w.heap):=by
     have hxx:tS P o e (G6 v w.heap) [] (fun _ _=>True) w.heap:=by
      rcases hx with hx | ⟨p,l,_,hcl,hx⟩
      ·exact hx (G6 v w.heap) [] (fun _ _=>True) w.heap ⟨rfl,rfl⟩
      ·exact hx (G6 v w.heap) [] (fun _ _=>True) w.heap hcl ⟨rfl,rfl⟩
     rw [<- D5 (ops:=ops)] at hxx;exact Gp (Dy I.size I.defers hlk) hxx
    refine wT hop ?_;rintro v' w' hs' ⟨rfl,hh⟩;refine next _ _ D e m (fu+1) (hs.trans hs') (by rw [hh]; exact I') (by rw [hh]; exact ht)
  ·unfold fR at ht;cases hcalm:cU P D true (idx 0 ops.toList) with
   | cons q qs =>
    obtain ⟨j,oj⟩:=q;simp only [hcalm] at ht;have hq:(j,oj)∈cU P D true (idx 0 ops.toList):=by rw [hcalm]; simp
    obtain ⟨hq1,hq2,hq3⟩:=fB.1 hq;have hoj:=iE.1 hq1;obtain ⟨hjD,hjw⟩:=tf.1 hq2;obtain ⟨e',b,he,hg,hx⟩:=yO ht;have hg':∀ u,Ad ops oj (dV n e' oj.dst u) b:=fun u=>hg.congr fun s hs=>by
     by_cases hd:oj.dst=some s
     ·exact (F9 hok hoj hd hq3 hs).elim
     ·rw [j0 hd,he]
    have hself:∀ u d,oj.dst=some d->d<n->cM (dV n e' oj.dst u) d=some u:=fun u d hd hdn=>by rw [hd]; exact sJ hdn
    have hxe:∀ u kk,tS P oj (dV n e' oj.dst u) kk=tS P oj e' kk:=fun u kk=>we (fun x hx=>by
     cases x <;> try rfl
     rename_i s;simp only [ev];exact j0 (fun hd=>F9 hok hoj hd hq3 (wX hx))) kk
    rcases hx with ⟨rfl,hx⟩ | ⟨rfl,hx⟩
    ·
     unfold calm at hq3;cases hpure:ri P oj with
     | true =>
      have hx':tS P oj e' (fun v=>fR P n ops fu (j::D) (dV n e' oj.dst v) m k) L K w.heap:=by
       have hnl:∀ t x,oj.op≠.load t x:=by
        intro t x hh;unfold ri at hpure;rw [hh] at hpure; cases hpure
       obtain ⟨dst,op,type,pos,after,guard⟩:=oj;cases op <;> first | exact hx | exact (hnl _ _ rfl).elim
      obtain ⟨v,hk,hall⟩:=Ml hpure hx';refine ih (j::D) _ m (I.ahead hok hoj hjD hjw (by unfold calm; rw [hpure]; rfl) he (fun x hx=>hx) ?_) hk;exact ⟨by unfold calm; rw [hpure]; rfl,v,true,hself v,hg' v,.inr ⟨rfl,.inl fun kk L K h' hkk=>by rw [hxe]; exact hall kk L K h' hkk⟩⟩
     | false =>
      rw [hpure,YJ] at hq3;obtain ⟨t,x,hop⟩:∃ t x,oj.op=.load t x:=by
       unfold zR at hq3;cases hop:oj.op <;> rw [hop] at hq3 <;> first | (cases hq3; done) | exact ⟨_,_,rfl⟩
      have hcj:calm P oj=true:=by unfold calm zR; rw [hop]; simp
      simp only [hop] at hx;unfold qH at hx;obtain ⟨u,hu,hx⟩:=bz hx;have hx2:qH P t x e' (fun a l v=>fR P n ops fu (j::D) (dV n e' oj.dst v) ((j,a,l)::m) k) L K w.heap:=by
       unfold qH bU; simp only [hu]; exact hx
      cases hb:cB P t with
      | none=>cases u <;> simp only [hb] at hx <;> exact hx.elim
      | some bb =>
       obtain ⟨pp,rfl⟩:∃ pp,u=.pointer pp:=by
        cases u <;> cases bb <;> simp only [hb] at hx <;> first | exact hx.elim | exact ⟨_,rfl⟩
       have hx3:(match bb with
        | true=>(bif (eU P 9 t).length==P.cellsOf t then T.bF pp fun a=>T.ah a (eU P 9 t) (jj _ fun l=>fR P n ops fu (j::D) (dV n e' oj.dst (.agg l.toArray)) ((j,a,l)::m) k) else T.fail)
        | false=>T.bF pp fun a=>T.ah a (cz P t).2 (jj _ fun l=>fR P n ops fu (j::D) (dV n e' oj.dst (l.headD undef)) ((j,a,l)::m) k)) L K w.heap:=by
        cases bb <;> simp only [hb] at hx <;> exact hx
       have hfin:∃ p l v,pp=some p/\aJ w.heap p 0 l/\fR P n ops fu (j::D) (dV n e' oj.dst v) ((j,p,l)::m) k L K w.heap /\
         ∀ (kk:ZB->T) L K h',aJ h' p 0 l->kk v L K h'->tS P oj e' kk L K h':=by
        have hxop:∀ kk,tS P oj e' kk=qH P t x e' (fun _ _ v=>kk v):=by
         intro kk;unfold tS;rw [hop] <;> rfl
        cases bb with
        | true =>
         simp only at hx3;rcases fH hx3 with ⟨hl,hx3⟩ | ⟨hl,hx3⟩
         ·obtain ⟨p,rfl,hx3⟩:=fW hx3;obtain ⟨y,hc,hx3⟩:=hx3;rw [dE] at hx3;refine ⟨p,_,_,rfl,hc,hx3,fun kk L K h' hc' hkk=>?_⟩;rw [hxop];unfold qH bU;simp only [hu,hb,hl];exact ⟨y,hc',by rw [dE]; exact hkk⟩
         ·exact hx3.elim
        | false =>
         simp only at hx3;obtain ⟨p,rfl,hx3⟩:=fW hx3;obtain ⟨y,hc,hx3⟩:=hx3;rw [dE] at hx3;refine ⟨p,_,_,rfl,hc,hx3,fun kk L K h' hc' hkk=>?_⟩;rw [hxop];unfold qH bU;simp only [hu,hb];exact ⟨y,hc',by rw [dE]; exact hkk⟩
       obtain ⟨p,l,v,rfl,hc,hk,hall⟩:=hfin;refine ih (j::D) _ ((j,p,l)::m) (I.ahead hok hoj hjD hjw hcj he (fun x hx=>Xh _ hx) ?_) hk;exact ⟨hcj,v,true,hself v,hg' v,.inr ⟨rfl,.inr ⟨p,l,aj,hc,fun kk L K h' hc' hkk=>by rw [hxe]; exact hall kk L K h' hc' hkk⟩⟩⟩
    ·
     refine ih (j::D) _ m (I.ahead hok hoj hjD hjw hq3 he (fun x hx=>hx) ?_) hx;exact ⟨hq3,undef,false,hself undef,hg' undef,.inl ⟨rfl,rfl⟩⟩
   | nil =>
    simp only [hcalm] at ht;have hjw:∀ j∈waits o,j∈D:=fun j hj=>I.lD j (hr j hj)
    have hrx:wW D i o=true:=tf.2 ⟨hiD,hjw⟩;have hc:calm P o=false:=by
     cases hc:calm P o with
     | false=>rfl
     | true =>
      have:(i,o)∈cU P D true (idx 0 ops.toList):=fB.2 ⟨iE.2 ho,hrx,hc⟩
      rw [hcalm] at this; cases this
    have hmem:(i,o)∈cU P D false (idx 0 ops.toList):=fB.2 ⟨iE.2 ho,hrx,hc⟩;cases heff:cU P D false (idx 0 ops.toList) with
    | nil=>rw [heff] at hmem; cases hmem
    | cons q qs =>
     simp only [heff] at ht;rw [heff] at hmem;have hti:=PA (Xd.2 ⟨(i,o),hmem,rfl⟩) ht;simp only at hti;obtain ⟨e',b,he,hg,hx⟩:=yO hti;have hlk:=I.Ik hok ho hr (.inl hiD);have hwant:=hg.wanted hlk;unfold wpOp;rw [ho];simp only;rcases hx with ⟨rfl,hx⟩ | ⟨rfl,hx⟩
     ·rw [Xb hwant];refine .inl ?_;rw [<- D5 (ops:=ops)] at hx;have hlk':∀ s∈looks ops o,∀ v,cM e' s=some v->a.tmps.getD s undef=v:=fun s hs v hv=>hlk s hs v (by rw [<- he]; exact hv)
      refine wT (Gp (Dy I.size I.defers hlk') hx) ?_;intro v w' hs' hst;obtain ⟨hst1,hst2⟩:=P6 hst;exact next _ _ (i::D) _ m fu (hs.trans hs') (I.effect hok ho hiD hr hc he (fun j p l h1 _ h3=>hst2 j p l h1 h3)) hst1
     ·rw [W6 (by simp [hwant])];exact next _ _ (i::D) _ m fu hs (I.effect hok ho hiD hr hc he (fun j p l _ h2 _=>h2)) hx
def KS (hok:ee P n ops=true) {L:Lp} {K:ZB->Hp->Prop} {k:Env->T} {Q:Exit->Act->Hp->Prop} {w0:World}
  (hk:∀ e a h,k e L K h->gu n e a->Fr (dstsOf ops) e0 e->Q .normal a h):∀ (fuel:Nat) (listed:Array Bool) (a:Act) (w:World) (D:List Nat) (e:Env) (m:Made) (fu:Nat),left listed<=fuel->dG w0 w ->
   qx P n ops e0 listed a w.heap D e m->fR P n ops fu D e m k L K w.heap->wpAny P .any ops (VC w0 Q) fuel listed a w:=by
 have fin:∀ (listed:Array Bool) (a:Act) (w:World),dG w0 w->Region.ready .any ops listed=[]->∀ fu D e m,qx P n ops e0 listed a w.heap D e m->fR P n ops fu D e m k L K w.heap->VC w0 Q .normal a w:=by
  intro listed a w hs hr fu D e m I ht;have hall:∀ i∈D,listed[i]?=some true\/listed[i]?=some false:=by
   intro i hi;obtain ⟨o,ho⟩:=I.dD i hi
   by_cases h1:listed[i]?=some true
   ·exact .inl h1
   ·exact .inr (I.vl ho h1)
  have hdone:∀ i∈D,listed[i]?=some true:=by
   intro i hi;rcases hall i hi with h1 | h1
   ·exact h1
   ·obtain ⟨j,hj,h2,h3⟩:=sB listed I.closed I.dD ⟨i,hi,h1⟩ hall;obtain ⟨o,ho⟩:=I.dD j hj
    have:j∈Region.ready .any ops listed:=(nY I.um).2 ⟨o,ho,h2,h3 o ho⟩
    rw [hr] at this; cases this
  have hno:∀ c,cU P D c (idx 0 ops.toList)=[]:=by
   intro c;cases hx:cU P D c (idx 0 ops.toList) with
   | nil=>rfl
   | cons q qs =>
    obtain ⟨i,o⟩:=q;have hq:(i,o)∈cU P D c (idx 0 ops.toList):=by rw [hx]; simp
    obtain ⟨hq1,hq2,_⟩:=fB.1 hq;have ho:=iE.1 hq1;obtain ⟨hiD,hw⟩:=tf.1 hq2
    have:i∈Region.ready .any ops listed:=(nY I.um).2 ⟨o,ho,I.vl ho (fun hh=>hiD (I.lD i hh)),fun j hj=>hdone j (hw j hj)⟩
    rw [hr] at this; cases this
  cases fu with
  | zero=>exact ht.elim
  | succ fu =>
   unfold fR at ht;simp only [hno] at ht;refine ⟨hs,hk e a w.heap ht ⟨I.size,I.defers,fun s v hv=>I.UC s v hv ?_⟩ I.fr⟩;intro j hj o ho hf;rw [hdone j hj] at hf; cases hf
 intro fuel
 induction fuel with
 | zero =>
  intro listed a w D e m fu hl hs I ht;have hr:Region.ready .any ops listed=[]:=by
   cases hx:Region.ready .any ops listed with
   | nil=>rfl
   | cons i l =>
    have:i∈Region.ready .any ops listed:=by rw [hx]; simp
    obtain ⟨o,ho,hf,_⟩:=(nY I.um).1 this;exact (J4 ad i hf).elim
  exact ⟨hr,fin listed a w hs hr fu D e m I ht⟩
 | succ fuel ih =>
  intro listed a w D e m fu hl hs I ht;refine ⟨fun hr=>fin listed a w hs hr fu D e m I ht,fun i hi=>?_⟩;obtain ⟨o,ho,hf,_⟩:=(nY I.um).1 hi;refine Pj hok hi hs ?_ fu D e m I ht;intro a' w' D' e' m' fu' hs' I' ht';exact ih _ a' w' D' e' m' fu' (by have:=DE hf; omega) hs' I' ht'
def Wm (hm:P.follows .mixedOrders=true):Wk P n:=by
 intro id ops e k L K Q a h hk ht g w0 w hs hw;subst hw;unfold uH at ht;cases hok:ee P n ops with
 | false=>simp only [hok] at ht; exact ht.elim
 | true =>
  simp only [hok] at ht;have hnone:∀ (l:Array Bool) (i:Nat),l=Array.replicate ops.size false->l[i]?≠some true:=by
   intro l i hl hh;subst hl;simp [Array.getElem?_replicate] at hh
  refine wp_region_any hm (KS (e0:=e) hok hk ops.size _ a { w with drawn:=w.drawn+1 } [] e [] (ops.size+1) ?_ ⟨hs.os,hs.tape,hs.output⟩ ?_ ht)
  ·unfold left;refine XV (Yo _ _) ?_
   simp
  ·exact ⟨aj,g.size,g.defers,fun i hi=>(hnone _ i rfl hi).elim,fun i hi=>(by cases hi),trivial,fun s v hv _=>g.get s v hv,fun i hi=>(by cases hi),Fr.refl _ _⟩
end draws
end Go.Sx
