/- Part of the framework. No condition. -/
import Derived.Test.YtfkjiiapldkoeaaGreatDoorSxM
import Derived.Orders
set_option linter.all false
set_option maxHeartbeats 4000000
namespace Go.Sx
section congr
variable {P:Program}
def bC {e e':Env} {x:Operand} (h:ev e x=ev e' x) (k:XB->T):bP e x k=bP e' x k:=by
 unfold bP; rw [h]
theorem ew {e e':Env}:∀ {xs:List Operand},(∀ x∈xs,ev e x=ev e' x)->∀ (k:List XB->T),iN e xs k=iN e' xs k
 | [],_,k=>rfl
 | x::xs,h,k=>by
  simp only [iN];rw [bC (h x aj)]
  congr 1
  funext v
  exact ew (fun x hx=>h x (by simp [hx])) _
def uZ {o:Oper} {e e':Env} (h:∀ x∈o.op.operands,ev e x=ev e' x) (kk:XB->T):wR P o e kk=wR P o e' kk:=by
 obtain ⟨dst,op,type,pos,after,guard⟩:=o;cases op <;> simp only [Op.operands] at h <;> simp only [wR]
 case pick c x y =>
  rw [bC (h c aj)]
  congr 1; funext v
  cases v <;> first | rfl | (rw [bC (h x aj),bC (h y aj)])
 case build t ps=>rw [ew (fun x hx=>h x (by simpa using hx))]
 case buildSlice t l ps=>rw [ew (fun x hx=>h x (by simpa using hx))]
 case store t x y =>
  rw [bC (h x aj)]
  congr 1; funext v
  rw [bC (h y aj)]
 case binOp op t x y yt =>
  rw [bC (h x aj)]
  congr 1; funext v
  rw [bC (h y aj)]
 case makeFunc fn fi ca =>
  rw [ew (fun x hx=>h x (by simp at hx ⊢; exact .inl hx))]
  congr 1; funext v
  rw [ew (fun x hx=>h x (by simp at hx ⊢; exact .inr hx))]
 case makeMap t r=>cases r <;> rfl
 case makeSlice t x y =>
  rw [bC (h x aj)]
  congr 1; funext v
  rw [bC (h y aj)]
 case slice t x lo hi mx =>
  rw [bC (h x aj)]
  congr 1; funext v
  rw [ew (fun y hy=>h y (by
   simp only [List.mem_append,Option.mem_toList] at hy;simp only [Array.mem_append,Array.mem_singleton,Option.mem_toArray];rcases hy with (hy | hy) | hy
   ·exact .inl (.inl (.inr hy))
   ·exact .inl (.inr hy)
   ·exact .inr hy))]
 case indexAddr t x y =>
  rw [bC (h x aj)]
  congr 1; funext v
  rw [bC (h y aj)]
 case index t x y =>
  rw [bC (h x aj)]
  congr 1; funext v
  rw [bC (h y aj)]
 case lookup t x y ok =>
  rw [bC (h x aj)]
  congr 1; funext v
  rw [bC (h y aj)]
 case mapUpdate t x y z =>
  rw [bC (h x aj)]
  congr 1; funext v
  rw [bC (h y aj)]
  congr 1; funext v
  rw [bC (h z aj)]
 case insert t x y z =>
  rw [bC (h x aj)]
  congr 1; funext v
  rw [bC (h y aj)]
  congr 1; funext v
  rw [bC (h z aj)]
 case mapEntry t x y =>
  rw [bC (h x aj)]
  congr 1; funext v
  rw [bC (h y aj)]
 case entryStore t x y z =>
  rw [bC (h x aj)]
  congr 1; funext v
  rw [bC (h y aj)]
  congr 1; funext v
  rw [bC (h z aj)]
 case call c =>
  cases hc:c.callee with
  | builtin b =>
   simp only [hc];rw [ew (fun x hx=>h x (by simp [Call.operands,hc]; simpa using hx))]
  | invoke r m=>simp only [hc]
  | value f =>
   simp only [hc];cases HG f
   ·simp only;rw [bC (h f (by simp [Call.operands,hc]))]
    congr 1; funext v
    rw [ew (xs:=c.args.toList) (fun x hx=>h x (by simp [Call.operands,hc]; right; simpa using hx))]
   ·simp only;rw [bC (h f (by simp [Call.operands,hc]))]
    congr 1; funext v
    rw [ew (xs:=c.args.toList) (fun x hx=>h x (by simp [Call.operands,hc]; right; simpa using hx))]
 all_goals first | rfl | exact bC (h _ aj) _
end congr
section pures
variable {P:Program} {L:Lp} {K:XB->Hp->Prop} {h:Hp}
def dQ (F:(XB->T)->T) (kk:XB->T) (L:Lp) (K:XB->Hp->Prop) (h:Hp):Prop :=
 ∃ v,kk v L K h/\∀ (kk':XB->T) L' K' h',kk' v L' K' h'->F kk' L' K' h'
def dm {e:Env} {x:Operand} {F:(XB->T)->XB->T} {kk:XB->T} (hF:∀ v,F kk v L K h->dQ (fun kk=>F kk v) kk L K h)
  (ht:bP e x (F kk) L K h):dQ (fun kk=>bP e x (F kk)) kk L K h:=by
 obtain ⟨v,hv,ht⟩:=bw ht;obtain ⟨u,hk,hall⟩:=hF v ht;refine ⟨u,hk,fun kk' L' K' h' hx=>?_⟩;unfold bP;simp only [hv];exact hall kk' L' K' h' hx
theorem nt {e:Env}:∀ {xs:List Operand} {F:(XB->T)->List XB->T} {kk:XB->T},(∀ v,F kk v L K h->dQ (fun kk=>F kk v) kk L K h) ->
  iN e xs (F kk) L K h->dQ (fun kk=>iN e xs (F kk)) kk L K h
 | [],F,kk,hF,ht=>hF [] ht
 | x::xs,F,kk,hF,ht=>by
  refine dm (F:=fun kk v=>iN e xs fun l=>F kk (v::l)) ?_ ht;intro v ht;exact nt (F:=fun kk l=>F kk (v::l)) (fun l hl=>hF (v::l) hl) ht
def cD {kk:XB->T} {v:XB} (ht:kk v L K h):dQ (fun kk=>kk v) kk L K h:=⟨v,ht,fun _ _ _ _ hx=>hx⟩
def oa {p:Prop} {F:(XB->T)->T} {kk:XB->T} (hF:F kk L K h->dQ F kk L K h) (ht:T.need p (F kk) L K h):dQ (fun kk=>T.need p (F kk)) kk L K h:=by
 obtain ⟨hp,ht⟩:=ht;obtain ⟨v,hk,hall⟩:=hF ht;exact ⟨v,hk,fun kk' L' K' h' hx=>⟨hp,hall kk' L' K' h' hx⟩⟩
def yF {q:Option XC} {F:(XB->T)->XC->T} {kk:XB->T} (hF:∀ a,F kk a L K h->dQ (fun kk=>F kk a) kk L K h) (ht:T.aA q (F kk) L K h) :
  dQ (fun kk=>T.aA q (F kk)) kk L K h:=by
 obtain ⟨a,rfl,ht⟩:=fP ht;obtain ⟨v,hk,hall⟩:=hF a ht;exact ⟨v,hk,fun kk' L' K' h' hx=>hall kk' L' K' h' hx⟩
def qK {b:Bool} {F G:(XB->T)->T} {kk:XB->T} (hF:F kk L K h->dQ F kk L K h) (hG:G kk L K h->dQ G kk L K h) (ht:cond b (F kk) (G kk) L K h) :
  dQ (fun kk=>cond b (F kk) (G kk)) kk L K h:=by
 cases b
 ·exact hG ht
 ·exact hF ht
def tP {op:BinOp} {b:Bool} {kk:XB->T} (ht:asked op b kk T.fail L K h):dQ (fun kk=>asked op b kk T.fail) kk L K h:=by
 cases op <;> first | exact cD ht | exact ht.elim
def Kq {op:BinOp} {k:IntKind} {m n:Int} {kk:XB->T} (ht:IS op k m n kk L K h):dQ (fun kk=>IS op k m n kk) kk L K h:=by
 cases op <;> first
  | exact ht.elim
  | exact cD ht
  | exact oa (F:=fun kk=>kk _) cD ht
def Fq {op:BinOp} {k:IntKind} {m n:Int} {kk:XB->T} (ht:xG op k m n kk L K h):dQ (fun kk=>xG op k m n kk) kk L K h:=by
 cases op <;> first
  | exact ht.elim
  | exact oa (F:=fun kk=>kk _) cD ht
def KC {op:BinOp} {m n:XA} {kk:XB->T} (ht:IJ op m n kk L K h):dQ (fun kk=>IJ op m n kk) kk L K h:=by
 cases op <;> first
  | exact ht.elim
  | exact cD ht
  | exact oa (F:=fun kk=>kk _) cD ht
def Hr {op:BinOp} {t:TypeId} {a b:XB} {kk:XB->T} (ht:BE P op t a b kk L K h):dQ (fun kk=>BE P op t a b kk) kk L K h:=by
 unfold BE at ht ⊢;cases a <;> cases b <;> first | exact ht.elim | skip
 case bool.bool m n =>
  generalize P.underlying t=ud at ht ⊢;cases ud with
  | none=>exact ht.elim
  | some d=>cases d <;> first | exact ht.elim | exact tP ht
 case int.int k m k' n =>
  simp only at ht ⊢;cases hs:nN op with
  | true=>simp only [hs] at ht ⊢; exact Fq ht
  | false =>
   simp only [hs] at ht ⊢
   by_cases hk:k=k'
   ·subst hk;simp only [decide_true] at ht ⊢;exact Kq ht
   ·simp only [hk,decide_false] at ht;exact ht.elim
 case string.string m n=>exact KC ht
 case pointer.pointer p q =>
  generalize P.underlying t=ud at ht ⊢;cases ud with
  | none=>exact ht.elim
  | some d=>cases d <;> first | exact ht.elim | exact tP ht
 case slice.slice p l c q l' c' =>
  generalize P.underlying t=ud at ht ⊢;cases ud with
  | none=>exact ht.elim
  | some d=>cases d <;> first | exact ht.elim | exact tP ht
 case map.map p q =>
  generalize P.underlying t=ud at ht ⊢;cases ud with
  | none=>exact ht.elim
  | some d=>cases d <;> first | exact ht.elim | exact tP ht
def LI {op:UnOp} {a:XB} {kk:XB->T} (ht:Ma op a kk L K h):dQ (fun kk=>Ma op a kk) kk L K h:=by
 cases op <;> cases a <;> first | exact ht.elim | exact cD ht
def GI {t : TypeId} {cs : List XB} {off : Nat} {kk : XB -> T} (ht : xC P t cs off kk L K h) : dQ (fun kk => xC P t cs off kk) kk L K h := by
  unfold xC at ht ⊢;generalize P.underlying t = ud at ht ⊢;cases ud with
  | none => exact ht.elim
  | some d =>
    cases d <;> first
      | exact cD ht
      | (cases hv : cs[off]? with
         | none => simp only [hv] at ht; exact ht.elim
         | some v => simp only [hv] at ht ⊢; exact cD ht)
def Fz {t:TypeId} {a:XB} {lo hi:Option XB} {kk:XB->T} (hp:(match P.underlying t with
  | some .string=>true
  | some (.slice _)=>true
  | _=>false)=true) (ht:kJ P t a lo hi none kk L K h):dQ (fun kk=>kJ P t a lo hi none kk) kk L K h:=by
 unfold kJ at ht ⊢;cases hint:iS lo && iS hi && iS none with
 | false=>simp only [hint] at ht; exact ht.elim
 | true =>
  simp only [hint] at ht ⊢;generalize P.underlying t=ud at ht hp ⊢;cases ud with
  | none=>cases hp
  | some d =>
   cases d <;> simp only [Bool.false_eq_true] at hp
   case string=>cases a <;> first | exact ht.elim | exact oa (F:=fun kk=>kk _) cD ht
   case slice el =>
    cases a <;> first | exact ht.elim | skip
    simp only at ht ⊢;cases hT:sY P el with
    | false=>simp only [hT] at ht; exact ht.elim
    | true=>simp only [hT] at ht ⊢; exact oa (F:=fun kk=>kk _) cD ht
theorem qW {agg:Nat->Option Bool}:∀ {ps:List (Nat × XB)} {F:(XB->T)->List (Nat × List XB)->T} {kk:XB->T},(∀ r,F kk r L K h->dQ (fun kk=>F kk r) kk L K h) ->
  gJ agg ps (F kk) L K h->dQ (fun kk=>gJ agg ps (F kk)) kk L K h
 | [],F,kk,hF,ht=>hF [] ht
 | (i,v)::l,F,kk,hF,ht=>by
  simp only [gJ] at ht ⊢;cases ha:agg i with
  | none=>rw [ha] at ht; exact ht.elim
  | some b =>
   rw [ha] at ht;cases b with
   | true=>exact qK (F:=fun kk=>gJ agg l fun r=>F kk ((i,oR v)::r)) (G:=fun _=>T.fail) (fun ht=>qW (F:=fun kk r=>F kk ((i,oR v)::r)) (fun r hr=>hF _ hr) ht) (fun ht=>ht.elim) ht
   | false=>exact qK (F:=fun _=>T.fail) (G:=fun kk=>gJ agg l fun r=>F kk ((i,[v])::r)) (fun ht=>ht.elim) (fun ht=>qW (F:=fun kk r=>F kk ((i,[v])::r)) (fun r hr=>hF _ hr) ht) ht
def H6 {o:Oper} {e:Env} {kk:XB->T} (hp:qC P o=true) (ht:wR P o e kk L K h):dQ (fun kk=>wR P o e kk) kk L K h:=by
 obtain ⟨dst,op,type,pos,after,guard⟩:=o;cases op <;> simp only [qC,Bool.false_eq_true] at hp <;> simp only [wR] at ht ⊢
 case move x=>exact dm (F:=fun kk v=>kk v) (fun v hv=>cD hv) ht
 case pick c x y =>
  refine dm (F:=fun kk c=>match c with
   | .bool b'=>cond b' (bP e x kk) (bP e y kk)
   | _=>T.fail) (fun v hv=>?_) ht
  cases v <;> first | exact hv.elim | skip
  exact qK (F:=fun kk=>bP e x kk) (G:=fun kk=>bP e y kk) (fun ht=>dm (F:=fun kk v=>kk v) (fun v hv=>cD hv) ht) (fun ht=>dm (F:=fun kk v=>kk v) (fun v hv=>cD hv) ht) hv
 case build t ps =>
  refine nt (F:=fun kk vs=>match P.underlying t,(P.info? t).bind (·.zero) with
   | some (.struct fs),some z =>
    bif !(fs.all fun f=>sY P f.type) then T.fail else gJ (fun i=>(fs[i]?).bind fun f=>du P f.type) ((ps.toList.map (·.1)).zip vs) fun ls=>match jT (((fs.map fun f=>(f.offset,P.cellsOf f.type)))[·]?) z.cells.toList ls with
    | some cs=>kk (.agg cs.toArray)
    | none=>T.fail
   | some (.array _ el),some z =>
    bif !sY P el then T.fail else gJ (fun _=>du P el) ((ps.toList.map (·.1)).zip vs) fun ls=>match jT (fun i=>some (i*P.cellsOf el,P.cellsOf el)) z.cells.toList ls with
    | some cs=>kk (.agg cs.toArray)
    | none=>T.fail
   | _,_=>T.fail) (fun vs hv=>?_) ht
  generalize P.underlying t=ud at hv ⊢;generalize (P.info? t).bind (·.zero)=z at hv ⊢;cases ud with
  | none=>exact hv.elim
  | some d =>
   cases d <;> first | exact hv.elim | skip
   case array len el =>
    cases z with
    | none=>exact hv.elim
    | some z =>
     refine qK (F:=fun _=>T.fail) (G:=fun kk=>gJ (fun _=>du P el) ((ps.toList.map (·.1)).zip vs) fun ls=>match jT (fun i=>some (i*P.cellsOf el,P.cellsOf el)) z.cells.toList ls with
      | some cs=>kk (.agg cs.toArray)
      | none=>T.fail) (fun ht=>ht.elim) (fun ht=>?_) hv
     refine qW (F:=fun kk ls=>match jT (fun i=>some (i*P.cellsOf el,P.cellsOf el)) z.cells.toList ls with
      | some cs=>kk (.agg cs.toArray)
      | none=>T.fail) (fun ls ht=>?_) ht
     cases hf:jT (fun i=>some (i*P.cellsOf el,P.cellsOf el)) z.cells.toList ls with
     | none=>simp only [hf] at ht; exact ht.elim
     | some cs=>simp only [hf] at ht ⊢; exact cD ht
   case struct fs =>
    cases z with
    | none=>exact hv.elim
    | some z =>
     refine qK (F:=fun _=>T.fail) (G:=fun kk=>gJ (fun i=>(fs[i]?).bind fun f=>du P f.type) ((ps.toList.map (·.1)).zip vs) fun ls=>match jT (((fs.map fun f=>(f.offset,P.cellsOf f.type)))[·]?) z.cells.toList ls with
      | some cs=>kk (.agg cs.toArray)
      | none=>T.fail) (fun ht=>ht.elim) (fun ht=>?_) hv
     refine qW (F:=fun kk ls=>match jT (((fs.map fun f=>(f.offset,P.cellsOf f.type)))[·]?) z.cells.toList ls with
      | some cs=>kk (.agg cs.toArray)
      | none=>T.fail) (fun ls ht=>?_) ht
     cases hf:jT (((fs.map fun f=>(f.offset,P.cellsOf f.type)))[·]?) z.cells.toList ls with
     | none=>simp only [hf] at ht; exact ht.elim
     | some cs=>simp only [hf] at ht ⊢; exact cD ht
 case nilCheck x =>
  refine dm (F:=fun kk v=>match v with
   | .pointer p=>T.aA p fun a=>kk (.pointer (some a))
   | .func (.func f) fi ca=>kk (.func (.func f) fi ca)
   | .iface t v=>kk (.iface t v)
   | _=>T.fail) (fun v hv=>?_) ht
  cases v with
  | pointer p=>exact yF (F:=fun kk a=>kk (.pointer (some a))) (fun a ha=>cD ha) hv
  | func fn fi ca=>cases fn <;> first | exact hv.elim | exact cD hv
  | iface t w=>exact cD hv
  | _=>exact hv.elim
 case binOp op t x y yt =>
  refine dm (F:=fun kk a=>bP e y fun b=>F0 P op t x y a b kk) (fun a ha=>?_) ht;refine dm (F:=fun kk b=>F0 P op t x y a b kk) (fun b hb=>?_) ha;unfold F0 at hb ⊢;simp only [hp] at hb ⊢;exact Hr hb
 case unOp op t x=>exact dm (F:=fun kk a=>Ma op a kk) (fun v hv=>LI hv) ht
 case convert s d x =>
  refine dm (F:=fun kk a=>BC P s d a kk) (fun v hv=>?_) ht;unfold BC at hv ⊢;generalize P.underlying s=us at hv hp ⊢;generalize P.underlying d=ud at hv hp ⊢;cases us with
  | none=>cases hp
  | some us =>
   cases ud with
   | none=>cases us <;> cases hp
   | some ud =>
    cases us <;> first | (cases ud <;> cases hp; done) | skip
    case int k=>cases ud <;> first | (cases hp; done) | (cases v <;> first | exact hv.elim | exact cD hv)
    case string=>cases ud <;> first | (cases hp; done) | (cases v <;> first | exact hv.elim | exact cD hv)
 case makeInterface t x =>
  refine dm (F:=fun kk a=>match P.underlying t with
   | some (.interface _)=>T.fail
   | some _=>kk (.iface t a)
   | none=>T.fail) (fun v hv=>?_) ht
  generalize P.underlying t=ud at hv ⊢;cases ud with
  | none=>exact hv.elim
  | some d=>cases d <;> first | exact hv.elim | exact cD hv
 case makeFunc fn fi ca =>
  refine nt (F:=fun kk fi=>iN e ca.toList fun ca=>kk (.func fn fi.toArray ca.toArray)) (fun fi hv=>?_) ht;exact nt (F:=fun kk ca=>kk (.func fn fi.toArray ca.toArray)) (fun ca hv=>cD hv) hv
 case slice t x lo hi mx =>
  cases mx with
  | some m=>cases hp
  | none =>
  simp only at hp;refine dm (F:=fun kk a=>iN e (lo.toList++hi.toList++(none:Option Operand).toList) fun vs=>Mq P t lo hi none a vs kk) (fun a ha=>?_) ht;refine nt (F:=fun kk vs=>Mq P t lo hi none a vs kk) (fun vs hv=>?_) ha;unfold Mq at hv ⊢;cases lo <;> cases hi <;> rcases vs with _ | ⟨l,_ | ⟨l2,_ | ⟨l3,vs⟩⟩⟩ <;> first
   | exact hv.elim
   | exact Fz hp hv
 case fieldAddr s x f =>
  refine dm (F:=fun kk v=>match v,P.underlying s with
   | .pointer p,some (.struct fs)=>match fs[f]? with
    | some fd=>match P.cellsOf fd.type with
     | 0=>T.fail
     | _+1=>T.aA p fun a=>kk (.pointer (some (a.add fd.offset)))
    | none=>T.fail
   | _,_=>T.fail) (fun v hv=>?_) ht
  generalize P.underlying s=us at hv ⊢;cases v <;> first | exact hv.elim | skip
  cases us with
  | none=>exact hv.elim
  | some us =>
   cases us <;> first | exact hv.elim | skip
   rename_i fs;simp only at hv ⊢;cases hf:fs[f]? with
   | none=>simp only [hf] at hv; exact hv.elim
   | some fd =>
    simp only [hf] at hv ⊢;cases hc:P.cellsOf fd.type with
    | zero=>simp only [hc] at hv; exact hv.elim
    | succ m=>simp only [hc] at hv ⊢; exact yF (F:=fun kk a=>kk (.pointer (some (a.add fd.offset)))) (fun a ha=>cD ha) hv
 case field s x f =>
  refine dm (F:=fun kk v=>match v,P.underlying s with
   | .agg cs,some (.struct fs)=>match fs[f]? with
    | some fd=>xC P fd.type cs.toList fd.offset kk
    | none=>T.fail
   | _,_=>T.fail) (fun v hv=>?_) ht
  generalize P.underlying s=us at hv ⊢;cases v <;> first | exact hv.elim | skip
  cases us with
  | none=>exact hv.elim
  | some us =>
   cases us <;> first | exact hv.elim | skip
   rename_i fs;simp only at hv ⊢;cases hf:fs[f]? with
   | none=>simp only [hf] at hv; exact hv.elim
   | some fd=>simp only [hf] at hv ⊢; exact GI hv
 case indexAddr t x i =>
  refine dm (F:=fun kk v=>bP e i fun i=>Cx P t v i kk) (fun v hv=>?_) ht;refine dm (F:=fun kk i=>Cx P t v i kk) (fun i hi=>?_) hv;unfold Cx at hi ⊢;generalize P.underlying t=us at hi ⊢;cases v <;> cases i <;> first | exact hi.elim | skip
  all_goals
   cases us with
   | none=>exact hi.elim
   | some us =>
    cases us <;> first | exact hi.elim | skip
    refine qK (F:=fun _=>T.fail) (fun ht=>ht.elim) (fun ht=>?_) hi;exact oa (F:=fun kk=>T.aA _ fun a=>kk (.pointer (some (a.add (_*P.cellsOf _))))) (yF (F:=fun kk a=>kk (.pointer (some (a.add (_*P.cellsOf _))))) (fun a ha=>cD ha)) ht
 case index t x i =>
  refine dm (F:=fun kk v=>bP e i fun i=>Hj P t v i kk) (fun v hv=>?_) ht;refine dm (F:=fun kk i=>Hj P t v i kk) (fun i hi=>?_) hv;unfold Hj at hi ⊢;generalize P.underlying t=us at hi hp ⊢;cases us with
  | none=>cases hp
  | some us =>
   cases us <;> simp only [Bool.false_eq_true] at hp;cases v <;> cases i <;> first | exact hi.elim | exact oa (F:=fun kk=>kk _) cD hi
 case extract x i =>
  refine dm (F:=fun kk v=>match v with
   | .tuple vs=>match vs.toList[i]? with
    | some v=>kk v
    | none=>T.fail
   | _=>T.fail) (fun v hv=>?_) ht
  cases v <;> first | exact hv.elim | skip
  rename_i vs;simp only at hv ⊢;cases hi:vs.toList[i]? with
  | none=>simp only [hi] at hv; exact hv.elim
  | some w=>simp only [hi] at hv ⊢; exact cD hv
 case call c =>
  cases hc:c.callee with
  | value f=>simp only [hc] at hp; cases hp
  | invoke r m=>simp only [hc] at hp; cases hp
  | builtin b =>
   simp only [hc] at hp ht ⊢;refine nt (F:=fun kk vs=>uo P b c type vs kk) (fun vs hv=>?_) ht;cases b <;> simp only [Bool.false_eq_true] at hp
   case len =>
    have hv:FC P c type vs kk L K h:=hv;show dQ (fun kk=>FC P c type vs kk) kk L K h;unfold FC at hv ⊢;generalize (c.argTypes[0]?).bind P.underlying=ud at hv hp ⊢;cases ud with
    | none=>cases hp
    | some d =>
     cases d <;> simp only [Bool.false_eq_true] at hp
     all_goals
      rcases vs with _ | ⟨v,_ | ⟨v2,l⟩⟩ <;> first | exact hv.elim | skip
      all_goals cases v <;> first | exact hv.elim | exact cD hv
   case cap =>
    have hv:FA P c vs kk L K h:=hv;show dQ (fun kk=>FA P c vs kk) kk L K h;unfold FA at hv ⊢;generalize (c.argTypes[0]?).bind P.underlying=ud at hv hp ⊢;cases ud with
    | none=>cases hp
    | some d =>
     cases d <;> simp only [Bool.false_eq_true] at hp
     all_goals
      rcases vs with _ | ⟨v,_ | ⟨v2,l⟩⟩ <;> first | exact hv.elim | skip
      all_goals cases v <;> first | exact hv.elim | exact cD hv
end pures
section draws
variable {P:Program} {n:Nd} {ops:Array Oper}
theorem gn {x:Nat}:∀ {l:List Nat},tv x l=true↔x∈l
 | []=>by simp [tv]
 | y::l=>by
  simp only [tv,Bool.or_eq_true,List.mem_cons,gn (l:=l)];constructor
  ·rintro (h | h)
   ·exact .inl (Ps h)
   ·exact .inr h
  ·rintro (h | h)
   ·subst h; exact .inl aj
   ·exact .inr h
theorem Ew {p:Nat × Oper}:∀ {l:List Oper} {k:Nat},p∈idx k l↔∃ j,l[j]?=some p.2/\p.1=k+j
 | [],k=>by simp [idx]
 | o::l,k=>by
  simp only [idx,List.mem_cons,Ew (l:=l)];constructor
  ·rintro (h | ⟨j,h1,h2⟩)
   ·subst h; exact ⟨0,aj,aj⟩
   ·exact ⟨j+1,by simpa using h1,ae⟩
  ·rintro ⟨j,h1,h2⟩;cases j with
   | zero=>left; simp at h1; subst h1; obtain ⟨a,b⟩:=p; simp at h2; subst h2; rfl
   | succ j=>right; exact ⟨j,by simpa using h1,ae⟩
def hZ {i:Nat} {o:Oper}:(i,o)∈idx 0 ops.toList↔ops[i]?=some o:=by
 rw [Ew];constructor
 ·rintro ⟨j,h1,h2⟩;simp at h2; subst h2;simpa using h1
 ·intro h; exact ⟨i,by simpa using h,aj⟩
def IH (hok:ez P n ops=true) {i:Nat} {x:Oper} (hi:ops[i]?=some x) {d:Nat} (hd:x.dst=some d):d<n:=by
 unfold ez at hok;rw [Py] at hok;have h1:=O9.1 hok.1 (i,x) (hZ.2 hi);simp only [hd] at h1;simpa [Nat.blt_eq] using h1
def DF (hok:ez P n ops=true) {i:Nat} {x:Oper} (hi:ops[i]?=some x) {d:Nat} (hd:x.dst=some d) (hc:calm P x=true):d∉looks ops x:=by
 unfold ez at hok;rw [Py] at hok;have h1:=O9.1 (O9.1 hok.2 (i,x) (hZ.2 hi)) (i,x) (hZ.2 hi);unfold Eo at h1;have hb:Nat.beq i i=true:=aj
 simp only [hb,hd,hc,Bool.not_true,Bool.false_or,Bool.not_eq_true'] at h1;intro hl;rw [gn.2 hl] at h1; cases h1
def mX (hok:ez P n ops=true) {i j:Nat} {x y:Oper} (hi:ops[i]?=some x) (hj:ops[j]?=some y) (hne:i≠j) :
  (∀ d,y.dst=some d->d∈looks ops x->j∈waits x\/(i∈waits y/\calm P y=false))/\(∀ d,x.dst=some d->calm P x=true->y.dst≠some d):=by
 unfold ez at hok;rw [Py] at hok;have h1:=O9.1 (O9.1 hok.2 (i,x) (hZ.2 hi)) (j,y) (hZ.2 hj);unfold Eo at h1;have hb:Nat.beq i j=false:=by
  cases hb:Nat.beq i j
  ·rfl
  ·exact (hne (Ps hb)).elim
 simp only [hb,Bool.and_eq_true] at h1;refine ⟨fun d hd hl=>?_,fun d hd hc hy=>?_⟩
 ·have h2:=h1.1;simp only [hd,Bool.or_eq_true,Bool.and_eq_true,Bool.not_eq_true'] at h2;rcases h2 with (h2 | h2) | ⟨h2,h3⟩
  ·have:=gn.2 hl; rw [this] at h2; cases h2
  ·exact .inl (gn.1 h2)
  ·exact .inr ⟨gn.1 h2,h3⟩
 ·have h2:=h1.2;simp only [hd,hc,hy,lJ] at h2;simp at h2
def yy (ops:Array Oper) (o:Oper) (e:Env) (b:Bool):Prop :=
 match o.guard with
 | none=>b=true
 | some (j,w)=>match (ops[j]?).bind (·.dst) with
  | none=>b=false
  | some d=>(∃ t,cF e d=some (.bool t)/\b=(t==w))\/(∃ vs,cF e d=some (.tuple vs)/\b=false)
def vS {o:Oper} {j d:Nat} {w:Bool} (hg:o.guard=some (j,w)) (hd:(ops[j]?).bind (·.dst)=some d):d∈looks ops o:=by
 unfold looks;rw [hg];simp only [hd];exact Pj _ aj
def yy.wanted {o:Oper} {e:Env} {b:Bool} (h:yy ops o e b) {tm:Array XB} (ht:∀ s∈looks ops o,∀ v,cF e s=some v->tm.getD s undef=v) :
  Region.wanted o (yielded ops tm)=b:=by
 unfold yy at h;cases hg:o.guard with
 | none=>simp only [hg] at h; subst h; exact vL hg
 | some p =>
  obtain ⟨j,w⟩:=p;simp only [hg] at h;rw [vP hg];cases hd:(ops[j]?).bind (·.dst) with
  | none=>simp only [hd] at h; subst h; simp [yielded,hd]
  | some d =>
   simp only [hd] at h;have hl:=vS hg hd;rcases h with ⟨t,h1,rfl⟩ | ⟨vs,h1,rfl⟩
   ·rw [tQ hd (ht d hl _ h1)]; cases t <;> cases w <;> rfl
   ·rw [rR hd (ht d hl _ h1)]; rfl
def yy.congr {o:Oper} {e e':Env} {b:Bool} (h:yy ops o e b) (he:∀ s∈looks ops o,cF e' s=cF e s):yy ops o e' b:=by
 unfold yy at h ⊢;cases hg:o.guard with
 | none=>simp only [hg] at h ⊢; exact h
 | some p =>
  obtain ⟨j,w⟩:=p;simp only [hg] at h ⊢;cases hd:(ops[j]?).bind (·.dst) with
  | none=>simp only [hd] at h ⊢; exact h
  | some d=>simp only [hd] at h ⊢; rw [he d (vS hg hd)]; exact h
def qO {e:Env} {d:Nat} {v:XB} (h:cF e d=some v) (s:Nat):cF (eR n e (some d) v) s=cF e s:=by
 simp only [eR];cases Nat.blt d n with
 | false=>rfl
 | true =>
  simp only [cond_true,eo]
  by_cases hs:d=s
  ·subst hs; rw [OH rfl,h]
  ·rw [OG hs]
def xq {o:Oper} {e:Env} {yes no:Env->T} {L:Lp} {K:XB->Hp->Prop} {h:Hp} (ht:pY n ops o e yes no L K h) :
  ∃ e' b,(∀ s,cF e' s=cF e s)/\yy ops o e b/\((b=true/\yes e' L K h)\/(b=false/\no e' L K h)):=by
 unfold pY guardOf at ht;unfold yy;cases hg:o.guard with
 | none=>simp only [hg] at ht ⊢; exact ⟨e,true,fun _=>rfl,rfl,.inl ⟨rfl,ht⟩⟩
 | some p =>
  obtain ⟨j,w⟩:=p;simp only [hg] at ht ⊢;cases hj:(ops[j]?).bind (·.dst) with
  | none=>simp only [hj] at ht ⊢; exact ⟨e,false,fun _=>rfl,rfl,.inr ⟨rfl,ht⟩⟩
  | some d =>
   simp only [hj] at ht ⊢;cases hv:cF e d with
   | none=>simp only [hv] at ht; exact ht.elim
   | some v =>
    cases v <;> simp only [hv] at ht <;> first | exact ht.elim | skip
    case tuple vs=>exact ⟨e,false,fun _=>rfl,.inr ⟨vs,rfl,rfl⟩,.inr ⟨rfl,ht⟩⟩
    case bool b =>
     cases w <;> simp only at ht <;> rcases fv ht with ⟨hb,ht⟩ | ⟨hb,ht⟩ <;> subst hb
     ·exact ⟨_,false,qO hv,.inl ⟨true,rfl,rfl⟩,.inr ⟨rfl,ht⟩⟩
     ·exact ⟨_,true,qO hv,.inl ⟨false,rfl,rfl⟩,.inl ⟨rfl,ht⟩⟩
     ·exact ⟨_,true,qO hv,.inl ⟨true,rfl,rfl⟩,.inl ⟨rfl,ht⟩⟩
     ·exact ⟨_,false,qO hv,.inl ⟨false,rfl,rfl⟩,.inr ⟨rfl,ht⟩⟩
def only (e:Env) (l:List Nat):Env:=l.filterMap fun s=>(cF e s).map fun v=>(s,some v)
theorem qU {e:Env}:∀ {l:List Nat} {s:Nat},cF (only e l) s=if s∈l then cF e s else none
 | [],s=>by simp [only,cF]
 | t::l,s=>by
  unfold only;rw [List.filterMap_cons];cases hv:cF e t with
  | none =>
   simp only [Option.map_none];rw [show List.filterMap (fun s=>(cF e s).map fun v=>(s,some v)) l=only e l from rfl,qU]
   by_cases h1:s∈l
   ·simp [h1]
   ·by_cases h2:s=t
    ·subst h2; simp [h1,hv]
    ·simp [h1,h2]
  | some v =>
   simp only [Option.map_some];rw [eo,show List.filterMap (fun s=>(cF e s).map fun v=>(s,some v)) l=only e l from rfl,qU]
   by_cases h1:t=s
   ·subst h1; simp [hv]
   ·have h2:¬ s=t:=fun hh=>h1 hh.symm
    simp [h1,h2]
def vy {o:Oper} {t:Nat} (h:Operand.tmp t∈o.op.operands):t∈looks ops o:=by
 unfold looks;refine Pl _ (Pt.2 ⟨.tmp t,by simpa using h,rfl⟩)
def B0 {o:Oper} {e:Env} {kk:XB->T}:wR P o (only e (looks ops o)) kk=wR P o e kk:=by
 refine uZ (fun x hx=>?_) kk;cases x <;> try rfl
 rename_i t;simp only [ev];rw [qU,OH (vy hx)]
def BB {e:Env} {a:Act} {l:List Nat} (hs:a.tmps.size=n.n) (hd:a.defers=n.d) (h:∀ s∈l,∀ v,cF e s=some v->a.tmps.getD s undef=v):jO n (only e l) a:=by
 refine ⟨hs,hd,fun s v hv=>?_⟩;rw [qU] at hv;split at hv
 ·rename_i hm; exact h s hm v hv
 ·cases hv
def IA (P : Program) (n : Nd) (ops : Array Oper) (e : Env) (m : Made) (h : Hp) (i : Nat) (o : Oper) : Prop :=
  calm P o = true /\ ∃ v b, (∀ d, o.dst = some d -> d < n -> cF e d = some v) /\ yy ops o e b /\
    ((b = false /\ v = undef) \/ (b = true /\ ((∀ (kk : XB -> T) L K h', kk v L K h' -> wR P o e kk L K h') \/
      (∃ p l, (i, p, l) ∈ m /\ bk h p 0 l /\ ∀ (kk : XB -> T) L K h', bk h' p 0 l -> kk v L K h' -> wR P o e kk L K h'))))
def wZ (ops:Array Oper):List Nat->Prop
 | []=>True
 | i::D=>i∉D/\(∀ o,ops[i]?=some o->∀ j∈waits o,j∈D)/\wZ ops D
structure qb (P:Program) (n:Nd) (ops:Array Oper) (e0:Env) (listed:Array Bool) (a:Act) (h:Hp) (D:List Nat) (e:Env) (m:Made):Prop where
 tF:listed.size=ops.size
 size:a.tmps.size=n.n
 defers:a.defers=n.d
 lD:∀ i,listed[i]?=some true->i∈D
 dD:∀ i∈D,∃ o,ops[i]?=some o
 closed:wZ ops D
 MH:∀ s v,cF e s=some v->(∀ j∈D,∀ o,ops[j]?=some o->listed[j]?=some false->o.dst≠some s)->a.tmps.getD s undef=v
 IT:∀ i∈D,∀ o,ops[i]?=some o->listed[i]?=some false->IA P n ops e m h i o
 fr:Fr (dstsOf ops) e0 e
theorem qn:∀ {D:List Nat},wZ ops D->∀ i∈D,∀ o,ops[i]?=some o->∀ j∈waits o,j∈D
 | i'::D,hc,i,hi,o,ho,j,hj=>by
  rcases OZ.1 hi with rfl | hi
  ·exact OY _ (hc.2.1 o ho j hj)
  ·exact OY _ (qn hc.2.2 i hi o ho j hj)
theorem rU (listed:Array Bool):∀ {D:List Nat},wZ ops D->(∀ i∈D,∃ o,ops[i]?=some o)->(∃ i∈D,listed[i]?=some false)->(∀ i∈D,listed[i]?=some true\/listed[i]?=some false) ->
  ∃ i∈D,listed[i]?=some false/\∀ o,ops[i]?=some o->∀ j∈waits o,listed[j]?=some true
 | i'::D,hc,hd,⟨i,hi,hf⟩,hall=>by
  by_cases hex:∃ i∈D,listed[i]?=some false
  ·obtain ⟨k,hk,h1,h2⟩:=rU listed hc.2.2 (fun i hi=>hd i (OY _ hi)) hex (fun i hi=>hall i (OY _ hi));exact ⟨k,OY _ hk,h1,h2⟩
  ·have hi':i=i':=by
    rcases OZ.1 hi with h | h
    ·exact h
    ·exact (hex ⟨i,h,hf⟩).elim
   subst hi';refine ⟨i,aj,hf,fun o ho j hj=>?_⟩;have hjD:=hc.2.1 o ho j hj;rcases hall j (OY _ hjD) with h | h
   ·exact h
   ·exact (hex ⟨j,hjD,h⟩).elim
def jH {e:Env} {dst:Option Tmp} {v:XB} {s:Nat} (hd:dst≠some s):cF (eR n e dst v) s=cF e s:=by
 cases dst with
 | none=>rfl
 | some d =>
  simp only [eR];cases Nat.blt d n with
  | false=>rfl
  | true=>simp only [cond_true,eo]; rw [OG (fun hh:d=s=>hd (by rw [hh]))]
def sa {e:Env} {d:Nat} {v:XB} (hd:d<n):cF (eR n e (some d) v) d=some v:=by
 have hb:Nat.blt d n=true:=by rw [Nat.blt_eq]; exact hd
 simp only [eR,hb,cond_true,eo,if_true]
def EK {a:Act} {dst:Option Tmp} {v:XB} {s:Nat} (hd:dst≠some s):(a.put dst v).tmps.getD s undef=a.tmps.getD s undef:=by
 cases dst with
 | none=>rfl
 | some d =>
  have hne:d≠s:=fun hh=>hd (by rw [hh])
  simp [Act.put,Array.getD_eq_getD_getElem?,Array.getElem?_setIfInBounds,hne]
def tu {a:Act} {d:Nat} {v:XB} (hd:d<a.tmps.size):(a.put (some d) v).tmps.getD d undef=v:=by
 simp [Act.put,Array.getD_eq_getD_getElem?,Array.getElem?_setIfInBounds,hd]
def BS (a:Act) (dst:Option Tmp) (v:XB):(a.put dst v).tmps.size=a.tmps.size:=by cases dst <;> simp [Act.put]
def put_defers (a:Act) (dst:Option Tmp) (v:XB):(a.put dst v).defers=a.defers:=by cases dst <;> rfl
variable {e0:Env} {listed:Array Bool} {a:Act} {h:Hp} {D:List Nat} {e:Env} {m:Made}
def CR {i:Nat} {o:Oper} (ho:ops[i]?=some o) {d:Nat} (hd:o.dst=some d):d∈dstsOf ops:=EE (j:=i) (by rw [ho]; exact hd)
def Fr.step {n:Nat} {l:List Nat} {e0 e e':Env} {o:Oper} {v:XB} (h:Fr l e0 e) (he:∀ s,cF e' s=cF e s) (hd:∀ d,o.dst=some d->d∈l):Fr l e0 (Sx.eR n e' o.dst v) :=
 (h.trans (fun s _=>he s)).trans (Fr.eR n e' v hd)
def qb.uE (I:qb P n ops e0 listed a h D e m) {i:Nat} {o:Oper} (ho:ops[i]?=some o) (hn:listed[i]?≠some true):listed[i]?=some false:=by
 have hlt:i<ops.size:=by
  rcases Po i ops.size with h | h
  ·exact h
  ·rw [Pv h] at ho; cases ho
 have hlt':i<listed.size:=by rw [I.tF]; exact hlt
 rw [Pn hlt'] at hn ⊢;cases hb:listed[i] with
 | false=>rfl
 | true=>rw [hb] at hn; exact (hn rfl).elim
def qb.EY (hok:ez P n ops=true) (I:qb P n ops e0 listed a h D e m) {i:Nat} {o:Oper} (ho:ops[i]?=some o) (hr:∀ j∈waits o,listed[j]?=some true)
  (hi:i∉D\/calm P o=true):∀ s∈looks ops o,∀ v,cF e s=some v->a.tmps.getD s undef=v:=by
 intro s hs v hv;refine I.MH s v hv ?_;intro j hj oj hoj hf hd;have hcj:=(I.IT j hj oj hoj hf).1
 by_cases hij:i=j
 ·subst hij;rw [ho] at hoj; obtain rfl:=O1 hoj;exact DF hok ho hd hcj hs
 ·rcases (mX hok ho hoj hij).1 s hd hs with h1 | ⟨_,h1⟩
  ·rw [hr j h1] at hf; cases hf
  ·rw [hcj] at h1; cases h1
def qb.exec (hok:ez P n ops=true) (I:qb P n ops e0 listed a h D e m) {i:Nat} {o:Oper} (ho:ops[i]?=some o) (hiD:i∈D) (hf:listed[i]?=some false) {v:XB}
  (hv:∀ d,o.dst=some d->cF e d=some v) (hc:calm P o=true):qb P n ops e0 (listed.setIfInBounds i true) (a.put o.dst v) h D e m:=by
 have hlt:i<listed.size:=by
  rcases Po i listed.size with h | h
  ·exact h
  ·rw [Pv h] at hf; cases hf
 have kl:∀ j,(listed.setIfInBounds i true)[j]?=if i=j then some true else listed[j]?:=by
  intro j;rw [PL]
  by_cases hij:i=j
  ·subst hij; simp [hlt]
  ·simp [hij]
 refine ⟨by simp [I.tF],by rw [BS,I.size],by rw [put_defers,I.defers],?_,I.dD,I.closed,?_,?_,I.fr⟩
 ·intro j hj;rw [kl] at hj
  by_cases hij:i=j
  ·subst hij; exact hiD
  ·rw [OG hij] at hj; exact I.lD j hj
 ·intro s u hu hno
  by_cases hd:o.dst=some s
  ·rw [hd];rw [hv s hd] at hu;obtain rfl:=O1 hu;exact tu (by rw [I.size]; exact IH hok ho hd)
  ·rw [EK hd];refine I.MH s u hu ?_;intro j hj oj hoj hf' hd'
   by_cases hij:i=j
   ·subst hij; rw [ho] at hoj; obtain rfl:=O1 hoj; exact hd hd'
   ·exact hno j hj oj hoj (by rw [kl,OG hij]; exact hf') hd'
 ·intro j hj oj hoj hf';rw [kl] at hf'
  by_cases hij:i=j
  ·rw [OH hij] at hf'; cases hf'
  ·rw [OG hij] at hf'; exact I.IT j hj oj hoj hf'
def IA.congr {e e':Env} {m m':Made} {h h':Hp} {i:Nat} {o:Oper} (hp:IA P n ops e m h i o) (hl:∀ s∈looks ops o,cF e' s=cF e s) (hd:∀ d,o.dst=some d->cF e' d=cF e d)
  (hm:∀ p l,(i,p,l)∈m->bk h p 0 l->(i,p,l)∈m'/\bk h' p 0 l):IA P n ops e' m' h' i o:=by
 obtain ⟨hc,v,b,h1,h2,h3⟩:=hp;have hx:∀ kk,wR P o e' kk=wR P o e kk:=fun kk=>uZ (fun x hx=>by
  cases x <;> try rfl
  exact hl _ (vy hx)) kk
 refine ⟨hc,v,b,fun d hd1 hd2=>by rw [hd d hd1]; exact h1 d hd1 hd2,h2.congr hl,?_⟩;rcases h3 with h3 | ⟨hb,h3 | ⟨p,l,h3,h4,h5⟩⟩
 ·exact .inl h3
 ·exact .inr ⟨hb,.inl fun kk L K h' hk=>by rw [hx]; exact h3 kk L K h' hk⟩
 ·obtain ⟨h6,h7⟩:=hm p l h3 h4;exact .inr ⟨hb,.inr ⟨p,l,h6,h7,fun kk L K h' hc hk=>by rw [hx]; exact h5 kk L K h' hc hk⟩⟩
def qb.ahead (hok:ez P n ops=true) (I:qb P n ops e0 listed a h D e m) {i:Nat} {o:Oper} (ho:ops[i]?=some o) (hiD:i∉D) (hw:∀ j∈waits o,j∈D) (hc:calm P o=true)
  {v:XB} {e':Env} (he:∀ s,cF e' s=cF e s) {m':Made} (hm:∀ x∈m,x∈m')
  (hp:IA P n ops (eR n e' o.dst v) m' h i o):qb P n ops e0 listed a h (i::D) (eR n e' o.dst v) m':=by
 have hfi:listed[i]?=some false:=I.uE ho (fun hh=>hiD (I.lD i hh));refine ⟨I.tF,I.size,I.defers,fun j hj=>OY _ (I.lD j hj),?_,⟨hiD,?_,I.closed⟩,?_,?_,I.fr.step he (fun d hd=>CR ho hd)⟩
 ·intro j hj;rcases OZ.1 hj with rfl | hj
  ·exact ⟨o,ho⟩
  ·exact I.dD j hj
 ·intro o' ho' j hj;rw [ho] at ho'; obtain rfl:=O1 ho';exact hw j hj
 ·intro s u hu hno;have hd:o.dst≠some s:=hno i aj o ho hfi;rw [jH hd,he] at hu;exact I.MH s u hu fun j hj oj hoj hf=>hno j (OY _ hj) oj hoj hf
 ·intro j hj oj hoj hf;rcases OZ.1 hj with rfl | hj
  ·rw [ho] at hoj; obtain rfl:=O1 hoj; exact hp
  ·have hne:j≠i:=fun hh=>hiD (hh▸hj)
   have hpj:=I.IT j hj oj hoj hf;refine hpj.congr ?_ ?_ (fun p l h1 h2=>⟨hm _ h1,h2⟩)
   ·intro s hs
    by_cases hd:o.dst=some s
    ·exfalso;rcases (mX hok hoj ho hne).1 s hd hs with h1 | ⟨_,h1⟩
     ·exact hiD (qn I.closed j hj oj hoj i h1)
     ·rw [hc] at h1; cases h1
    ·rw [jH hd,he]
   ·intro d hd;rw [jH ((mX hok hoj ho hne).2 d hd hpj.1),he]
def qb.effect (hok:ez P n ops=true) (I:qb P n ops e0 listed a h D e m) {i:Nat} {o:Oper} (ho:ops[i]?=some o) (hiD:i∉D) (hr:∀ j∈waits o,listed[j]?=some true) (hc:calm P o=false)
  {v:XB} {e':Env} (he:∀ s,cF e' s=cF e s) {h':Hp} (hst:∀ j p l,(j,p,l)∈m->bk h p 0 l->j∉waits o->bk h' p 0 l) :
  qb P n ops e0 (listed.setIfInBounds i true) (a.put o.dst v) h' (i::D) (eR n e' o.dst v) m:=by
 have hfi:listed[i]?=some false:=I.uE ho (fun hh=>hiD (I.lD i hh));have hlt:i<listed.size:=by
  rcases Po i listed.size with h | h
  ·exact h
  ·rw [Pv h] at hfi; cases hfi
 have kl:∀ j,(listed.setIfInBounds i true)[j]?=if i=j then some true else listed[j]?:=by
  intro j;rw [PL]
  by_cases hij:i=j
  ·subst hij; simp [hlt]
  ·simp [hij]
 refine ⟨by simp [I.tF],by rw [BS,I.size],by rw [put_defers,I.defers],?_,?_,⟨hiD,?_,I.closed⟩,?_,?_,I.fr.step he (fun d hd=>CR ho hd)⟩
 ·intro j hj;rw [kl] at hj
  by_cases hij:i=j
  ·subst hij; simp
  ·rw [OG hij] at hj; exact OY _ (I.lD j hj)
 ·intro j hj;rcases OZ.1 hj with rfl | hj
  ·exact ⟨o,ho⟩
  ·exact I.dD j hj
 ·intro o' ho' j hj;rw [ho] at ho'; obtain rfl:=O1 ho';exact I.lD j (hr j hj)
 ·intro s u hu hno
  by_cases hd:o.dst=some s
  ·rw [hd] at hu ⊢;have hdn:=IH hok ho hd;rw [sa hdn] at hu;obtain rfl:=O1 hu;exact tu (by rw [I.size]; exact hdn)
  ·rw [jH hd,he] at hu;rw [EK hd];refine I.MH s u hu ?_;intro j hj oj hoj hf;have hne:i≠j:=fun hh=>hiD (hh▸hj)
   exact hno j (OY _ hj) oj hoj (by rw [kl,OG hne]; exact hf)
 ·intro j hj oj hoj hf;rw [kl] at hf
  by_cases hij:i=j
  ·rw [OH hij] at hf; cases hf
  ·rw [OG hij] at hf;rcases OZ.1 hj with hh | hj
   ·exact (hij hh.symm).elim
   ·have hpj:=I.IT j hj oj hoj hf;have hnw:j∉waits o:=fun hh=>by rw [hr j hh] at hf; cases hf
    refine hpj.congr ?_ ?_ (fun p l h1 h2=>⟨h1,hst j p l h1 h2 hnw⟩)
    ·intro s hs
     by_cases hd:o.dst=some s
     ·exfalso;rcases (mX hok hoj ho (fun hh=>hij hh.symm)).1 s hd hs with h1 | ⟨h1,_⟩
      ·exact hiD (qn I.closed j hj oj hoj i h1)
      ·exact hnw h1
     ·rw [jH hd,he]
    ·intro d hd;rw [jH ((mX hok hoj ho (fun hh=>hij hh.symm)).2 d hd hpj.1),he]
def nq {listed:Array Bool} (hs:listed.size=ops.size) {i:Nat}:i∈Region.ready .any ops listed↔∃ o,ops[i]?=some o/\listed[i]?=some false/\∀ j∈waits o,listed[j]?=some true:=by
 unfold Region.ready;rw [List.mem_filter,List.mem_range];constructor
 ·rintro ⟨hlt,hh⟩;rw [Py] at hh;obtain ⟨h1,h2⟩:=hh;have ho:ops[i]?=some ops[i]:=Pn hlt;rw [ho] at h2;refine ⟨ops[i],ho,?_,?_⟩
  ·have hlt':i<listed.size:=by rw [hs]; exact hlt
   rw [Pn hlt'];simp only [Bool.not_eq_true',Array.getD_eq_getD_getElem?,Array.getElem?_eq_getElem hlt',Option.getD_some] at h1;rw [h1]
  ·intro j hj;simp only [Option.map_some,Option.getD_some] at h2;unfold waits at hj;obtain ⟨ed,hed,rfl⟩:=Pa.1 hj;obtain ⟨hed1,hed2⟩:=List.mem_filter.1 hed;have h3:=(Array.all_eq_true_iff_forall_mem.1 h2) ed (by simpa using hed1);rw [hed2] at h3;simp only [Bool.not_true,Bool.false_or,Array.getD_eq_getD_getElem?] at h3;cases hx:listed[ed.on]? with
   | none=>rw [hx] at h3; cases h3
   | some b=>rw [hx] at h3; simp at h3; rw [h3]
 ·rintro ⟨o,ho,h1,h2⟩;have hlt:i<ops.size:=by
   rcases Po i ops.size with h | h
   ·exact h
   ·rw [Pv h] at ho; cases ho
  refine ⟨hlt,?_⟩;rw [Py];refine ⟨by simp [Array.getD_eq_getD_getElem?,h1],?_⟩;rw [ho];simp only [Option.map_some,Option.getD_some];refine Array.all_eq_true_iff_forall_mem.2 fun ed hed=>?_
  cases hb:Region.binds .any ed with
  | false=>rfl
  | true =>
   have:=h2 ed.on (Pa.2 ⟨ed,List.mem_filter.2 ⟨by simpa using hed,hb⟩,rfl⟩)
   simp [Array.getD_eq_getD_getElem?,this]
theorem fk {D:List Nat} {c:Bool} {p:Nat × Oper}:∀ {l:List (Nat × Oper)},p∈dF P D c l↔p∈l/\vx D p.1 p.2=true/\calm P p.2=c
 | []=>by simp [dF]
 | q::l=>by
  unfold dF;cases hb:vx D q.1 q.2 && (calm P q.2==c) with
  | true =>
   rw [Py] at hb;simp only [List.mem_cons,fk (l:=l)];constructor
   ·rintro (rfl | h)
    ·exact ⟨.inl rfl,hb.1,by simpa using hb.2⟩
    ·exact ⟨.inr h.1,h.2⟩
   ·rintro ⟨rfl | h,h2⟩
    ·exact .inl rfl
    ·exact .inr ⟨h,h2⟩
  | false =>
   simp only [List.mem_cons,fk (l:=l)];constructor
   ·rintro ⟨h1,h2⟩; exact ⟨.inr h1,h2⟩
   ·rintro ⟨rfl | h,h2⟩
    ·rw [h2.1,h2.2] at hb; simp at hb
    ·exact ⟨h,h2⟩
def sG {D:List Nat} {i:Nat} {o:Oper}:vx D i o=true↔i∉D/\∀ j∈waits o,j∈D:=by
 unfold vx;rw [Py];constructor
 ·rintro ⟨h1,h2⟩;refine ⟨fun hh=>?_,fun j hj=>gn.1 (O9.1 h2 j hj)⟩;rw [gn.2 hh] at h1; cases h1
 ·rintro ⟨h1,h2⟩;refine ⟨?_,O9.2 fun j hj=>gn.2 (h2 j hj)⟩;cases hb:tv i D with
  | false=>rfl
  | true=>exact (h1 (gn.1 hb)).elim
def Ko {L:Lp} {K:XB->Hp->Prop} {h:Hp} {o:Oper} {m:Made} {t:T} (ht:AT (qG o m) t L K h):t L K h/\∀ j p l,(j,p,l)∈m->j∉waits o->bk h p 0 l:=by
 have h1:∀ l:List (XC × List XB),AT l t L K h->T.Gg h l/\t L K h:=by
  intro l hl;cases l with
  | nil=>exact ⟨trivial,hl⟩
  | cons p l=>exact hl
 obtain ⟨h2,h3⟩:=h1 _ ht;refine ⟨h3,?_⟩;clear ht h1 h3
 induction m with
 | nil=>intro j p l hj; cases hj
 | cons x m ih =>
  obtain ⟨i,q,lq⟩:=x;intro j p l hj hnw;unfold qG at h2;cases hb:tv i (waits o) with
  | true =>
   rw [hb] at h2;rcases OZ.1 hj with hh | hj
   ·simp only [Prod.mk.injEq] at hh;obtain ⟨rfl,rfl,rfl⟩:=hh;exact (hnw (gn.1 hb)).elim
   ·exact ih h2 j p l hj hnw
  | false =>
   rw [hb] at h2;simp only [cond_false] at h2;rcases OZ.1 hj with hh | hj
   ·simp only [Prod.mk.injEq] at hh;obtain ⟨rfl,rfl,rfl⟩:=hh;exact h2.1
   ·exact ih h2.2 j p l hj hnw
theorem JW {L:Lp} {K:XB->Hp->Prop} {h:Hp}:∀ {ts:List T} {t:T},t∈ts->MO ts L K h->t L K h
 | [],t,ht,_=>by cases ht
 | [u],t,ht,hx=>by simp at ht; subst ht; exact hx
 | u::u2::ts,t,ht,hx=>by
  have:∀ ts:List T,t∈ts->T.every L K h ts->t L K h:=by
   intro ts
   induction ts with
   | nil=>intro hh; cases hh
   | cons v ts ih =>
    intro hh hx;rcases OZ.1 hh with rfl | hh
    ·exact hx.1
    ·exact ih hh hx.2
  exact this _ ht hx
def left (listed:Array Bool):Nat:=(listed.toList.filter fun b=>!b).length
theorem zX:∀ (l:List Bool) (i:Nat),l[i]?=some false->((l.set i true).filter fun b=>!b).length+1=(l.filter fun b=>!b).length
 | [],i,h=>by simp at h
 | b::l,0,h=>by simp at h; subst h; simp
 | b::l,i+1,h=>by
  simp at h
  have:=zX l i h
  cases b
  ·simp only [List.set_cons_succ,List.filter_cons,Bool.not_false,if_true,List.length_cons]; omega
  ·simp only [List.set_cons_succ,List.filter_cons,Bool.not_true,Bool.false_eq_true,if_false]; exact this
def BI {listed:Array Bool} {i:Nat} (hf:listed[i]?=some false):left (listed.setIfInBounds i true)+1=left listed:=by
 unfold left;rw [Array.toList_setIfInBounds];exact zX _ i (by simpa using hf)
def Gs {listed:Array Bool} (h0:left listed=0) (i:Nat):listed[i]?≠some false:=by
 intro hf
 have:=BI hf
 omega
def Ej (v:XB) (h:Hp):XB->T:=fun v' _ _ h'=>v'=v/\h'=h
def JO (hok:ez P n ops=true) {L:Lp} {K:XB->Hp->Prop} {k:Env->T} {Q:Exit->Act->World->Prop} {w0:World} {i:Nat}
  {listed:Array Bool} {a:Act} {w:World} {R:Act->World->Prop} (hi:i∈Region.ready .any ops listed) (hs:cY w0 w)
  (next:∀ a' w' D e m fu,cY w0 w'->qb P n ops e0 (listed.setIfInBounds i true) a' w'.heap D e m->jB P n ops fu D e m k L K w'.heap->R a' w') :
  ∀ fu D e m,qb P n ops e0 listed a w.heap D e m->jB P n ops fu D e m k L K w.heap->wpOp P ops Q i R a w:=by
 intro fu
 induction fu with
 | zero=>intro D e m I ht; exact ht.elim
 | succ fu ih =>
  intro D e m I ht;obtain ⟨o,ho,hf,hr⟩:=(nq I.tF).1 hi
  by_cases hiD:i∈D
  ·
   obtain ⟨hc,v,b,hv,hg,hx⟩:=I.IT i hiD o ho hf;have hlk:=I.EY hok ho hr (.inr hc);have hwant:=hg.wanted hlk;have hv':∀ d,o.dst=some d->cF e d=some v:=fun d hd=>hv d hd (IH hok ho hd)
   unfold wpOp;rw [ho];simp only;have I':=I.exec hok ho hiD hf hv' hc;rcases hx with ⟨rfl,rfl⟩ | ⟨rfl,hx⟩
   ·rw [OG (by simp [hwant])];exact next _ _ D e m (fu+1) hs I' ht
   ·rw [OH hwant];refine .inl ?_;have hop:No P o a.eval w.heap (fun v' h'=>v'=v/\h'=w.heap):=by
     have hxx:wR P o e (Ej v w.heap) [] (fun _ _=>True) w.heap:=by
      rcases hx with hx | ⟨p,l,_,hcl,hx⟩
      ·exact hx (Ej v w.heap) [] (fun _ _=>True) w.heap ⟨rfl,rfl⟩
      ·exact hx (Ej v w.heap) [] (fun _ _=>True) w.heap hcl ⟨rfl,rfl⟩
     rw [<- B0 (ops:=ops)] at hxx;exact DQ (BB I.size I.defers hlk) hxx
    refine vp hop ?_;rintro v' w' hs' ⟨rfl,hh⟩;refine next _ _ D e m (fu+1) (hs.trans hs') (by rw [hh]; exact I') (by rw [hh]; exact ht)
  ·unfold jB at ht;cases hcalm:dF P D true (idx 0 ops.toList) with
   | cons q qs =>
    obtain ⟨j,oj⟩:=q;simp only [hcalm] at ht;have hq:(j,oj)∈dF P D true (idx 0 ops.toList):=by rw [hcalm]; simp
    obtain ⟨hq1,hq2,hq3⟩:=fk.1 hq;have hoj:=hZ.1 hq1;obtain ⟨hjD,hjw⟩:=sG.1 hq2;obtain ⟨e',b,he,hg,hx⟩:=xq ht;have hg':∀ u,yy ops oj (eR n e' oj.dst u) b:=fun u=>hg.congr fun s hs=>by
     by_cases hd:oj.dst=some s
     ·exact (DF hok hoj hd hq3 hs).elim
     ·rw [jH hd,he]
    have hself:∀ u d,oj.dst=some d->d<n->cF (eR n e' oj.dst u) d=some u:=fun u d hd hdn=>by rw [hd]; exact sa hdn
    have hxe:∀ u kk,wR P oj (eR n e' oj.dst u) kk=wR P oj e' kk:=fun u kk=>uZ (fun x hx=>by
     cases x <;> try rfl
     rename_i s;simp only [ev];exact jH (fun hd=>DF hok hoj hd hq3 (vy hx))) kk
    rcases hx with ⟨rfl,hx⟩ | ⟨rfl,hx⟩
    ·
     unfold calm at hq3;cases hpure:qC P oj with
     | true =>
      have hx':wR P oj e' (fun v=>jB P n ops fu (j::D) (eR n e' oj.dst v) m k) L K w.heap:=by
       have hnl:∀ t x,oj.op≠.load t x:=by
        intro t x hh;unfold qC at hpure;rw [hh] at hpure; cases hpure
       obtain ⟨dst,op,type,pos,after,guard⟩:=oj;cases op <;> first | exact hx | exact (hnl _ _ rfl).elim
      obtain ⟨v,hk,hall⟩:=H6 hpure hx';refine ih (j::D) _ m (I.ahead hok hoj hjD hjw (by unfold calm; rw [hpure]; rfl) he (fun x hx=>hx) ?_) hk;exact ⟨by unfold calm; rw [hpure]; rfl,v,true,hself v,hg' v,.inr ⟨rfl,.inl fun kk L K h' hkk=>by rw [hxe]; exact hall kk L K h' hkk⟩⟩
     | false =>
      rw [hpure,P7] at hq3;obtain ⟨t,x,hop⟩:∃ t x,oj.op=.load t x:=by
       unfold yk at hq3;cases hop:oj.op <;> rw [hop] at hq3 <;> first | (cases hq3; done) | exact ⟨_,_,rfl⟩
      have hcj:calm P oj=true:=by unfold calm yk; rw [hop]; simp
      simp only [hop] at hx;unfold rZ at hx;obtain ⟨u,hu,hx⟩:=bw hx;have hx2:rZ P t x e' (fun a l v=>jB P n ops fu (j::D) (eR n e' oj.dst v) ((j,a,l)::m) k) L K w.heap:=by
       unfold rZ bP; simp only [hu]; exact hx
      cases hb:du P t with
      | none=>cases u <;> simp only [hb] at hx <;> exact hx.elim
      | some bb =>
       obtain ⟨pp,rfl⟩:∃ pp,u=.pointer pp:=by
        cases u <;> cases bb <;> simp only [hb] at hx <;> first | exact hx.elim | exact ⟨_,rfl⟩
       have hx3:(match bb with
        | true=>(bif (gU P 9 t).length==P.cellsOf t then T.aA pp fun a=>T.ah a (gU P 9 t) (dJ _ fun l=>jB P n ops fu (j::D) (eR n e' oj.dst (.agg l.toArray)) ((j,a,l)::m) k) else T.fail)
        | false=>T.aA pp fun a=>T.ah a (dM P t).2 (dJ _ fun l=>jB P n ops fu (j::D) (eR n e' oj.dst (l.headD undef)) ((j,a,l)::m) k)) L K w.heap:=by
        cases bb <;> simp only [hb] at hx <;> exact hx
       have hfin:∃ p l v,pp=some p/\bk w.heap p 0 l/\jB P n ops fu (j::D) (eR n e' oj.dst v) ((j,p,l)::m) k L K w.heap /\
         ∀ (kk:XB->T) L K h',bk h' p 0 l->kk v L K h'->wR P oj e' kk L K h':=by
        have hxop:∀ kk,wR P oj e' kk=rZ P t x e' (fun _ _ v=>kk v):=by
         intro kk;unfold wR;rw [hop] <;> rfl
        cases bb with
        | true =>
         simp only at hx3;rcases fv hx3 with ⟨hl,hx3⟩ | ⟨hl,hx3⟩
         ·obtain ⟨p,rfl,hx3⟩:=fP hx3;obtain ⟨y,hc,hx3⟩:=hx3;rw [fz] at hx3;refine ⟨p,_,_,rfl,hc,hx3,fun kk L K h' hc' hkk=>?_⟩;rw [hxop];unfold rZ bP;simp only [hu,hb,hl];exact ⟨y,hc',by rw [fz]; exact hkk⟩
         ·exact hx3.elim
        | false =>
         simp only at hx3;obtain ⟨p,rfl,hx3⟩:=fP hx3;obtain ⟨y,hc,hx3⟩:=hx3;rw [fz] at hx3;refine ⟨p,_,_,rfl,hc,hx3,fun kk L K h' hc' hkk=>?_⟩;rw [hxop];unfold rZ bP;simp only [hu,hb];exact ⟨y,hc',by rw [fz]; exact hkk⟩
       obtain ⟨p,l,v,rfl,hc,hk,hall⟩:=hfin;refine ih (j::D) _ ((j,p,l)::m) (I.ahead hok hoj hjD hjw hcj he (fun x hx=>OY _ hx) ?_) hk;exact ⟨hcj,v,true,hself v,hg' v,.inr ⟨rfl,.inr ⟨p,l,aj,hc,fun kk L K h' hc' hkk=>by rw [hxe]; exact hall kk L K h' hc' hkk⟩⟩⟩
    ·
     refine ih (j::D) _ m (I.ahead hok hoj hjD hjw hq3 he (fun x hx=>hx) ?_) hx;exact ⟨hq3,undef,false,hself undef,hg' undef,.inl ⟨rfl,rfl⟩⟩
   | nil =>
    simp only [hcalm] at ht;have hjw:∀ j∈waits o,j∈D:=fun j hj=>I.lD j (hr j hj)
    have hrx:vx D i o=true:=sG.2 ⟨hiD,hjw⟩;have hc:calm P o=false:=by
     cases hc:calm P o with
     | false=>rfl
     | true =>
      have:(i,o)∈dF P D true (idx 0 ops.toList):=fk.2 ⟨hZ.2 ho,hrx,hc⟩
      rw [hcalm] at this; cases this
    have hmem:(i,o)∈dF P D false (idx 0 ops.toList):=fk.2 ⟨hZ.2 ho,hrx,hc⟩;cases heff:dF P D false (idx 0 ops.toList) with
    | nil=>rw [heff] at hmem; cases hmem
    | cons q qs =>
     simp only [heff] at ht;rw [heff] at hmem;have hti:=JW (Pa.2 ⟨(i,o),hmem,rfl⟩) ht;simp only at hti;obtain ⟨e',b,he,hg,hx⟩:=xq hti;have hlk:=I.EY hok ho hr (.inl hiD);have hwant:=hg.wanted hlk;unfold wpOp;rw [ho];simp only;rcases hx with ⟨rfl,hx⟩ | ⟨rfl,hx⟩
     ·rw [OH hwant];refine .inl ?_;rw [<- B0 (ops:=ops)] at hx;have hlk':∀ s∈looks ops o,∀ v,cF e' s=some v->a.tmps.getD s undef=v:=fun s hs v hv=>hlk s hs v (by rw [<- he]; exact hv)
      refine vp (DQ (BB I.size I.defers hlk') hx) ?_;intro v w' hs' hst;obtain ⟨hst1,hst2⟩:=Ko hst;exact next _ _ (i::D) _ m fu (hs.trans hs') (I.effect hok ho hiD hr hc he (fun j p l h1 _ h3=>hst2 j p l h1 h3)) hst1
     ·rw [OG (by simp [hwant])];exact next _ _ (i::D) _ m fu hs (I.effect hok ho hiD hr hc he (fun j p l _ h2 _=>h2)) hx
def Ha (hok:ez P n ops=true) {L:Lp} {K:XB->Hp->Prop} {k:Env->T} {Q:Exit->Act->Hp->Prop} {w0:World}
  (hk:∀ e a h,k e L K h->jO n e a->Fr (dstsOf ops) e0 e->Q .normal a h):∀ (fuel:Nat) (listed:Array Bool) (a:Act) (w:World) (D:List Nat) (e:Env) (m:Made) (fu:Nat),left listed<=fuel->cY w0 w ->
   qb P n ops e0 listed a w.heap D e m->jB P n ops fu D e m k L K w.heap->wpAny P .any ops (Np w0 Q) fuel listed a w:=by
 have fin:∀ (listed:Array Bool) (a:Act) (w:World),cY w0 w->Region.ready .any ops listed=[]->∀ fu D e m,qb P n ops e0 listed a w.heap D e m->jB P n ops fu D e m k L K w.heap->Np w0 Q .normal a w:=by
  intro listed a w hs hr fu D e m I ht;have hall:∀ i∈D,listed[i]?=some true\/listed[i]?=some false:=by
   intro i hi;obtain ⟨o,ho⟩:=I.dD i hi
   by_cases h1:listed[i]?=some true
   ·exact .inl h1
   ·exact .inr (I.uE ho h1)
  have hdone:∀ i∈D,listed[i]?=some true:=by
   intro i hi;rcases hall i hi with h1 | h1
   ·exact h1
   ·obtain ⟨j,hj,h2,h3⟩:=rU listed I.closed I.dD ⟨i,hi,h1⟩ hall;obtain ⟨o,ho⟩:=I.dD j hj
    have:j∈Region.ready .any ops listed:=(nq I.tF).2 ⟨o,ho,h2,h3 o ho⟩
    rw [hr] at this; cases this
  have hno:∀ c,dF P D c (idx 0 ops.toList)=[]:=by
   intro c;cases hx:dF P D c (idx 0 ops.toList) with
   | nil=>rfl
   | cons q qs =>
    obtain ⟨i,o⟩:=q;have hq:(i,o)∈dF P D c (idx 0 ops.toList):=by rw [hx]; simp
    obtain ⟨hq1,hq2,_⟩:=fk.1 hq;have ho:=hZ.1 hq1;obtain ⟨hiD,hw⟩:=sG.1 hq2
    have:i∈Region.ready .any ops listed:=(nq I.tF).2 ⟨o,ho,I.uE ho (fun hh=>hiD (I.lD i hh)),fun j hj=>hdone j (hw j hj)⟩
    rw [hr] at this; cases this
  cases fu with
  | zero=>exact ht.elim
  | succ fu =>
   unfold jB at ht;simp only [hno] at ht;refine ⟨hs,hk e a w.heap ht ⟨I.size,I.defers,fun s v hv=>I.MH s v hv ?_⟩ I.fr⟩;intro j hj o ho hf;rw [hdone j hj] at hf; cases hf
 intro fuel
 induction fuel with
 | zero =>
  intro listed a w D e m fu hl hs I ht;have hr:Region.ready .any ops listed=[]:=by
   cases hx:Region.ready .any ops listed with
   | nil=>rfl
   | cons i l =>
    have:i∈Region.ready .any ops listed:=by rw [hx]; simp
    obtain ⟨o,ho,hf,_⟩:=(nq I.tF).1 this;exact (Gs ae i hf).elim
  exact ⟨hr,fin listed a w hs hr fu D e m I ht⟩
 | succ fuel ih =>
  intro listed a w D e m fu hl hs I ht;refine ⟨fun hr=>fin listed a w hs hr fu D e m I ht,fun i hi=>?_⟩;obtain ⟨o,ho,hf,_⟩:=(nq I.tF).1 hi;refine JO hok hi hs ?_ fu D e m I ht;intro a' w' D' e' m' fu' hs' I' ht';exact ih _ a' w' D' e' m' fu' (by have:=BI hf; omega) hs' I' ht'
def Og (hm:P.follows .mixedOrders=true):Of P n:=by
 intro id ops e k L K Q a h hk ht g w0 w hs hw;subst hw;unfold wV at ht;cases hok:ez P n ops with
 | false=>simp only [hok] at ht; exact ht.elim
 | true =>
  simp only [hok] at ht;have hnone:∀ (l:Array Bool) (i:Nat),l=Array.replicate ops.size false->l[i]?≠some true:=by
   intro l i hl hh;subst hl;simp [Array.getElem?_replicate] at hh
  refine wp_region_any hm (Ha (e0:=e) hok hk ops.size _ a { w with drawn:=w.drawn+1 } [] e [] (ops.size+1) ?_ ⟨hs.os,hs.tape,hs.output⟩ ?_ ht)
  ·unfold left;refine Pb (PY _ _) ?_
   simp
  ·exact ⟨aj,g.size,g.defers,fun i hi=>(hnone _ i rfl hi).elim,fun i hi=>(by cases hi),trivial,fun s v hv _=>g.get s v hv,fun i hi=>(by cases hi),Fr.refl _ _⟩
end draws
end Go.Sx
