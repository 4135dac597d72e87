/- Part of the framework. No condition. -/
import Derived.Test.YtmdncdaladplkaaGreatDoorSxM
import Derived.Orders
set_option linter.all false
set_option maxHeartbeats 4000000
namespace Go.Sx
section congr
variable {P:Program}
variable {H O:Env}
def bI {x:Operand} (h:ev H x=ev O x) (k:Xab->T):cd H x k=cd O x k:=by
 unfold cd; rw [h]
theorem ff {e a:Env}:∀ {xs:List Operand},(∀ x∈xs,ev e x=ev a x)->∀ (k:List Xab->T),jh e xs k=jh a xs k
 | [],_,k=>rfl
 | x::xs,h,k=>by
  simp only [jh];rw [bI (h x ai)]
  congr 1
  funext v
  exact ff (λx b=>h x (by simp [b])) _
def yB {o:Oper} (h:∀ x∈o.op.operands,ev H x=ev O x) (kk:Xab->T):wy P o H kk=wy P o O kk:=by
 obtain ⟨dst,op,g,pos,after,guard⟩:=o;cases op <;> simp only [Op.operands] at h <;> simp only [wy]
 case pick c x y =>
  rw [bI (h c ai)]
  congr 1; funext v
  cases v <;> first | rfl | (rw [bI (h x ai),bI (h y ai)])
 case build t ps=>rw [ff (λx a=>h x (by simpa using a))]
 case buildSlice t l ps=>rw [ff (λx a=>h x (by simpa using a))]
 case store t x y =>
  rw [bI (h x ai)]
  congr 1; funext v
  rw [bI (h y ai)]
 case binOp op t x y i =>
  rw [bI (h x ai)]
  congr 1; funext v
  rw [bI (h y ai)]
 case makeFunc fn j k =>
  rw [ff (λx a=>h x (by simp at a ⊢; exact .inl a))]
  congr 1; funext v
  rw [ff (λx a=>h x (by simp at a ⊢; exact .inr a))]
 case makeMap t r=>cases r <;> rfl
 case makeSlice t x y =>
  rw [bI (h x ai)]
  congr 1; funext v
  rw [bI (h y ai)]
 case slice t x lo hi n =>
  rw [bI (h x ai)]
  congr 1; funext v
  rw [ff (λy d=>h y (by
   simp only [List.mem_append,Option.mem_toList] at d;simp only [Array.mem_append,Array.mem_singleton,Option.mem_toArray];rcases d with (d | d) | d
   ·exact .inl (.inl (.inr d))
   ·exact .inl (.inr d)
   ·exact .inr d))]
 case indexAddr t x y =>
  rw [bI (h x ai)]
  congr 1; funext v
  rw [bI (h y ai)]
 case index t x y =>
  rw [bI (h x ai)]
  congr 1; funext v
  rw [bI (h y ai)]
 case lookup t x y ok =>
  rw [bI (h x ai)]
  congr 1; funext v
  rw [bI (h y ai)]
 case mapUpdate t x y z =>
  rw [bI (h x ai)]
  congr 1; funext v
  rw [bI (h y ai)]
  congr 1; funext v
  rw [bI (h z ai)]
 case insert t x y z =>
  rw [bI (h x ai)]
  congr 1; funext v
  rw [bI (h y ai)]
  congr 1; funext v
  rw [bI (h z ai)]
 case mapEntry t x y =>
  rw [bI (h x ai)]
  congr 1; funext v
  rw [bI (h y ai)]
 case entryStore t x y z =>
  rw [bI (h x ai)]
  congr 1; funext v
  rw [bI (h y ai)]
  congr 1; funext v
  rw [bI (h z ai)]
 case call c =>
  cases hc:c.callee with
  | builtin b =>
   simp only [hc];rw [ff (λx a=>h x (by simp [Call.operands,hc]; simpa using a))]
  | invoke r m=>simp only [hc]
  | value f =>
   simp only [hc];cases Hi f
   ·simp only;rw [bI (h f (by simp [Call.operands,hc]))]
    congr 1; funext v
    rw [ff (xs:=c.args.toList) (λx a=>h x (by simp [Call.operands,hc]; right; simpa using a))]
   ·simp only;rw [bI (h f (by simp [Call.operands,hc]))]
    congr 1; funext v
    rw [ff (xs:=c.args.toList) (λx a=>h x (by simp [Call.operands,hc]; right; simpa using a))]
 all_goals first | rfl | exact bI (h _ ai) _
end congr
section pures
variable {P:Program} {L:Lp} {K:Xab->Hp->Prop} {h:Hp}
def ef (F:(Xab->T)->T) (d:Xab->T) (L:Lp) (K:Xab->Hp->Prop) (h:Hp):Prop :=
 ∃ v,d v L K h/\∀ (a:Xab->T) b c h',a v b c h'->F a b c h'
variable {O:Env}
def dH {x:Operand} {F:(Xab->T)->Xab->T} {a:Xab->T} (d:∀ v,F a v L K h->ef (λa=>F a v) a L K h)
  (ht:cd O x (F a) L K h):ef (λa=>cd O x (F a)) a L K h:=by
 obtain ⟨v,hv,ht⟩:=bF ht;obtain ⟨u,hk,b⟩:=d v ht;refine ⟨u,hk,λc f g h' i=>?_⟩;unfold cd;simp only [hv];exact b c f g h' i
theorem qi {e:Env}:∀ {xs:List Operand} {F:(Xab->T)->List Xab->T} {a:Xab->T},(∀ v,F a v L K h->ef (λa=>F a v) a L K h) ->
  jh e xs (F a) L K h->ef (λa=>jh e xs (F a)) a L K h
 | [],F,a,b,ht=>b [] ht
 | x::xs,F,a,b,ht=>by
  refine dH (F:=λa v=>jh e xs λl=>F a (v::l)) ?_ ht;intro v ht;exact qi (F:=λa l=>F a (v::l)) (λl hl=>b (v::l) hl) ht
def cZ {a:Xab->T} {v:Xab} (ht:a v L K h):ef (λa=>a v) a L K h:=⟨v,ht,λ_ _ _ _ b=>b⟩
def qP {p:Prop} {F:(Xab->T)->T} {a:Xab->T} (d:F a L K h->ef F a L K h) (ht:T.need p (F a) L K h):ef (λa=>T.need p (F a)) a L K h:=by
 obtain ⟨e,ht⟩:=ht;obtain ⟨v,hk,b⟩:=d ht;exact ⟨v,hk,λc f g h' i=>⟨e,b c f g h' i⟩⟩
def Cz {q:Xac} {F:(Xab->T)->Xax->T} {b:Xab->T} (e:∀ a,F b a L K h->ef (λb=>F b a) b L K h) (ht:T.bh q (F b) L K h) :
  ef (λb=>T.bh q (F b)) b L K h:=by
 obtain ⟨a,rfl,ht⟩:=gZ ht;obtain ⟨v,hk,c⟩:=e a ht;exact ⟨v,hk,λd f g h' i=>c d f g h' i⟩
variable {U:Bool}
def tX {F G:(Xab->T)->T} {a:Xab->T} (c:F a L K h->ef F a L K h) (d:G a L K h->ef G a L K h) (ht:cond U (F a) (G a) L K h) :
  ef (λa=>cond U (F a) (G a)) a L K h:=by
 cases U
 ·exact d ht
 ·exact c ht
def xh {op:BinOp} {a:Xab->T} (ht:asked op U a T.fail L K h):ef (λa=>asked op U a T.fail) a L K h:=by
 cases op <;> first | exact cZ ht | exact ht.elim
variable {V:IntKind} {Y Z:Int}
def US {op:BinOp} {a:Xab->T} (ht:Ki op V Y Z a L K h):ef (λa=>Ki op V Y Z a) a L K h:=by
 cases op <;> first
  | exact ht.elim
  | exact cZ ht
  | exact qP (F:=λa=>a _) cZ ht
def MF {op:BinOp} {a:Xab->T} (ht:Bo op V Y Z a L K h):ef (λa=>Bo op V Y Z a) a L K h:=by
 cases op <;> first
  | exact ht.elim
  | exact qP (F:=λa=>a _) cZ ht
def Vd {op:BinOp} {m n:Xaa} {a:Xab->T} (ht:Kb op m n a L K h):ef (λa=>Kb op m n a) a L K h:=by
 cases op <;> first
  | exact ht.elim
  | exact cZ ht
  | exact qP (F:=λa=>a _) cZ ht
variable {H:TypeId}
def Ps {op:BinOp} {a b:Xab} {f:Xab->T} (ht:uQ P op H a b f L K h):ef (λf=>uQ P op H a b f) f L K h:=by
 unfold uQ at ht ⊢;cases a <;> cases b <;> first | exact ht.elim | skip
 case bool.bool m n =>
  generalize P.underlying H=e at ht ⊢;cases e with
  | none=>exact ht.elim
  | some d=>cases d <;> first | exact ht.elim | exact xh ht
 case int.int k m k' n =>
  simp only at ht ⊢;cases g:oc op with
  | true=>simp only [g] at ht ⊢; exact MF ht
  | false =>
   simp only [g] at ht ⊢
   by_cases hk:k=k'
   ·subst hk;simp only [decide_true] at ht ⊢;exact US ht
   ·simp only [hk,decide_false] at ht;exact ht.elim
 case string.string m n=>exact Vd ht
 case pointer.pointer p q =>
  generalize P.underlying H=e at ht ⊢;cases e with
  | none=>exact ht.elim
  | some d=>cases d <;> first | exact ht.elim | exact xh ht
 case slice.slice p l c q l' c' =>
  generalize P.underlying H=e at ht ⊢;cases e with
  | none=>exact ht.elim
  | some d=>cases d <;> first | exact ht.elim | exact xh ht
 case map.map p q =>
  generalize P.underlying H=e at ht ⊢;cases e with
  | none=>exact ht.elim
  | some d=>cases d <;> first | exact ht.elim | exact xh ht
def XR {op:UnOp} {a:Xab} {b:Xab->T} (ht:Yl op a b L K h):ef (λb=>Yl op a b) b L K h:=by
 cases op <;> cases a <;> first | exact ht.elim | exact cZ ht
def N8 {cs : List Xab} {off : Nat} {a : Xab -> T} (ht : uU P H cs off a L K h) : ef (λa => uU P H cs off a) a L K h := by
  unfold uU at ht ⊢;generalize P.underlying H = b at ht ⊢;cases b with
  | none => exact ht.elim
  | some d =>
    cases d <;> first
      | exact cZ ht
      | (cases hv : cs[off]? with
         | none => simp only [hv] at ht; exact ht.elim
         | some v => simp only [hv] at ht ⊢; exact cZ ht)
def MM {a:Xab} {lo hi:Option Xab} {b:Xab->T} (c:(match P.underlying H with
  | some .string=>true
  | some (.slice _)=>true
  | _=>false)=true) (ht:jy P H a lo hi none b L K h):ef (λb=>jy P H a lo hi none b) b L K h:=by
 unfold jy at ht ⊢;cases hint:eV lo && eV hi && eV none with
 | false=>simp only [hint] at ht; exact ht.elim
 | true =>
  simp only [hint] at ht ⊢;generalize P.underlying H=f at ht c ⊢;cases f with
  | none=>cases c
  | some d =>
   cases d <;> simp only [Bool.false_eq_true] at c
   case string=>cases a <;> first | exact ht.elim | exact qP (F:=λb=>b _) cZ ht
   case slice g =>
    cases a <;> first | exact ht.elim | skip
    simp only at ht ⊢;cases e:oQ P g with
    | false=>simp only [e] at ht; exact ht.elim
    | true=>simp only [e] at ht ⊢; exact qP (F:=λb=>b _) cZ ht
theorem ur {agg:Nat->Option Bool}:∀ {ps:List (Nat × Xab)} {F:(Xab->T)->List (Nat × List Xab)->T} {a:Xab->T},(∀ r,F a r L K h->ef (λa=>F a r) a L K h) ->
  fP agg ps (F a) L K h->ef (λa=>fP agg ps (F a)) a L K h
 | [],F,a,c,ht=>c [] ht
 | (i,v)::l,F,a,c,ht=>by
  simp only [fP] at ht ⊢;cases e:agg i with
  | none=>rw [e] at ht; exact ht.elim
  | some b =>
   rw [e] at ht;cases b with
   | true=>exact tX (F:=λa=>fP agg l λr=>F a ((i,kC v)::r)) (G:=λ_=>T.fail) (λht=>ur (F:=λa r=>F a ((i,kC v)::r)) (λr d=>c _ d) ht) (λht=>ht.elim) ht
   | false=>exact tX (F:=λ_=>T.fail) (G:=λa=>fP agg l λr=>F a ((i,[v])::r)) (λht=>ht.elim) (λht=>ur (F:=λa r=>F a ((i,[v])::r)) (λr d=>c _ d) ht) ht
def Qt {o:Oper} {g:Xab->T} (j:tO P o=true) (ht:wy P o O g L K h):ef (λg=>wy P o O g) g L K h:=by
 obtain ⟨dst,op,C,pos,after,guard⟩:=o;cases op <;> simp only [tO,Bool.false_eq_true] at j <;> simp only [wy] at ht ⊢
 case move x=>exact dH (F:=λg v=>g v) (λv hv=>cZ hv) ht
 case pick c x y =>
  refine dH (F:=λg c=>match c with
   | .bool b'=>cond b' (cd O x g) (cd O y g)
   | _=>T.fail) (λv hv=>?_) ht
  cases v <;> first | exact hv.elim | skip
  exact tX (F:=λg=>cd O x g) (G:=λg=>cd O y g) (λht=>dH (F:=λg v=>g v) (λv hv=>cZ hv) ht) (λht=>dH (F:=λg v=>g v) (λv hv=>cZ hv) ht) hv
 case build t ps =>
  refine qi (F:=λg n=>match P.underlying t,(P.info? t).bind (·.zero) with
   | some (.struct q),some z =>
    bif !(q.all λf=>oQ P f.type) then T.fail else fP (λi=>(q[i]?).bind λf=>cO P f.type) ((ps.toList.map (·.1)).zip n) λu=>match fZ (((q.map λf=>(f.offset,P.cellsOf f.type)))[·]?) z.cells.toList u with
    | some cs=>g (.agg cs.toArray)
    | none=>T.fail
   | some (.array _ B),some z =>
    bif !oQ P B then T.fail else fP (λ_=>cO P B) ((ps.toList.map (·.1)).zip n) λu=>match fZ (λi=>some (i*P.cellsOf B,P.cellsOf B)) z.cells.toList u with
    | some cs=>g (.agg cs.toArray)
    | none=>T.fail
   | _,_=>T.fail) (λn hv=>?_) ht
  generalize P.underlying t=A at hv ⊢;generalize (P.info? t).bind (·.zero)=z at hv ⊢;cases A with
  | none=>exact hv.elim
  | some d =>
   cases d <;> first | exact hv.elim | skip
   case array len B =>
    cases z with
    | none=>exact hv.elim
    | some z =>
     refine tX (F:=λ_=>T.fail) (G:=λg=>fP (λ_=>cO P B) ((ps.toList.map (·.1)).zip n) λu=>match fZ (λi=>some (i*P.cellsOf B,P.cellsOf B)) z.cells.toList u with
      | some cs=>g (.agg cs.toArray)
      | none=>T.fail) (λht=>ht.elim) (λht=>?_) hv
     refine ur (F:=λg u=>match fZ (λi=>some (i*P.cellsOf B,P.cellsOf B)) z.cells.toList u with
      | some cs=>g (.agg cs.toArray)
      | none=>T.fail) (λu ht=>?_) ht
     cases D:fZ (λi=>some (i*P.cellsOf B,P.cellsOf B)) z.cells.toList u with
     | none=>simp only [D] at ht; exact ht.elim
     | some cs=>simp only [D] at ht ⊢; exact cZ ht
   case struct q =>
    cases z with
    | none=>exact hv.elim
    | some z =>
     refine tX (F:=λ_=>T.fail) (G:=λg=>fP (λi=>(q[i]?).bind λf=>cO P f.type) ((ps.toList.map (·.1)).zip n) λu=>match fZ (((q.map λf=>(f.offset,P.cellsOf f.type)))[·]?) z.cells.toList u with
      | some cs=>g (.agg cs.toArray)
      | none=>T.fail) (λht=>ht.elim) (λht=>?_) hv
     refine ur (F:=λg u=>match fZ (((q.map λf=>(f.offset,P.cellsOf f.type)))[·]?) z.cells.toList u with
      | some cs=>g (.agg cs.toArray)
      | none=>T.fail) (λu ht=>?_) ht
     cases D:fZ (((q.map λf=>(f.offset,P.cellsOf f.type)))[·]?) z.cells.toList u with
     | none=>simp only [D] at ht; exact ht.elim
     | some cs=>simp only [D] at ht ⊢; exact cZ ht
 case nilCheck x =>
  refine dH (F:=λg v=>match v with
   | .pointer p=>T.bh p λa=>g (.pointer (some a))
   | .func (.func f) J E=>g (.func (.func f) J E)
   | .iface t v=>g (.iface t v)
   | _=>T.fail) (λv hv=>?_) ht
  cases v with
  | pointer p=>exact Cz (F:=λg a=>g (.pointer (some a))) (λa H=>cZ H) hv
  | func fn J E=>cases fn <;> first | exact hv.elim | exact cZ hv
  | iface t w=>exact cZ hv
  | _=>exact hv.elim
 case binOp op t x y R =>
  refine dH (F:=λg a=>cd O y λb=>FB P op t x y a b g) (λa H=>?_) ht;refine dH (F:=λg b=>FB P op t x y a b g) (λb M=>?_) H;unfold FB at M ⊢;simp only [j] at M ⊢;exact Ps M
 case unOp op t x=>exact dH (F:=λg a=>Yl op a g) (λv hv=>XR hv) ht
 case convert s d x =>
  refine dH (F:=λg a=>zh P s d a g) (λv hv=>?_) ht;unfold zh at hv ⊢;generalize P.underlying s=us at hv j ⊢;generalize P.underlying d=A at hv j ⊢;cases us with
  | none=>cases j
  | some us =>
   cases A with
   | none=>cases us <;> cases j
   | some A =>
    cases us <;> first | (cases A <;> cases j; done) | skip
    case int k=>cases A <;> first | (cases j; done) | (cases v <;> first | exact hv.elim | exact cZ hv)
    case string=>cases A <;> first | (cases j; done) | (cases v <;> first | exact hv.elim | exact cZ hv)
 case makeInterface t x =>
  refine dH (F:=λg a=>match P.underlying t with
   | some (.interface _)=>T.fail
   | some _=>g (.iface t a)
   | none=>T.fail) (λv hv=>?_) ht
  generalize P.underlying t=A at hv ⊢;cases A with
  | none=>exact hv.elim
  | some d=>cases d <;> first | exact hv.elim | exact cZ hv
 case makeFunc fn J E =>
  refine qi (F:=λg J=>jh O E.toList λE=>g (.func fn J.toArray E.toArray)) (λJ hv=>?_) ht;exact qi (F:=λg E=>g (.func fn J.toArray E.toArray)) (λE hv=>cZ hv) hv
 case slice t x lo hi N =>
  cases N with
  | some m=>cases j
  | none =>
  simp only at j;refine dH (F:=λg a=>jh O (lo.toList++hi.toList++(none:Option Operand).toList) λn=>Yr P t lo hi none a n g) (λa H=>?_) ht;refine qi (F:=λg n=>Yr P t lo hi none a n g) (λn hv=>?_) H;unfold Yr at hv ⊢;cases lo <;> cases hi <;> rcases n with _ | ⟨l,_ | ⟨S,_ | ⟨U,n⟩⟩⟩ <;> first
   | exact hv.elim
   | exact MM j hv
 case fieldAddr s x f =>
  refine dH (F:=λg v=>match v,P.underlying s with
   | .pointer p,some (.struct q)=>match q[f]? with
    | some I=>match P.cellsOf I.type with
     | 0=>T.fail
     | _+1=>T.bh p λa=>g (.pointer (some (a.add I.offset)))
    | none=>T.fail
   | _,_=>T.fail) (λv hv=>?_) ht
  generalize P.underlying s=us at hv ⊢;cases v <;> first | exact hv.elim | skip
  cases us with
  | none=>exact hv.elim
  | some us =>
   cases us <;> first | exact hv.elim | skip
   rename_i q;simp only at hv ⊢;cases D:q[f]? with
   | none=>simp only [D] at hv; exact hv.elim
   | some I =>
    simp only [D] at hv ⊢;cases hc:P.cellsOf I.type with
    | zero=>simp only [hc] at hv; exact hv.elim
    | succ m=>simp only [hc] at hv ⊢; exact Cz (F:=λg a=>g (.pointer (some (a.add I.offset)))) (λa H=>cZ H) hv
 case field s x f =>
  refine dH (F:=λg v=>match v,P.underlying s with
   | .agg cs,some (.struct q)=>match q[f]? with
    | some I=>uU P I.type cs.toList I.offset g
    | none=>T.fail
   | _,_=>T.fail) (λv hv=>?_) ht
  generalize P.underlying s=us at hv ⊢;cases v <;> first | exact hv.elim | skip
  cases us with
  | none=>exact hv.elim
  | some us =>
   cases us <;> first | exact hv.elim | skip
   rename_i q;simp only at hv ⊢;cases D:q[f]? with
   | none=>simp only [D] at hv; exact hv.elim
   | some I=>simp only [D] at hv ⊢; exact N8 hv
 case indexAddr t x i =>
  refine dH (F:=λg v=>cd O i λi=>zK P t v i g) (λv hv=>?_) ht;refine dH (F:=λg i=>zK P t v i g) (λi hi=>?_) hv;unfold zK at hi ⊢;generalize P.underlying t=us at hi ⊢;cases v <;> cases i <;> first | exact hi.elim | skip
  all_goals
   cases us with
   | none=>exact hi.elim
   | some us =>
    cases us <;> first | exact hi.elim | skip
    refine tX (F:=λ_=>T.fail) (λht=>ht.elim) (λht=>?_) hi;exact qP (F:=λg=>T.bh _ λa=>g (.pointer (some (a.add (_*P.cellsOf _))))) (Cz (F:=λg a=>g (.pointer (some (a.add (_*P.cellsOf _))))) (λa H=>cZ H)) ht
 case index t x i =>
  refine dH (F:=λg v=>cd O i λi=>Je P t v i g) (λv hv=>?_) ht;refine dH (F:=λg i=>Je P t v i g) (λi hi=>?_) hv;unfold Je at hi ⊢;generalize P.underlying t=us at hi j ⊢;cases us with
  | none=>cases j
  | some us =>
   cases us <;> simp only [Bool.false_eq_true] at j;cases v <;> cases i <;> first | exact hi.elim | exact qP (F:=λg=>g _) cZ hi
 case extract x i =>
  refine dH (F:=λg v=>match v with
   | .tuple n=>match n.toList[i]? with
    | some v=>g v
    | none=>T.fail
   | _=>T.fail) (λv hv=>?_) ht
  cases v <;> first | exact hv.elim | skip
  rename_i n;simp only at hv ⊢;cases hi:n.toList[i]? with
  | none=>simp only [hi] at hv; exact hv.elim
  | some w=>simp only [hi] at hv ⊢; exact cZ hv
 case call c =>
  cases hc:c.callee with
  | value f=>simp only [hc] at j; cases j
  | invoke r m=>simp only [hc] at j; cases j
  | builtin b =>
   simp only [hc] at j ht ⊢;refine qi (F:=λg n=>tC P b c C n g) (λn hv=>?_) ht;cases b <;> simp only [Bool.false_eq_true] at j
   case len =>
    have hv:A' P c C n g L K h:=hv;show ef (λg=>A' P c C n g) g L K h;unfold A' at hv ⊢;generalize (c.argTypes[0]?).bind P.underlying=A at hv j ⊢;cases A with
    | none=>cases j
    | some d =>
     cases d <;> simp only [Bool.false_eq_true] at j
     all_goals
      rcases n with _ | ⟨v,_ | ⟨Q,l⟩⟩ <;> first | exact hv.elim | skip
      all_goals cases v <;> first | exact hv.elim | exact cZ hv
   case cap =>
    have hv:MN P c n g L K h:=hv;show ef (λg=>MN P c n g) g L K h;unfold MN at hv ⊢;generalize (c.argTypes[0]?).bind P.underlying=A at hv j ⊢;cases A with
    | none=>cases j
    | some d =>
     cases d <;> simp only [Bool.false_eq_true] at j
     all_goals
      rcases n with _ | ⟨v,_ | ⟨Q,l⟩⟩ <;> first | exact hv.elim | skip
      all_goals cases v <;> first | exact hv.elim | exact cZ hv
end pures
section draws
variable {P:Program} {n:Nd} {ops:Array Oper}
theorem iC {x:Nat}:∀ {l:List Nat},uG x l=true↔x∈l
 | []=>by simp [uG]
 | y::l=>by
  simp only [uG,Bool.or_eq_true,List.mem_cons,iC (l:=l)];constructor
  ·rintro (h | h)
   ·exact .inl (av9 h)
   ·exact .inr h
  ·rintro (h | h)
   ·subst h; exact .inl ai
   ·exact .inr h
theorem KU {p:Nat × Oper}:∀ {l:List Oper} {k:Nat},p∈idx k l↔∃ j,l[j]?=some p.2/\p.1=k+j
 | [],k=>by simp [idx]
 | o::l,k=>by
  simp only [idx,List.mem_cons,KU (l:=l)];constructor
  ·rintro (h | ⟨j,h1,h2⟩)
   ·subst h; exact ⟨0,ai,ai⟩
   ·exact ⟨j+1,by simpa using h1,ad⟩
  ·rintro ⟨j,h1,h2⟩;cases j with
   | zero=>left; simp at h1; subst h1; obtain ⟨a,b⟩:=p; simp at h2; subst h2; rfl
   | succ j=>right; exact ⟨j,by simpa using h1,ad⟩
def jv {i:Nat} {o:Oper}:(i,o)∈idx 0 ops.toList↔ops[i]?=some o:=by
 rw [KU];constructor
 ·rintro ⟨j,h1,h2⟩;simp at h2; subst h2;simpa using h1
 ·intro h; exact ⟨i,by simpa using h,ai⟩
def Rx (b:eN P n ops=true) {i:Nat} {x:Oper} (hi:ops[i]?=some x) {d:Nat} (c:x.dst=some d):d<n:=by
 unfold eN at b;rw [bm9] at b;have h1:=bn9.1 b.1 (i,x) (jv.2 hi);simp only [c] at h1;simpa [Nat.blt_eq] using h1
def Jk (b:eN P n ops=true) {i:Nat} {x:Oper} (hi:ops[i]?=some x) {d:Nat} (c:x.dst=some d) (hc:calm P x=true):d∉looks ops x:=by
 unfold eN at b;rw [bm9] at b;have h1:=bn9.1 (bn9.1 b.2 (i,x) (jv.2 hi)) (i,x) (jv.2 hi);unfold KB at h1;have f:Nat.beq i i=true:=ai
 simp only [f,c,hc,Bool.not_true,Bool.false_or,Bool.not_eq_true'] at h1;intro hl;rw [iC.2 hl] at h1; cases h1
def pU (b:eN P n ops=true) {i j:Nat} {x y:Oper} (hi:ops[i]?=some x) (k:ops[j]?=some y) (c:i≠j) :
  (∀ d,y.dst=some d->d∈looks ops x->j∈waits x\/(i∈waits y/\calm P y=false))/\(∀ d,x.dst=some d->calm P x=true->y.dst≠some d):=by
 unfold eN at b;rw [bm9] at b;have h1:=bn9.1 (bn9.1 b.2 (i,x) (jv.2 hi)) (j,y) (jv.2 k);unfold KB at h1;have f:Nat.beq i j=false:=by
  cases f:Nat.beq i j
  ·rfl
  ·exact (c (av9 f)).elim
 simp only [f,Bool.and_eq_true] at h1;refine ⟨λd g hl=>?_,λd g hc l=>?_⟩
 ·have h2:=h1.1;simp only [g,Bool.or_eq_true,Bool.and_eq_true,Bool.not_eq_true'] at h2;rcases h2 with (h2 | h2) | ⟨h2,o⟩
  ·have:=iC.2 hl; rw [this] at h2; cases h2
  ·exact .inl (iC.1 h2)
  ·exact .inr ⟨iC.1 h2,o⟩
 ·have h2:=h1.2;simp only [g,hc,l,nY] at h2;simp at h2
def Cw (ops:Array Oper) (o:Oper) (e:Env) (b:Bool):Prop :=
 match o.guard with
 | none=>b=true
 | some (j,w)=>match (ops[j]?).bind (·.dst) with
  | none=>b=false
  | some d=>(∃ t,db e d=some (.bool t)/\b=(t==w))\/(∃ c,db e d=some (.tuple c)/\b=false)
def zw {o:Oper} {j d:Nat} {w:Bool} (b:o.guard=some (j,w)) (c:(ops[j]?).bind (·.dst)=some d):d∈looks ops o:=by
 unfold looks;rw [b];simp only [c];exact bi9 _ ai
def Cw.wanted {o:Oper} {e:Env} {b:Bool} (h:Cw ops o e b) {tm:Array Xab} (ht:∀ s∈looks ops o,∀ v,db e s=some v->tm.getD s undef=v) :
  Region.wanted o (yielded ops tm)=b:=by
 unfold Cw at h;cases f:o.guard with
 | none=>simp only [f] at h; subst h; exact zf f
 | some p =>
  obtain ⟨j,w⟩:=p;simp only [f] at h;rw [zp f];cases c:(ops[j]?).bind (·.dst) with
  | none=>simp only [c] at h; subst h; simp [yielded,c]
  | some d =>
   simp only [c] at h;have hl:=zw f c;rcases h with ⟨t,h1,rfl⟩ | ⟨g,h1,rfl⟩
   ·rw [xi c (ht d hl _ h1)]; cases t <;> cases w <;> rfl
   ·rw [uT c (ht d hl _ h1)]; rfl
def Cw.congr {o:Oper} {e g:Env} {b:Bool} (h:Cw ops o e b) (i:∀ s∈looks ops o,db g s=db e s):Cw ops o g b:=by
 unfold Cw at h ⊢;cases c:o.guard with
 | none=>simp only [c] at h ⊢; exact h
 | some p =>
  obtain ⟨j,w⟩:=p;simp only [c] at h ⊢;cases f:(ops[j]?).bind (·.dst) with
  | none=>simp only [f] at h ⊢; exact h
  | some d=>simp only [f] at h ⊢; rw [i d (zw c f)]; exact h
def ub {e:Env} {d:Nat} {v:Xab} (h:db e d=some v) (s:Nat):db (eE n e (some d) v) s=db e s:=by
 simp only [eE];cases Nat.blt d n with
 | false=>rfl
 | true =>
  simp only [cond_true,dQ]
  by_cases b:d=s
  ·subst b; rw [ag9 rfl,h]
  ·rw [ac9 b]
variable {H:Lp}
def A7 {o:Oper} {e:Env} {c no:Env->T} {K:Xab->Hp->Prop} {h:Hp} (ht:mX n ops o e c no H K h) :
  ∃ f b,(∀ s,db f s=db e s)/\Cw ops o e b/\((b=true/\c f H K h)\/(b=false/\no f H K h)):=by
 unfold mX guardOf at ht;unfold Cw;cases g:o.guard with
 | none=>simp only [g] at ht ⊢; exact ⟨e,true,λ_=>rfl,rfl,.inl ⟨rfl,ht⟩⟩
 | some p =>
  obtain ⟨j,w⟩:=p;simp only [g] at ht ⊢;cases i:(ops[j]?).bind (·.dst) with
  | none=>simp only [i] at ht ⊢; exact ⟨e,false,λ_=>rfl,rfl,.inr ⟨rfl,ht⟩⟩
  | some d =>
   simp only [i] at ht ⊢;cases hv:db e d with
   | none=>simp only [hv] at ht; exact ht.elim
   | some v =>
    cases v <;> simp only [hv] at ht <;> first | exact ht.elim | skip
    case tuple l=>exact ⟨e,false,λ_=>rfl,.inr ⟨l,rfl,rfl⟩,.inr ⟨rfl,ht⟩⟩
    case bool b =>
     cases w <;> simp only at ht <;> rcases gH ht with ⟨k,ht⟩ | ⟨k,ht⟩ <;> subst k
     ·exact ⟨_,false,ub hv,.inl ⟨true,rfl,rfl⟩,.inr ⟨rfl,ht⟩⟩
     ·exact ⟨_,true,ub hv,.inl ⟨false,rfl,rfl⟩,.inl ⟨rfl,ht⟩⟩
     ·exact ⟨_,true,ub hv,.inl ⟨true,rfl,rfl⟩,.inl ⟨rfl,ht⟩⟩
     ·exact ⟨_,false,ub hv,.inl ⟨false,rfl,rfl⟩,.inr ⟨rfl,ht⟩⟩
def only (e:Env) (l:List Nat):Env:=l.filterMap λs=>(db e s).map λv=>(s,some v)
theorem uk {e:Env}:∀ {l:List Nat} {s:Nat},db (only e l) s=if s∈l then db e s else none
 | [],s=>by simp [only,db]
 | t::l,s=>by
  unfold only;rw [List.filterMap_cons];cases hv:db e t with
  | none =>
   simp only [Option.map_none];rw [show List.filterMap (λs=>(db e s).map λv=>(s,some v)) l=only e l from rfl,uk]
   by_cases h1:s∈l
   ·simp [h1]
   ·by_cases h2:s=t
    ·subst h2; simp [h1,hv]
    ·simp [h1,h2]
  | some v =>
   simp only [Option.map_some];rw [dQ,show List.filterMap (λs=>(db e s).map λv=>(s,some v)) l=only e l from rfl,uk]
   by_cases h1:t=s
   ·subst h1; simp [hv]
   ·have h2:¬ s=t:=λb=>h1 b.symm
    simp [h1,h2]
def y7 {o:Oper} {t:Nat} (h:Operand.tmp t∈o.op.operands):t∈looks ops o:=by
 unfold looks;refine be9 _ (dz9.2 ⟨.tmp t,by simpa using h,rfl⟩)
def G3 {o:Oper} {e:Env} {kk:Xab->T}:wy P o (only e (looks ops o)) kk=wy P o e kk:=by
 refine yB (λx b=>?_) kk;cases x <;> try rfl
 rename_i t;simp only [ev];rw [uk,ag9 (y7 b)]
def Gr {e:Env} {a:Act} {l:List Nat} (b:a.tmps.size=n.n) (c:a.defers=n.d) (h:∀ s∈l,∀ v,db e s=some v->a.tmps.getD s undef=v):iI n (only e l) a:=by
 refine ⟨b,c,λs v hv=>?_⟩;rw [uk] at hv;split at hv
 ·rename_i f; exact h s f v hv
 ·cases hv
def Rs (P : Program) (n : Nd) (ops : Array Oper) (e : Env) (m : Made) (h : Hp) (i : Nat) (o : Oper) : Prop :=
  calm P o = true /\ ∃ v b, (∀ d, o.dst = some d -> d < n -> db e d = some v) /\ Cw ops o e b /\
    ((b = false /\ v = undef) \/ (b = true /\ ((∀ (c : Xab -> T) L K h', c v L K h' -> wy P o e c L K h') \/
      (∃ p l, (i, p, l) ∈ m /\ aH h p 0 l /\ ∀ (c : Xab -> T) L K h', aH h' p 0 l -> c v L K h' -> wy P o e c L K h'))))
def AG (ops:Array Oper):List Nat->Prop
 | []=>True
 | i::D=>i∉D/\(∀ o,ops[i]?=some o->∀ j∈waits o,j∈D)/\AG ops D
structure sR (P:Program) (n:Nd) (ops:Array Oper) (e0:Env) (listed:Array Bool) (a:Act) (h:Hp) (D:List Nat) (e:Env) (m:Made):Prop where
 wX:listed.size=ops.size
 size:a.tmps.size=n.n
 defers:a.defers=n.d
 lD:∀ i,listed[i]?=some true->i∈D
 dD:∀ i∈D,∃ o,ops[i]?=some o
 closed:AG ops D
 Zp:∀ s v,db e s=some v->(∀ j∈D,∀ o,ops[j]?=some o->listed[j]?=some false->o.dst≠some s)->a.tmps.getD s undef=v
 RT:∀ i∈D,∀ o,ops[i]?=some o->listed[i]?=some false->Rs P n ops e m h i o
 fr:Fr (dstsOf ops) e0 e
theorem tB:∀ {D:List Nat},AG ops D->∀ i∈D,∀ o,ops[i]?=some o->∀ j∈waits o,j∈D
 | d::D,hc,i,hi,o,b,j,c=>by
  rcases bd9.1 hi with rfl | hi
  ·exact aq9 _ (hc.2.1 o b j c)
  ·exact aq9 _ (tB hc.2.2 i hi o b j c)
theorem uW (listed:Array Bool):∀ {D:List Nat},AG ops D->(∀ i∈D,∃ o,ops[i]?=some o)->(∃ i∈D,listed[i]?=some false)->(∀ i∈D,listed[i]?=some true\/listed[i]?=some false) ->
  ∃ i∈D,listed[i]?=some false/\∀ o,ops[i]?=some o->∀ j∈waits o,listed[j]?=some true
 | i'::D,hc,g,⟨i,hi,f⟩,b=>by
  by_cases c:∃ i∈D,listed[i]?=some false
  ·obtain ⟨k,hk,h1,h2⟩:=uW listed hc.2.2 (λi hi=>g i (aq9 _ hi)) c (λi hi=>b i (aq9 _ hi));exact ⟨k,aq9 _ hk,h1,h2⟩
  ·have d:i=i':=by
    rcases bd9.1 hi with h | h
    ·exact h
    ·exact (c ⟨i,h,f⟩).elim
   subst d;refine ⟨i,ai,f,λo l j p=>?_⟩;have hjD:=hc.2.1 o l j p;rcases b j (aq9 _ hjD) with h | h
   ·exact h
   ·exact (c ⟨j,hjD,h⟩).elim
def lE {e:Env} {dst:Option Tmp} {v:Xab} {s:Nat} (b:dst≠some s):db (eE n e dst v) s=db e s:=by
 cases dst with
 | none=>rfl
 | some d =>
  simp only [eE];cases Nat.blt d n with
  | false=>rfl
  | true=>simp only [cond_true,dQ]; rw [ac9 (λc:d=s=>b (by rw [c]))]
def vh {e:Env} {d:Nat} {v:Xab} (b:d<n):db (eE n e (some d) v) d=some v:=by
 have c:Nat.blt d n=true:=by rw [Nat.blt_eq]; exact b
 simp only [eE,c,cond_true,dQ,if_true]
def Li {a:Act} {dst:Option Tmp} {v:Xab} {s:Nat} (c:dst≠some s):(a.put dst v).tmps.getD s undef=a.tmps.getD s undef:=by
 cases dst with
 | none=>rfl
 | some d =>
  have b:d≠s:=λf=>c (by rw [f])
  simp [Act.put,Array.getD_eq_getD_getElem?,Array.getElem?_setIfInBounds,b]
def wK {a:Act} {d:Nat} {v:Xab} (b:d<a.tmps.size):(a.put (some d) v).tmps.getD d undef=v:=by
 simp [Act.put,Array.getD_eq_getD_getElem?,Array.getElem?_setIfInBounds,b]
def GP (a:Act) (dst:Option Tmp) (v:Xab):(a.put dst v).tmps.size=a.tmps.size:=by cases dst <;> simp [Act.put]
def put_defers (a:Act) (dst:Option Tmp) (v:Xab):(a.put dst v).defers=a.defers:=by cases dst <;> rfl
variable {e0:Env} {listed:Array Bool} {a:Act} {h:Hp} {D:List Nat} {e:Env} {m:Made}
def H6 {i:Nat} {o:Oper} (b:ops[i]?=some o) {d:Nat} (c:o.dst=some d):d∈dstsOf ops:=K5 (j:=i) (by rw [b]; exact c)
def Fr.step {n:Nat} {l:List Nat} {e0 e b:Env} {o:Oper} {v:Xab} (h:Fr l e0 e) (c:∀ s,db b s=db e s) (f:∀ d,o.dst=some d->d∈l):Fr l e0 (Sx.eE n b o.dst v) :=
 (h.trans (λs _=>c s)).trans (Fr.eE n b v f)
def sR.xT (I:sR P n ops e0 listed a h D e m) {i:Nat} {o:Oper} (d:ops[i]?=some o) (hn:listed[i]?≠some true):listed[i]?=some false:=by
 have c:i<ops.size:=by
  rcases cj9 i ops.size with h | h
  ·exact h
  ·rw [cx9 h] at d; cases d
 have b:i<listed.size:=by rw [I.wX]; exact c
 rw [dj9 b] at hn ⊢;cases f:listed[i] with
 | false=>rfl
 | true=>rw [f] at hn; exact (hn rfl).elim
def sR.LS (c:eN P n ops=true) (I:sR P n ops e0 listed a h D e m) {i:Nat} {o:Oper} (f:ops[i]?=some o) (p:∀ j∈waits o,listed[j]?=some true)
  (hi:i∉D\/calm P o=true):∀ s∈looks ops o,∀ v,db e s=some v->a.tmps.getD s undef=v:=by
 intro s k v hv;refine I.Zp s v hv ?_;intro j q r b g l;have hcj:=(I.RT j q r b g).1
 by_cases d:i=j
 ·subst d;rw [f] at b; obtain rfl:=bb9 b;exact Jk c f l hcj k
 ·rcases (pU c f b d).1 s l k with h1 | ⟨_,h1⟩
  ·rw [p j h1] at g; cases g
  ·rw [hcj] at h1; cases h1
def sR.exec (p:eN P n ops=true) (I:sR P n ops e0 listed a h D e m) {i:Nat} {o:Oper} (y:ops[i]?=some o) (q:i∈D) (z:listed[i]?=some false) {v:Xab}
  (hv:∀ d,o.dst=some d->db e d=some v) (hc:calm P o=true):sR P n ops e0 (listed.setIfInBounds i true) (a.put o.dst v) h D e m:=by
 have r:i<listed.size:=by
  rcases cj9 i listed.size with h | h
  ·exact h
  ·rw [cx9 h] at z; cases z
 have ml:∀ j,(listed.setIfInBounds i true)[j]?=if i=j then some true else listed[j]?:=by
  intro j;rw [dm9]
  by_cases b:i=j
  ·subst b; simp [r]
  ·simp [b]
 refine ⟨by simp [I.wX],by rw [GP,I.size],by rw [put_defers,I.defers],?_,I.dD,I.closed,?_,?_,I.fr⟩
 ·intro j g;rw [ml] at g
  by_cases b:i=j
  ·subst b; exact q
  ·rw [ac9 b] at g; exact I.lD j g
 ·intro s u t w
  by_cases k:o.dst=some s
  ·rw [k];rw [hv s k] at t;obtain rfl:=bb9 t;exact wK (by rw [I.size]; exact Rx p y k)
  ·rw [Li k];refine I.Zp s u t ?_;intro j g x f c l
   by_cases b:i=j
   ·subst b; rw [y] at f; obtain rfl:=bb9 f; exact k l
   ·exact w j g x f (by rw [ml,ac9 b]; exact c) l
 ·intro j g x f c;rw [ml] at c
  by_cases b:i=j
  ·rw [ag9 b] at c; cases c
  ·rw [ac9 b] at c; exact I.RT j g x f c
def Rs.congr {e g:Env} {m q:Made} {h h':Hp} {i:Nat} {o:Oper} (t:Rs P n ops e m h i o) (hl:∀ s∈looks ops o,db g s=db e s) (u:∀ d,o.dst=some d->db g d=db e d)
  (w:∀ p l,(i,p,l)∈m->aH h p 0 l->(i,p,l)∈q/\aH h' p 0 l):Rs P n ops g q h' i o:=by
 obtain ⟨hc,v,b,h1,h2,c⟩:=t;have j:∀ kk,wy P o g kk=wy P o e kk:=λkk=>yB (λx j=>by
  cases x <;> try rfl
  exact hl _ (y7 j)) kk
 refine ⟨hc,v,b,λd f k=>by rw [u d f]; exact h1 d f k,h2.congr hl,?_⟩;rcases c with c | ⟨r,c | ⟨p,l,c,y,z⟩⟩
 ·exact .inl c
 ·exact .inr ⟨r,.inl λkk L K h' hk=>by rw [j]; exact c kk L K h' hk⟩
 ·obtain ⟨A,B⟩:=w p l c y;exact .inr ⟨r,.inr ⟨p,l,A,B,λkk L K h' hc hk=>by rw [j]; exact z kk L K h' hc hk⟩⟩
def sR.ahead (q:eN P n ops=true) (I:sR P n ops e0 listed a h D e m) {i:Nat} {o:Oper} (g:ops[i]?=some o) (f:i∉D) (G:∀ j∈waits o,j∈D) (hc:calm P o=true)
  {v:Xab} {A:Env} (y:∀ s,db A s=db e s) {m':Made} (H:∀ x∈m,x∈m')
  (J:Rs P n ops (eE n A o.dst v) m' h i o):sR P n ops e0 listed a h (i::D) (eE n A o.dst v) m':=by
 have B:listed[i]?=some false:=I.xT g (λC=>f (I.lD i C));refine ⟨I.wX,I.size,I.defers,λj c=>aq9 _ (I.lD j c),?_,⟨f,?_,I.closed⟩,?_,?_,I.fr.step y (λd k=>H6 g k)⟩
 ·intro j c;rcases bd9.1 c with rfl | c
  ·exact ⟨o,g⟩
  ·exact I.dD j c
 ·intro o' r j c;rw [g] at r; obtain rfl:=bb9 r;exact G j c
 ·intro s u F t;have k:o.dst≠some s:=t i ai o g B;rw [lE k,y] at F;exact I.Zp s u F λj c z b E=>t j (aq9 _ c) z b E
 ·intro j c z b E;rcases bd9.1 c with rfl | c
  ·rw [g] at b; obtain rfl:=bb9 b; exact J
  ·have w:j≠i:=λC=>f (C▸c)
   have hpj:=I.RT j c z b E;refine hpj.congr ?_ ?_ (λp l h1 h2=>⟨H _ h1,h2⟩)
   ·intro s K
    by_cases k:o.dst=some s
    ·exfalso;rcases (pU q b g w).1 s k K with h1 | ⟨_,h1⟩
     ·exact f (tB I.closed j c z b i h1)
     ·rw [hc] at h1; cases h1
    ·rw [lE k,y]
   ·intro d k;rw [lE ((pU q b g w).2 d k hpj.1),y]
def sR.effect (t:eN P n ops=true) (I:sR P n ops e0 listed a h D e m) {i:Nat} {o:Oper} (w:ops[i]?=some o) (q:i∉D) (J:∀ j∈waits o,listed[j]?=some true) (hc:calm P o=false)
  {v:Xab} {K:Env} (B:∀ s,db K s=db e s) {h':Hp} (E:∀ j p l,(j,p,l)∈m->aH h p 0 l->j∉waits o->aH h' p 0 l) :
  sR P n ops e0 (listed.setIfInBounds i true) (a.put o.dst v) h' (i::D) (eE n K o.dst v) m:=by
 have x:listed[i]?=some false:=I.xT w (λg=>q (I.lD i g));have F:i<listed.size:=by
  rcases cj9 i listed.size with h | h
  ·exact h
  ·rw [cx9 h] at x; cases x
 have ml:∀ j,(listed.setIfInBounds i true)[j]?=if i=j then some true else listed[j]?:=by
  intro j;rw [dm9]
  by_cases b:i=j
  ·subst b; simp [F]
  ·simp [b]
 refine ⟨by simp [I.wX],by rw [GP,I.size],by rw [put_defers,I.defers],?_,?_,⟨q,?_,I.closed⟩,?_,?_,I.fr.step B (λd k=>H6 w k)⟩
 ·intro j c;rw [ml] at c
  by_cases b:i=j
  ·subst b; simp
  ·rw [ac9 b] at c; exact aq9 _ (I.lD j c)
 ·intro j c;rcases bd9.1 c with rfl | c
  ·exact ⟨o,w⟩
  ·exact I.dD j c
 ·intro o' y j c;rw [w] at y; obtain rfl:=bb9 y;exact I.lD j (J j c)
 ·intro s u z G
  by_cases k:o.dst=some s
  ·rw [k] at z ⊢;have hdn:=Rx t w k;rw [vh hdn] at z;obtain rfl:=bb9 z;exact wK (by rw [I.size]; exact hdn)
  ·rw [lE k,B] at z;rw [Li k];refine I.Zp s u z ?_;intro j c C f r;have H:i≠j:=λg=>q (g▸c)
   exact G j (aq9 _ c) C f (by rw [ml,ac9 H]; exact r)
 ·intro j c C f r;rw [ml] at r
  by_cases b:i=j
  ·rw [ag9 b] at r; cases r
  ·rw [ac9 b] at r;rcases bd9.1 c with g | c
   ·exact (b g.symm).elim
   ·have hpj:=I.RT j c C f r;have A:j∉waits o:=λg=>by rw [J j g] at r; cases r
    refine hpj.congr ?_ ?_ (λp l h1 h2=>⟨h1,E j p l h1 h2 A⟩)
    ·intro s L
     by_cases k:o.dst=some s
     ·exfalso;rcases (pU t f w (λg=>b g.symm)).1 s k L with h1 | ⟨h1,_⟩
      ·exact q (tB I.closed j c C f i h1)
      ·exact A h1
     ·rw [lE k,B]
    ·intro d k;rw [lE ((pU t f w (λg=>b g.symm)).2 d k hpj.1),B]
def qg {listed:Array Bool} (t:listed.size=ops.size) {i:Nat}:i∈Region.ready .any ops listed↔∃ o,ops[i]?=some o/\listed[i]?=some false/\∀ j∈waits o,listed[j]?=some true:=by
 unfold Region.ready;rw [List.mem_filter,ef9];constructor
 ·rintro ⟨c,q⟩;rw [bm9] at q;obtain ⟨h1,h2⟩:=q;have g:ops[i]?=some ops[i]:=dj9 c;rw [g] at h2;refine ⟨ops[i],g,?_,?_⟩
  ·have d:i<listed.size:=by rw [t]; exact c
   rw [dj9 d];simp only [Bool.not_eq_true',Array.getD_eq_getD_getElem?,Array.getElem?_eq_getElem d,Option.getD_some] at h1;rw [h1]
  ·intro j r;simp only [Option.map_some,Option.getD_some] at h2;unfold waits at r;obtain ⟨k,f,rfl⟩:=ap9.1 r;obtain ⟨l,p⟩:=List.mem_filter.1 f;have h3:=(Array.all_eq_true_iff_forall_mem.1 h2) k (by simpa using l);rw [p] at h3;simp only [Bool.not_true,Bool.false_or,Array.getD_eq_getD_getElem?] at h3;cases s:listed[k.on]? with
   | none=>rw [s] at h3; cases h3
   | some b=>rw [s] at h3; simp at h3; rw [h3]
 ·rintro ⟨o,g,h1,h2⟩;have c:i<ops.size:=by
   rcases cj9 i ops.size with h | h
   ·exact h
   ·rw [cx9 h] at g; cases g
  refine ⟨c,?_⟩;rw [bm9];refine ⟨by simp [Array.getD_eq_getD_getElem?,h1],?_⟩;rw [g];simp only [Option.map_some,Option.getD_some];refine Array.all_eq_true_iff_forall_mem.2 λk f=>?_
  cases u:Region.binds .any k with
  | false=>rfl
  | true =>
   have:=h2 k.on (ap9.2 ⟨k,List.mem_filter.2 ⟨by simpa using f,u⟩,rfl⟩)
   simp [Array.getD_eq_getD_getElem?,this]
theorem gn {D:List Nat} {c:Bool} {p:Nat × Oper}:∀ {l:List (Nat × Oper)},p∈dm P D c l↔p∈l/\y6 D p.1 p.2=true/\calm P p.2=c
 | []=>by simp [dm]
 | q::l=>by
  unfold dm;cases b:y6 D q.1 q.2 && (calm P q.2==c) with
  | true =>
   rw [bm9] at b;simp only [List.mem_cons,gn (l:=l)];constructor
   ·rintro (rfl | h)
    ·exact ⟨.inl rfl,b.1,by simpa using b.2⟩
    ·exact ⟨.inr h.1,h.2⟩
   ·rintro ⟨rfl | h,h2⟩
    ·exact .inl rfl
    ·exact .inr ⟨h,h2⟩
  | false =>
   simp only [List.mem_cons,gn (l:=l)];constructor
   ·rintro ⟨h1,h2⟩; exact ⟨.inr h1,h2⟩
   ·rintro ⟨rfl | h,h2⟩
    ·rw [h2.1,h2.2] at b; simp at b
    ·exact ⟨h,h2⟩
def vL {D:List Nat} {i:Nat} {o:Oper}:y6 D i o=true↔i∉D/\∀ j∈waits o,j∈D:=by
 unfold y6;rw [bm9];constructor
 ·rintro ⟨h1,h2⟩;refine ⟨λc=>?_,λj b=>iC.1 (bn9.1 h2 j b)⟩;rw [iC.2 c] at h1; cases h1
 ·rintro ⟨h1,h2⟩;refine ⟨?_,bn9.2 λj b=>iC.2 (h2 j b)⟩;cases d:uG i D with
  | false=>rfl
  | true=>exact (h1 (iC.1 d)).elim
def UQ {K:Xab->Hp->Prop} {h:Hp} {o:Oper} {m:Made} {t:T} (ht:w8 (lF o m) t H K h):t H K h/\∀ j p l,(j,p,l)∈m->j∉waits o->aH h p 0 l:=by
 have h1:∀ l:List (Xax × List Xab),w8 l t H K h->T.Cv h l/\t H K h:=by
  intro l hl;cases l with
  | nil=>exact ⟨trivial,hl⟩
  | cons p l=>exact hl
 obtain ⟨h2,g⟩:=h1 _ ht;refine ⟨g,?_⟩;clear ht h1 g
 induction m with
 | nil=>intro j p l b; cases b
 | cons x m k =>
  obtain ⟨i,q,lq⟩:=x;intro j p l b c;unfold lF at h2;cases f:uG i (waits o) with
  | true =>
   rw [f] at h2;rcases bd9.1 b with d | b
   ·simp only [Prod.mk.injEq] at d;obtain ⟨rfl,rfl,rfl⟩:=d;exact (c (iC.1 f)).elim
   ·exact k h2 j p l b c
  | false =>
   rw [f] at h2;simp only [cond_false] at h2;rcases bd9.1 b with d | b
   ·simp only [Prod.mk.injEq] at d;obtain ⟨rfl,rfl,rfl⟩:=d;exact h2.1
   ·exact k h2.2 j p l b c
theorem Up {K:Xab->Hp->Prop} {h:Hp}:∀ {ts:List T} {t:T},t∈ts->Xv ts H K h->t H K h
 | [],t,ht,_=>by cases ht
 | [u],t,ht,b=>by simp at ht; subst ht; exact b
 | u::f::ts,t,ht,b=>by
  have:∀ ts:List T,t∈ts->T.every H K h ts->t H K h:=by
   intro ts
   induction ts with
   | nil=>intro c; cases c
   | cons v ts d =>
    intro c b;rcases bd9.1 c with rfl | c
    ·exact b.1
    ·exact d c b.2
  exact this _ ht b
def left (listed:Array Bool):Nat:=(listed.toList.filter λb=>!b).length
theorem D7:∀ (l:List Bool) (i:Nat),l[i]?=some false->((l.set i true).filter λb=>!b).length+1=(l.filter λb=>!b).length
 | [],i,h=>by simp at h
 | b::l,0,h=>by simp at h; subst h; simp
 | b::l,i+1,h=>by
  simp at h
  have:=D7 l i h
  cases b
  ·simp only [List.set_cons_succ,List.filter_cons,Bool.not_false,if_true,List.length_cons]; omega
  ·simp only [List.set_cons_succ,List.filter_cons,Bool.not_true,Bool.false_eq_true,if_false]; exact this
def Gw {listed:Array Bool} {i:Nat} (b:listed[i]?=some false):left (listed.setIfInBounds i true)+1=left listed:=by
 unfold left;rw [Array.toList_setIfInBounds];exact D7 _ i (by simpa using b)
def NV {listed:Array Bool} (h0:left listed=0) (i:Nat):listed[i]?≠some false:=by
 intro b
 have:=Gw b
 omega
def Kq (v:Xab) (h:Hp):Xab->T:=λv' _ _ h'=>v'=v/\h'=h
variable {O:World}
def Ub (r:eN P n ops=true) {K:Xab->Hp->Prop} {k:Env->T} {Q:Exit->Act->World->Prop} {i:Nat}
  {listed:Array Bool} {a:Act} {w:World} {R:Act->World->Prop} (hi:i∈Region.ready .any ops listed) (Z:dO O w)
  (next:∀ a' w' D e m E,dO O w'->sR P n ops e0 (listed.setIfInBounds i true) a' w'.heap D e m->gT P n ops E D e m k H K w'.heap->R a' w') :
  ∀ E D e m,sR P n ops e0 listed a w.heap D e m->gT P n ops E D e m k H K w.heap->wpOp P ops Q i R a w:=by
 intro E
 induction E with
 | zero=>intro D e m I ht; exact ht.elim
 | succ E ih =>
  intro D e m I ht;obtain ⟨o,S,hf,hr⟩:=(qg I.wX).1 hi
  by_cases N:i∈D
  ·
   obtain ⟨hc,v,b,hv,hg,c⟩:=I.RT i N o S hf;have hlk:=I.LS r S hr (.inr hc);have hwant:=hg.wanted hlk;have hv':∀ d,o.dst=some d->db e d=some v:=λd Y=>hv d Y (Rx r S Y)
   unfold wpOp;rw [S];simp only;have I':=I.exec r S N hf hv' hc;rcases c with ⟨rfl,rfl⟩ | ⟨rfl,c⟩
   ·rw [ac9 (by simp [hwant])];exact next _ _ D e m (E+1) Z I' ht
   ·rw [ag9 hwant];refine .inl ?_;have F:opW P o a.eval w.heap (λv' h'=>v'=v/\h'=w.heap):=by
     have hxx:wy P o e (Kq v w.heap) [] (λ_ _=>True) w.heap:=by
      rcases c with c | ⟨p,l,_,hcl,c⟩
      ·exact c (Kq v w.heap) [] (λ_ _=>True) w.heap ⟨rfl,rfl⟩
      ·exact c (Kq v w.heap) [] (λ_ _=>True) w.heap hcl ⟨rfl,rfl⟩
     rw [<- G3 (ops:=ops)] at hxx;exact JH (Gr I.size I.defers hlk) hxx
    refine yY F ?_;rintro v' w' hs' ⟨rfl,hh⟩;refine next _ _ D e m (E+1) (Z.trans hs') (by rw [hh]; exact I') (by rw [hh]; exact ht)
  ·unfold gT at ht;cases A:dm P D true (idx 0 ops.toList) with
   | cons q qs =>
    obtain ⟨j,z⟩:=q;simp only [A] at ht;have hq:(j,z)∈dm P D true (idx 0 ops.toList):=by rw [A]; simp
    obtain ⟨hq1,hq2,B⟩:=gn.1 hq;have hoj:=jv.1 hq1;obtain ⟨hjD,U⟩:=vL.1 hq2;obtain ⟨C,b,he,hg,c⟩:=A7 ht;have hg':∀ u,Cw ops z (eE n C z.dst u) b:=λu=>hg.congr λs Z=>by
     by_cases Y:z.dst=some s
     ·exact (Jk r hoj Y B Z).elim
     ·rw [lE Y,he]
    have G:∀ u d,z.dst=some d->d<n->db (eE n C z.dst u) d=some u:=λu d Y hdn=>by rw [Y]; exact vh hdn
    have hxe:∀ u kk,wy P z (eE n C z.dst u) kk=wy P z C kk:=λu kk=>yB (λx c=>by
     cases x <;> try rfl
     rename_i s;simp only [ev];exact lE (λY=>Jk r hoj Y B (y7 c))) kk
    rcases c with ⟨rfl,c⟩ | ⟨rfl,c⟩
    ·
     unfold calm at B;cases g:tO P z with
     | true =>
      have hx':wy P z C (λv=>gT P n ops E (j::D) (eE n C z.dst v) m k) H K w.heap:=by
       have hnl:∀ t x,z.op≠.load t x:=by
        intro t x hh;unfold tO at g;rw [hh] at g; cases g
       obtain ⟨dst,op,type,pos,after,guard⟩:=z;cases op <;> first | exact c | exact (hnl _ _ rfl).elim
      obtain ⟨v,hk,V⟩:=Qt g hx';refine ih (j::D) _ m (I.ahead r hoj hjD U (by unfold calm; rw [g]; rfl) he (λx c=>c) ?_) hk;exact ⟨by unfold calm; rw [g]; rfl,v,true,G v,hg' v,.inr ⟨rfl,.inl λkk H K h' J=>by rw [hxe]; exact V kk H K h' J⟩⟩
     | false =>
      rw [g,fa9] at B;obtain ⟨t,x,F⟩:∃ t x,z.op=.load t x:=by
       unfold Cf at B;cases F:z.op <;> rw [F] at B <;> first | (cases B; done) | exact ⟨_,_,rfl⟩
      have hcj:calm P z=true:=by unfold calm Cf; rw [F]; simp
      simp only [F] at c;unfold th at c;obtain ⟨u,hu,c⟩:=bF c;have hx2:th P t x C (λa l v=>gT P n ops E (j::D) (eE n C z.dst v) ((j,a,l)::m) k) H K w.heap:=by
       unfold th cd; simp only [hu]; exact c
      cases hb:cO P t with
      | none=>cases u <;> simp only [hb] at c <;> exact c.elim
      | some bb =>
       obtain ⟨pp,rfl⟩:∃ pp,u=.pointer pp:=by
        cases u <;> cases bb <;> simp only [hb] at c <;> first | exact c.elim | exact ⟨_,rfl⟩
       have f:(match bb with
        | true=>(bif (fD P 9 t).length==P.cellsOf t then T.bh pp λa=>T.ah a (fD P 9 t) (j7 _ λl=>gT P n ops E (j::D) (eE n C z.dst (.agg l.toArray)) ((j,a,l)::m) k) else T.fail)
        | false=>T.bh pp λa=>T.ah a (cM P t).2 (j7 _ λl=>gT P n ops E (j::D) (eE n C z.dst (l.headD undef)) ((j,a,l)::m) k)) H K w.heap:=by
        cases bb <;> simp only [hb] at c <;> exact c
       have hfin:∃ p l v,pp=some p/\aH w.heap p 0 l/\gT P n ops E (j::D) (eE n C z.dst v) ((j,p,l)::m) k H K w.heap /\
         ∀ (kk:Xab->T) H K h',aH h' p 0 l->kk v H K h'->wy P z C kk H K h':=by
        have hxop:∀ kk,wy P z C kk=th P t x C (λ_ _ v=>kk v):=by
         intro kk;unfold wy;rw [F] <;> rfl
        cases bb with
        | true =>
         simp only at f;rcases gH f with ⟨hl,f⟩ | ⟨hl,f⟩
         ·obtain ⟨p,rfl,f⟩:=gZ f;obtain ⟨y,hc,f⟩:=f;rw [dX] at f;refine ⟨p,_,_,rfl,hc,f,λkk H K h' W J=>?_⟩;rw [hxop];unfold th cd;simp only [hu,hb,hl];exact ⟨y,W,by rw [dX]; exact J⟩
         ·exact f.elim
        | false =>
         simp only at f;obtain ⟨p,rfl,f⟩:=gZ f;obtain ⟨y,hc,f⟩:=f;rw [dX] at f;refine ⟨p,_,_,rfl,hc,f,λkk H K h' W J=>?_⟩;rw [hxop];unfold th cd;simp only [hu,hb];exact ⟨y,W,by rw [dX]; exact J⟩
       obtain ⟨p,l,v,rfl,hc,hk,V⟩:=hfin;refine ih (j::D) _ ((j,p,l)::m) (I.ahead r hoj hjD U hcj he (λx c=>aq9 _ c) ?_) hk;exact ⟨hcj,v,true,G v,hg' v,.inr ⟨rfl,.inr ⟨p,l,ai,hc,λkk H K h' W J=>by rw [hxe]; exact V kk H K h' W J⟩⟩⟩
    ·
     refine ih (j::D) _ m (I.ahead r hoj hjD U B he (λx c=>c) ?_) c;exact ⟨B,undef,false,G undef,hg' undef,.inl ⟨rfl,rfl⟩⟩
   | nil =>
    simp only [A] at ht;have U:∀ j∈waits o,j∈D:=λj hj=>I.lD j (hr j hj)
    have hrx:y6 D i o=true:=vL.2 ⟨N,U⟩;have hc:calm P o=false:=by
     cases hc:calm P o with
     | false=>rfl
     | true =>
      have:(i,o)∈dm P D true (idx 0 ops.toList):=gn.2 ⟨jv.2 S,hrx,hc⟩
      rw [A] at this; cases this
    have M:(i,o)∈dm P D false (idx 0 ops.toList):=gn.2 ⟨jv.2 S,hrx,hc⟩;cases X:dm P D false (idx 0 ops.toList) with
    | nil=>rw [X] at M; cases M
    | cons q qs =>
     simp only [X] at ht;rw [X] at M;have hti:=Up (ap9.2 ⟨(i,o),M,rfl⟩) ht;simp only at hti;obtain ⟨C,b,he,hg,c⟩:=A7 hti;have hlk:=I.LS r S hr (.inl N);have hwant:=hg.wanted hlk;unfold wpOp;rw [S];simp only;rcases c with ⟨rfl,c⟩ | ⟨rfl,c⟩
     ·rw [ag9 hwant];refine .inl ?_;rw [<- G3 (ops:=ops)] at c;have hlk':∀ s∈looks ops o,∀ v,db C s=some v->a.tmps.getD s undef=v:=λs Z v hv=>hlk s Z v (by rw [<- he]; exact hv)
      refine yY (JH (Gr I.size I.defers hlk') c) ?_;intro v w' hs' hst;obtain ⟨hst1,hst2⟩:=UQ hst;exact next _ _ (i::D) _ m E (Z.trans hs') (I.effect r S N hr hc he (λj p l h1 _ h3=>hst2 j p l h1 h3)) hst1
     ·rw [ac9 (by simp [hwant])];exact next _ _ (i::D) _ m E Z (I.effect r S N hr hc he (λj p l _ h2 _=>h2)) c
def OX (y:eN P n ops=true) {K:Xab->Hp->Prop} {k:Env->T} {Q:Exit->Act->Hp->Prop} 
  (hk:∀ e a h,k e H K h->iI n e a->Fr (dstsOf ops) e0 e->Q .normal a h):∀ (b:Nat) (listed:Array Bool) (a:Act) (w:World) (D:List Nat) (e:Env) (m:Made) (d:Nat),left listed<=b->dO O w ->
   sR P n ops e0 listed a w.heap D e m->gT P n ops d D e m k H K w.heap->wpAny P .any ops (atW O Q) b listed a w:=by
 have u:∀ (listed:Array Bool) (a:Act) (w:World),dO O w->Region.ready .any ops listed=[]->∀ d D e m,sR P n ops e0 listed a w.heap D e m->gT P n ops d D e m k H K w.heap->atW O Q .normal a w:=by
  intro listed a w r p d D e m I ht;have g:∀ i∈D,listed[i]?=some true\/listed[i]?=some false:=by
   intro i hi;obtain ⟨o,ho⟩:=I.dD i hi
   by_cases h1:listed[i]?=some true
   ·exact .inl h1
   ·exact .inr (I.xT ho h1)
  have f:∀ i∈D,listed[i]?=some true:=by
   intro i hi;rcases g i hi with h1 | h1
   ·exact h1
   ·obtain ⟨j,x,h2,M⟩:=uW listed I.closed I.dD ⟨i,hi,h1⟩ g;obtain ⟨o,ho⟩:=I.dD j x
    have:j∈Region.ready .any ops listed:=(qg I.wX).2 ⟨o,ho,h2,M o ho⟩
    rw [p] at this; cases this
  have z:∀ c,dm P D c (idx 0 ops.toList)=[]:=by
   intro c;cases A:dm P D c (idx 0 ops.toList) with
   | nil=>rfl
   | cons q Z =>
    obtain ⟨i,o⟩:=q;have N:(i,o)∈dm P D c (idx 0 ops.toList):=by rw [A]; simp
    obtain ⟨B,C,_⟩:=gn.1 N;have ho:=jv.1 B;obtain ⟨E,R⟩:=vL.1 C
    have:i∈Region.ready .any ops listed:=(qg I.wX).2 ⟨o,ho,I.xT ho (λS=>E (I.lD i S)),λj x=>f j (R j x)⟩
    rw [p] at this; cases this
  cases d with
  | zero=>exact ht.elim
  | succ d =>
   unfold gT at ht;simp only [z] at ht;refine ⟨r,hk e a w.heap ht ⟨I.size,I.defers,λs v hv=>I.Zp s v hv ?_⟩ I.fr⟩;intro j x o ho t;rw [f j x] at t; cases t
 intro b
 induction b with
 | zero =>
  intro listed a w D e m d hl r I ht;have p:Region.ready .any ops listed=[]:=by
   cases A:Region.ready .any ops listed with
   | nil=>rfl
   | cons i l =>
    have:i∈Region.ready .any ops listed:=by rw [A]; simp
    obtain ⟨o,ho,t,_⟩:=(qg I.wX).1 this;exact (NV ad i t).elim
  exact ⟨p,u listed a w r p d D e m I ht⟩
 | succ b U =>
  intro listed a w D e m d hl r I ht;refine ⟨λp=>u listed a w r p d D e m I ht,λi hi=>?_⟩;obtain ⟨o,ho,t,_⟩:=(qg I.wX).1 hi;refine Ub y hi r ?_ d D e m I ht;intro a' w' V W X F G Y J;exact U _ a' w' V W X F (by have:=Gw t; omega) G Y J
def rok (f:P.follows .mixedOrders=true):ROk P n:=by
 intro id ops e k L K Q a h hk ht g p w d j;subst j;unfold xn at ht;cases b:eN P n ops with
 | false=>simp only [b] at ht; exact ht.elim
 | true =>
  simp only [b] at ht;have c:∀ (l:Array Bool) (i:Nat),l=Array.replicate ops.size false->l[i]?≠some true:=by
   intro l i hl o;subst hl;simp [Array.getElem?_replicate] at o
  refine wp_region_any f (OX (e0:=e) b hk ops.size _ a { w with drawn:=w.drawn+1 } [] e [] (ops.size+1) ?_ ⟨d.os,d.tape,d.output⟩ ?_ ht)
  ·unfold left;refine cd9 (dr9 _ _) ?_
   simp
  ·exact ⟨ai,g.size,g.defers,λi hi=>(c _ i rfl hi).elim,λi hi=>(by cases hi),trivial,λs v hv _=>g.get s v hv,λi hi=>(by cases hi),Fr.refl _ _⟩
end draws
end Go.Sx
