/- A framework of our own, part R: regions whose order is drawn: every order comes to what the one order comes to that a tree follows. No condition. -/
import Derived.Test.YtfkjiiapldkoeaaGreatDoorSxM
import Derived.Orders
set_option linter.unusedVariables false
set_option linter.unusedSimpArgs false
set_option linter.deprecated false
namespace Go.Sx
section congr
variable {P:Program}
theorem aR {e e':Env} {x:Operand} (h:ev e x=ev e' x) (k:Value→T):bo e x k=bo e' x k:=by
 unfold bo; rw [h]
theorem dt {e e':Env}:∀ {xs:List Operand},(∀ x∈xs,ev e x=ev e' x)→∀ (k:List Value→T),gA e xs k=gA e' xs k
 | [],_,k=>rfl
 | x::xs,h,k=>by
  simp only [gA];rw [aR (h x (by simp))]
  congr 1
  funext v
  exact dt (fun x hx=>h x (by simp [hx])) _
theorem sQ {o:Oper} {e e':Env} (h:∀ x∈o.op.operands,ev e x=ev e' x) (kk:Value→T):uX P o e kk=uX P o e' kk:=by
 obtain ⟨dst,op,type,pos,after,guard⟩:=o;cases op <;> simp only [Op.operands] at h <;> simp only [uX]
 case pick c x y =>
  rw [aR (h c (by simp))]
  congr 1; funext v
  cases v <;> first | rfl | (rw [aR (h x (by simp)),aR (h y (by simp))])
 case build t ps=>rw [dt (fun x hx=>h x (by simpa using hx))]
 case buildSlice t l ps=>rw [dt (fun x hx=>h x (by simpa using hx))]
 case store t x y =>
  rw [aR (h x (by simp))]
  congr 1; funext v
  rw [aR (h y (by simp))]
 case binOp op t x y yt =>
  rw [aR (h x (by simp))]
  congr 1; funext v
  rw [aR (h y (by simp))]
 case makeFunc fn fi ca =>
  rw [dt (fun x hx=>h x (by simp at hx ⊢; exact .inl hx))]
  congr 1; funext v
  rw [dt (fun x hx=>h x (by simp at hx ⊢; exact .inr hx))]
 case makeMap t r=>cases r <;> rfl
 case makeSlice t x y =>
  rw [aR (h x (by simp))]
  congr 1; funext v
  rw [aR (h y (by simp))]
 case slice t x lo hi mx =>
  rw [aR (h x (by simp))]
  congr 1; funext v
  rw [dt (fun y hy=>h y (by
   simp only [List.mem_append,Option.mem_toList] at hy;simp only [Array.mem_append,Array.mem_singleton,Option.mem_toArray];rcases hy with (hy | hy) | hy
   ·exact .inl (.inl (.inr hy))
   ·exact .inl (.inr hy)
   ·exact .inr hy))]
 case indexAddr t x y =>
  rw [aR (h x (by simp))]
  congr 1; funext v
  rw [aR (h y (by simp))]
 case index t x y =>
  rw [aR (h x (by simp))]
  congr 1; funext v
  rw [aR (h y (by simp))]
 case lookup t x y ok =>
  rw [aR (h x (by simp))]
  congr 1; funext v
  rw [aR (h y (by simp))]
 case mapUpdate t x y z =>
  rw [aR (h x (by simp))]
  congr 1; funext v
  rw [aR (h y (by simp))]
  congr 1; funext v
  rw [aR (h z (by simp))]
 case insert t x y z =>
  rw [aR (h x (by simp))]
  congr 1; funext v
  rw [aR (h y (by simp))]
  congr 1; funext v
  rw [aR (h z (by simp))]
 case mapEntry t x y =>
  rw [aR (h x (by simp))]
  congr 1; funext v
  rw [aR (h y (by simp))]
 case entryStore t x y z =>
  rw [aR (h x (by simp))]
  congr 1; funext v
  rw [aR (h y (by simp))]
  congr 1; funext v
  rw [aR (h z (by simp))]
 case call c =>
  cases hc:c.callee with
  | builtin b =>
   simp only [hc];rw [dt (fun x hx=>h x (by simp [Call.operands,hc]; simpa using hx))]
  | invoke r m=>simp only [hc]
  | value f =>
   simp only [hc];cases HQ f
   ·simp only;rw [aR (h f (by simp [Call.operands,hc]))]
    congr 1; funext v
    rw [dt (xs:=c.args.toList) (fun x hx=>h x (by simp [Call.operands,hc]; right; simpa using hx))]
   ·simp only;rw [aR (h f (by simp [Call.operands,hc]))]
    congr 1; funext v
    rw [dt (xs:=c.args.toList) (fun x hx=>h x (by simp [Call.operands,hc]; right; simpa using hx))]
 all_goals first | rfl | exact aR (h _ (by simp)) _
end congr
section pures
variable {P:Program} {L:Lp} {K:Value→Hp→Prop} {h:Hp}
def cS (F:(Value→T)→T) (kk:Value→T) (L:Lp) (K:Value→Hp→Prop) (h:Hp):Prop :=
 ∃ v,kk v L K h∧∀ (kk':Value→T) L' K' h',kk' v L' K' h'→F kk' L' K' h'
theorem cv {e:Env} {x:Operand} {F:(Value→T)→Value→T} {kk:Value→T} (hF:∀ v,F kk v L K h→cS (fun kk=>F kk v) kk L K h)
  (ht:bo e x (F kk) L K h):cS (fun kk=>bo e x (F kk)) kk L K h:=by
 obtain ⟨v,hv,ht⟩:=aP ht;obtain ⟨u,hk,hall⟩:=hF v ht;refine ⟨u,hk,fun kk' L' K' h' hx=>?_⟩;unfold bo;simp only [hv];exact hall kk' L' K' h' hx
theorem lp {e:Env}:∀ {xs:List Operand} {F:(Value→T)→List Value→T} {kk:Value→T},(∀ v,F kk v L K h→cS (fun kk=>F kk v) kk L K h) →
  gA e xs (F kk) L K h→cS (fun kk=>gA e xs (F kk)) kk L K h
 | [],F,kk,hF,ht=>hF [] ht
 | x::xs,F,kk,hF,ht=>by
  refine cv (F:=fun kk v=>gA e xs fun l=>F kk (v::l)) ?_ ht;intro v ht;exact lp (F:=fun kk l=>F kk (v::l)) (fun l hl=>hF (v::l) hl) ht
theorem bL {kk:Value→T} {v:Value} (ht:kk v L K h):cS (fun kk=>kk v) kk L K h:=⟨v,ht,fun _ _ _ _ hx=>hx⟩
theorem mj {p:Prop} {F:(Value→T)→T} {kk:Value→T} (hF:F kk L K h→cS F kk L K h) (ht:T.aJ p (F kk) L K h):cS (fun kk=>T.aJ p (F kk)) kk L K h:=by
 obtain ⟨hp,ht⟩:=ht;obtain ⟨v,hk,hall⟩:=hF ht;exact ⟨v,hk,fun kk' L' K' h' hx=>⟨hp,hall kk' L' K' h' hx⟩⟩
theorem vK {q:Option Addr} {F:(Value→T)→Addr→T} {kk:Value→T} (hF:∀ a,F kk a L K h→cS (fun kk=>F kk a) kk L K h) (ht:T.av q (F kk) L K h) :
  cS (fun kk=>T.av q (F kk)) kk L K h:=by
 obtain ⟨a,rfl,ht⟩:=eC ht;obtain ⟨v,hk,hall⟩:=hF a ht;exact ⟨v,hk,fun kk' L' K' h' hx=>hall kk' L' K' h' hx⟩
theorem pf {b:Bool} {F G:(Value→T)→T} {kk:Value→T} (hF:F kk L K h→cS F kk L K h) (hG:G kk L K h→cS G kk L K h) (ht:cond b (F kk) (G kk) L K h) :
  cS (fun kk=>cond b (F kk) (G kk)) kk L K h:=by
 cases b
 ·exact hG ht
 ·exact hF ht
theorem qZ {op:BinOp} {b:Bool} {kk:Value→T} (ht:asked op b kk T.fail L K h):cS (fun kk=>asked op b kk T.fail) kk L K h:=by
 cases op <;> first | exact bL ht | exact ht.elim
theorem H4 {op:BinOp} {k:IntKind} {m n:Int} {kk:Value→T} (ht:F1 op k m n kk L K h):cS (fun kk=>F1 op k m n kk) kk L K h:=by
 cases op <;> first
  | exact ht.elim
  | exact bL ht
  | exact mj (F:=fun kk=>kk _) bL ht
theorem Es {op:BinOp} {k:IntKind} {m n:Int} {kk:Value→T} (ht:vW op k m n kk L K h):cS (fun kk=>vW op k m n kk) kk L K h:=by
 cases op <;> first
  | exact ht.elim
  | exact mj (F:=fun kk=>kk _) bL ht
theorem Jw {op:BinOp} {m n:ByteArray} {kk:Value→T} (ht:Hg op m n kk L K h):cS (fun kk=>Hg op m n kk) kk L K h:=by
 cases op <;> first
  | exact ht.elim
  | exact bL ht
  | exact mj (F:=fun kk=>kk _) bL ht
theorem HD {op:BinOp} {t:TypeId} {a b:Value} {kk:Value→T} (ht:Ak P op t a b kk L K h):cS (fun kk=>Ak P op t a b kk) kk L K h:=by
 unfold Ak at ht ⊢;cases a <;> cases b <;> first | exact ht.elim | skip
 case bool.bool m n =>
  generalize P.underlying t=ud at ht ⊢;cases ud with
  | none=>exact ht.elim
  | some d=>cases d <;> first | exact ht.elim | exact qZ ht
 case int.int k m k' n =>
  simp only at ht ⊢;cases hs:ml op with
  | true=>simp only [hs] at ht ⊢; exact Es ht
  | false =>
   simp only [hs] at ht ⊢
   by_cases hk:k=k'
   ·subst hk;simp only [decide_true] at ht ⊢;exact H4 ht
   ·simp only [hk,decide_false] at ht;exact ht.elim
 case string.string m n=>exact Jw ht
 case pointer.pointer p q =>
  generalize P.underlying t=ud at ht ⊢;cases ud with
  | none=>exact ht.elim
  | some d=>cases d <;> first | exact ht.elim | exact qZ ht
 case slice.slice p l c q l' c' =>
  generalize P.underlying t=ud at ht ⊢;cases ud with
  | none=>exact ht.elim
  | some d=>cases d <;> first | exact ht.elim | exact qZ ht
 case map.map p q =>
  generalize P.underlying t=ud at ht ⊢;cases ud with
  | none=>exact ht.elim
  | some d=>cases d <;> first | exact ht.elim | exact qZ ht
theorem Ki {op:UnOp} {a:Value} {kk:Value→T} (ht:K0 op a kk L K h):cS (fun kk=>K0 op a kk) kk L K h:=by
 cases op <;> cases a <;> first | exact ht.elim | exact bL ht
theorem GA {t : TypeId} {cs : List Value} {off : Nat} {kk : Value → T} (ht : w9 P t cs off kk L K h) : cS (fun kk => w9 P t cs off kk) kk L K h := by
  unfold w9 at ht ⊢;generalize P.underlying t = ud at ht ⊢;cases ud with
  | none => exact ht.elim
  | some d =>
    cases d <;> first
      | exact bL ht
      | (cases hv : cs[off]? with
         | none => simp only [hv] at ht; exact ht.elim
         | some v => simp only [hv] at ht ⊢; exact bL ht)
theorem El {t:TypeId} {a:Value} {lo hi:Option Value} {kk:Value→T} (hp:(match P.underlying t with
  | some .string=>true
  | some (.slice _)=>true
  | _=>false)=true) (ht:jv P t a lo hi none kk L K h):cS (fun kk=>jv P t a lo hi none kk) kk L K h:=by
 unfold jv at ht ⊢;cases hint:gM lo && gM hi && gM none with
 | false=>simp only [hint] at ht; exact ht.elim
 | true =>
  simp only [hint] at ht ⊢;generalize P.underlying t=ud at ht hp ⊢;cases ud with
  | none=>cases hp
  | some d =>
   cases d <;> simp only [Bool.false_eq_true] at hp
   case string=>cases a <;> first | exact ht.elim | exact mj (F:=fun kk=>kk _) bL ht
   case slice el =>
    cases a <;> first | exact ht.elim | skip
    simp only at ht ⊢;cases hT:qg P el with
    | false=>simp only [hT] at ht; exact ht.elim
    | true=>simp only [hT] at ht ⊢; exact mj (F:=fun kk=>kk _) bL ht
theorem oU {agg:Nat→Option Bool}:∀ {ps:List (Nat × Value)} {F:(Value→T)→List (Nat × List Value)→T} {kk:Value→T},(∀ r,F kk r L K h→cS (fun kk=>F kk r) kk L K h) →
  fq agg ps (F kk) L K h→cS (fun kk=>fq agg ps (F kk)) kk L K h
 | [],F,kk,hF,ht=>hF [] ht
 | (i,v)::l,F,kk,hF,ht=>by
  simp only [fq] at ht ⊢;cases ha:agg i with
  | none=>rw [ha] at ht; exact ht.elim
  | some b =>
   rw [ha] at ht;cases b with
   | true=>exact pf (F:=fun kk=>fq agg l fun r=>F kk ((i,mi v)::r)) (G:=fun _=>T.fail) (fun ht=>oU (F:=fun kk r=>F kk ((i,mi v)::r)) (fun r hr=>hF _ hr) ht) (fun ht=>ht.elim) ht
   | false=>exact pf (F:=fun _=>T.fail) (G:=fun kk=>fq agg l fun r=>F kk ((i,[v])::r)) (fun ht=>ht.elim) (fun ht=>oU (F:=fun kk r=>F kk ((i,[v])::r)) (fun r hr=>hF _ hr) ht) ht
theorem FA {o:Oper} {e:Env} {kk:Value→T} (hp:nP P o=true) (ht:uX P o e kk L K h):cS (fun kk=>uX P o e kk) kk L K h:=by
 obtain ⟨dst,op,type,pos,after,guard⟩:=o;cases op <;> simp only [nP,Bool.false_eq_true] at hp <;> simp only [uX] at ht ⊢
 case move x=>exact cv (F:=fun kk v=>kk v) (fun v hv=>bL hv) ht
 case pick c x y =>
  refine cv (F:=fun kk c=>match c with
   | .bool b'=>cond b' (bo e x kk) (bo e y kk)
   | _=>T.fail) (fun v hv=>?_) ht
  cases v <;> first | exact hv.elim | skip
  exact pf (F:=fun kk=>bo e x kk) (G:=fun kk=>bo e y kk) (fun ht=>cv (F:=fun kk v=>kk v) (fun v hv=>bL hv) ht) (fun ht=>cv (F:=fun kk v=>kk v) (fun v hv=>bL hv) ht) hv
 case build t ps =>
  refine lp (F:=fun kk vs=>match P.underlying t,(P.info? t).bind (·.zero) with
   | some (.struct fs),some z =>
    bif !(fs.all fun f=>qg P f.type) then T.fail else fq (fun i=>(fs[i]?).bind fun f=>cC P f.type) ((ps.toList.map (·.1)).zip vs) fun ls=>match iS (((fs.map fun f=>(f.offset,P.cellsOf f.type)))[·]?) z.cells.toList ls with
    | some cs=>kk (.agg cs.toArray)
    | none=>T.fail
   | some (.array _ el),some z =>
    bif !qg P el then T.fail else fq (fun _=>cC P el) ((ps.toList.map (·.1)).zip vs) fun ls=>match iS (fun i=>some (i*P.cellsOf el,P.cellsOf el)) z.cells.toList ls with
    | some cs=>kk (.agg cs.toArray)
    | none=>T.fail
   | _,_=>T.fail) (fun vs hv=>?_) ht
  generalize P.underlying t=ud at hv ⊢;generalize (P.info? t).bind (·.zero)=z at hv ⊢;cases ud with
  | none=>exact hv.elim
  | some d =>
   cases d <;> first | exact hv.elim | skip
   case array len el =>
    cases z with
    | none=>exact hv.elim
    | some z =>
     refine pf (F:=fun _=>T.fail) (G:=fun kk=>fq (fun _=>cC P el) ((ps.toList.map (·.1)).zip vs) fun ls=>match iS (fun i=>some (i*P.cellsOf el,P.cellsOf el)) z.cells.toList ls with
      | some cs=>kk (.agg cs.toArray)
      | none=>T.fail) (fun ht=>ht.elim) (fun ht=>?_) hv
     refine oU (F:=fun kk ls=>match iS (fun i=>some (i*P.cellsOf el,P.cellsOf el)) z.cells.toList ls with
      | some cs=>kk (.agg cs.toArray)
      | none=>T.fail) (fun ls ht=>?_) ht
     cases hf:iS (fun i=>some (i*P.cellsOf el,P.cellsOf el)) z.cells.toList ls with
     | none=>simp only [hf] at ht; exact ht.elim
     | some cs=>simp only [hf] at ht ⊢; exact bL ht
   case struct fs =>
    cases z with
    | none=>exact hv.elim
    | some z =>
     refine pf (F:=fun _=>T.fail) (G:=fun kk=>fq (fun i=>(fs[i]?).bind fun f=>cC P f.type) ((ps.toList.map (·.1)).zip vs) fun ls=>match iS (((fs.map fun f=>(f.offset,P.cellsOf f.type)))[·]?) z.cells.toList ls with
      | some cs=>kk (.agg cs.toArray)
      | none=>T.fail) (fun ht=>ht.elim) (fun ht=>?_) hv
     refine oU (F:=fun kk ls=>match iS (((fs.map fun f=>(f.offset,P.cellsOf f.type)))[·]?) z.cells.toList ls with
      | some cs=>kk (.agg cs.toArray)
      | none=>T.fail) (fun ls ht=>?_) ht
     cases hf:iS (((fs.map fun f=>(f.offset,P.cellsOf f.type)))[·]?) z.cells.toList ls with
     | none=>simp only [hf] at ht; exact ht.elim
     | some cs=>simp only [hf] at ht ⊢; exact bL ht
 case nilCheck x =>
  refine cv (F:=fun kk v=>match v with
   | .pointer p=>T.av p fun a=>kk (.pointer (some a))
   | .func (.func f) fi ca=>kk (.func (.func f) fi ca)
   | .iface t v=>kk (.iface t v)
   | _=>T.fail) (fun v hv=>?_) ht
  cases v with
  | pointer p=>exact vK (F:=fun kk a=>kk (.pointer (some a))) (fun a ha=>bL ha) hv
  | func fn fi ca=>cases fn <;> first | exact hv.elim | exact bL hv
  | iface t w=>exact bL hv
  | _=>exact hv.elim
 case binOp op t x y yt =>
  refine cv (F:=fun kk a=>bo e y fun b=>Ew P op t x y a b kk) (fun a ha=>?_) ht;refine cv (F:=fun kk b=>Ew P op t x y a b kk) (fun b hb=>?_) ha;unfold Ew at hb ⊢;simp only [hp] at hb ⊢;exact HD hb
 case unOp op t x=>exact cv (F:=fun kk a=>K0 op a kk) (fun v hv=>Ki hv) ht
 case convert s d x =>
  refine cv (F:=fun kk a=>Bv P s d a kk) (fun v hv=>?_) ht;unfold Bv at hv ⊢;generalize P.underlying s=us at hv hp ⊢;generalize P.underlying d=ud at hv hp ⊢;cases us with
  | none=>cases hp
  | some us =>
   cases ud with
   | none=>cases us <;> cases hp
   | some ud =>
    cases us <;> first | (cases ud <;> cases hp; done) | skip
    case int k=>cases ud <;> first | (cases hp; done) | (cases v <;> first | exact hv.elim | exact bL hv)
    case string=>cases ud <;> first | (cases hp; done) | (cases v <;> first | exact hv.elim | exact bL hv)
 case makeInterface t x =>
  refine cv (F:=fun kk a=>match P.underlying t with
   | some (.interface _)=>T.fail
   | some _=>kk (.iface t a)
   | none=>T.fail) (fun v hv=>?_) ht
  generalize P.underlying t=ud at hv ⊢;cases ud with
  | none=>exact hv.elim
  | some d=>cases d <;> first | exact hv.elim | exact bL hv
 case makeFunc fn fi ca =>
  refine lp (F:=fun kk fi=>gA e ca.toList fun ca=>kk (.func fn fi.toArray ca.toArray)) (fun fi hv=>?_) ht;exact lp (F:=fun kk ca=>kk (.func fn fi.toArray ca.toArray)) (fun ca hv=>bL hv) hv
 case slice t x lo hi mx =>
  cases mx with
  | some m=>cases hp
  | none =>
  simp only at hp;refine cv (F:=fun kk a=>gA e (lo.toList++hi.toList++(none:Option Operand).toList) fun vs=>LS P t lo hi none a vs kk) (fun a ha=>?_) ht;refine lp (F:=fun kk vs=>LS P t lo hi none a vs kk) (fun vs hv=>?_) ha;unfold LS at hv ⊢;cases lo <;> cases hi <;> rcases vs with _ | ⟨l,_ | ⟨l2,_ | ⟨l3,vs⟩⟩⟩ <;> first
   | exact hv.elim
   | exact El hp hv
 case fieldAddr s x f =>
  refine cv (F:=fun kk v=>match v,P.underlying s with
   | .pointer p,some (.struct fs)=>match fs[f]? with
    | some fd=>match P.cellsOf fd.type with
     | 0=>T.fail
     | _+1=>T.av p fun a=>kk (.pointer (some (a.add fd.offset)))
    | none=>T.fail
   | _,_=>T.fail) (fun v hv=>?_) ht
  generalize P.underlying s=us at hv ⊢;cases v <;> first | exact hv.elim | skip
  cases us with
  | none=>exact hv.elim
  | some us =>
   cases us <;> first | exact hv.elim | skip
   rename_i fs;simp only at hv ⊢;cases hf:fs[f]? with
   | none=>simp only [hf] at hv; exact hv.elim
   | some fd =>
    simp only [hf] at hv ⊢;cases hc:P.cellsOf fd.type with
    | zero=>simp only [hc] at hv; exact hv.elim
    | succ m=>simp only [hc] at hv ⊢; exact vK (F:=fun kk a=>kk (.pointer (some (a.add fd.offset)))) (fun a ha=>bL ha) hv
 case field s x f =>
  refine cv (F:=fun kk v=>match v,P.underlying s with
   | .agg cs,some (.struct fs)=>match fs[f]? with
    | some fd=>w9 P fd.type cs.toList fd.offset kk
    | none=>T.fail
   | _,_=>T.fail) (fun v hv=>?_) ht
  generalize P.underlying s=us at hv ⊢;cases v <;> first | exact hv.elim | skip
  cases us with
  | none=>exact hv.elim
  | some us =>
   cases us <;> first | exact hv.elim | skip
   rename_i fs;simp only at hv ⊢;cases hf:fs[f]? with
   | none=>simp only [hf] at hv; exact hv.elim
   | some fd=>simp only [hf] at hv ⊢; exact GA hv
 case indexAddr t x i =>
  refine cv (F:=fun kk v=>bo e i fun i=>AM P t v i kk) (fun v hv=>?_) ht;refine cv (F:=fun kk i=>AM P t v i kk) (fun i hi=>?_) hv;unfold AM at hi ⊢;generalize P.underlying t=us at hi ⊢;cases v <;> cases i <;> first | exact hi.elim | skip
  all_goals
   cases us with
   | none=>exact hi.elim
   | some us =>
    cases us <;> first | exact hi.elim | skip
    refine pf (F:=fun _=>T.fail) (fun ht=>ht.elim) (fun ht=>?_) hi;exact mj (F:=fun kk=>T.av _ fun a=>kk (.pointer (some (a.add (_*P.cellsOf _))))) (vK (F:=fun kk a=>kk (.pointer (some (a.add (_*P.cellsOf _))))) (fun a ha=>bL ha)) ht
 case index t x i =>
  refine cv (F:=fun kk v=>bo e i fun i=>FN P t v i kk) (fun v hv=>?_) ht;refine cv (F:=fun kk i=>FN P t v i kk) (fun i hi=>?_) hv;unfold FN at hi ⊢;generalize P.underlying t=us at hi hp ⊢;cases us with
  | none=>cases hp
  | some us =>
   cases us <;> simp only [Bool.false_eq_true] at hp;cases v <;> cases i <;> first | exact hi.elim | exact mj (F:=fun kk=>kk _) bL hi
 case extract x i =>
  refine cv (F:=fun kk v=>match v with
   | .tuple vs=>match vs.toList[i]? with
    | some v=>kk v
    | none=>T.fail
   | _=>T.fail) (fun v hv=>?_) ht
  cases v <;> first | exact hv.elim | skip
  rename_i vs;simp only at hv ⊢;cases hi:vs.toList[i]? with
  | none=>simp only [hi] at hv; exact hv.elim
  | some w=>simp only [hi] at hv ⊢; exact bL hv
 case call c =>
  cases hc:c.callee with
  | value f=>simp only [hc] at hp; cases hp
  | invoke r m=>simp only [hc] at hp; cases hp
  | builtin b =>
   simp only [hc] at hp ht ⊢;refine lp (F:=fun kk vs=>rU P b c type vs kk) (fun vs hv=>?_) ht;cases b <;> simp only [Bool.false_eq_true] at hp
   case len =>
    have hv:EH P c type vs kk L K h:=hv;show cS (fun kk=>EH P c type vs kk) kk L K h;unfold EH at hv ⊢;generalize (c.argTypes[0]?).bind P.underlying=ud at hv hp ⊢;cases ud with
    | none=>cases hp
    | some d =>
     cases d <;> simp only [Bool.false_eq_true] at hp
     all_goals
      rcases vs with _ | ⟨v,_ | ⟨v2,l⟩⟩ <;> first | exact hv.elim | skip
      all_goals cases v <;> first | exact hv.elim | exact bL hv
   case cap =>
    have hv:E1 P c vs kk L K h:=hv;show cS (fun kk=>E1 P c vs kk) kk L K h;unfold E1 at hv ⊢;generalize (c.argTypes[0]?).bind P.underlying=ud at hv hp ⊢;cases ud with
    | none=>cases hp
    | some d =>
     cases d <;> simp only [Bool.false_eq_true] at hp
     all_goals
      rcases vs with _ | ⟨v,_ | ⟨v2,l⟩⟩ <;> first | exact hv.elim | skip
      all_goals cases v <;> first | exact hv.elim | exact bL hv
end pures
section draws
variable {P:Program} {n:Nd} {ops:Array Oper}
theorem eZ {x:Nat}:∀ {l:List Nat},sB x l=true↔x∈l
 | []=>by simp [sB]
 | y::l=>by
  simp only [sB,Bool.or_eq_true,List.mem_cons,eZ (l:=l)];constructor
  ·rintro (h | h)
   ·exact .inl (Nat.eq_of_beq_eq_true h)
   ·exact .inr h
  ·rintro (h | h)
   ·subst h; exact .inl (by simp)
   ·exact .inr h
theorem Dp {p:Nat × Oper}:∀ {l:List Oper} {k:Nat},p∈idx k l↔∃ j,l[j]?=some p.2∧p.1=k+j
 | [],k=>by simp [idx]
 | o::l,k=>by
  simp only [idx,List.mem_cons,Dp (l:=l)];constructor
  ·rintro (h | ⟨j,h1,h2⟩)
   ·subst h; exact ⟨0,by simp,by simp⟩
   ·exact ⟨j+1,by simpa using h1,by omega⟩
  ·rintro ⟨j,h1,h2⟩;cases j with
   | zero=>left; simp at h1; subst h1; obtain ⟨a,b⟩:=p; simp at h2; subst h2; rfl
   | succ j=>right; exact ⟨j,by simpa using h1,by omega⟩
theorem fQ {i:Nat} {o:Oper}:(i,o)∈idx 0 ops.toList↔ops[i]?=some o:=by
 rw [Dp];constructor
 ·rintro ⟨j,h1,h2⟩;simp at h2; subst h2;simpa using h1
 ·intro h; exact ⟨i,by simpa using h,by simp⟩
theorem FZ (hok:dA P n ops=true) {i:Nat} {x:Oper} (hi:ops[i]?=some x) {d:Nat} (hd:x.dst=some d):d<n:=by
 unfold dA at hok;rw [Bool.and_eq_true] at hok;have h1:=List.all_eq_true.1 hok.1 (i,x) (fQ.2 hi);simp only [hd] at h1;simpa [Nat.blt_eq] using h1
theorem Dc (hok:dA P n ops=true) {i:Nat} {x:Oper} (hi:ops[i]?=some x) {d:Nat} (hd:x.dst=some d) (hc:calm P x=true):d∉looks ops x:=by
 unfold dA at hok;rw [Bool.and_eq_true] at hok;have h1:=List.all_eq_true.1 (List.all_eq_true.1 hok.2 (i,x) (fQ.2 hi)) (i,x) (fQ.2 hi);unfold B7 at h1;have hb:Nat.beq i i=true:=by simp
 simp only [hb,hd,hc,Bool.not_true,Bool.false_or,Bool.not_eq_true'] at h1;intro hl;rw [eZ.2 hl] at h1; cases h1
theorem lj (hok:dA P n ops=true) {i j:Nat} {x y:Oper} (hi:ops[i]?=some x) (hj:ops[j]?=some y) (hne:i≠j) :
  (∀ d,y.dst=some d→d∈looks ops x→j∈waits x∨(i∈waits y∧calm P y=false))∧(∀ d,x.dst=some d→calm P x=true→y.dst≠some d):=by
 unfold dA at hok;rw [Bool.and_eq_true] at hok;have h1:=List.all_eq_true.1 (List.all_eq_true.1 hok.2 (i,x) (fQ.2 hi)) (j,y) (fQ.2 hj);unfold B7 at h1;have hb:Nat.beq i j=false:=by
  cases hb:Nat.beq i j
  ·rfl
  ·exact (hne (Nat.eq_of_beq_eq_true hb)).elim
 simp only [hb,Bool.and_eq_true] at h1;refine ⟨fun d hd hl=>?_,fun d hd hc hy=>?_⟩
 ·have h2:=h1.1;simp only [hd,Bool.or_eq_true,Bool.and_eq_true,Bool.not_eq_true'] at h2;rcases h2 with (h2 | h2) | ⟨h2,h3⟩
  ·have:=eZ.2 hl; rw [this] at h2; cases h2
  ·exact .inl (eZ.1 h2)
  ·exact .inr ⟨eZ.1 h2,h3⟩
 ·have h2:=h1.2;simp only [hd,hc,hy,j6] at h2;simp at h2
def wH (ops:Array Oper) (o:Oper) (e:Env) (b:Bool):Prop :=
 match o.guard with
 | none=>b=true
 | some (j,w)=>match (ops[j]?).bind (·.dst) with
  | none=>b=false
  | some d=>(∃ t,bO e d=some (.bool t)∧b=(t==w))∨(∃ vs,bO e d=some (.tuple vs)∧b=false)
theorem tF {o:Oper} {j d:Nat} {w:Bool} (hg:o.guard=some (j,w)) (hd:(ops[j]?).bind (·.dst)=some d):d∈looks ops o:=by
 unfold looks;rw [hg];simp only [hd];exact List.mem_append_right _ (by simp)
theorem wH.wanted {o:Oper} {e:Env} {b:Bool} (h:wH ops o e b) {tm:Array Value} (ht:∀ s∈looks ops o,∀ v,bO e s=some v→tm.getD s undef=v) :
  Region.wanted o (yielded ops tm)=b:=by
 unfold wH at h;cases hg:o.guard with
 | none=>simp only [hg] at h; subst h; exact ub hg
 | some p =>
  obtain ⟨j,w⟩:=p;simp only [hg] at h;rw [tD hg];cases hd:(ops[j]?).bind (·.dst) with
  | none=>simp only [hd] at h; subst h; simp [yielded,hd]
  | some d =>
   simp only [hd] at h;have hl:=tF hg hd;rcases h with ⟨t,h1,rfl⟩ | ⟨vs,h1,rfl⟩
   ·rw [qW hd (ht d hl _ h1)]; cases t <;> cases w <;> rfl
   ·rw [p9 hd (ht d hl _ h1)]; rfl
theorem wH.congr {o:Oper} {e e':Env} {b:Bool} (h:wH ops o e b) (he:∀ s∈looks ops o,bO e' s=bO e s):wH ops o e' b:=by
 unfold wH at h ⊢;cases hg:o.guard with
 | none=>simp only [hg] at h ⊢; exact h
 | some p =>
  obtain ⟨j,w⟩:=p;simp only [hg] at h ⊢;cases hd:(ops[j]?).bind (·.dst) with
  | none=>simp only [hd] at h ⊢; exact h
  | some d=>simp only [hd] at h ⊢; rw [he d (tF hg hd)]; exact h
theorem pe {e:Env} {d:Nat} {v:Value} (h:bO e d=some v) (s:Nat):bO (dK n e (some d) v) s=bO e s:=by
 simp only [dK];cases Nat.blt d n with
 | false=>rfl
 | true =>
  simp only [cond_true,dr]
  by_cases hs:d=s
  ·subst hs; rw [if_pos rfl,h]
  ·rw [if_neg hs]
theorem wG {o:Oper} {e:Env} {yes no:Env→T} {L:Lp} {K:Value→Hp→Prop} {h:Hp} (ht:oC n ops o e yes no L K h) :
  ∃ e' b,(∀ s,bO e' s=bO e s)∧wH ops o e b∧((b=true∧yes e' L K h)∨(b=false∧no e' L K h)):=by
 unfold oC guardOf at ht;unfold wH;cases hg:o.guard with
 | none=>simp only [hg] at ht ⊢; exact ⟨e,true,fun _=>rfl,rfl,.inl ⟨rfl,ht⟩⟩
 | some p =>
  obtain ⟨j,w⟩:=p;simp only [hg] at ht ⊢;cases hj:(ops[j]?).bind (·.dst) with
  | none=>simp only [hj] at ht ⊢; exact ⟨e,false,fun _=>rfl,rfl,.inr ⟨rfl,ht⟩⟩
  | some d =>
   simp only [hj] at ht ⊢;cases hv:bO e d with
   | none=>simp only [hv] at ht; exact ht.elim
   | some v =>
    cases v <;> simp only [hv] at ht <;> first | exact ht.elim | skip
    case tuple vs=>exact ⟨e,false,fun _=>rfl,.inr ⟨vs,rfl,rfl⟩,.inr ⟨rfl,ht⟩⟩
    case bool b =>
     cases w <;> simp only at ht <;> rcases eo ht with ⟨hb,ht⟩ | ⟨hb,ht⟩ <;> subst hb
     ·exact ⟨_,false,pe hv,.inl ⟨true,rfl,rfl⟩,.inr ⟨rfl,ht⟩⟩
     ·exact ⟨_,true,pe hv,.inl ⟨false,rfl,rfl⟩,.inl ⟨rfl,ht⟩⟩
     ·exact ⟨_,true,pe hv,.inl ⟨true,rfl,rfl⟩,.inl ⟨rfl,ht⟩⟩
     ·exact ⟨_,false,pe hv,.inl ⟨false,rfl,rfl⟩,.inr ⟨rfl,ht⟩⟩
def only (e:Env) (l:List Nat):Env:=l.filterMap fun s=>(bO e s).map fun v=>(s,some v)
theorem oZ {e:Env}:∀ {l:List Nat} {s:Nat},bO (only e l) s=if s∈l then bO e s else none
 | [],s=>by simp [only,bO]
 | t::l,s=>by
  unfold only;rw [List.filterMap_cons];cases hv:bO e t with
  | none =>
   simp only [Option.map_none];rw [show List.filterMap (fun s=>(bO e s).map fun v=>(s,some v)) l=only e l from rfl,oZ]
   by_cases h1:s∈l
   ·simp [h1]
   ·by_cases h2:s=t
    ·subst h2; simp [h1,hv]
    ·simp [h1,h2]
  | some v =>
   simp only [Option.map_some];rw [dr,show List.filterMap (fun s=>(bO e s).map fun v=>(s,some v)) l=only e l from rfl,oZ]
   by_cases h1:t=s
   ·subst h1; simp [hv]
   ·have h2:¬ s=t:=fun hh=>h1 hh.symm
    simp [h1,h2]
theorem ta {o:Oper} {t:Nat} (h:Operand.tmp t∈o.op.operands):t∈looks ops o:=by
 unfold looks;refine List.mem_append_left _ (List.mem_filterMap.2 ⟨.tmp t,by simpa using h,rfl⟩)
theorem BR {o:Oper} {e:Env} {kk:Value→T}:uX P o (only e (looks ops o)) kk=uX P o e kk:=by
 refine sQ (fun x hx=>?_) kk;cases x <;> try rfl
 rename_i t;simp only [ev];rw [oZ,if_pos (ta hx)]
theorem BP {e:Env} {a:Act} {l:List Nat} (hs:a.tmps.size=n.n) (hd:a.defers=n.d) (h:∀ s∈l,∀ v,bO e s=some v→a.tmps.getD s undef=v):iH n (only e l) a:=by
 refine ⟨hs,hd,fun s v hv=>?_⟩;rw [oZ] at hv;split at hv
 ·rename_i hm; exact h s hm v hv
 ·cases hv
def Gh (P : Program) (n : Nd) (ops : Array Oper) (e : Env) (m : Made) (h : Hp) (i : Nat) (o : Oper) : Prop :=
  calm P o = true ∧ ∃ v b, (∀ d, o.dst = some d → d < n → bO e d = some v) ∧ wH ops o e b ∧
    ((b = false ∧ v = undef) ∨ (b = true ∧ ((∀ (kk : Value → T) L K h', kk v L K h' → uX P o e kk L K h') ∨
      (∃ p l, (i, p, l) ∈ m ∧ aG h p 0 l ∧ ∀ (kk : Value → T) L K h', aG h' p 0 l → kk v L K h' → uX P o e kk L K h'))))
def vg (ops:Array Oper):List Nat→Prop
 | []=>True
 | i::D=>i∉D∧(∀ o,ops[i]?=some o→∀ j∈waits o,j∈D)∧vg ops D
structure nQ (P:Program) (n:Nd) (ops:Array Oper) (e0:Env) (listed:Array Bool) (a:Act) (h:Hp) (D:List Nat) (e:Env) (m:Made):Prop where
 rz:listed.size=ops.size
 size:a.tmps.size=n.n
 defers:a.defers=n.d
 lD:∀ i,listed[i]?=some true→i∈D
 dD:∀ i∈D,∃ o,ops[i]?=some o
 closed:vg ops D
 Lv:∀ s v,bO e s=some v→(∀ j∈D,∀ o,ops[j]?=some o→listed[j]?=some false→o.dst≠some s)→a.tmps.getD s undef=v
 FQ:∀ i∈D,∀ o,ops[i]?=some o→listed[i]?=some false→Gh P n ops e m h i o
 fr:Fr (dstsOf ops) e0 e
theorem nI:∀ {D:List Nat},vg ops D→∀ i∈D,∀ o,ops[i]?=some o→∀ j∈waits o,j∈D
 | i'::D,hc,i,hi,o,ho,j,hj=>by
  rcases List.mem_cons.1 hi with rfl | hi
  ·exact List.mem_cons_of_mem _ (hc.2.1 o ho j hj)
  ·exact List.mem_cons_of_mem _ (nI hc.2.2 i hi o ho j hj)
theorem pT (listed:Array Bool):∀ {D:List Nat},vg ops D→(∀ i∈D,∃ o,ops[i]?=some o)→(∃ i∈D,listed[i]?=some false)→(∀ i∈D,listed[i]?=some true∨listed[i]?=some false) →
  ∃ i∈D,listed[i]?=some false∧∀ o,ops[i]?=some o→∀ j∈waits o,listed[j]?=some true
 | i'::D,hc,hd,⟨i,hi,hf⟩,hall=>by
  by_cases hex:∃ i∈D,listed[i]?=some false
  ·obtain ⟨k,hk,h1,h2⟩:=pT listed hc.2.2 (fun i hi=>hd i (List.mem_cons_of_mem _ hi)) hex (fun i hi=>hall i (List.mem_cons_of_mem _ hi));exact ⟨k,List.mem_cons_of_mem _ hk,h1,h2⟩
  ·have hi':i=i':=by
    rcases List.mem_cons.1 hi with h | h
    ·exact h
    ·exact (hex ⟨i,h,hf⟩).elim
   subst hi';refine ⟨i,by simp,hf,fun o ho j hj=>?_⟩;have hjD:=hc.2.1 o ho j hj;rcases hall j (List.mem_cons_of_mem _ hjD) with h | h
   ·exact h
   ·exact (hex ⟨j,hjD,h⟩).elim
theorem hM {e:Env} {dst:Option Tmp} {v:Value} {s:Nat} (hd:dst≠some s):bO (dK n e dst v) s=bO e s:=by
 cases dst with
 | none=>rfl
 | some d =>
  simp only [dK];cases Nat.blt d n with
  | false=>rfl
  | true=>simp only [cond_true,dr]; rw [if_neg (fun hh:d=s=>hd (by rw [hh]))]
theorem qa {e:Env} {d:Nat} {v:Value} (hd:d<n):bO (dK n e (some d) v) d=some v:=by
 have hb:Nat.blt d n=true:=by rw [Nat.blt_eq]; exact hd
 simp only [dK,hb,cond_true,dr,if_true]
theorem DK {a:Act} {dst:Option Tmp} {v:Value} {s:Nat} (hd:dst≠some s):(a.put dst v).tmps.getD s undef=a.tmps.getD s undef:=by
 cases dst with
 | none=>rfl
 | some d =>
  have hne:d≠s:=fun hh=>hd (by rw [hh])
  simp [Act.put,Array.getD_eq_getD_getElem?,Array.getElem?_setIfInBounds,hne]
theorem rk {a:Act} {d:Nat} {v:Value} (hd:d<a.tmps.size):(a.put (some d) v).tmps.getD d undef=v:=by
 simp [Act.put,Array.getD_eq_getD_getElem?,Array.getElem?_setIfInBounds,hd]
theorem Af (a:Act) (dst:Option Tmp) (v:Value):(a.put dst v).tmps.size=a.tmps.size:=by cases dst <;> simp [Act.put]
theorem put_defers (a:Act) (dst:Option Tmp) (v:Value):(a.put dst v).defers=a.defers:=by cases dst <;> rfl
variable {e0:Env} {listed:Array Bool} {a:Act} {h:Hp} {D:List Nat} {e:Env} {m:Made}
theorem AX {i:Nat} {o:Oper} (ho:ops[i]?=some o) {d:Nat} (hd:o.dst=some d):d∈dstsOf ops:=Df (j:=i) (by rw [ho]; exact hd)
theorem Fr.step {n:Nat} {l:List Nat} {e0 e e':Env} {o:Oper} {v:Value} (h:Fr l e0 e) (he:∀ s,bO e' s=bO e s) (hd:∀ d,o.dst=some d→d∈l):Fr l e0 (Sx.dK n e' o.dst v) :=
 (h.trans (fun s _=>he s)).trans (Fr.dK n e' v hd)
theorem nQ.sf (I:nQ P n ops e0 listed a h D e m) {i:Nat} {o:Oper} (ho:ops[i]?=some o) (hn:listed[i]?≠some true):listed[i]?=some false:=by
 have hlt:i<ops.size:=by
  rcases Nat.lt_or_ge i ops.size with h | h
  ·exact h
  ·rw [Array.getElem?_eq_none h] at ho; cases ho
 have hlt':i<listed.size:=by rw [I.rz]; exact hlt
 rw [Array.getElem?_eq_getElem hlt'] at hn ⊢;cases hb:listed[i] with
 | false=>rfl
 | true=>rw [hb] at hn; exact (hn rfl).elim
theorem nQ.Dl (hok:dA P n ops=true) (I:nQ P n ops e0 listed a h D e m) {i:Nat} {o:Oper} (ho:ops[i]?=some o) (hr:∀ j∈waits o,listed[j]?=some true)
  (hi:i∉D∨calm P o=true):∀ s∈looks ops o,∀ v,bO e s=some v→a.tmps.getD s undef=v:=by
 intro s hs v hv;refine I.Lv s v hv ?_;intro j hj oj hoj hf hd;have hcj:=(I.FQ j hj oj hoj hf).1
 by_cases hij:i=j
 ·subst hij;rw [ho] at hoj; obtain rfl:=Option.some.inj hoj;exact Dc hok ho hd hcj hs
 ·rcases (lj hok ho hoj hij).1 s hd hs with h1 | ⟨_,h1⟩
  ·rw [hr j h1] at hf; cases hf
  ·rw [hcj] at h1; cases h1
theorem nQ.exec (hok:dA P n ops=true) (I:nQ P n ops e0 listed a h D e m) {i:Nat} {o:Oper} (ho:ops[i]?=some o) (hiD:i∈D) (hf:listed[i]?=some false) {v:Value}
  (hv:∀ d,o.dst=some d→bO e d=some v) (hc:calm P o=true):nQ P n ops e0 (listed.setIfInBounds i true) (a.put o.dst v) h D e m:=by
 have hlt:i<listed.size:=by
  rcases Nat.lt_or_ge i listed.size with h | h
  ·exact h
  ·rw [Array.getElem?_eq_none h] at hf; cases hf
 have jG:∀ j,(listed.setIfInBounds i true)[j]?=if i=j then some true else listed[j]?:=by
  intro j;rw [Array.getElem?_setIfInBounds]
  by_cases hij:i=j
  ·subst hij; simp [hlt]
  ·simp [hij]
 refine ⟨by simp [I.rz],by rw [Af,I.size],by rw [put_defers,I.defers],?_,I.dD,I.closed,?_,?_,I.fr⟩
 ·intro j hj;rw [jG] at hj
  by_cases hij:i=j
  ·subst hij; exact hiD
  ·rw [if_neg hij] at hj; exact I.lD j hj
 ·intro s u hu hno
  by_cases hd:o.dst=some s
  ·rw [hd];rw [hv s hd] at hu;obtain rfl:=Option.some.inj hu;exact rk (by rw [I.size]; exact FZ hok ho hd)
  ·rw [DK hd];refine I.Lv s u hu ?_;intro j hj oj hoj hf' hd'
   by_cases hij:i=j
   ·subst hij; rw [ho] at hoj; obtain rfl:=Option.some.inj hoj; exact hd hd'
   ·exact hno j hj oj hoj (by rw [jG,if_neg hij]; exact hf') hd'
 ·intro j hj oj hoj hf';rw [jG] at hf'
  by_cases hij:i=j
  ·rw [if_pos hij] at hf'; cases hf'
  ·rw [if_neg hij] at hf'; exact I.FQ j hj oj hoj hf'
theorem Gh.congr {e e':Env} {m m':Made} {h h':Hp} {i:Nat} {o:Oper} (hp:Gh P n ops e m h i o) (hl:∀ s∈looks ops o,bO e' s=bO e s) (hd:∀ d,o.dst=some d→bO e' d=bO e d)
  (hm:∀ p l,(i,p,l)∈m→aG h p 0 l→(i,p,l)∈m'∧aG h' p 0 l):Gh P n ops e' m' h' i o:=by
 obtain ⟨hc,v,b,h1,h2,h3⟩:=hp;have hx:∀ kk,uX P o e' kk=uX P o e kk:=fun kk=>sQ (fun x hx=>by
  cases x <;> try rfl
  exact hl _ (ta hx)) kk
 refine ⟨hc,v,b,fun d hd1 hd2=>by rw [hd d hd1]; exact h1 d hd1 hd2,h2.congr hl,?_⟩;rcases h3 with h3 | ⟨hb,h3 | ⟨p,l,h3,h4,h5⟩⟩
 ·exact .inl h3
 ·exact .inr ⟨hb,.inl fun kk L K h' hk=>by rw [hx]; exact h3 kk L K h' hk⟩
 ·obtain ⟨h6,h7⟩:=hm p l h3 h4;exact .inr ⟨hb,.inr ⟨p,l,h6,h7,fun kk L K h' hc hk=>by rw [hx]; exact h5 kk L K h' hc hk⟩⟩
theorem nQ.ahead (hok:dA P n ops=true) (I:nQ P n ops e0 listed a h D e m) {i:Nat} {o:Oper} (ho:ops[i]?=some o) (hiD:i∉D) (hw:∀ j∈waits o,j∈D) (hc:calm P o=true)
  {v:Value} {e':Env} (he:∀ s,bO e' s=bO e s) {m':Made} (hm:∀ x∈m,x∈m')
  (hp:Gh P n ops (dK n e' o.dst v) m' h i o):nQ P n ops e0 listed a h (i::D) (dK n e' o.dst v) m':=by
 have hfi:listed[i]?=some false:=I.sf ho (fun hh=>hiD (I.lD i hh));refine ⟨I.rz,I.size,I.defers,fun j hj=>List.mem_cons_of_mem _ (I.lD j hj),?_,⟨hiD,?_,I.closed⟩,?_,?_,I.fr.step he (fun d hd=>AX ho hd)⟩
 ·intro j hj;rcases List.mem_cons.1 hj with rfl | hj
  ·exact ⟨o,ho⟩
  ·exact I.dD j hj
 ·intro o' ho' j hj;rw [ho] at ho'; obtain rfl:=Option.some.inj ho';exact hw j hj
 ·intro s u hu hno;have hd:o.dst≠some s:=hno i (by simp) o ho hfi;rw [hM hd,he] at hu;exact I.Lv s u hu fun j hj oj hoj hf=>hno j (List.mem_cons_of_mem _ hj) oj hoj hf
 ·intro j hj oj hoj hf;rcases List.mem_cons.1 hj with rfl | hj
  ·rw [ho] at hoj; obtain rfl:=Option.some.inj hoj; exact hp
  ·have hne:j≠i:=fun hh=>hiD (hh▸hj)
   have hpj:=I.FQ j hj oj hoj hf;refine hpj.congr ?_ ?_ (fun p l h1 h2=>⟨hm _ h1,h2⟩)
   ·intro s hs
    by_cases hd:o.dst=some s
    ·exfalso;rcases (lj hok hoj ho hne).1 s hd hs with h1 | ⟨_,h1⟩
     ·exact hiD (nI I.closed j hj oj hoj i h1)
     ·rw [hc] at h1; cases h1
    ·rw [hM hd,he]
   ·intro d hd;rw [hM ((lj hok hoj ho hne).2 d hd hpj.1),he]
theorem nQ.effect (hok:dA P n ops=true) (I:nQ P n ops e0 listed a h D e m) {i:Nat} {o:Oper} (ho:ops[i]?=some o) (hiD:i∉D) (hr:∀ j∈waits o,listed[j]?=some true) (hc:calm P o=false)
  {v:Value} {e':Env} (he:∀ s,bO e' s=bO e s) {h':Hp} (hst:∀ j p l,(j,p,l)∈m→aG h p 0 l→j∉waits o→aG h' p 0 l) :
  nQ P n ops e0 (listed.setIfInBounds i true) (a.put o.dst v) h' (i::D) (dK n e' o.dst v) m:=by
 have hfi:listed[i]?=some false:=I.sf ho (fun hh=>hiD (I.lD i hh));have hlt:i<listed.size:=by
  rcases Nat.lt_or_ge i listed.size with h | h
  ·exact h
  ·rw [Array.getElem?_eq_none h] at hfi; cases hfi
 have jG:∀ j,(listed.setIfInBounds i true)[j]?=if i=j then some true else listed[j]?:=by
  intro j;rw [Array.getElem?_setIfInBounds]
  by_cases hij:i=j
  ·subst hij; simp [hlt]
  ·simp [hij]
 refine ⟨by simp [I.rz],by rw [Af,I.size],by rw [put_defers,I.defers],?_,?_,⟨hiD,?_,I.closed⟩,?_,?_,I.fr.step he (fun d hd=>AX ho hd)⟩
 ·intro j hj;rw [jG] at hj
  by_cases hij:i=j
  ·subst hij; simp
  ·rw [if_neg hij] at hj; exact List.mem_cons_of_mem _ (I.lD j hj)
 ·intro j hj;rcases List.mem_cons.1 hj with rfl | hj
  ·exact ⟨o,ho⟩
  ·exact I.dD j hj
 ·intro o' ho' j hj;rw [ho] at ho'; obtain rfl:=Option.some.inj ho';exact I.lD j (hr j hj)
 ·intro s u hu hno
  by_cases hd:o.dst=some s
  ·rw [hd] at hu ⊢;have hdn:=FZ hok ho hd;rw [qa hdn] at hu;obtain rfl:=Option.some.inj hu;exact rk (by rw [I.size]; exact hdn)
  ·rw [hM hd,he] at hu;rw [DK hd];refine I.Lv s u hu ?_;intro j hj oj hoj hf;have hne:i≠j:=fun hh=>hiD (hh▸hj)
   exact hno j (List.mem_cons_of_mem _ hj) oj hoj (by rw [jG,if_neg hne]; exact hf)
 ·intro j hj oj hoj hf;rw [jG] at hf
  by_cases hij:i=j
  ·rw [if_pos hij] at hf; cases hf
  ·rw [if_neg hij] at hf;rcases List.mem_cons.1 hj with hh | hj
   ·exact (hij hh.symm).elim
   ·have hpj:=I.FQ j hj oj hoj hf;have hnw:j∉waits o:=fun hh=>by rw [hr j hh] at hf; cases hf
    refine hpj.congr ?_ ?_ (fun p l h1 h2=>⟨h1,hst j p l h1 h2 hnw⟩)
    ·intro s hs
     by_cases hd:o.dst=some s
     ·exfalso;rcases (lj hok hoj ho (fun hh=>hij hh.symm)).1 s hd hs with h1 | ⟨h1,_⟩
      ·exact hiD (nI I.closed j hj oj hoj i h1)
      ·exact hnw h1
     ·rw [hM hd,he]
    ·intro d hd;rw [hM ((lj hok hoj ho (fun hh=>hij hh.symm)).2 d hd hpj.1),he]
theorem lJ {listed:Array Bool} (hs:listed.size=ops.size) {i:Nat}:i∈Region.ready .any ops listed↔∃ o,ops[i]?=some o∧listed[i]?=some false∧∀ j∈waits o,listed[j]?=some true:=by
 unfold Region.ready;rw [List.mem_filter,List.mem_range];constructor
 ·rintro ⟨hlt,hh⟩;rw [Bool.and_eq_true] at hh;obtain ⟨h1,h2⟩:=hh;have ho:ops[i]?=some ops[i]:=Array.getElem?_eq_getElem hlt;rw [ho] at h2;refine ⟨ops[i],ho,?_,?_⟩
  ·have hlt':i<listed.size:=by rw [hs]; exact hlt
   rw [Array.getElem?_eq_getElem hlt'];simp only [Bool.not_eq_true',Array.getD_eq_getD_getElem?,Array.getElem?_eq_getElem hlt',Option.getD_some] at h1;rw [h1]
  ·intro j hj;simp only [Option.map_some,Option.getD_some] at h2;unfold waits at hj;obtain ⟨ed,hed,rfl⟩:=List.mem_map.1 hj;obtain ⟨hed1,hed2⟩:=List.mem_filter.1 hed;have h3:=(Array.all_eq_true_iff_forall_mem.1 h2) ed (by simpa using hed1);rw [hed2] at h3;simp only [Bool.not_true,Bool.false_or,Array.getD_eq_getD_getElem?] at h3;cases hx:listed[ed.on]? with
   | none=>rw [hx] at h3; cases h3
   | some b=>rw [hx] at h3; simp at h3; rw [h3]
 ·rintro ⟨o,ho,h1,h2⟩;have hlt:i<ops.size:=by
   rcases Nat.lt_or_ge i ops.size with h | h
   ·exact h
   ·rw [Array.getElem?_eq_none h] at ho; cases ho
  refine ⟨hlt,?_⟩;rw [Bool.and_eq_true];refine ⟨by simp [Array.getD_eq_getD_getElem?,h1],?_⟩;rw [ho];simp only [Option.map_some,Option.getD_some];refine Array.all_eq_true_iff_forall_mem.2 fun ed hed=>?_
  cases hb:Region.binds .any ed with
  | false=>rfl
  | true =>
   have:=h2 ed.on (List.mem_map.2 ⟨ed,List.mem_filter.2 ⟨by simpa using hed,hb⟩,rfl⟩)
   simp [Array.getD_eq_getD_getElem?,this]
theorem ee {D:List Nat} {c:Bool} {p:Nat × Oper}:∀ {l:List (Nat × Oper)},p∈cH P D c l↔p∈l∧sK D p.1 p.2=true∧calm P p.2=c
 | []=>by simp [cH]
 | q::l=>by
  unfold cH;cases hb:sK D q.1 q.2 && (calm P q.2==c) with
  | true =>
   rw [Bool.and_eq_true] at hb;simp only [List.mem_cons,ee (l:=l)];constructor
   ·rintro (rfl | h)
    ·exact ⟨.inl rfl,hb.1,by simpa using hb.2⟩
    ·exact ⟨.inr h.1,h.2⟩
   ·rintro ⟨rfl | h,h2⟩
    ·exact .inl rfl
    ·exact .inr ⟨h,h2⟩
  | false =>
   simp only [List.mem_cons,ee (l:=l)];constructor
   ·rintro ⟨h1,h2⟩; exact ⟨.inr h1,h2⟩
   ·rintro ⟨rfl | h,h2⟩
    ·rw [h2.1,h2.2] at hb; simp at hb
    ·exact ⟨h,h2⟩
theorem qU {D:List Nat} {i:Nat} {o:Oper}:sK D i o=true↔i∉D∧∀ j∈waits o,j∈D:=by
 unfold sK;rw [Bool.and_eq_true];constructor
 ·rintro ⟨h1,h2⟩;refine ⟨fun hh=>?_,fun j hj=>eZ.1 (List.all_eq_true.1 h2 j hj)⟩;rw [eZ.2 hh] at h1; cases h1
 ·rintro ⟨h1,h2⟩;refine ⟨?_,List.all_eq_true.2 fun j hj=>eZ.2 (h2 j hj)⟩;cases hb:sB i D with
  | false=>rfl
  | true=>exact (h1 (eZ.1 hb)).elim
theorem Jt {L:Lp} {K:Value→Hp→Prop} {h:Hp} {o:Oper} {m:Made} {t:T} (ht:zW (oH o m) t L K h):t L K h∧∀ j p l,(j,p,l)∈m→j∉waits o→aG h p 0 l:=by
 have h1:∀ l:List (Addr × List Value),zW l t L K h→T.FO h l∧t L K h:=by
  intro l hl;cases l with
  | nil=>exact ⟨trivial,hl⟩
  | cons p l=>exact hl
 obtain ⟨h2,h3⟩:=h1 _ ht;refine ⟨h3,?_⟩;clear ht h1 h3
 induction m with
 | nil=>intro j p l hj; cases hj
 | cons x m ih =>
  obtain ⟨i,q,lq⟩:=x;intro j p l hj hnw;unfold oH at h2;cases hb:sB i (waits o) with
  | true =>
   rw [hb] at h2;rcases List.mem_cons.1 hj with hh | hj
   ·simp only [Prod.mk.injEq] at hh;obtain ⟨rfl,rfl,rfl⟩:=hh;exact (hnw (eZ.1 hb)).elim
   ·exact ih h2 j p l hj hnw
  | false =>
   rw [hb] at h2;simp only [cond_false] at h2;rcases List.mem_cons.1 hj with hh | hj
   ·simp only [Prod.mk.injEq] at hh;obtain ⟨rfl,rfl,rfl⟩:=hh;exact h2.1
   ·exact ih h2.2 j p l hj hnw
theorem IG {L:Lp} {K:Value→Hp→Prop} {h:Hp}:∀ {ts:List T} {t:T},t∈ts→Lf ts L K h→t L K h
 | [],t,ht,_=>by cases ht
 | [u],t,ht,hx=>by simp at ht; subst ht; exact hx
 | u::u2::ts,t,ht,hx=>by
  have:∀ ts:List T,t∈ts→T.every L K h ts→t L K h:=by
   intro ts
   induction ts with
   | nil=>intro hh; cases hh
   | cons v ts ih =>
    intro hh hx;rcases List.mem_cons.1 hh with rfl | hh
    ·exact hx.1
    ·exact ih hh hx.2
  exact this _ ht hx
def left (listed:Array Bool):Nat:=(listed.toList.filter fun b=>!b).length
theorem yE:∀ (l:List Bool) (i:Nat),l[i]?=some false→((l.set i true).filter fun b=>!b).length+1=(l.filter fun b=>!b).length
 | [],i,h=>by simp at h
 | b::l,0,h=>by simp at h; subst h; simp
 | b::l,i+1,h=>by
  simp at h
  have:=yE l i h
  cases b
  ·simp only [List.set_cons_succ,List.filter_cons,Bool.not_false,if_true,List.length_cons]; omega
  ·simp only [List.set_cons_succ,List.filter_cons,Bool.not_true,Bool.false_eq_true,if_false]; exact this
theorem B4 {listed:Array Bool} {i:Nat} (hf:listed[i]?=some false):left (listed.setIfInBounds i true)+1=left listed:=by
 unfold left;rw [Array.toList_setIfInBounds];exact yE _ i (by simpa using hf)
theorem En {listed:Array Bool} (h0:left listed=0) (i:Nat):listed[i]?≠some false:=by
 intro hf
 have:=B4 hf
 omega
def Cm (v:Value) (h:Hp):Value→T:=fun v' _ _ h'=>v'=v∧h'=h
theorem IM (hok:dA P n ops=true) {L:Lp} {K:Value→Hp→Prop} {k:Env→T} {Q:Exit→Act→World→Prop} {w0:World} {i:Nat}
  {listed:Array Bool} {a:Act} {w:World} {R:Act→World→Prop} (hi:i∈Region.ready .any ops listed) (hs:bT w0 w)
  (next:∀ a' w' D e m fu,bT w0 w'→nQ P n ops e0 (listed.setIfInBounds i true) a' w'.heap D e m→iD P n ops fu D e m k L K w'.heap→R a' w') :
  ∀ fu D e m,nQ P n ops e0 listed a w.heap D e m→iD P n ops fu D e m k L K w.heap→wpOp P ops Q i R a w:=by
 intro fu
 induction fu with
 | zero=>intro D e m I ht; exact ht.elim
 | succ fu ih =>
  intro D e m I ht;obtain ⟨o,ho,hf,hr⟩:=(lJ I.rz).1 hi
  by_cases hiD:i∈D
  ·
   obtain ⟨hc,v,b,hv,hg,hx⟩:=I.FQ i hiD o ho hf;have hlk:=I.Dl hok ho hr (.inr hc);have hwant:=hg.wanted hlk;have hv':∀ d,o.dst=some d→bO e d=some v:=fun d hd=>hv d hd (FZ hok ho hd)
   unfold wpOp;rw [ho];simp only;have I':=I.exec hok ho hiD hf hv' hc;rcases hx with ⟨rfl,rfl⟩ | ⟨rfl,hx⟩
   ·rw [if_neg (by simp [hwant])];exact next _ _ D e m (fu+1) hs I' ht
   ·rw [if_pos hwant];refine .inl ?_;have hop:Mr P o a.eval w.heap (fun v' h'=>v'=v∧h'=w.heap):=by
     have hxx:uX P o e (Cm v w.heap) [] (fun _ _=>True) w.heap:=by
      rcases hx with hx | ⟨p,l,_,hcl,hx⟩
      ·exact hx (Cm v w.heap) [] (fun _ _=>True) w.heap ⟨rfl,rfl⟩
      ·exact hx (Cm v w.heap) [] (fun _ _=>True) w.heap hcl ⟨rfl,rfl⟩
     rw [← BR (ops:=ops)] at hxx;exact Cd (BP I.size I.defers hlk) hxx
    refine sX hop ?_;rintro v' w' hs' ⟨rfl,hh⟩;refine next _ _ D e m (fu+1) (hs.trans hs') (by rw [hh]; exact I') (by rw [hh]; exact ht)
  ·unfold iD at ht;cases hcalm:cH P D true (idx 0 ops.toList) with
   | cons q qs =>
    obtain ⟨j,oj⟩:=q;simp only [hcalm] at ht;have hq:(j,oj)∈cH P D true (idx 0 ops.toList):=by rw [hcalm]; simp
    obtain ⟨hq1,hq2,hq3⟩:=ee.1 hq;have hoj:=fQ.1 hq1;obtain ⟨hjD,hjw⟩:=qU.1 hq2;obtain ⟨e',b,he,hg,hx⟩:=wG ht;have hg':∀ u,wH ops oj (dK n e' oj.dst u) b:=fun u=>hg.congr fun s hs=>by
     by_cases hd:oj.dst=some s
     ·exact (Dc hok hoj hd hq3 hs).elim
     ·rw [hM hd,he]
    have hself:∀ u d,oj.dst=some d→d<n→bO (dK n e' oj.dst u) d=some u:=fun u d hd hdn=>by rw [hd]; exact qa hdn
    have hxe:∀ u kk,uX P oj (dK n e' oj.dst u) kk=uX P oj e' kk:=fun u kk=>sQ (fun x hx=>by
     cases x <;> try rfl
     rename_i s;simp only [ev];exact hM (fun hd=>Dc hok hoj hd hq3 (ta hx))) kk
    rcases hx with ⟨rfl,hx⟩ | ⟨rfl,hx⟩
    ·
     unfold calm at hq3;cases hpure:nP P oj with
     | true =>
      have hx':uX P oj e' (fun v=>iD P n ops fu (j::D) (dK n e' oj.dst v) m k) L K w.heap:=by
       have hnl:∀ t x,oj.op≠.load t x:=by
        intro t x hh;unfold nP at hpure;rw [hh] at hpure; cases hpure
       obtain ⟨dst,op,type,pos,after,guard⟩:=oj;cases op <;> first | exact hx | exact (hnl _ _ rfl).elim
      obtain ⟨v,hk,hall⟩:=FA hpure hx';refine ih (j::D) _ m (I.ahead hok hoj hjD hjw (by unfold calm; rw [hpure]; rfl) he (fun x hx=>hx) ?_) hk;exact ⟨by unfold calm; rw [hpure]; rfl,v,true,hself v,hg' v,.inr ⟨rfl,.inl fun kk L K h' hkk=>by rw [hxe]; exact hall kk L K h' hkk⟩⟩
     | false =>
      rw [hpure,Bool.false_or] at hq3;obtain ⟨t,x,hop⟩:∃ t x,oj.op=.load t x:=by
       unfold wS at hq3;cases hop:oj.op <;> rw [hop] at hq3 <;> first | (cases hq3; done) | exact ⟨_,_,rfl⟩
      have hcj:calm P oj=true:=by unfold calm wS; rw [hop]; simp
      simp only [hop] at hx;unfold pZ at hx;obtain ⟨u,hu,hx⟩:=aP hx;have hx2:pZ P t x e' (fun a l v=>iD P n ops fu (j::D) (dK n e' oj.dst v) ((j,a,l)::m) k) L K w.heap:=by
       unfold pZ bo; simp only [hu]; exact hx
      cases hb:cC P t with
      | none=>cases u <;> simp only [hb] at hx <;> exact hx.elim
      | some bb =>
       obtain ⟨pp,rfl⟩:∃ pp,u=.pointer pp:=by
        cases u <;> cases bb <;> simp only [hb] at hx <;> first | exact hx.elim | exact ⟨_,rfl⟩
       have hx3:(match bb with
        | true=>(bif (fz P 9 t).length==P.cellsOf t then T.av pp fun a=>T.ae a (fz P 9 t) (cj _ fun l=>iD P n ops fu (j::D) (dK n e' oj.dst (.agg l.toArray)) ((j,a,l)::m) k) else T.fail)
        | false=>T.av pp fun a=>T.ae a (cL P t).2 (cj _ fun l=>iD P n ops fu (j::D) (dK n e' oj.dst (l.headD undef)) ((j,a,l)::m) k)) L K w.heap:=by
        cases bb <;> simp only [hb] at hx <;> exact hx
       have hfin:∃ p l v,pp=some p∧aG w.heap p 0 l∧iD P n ops fu (j::D) (dK n e' oj.dst v) ((j,p,l)::m) k L K w.heap ∧
         ∀ (kk:Value→T) L K h',aG h' p 0 l→kk v L K h'→uX P oj e' kk L K h':=by
        have hxop:∀ kk,uX P oj e' kk=pZ P t x e' (fun _ _ v=>kk v):=by
         intro kk;unfold uX;rw [hop];rfl
        cases bb with
        | true =>
         simp only at hx3;rcases eo hx3 with ⟨hl,hx3⟩ | ⟨hl,hx3⟩
         ·obtain ⟨p,rfl,hx3⟩:=eC hx3;obtain ⟨y,hc,hx3⟩:=hx3;rw [ej] at hx3;refine ⟨p,_,_,rfl,hc,hx3,fun kk L K h' hc' hkk=>?_⟩;rw [hxop];unfold pZ bo;simp only [hu,hb,hl];exact ⟨y,hc',by rw [ej]; exact hkk⟩
         ·exact hx3.elim
        | false =>
         simp only at hx3;obtain ⟨p,rfl,hx3⟩:=eC hx3;obtain ⟨y,hc,hx3⟩:=hx3;rw [ej] at hx3;refine ⟨p,_,_,rfl,hc,hx3,fun kk L K h' hc' hkk=>?_⟩;rw [hxop];unfold pZ bo;simp only [hu,hb];exact ⟨y,hc',by rw [ej]; exact hkk⟩
       obtain ⟨p,l,v,rfl,hc,hk,hall⟩:=hfin;refine ih (j::D) _ ((j,p,l)::m) (I.ahead hok hoj hjD hjw hcj he (fun x hx=>List.mem_cons_of_mem _ hx) ?_) hk;exact ⟨hcj,v,true,hself v,hg' v,.inr ⟨rfl,.inr ⟨p,l,by simp,hc,fun kk L K h' hc' hkk=>by rw [hxe]; exact hall kk L K h' hc' hkk⟩⟩⟩
    ·
     refine ih (j::D) _ m (I.ahead hok hoj hjD hjw hq3 he (fun x hx=>hx) ?_) hx;exact ⟨hq3,undef,false,hself undef,hg' undef,.inl ⟨rfl,rfl⟩⟩
   | nil =>
    simp only [hcalm] at ht;have hjw:∀ j∈waits o,j∈D:=fun j hj=>I.lD j (hr j hj)
    have hrx:sK D i o=true:=qU.2 ⟨hiD,hjw⟩;have hc:calm P o=false:=by
     cases hc:calm P o with
     | false=>rfl
     | true =>
      have:(i,o)∈cH P D true (idx 0 ops.toList):=ee.2 ⟨fQ.2 ho,hrx,hc⟩
      rw [hcalm] at this; cases this
    have hmem:(i,o)∈cH P D false (idx 0 ops.toList):=ee.2 ⟨fQ.2 ho,hrx,hc⟩;cases heff:cH P D false (idx 0 ops.toList) with
    | nil=>rw [heff] at hmem; cases hmem
    | cons q qs =>
     simp only [heff] at ht;rw [heff] at hmem;have hti:=IG (List.mem_map.2 ⟨(i,o),hmem,rfl⟩) ht;simp only at hti;obtain ⟨e',b,he,hg,hx⟩:=wG hti;have hlk:=I.Dl hok ho hr (.inl hiD);have hwant:=hg.wanted hlk;unfold wpOp;rw [ho];simp only;rcases hx with ⟨rfl,hx⟩ | ⟨rfl,hx⟩
     ·rw [if_pos hwant];refine .inl ?_;rw [← BR (ops:=ops)] at hx;have hlk':∀ s∈looks ops o,∀ v,bO e' s=some v→a.tmps.getD s undef=v:=fun s hs v hv=>hlk s hs v (by rw [← he]; exact hv)
      refine sX (Cd (BP I.size I.defers hlk') hx) ?_;intro v w' hs' hst;obtain ⟨hst1,hst2⟩:=Jt hst;exact next _ _ (i::D) _ m fu (hs.trans hs') (I.effect hok ho hiD hr hc he (fun j p l h1 _ h3=>hst2 j p l h1 h3)) hst1
     ·rw [if_neg (by simp [hwant])];exact next _ _ (i::D) _ m fu hs (I.effect hok ho hiD hr hc he (fun j p l _ h2 _=>h2)) hx
theorem Fw (hok:dA P n ops=true) {L:Lp} {K:Value→Hp→Prop} {k:Env→T} {Q:Exit→Act→Hp→Prop} {w0:World}
  (hk:∀ e a h,k e L K h→iH n e a→Fr (dstsOf ops) e0 e→Q .normal a h):∀ (fuel:Nat) (listed:Array Bool) (a:Act) (w:World) (D:List Nat) (e:Env) (m:Made) (fu:Nat),left listed≤fuel→bT w0 w →
   nQ P n ops e0 listed a w.heap D e m→iD P n ops fu D e m k L K w.heap→wpAny P .any ops (Mq w0 Q) fuel listed a w:=by
 have fin:∀ (listed:Array Bool) (a:Act) (w:World),bT w0 w→Region.ready .any ops listed=[]→∀ fu D e m,nQ P n ops e0 listed a w.heap D e m→iD P n ops fu D e m k L K w.heap→Mq w0 Q .normal a w:=by
  intro listed a w hs hr fu D e m I ht;have hall:∀ i∈D,listed[i]?=some true∨listed[i]?=some false:=by
   intro i hi;obtain ⟨o,ho⟩:=I.dD i hi
   by_cases h1:listed[i]?=some true
   ·exact .inl h1
   ·exact .inr (I.sf ho h1)
  have hdone:∀ i∈D,listed[i]?=some true:=by
   intro i hi;rcases hall i hi with h1 | h1
   ·exact h1
   ·obtain ⟨j,hj,h2,h3⟩:=pT listed I.closed I.dD ⟨i,hi,h1⟩ hall;obtain ⟨o,ho⟩:=I.dD j hj
    have:j∈Region.ready .any ops listed:=(lJ I.rz).2 ⟨o,ho,h2,h3 o ho⟩
    rw [hr] at this; cases this
  have hno:∀ c,cH P D c (idx 0 ops.toList)=[]:=by
   intro c;cases hx:cH P D c (idx 0 ops.toList) with
   | nil=>rfl
   | cons q qs =>
    obtain ⟨i,o⟩:=q;have hq:(i,o)∈cH P D c (idx 0 ops.toList):=by rw [hx]; simp
    obtain ⟨hq1,hq2,_⟩:=ee.1 hq;have ho:=fQ.1 hq1;obtain ⟨hiD,hw⟩:=qU.1 hq2
    have:i∈Region.ready .any ops listed:=(lJ I.rz).2 ⟨o,ho,I.sf ho (fun hh=>hiD (I.lD i hh)),fun j hj=>hdone j (hw j hj)⟩
    rw [hr] at this; cases this
  cases fu with
  | zero=>exact ht.elim
  | succ fu =>
   unfold iD at ht;simp only [hno] at ht;refine ⟨hs,hk e a w.heap ht ⟨I.size,I.defers,fun s v hv=>I.Lv s v hv ?_⟩ I.fr⟩;intro j hj o ho hf;rw [hdone j hj] at hf; cases hf
 intro fuel
 induction fuel with
 | zero =>
  intro listed a w D e m fu hl hs I ht;have hr:Region.ready .any ops listed=[]:=by
   cases hx:Region.ready .any ops listed with
   | nil=>rfl
   | cons i l =>
    have:i∈Region.ready .any ops listed:=by rw [hx]; simp
    obtain ⟨o,ho,hf,_⟩:=(lJ I.rz).1 this;exact (En (by omega) i hf).elim
  exact ⟨hr,fin listed a w hs hr fu D e m I ht⟩
 | succ fuel ih =>
  intro listed a w D e m fu hl hs I ht;refine ⟨fun hr=>fin listed a w hs hr fu D e m I ht,fun i hi=>?_⟩;obtain ⟨o,ho,hf,_⟩:=(lJ I.rz).1 hi;refine IM hok hi hs ?_ fu D e m I ht;intro a' w' D' e' m' fu' hs' I' ht';exact ih _ a' w' D' e' m' fu' (by have:=B4 hf; omega) hs' I' ht'
theorem Np (hm:P.follows .mixedOrders=true):Ny P n:=by
 intro id ops e k L K Q a h hk ht g w0 w hs hw;subst hw;unfold uU at ht;cases hok:dA P n ops with
 | false=>simp only [hok] at ht; exact ht.elim
 | true =>
  simp only [hok] at ht;have hnone:∀ (l:Array Bool) (i:Nat),l=Array.replicate ops.size false→l[i]?≠some true:=by
   intro l i hl hh;subst hl;simp [Array.getElem?_replicate] at hh
  refine wp_region_any hm (Fw (e0:=e) hok hk ops.size _ a { w with drawn:=w.drawn+1 } [] e [] (ops.size+1) ?_ ⟨hs.os,hs.tape,hs.output⟩ ?_ ht)
  ·unfold left;refine Nat.le_trans (List.length_filter_le _ _) ?_
   simp
  ·exact ⟨by simp,g.size,g.defers,fun i hi=>(hnone _ i rfl hi).elim,fun i hi=>(by cases hi),trivial,fun s v hv _=>g.get s v hv,fun i hi=>(by cases hi),Fr.refl _ _⟩
end draws
end Go.Sx
