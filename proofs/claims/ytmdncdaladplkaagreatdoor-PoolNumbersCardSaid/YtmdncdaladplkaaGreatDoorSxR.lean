/- A framework of our own, part R: regions whose order is drawn: every order comes to what the one order comes to that a tree follows. No condition. -/
import Derived.Test.YtmdncdaladplkaaGreatDoorSxM
import Derived.Orders
set_option linter.unusedVariables false
set_option linter.unusedSimpArgs false
set_option linter.deprecated false
namespace Go.Sx

section congr
variable {P : Program}
theorem with1_congr {e e' : Env} {x : Operand} (h : ev e x = ev e' x) (k : Value → T) : with1 e x k = with1 e' x k := by
  unfold with1; rw [h]
theorem withL_congr {e e' : Env} : ∀ {xs : List Operand}, (∀ x ∈ xs, ev e x = ev e' x) → ∀ (k : List Value → T), withL e xs k = withL e' xs k
  | [], _, k => rfl
  | x :: xs, h, k => by
    simp only [withL]
    rw [with1_congr (h x (by simp))]
    congr 1
    funext v
    exact withL_congr (fun x hx => h x (by simp [hx])) _
theorem xop_congr {o : Oper} {e e' : Env} (h : ∀ x ∈ o.op.operands, ev e x = ev e' x) (kk : Value → T) : xop P o e kk = xop P o e' kk := by
  obtain ⟨dst, op, type, pos, after, guard⟩ := o
  cases op <;> simp only [Op.operands] at h <;> simp only [xop]
  case pick c x y =>
    rw [with1_congr (h c (by simp))]
    congr 1; funext v
    cases v <;> first | rfl | (rw [with1_congr (h x (by simp)), with1_congr (h y (by simp))])
  case build t ps => rw [withL_congr (fun x hx => h x (by simpa using hx))]
  case buildSlice t l ps => rw [withL_congr (fun x hx => h x (by simpa using hx))]
  case store t x y =>
    rw [with1_congr (h x (by simp))]
    congr 1; funext v
    rw [with1_congr (h y (by simp))]
  case binOp op t x y yt =>
    rw [with1_congr (h x (by simp))]
    congr 1; funext v
    rw [with1_congr (h y (by simp))]
  case makeFunc fn fi ca =>
    rw [withL_congr (fun x hx => h x (by simp at hx ⊢; exact .inl hx))]
    congr 1; funext v
    rw [withL_congr (fun x hx => h x (by simp at hx ⊢; exact .inr hx))]
  case makeMap t r => cases r <;> rfl
  case makeSlice t x y =>
    rw [with1_congr (h x (by simp))]
    congr 1; funext v
    rw [with1_congr (h y (by simp))]
  case slice t x lo hi mx =>
    rw [with1_congr (h x (by simp))]
    congr 1; funext v
    rw [withL_congr (fun y hy => h y (by
      simp only [List.mem_append, Option.mem_toList] at hy
      simp only [Array.mem_append, Array.mem_singleton, Option.mem_toArray]
      rcases hy with (hy | hy) | hy
      · exact .inl (.inl (.inr hy))
      · exact .inl (.inr hy)
      · exact .inr hy))]
  case indexAddr t x y =>
    rw [with1_congr (h x (by simp))]
    congr 1; funext v
    rw [with1_congr (h y (by simp))]
  case index t x y =>
    rw [with1_congr (h x (by simp))]
    congr 1; funext v
    rw [with1_congr (h y (by simp))]
  case lookup t x y ok =>
    rw [with1_congr (h x (by simp))]
    congr 1; funext v
    rw [with1_congr (h y (by simp))]
  case mapUpdate t x y z =>
    rw [with1_congr (h x (by simp))]
    congr 1; funext v
    rw [with1_congr (h y (by simp))]
    congr 1; funext v
    rw [with1_congr (h z (by simp))]
  case insert t x y z =>
    rw [with1_congr (h x (by simp))]
    congr 1; funext v
    rw [with1_congr (h y (by simp))]
    congr 1; funext v
    rw [with1_congr (h z (by simp))]
  case mapEntry t x y =>
    rw [with1_congr (h x (by simp))]
    congr 1; funext v
    rw [with1_congr (h y (by simp))]
  case entryStore t x y z =>
    rw [with1_congr (h x (by simp))]
    congr 1; funext v
    rw [with1_congr (h y (by simp))]
    congr 1; funext v
    rw [with1_congr (h z (by simp))]
  case call c =>
    cases hc : c.callee with
    | builtin b =>
      simp only [hc]
      rw [withL_congr (fun x hx => h x (by simp [Call.operands, hc]; simpa using hx))]
    | invoke r m => simp only [hc]
    | value f =>
      simp only [hc]
      cases isTmp f
      · simp only
        rw [with1_congr (h f (by simp [Call.operands, hc]))]
        congr 1; funext v
        rw [withL_congr (xs := c.args.toList) (fun x hx => h x (by simp [Call.operands, hc]; right; simpa using hx))]
      · simp only
        rw [with1_congr (h f (by simp [Call.operands, hc]))]
        congr 1; funext v
        rw [withL_congr (xs := c.args.toList) (fun x hx => h x (by simp [Call.operands, hc]; right; simpa using hx))]
  all_goals first | rfl | exact with1_congr (h _ (by simp)) _
end congr

section pures
variable {P : Program} {L : Lp} {K : Value → Hp → Prop} {h : Hp}
/-- A step that does nothing to memory: it hands a value on, wherever it is asked. -/
def Steady (F : (Value → T) → T) (kk : Value → T) (L : Lp) (K : Value → Hp → Prop) (h : Hp) : Prop :=
  ∃ v, kk v L K h ∧ ∀ (kk' : Value → T) L' K' h', kk' v L' K' h' → F kk' L' K' h'
theorem with1_st {e : Env} {x : Operand} {F : (Value → T) → Value → T} {kk : Value → T} (hF : ∀ v, F kk v L K h → Steady (fun kk => F kk v) kk L K h)
    (ht : with1 e x (F kk) L K h) : Steady (fun kk => with1 e x (F kk)) kk L K h := by
  obtain ⟨v, hv, ht⟩ := with1_of ht
  obtain ⟨u, hk, hall⟩ := hF v ht
  refine ⟨u, hk, fun kk' L' K' h' hx => ?_⟩
  unfold with1
  simp only [hv]
  exact hall kk' L' K' h' hx
theorem withL_st {e : Env} : ∀ {xs : List Operand} {F : (Value → T) → List Value → T} {kk : Value → T}, (∀ v, F kk v L K h → Steady (fun kk => F kk v) kk L K h) →
    withL e xs (F kk) L K h → Steady (fun kk => withL e xs (F kk)) kk L K h
  | [], F, kk, hF, ht => hF [] ht
  | x :: xs, F, kk, hF, ht => by
    refine with1_st (F := fun kk v => withL e xs fun l => F kk (v :: l)) ?_ ht
    intro v ht
    exact withL_st (F := fun kk l => F kk (v :: l)) (fun l hl => hF (v :: l) hl) ht
theorem st_here {kk : Value → T} {v : Value} (ht : kk v L K h) : Steady (fun kk => kk v) kk L K h := ⟨v, ht, fun _ _ _ _ hx => hx⟩
theorem st_need {p : Prop} {F : (Value → T) → T} {kk : Value → T} (hF : F kk L K h → Steady F kk L K h) (ht : T.need p (F kk) L K h) : Steady (fun kk => T.need p (F kk)) kk L K h := by
  obtain ⟨hp, ht⟩ := ht
  obtain ⟨v, hk, hall⟩ := hF ht
  exact ⟨v, hk, fun kk' L' K' h' hx => ⟨hp, hall kk' L' K' h' hx⟩⟩
theorem st_osome {q : Option Addr} {F : (Value → T) → Addr → T} {kk : Value → T} (hF : ∀ a, F kk a L K h → Steady (fun kk => F kk a) kk L K h) (ht : T.osome q (F kk) L K h) :
    Steady (fun kk => T.osome q (F kk)) kk L K h := by
  obtain ⟨a, rfl, ht⟩ := osome_of ht
  obtain ⟨v, hk, hall⟩ := hF a ht
  exact ⟨v, hk, fun kk' L' K' h' hx => hall kk' L' K' h' hx⟩
theorem st_cond {b : Bool} {F G : (Value → T) → T} {kk : Value → T} (hF : F kk L K h → Steady F kk L K h) (hG : G kk L K h → Steady G kk L K h) (ht : cond b (F kk) (G kk) L K h) :
    Steady (fun kk => cond b (F kk) (G kk)) kk L K h := by
  cases b
  · exact hG ht
  · exact hF ht
theorem st_fail {F : (Value → T) → T} {kk : Value → T} (ht : T.fail L K h) : Steady F kk L K h := ht.elim
theorem asked_st {op : BinOp} {b : Bool} {kk : Value → T} (ht : asked op b kk T.fail L K h) : Steady (fun kk => asked op b kk T.fail) kk L K h := by
  cases op <;> first | exact st_here ht | exact ht.elim
theorem xint_st {op : BinOp} {k : IntKind} {m n : Int} {kk : Value → T} (ht : xint op k m n kk L K h) : Steady (fun kk => xint op k m n kk) kk L K h := by
  cases op <;> first
    | exact ht.elim
    | exact st_here ht
    | exact st_need (F := fun kk => kk _) st_here ht
theorem xshift_st {op : BinOp} {k : IntKind} {m n : Int} {kk : Value → T} (ht : xshift op k m n kk L K h) : Steady (fun kk => xshift op k m n kk) kk L K h := by
  cases op <;> first
    | exact ht.elim
    | exact st_need (F := fun kk => kk _) st_here ht
theorem xstr_st {op : BinOp} {m n : ByteArray} {kk : Value → T} (ht : xstr op m n kk L K h) : Steady (fun kk => xstr op m n kk) kk L K h := by
  cases op <;> first
    | exact ht.elim
    | exact st_here ht
    | exact st_need (F := fun kk => kk _) st_here ht
theorem xbinP_st {op : BinOp} {t : TypeId} {a b : Value} {kk : Value → T} (ht : xbinP P op t a b kk L K h) : Steady (fun kk => xbinP P op t a b kk) kk L K h := by
  unfold xbinP at ht ⊢
  cases a <;> cases b <;> first | exact ht.elim | skip
  case bool.bool m n =>
    generalize P.underlying t = ud at ht ⊢
    cases ud with
    | none => exact ht.elim
    | some d => cases d <;> first | exact ht.elim | exact asked_st ht
  case int.int k m k' n =>
    simp only at ht ⊢
    cases hs : isShift op with
    | true => simp only [hs] at ht ⊢; exact xshift_st ht
    | false =>
      simp only [hs] at ht ⊢
      by_cases hk : k = k'
      · subst hk
        simp only [decide_true] at ht ⊢
        exact xint_st ht
      · simp only [hk, decide_false] at ht
        exact ht.elim
  case string.string m n => exact xstr_st ht
  case pointer.pointer p q =>
    generalize P.underlying t = ud at ht ⊢
    cases ud with
    | none => exact ht.elim
    | some d => cases d <;> first | exact ht.elim | exact asked_st ht
  case slice.slice p l c q l' c' =>
    generalize P.underlying t = ud at ht ⊢
    cases ud with
    | none => exact ht.elim
    | some d => cases d <;> first | exact ht.elim | exact asked_st ht
  case map.map p q =>
    generalize P.underlying t = ud at ht ⊢
    cases ud with
    | none => exact ht.elim
    | some d => cases d <;> first | exact ht.elim | exact asked_st ht
theorem xun_st {op : UnOp} {a : Value} {kk : Value → T} (ht : xun op a kk L K h) : Steady (fun kk => xun op a kk) kk L K h := by
  cases op <;> cases a <;> first | exact ht.elim | exact st_here ht
theorem xpart_st {t : TypeId} {cs : List Value} {off : Nat} {kk : Value → T} (ht : xpart P t cs off kk L K h) : Steady (fun kk => xpart P t cs off kk) kk L K h := by
  unfold xpart at ht ⊢
  generalize P.underlying t = ud at ht ⊢
  cases ud with
  | none => exact ht.elim
  | some d =>
    cases d <;> first
      | exact st_here ht
      | (cases hv : cs[off]? with
         | none => simp only [hv] at ht; exact ht.elim
         | some v => simp only [hv] at ht ⊢; exact st_here ht)
theorem xslice_st {t : TypeId} {a : Value} {lo hi : Option Value} {kk : Value → T} (hp : (match P.underlying t with
    | some .string => true
    | some (.slice _) => true
    | _ => false) = true) (ht : xslice P t a lo hi none kk L K h) : Steady (fun kk => xslice P t a lo hi none kk) kk L K h := by
  unfold xslice at ht ⊢
  cases hint : isIntV lo && isIntV hi && isIntV none with
  | false => simp only [hint] at ht; exact ht.elim
  | true =>
    simp only [hint] at ht ⊢
    generalize P.underlying t = ud at ht hp ⊢
    cases ud with
    | none => cases hp
    | some d =>
      cases d <;> simp only [Bool.false_eq_true] at hp
      case string => cases a <;> first | exact ht.elim | exact st_need (F := fun kk => kk _) st_here ht
      case slice el =>
        cases a <;> first | exact ht.elim | skip
        simp only at ht ⊢
        cases hT : hasT P el with
        | false => simp only [hT] at ht; exact ht.elim
        | true => simp only [hT] at ht ⊢; exact st_need (F := fun kk => kk _) st_here ht
theorem xcells_st {agg : Nat → Option Bool} : ∀ {ps : List (Nat × Value)} {F : (Value → T) → List (Nat × List Value) → T} {kk : Value → T}, (∀ r, F kk r L K h → Steady (fun kk => F kk r) kk L K h) →
    xcells agg ps (F kk) L K h → Steady (fun kk => xcells agg ps (F kk)) kk L K h
  | [], F, kk, hF, ht => hF [] ht
  | (i, v) :: l, F, kk, hF, ht => by
    simp only [xcells] at ht ⊢
    cases ha : agg i with
    | none => rw [ha] at ht; exact ht.elim
    | some b =>
      rw [ha] at ht
      cases b with
      | true => exact st_cond (F := fun kk => xcells agg l fun r => F kk ((i, cellsV v) :: r)) (G := fun _ => T.fail) (fun ht => xcells_st (F := fun kk r => F kk ((i, cellsV v) :: r)) (fun r hr => hF _ hr) ht) (fun ht => ht.elim) ht
      | false => exact st_cond (F := fun _ => T.fail) (G := fun kk => xcells agg l fun r => F kk ((i, [v]) :: r)) (fun ht => ht.elim) (fun ht => xcells_st (F := fun kk r => F kk ((i, [v]) :: r)) (fun r hr => hF _ hr) ht) ht
theorem xop_pure {o : Oper} {e : Env} {kk : Value → T} (hp : isPureOp P o = true) (ht : xop P o e kk L K h) : Steady (fun kk => xop P o e kk) kk L K h := by
  obtain ⟨dst, op, type, pos, after, guard⟩ := o
  cases op <;> simp only [isPureOp, Bool.false_eq_true] at hp <;> simp only [xop] at ht ⊢
  case move x => exact with1_st (F := fun kk v => kk v) (fun v hv => st_here hv) ht
  case pick c x y =>
    refine with1_st (F := fun kk c => match c with
      | .bool b' => cond b' (with1 e x kk) (with1 e y kk)
      | _ => T.fail) (fun v hv => ?_) ht
    cases v <;> first | exact hv.elim | skip
    exact st_cond (F := fun kk => with1 e x kk) (G := fun kk => with1 e y kk) (fun ht => with1_st (F := fun kk v => kk v) (fun v hv => st_here hv) ht) (fun ht => with1_st (F := fun kk v => kk v) (fun v hv => st_here hv) ht) hv
  case build t ps =>
    refine withL_st (F := fun kk vs => match P.underlying t, (P.info? t).bind (·.zero) with
      | some (.struct fs), some z =>
        bif !(fs.all fun f => hasT P f.type) then T.fail else xcells (fun i => (fs[i]?).bind fun f => isAggD P f.type) ((ps.toList.map (·.1)).zip vs) fun ls => match fillL (((fs.map fun f => (f.offset, P.cellsOf f.type)))[·]?) z.cells.toList ls with
        | some cs => kk (.agg cs.toArray)
        | none => T.fail
      | some (.array _ el), some z =>
        bif !hasT P el then T.fail else xcells (fun _ => isAggD P el) ((ps.toList.map (·.1)).zip vs) fun ls => match fillL (fun i => some (i * P.cellsOf el, P.cellsOf el)) z.cells.toList ls with
        | some cs => kk (.agg cs.toArray)
        | none => T.fail
      | _, _ => T.fail) (fun vs hv => ?_) ht
    generalize P.underlying t = ud at hv ⊢
    generalize (P.info? t).bind (·.zero) = z at hv ⊢
    cases ud with
    | none => exact hv.elim
    | some d =>
      cases d <;> first | exact hv.elim | skip
      case array len el =>
        cases z with
        | none => exact hv.elim
        | some z =>
          refine st_cond (F := fun _ => T.fail) (G := fun kk => xcells (fun _ => isAggD P el) ((ps.toList.map (·.1)).zip vs) fun ls => match fillL (fun i => some (i * P.cellsOf el, P.cellsOf el)) z.cells.toList ls with
            | some cs => kk (.agg cs.toArray)
            | none => T.fail) (fun ht => ht.elim) (fun ht => ?_) hv
          refine xcells_st (F := fun kk ls => match fillL (fun i => some (i * P.cellsOf el, P.cellsOf el)) z.cells.toList ls with
            | some cs => kk (.agg cs.toArray)
            | none => T.fail) (fun ls ht => ?_) ht
          cases hf : fillL (fun i => some (i * P.cellsOf el, P.cellsOf el)) z.cells.toList ls with
          | none => simp only [hf] at ht; exact ht.elim
          | some cs => simp only [hf] at ht ⊢; exact st_here ht
      case struct fs =>
        cases z with
        | none => exact hv.elim
        | some z =>
          refine st_cond (F := fun _ => T.fail) (G := fun kk => xcells (fun i => (fs[i]?).bind fun f => isAggD P f.type) ((ps.toList.map (·.1)).zip vs) fun ls => match fillL (((fs.map fun f => (f.offset, P.cellsOf f.type)))[·]?) z.cells.toList ls with
            | some cs => kk (.agg cs.toArray)
            | none => T.fail) (fun ht => ht.elim) (fun ht => ?_) hv
          refine xcells_st (F := fun kk ls => match fillL (((fs.map fun f => (f.offset, P.cellsOf f.type)))[·]?) z.cells.toList ls with
            | some cs => kk (.agg cs.toArray)
            | none => T.fail) (fun ls ht => ?_) ht
          cases hf : fillL (((fs.map fun f => (f.offset, P.cellsOf f.type)))[·]?) z.cells.toList ls with
          | none => simp only [hf] at ht; exact ht.elim
          | some cs => simp only [hf] at ht ⊢; exact st_here ht
  case nilCheck x =>
    refine with1_st (F := fun kk v => match v with
      | .pointer p => T.osome p fun a => kk (.pointer (some a))
      | .func (.func f) fi ca => kk (.func (.func f) fi ca)
      | .iface t v => kk (.iface t v)
      | _ => T.fail) (fun v hv => ?_) ht
    cases v with
    | pointer p => exact st_osome (F := fun kk a => kk (.pointer (some a))) (fun a ha => st_here ha) hv
    | func fn fi ca => cases fn <;> first | exact hv.elim | exact st_here hv
    | iface t w => exact st_here hv
    | _ => exact hv.elim
  case binOp op t x y yt =>
    refine with1_st (F := fun kk a => with1 e y fun b => xbin P op t x y a b kk) (fun a ha => ?_) ht
    refine with1_st (F := fun kk b => xbin P op t x y a b kk) (fun b hb => ?_) ha
    unfold xbin at hb ⊢
    simp only [hp] at hb ⊢
    exact xbinP_st hb
  case unOp op t x => exact with1_st (F := fun kk a => xun op a kk) (fun v hv => xun_st hv) ht
  case convert s d x =>
    refine with1_st (F := fun kk a => xconv P s d a kk) (fun v hv => ?_) ht
    unfold xconv at hv ⊢
    generalize P.underlying s = us at hv hp ⊢
    generalize P.underlying d = ud at hv hp ⊢
    cases us with
    | none => cases hp
    | some us =>
      cases ud with
      | none => cases us <;> cases hp
      | some ud =>
        cases us <;> first | (cases ud <;> cases hp; done) | skip
        case int k => cases ud <;> first | (cases hp; done) | (cases v <;> first | exact hv.elim | exact st_here hv)
        case string => cases ud <;> first | (cases hp; done) | (cases v <;> first | exact hv.elim | exact st_here hv)
  case makeInterface t x =>
    refine with1_st (F := fun kk a => match P.underlying t with
      | some (.interface _) => T.fail
      | some _ => kk (.iface t a)
      | none => T.fail) (fun v hv => ?_) ht
    generalize P.underlying t = ud at hv ⊢
    cases ud with
    | none => exact hv.elim
    | some d => cases d <;> first | exact hv.elim | exact st_here hv
  case makeFunc fn fi ca =>
    refine withL_st (F := fun kk fi => withL e ca.toList fun ca => kk (.func fn fi.toArray ca.toArray)) (fun fi hv => ?_) ht
    exact withL_st (F := fun kk ca => kk (.func fn fi.toArray ca.toArray)) (fun ca hv => st_here hv) hv
  case slice t x lo hi mx =>
    cases mx with
    | some m => cases hp
    | none =>
    simp only at hp
    refine with1_st (F := fun kk a => withL e (lo.toList ++ hi.toList ++ (none : Option Operand).toList) fun vs => xsl P t lo hi none a vs kk) (fun a ha => ?_) ht
    refine withL_st (F := fun kk vs => xsl P t lo hi none a vs kk) (fun vs hv => ?_) ha
    unfold xsl at hv ⊢
    cases lo <;> cases hi <;> rcases vs with _ | ⟨l, _ | ⟨l2, _ | ⟨l3, vs⟩⟩⟩ <;> first
      | exact hv.elim
      | exact xslice_st hp hv
  case fieldAddr s x f =>
    refine with1_st (F := fun kk v => match v, P.underlying s with
      | .pointer p, some (.struct fs) => match fs[f]? with
        | some fd => match P.cellsOf fd.type with
          | 0 => T.fail
          | _ + 1 => T.osome p fun a => kk (.pointer (some (a.add fd.offset)))
        | none => T.fail
      | _, _ => T.fail) (fun v hv => ?_) ht
    generalize P.underlying s = us at hv ⊢
    cases v <;> first | exact hv.elim | skip
    cases us with
    | none => exact hv.elim
    | some us =>
      cases us <;> first | exact hv.elim | skip
      rename_i fs
      simp only at hv ⊢
      cases hf : fs[f]? with
      | none => simp only [hf] at hv; exact hv.elim
      | some fd =>
        simp only [hf] at hv ⊢
        cases hc : P.cellsOf fd.type with
        | zero => simp only [hc] at hv; exact hv.elim
        | succ m => simp only [hc] at hv ⊢; exact st_osome (F := fun kk a => kk (.pointer (some (a.add fd.offset)))) (fun a ha => st_here ha) hv
  case field s x f =>
    refine with1_st (F := fun kk v => match v, P.underlying s with
      | .agg cs, some (.struct fs) => match fs[f]? with
        | some fd => xpart P fd.type cs.toList fd.offset kk
        | none => T.fail
      | _, _ => T.fail) (fun v hv => ?_) ht
    generalize P.underlying s = us at hv ⊢
    cases v <;> first | exact hv.elim | skip
    cases us with
    | none => exact hv.elim
    | some us =>
      cases us <;> first | exact hv.elim | skip
      rename_i fs
      simp only at hv ⊢
      cases hf : fs[f]? with
      | none => simp only [hf] at hv; exact hv.elim
      | some fd => simp only [hf] at hv ⊢; exact xpart_st hv
  case indexAddr t x i =>
    refine with1_st (F := fun kk v => with1 e i fun i => xidxA P t v i kk) (fun v hv => ?_) ht
    refine with1_st (F := fun kk i => xidxA P t v i kk) (fun i hi => ?_) hv
    unfold xidxA at hi ⊢
    generalize P.underlying t = us at hi ⊢
    cases v <;> cases i <;> first | exact hi.elim | skip
    all_goals
      cases us with
      | none => exact hi.elim
      | some us =>
        cases us <;> first | exact hi.elim | skip
        refine st_cond (F := fun _ => T.fail) (fun ht => ht.elim) (fun ht => ?_) hi
        exact st_need (F := fun kk => T.osome _ fun a => kk (.pointer (some (a.add (_ * P.cellsOf _))))) (st_osome (F := fun kk a => kk (.pointer (some (a.add (_ * P.cellsOf _))))) (fun a ha => st_here ha)) ht
  case index t x i =>
    refine with1_st (F := fun kk v => with1 e i fun i => xidx P t v i kk) (fun v hv => ?_) ht
    refine with1_st (F := fun kk i => xidx P t v i kk) (fun i hi => ?_) hv
    unfold xidx at hi ⊢
    generalize P.underlying t = us at hi hp ⊢
    cases us with
    | none => cases hp
    | some us =>
      cases us <;> simp only [Bool.false_eq_true] at hp
      cases v <;> cases i <;> first | exact hi.elim | exact st_need (F := fun kk => kk _) st_here hi
  case extract x i =>
    refine with1_st (F := fun kk v => match v with
      | .tuple vs => match vs.toList[i]? with
        | some v => kk v
        | none => T.fail
      | _ => T.fail) (fun v hv => ?_) ht
    cases v <;> first | exact hv.elim | skip
    rename_i vs
    simp only at hv ⊢
    cases hi : vs.toList[i]? with
    | none => simp only [hi] at hv; exact hv.elim
    | some w => simp only [hi] at hv ⊢; exact st_here hv
  case call c =>
    cases hc : c.callee with
    | value f => simp only [hc] at hp; cases hp
    | invoke r m => simp only [hc] at hp; cases hp
    | builtin b =>
      simp only [hc] at hp ht ⊢
      refine withL_st (F := fun kk vs => xbuiltin P b c type vs kk) (fun vs hv => ?_) ht
      cases b <;> simp only [Bool.false_eq_true] at hp
      case len =>
        have hv : xlen P c type vs kk L K h := hv
        show Steady (fun kk => xlen P c type vs kk) kk L K h
        unfold xlen at hv ⊢
        generalize (c.argTypes[0]?).bind P.underlying = ud at hv hp ⊢
        cases ud with
        | none => cases hp
        | some d =>
          cases d <;> simp only [Bool.false_eq_true] at hp
          all_goals
            rcases vs with _ | ⟨v, _ | ⟨v2, l⟩⟩ <;> first | exact hv.elim | skip
            all_goals cases v <;> first | exact hv.elim | exact st_here hv
      case cap =>
        have hv : xcap P c vs kk L K h := hv
        show Steady (fun kk => xcap P c vs kk) kk L K h
        unfold xcap at hv ⊢
        generalize (c.argTypes[0]?).bind P.underlying = ud at hv hp ⊢
        cases ud with
        | none => cases hp
        | some d =>
          cases d <;> simp only [Bool.false_eq_true] at hp
          all_goals
            rcases vs with _ | ⟨v, _ | ⟨v2, l⟩⟩ <;> first | exact hv.elim | skip
            all_goals cases v <;> first | exact hv.elim | exact st_here hv
end pures

section draws
variable {P : Program} {n : Nd} {ops : Array Oper}

theorem memN_iff {x : Nat} : ∀ {l : List Nat}, memN x l = true ↔ x ∈ l
  | [] => by simp [memN]
  | y :: l => by
    simp only [memN, Bool.or_eq_true, List.mem_cons, memN_iff (l := l)]
    constructor
    · rintro (h | h)
      · exact .inl (Nat.eq_of_beq_eq_true h)
      · exact .inr h
    · rintro (h | h)
      · subst h; exact .inl (by simp)
      · exact .inr h
theorem mem_idx {p : Nat × Oper} : ∀ {l : List Oper} {k : Nat}, p ∈ idx k l ↔ ∃ j, l[j]? = some p.2 ∧ p.1 = k + j
  | [], k => by simp [idx]
  | o :: l, k => by
    simp only [idx, List.mem_cons, mem_idx (l := l)]
    constructor
    · rintro (h | ⟨j, h1, h2⟩)
      · subst h; exact ⟨0, by simp, by simp⟩
      · exact ⟨j + 1, by simpa using h1, by omega⟩
    · rintro ⟨j, h1, h2⟩
      cases j with
      | zero => left; simp at h1; subst h1; obtain ⟨a, b⟩ := p; simp at h2; subst h2; rfl
      | succ j => right; exact ⟨j, by simpa using h1, by omega⟩
theorem mem_idx0 {i : Nat} {o : Oper} : (i, o) ∈ idx 0 ops.toList ↔ ops[i]? = some o := by
  rw [mem_idx]
  constructor
  · rintro ⟨j, h1, h2⟩
    simp at h2; subst h2
    simpa using h1
  · intro h; exact ⟨i, by simpa using h, by simp⟩
theorem okDst (hok : okRegion P n ops = true) {i : Nat} {x : Oper} (hi : ops[i]? = some x) {d : Nat} (hd : x.dst = some d) : d < n := by
  unfold okRegion at hok
  rw [Bool.and_eq_true] at hok
  have h1 := List.all_eq_true.1 hok.1 (i, x) (mem_idx0.2 hi)
  simp only [hd] at h1
  simpa [Nat.blt_eq] using h1
theorem okSelf (hok : okRegion P n ops = true) {i : Nat} {x : Oper} (hi : ops[i]? = some x) {d : Nat} (hd : x.dst = some d) (hc : calm P x = true) : d ∉ looks ops x := by
  unfold okRegion at hok
  rw [Bool.and_eq_true] at hok
  have h1 := List.all_eq_true.1 (List.all_eq_true.1 hok.2 (i, x) (mem_idx0.2 hi)) (i, x) (mem_idx0.2 hi)
  unfold okPair at h1
  have hb : Nat.beq i i = true := by simp
  simp only [hb, hd, hc, Bool.not_true, Bool.false_or, Bool.not_eq_true'] at h1
  intro hl
  rw [memN_iff.2 hl] at h1; cases h1
theorem okPair_of (hok : okRegion P n ops = true) {i j : Nat} {x y : Oper} (hi : ops[i]? = some x) (hj : ops[j]? = some y) (hne : i ≠ j) :
    (∀ d, y.dst = some d → d ∈ looks ops x → j ∈ waits x ∨ (i ∈ waits y ∧ calm P y = false)) ∧ (∀ d, x.dst = some d → calm P x = true → y.dst ≠ some d) := by
  unfold okRegion at hok
  rw [Bool.and_eq_true] at hok
  have h1 := List.all_eq_true.1 (List.all_eq_true.1 hok.2 (i, x) (mem_idx0.2 hi)) (j, y) (mem_idx0.2 hj)
  unfold okPair at h1
  have hb : Nat.beq i j = false := by
    cases hb : Nat.beq i j
    · rfl
    · exact (hne (Nat.eq_of_beq_eq_true hb)).elim
  simp only [hb, Bool.and_eq_true] at h1
  refine ⟨fun d hd hl => ?_, fun d hd hc hy => ?_⟩
  · have h2 := h1.1
    simp only [hd, Bool.or_eq_true, Bool.and_eq_true, Bool.not_eq_true'] at h2
    rcases h2 with (h2 | h2) | ⟨h2, h3⟩
    · have := memN_iff.2 hl; rw [this] at h2; cases h2
    · exact .inl (memN_iff.1 h2)
    · exact .inr ⟨memN_iff.1 h2, h3⟩
  · have h2 := h1.2
    simp only [hd, hc, hy, optN] at h2
    simp at h2

/-- How an operation's guard comes out. -/
def GOut (ops : Array Oper) (o : Oper) (e : Env) (b : Bool) : Prop :=
  match o.guard with
  | none => b = true
  | some (j, w) => match (ops[j]?).bind (·.dst) with
    | none => b = false
    | some d => (∃ t, eget e d = some (.bool t) ∧ b = (t == w)) ∨ (∃ vs, eget e d = some (.tuple vs) ∧ b = false)
theorem guard_looks {o : Oper} {j d : Nat} {w : Bool} (hg : o.guard = some (j, w)) (hd : (ops[j]?).bind (·.dst) = some d) : d ∈ looks ops o := by
  unfold looks
  rw [hg]
  simp only [hd]
  exact List.mem_append_right _ (by simp)
theorem GOut.wanted {o : Oper} {e : Env} {b : Bool} (h : GOut ops o e b) {tm : Array Value} (ht : ∀ s ∈ looks ops o, ∀ v, eget e s = some v → tm.getD s undef = v) :
    Region.wanted o (yielded ops tm) = b := by
  unfold GOut at h
  cases hg : o.guard with
  | none => simp only [hg] at h; subst h; exact wanted_none hg
  | some p =>
    obtain ⟨j, w⟩ := p
    simp only [hg] at h
    rw [wanted_some hg]
    cases hd : (ops[j]?).bind (·.dst) with
    | none => simp only [hd] at h; subst h; simp [yielded, hd]
    | some d =>
      simp only [hd] at h
      have hl := guard_looks hg hd
      rcases h with ⟨t, h1, rfl⟩ | ⟨vs, h1, rfl⟩
      · rw [yielded_bool hd (ht d hl _ h1)]; cases t <;> cases w <;> rfl
      · rw [yielded_tuple hd (ht d hl _ h1)]; rfl
theorem GOut.congr {o : Oper} {e e' : Env} {b : Bool} (h : GOut ops o e b) (he : ∀ s ∈ looks ops o, eget e' s = eget e s) : GOut ops o e' b := by
  unfold GOut at h ⊢
  cases hg : o.guard with
  | none => simp only [hg] at h ⊢; exact h
  | some p =>
    obtain ⟨j, w⟩ := p
    simp only [hg] at h ⊢
    cases hd : (ops[j]?).bind (·.dst) with
    | none => simp only [hd] at h ⊢; exact h
    | some d => simp only [hd] at h ⊢; rw [he d (guard_looks hg hd)]; exact h
theorem eput_same {e : Env} {d : Nat} {v : Value} (h : eget e d = some v) (s : Nat) : eget (eput n e (some d) v) s = eget e s := by
  simp only [eput]
  cases Nat.blt d n with
  | false => rfl
  | true =>
    simp only [cond_true, eget_cons]
    by_cases hs : d = s
    · subst hs; rw [if_pos rfl, h]
    · rw [if_neg hs]
theorem xguardD_of {o : Oper} {e : Env} {yes no : Env → T} {L : Lp} {K : Value → Hp → Prop} {h : Hp} (ht : xguard n ops o e yes no L K h) :
    ∃ e' b, (∀ s, eget e' s = eget e s) ∧ GOut ops o e b ∧ ((b = true ∧ yes e' L K h) ∨ (b = false ∧ no e' L K h)) := by
  unfold xguard guardOf at ht
  unfold GOut
  cases hg : o.guard with
  | none => simp only [hg] at ht ⊢; exact ⟨e, true, fun _ => rfl, rfl, .inl ⟨rfl, ht⟩⟩
  | some p =>
    obtain ⟨j, w⟩ := p
    simp only [hg] at ht ⊢
    cases hj : (ops[j]?).bind (·.dst) with
    | none => simp only [hj] at ht ⊢; exact ⟨e, false, fun _ => rfl, rfl, .inr ⟨rfl, ht⟩⟩
    | some d =>
      simp only [hj] at ht ⊢
      cases hv : eget e d with
      | none => simp only [hv] at ht; exact ht.elim
      | some v =>
        cases v <;> simp only [hv] at ht <;> first | exact ht.elim | skip
        case tuple vs => exact ⟨e, false, fun _ => rfl, .inr ⟨vs, rfl, rfl⟩, .inr ⟨rfl, ht⟩⟩
        case bool b =>
          cases w <;> simp only at ht <;> rcases cond_of ht with ⟨hb, ht⟩ | ⟨hb, ht⟩ <;> subst hb
          · exact ⟨_, false, eput_same hv, .inl ⟨true, rfl, rfl⟩, .inr ⟨rfl, ht⟩⟩
          · exact ⟨_, true, eput_same hv, .inl ⟨false, rfl, rfl⟩, .inl ⟨rfl, ht⟩⟩
          · exact ⟨_, true, eput_same hv, .inl ⟨true, rfl, rfl⟩, .inl ⟨rfl, ht⟩⟩
          · exact ⟨_, false, eput_same hv, .inl ⟨false, rfl, rfl⟩, .inr ⟨rfl, ht⟩⟩

/-- The operands alone. -/
def only (e : Env) (l : List Nat) : Env := l.filterMap fun s => (eget e s).map fun v => (s, some v)
theorem eget_only {e : Env} : ∀ {l : List Nat} {s : Nat}, eget (only e l) s = if s ∈ l then eget e s else none
  | [], s => by simp [only, eget]
  | t :: l, s => by
    unfold only
    rw [List.filterMap_cons]
    cases hv : eget e t with
    | none =>
      simp only [Option.map_none]
      rw [show List.filterMap (fun s => (eget e s).map fun v => (s, some v)) l = only e l from rfl, eget_only]
      by_cases h1 : s ∈ l
      · simp [h1]
      · by_cases h2 : s = t
        · subst h2; simp [h1, hv]
        · simp [h1, h2]
    | some v =>
      simp only [Option.map_some]
      rw [eget_cons, show List.filterMap (fun s => (eget e s).map fun v => (s, some v)) l = only e l from rfl, eget_only]
      by_cases h1 : t = s
      · subst h1; simp [hv]
      · have h2 : ¬ s = t := fun hh => h1 hh.symm
        simp [h1, h2]
theorem looks_mem {o : Oper} {t : Nat} (h : Operand.tmp t ∈ o.op.operands) : t ∈ looks ops o := by
  unfold looks
  refine List.mem_append_left _ (List.mem_filterMap.2 ⟨.tmp t, by simpa using h, rfl⟩)
theorem xop_only {o : Oper} {e : Env} {kk : Value → T} : xop P o (only e (looks ops o)) kk = xop P o e kk := by
  refine xop_congr (fun x hx => ?_) kk
  cases x <;> try rfl
  rename_i t
  simp only [ev]
  rw [eget_only, if_pos (looks_mem hx)]
theorem agr_only {e : Env} {a : Act} {l : List Nat} (hs : a.tmps.size = n.n) (hd : a.defers = n.d) (h : ∀ s ∈ l, ∀ v, eget e s = some v → a.tmps.getD s undef = v) : Agr n (only e l) a := by
  refine ⟨hs, hd, fun s v hv => ?_⟩
  rw [eget_only] at hv
  split at hv
  · rename_i hm; exact h s hm v hv
  · cases hv

/-- What is known of an operation that the tree has done, but the run not yet. -/
def Pend (P : Program) (n : Nd) (ops : Array Oper) (e : Env) (m : Made) (h : Hp) (i : Nat) (o : Oper) : Prop :=
  calm P o = true ∧ ∃ v b, (∀ d, o.dst = some d → d < n → eget e d = some v) ∧ GOut ops o e b ∧
    ((b = false ∧ v = undef) ∨ (b = true ∧ ((∀ (kk : Value → T) L K h', kk v L K h' → xop P o e kk L K h') ∨
      (∃ p l, (i, p, l) ∈ m ∧ cellsAt h p 0 l ∧ ∀ (kk : Value → T) L K h', cellsAt h' p 0 l → kk v L K h' → xop P o e kk L K h'))))
def listedB (listed : Array Bool) (i : Nat) : Bool := listed.getD i true
/-- What was done before comes before. -/
def closedL (ops : Array Oper) : List Nat → Prop
  | [] => True
  | i :: D => i ∉ D ∧ (∀ o, ops[i]? = some o → ∀ j ∈ waits o, j ∈ D) ∧ closedL ops D
structure RInv (P : Program) (n : Nd) (ops : Array Oper) (e0 : Env) (listed : Array Bool) (a : Act) (h : Hp) (D : List Nat) (e : Env) (m : Made) : Prop where
  lsize : listed.size = ops.size
  size : a.tmps.size = n.n
  defers : a.defers = n.d
  lD : ∀ i, listed[i]? = some true → i ∈ D
  dD : ∀ i ∈ D, ∃ o, ops[i]? = some o
  closed : closedL ops D
  agr : ∀ s v, eget e s = some v → (∀ j ∈ D, ∀ o, ops[j]? = some o → listed[j]? = some false → o.dst ≠ some s) → a.tmps.getD s undef = v
  pend : ∀ i ∈ D, ∀ o, ops[i]? = some o → listed[i]? = some false → Pend P n ops e m h i o
  fr : Fr (dstsOf ops) e0 e
theorem closedL_mem : ∀ {D : List Nat}, closedL ops D → ∀ i ∈ D, ∀ o, ops[i]? = some o → ∀ j ∈ waits o, j ∈ D
  | i' :: D, hc, i, hi, o, ho, j, hj => by
    rcases List.mem_cons.1 hi with rfl | hi
    · exact List.mem_cons_of_mem _ (hc.2.1 o ho j hj)
    · exact List.mem_cons_of_mem _ (closedL_mem hc.2.2 i hi o ho j hj)
theorem waits_self : ∀ {D : List Nat}, closedL ops D → ∀ i ∈ D, ∀ o, ops[i]? = some o → i ∉ waits o
  | i' :: D, hc, i, hi, o, ho, hj => by
    rcases List.mem_cons.1 hi with rfl | hi
    · exact hc.1 (hc.2.1 o ho _ hj)
    · exact waits_self hc.2.2 i hi o ho hj
/-- Among what has been done ahead there is something that the run may do now. -/
theorem first_pending (listed : Array Bool) : ∀ {D : List Nat}, closedL ops D → (∀ i ∈ D, ∃ o, ops[i]? = some o) → (∃ i ∈ D, listed[i]? = some false) → (∀ i ∈ D, listed[i]? = some true ∨ listed[i]? = some false) →
    ∃ i ∈ D, listed[i]? = some false ∧ ∀ o, ops[i]? = some o → ∀ j ∈ waits o, listed[j]? = some true
  | i' :: D, hc, hd, ⟨i, hi, hf⟩, hall => by
    by_cases hex : ∃ i ∈ D, listed[i]? = some false
    · obtain ⟨k, hk, h1, h2⟩ := first_pending listed hc.2.2 (fun i hi => hd i (List.mem_cons_of_mem _ hi)) hex (fun i hi => hall i (List.mem_cons_of_mem _ hi))
      exact ⟨k, List.mem_cons_of_mem _ hk, h1, h2⟩
    · have hi' : i = i' := by
        rcases List.mem_cons.1 hi with h | h
        · exact h
        · exact (hex ⟨i, h, hf⟩).elim
      subst hi'
      refine ⟨i, by simp, hf, fun o ho j hj => ?_⟩
      have hjD := hc.2.1 o ho j hj
      rcases hall j (List.mem_cons_of_mem _ hjD) with h | h
      · exact h
      · exact (hex ⟨j, hjD, h⟩).elim

theorem eput_get {e : Env} {dst : Option Tmp} {v : Value} {s : Nat} (hd : dst ≠ some s) : eget (eput n e dst v) s = eget e s := by
  cases dst with
  | none => rfl
  | some d =>
    simp only [eput]
    cases Nat.blt d n with
    | false => rfl
    | true => simp only [cond_true, eget_cons]; rw [if_neg (fun hh : d = s => hd (by rw [hh]))]
theorem eput_get_self {e : Env} {d : Nat} {v : Value} (hd : d < n) : eget (eput n e (some d) v) d = some v := by
  have hb : Nat.blt d n = true := by rw [Nat.blt_eq]; exact hd
  simp only [eput, hb, cond_true, eget_cons, if_true]
theorem put_get {a : Act} {dst : Option Tmp} {v : Value} {s : Nat} (hd : dst ≠ some s) : (a.put dst v).tmps.getD s undef = a.tmps.getD s undef := by
  cases dst with
  | none => rfl
  | some d =>
    have hne : d ≠ s := fun hh => hd (by rw [hh])
    simp [Act.put, Array.getD_eq_getD_getElem?, Array.getElem?_setIfInBounds, hne]
theorem put_get_self {a : Act} {d : Nat} {v : Value} (hd : d < a.tmps.size) : (a.put (some d) v).tmps.getD d undef = v := by
  simp [Act.put, Array.getD_eq_getD_getElem?, Array.getElem?_setIfInBounds, hd]
theorem put_size (a : Act) (dst : Option Tmp) (v : Value) : (a.put dst v).tmps.size = a.tmps.size := by cases dst <;> simp [Act.put]
theorem put_defers (a : Act) (dst : Option Tmp) (v : Value) : (a.put dst v).defers = a.defers := by cases dst <;> rfl

variable {e0 : Env} {listed : Array Bool} {a : Act} {h : Hp} {D : List Nat} {e : Env} {m : Made}
theorem mem_dsts {i : Nat} {o : Oper} (ho : ops[i]? = some o) {d : Nat} (hd : o.dst = some d) : d ∈ dstsOf ops := dst_mem (j := i) (by rw [ho]; exact hd)
theorem Fr.step {n : Nat} {l : List Nat} {e0 e e' : Env} {o : Oper} {v : Value} (h : Fr l e0 e) (he : ∀ s, eget e' s = eget e s) (hd : ∀ d, o.dst = some d → d ∈ l) : Fr l e0 (Sx.eput n e' o.dst v) :=
  (h.trans (fun s _ => he s)).trans (Fr.eput n e' v hd)
theorem RInv.unlisted (I : RInv P n ops e0 listed a h D e m) {i : Nat} {o : Oper} (ho : ops[i]? = some o) (hn : listed[i]? ≠ some true) : listed[i]? = some false := by
  have hlt : i < ops.size := by
    rcases Nat.lt_or_ge i ops.size with h | h
    · exact h
    · rw [Array.getElem?_eq_none h] at ho; cases ho
  have hlt' : i < listed.size := by rw [I.lsize]; exact hlt
  rw [Array.getElem?_eq_getElem hlt'] at hn ⊢
  cases hb : listed[i] with
  | false => rfl
  | true => rw [hb] at hn; exact (hn rfl).elim
/-- At the operands of what the run may do now the slots bear what the tree knows. -/
theorem RInv.looksOk (hok : okRegion P n ops = true) (I : RInv P n ops e0 listed a h D e m) {i : Nat} {o : Oper} (ho : ops[i]? = some o) (hr : ∀ j ∈ waits o, listed[j]? = some true)
    (hi : i ∉ D ∨ calm P o = true) : ∀ s ∈ looks ops o, ∀ v, eget e s = some v → a.tmps.getD s undef = v := by
  intro s hs v hv
  refine I.agr s v hv ?_
  intro j hj oj hoj hf hd
  have hcj := (I.pend j hj oj hoj hf).1
  by_cases hij : i = j
  · subst hij
    rw [ho] at hoj; obtain rfl := Option.some.inj hoj
    exact okSelf hok ho hd hcj hs
  · rcases (okPair_of hok ho hoj hij).1 s hd hs with h1 | ⟨_, h1⟩
    · rw [hr j h1] at hf; cases hf
    · rw [hcj] at h1; cases h1
/-- What the tree had done ahead, the run does. -/
theorem RInv.exec (hok : okRegion P n ops = true) (I : RInv P n ops e0 listed a h D e m) {i : Nat} {o : Oper} (ho : ops[i]? = some o) (hiD : i ∈ D) (hf : listed[i]? = some false) {v : Value}
    (hv : ∀ d, o.dst = some d → eget e d = some v) (hc : calm P o = true) : RInv P n ops e0 (listed.setIfInBounds i true) (a.put o.dst v) h D e m := by
  have hlt : i < listed.size := by
    rcases Nat.lt_or_ge i listed.size with h | h
    · exact h
    · rw [Array.getElem?_eq_none h] at hf; cases hf
  have hset : ∀ j, (listed.setIfInBounds i true)[j]? = if i = j then some true else listed[j]? := by
    intro j
    rw [Array.getElem?_setIfInBounds]
    by_cases hij : i = j
    · subst hij; simp [hlt]
    · simp [hij]
  refine ⟨by simp [I.lsize], by rw [put_size, I.size], by rw [put_defers, I.defers], ?_, I.dD, I.closed, ?_, ?_, I.fr⟩
  · intro j hj
    rw [hset] at hj
    by_cases hij : i = j
    · subst hij; exact hiD
    · rw [if_neg hij] at hj; exact I.lD j hj
  · intro s u hu hno
    by_cases hd : o.dst = some s
    · rw [hd]
      rw [hv s hd] at hu
      obtain rfl := Option.some.inj hu
      exact put_get_self (by rw [I.size]; exact okDst hok ho hd)
    · rw [put_get hd]
      refine I.agr s u hu ?_
      intro j hj oj hoj hf' hd'
      by_cases hij : i = j
      · subst hij; rw [ho] at hoj; obtain rfl := Option.some.inj hoj; exact hd hd'
      · exact hno j hj oj hoj (by rw [hset, if_neg hij]; exact hf') hd'
  · intro j hj oj hoj hf'
    rw [hset] at hf'
    by_cases hij : i = j
    · rw [if_pos hij] at hf'; cases hf'
    · rw [if_neg hij] at hf'; exact I.pend j hj oj hoj hf'
theorem Pend.congr {e e' : Env} {m m' : Made} {h h' : Hp} {i : Nat} {o : Oper} (hp : Pend P n ops e m h i o) (hl : ∀ s ∈ looks ops o, eget e' s = eget e s) (hd : ∀ d, o.dst = some d → eget e' d = eget e d)
    (hm : ∀ p l, (i, p, l) ∈ m → cellsAt h p 0 l → (i, p, l) ∈ m' ∧ cellsAt h' p 0 l) : Pend P n ops e' m' h' i o := by
  obtain ⟨hc, v, b, h1, h2, h3⟩ := hp
  have hx : ∀ kk, xop P o e' kk = xop P o e kk := fun kk => xop_congr (fun x hx => by
    cases x <;> try rfl
    exact hl _ (looks_mem hx)) kk
  refine ⟨hc, v, b, fun d hd1 hd2 => by rw [hd d hd1]; exact h1 d hd1 hd2, h2.congr hl, ?_⟩
  rcases h3 with h3 | ⟨hb, h3 | ⟨p, l, h3, h4, h5⟩⟩
  · exact .inl h3
  · exact .inr ⟨hb, .inl fun kk L K h' hk => by rw [hx]; exact h3 kk L K h' hk⟩
  · obtain ⟨h6, h7⟩ := hm p l h3 h4
    exact .inr ⟨hb, .inr ⟨p, l, h6, h7, fun kk L K h' hc hk => by rw [hx]; exact h5 kk L K h' hc hk⟩⟩
/-- The tree goes ahead by one operation. -/
theorem RInv.ahead (hok : okRegion P n ops = true) (I : RInv P n ops e0 listed a h D e m) {i : Nat} {o : Oper} (ho : ops[i]? = some o) (hiD : i ∉ D) (hw : ∀ j ∈ waits o, j ∈ D) (hc : calm P o = true)
    {v : Value} {e' : Env} (he : ∀ s, eget e' s = eget e s) {m' : Made} (hm : ∀ x ∈ m, x ∈ m')
    (hp : Pend P n ops (eput n e' o.dst v) m' h i o) : RInv P n ops e0 listed a h (i :: D) (eput n e' o.dst v) m' := by
  have hfi : listed[i]? = some false := I.unlisted ho (fun hh => hiD (I.lD i hh))
  refine ⟨I.lsize, I.size, I.defers, fun j hj => List.mem_cons_of_mem _ (I.lD j hj), ?_, ⟨hiD, ?_, I.closed⟩, ?_, ?_, I.fr.step he (fun d hd => mem_dsts ho hd)⟩
  · intro j hj
    rcases List.mem_cons.1 hj with rfl | hj
    · exact ⟨o, ho⟩
    · exact I.dD j hj
  · intro o' ho' j hj
    rw [ho] at ho'; obtain rfl := Option.some.inj ho'
    exact hw j hj
  · intro s u hu hno
    have hd : o.dst ≠ some s := hno i (by simp) o ho hfi
    rw [eput_get hd, he] at hu
    exact I.agr s u hu fun j hj oj hoj hf => hno j (List.mem_cons_of_mem _ hj) oj hoj hf
  · intro j hj oj hoj hf
    rcases List.mem_cons.1 hj with rfl | hj
    · rw [ho] at hoj; obtain rfl := Option.some.inj hoj; exact hp
    · have hne : j ≠ i := fun hh => hiD (hh ▸ hj)
      have hpj := I.pend j hj oj hoj hf
      refine hpj.congr ?_ ?_ (fun p l h1 h2 => ⟨hm _ h1, h2⟩)
      · intro s hs
        by_cases hd : o.dst = some s
        · exfalso
          rcases (okPair_of hok hoj ho hne).1 s hd hs with h1 | ⟨_, h1⟩
          · exact hiD (closedL_mem I.closed j hj oj hoj i h1)
          · rw [hc] at h1; cases h1
        · rw [eput_get hd, he]
      · intro d hd
        rw [eput_get ((okPair_of hok hoj ho hne).2 d hd hpj.1), he]
/-- An operation that acts: the run and the tree do it together. -/
theorem RInv.effect (hok : okRegion P n ops = true) (I : RInv P n ops e0 listed a h D e m) {i : Nat} {o : Oper} (ho : ops[i]? = some o) (hiD : i ∉ D) (hr : ∀ j ∈ waits o, listed[j]? = some true) (hc : calm P o = false)
    {v : Value} {e' : Env} (he : ∀ s, eget e' s = eget e s) {h' : Hp} (hst : ∀ j p l, (j, p, l) ∈ m → cellsAt h p 0 l → j ∉ waits o → cellsAt h' p 0 l) :
    RInv P n ops e0 (listed.setIfInBounds i true) (a.put o.dst v) h' (i :: D) (eput n e' o.dst v) m := by
  have hfi : listed[i]? = some false := I.unlisted ho (fun hh => hiD (I.lD i hh))
  have hlt : i < listed.size := by
    rcases Nat.lt_or_ge i listed.size with h | h
    · exact h
    · rw [Array.getElem?_eq_none h] at hfi; cases hfi
  have hset : ∀ j, (listed.setIfInBounds i true)[j]? = if i = j then some true else listed[j]? := by
    intro j
    rw [Array.getElem?_setIfInBounds]
    by_cases hij : i = j
    · subst hij; simp [hlt]
    · simp [hij]
  refine ⟨by simp [I.lsize], by rw [put_size, I.size], by rw [put_defers, I.defers], ?_, ?_, ⟨hiD, ?_, I.closed⟩, ?_, ?_, I.fr.step he (fun d hd => mem_dsts ho hd)⟩
  · intro j hj
    rw [hset] at hj
    by_cases hij : i = j
    · subst hij; simp
    · rw [if_neg hij] at hj; exact List.mem_cons_of_mem _ (I.lD j hj)
  · intro j hj
    rcases List.mem_cons.1 hj with rfl | hj
    · exact ⟨o, ho⟩
    · exact I.dD j hj
  · intro o' ho' j hj
    rw [ho] at ho'; obtain rfl := Option.some.inj ho'
    exact I.lD j (hr j hj)
  · intro s u hu hno
    by_cases hd : o.dst = some s
    · rw [hd] at hu ⊢
      have hdn := okDst hok ho hd
      rw [eput_get_self hdn] at hu
      obtain rfl := Option.some.inj hu
      exact put_get_self (by rw [I.size]; exact hdn)
    · rw [eput_get hd, he] at hu
      rw [put_get hd]
      refine I.agr s u hu ?_
      intro j hj oj hoj hf
      have hne : i ≠ j := fun hh => hiD (hh ▸ hj)
      exact hno j (List.mem_cons_of_mem _ hj) oj hoj (by rw [hset, if_neg hne]; exact hf)
  · intro j hj oj hoj hf
    rw [hset] at hf
    by_cases hij : i = j
    · rw [if_pos hij] at hf; cases hf
    · rw [if_neg hij] at hf
      rcases List.mem_cons.1 hj with hh | hj
      · exact (hij hh.symm).elim
      · have hpj := I.pend j hj oj hoj hf
        have hnw : j ∉ waits o := fun hh => by rw [hr j hh] at hf; cases hf
        refine hpj.congr ?_ ?_ (fun p l h1 h2 => ⟨h1, hst j p l h1 h2 hnw⟩)
        · intro s hs
          by_cases hd : o.dst = some s
          · exfalso
            rcases (okPair_of hok hoj ho (fun hh => hij hh.symm)).1 s hd hs with h1 | ⟨h1, _⟩
            · exact hiD (closedL_mem I.closed j hj oj hoj i h1)
            · exact hnw h1
          · rw [eput_get hd, he]
        · intro d hd
          rw [eput_get ((okPair_of hok hoj ho (fun hh => hij hh.symm)).2 d hd hpj.1), he]

theorem ready_iff {listed : Array Bool} (hs : listed.size = ops.size) {i : Nat} : i ∈ Region.ready .any ops listed ↔ ∃ o, ops[i]? = some o ∧ listed[i]? = some false ∧ ∀ j ∈ waits o, listed[j]? = some true := by
  unfold Region.ready
  rw [List.mem_filter, List.mem_range]
  constructor
  · rintro ⟨hlt, hh⟩
    rw [Bool.and_eq_true] at hh
    obtain ⟨h1, h2⟩ := hh
    have ho : ops[i]? = some ops[i] := Array.getElem?_eq_getElem hlt
    rw [ho] at h2
    refine ⟨ops[i], ho, ?_, ?_⟩
    · have hlt' : i < listed.size := by rw [hs]; exact hlt
      rw [Array.getElem?_eq_getElem hlt']
      simp only [Bool.not_eq_true', Array.getD_eq_getD_getElem?, Array.getElem?_eq_getElem hlt', Option.getD_some] at h1
      rw [h1]
    · intro j hj
      simp only [Option.map_some, Option.getD_some] at h2
      unfold waits at hj
      obtain ⟨ed, hed, rfl⟩ := List.mem_map.1 hj
      obtain ⟨hed1, hed2⟩ := List.mem_filter.1 hed
      have h3 := (Array.all_eq_true_iff_forall_mem.1 h2) ed (by simpa using hed1)
      rw [hed2] at h3
      simp only [Bool.not_true, Bool.false_or, Array.getD_eq_getD_getElem?] at h3
      cases hx : listed[ed.on]? with
      | none => rw [hx] at h3; cases h3
      | some b => rw [hx] at h3; simp at h3; rw [h3]
  · rintro ⟨o, ho, h1, h2⟩
    have hlt : i < ops.size := by
      rcases Nat.lt_or_ge i ops.size with h | h
      · exact h
      · rw [Array.getElem?_eq_none h] at ho; cases ho
    refine ⟨hlt, ?_⟩
    rw [Bool.and_eq_true]
    refine ⟨by simp [Array.getD_eq_getD_getElem?, h1], ?_⟩
    rw [ho]
    simp only [Option.map_some, Option.getD_some]
    refine Array.all_eq_true_iff_forall_mem.2 fun ed hed => ?_
    cases hb : Region.binds .any ed with
    | false => rfl
    | true =>
      have := h2 ed.on (List.mem_map.2 ⟨ed, List.mem_filter.2 ⟨by simpa using hed, hb⟩, rfl⟩)
      simp [Array.getD_eq_getD_getElem?, this]
theorem mem_findReady {D : List Nat} {c : Bool} {p : Nat × Oper} : ∀ {l : List (Nat × Oper)}, p ∈ findReady P D c l ↔ p ∈ l ∧ readyX D p.1 p.2 = true ∧ calm P p.2 = c
  | [] => by simp [findReady]
  | q :: l => by
    unfold findReady
    cases hb : readyX D q.1 q.2 && (calm P q.2 == c) with
    | true =>
      rw [Bool.and_eq_true] at hb
      simp only [List.mem_cons, mem_findReady (l := l)]
      constructor
      · rintro (rfl | h)
        · exact ⟨.inl rfl, hb.1, by simpa using hb.2⟩
        · exact ⟨.inr h.1, h.2⟩
      · rintro ⟨rfl | h, h2⟩
        · exact .inl rfl
        · exact .inr ⟨h, h2⟩
    | false =>
      simp only [List.mem_cons, mem_findReady (l := l)]
      constructor
      · rintro ⟨h1, h2⟩; exact ⟨.inr h1, h2⟩
      · rintro ⟨rfl | h, h2⟩
        · rw [h2.1, h2.2] at hb; simp at hb
        · exact ⟨h, h2⟩
theorem readyX_iff {D : List Nat} {i : Nat} {o : Oper} : readyX D i o = true ↔ i ∉ D ∧ ∀ j ∈ waits o, j ∈ D := by
  unfold readyX
  rw [Bool.and_eq_true]
  constructor
  · rintro ⟨h1, h2⟩
    refine ⟨fun hh => ?_, fun j hj => memN_iff.1 (List.all_eq_true.1 h2 j hj)⟩
    rw [memN_iff.2 hh] at h1; cases h1
  · rintro ⟨h1, h2⟩
    refine ⟨?_, List.all_eq_true.2 fun j hj => memN_iff.2 (h2 j hj)⟩
    cases hb : memN i D with
    | false => rfl
    | true => exact (h1 (memN_iff.1 hb)).elim
theorem stab_of {L : Lp} {K : Value → Hp → Prop} {h : Hp} {o : Oper} {m : Made} {t : T} (ht : stableX (heldMade o m) t L K h) : t L K h ∧ ∀ j p l, (j, p, l) ∈ m → j ∉ waits o → cellsAt h p 0 l := by
  have h1 : ∀ l : List (Addr × List Value), stableX l t L K h → T.stab h l ∧ t L K h := by
    intro l hl
    cases l with
    | nil => exact ⟨trivial, hl⟩
    | cons p l => exact hl
  obtain ⟨h2, h3⟩ := h1 _ ht
  refine ⟨h3, ?_⟩
  clear ht h1 h3
  induction m with
  | nil => intro j p l hj; cases hj
  | cons x m ih =>
    obtain ⟨i, q, lq⟩ := x
    intro j p l hj hnw
    unfold heldMade at h2
    cases hb : memN i (waits o) with
    | true =>
      rw [hb] at h2
      rcases List.mem_cons.1 hj with hh | hj
      · simp only [Prod.mk.injEq] at hh
        obtain ⟨rfl, rfl, rfl⟩ := hh
        exact (hnw (memN_iff.1 hb)).elim
      · exact ih h2 j p l hj hnw
    | false =>
      rw [hb] at h2
      simp only [cond_false] at h2
      rcases List.mem_cons.1 hj with hh | hj
      · simp only [Prod.mk.injEq] at hh
        obtain ⟨rfl, rfl, rfl⟩ := hh
        exact h2.1
      · exact ih h2.2 j p l hj hnw
theorem allX_of {L : Lp} {K : Value → Hp → Prop} {h : Hp} : ∀ {ts : List T} {t : T}, t ∈ ts → allX ts L K h → t L K h
  | [], t, ht, _ => by cases ht
  | [u], t, ht, hx => by simp at ht; subst ht; exact hx
  | u :: u2 :: ts, t, ht, hx => by
    have : ∀ ts : List T, t ∈ ts → T.every L K h ts → t L K h := by
      intro ts
      induction ts with
      | nil => intro hh; cases hh
      | cons v ts ih =>
        intro hh hx
        rcases List.mem_cons.1 hh with rfl | hh
        · exact hx.1
        · exact ih hh hx.2
    exact this _ ht hx
/-- How many operations the run has yet to do. -/
def left (listed : Array Bool) : Nat := (listed.toList.filter fun b => !b).length
theorem left_list : ∀ (l : List Bool) (i : Nat), l[i]? = some false → ((l.set i true).filter fun b => !b).length + 1 = (l.filter fun b => !b).length
  | [], i, h => by simp at h
  | b :: l, 0, h => by simp at h; subst h; simp
  | b :: l, i + 1, h => by
    simp at h
    have := left_list l i h
    cases b
    · simp only [List.set_cons_succ, List.filter_cons, Bool.not_false, if_true, List.length_cons]; omega
    · simp only [List.set_cons_succ, List.filter_cons, Bool.not_true, Bool.false_eq_true, if_false]; exact this
theorem left_set {listed : Array Bool} {i : Nat} (hf : listed[i]? = some false) : left (listed.setIfInBounds i true) + 1 = left listed := by
  unfold left
  rw [Array.toList_setIfInBounds]
  exact left_list _ i (by simpa using hf)
theorem left_zero {listed : Array Bool} (h0 : left listed = 0) (i : Nat) : listed[i]? ≠ some false := by
  intro hf
  have := left_set hf
  omega

/-- Just this value, and the heap as it was. -/
def stillT (v : Value) (h : Hp) : Value → T := fun v' _ _ h' => v' = v ∧ h' = h
/-- One operation of the run. -/
theorem draw_op (hok : okRegion P n ops = true) {L : Lp} {K : Value → Hp → Prop} {k : Env → T} {Q : Exit → Act → World → Prop} {w0 : World} {i : Nat}
    {listed : Array Bool} {a : Act} {w : World} {R : Act → World → Prop} (hi : i ∈ Region.ready .any ops listed) (hs : SameO w0 w)
    (next : ∀ a' w' D e m fu, SameO w0 w' → RInv P n ops e0 (listed.setIfInBounds i true) a' w'.heap D e m → xdraw P n ops fu D e m k L K w'.heap → R a' w') :
    ∀ fu D e m, RInv P n ops e0 listed a w.heap D e m → xdraw P n ops fu D e m k L K w.heap → wpOp P ops Q i R a w := by
  intro fu
  induction fu with
  | zero => intro D e m I ht; exact ht.elim
  | succ fu ih =>
    intro D e m I ht
    obtain ⟨o, ho, hf, hr⟩ := (ready_iff I.lsize).1 hi
    by_cases hiD : i ∈ D
    · -- done ahead
      obtain ⟨hc, v, b, hv, hg, hx⟩ := I.pend i hiD o ho hf
      have hlk := I.looksOk hok ho hr (.inr hc)
      have hwant := hg.wanted hlk
      have hv' : ∀ d, o.dst = some d → eget e d = some v := fun d hd => hv d hd (okDst hok ho hd)
      unfold wpOp
      rw [ho]
      simp only
      have I' := I.exec hok ho hiD hf hv' hc
      rcases hx with ⟨rfl, rfl⟩ | ⟨rfl, hx⟩
      · rw [if_neg (by simp [hwant])]
        exact next _ _ D e m (fu + 1) hs I' ht
      · rw [if_pos hwant]
        refine .inl ?_
        have hop : opW P o a.eval w.heap (fun v' h' => v' = v ∧ h' = w.heap) := by
          have hxx : xop P o e (stillT v w.heap) [] (fun _ _ => True) w.heap := by
            rcases hx with hx | ⟨p, l, _, hcl, hx⟩
            · exact hx (stillT v w.heap) [] (fun _ _ => True) w.heap ⟨rfl, rfl⟩
            · exact hx (stillT v w.heap) [] (fun _ _ => True) w.heap hcl ⟨rfl, rfl⟩
          rw [← xop_only (ops := ops)] at hxx
          exact xop_of (agr_only I.size I.defers hlk) hxx
        refine wp_of_opW hop ?_
        rintro v' w' hs' ⟨rfl, hh⟩
        refine next _ _ D e m (fu + 1) (hs.trans hs') (by rw [hh]; exact I') (by rw [hh]; exact ht)
    · unfold xdraw at ht
      cases hcalm : findReady P D true (idx 0 ops.toList) with
      | cons q qs =>
        -- the tree goes ahead
        obtain ⟨j, oj⟩ := q
        simp only [hcalm] at ht
        have hq : (j, oj) ∈ findReady P D true (idx 0 ops.toList) := by rw [hcalm]; simp
        obtain ⟨hq1, hq2, hq3⟩ := mem_findReady.1 hq
        have hoj := mem_idx0.1 hq1
        obtain ⟨hjD, hjw⟩ := readyX_iff.1 hq2
        obtain ⟨e', b, he, hg, hx⟩ := xguardD_of ht
        have hg' : ∀ u, GOut ops oj (eput n e' oj.dst u) b := fun u => hg.congr fun s hs => by
          by_cases hd : oj.dst = some s
          · exact (okSelf hok hoj hd hq3 hs).elim
          · rw [eput_get hd, he]
        have hself : ∀ u d, oj.dst = some d → d < n → eget (eput n e' oj.dst u) d = some u := fun u d hd hdn => by rw [hd]; exact eput_get_self hdn
        have hxe : ∀ u kk, xop P oj (eput n e' oj.dst u) kk = xop P oj e' kk := fun u kk => xop_congr (fun x hx => by
          cases x <;> try rfl
          rename_i s
          simp only [ev]
          exact eput_get (fun hd => okSelf hok hoj hd hq3 (looks_mem hx))) kk
        rcases hx with ⟨rfl, hx⟩ | ⟨rfl, hx⟩
        · -- it is done
          unfold calm at hq3
          cases hpure : isPureOp P oj with
          | true =>
            have hx' : xop P oj e' (fun v => xdraw P n ops fu (j :: D) (eput n e' oj.dst v) m k) L K w.heap := by
              have hnl : ∀ t x, oj.op ≠ .load t x := by
                intro t x hh
                unfold isPureOp at hpure
                rw [hh] at hpure; cases hpure
              obtain ⟨dst, op, type, pos, after, guard⟩ := oj
              cases op <;> first | exact hx | exact (hnl _ _ rfl).elim
            obtain ⟨v, hk, hall⟩ := xop_pure hpure hx'
            refine ih (j :: D) _ m (I.ahead hok hoj hjD hjw (by unfold calm; rw [hpure]; rfl) he (fun x hx => hx) ?_) hk
            exact ⟨by unfold calm; rw [hpure]; rfl, v, true, hself v, hg' v, .inr ⟨rfl, .inl fun kk L K h' hkk => by rw [hxe]; exact hall kk L K h' hkk⟩⟩
          | false =>
            rw [hpure, Bool.false_or] at hq3
            obtain ⟨t, x, hop⟩ : ∃ t x, oj.op = .load t x := by
              unfold isLoadOp at hq3
              cases hop : oj.op <;> rw [hop] at hq3 <;> first | (cases hq3; done) | exact ⟨_, _, rfl⟩
            have hcj : calm P oj = true := by unfold calm isLoadOp; rw [hop]; simp
            simp only [hop] at hx
            unfold xload at hx
            obtain ⟨u, hu, hx⟩ := with1_of hx
            have hx2 : xload P t x e' (fun a l v => xdraw P n ops fu (j :: D) (eput n e' oj.dst v) ((j, a, l) :: m) k) L K w.heap := by
              unfold xload with1; simp only [hu]; exact hx
            cases hb : isAggD P t with
            | none => cases u <;> simp only [hb] at hx <;> exact hx.elim
            | some bb =>
              obtain ⟨pp, rfl⟩ : ∃ pp, u = .pointer pp := by
                cases u <;> cases bb <;> simp only [hb] at hx <;> first | exact hx.elim | exact ⟨_, rfl⟩
              have hx3 : (match bb with
                | true => (bif (flatD P 9 t).length == P.cellsOf t then T.osome pp fun a => T.loads a (flatD P 9 t) (cur _ fun l => xdraw P n ops fu (j :: D) (eput n e' oj.dst (.agg l.toArray)) ((j, a, l) :: m) k) else T.fail)
                | false => T.osome pp fun a => T.loads a (compD P t).2 (cur _ fun l => xdraw P n ops fu (j :: D) (eput n e' oj.dst (l.headD undef)) ((j, a, l) :: m) k)) L K w.heap := by
                cases bb <;> simp only [hb] at hx <;> exact hx
              -- where, and what
              have hfin : ∃ p l v, pp = some p ∧ cellsAt w.heap p 0 l ∧ xdraw P n ops fu (j :: D) (eput n e' oj.dst v) ((j, p, l) :: m) k L K w.heap ∧
                  ∀ (kk : Value → T) L K h', cellsAt h' p 0 l → kk v L K h' → xop P oj e' kk L K h' := by
                have hxop : ∀ kk, xop P oj e' kk = xload P t x e' (fun _ _ v => kk v) := by
                  intro kk
                  unfold xop
                  rw [hop]
                  rfl
                cases bb with
                | true =>
                  simp only at hx3
                  rcases cond_of hx3 with ⟨hl, hx3⟩ | ⟨hl, hx3⟩
                  · obtain ⟨p, rfl, hx3⟩ := osome_of hx3
                    obtain ⟨y, hc, hx3⟩ := hx3
                    rw [unc_cur] at hx3
                    refine ⟨p, _, _, rfl, hc, hx3, fun kk L K h' hc' hkk => ?_⟩
                    rw [hxop]
                    unfold xload with1
                    simp only [hu, hb, hl]
                    exact ⟨y, hc', by rw [unc_cur]; exact hkk⟩
                  · exact hx3.elim
                | false =>
                  simp only at hx3
                  obtain ⟨p, rfl, hx3⟩ := osome_of hx3
                  obtain ⟨y, hc, hx3⟩ := hx3
                  rw [unc_cur] at hx3
                  refine ⟨p, _, _, rfl, hc, hx3, fun kk L K h' hc' hkk => ?_⟩
                  rw [hxop]
                  unfold xload with1
                  simp only [hu, hb]
                  exact ⟨y, hc', by rw [unc_cur]; exact hkk⟩
              obtain ⟨p, l, v, rfl, hc, hk, hall⟩ := hfin
              refine ih (j :: D) _ ((j, p, l) :: m) (I.ahead hok hoj hjD hjw hcj he (fun x hx => List.mem_cons_of_mem _ hx) ?_) hk
              exact ⟨hcj, v, true, hself v, hg' v, .inr ⟨rfl, .inr ⟨p, l, by simp, hc, fun kk L K h' hc' hkk => by rw [hxe]; exact hall kk L K h' hc' hkk⟩⟩⟩
        · -- it is left out
          refine ih (j :: D) _ m (I.ahead hok hoj hjD hjw hq3 he (fun x hx => hx) ?_) hx
          exact ⟨hq3, undef, false, hself undef, hg' undef, .inl ⟨rfl, rfl⟩⟩
      | nil =>
        simp only [hcalm] at ht
        have hjw : ∀ j ∈ waits o, j ∈ D := fun j hj => I.lD j (hr j hj)
        have hrx : readyX D i o = true := readyX_iff.2 ⟨hiD, hjw⟩
        have hc : calm P o = false := by
          cases hc : calm P o with
          | false => rfl
          | true =>
            have : (i, o) ∈ findReady P D true (idx 0 ops.toList) := mem_findReady.2 ⟨mem_idx0.2 ho, hrx, hc⟩
            rw [hcalm] at this; cases this
        have hmem : (i, o) ∈ findReady P D false (idx 0 ops.toList) := mem_findReady.2 ⟨mem_idx0.2 ho, hrx, hc⟩
        cases heff : findReady P D false (idx 0 ops.toList) with
        | nil => rw [heff] at hmem; cases hmem
        | cons q qs =>
          simp only [heff] at ht
          rw [heff] at hmem
          have hti := allX_of (List.mem_map.2 ⟨(i, o), hmem, rfl⟩) ht
          simp only at hti
          obtain ⟨e', b, he, hg, hx⟩ := xguardD_of hti
          have hlk := I.looksOk hok ho hr (.inl hiD)
          have hwant := hg.wanted hlk
          unfold wpOp
          rw [ho]
          simp only
          rcases hx with ⟨rfl, hx⟩ | ⟨rfl, hx⟩
          · rw [if_pos hwant]
            refine .inl ?_
            rw [← xop_only (ops := ops)] at hx
            have hlk' : ∀ s ∈ looks ops o, ∀ v, eget e' s = some v → a.tmps.getD s undef = v := fun s hs v hv => hlk s hs v (by rw [← he]; exact hv)
            refine wp_of_opW (xop_of (agr_only I.size I.defers hlk') hx) ?_
            intro v w' hs' hst
            obtain ⟨hst1, hst2⟩ := stab_of hst
            exact next _ _ (i :: D) _ m fu (hs.trans hs') (I.effect hok ho hiD hr hc he (fun j p l h1 _ h3 => hst2 j p l h1 h3)) hst1
          · rw [if_neg (by simp [hwant])]
            exact next _ _ (i :: D) _ m fu hs (I.effect hok ho hiD hr hc he (fun j p l _ h2 _ => h2)) hx

theorem draw_any (hok : okRegion P n ops = true) {L : Lp} {K : Value → Hp → Prop} {k : Env → T} {Q : Exit → Act → Hp → Prop} {w0 : World}
    (hk : ∀ e a h, k e L K h → Agr n e a → Fr (dstsOf ops) e0 e → Q .normal a h) : ∀ (fuel : Nat) (listed : Array Bool) (a : Act) (w : World) (D : List Nat) (e : Env) (m : Made) (fu : Nat), left listed ≤ fuel → SameO w0 w →
      RInv P n ops e0 listed a w.heap D e m → xdraw P n ops fu D e m k L K w.heap → wpAny P .any ops (atW w0 Q) fuel listed a w := by
  have fin : ∀ (listed : Array Bool) (a : Act) (w : World), SameO w0 w → Region.ready .any ops listed = [] → ∀ fu D e m, RInv P n ops e0 listed a w.heap D e m → xdraw P n ops fu D e m k L K w.heap → atW w0 Q .normal a w := by
    intro listed a w hs hr fu D e m I ht
    have hall : ∀ i ∈ D, listed[i]? = some true ∨ listed[i]? = some false := by
      intro i hi
      obtain ⟨o, ho⟩ := I.dD i hi
      by_cases h1 : listed[i]? = some true
      · exact .inl h1
      · exact .inr (I.unlisted ho h1)
    have hdone : ∀ i ∈ D, listed[i]? = some true := by
      intro i hi
      rcases hall i hi with h1 | h1
      · exact h1
      · obtain ⟨j, hj, h2, h3⟩ := first_pending listed I.closed I.dD ⟨i, hi, h1⟩ hall
        obtain ⟨o, ho⟩ := I.dD j hj
        have : j ∈ Region.ready .any ops listed := (ready_iff I.lsize).2 ⟨o, ho, h2, h3 o ho⟩
        rw [hr] at this; cases this
    have hno : ∀ c, findReady P D c (idx 0 ops.toList) = [] := by
      intro c
      cases hx : findReady P D c (idx 0 ops.toList) with
      | nil => rfl
      | cons q qs =>
        obtain ⟨i, o⟩ := q
        have hq : (i, o) ∈ findReady P D c (idx 0 ops.toList) := by rw [hx]; simp
        obtain ⟨hq1, hq2, _⟩ := mem_findReady.1 hq
        have ho := mem_idx0.1 hq1
        obtain ⟨hiD, hw⟩ := readyX_iff.1 hq2
        have : i ∈ Region.ready .any ops listed := (ready_iff I.lsize).2 ⟨o, ho, I.unlisted ho (fun hh => hiD (I.lD i hh)), fun j hj => hdone j (hw j hj)⟩
        rw [hr] at this; cases this
    cases fu with
    | zero => exact ht.elim
    | succ fu =>
      unfold xdraw at ht
      simp only [hno] at ht
      refine ⟨hs, hk e a w.heap ht ⟨I.size, I.defers, fun s v hv => I.agr s v hv ?_⟩ I.fr⟩
      intro j hj o ho hf
      rw [hdone j hj] at hf; cases hf
  intro fuel
  induction fuel with
  | zero =>
    intro listed a w D e m fu hl hs I ht
    have hr : Region.ready .any ops listed = [] := by
      cases hx : Region.ready .any ops listed with
      | nil => rfl
      | cons i l =>
        have : i ∈ Region.ready .any ops listed := by rw [hx]; simp
        obtain ⟨o, ho, hf, _⟩ := (ready_iff I.lsize).1 this
        exact (left_zero (by omega) i hf).elim
    exact ⟨hr, fin listed a w hs hr fu D e m I ht⟩
  | succ fuel ih =>
    intro listed a w D e m fu hl hs I ht
    refine ⟨fun hr => fin listed a w hs hr fu D e m I ht, fun i hi => ?_⟩
    obtain ⟨o, ho, hf, _⟩ := (ready_iff I.lsize).1 hi
    refine draw_op hok hi hs ?_ fu D e m I ht
    intro a' w' D' e' m' fu' hs' I' ht'
    exact ih _ a' w' D' e' m' fu' (by have := left_set hf; omega) hs' I' ht'
theorem rok (hm : P.follows .mixedOrders = true) : ROk P n := by
  intro id ops e k L K Q a h hk ht g w0 w hs hw
  subst hw
  unfold xregion at ht
  cases hok : okRegion P n ops with
  | false => simp only [hok] at ht; exact ht.elim
  | true =>
    simp only [hok] at ht
    have hnone : ∀ (l : Array Bool) (i : Nat), l = Array.replicate ops.size false → l[i]? ≠ some true := by
      intro l i hl hh
      subst hl
      simp [Array.getElem?_replicate] at hh
    refine wp_region_any hm (draw_any (e0 := e) hok hk ops.size _ a { w with drawn := w.drawn + 1 } [] e [] (ops.size + 1) ?_ ⟨hs.os, hs.tape, hs.output⟩ ?_ ht)
    · unfold left
      refine Nat.le_trans (List.length_filter_le _ _) ?_
      simp
    · exact ⟨by simp, g.size, g.defers, fun i hi => (hnone _ i rfl hi).elim, fun i hi => (by cases hi), trivial, fun s v hv _ => g.get s v hv, fun i hi => (by cases hi), Fr.refl _ _⟩
end draws
end Go.Sx
