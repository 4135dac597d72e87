/- Closed runs, part Jc: slice literals, append over a store. No condition but the store's. -/
import Derived.Test.YtmdncdaladplkaaGreatDoorSxJb
set_option linter.unusedVariables false
set_option linter.unusedSimpArgs false
set_option linter.deprecated false
set_option linter.unusedSectionVars false
namespace Go.Sx.Cr
section
variable {C : Cx} {h0 : Hp} {ρ : Rho} {s s1 : CS} {h : Hp} {e : Ev} {e' : Env} {L : Lp} {K : Value → Hp → Prop} {kk : Value → T}
/-- A slice literal. -/
theorem lit_sem {P : Program} {t : TypeId} {q : El} {i : TypeInfo} {z : Value} (E : ElIs P t q i z) {n : Nat} {ps : List (Nat × Value)} {r : List (Nat × List Value)} {cs : List Value} (hn : n * q.sz ≤ 16777216) (hl : r.length = n)
    (hc : CellsAs ps r) (hs : seqL q.sz 0 r = some cs) {K : Value → Hp → Prop} (hk : ∀ h', Box h' h.size q.e cs → Ext h h' → K (.slice (some ⟨h.size, 0, none⟩) n n) h') : semW P (Instr.buildSlice t n ps.toArray) h K := by
  rcases Nat.eq_zero_or_pos n with h0 | h0
  · subst h0
    have hr : r = [] := List.eq_nil_of_length_eq_zero hl
    subst hr
    cases hc
    have : some [] = some cs := hs
    cases this
    unfold Instr.buildSlice
    rw [semW_bind', semW_underlying E.und]
    simp only
    rw [semW_bind', semW_sizeOf E.info]
    simp only [Nat.zero_mul]
    rw [if_neg (by omega)]
    have h0 : ∀ f : Nat → Value, Array.map f (Array.range 0) = #[] := fun f => by simp
    simp only [h0]
    exact hk _ (by simpa using Box.new h q.e []) (Ext.push h _)
  · have hp := E.pos
    have hnz : n * q.sz ≠ 0 := fun hh => by rcases Nat.mul_eq_zero.1 hh with h1 | h1 <;> omega
    have hlen : ((Array.range (n * i.size)).map (z.cells[· % z.cells.size]!)).toList.length = r.length * q.sz := by simp [hl, E.sz]
    have hf := seqL_fill (A := []) hs (by simp) hlen
    rw [List.nil_append, List.nil_append] at hf
    have hf' := fill_of hc hf
    refine buildSlice_of E.und E.info E.zero (by rw [E.sz]; exact hnz) (by rw [E.sz]; omega) (cells := cs.toArray) (by rw [E.sz] at hf' ⊢; exact hf') fun h' b k _ => ?_
    exact hk h' (by simpa using b) k
theorem lit_run {t : TypeId} (R : Rel C h0 ρ s.σ h) {n : Nat} {ps ps' : List (Nat × Value)} {v : Value} (hp : PR ρ ps ps') (hx : cslit C.P t n ps s = some (v, s1)) (P : Post C h0 ρ s1 v kk L K) :
    T.sem C.P (Instr.buildSlice t n ps'.toArray) false [(false, [.slice 0])] (fun p l c => kk (.slice p l c)) L K h := by
  unfold cslit at hx
  obtain ⟨q, hq, hx⟩ := Option.bind_eq_some_iff.1 hx
  obtain ⟨h1, hx⟩ := chk_iff.1 hx
  obtain ⟨cs, hc, hx⟩ := Option.bind_eq_some_iff.1 hx
  obtain ⟨h2, hc⟩ := chk_iff.1 (show chk _ _ = some cs from hc)
  obtain ⟨s2, hn2, hx⟩ := Option.bind_eq_some_iff.1 (show (cnew s (.row cs q.e 0)).bind _ = some (v, s1) from hx)
  obtain ⟨hn, h3⟩ := cnew_iff.1 hn2
  subst h3
  cases hx
  obtain ⟨i, z, E⟩ := elOf_is hq
  obtain ⟨h4, h5⟩ := partL_of hp
  obtain ⟨cs', h6, h7, h8⟩ := seqL_of _ hc h4
  refine sem_slice ?_
  refine lit_sem E (Nat.le_of_ble_eq_true h1) (by rw [h8]; exact Nat.eq_of_beq_eq_true h2) h5 h6 fun h' b k => ?_
  obtain ⟨R1, le⟩ := R.newRow (rest := []) (e := q.e) (m := 0) (cap := 0) hn h7 (by rw [List.append_nil]; exact b) k (by omega)
  have hv := VR.sl (ρ := upd ρ s.nx ⟨h.size, 0, 0⟩) (c := n) (c' := n) 0 n (upd_self _ _ _) (.inl ⟨?_, rfl⟩) (Nat.le_refl _)
  · exact ⟨_, _, _, rfl, P _ _ _ le R1 (by simpa using hv)⟩
  · have hp := E.pos
    have h1 := Nat.le_of_ble_eq_true h1
    have : n * 1 ≤ n * q.sz := Nat.mul_le_mul_left n hp
    unfold half; omega

/-! append. -/
/-- What is appended, as the model reads it. -/
theorem addend_of (R : Rel C h0 ρ s.σ h) {sz : Nat} {x x' : Value} {ys : List Value} (hv : VR ρ x x') (hx : addend C sz x s = some ys) :
    ∃ q q' m mc mc' ys', x = .slice q m mc ∧ x' = .slice q' m mc' ∧ VRs ρ ys ys' ∧ ys.length = m * sz ∧ ∀ K : Array Value → Hp → Prop, K ys'.toArray h → semW C.P (Builtin.firstCells sz m x') h K := by
  unfold addend at hx
  split at hx
  · rename_i q m mc
    cases m with
    | zero =>
      cases hx
      cases hv with
      | sl0 _ => exact ⟨_, _, _, _, _, [], rfl, rfl, .nil, by simp, fun K hk => hk⟩
      | sl off l h hc _ =>
        refine ⟨_, _, _, _, _, [], rfl, rfl, .nil, by simp, fun K hk => ?_⟩
        show semW C.P (loadCells _ (0 * sz)) _ K
        rw [Nat.zero_mul]
        exact hk
    | succ m =>
      simp only at hx
      obtain ⟨⟨b, off⟩, hp, hx⟩ := Option.bind_eq_some_iff.1 hx
      have := ptrOf_iff.1 hp
      cases this
      cases hv with
      | sl off l hb hc _ =>
        obtain ⟨hn, ys', h1, h2⟩ := cells_of R hx hb
        refine ⟨_, _, _, _, _, ys', rfl, rfl, h1, hn, fun K hk => ?_⟩
        exact semW_loadCells (by rw [← h1.length]; exact hn) h2 _ hk
  · cases hx
section sem
variable {P : Program} {t t' ty e2 : TypeId} {q : El} {i : TypeInfo} {z : Value}
/-- Where there is room. -/
theorem app_room (E : ElIs P t q i z) (ht' : P.underlying t' = some (.slice e2)) {a : Addr} {l c m mc : Nat} {x : Option Addr} {ys : List Value} (hroom : l + m ≤ c)
    (hx : ∀ K : Array Value → Hp → Prop, K ys.toArray h → semW P (Builtin.firstCells q.sz m (.slice x m mc)) h K) {K : Value → Hp → Prop}
    (hst : canSt h (a.add (l * q.sz)) 0 ys) (hk : K (.slice (some a) (l + m) c) (hsets h (a.add (l * q.sz)) 0 ys)) : semW P (Builtin.append_ #[t, t'] ty #[.slice (some a) l c, .slice x m mc]) h K := by
  simp [Builtin.append_, semW_bind', semW_underlying E.und, semW_underlying ht', semW_sizeOf E.info, cellsOf_info E.info, Builtin.lenOf, hroom, E.sz]
  refine hx _ ?_
  rw [semW_map]
  exact semW_storeCells _ _ _ 0 _ hst hk
/-- Where there is nothing to append. -/
theorem app_none (E : ElIs P t q i z) (ht' : P.underlying t' = some (.slice e2)) {p : Option Addr} {l c mc : Nat} {x : Option Addr} (hroom : l ≤ c)
    (hx : ∀ K : Array Value → Hp → Prop, K #[] h → semW P (Builtin.firstCells q.sz 0 (.slice x 0 mc)) h K) {K : Value → Hp → Prop}
    (hk : K (.slice p l c) h) : semW P (Builtin.append_ #[t, t'] ty #[.slice p l c, .slice x 0 mc]) h K := by
  simp [Builtin.append_, semW_bind', semW_underlying E.und, semW_underlying ht', semW_sizeOf E.info, cellsOf_info E.info, Builtin.lenOf, hroom, E.sz]
  refine hx _ ?_
  cases p with
  | none => exact hk
  | some a => exact hk
/-- Where there is no room. -/
theorem app_grow (E : ElIs P t q i z) (ht' : P.underlying t' = some (.slice e2)) {p : Option Addr} {l c m mc : Nat} {x : Option Addr} {old ys : List Value} (hroom : ¬ l + m ≤ c)
    (hx : ∀ K : Array Value → Hp → Prop, K ys.toArray h → semW P (Builtin.firstCells q.sz m (.slice x m mc)) h K)
    (ho : ∀ K : Array Value → Hp → Prop, K old.toArray h → semW P (Builtin.firstCells q.sz l (.slice p l c)) h K) {K : Value → Hp → Prop}
    (hby : (2 * (l + m) + 1024) * q.by_ ≤ 281474976710656) (hl : l + m ≤ 281474976710656)
    (hk : ∀ nc rest h', l + m ≤ nc → nc < 9223372036854775808 → rest.length = (nc - (l + m)) * q.sz → Box h' h.size q.e (old ++ ys ++ rest) → Ext h h' → K (.slice (some ⟨h.size, 0, none⟩) (l + m) nc) h') :
    semW P (Builtin.append_ #[t, t'] ty #[.slice p l c, .slice x m mc]) h K := by
  have hcap : ¬ 281474976710656 < Builtin.nextslicecap (l + m) c * i.bytes := by
    have h1 := nextcap_le (need := l + m) (old := c) (by omega)
    have h2 := Nat.mul_le_mul_right i.bytes h1
    rw [← E.by_] at hby
    omega
  have hbig : ¬ (9223372036854775807 < (l : Int) + (m : Int) ∧ i.bytes = 0) := by omega
  have hz' : (P.info? q.e).bind (·.zero) = some z := by rw [E.info]; exact E.zero
  simp [Builtin.append_, semW_bind', semW_underlying E.und, semW_underlying ht', semW_sizeOf E.info, cellsOf_info E.info, Builtin.lenOf, hroom, semW_typeInfo E.info, semW_zeroValue hz', askRoom, hbig, hcap, E.sz]
  intro tt
  have hge := cut_cap (l + m) c q.e tt
  generalize (Question.appendCap (l + m) c q.e).cut tt = nc at hge
  show semW P (if roomBytes < nc * i.bytes then mark Mark.noRoom else pure ()) h _
  have hroomy : ∀ K' : Unit → Hp → Prop, K' () h → semW P (if roomBytes < nc * i.bytes then mark Mark.noRoom else pure ()) h K' := by
    intro K' hk'
    split
    · exact hk'
    · exact hk'
  refine hroomy _ ?_
  refine ho _ ?_
  refine hx _ ?_
  rw [semW_map]
  have hb := Box.new h q.e (old ++ ys ++ (Builtin.zeroCells z.cells (nc - (l + m))).toList)
  have e1 : old.toArray ++ (ys.toArray ++ Builtin.zeroCells z.cells (nc - (l + m))) = (old ++ ys ++ (Builtin.zeroCells z.cells (nc - (l + m))).toList).toArray := by
    apply Array.toList_inj.1; simp
  refine hk nc (Builtin.zeroCells z.cells (nc - (l + m))).toList _ hge.1 (hge.2 (by omega)) ?_ ?_ (Ext.push h _)
  · rw [Array.length_toList, zeroCells_size, E.zs, E.sz]
  · rw [e1]; exact hb
end sem
theorem half_big : half < big := by decide
theorem cap_pos {pl : Pl} {c c' : Nat} (hc : CapR pl c c') (hlt : Nat.blt c half = true) : c' = c := by
  rw [Nat.blt_eq] at hlt
  rcases hc with ⟨_, h⟩ | ⟨h, _⟩
  · exact h
  · omega
theorem cap_open {pl : Pl} {c c' : Nat} (hc : CapR pl c c') (hlt : Nat.blt c half = false) : c' + big = pl.cap + c := by
  have : ¬ c < half := fun hh => by rw [← Nat.blt_eq] at hh; rw [hh] at hlt; cases hlt
  rcases hc with ⟨h, _⟩ | ⟨_, h⟩
  · exact (this h).elim
  · exact h
theorem old_of (R : Rel C h0 ρ s.σ h) {sz pb po l c : Nat} {pl : Pl} {old : List Value} (hp : ρ pb = some pl) (ho : cells C s pb po (l * sz) = some old) :
    ∃ old', VRs ρ old old' ∧ old.length = l * sz ∧ ∀ (K : Array Value → Hp → Prop), K old'.toArray h → semW C.P (Builtin.firstCells sz l (.slice (some ⟨pl.blk, pl.sh + po, none⟩) l c)) h K := by
  obtain ⟨hn, old', h1, h2⟩ := cells_of R ho hp
  exact ⟨old', h1, hn, fun K hk => semW_loadCells (by rw [← h1.length]; exact hn) h2 _ hk⟩
theorem openRow_of {q : El} {t : TypeId} {i : TypeInfo} {z : Value} (E : ElIs C.P t q i z) (R : Rel C h0 ρ s.σ h) {pb po l c c' : Nat} {cs : List Value} (hx : openRow q po l c (s.σ.get pb) = some cs) {pl : Pl} (hp : ρ pb = some pl) (hc : c' + big = pl.cap + c) :
    s.σ.get pb = some (.row cs q.e 1) ∧ po + l * q.sz ≤ cs.length ∧ l ≤ c' ∧ c' < 9223372036854775808 ∧ h0.size ≤ pl.blk ∧ ∃ rs, Box h pl.blk q.e rs ∧ rs.length = pl.sh + po + c' * q.sz ∧ ∀ (i : Nat) (v : Value), cs[i]? = some v → ∃ v', rs[pl.sh + i]? = some v' ∧ VR ρ v v' := by
  unfold openRow at hx
  split at hx
  · rename_i cs2 e' m' hr
    obtain ⟨h1, h2⟩ := chk_iff.1 hx
    cases h2
    simp only [Bool.and_eq_true] at h1
    obtain ⟨⟨⟨⟨h1, h2⟩, h3⟩, h4⟩, h5⟩ := h1
    obtain rfl : m' = 1 := Nat.eq_of_beq_eq_true h1
    obtain rfl : q.e = e' := Nat.eq_of_beq_eq_true h2
    have h3 := Nat.le_of_ble_eq_true h3
    have h4 : po = (big - c) * q.sz := Nat.eq_of_beq_eq_true h4
    have h5 := Nat.le_of_ble_eq_true h5
    obtain ⟨rs, f, hg, hcs, hm, ho⟩ := R.row hr hp
    obtain ⟨rfl, hgs⟩ := hm (by omega)
    obtain ⟨hs, hcap⟩ := ho.1 rfl
    rw [cellsOf_info E.info, E.sz] at hs
    have hcl : c' + (big - c) = pl.cap := by omega
    have hsz : rs.size = pl.sh + po + c' * q.sz := by rw [← hs, ← hcl, Nat.add_mul, h4]; omega
    refine ⟨hr, h5, ?_, by omega, hgs, rs.toList, by unfold Box; simpa using hg, by simpa using hsz, fun i v hv => ?_⟩
    · rcases Nat.eq_zero_or_pos (l * q.sz) with hz | hz
      · have := E.pos
        rcases Nat.mul_eq_zero.1 hz with h6 | h6 <;> omega
      · obtain ⟨v', e1, _⟩ := hcs (po + l * q.sz - 1) (cs[po + l * q.sz - 1]'(by omega)) (by rw [List.getElem?_eq_getElem])
        have hlt : pl.sh + (po + l * q.sz - 1) < rs.size := by
          rcases Nat.lt_or_ge (pl.sh + (po + l * q.sz - 1)) rs.size with h | h
          · exact h
          · rw [Array.getElem?_eq_none h] at e1; cases e1
        have : l * q.sz ≤ c' * q.sz := by omega
        exact Nat.le_of_mul_le_mul_right this E.pos
    · obtain ⟨v', e1, e2⟩ := hcs i v hv
      exact ⟨v', by rw [Array.getElem?_toList]; exact e1, e2⟩
  · cases hx
/-- A new row that stands open behind. -/
theorem openNew {P : Program} (q : El) {t : TypeId} {i : TypeInfo} {z : Value} (E : ElIs C.P t q i z) (R : Rel C h0 ρ s.σ h) (hn : s.σ.get s.nx = none) {cs cs' rest : List Value} {l nc : Nat} {h' : Hp} (hc : VRs ρ cs cs') (hl : cs.length = l * q.sz)
    (h1 : l ≤ nc) (h2 : nc < 9223372036854775808) (hr : rest.length = (nc - l) * q.sz) (hb : Box h' h.size q.e (cs' ++ rest)) (k : Ext h h') (Po : ∀ ρ1 v1 h1, Le ρ ρ1 → Rel C h0 ρ1 (s.σ.put s.nx (.row cs q.e 1)) h1 → VR ρ1 (.slice (some ⟨s.nx, 0, none⟩) l big) v1 → kk v1 L K h1) :
    kk (.slice (some ⟨h.size, 0, none⟩) l nc) L K h' := by
  have hcap : nc * C.P.cellsOf q.e = cs'.length + rest.length := by
    rw [hr, ← hc.length, hl, cellsOf_info E.info, E.sz, ← Nat.add_mul]
    congr 1; omega
  obtain ⟨R1, le⟩ := R.newRow (e := q.e) (m := 1) (cap := nc) hn hc hb k fun _ => ⟨hcap, h2⟩
  have hv := VR.sl (ρ := upd ρ s.nx ⟨h.size, 0, nc⟩) (c := big) (c' := nc) 0 l (upd_self _ _ _) (.inr ⟨Nat.le_of_lt half_big, rfl⟩) h1
  exact Po _ _ _ le R1 (by simpa using hv)
theorem append_run (R : Rel C h0 ρ s.σ h) {ts : Array TypeId} {ty : TypeId} {vs vs' : List Value} {v : Value} (hv : VRs ρ vs vs') (hx : cappend C ts.toList vs s = some (v, s1)) (P : Post C h0 ρ s1 v kk L K) :
    T.sem C.P (Builtin.append_ ts ty vs'.toArray) false [(false, [.slice 0])] (fun p l c => kk (.slice p l c)) L K h := by
  refine sem_slice ?_
  unfold cappend at hx
  split at hx
  · rename_i t t' a x hts
    obtain ⟨h1, hx⟩ := chk_iff.1 hx
    obtain ⟨q, hq, hx⟩ := Option.bind_eq_some_iff.1 hx
    obtain ⟨ys, hys, hx⟩ := Option.bind_eq_some_iff.1 hx
    have hts' : ts = #[t, t'] := by
      have := congrArg List.toArray hts
      simpa using this
    subst hts'
    obtain ⟨e2, ht'⟩ : ∃ e2, C.P.underlying t' = some (.slice e2) := by
      unfold isSlD at h1
      split at h1
      · rename_i hh; exact ⟨_, hh⟩
      · cases h1
    obtain ⟨i, z, E⟩ := elOf_is hq
    cases hv with
    | cons ha hv =>
    cases hv with
    | cons hxx hv =>
    cases hv
    obtain ⟨xq, xq', m, mc, mc', ys', hx1, hx2, hyv, hyl, hfc⟩ := addend_of R hxx hys
    subst hx2
    rw [hx1] at hx
    obtain ⟨p, l, c, ha1⟩ : ∃ p l c, a = .slice p l c := by
      cases a <;> first | exact ⟨_, _, _, rfl⟩ | (simp [app2] at hx; done)
    rw [ha1] at hx ha
    unfold app2 at hx
    obtain ⟨h2, hx⟩ := chk_iff.1 hx
    simp only [Bool.and_eq_true] at h2
    have hby := Nat.le_of_ble_eq_true h2.1.1
    have hlm := Nat.le_of_ble_eq_true h2.1.2
    have hpl : ys'.all plainV = true := by rw [plain_vrs hyv]; exact h2.2
    cases m with
    | zero =>
      cases hx
      have hy0 : ys = [] := List.eq_nil_of_length_eq_zero (by simpa using hyl)
      rw [hy0] at hyv
      cases hyv
      cases ha with
      | sl0 hl => exact app_none E ht' hl hfc ⟨_, _, _, rfl, P.here R (.sl0 hl)⟩
      | sl off l hb hc hl => exact app_none E ht' hl hfc ⟨_, _, _, rfl, P.here R (.sl _ _ hb hc hl)⟩
    | succ m =>
      simp only at hx
      unfold appTo at hx
      cases ha with
      | sl0 _ =>
        simp only at hx
        obtain ⟨h3, hx⟩ := chk_iff.1 hx
        simp only [Bool.and_eq_true] at h3
        obtain rfl : l = 0 := Nat.eq_of_beq_eq_true h3.1
        obtain rfl : c = 0 := Nat.eq_of_beq_eq_true h3.2
        obtain ⟨s2, hn2, hx⟩ := Option.bind_eq_some_iff.1 (show (cnew s (.row ys q.e 1)).bind _ = some (v, s1) from hx)
        obtain ⟨hn, h4⟩ := cnew_iff.1 hn2
        subst h4
        cases hx
        refine app_grow (p := none) (l := 0) (c := 0) (old := []) E ht' (by omega) hfc (fun K hk => hk) hby hlm ?_
        intro nc rest h' g1 g2 g3 g4 g5
        rw [List.nil_append] at g4
        rw [Nat.zero_add] at g1 g3 ⊢
        exact ⟨_, _, _, rfl, openNew (P := C.P) q E R hn hyv hyl g1 g2 g3 g4 g5 P⟩
      | @sl pb pl off l c c' hb hc hl =>
        simp only at hx
        obtain ⟨⟨pb2, po⟩, hp2, hx⟩ := Option.bind_eq_some_iff.1 hx
        have hp3 := ptrOf_iff.1 hp2
        cases hp3
        simp only at hx
        unfold appAt at hx
        cases hlt : Nat.blt c half with
        | true =>
          rw [hlt] at hx
          simp only at hx
          obtain rfl : c' = c := cap_pos hc hlt
          unfold appFix at hx
          cases hr : Nat.ble (l + (m + 1)) c' with
          | true =>
            rw [hr] at hx
            simp only at hx
            obtain ⟨s2, hs2, hx⟩ := Option.bind_eq_some_iff.1 hx
            cases hx
            obtain ⟨k1, k2⟩ := cput_of R hyv hs2 hb
            rw [show pl.sh + (off + l * q.sz) = pl.sh + off + l * q.sz by omega] at k1 k2
            refine app_room E ht' (Nat.le_of_ble_eq_true hr) hfc (by rw [add_box]; exact k1) ⟨_, _, _, rfl, ?_⟩
            rw [add_box]
            exact P _ _ _ (Le.refl _) k2 (.sl _ _ hb hc (Nat.le_of_ble_eq_true hr))
          | false =>
            rw [hr] at hx
            simp only at hx
            obtain ⟨old, ho, hx⟩ := Option.bind_eq_some_iff.1 hx
            obtain ⟨s2, hn2, hx⟩ := Option.bind_eq_some_iff.1 (show (cnew s (.row (old ++ ys) q.e 1)).bind _ = some (v, s1) from hx)
            obtain ⟨hn, h4⟩ := cnew_iff.1 hn2
            subst h4
            cases hx
            obtain ⟨old', g1, g2, g3⟩ := old_of (c := c') R hb ho
            have hro : ¬ l + (m + 1) ≤ c' := fun hh => by rw [Nat.ble_eq_true_of_le hh] at hr; cases hr
            refine app_grow E ht' hro hfc g3 hby hlm ?_
            intro nc rest h' k1 k2 k3 k4 k5
            exact ⟨_, _, _, rfl, openNew (P := C.P) q E R hn (g1.append hyv) (by rw [List.length_append, g2, hyl, ← Nat.add_mul]) k1 k2 k3 k4 k5 P⟩
        | false =>
          rw [hlt] at hx
          simp only at hx
          unfold appOpen at hx
          obtain ⟨cs, ho, hx⟩ := Option.bind_eq_some_iff.1 hx
          obtain ⟨hle, hx⟩ := chk_iff.1 hx
          have hle : cs.length = off + l * q.sz := Nat.eq_of_beq_eq_true hle
          split at hx
          · rename_i hn
            cases hx
            obtain ⟨g1, g2, g3, g4, g5, rs, g6, g7, g8⟩ := openRow_of E R ho hb (cap_open hc hlt)
            have hn' : pb ≠ s.nx := fun hh => by rw [hh, hn] at g1; cases g1
            by_cases hroom : l + (m + 1) ≤ c'
            · -- in its place
              have hmul : (l + (m + 1)) * q.sz ≤ c' * q.sz := Nat.mul_le_mul_right _ hroom
              rw [Nat.add_mul] at hmul
              obtain ⟨k1, k2, k3, k4⟩ := stores_box (off := pl.sh + off + l * q.sz) ys' h 0 _ g6 hpl (by rw [← hyv.length, hyl, g7]; omega)
              refine app_room E ht' hroom hfc (by rw [add_box]; exact k1) ⟨_, _, _, rfl, ?_⟩
              rw [add_box]
              have hobj : ObjR C.P (upd ρ s.nx ⟨pl.blk, pl.sh + off, c'⟩) h0 (hsets h ⟨pl.blk, pl.sh + off + l * q.sz, none⟩ 0 ys') ⟨pl.blk, pl.sh + off, c'⟩ (.row (cs.drop off ++ ys) q.e 1) := by
                refine ⟨_, _, k2, fun i v hi => ?_, fun _ => ⟨rfl, g5⟩, fun _ => ⟨by simp only [List.size_toArray, setL_length]; rw [g7, cellsOf_info E.info, E.sz], g4⟩, fun hh => by cases hh⟩
                have le : Le ρ (upd ρ s.nx ⟨pl.blk, pl.sh + off, c'⟩) := Le.upd (R.dom _ hn)
                have hdl : (cs.drop off).length = l * q.sz := by rw [List.length_drop, hle]; omega
                rw [List.getElem?_toArray, setL_eq _ _ _ (by rw [← hyv.length, hyl, g7]; omega), Nat.add_zero]
                have e1 : (rs.take (pl.sh + off + l * q.sz)).length = pl.sh + off + l * q.sz := by rw [List.length_take, g7]; omega
                rcases Nat.lt_or_ge i (l * q.sz) with hi1 | hi1
                · rw [List.getElem?_append_left (by omega), List.getElem?_drop] at hi
                  obtain ⟨v', e2, e3⟩ := g8 _ _ hi
                  refine ⟨v', ?_, e3.mono le⟩
                  rw [List.append_assoc, List.getElem?_append_left (by simp only; omega), List.getElem?_take, if_pos (by simp only; omega), ← e2]
                  simp only; congr 1; omega
                · rw [List.getElem?_append_right (by omega), hdl] at hi
                  obtain ⟨v', e2, e3⟩ := hyv.get hi
                  refine ⟨v', ?_, e3.mono le⟩
                  have : i - l * q.sz < ys'.length := by
                    rcases Nat.lt_or_ge (i - l * q.sz) ys'.length with h | h
                    · exact h
                    · rw [List.getElem?_eq_none h] at e2; cases e2
                  rw [List.append_assoc, List.getElem?_append_right (by simp only; omega), List.getElem?_append_left (by simp only; omega), ← e2]
                  simp only; congr 1; omega
              obtain ⟨R1, le⟩ := R.move (n := s.nx) (b := pb) (o' := .row (cs.drop off ++ ys) q.e 1) (pl' := ⟨pl.blk, pl.sh + off, c'⟩) hn g1 rfl hb k3 (.inl rfl) g5 hobj
              refine P _ _ _ le R1 ?_
              have := VR.sl (ρ := upd ρ s.nx ⟨pl.blk, pl.sh + off, c'⟩) (c := big) (c' := c') 0 (l + (m + 1)) (upd_self _ _ _) (.inr ⟨Nat.le_of_lt half_big, rfl⟩) hroom
              simpa using this
            · -- in a new one
              have hold : ∀ (K : Array Value → Hp → Prop), K ((rs.drop (pl.sh + off)).take (l * q.sz)).toArray h → semW C.P (Builtin.firstCells q.sz l (.slice (some ⟨pl.blk, pl.sh + off, none⟩) l c')) h K := by
                have hm : l * q.sz ≤ c' * q.sz := Nat.mul_le_mul_right _ g3
                have hln : ((rs.drop (pl.sh + off)).take (l * q.sz)).length = l * q.sz := by rw [List.length_take, List.length_drop, g7]; omega
                exact fun K hk => semW_loadCells hln (g6.cells _ (by rw [hln])) _ hk
              have hov : VRs ρ (cs.drop off) ((rs.drop (pl.sh + off)).take (l * q.sz)) := by
                have hm : l * q.sz ≤ c' * q.sz := Nat.mul_le_mul_right _ g3
                refine VRs.of_get (by rw [List.length_drop, List.length_take, List.length_drop, g7, hle]; omega) fun i v hi => ?_
                rw [List.getElem?_drop] at hi
                obtain ⟨v', e2, e3⟩ := g8 _ _ hi
                refine ⟨v', ?_, e3⟩
                have : off + i < cs.length := by
                  rcases Nat.lt_or_ge (off + i) cs.length with h | h
                  · exact h
                  · rw [List.getElem?_eq_none h] at hi; cases hi
                rw [List.getElem?_take, if_pos (by omega), List.getElem?_drop, ← e2]
                congr 1; omega
              refine app_grow E ht' hroom hfc hold hby hlm ?_
              intro nc rest h' k1 k2 k3 k4 k5
              refine ⟨_, _, _, rfl, ?_⟩
              have hcs : (cs.drop off ++ ys).length = (l + (m + 1)) * q.sz := by rw [List.length_append, List.length_drop, hle, hyl, Nat.add_mul l]; omega
              have hcp : nc * C.P.cellsOf q.e = (((rs.drop (pl.sh + off)).take (l * q.sz)) ++ ys').length + rest.length := by
                rw [k3, ← (hov.append hyv).length, hcs, cellsOf_info E.info, E.sz, ← Nat.add_mul]
                congr 1; omega
              obtain ⟨R1, le⟩ := R.move (n := s.nx) (b := pb) (o' := .row (cs.drop off ++ ys) q.e 1) (pl' := ⟨h.size, 0, nc⟩) hn g1 rfl hb (k5.mono (by simp)) (.inr rfl) R.size (row_of R.size (hov.append hyv) (Le.upd (R.dom _ hn)) k4 fun _ => ⟨hcp, k2⟩)
              refine P _ _ _ le R1 ?_
              have := VR.sl (ρ := upd ρ s.nx ⟨h.size, 0, nc⟩) (c := big) (c' := nc) 0 (l + (m + 1)) (upd_self _ _ _) (.inr ⟨Nat.le_of_lt half_big, rfl⟩) k1
              simpa using this
          · cases hx
  · cases hx
end
end Go.Sx.Cr
