/- Lines in plain Lean; arguments answers as they. Condition: at most 2^40 tokens. -/
import Derived.Test.YtpbjlnlekobodaaDoorLexS
import Derived.Test.YtpbjlnlekobodaaDoorLineT
import Derived.Test.YtpbjlnlekobodaaDoorLineU
set_option linter.unusedVariables false
set_option linter.unusedSimpArgs false
set_option linter.deprecated false
set_option maxRecDepth 100000
namespace Go.Sx
open Go.Proofs
/-- Is a token this sign? -/
def isS (t : Tok) (c : UInt8) : Bool := t.kind == 3 && t.text.data.toList == [c]
/-- Arguments, with commas between them: a place, where they are wrong. -/
def argsS (n : Nat) : List Tok → List (List Tok) → List Tok → Except Nat (List (List Tok))
  | [], done, cur => if cur = [] then .error n else .ok (done ++ [cur])
  | t :: ts, done, cur => if (isS t 58 || (isS t 44 && decide (cur = []))) = true then .error t.at_ else if isS t 44 = true then argsS n ts (done ++ [cur]) [] else argsS n ts done (cur ++ [t])
def argsA (n : Nat) (ts : List Tok) : Except Nat (List (List Tok)) := if ts = [] then .ok [] else argsS n ts [] []
structure Ln where
  label : ByteArray
  op : ByteArray
  args : List (List Tok)
def lnNil : Ln := ⟨⟨#[]⟩, ⟨#[]⟩, []⟩
/-- Has a line a label? -/
def labB : List Tok → Bool
  | t :: u :: _ => decide (t.kind = 1) && isS u 58
  | _ => false
def parseT (n : Nat) (lab : ByteArray) : List Tok → Ln × Nat × Nat
  | [] => (⟨lab, ⟨#[]⟩, []⟩, 0, 0)
  | t :: ts => if t.kind ≠ 1 then (lnNil, t.at_, 20) else match argsA n ts with
    | .error a => (lnNil, a, 20)
    | .ok l => (⟨lab, t.text, l⟩, 0, 0)
/-- What a line has. -/
def parseL (n : Nat) (ts : List Tok) : Ln × Nat × Nat :=
  if labB ts = true then parseT n ((ts.head?.map (·.text)).getD ⟨#[]⟩) (ts.drop 2) else parseT n ⟨#[]⟩ ts
def parseS (s : ByteArray) : Ln × Nat × Nat := if (lexS s).2.2 ≠ 0 then (lnNil, (lexS s).2.1, (lexS s).2.2) else parseL s.size (lexS s).1
theorem isS_val {t : Tok} {c : UInt8} : (((t.kind : Int) == 3) && (ByteArray.toList t.text == ByteArray.toList ⟨#[c]⟩)) = isS t c := by
  unfold isS
  rw [ByteArray.toList_eq, ByteArray.toList_eq]
  congr 1
  by_cases h : t.kind = 3
  · rw [h]; rfl
  · have h1 : ((t.kind : Int) == 3) = false := by simp; omega
    have h2 : (t.kind == 3) = false := by simp; omega
    rw [h1, h2]
theorem is_hc (t : Tok) (c : UInt8) (h : Hp) : HC Tryd.prog 72 #[.agg #[.int .i64 t.kind, .string t.text, .int .u32 t.num, .int .i64 t.at_], .string ⟨#[c]⟩] h fun v h' => v = .bool (isS t c) ∧ Ext h h' := by
  refine hcr_of (args := [.agg #[.int .i64 t.kind, .string t.text, .int .u32 t.num, .int .i64 t.at_], .string ⟨#[c]⟩]) mixed Tryd.func72 (by kernel_rfl) (t_line_is_eq _ _ _ _ _) ?_
  unfold t_line_is
  refine newB ?_
  intro h1 b1 e1 z1
  refine loads_box b1 ((t.kind : Int), ()) rfl ?_
  dsimp only [flat, unc, unc1, List.nil_append, List.cons_append]
  rw [← isS_val]
  refine cond_mk (fun g1 => ?_) (fun g1 => ?_)
  · rw [add_box]
    refine loads_box b1 (t.text, ()) rfl ?_
    exact ⟨by rw [g1]; rfl, e1⟩
  · exact ⟨by rw [g1]; rfl, e1⟩
theorem sign_hc (t : Tok) (c : UInt8) (h : Hp) : HC Tryd.prog 74 #[.agg #[.int .i64 t.kind, .string t.text, .int .u32 t.num, .int .i64 t.at_], .string ⟨#[c]⟩] h fun v h' => v = .bool (isS t c) ∧ Ext h h' := by
  refine hcr_of (args := [.agg #[.int .i64 t.kind, .string t.text, .int .u32 t.num, .int .i64 t.at_], .string ⟨#[c]⟩]) mixed Tryd.func74 (by kernel_rfl) (t_spandrelref3_sign_eq _ _ _ _ _) ?_
  unfold t_spandrelref3_sign
  refine newB ?_
  intro h1 b1 e1 z1
  refine loads_box b1 ((t.kind : Int), ()) rfl ?_
  dsimp only [flat, unc, unc1, List.nil_append, List.cons_append]
  rw [← isS_val]
  refine cond_mk (fun g1 => ?_) (fun g1 => ?_)
  · rw [add_box]
    refine loads_box b1 (t.text, ()) rfl ?_
    exact ⟨by rw [g1]; rfl, e1⟩
  · exact ⟨by rw [g1]; rfl, e1⟩
/-- A list of tokens in a heap. -/
structure In where
  p : Option Addr
  l : Nat
  c : Nat
  ts : List Tok
def In.val (a : In) : List Value := [.slice a.p a.l a.c]
/-- A list of lists of tokens; no two share a block. -/
structure Args (h : Hp) (b : Nat) (te es : TypeId) (p : Option Addr) (c : Nat) (al : List In) : Prop where
  out : SL h b te 1 p al.length c (al.map In.val)
  inn : ∀ a, a ∈ al → SL h b es 4 a.p a.l a.c (a.ts.map enc)
  po : ∀ a, a ∈ al → ∀ i, i ∈ blkOf a.p → i ∉ blkOf p
  pp : al.Pairwise fun a a' => ∀ i, i ∈ blkOf a.p → i ∉ blkOf a'.p
theorem Args.keep {ws : List Nat} {h h' : Hp} {b : Nat} {te es : TypeId} {p : Option Addr} {c : Nat} {al : List In} (A : Args h b te es p c al) (k : Ch ws h h') (h1 : ∀ i, i ∈ blkOf p → i ∉ ws) (h2 : ∀ a, a ∈ al → ∀ i, i ∈ blkOf a.p → i ∉ ws) : Args h' b te es p c al :=
  ⟨A.out.keep' k h1, fun a ha => (A.inn a ha).keep' k (h2 a ha), A.po, A.pp⟩
theorem Args.mono {h : Hp} {b b' : Nat} {te es : TypeId} {p : Option Addr} {c : Nat} {al : List In} (A : Args h b te es p c al) (hb : b' ≤ b) : Args h b' te es p c al :=
  ⟨A.out.mono hb, fun a ha => (A.inn a ha).mono hb, A.po, A.pp⟩
theorem Args.nil (h : Hp) (b : Nat) (te es : TypeId) : Args h b te es none 0 [] := ⟨SL.nil _ _ _ _, by simp, by simp, List.Pairwise.nil⟩
/-- One more list behind the others. -/
theorem Args.snoc {h h' : Hp} {b : Nat} {te es : TypeId} {p p' : Option Addr} {c c' : Nat} {al : List In} (A : Args h b te es p c al) {a : In} (hb : b ≤ h.size) (o : SL h' b te 1 p' (al.length + 1) c' (al.map In.val ++ [a.val])) (k : Ch (blkOf p) h h') (hp : p' = p ∨ ∃ x, p' = some x ∧ h.size ≤ x.block)
    (ha : SL h b es 4 a.p a.l a.c (a.ts.map enc)) (h1 : ∀ i, i ∈ blkOf a.p → i ∉ blkOf p) (h2 : ∀ x, x ∈ al → ∀ i, i ∈ blkOf x.p → i ∉ blkOf a.p) : Args h' b te es p' c' (al ++ [a]) := by
  have hp' : ∀ i, i ∈ blkOf p' → i ∈ blkOf p ∨ h.size ≤ i := by
    intro i hi
    rcases hp with rfl | ⟨x, rfl, hx⟩
    · exact .inl hi
    · simp [blkOf] at hi; right; omega
  refine ⟨by rw [List.length_append, List.map_append]; exact o, fun x hx => ?_, fun x hx i hi hh => ?_, List.pairwise_append.2 ⟨A.pp, by simp, fun x hx y hy i hi => ?_⟩⟩
  · rcases List.mem_append.1 hx with hx | hx
    · exact (A.inn x hx).keep' k fun i hi => A.po x hx i hi
    · have hx : x = a := by simpa using hx
      subst hx
      exact ha.keep' k h1
  · rcases List.mem_append.1 hx with hx | hx
    · rcases hp' i hh with h' | h'
      · exact A.po x hx i hi h'
      · have := ((A.inn x hx).blk hi).2; omega
    · have hx : x = a := by simpa using hx
      subst hx
      rcases hp' i hh with h' | h'
      · exact h1 i hi h'
      · have := (ha.blk hi).2; omega
  · have hy : y = a := by simpa using hy
    subst hy
    exact h2 x hx i hi
/-- The last list grows. -/
theorem Args.last {h h' h'' : Hp} {b : Nat} {te es : TypeId} {p : Option Addr} {c : Nat} {dn : List In} {a a' : In} (A : Args h b te es p c (dn ++ [a])) (ha : SL h' b es 4 a'.p a'.l a'.c (a'.ts.map enc)) (k : Ch (blkOf a.p) h h') (hp : a'.p = a.p ∨ ∃ x, a'.p = some x ∧ h.size ≤ x.block)
    (o : SL h'' b te 1 p (dn ++ [a]).length c (((dn ++ [a]).map In.val).set dn.length a'.val)) (k' : Ch (blkOf p) h' h'') : Args h'' b te es p c (dn ++ [a']) := by
  have hp' : ∀ i, i ∈ blkOf a'.p → i ∈ blkOf a.p ∨ h.size ≤ i := by
    intro i hi
    rcases hp with hp | ⟨x, hp, hx⟩
    · rw [hp] at hi; exact .inl hi
    · rw [hp] at hi; simp [blkOf] at hi; right; omega
  obtain ⟨A1, A2, A3, A4⟩ := A
  have hpp := List.pairwise_append.1 A4
  have hset : ((dn ++ [a]).map In.val).set dn.length a'.val = (dn ++ [a']).map In.val := by
    rw [List.map_append, List.map_append, List.set_append_right _ _ (by simp)]
    simp
  rw [hset] at o
  have pa : ∀ i, i ∈ blkOf a.p → i ∉ blkOf p := A3 a (by simp)
  have pa' : ∀ i, i ∈ blkOf a'.p → i ∉ blkOf p := by
    intro i hi hh
    rcases hp' i hi with h1 | h1
    · exact pa i h1 hh
    · have := (A1.blk hh).2; omega
  refine ⟨by simpa using o, fun x hx => ?_, fun x hx i hi => ?_, List.pairwise_append.2 ⟨hpp.1, by simp, fun x hx y hy i hi hh => ?_⟩⟩
  · rcases List.mem_append.1 hx with hx | hx
    · exact ((A2 x (by simp [hx])).keep' k fun i hi => hpp.2.2 x hx a (by simp) i hi).keep' k' fun i hi => A3 x (by simp [hx]) i hi
    · have hx : x = a' := by simpa using hx
      subst hx
      exact ha.keep' k' pa'
  · rcases List.mem_append.1 hx with hx | hx
    · exact A3 x (by simp [hx]) i hi
    · have hx : x = a' := by simpa using hx
      subst hx
      exact pa' i hi
  · have hy : y = a' := by simpa using hy
    subst hy
    rcases hp' i hh with h1 | h1
    · exact hpp.2.2 x hx a (by simp) i hi h1
    · have := ((A2 x (by simp [hx])).blk hi).2; omega
/-- Tokens that lie in a heap, to be read. -/
structure Vw (h : Hp) (p : Option Addr) (l c : Nat) (us : List Tok) : Prop where
  len : l = us.length
  cap : l ≤ c
  cells : ∀ i, (hi : i < us.length) → ∃ a, p = some a ∧ cellsAt h (a.add (i * 4)) 0 (enc us[i])
theorem Vw.keep {ws : List Nat} {h h' : Hp} {p : Option Addr} {l c : Nat} {us : List Tok} (v : Vw h p l c us) (k : Ch ws h h') (hw : ∀ i, i ∈ blkOf p → i ∉ ws) : Vw h' p l c us :=
  ⟨v.len, v.cap, fun i hi => by
    obtain ⟨a, ha, hc⟩ := v.cells i hi
    exact ⟨a, ha, cellsAt_keep k (by rw [add_block]; exact hw _ (by rw [ha]; simp [blkOf])) _ _ hc⟩⟩
theorem SL.vw {h : Hp} {b : Nat} {e : TypeId} {p : Option Addr} {l c : Nat} {us : List Tok} (s : SL h b e 4 p l c (us.map enc)) : Vw h p l c us := by
  refine ⟨by rw [s.1, List.length_map], ?_, fun i hi => ?_⟩
  · cases p with
    | none =>
      have h1 := s.1
      rw [s.2.2.2, List.length_nil] at h1
      omega
    | some a => obtain ⟨_, _, _, _, _, hh, _⟩ := s.2.2; exact hh.1
  · obtain ⟨a, ha, hc⟩ := s.cells (i := i) (by simpa using hi)
    rw [List.getElem_map] at hc
    exact ⟨a, ha, hc⟩
theorem add_add (a : Addr) (i j : Nat) : (a.add i).add j = a.add (i + j) := by
  unfold Addr.add
  by_cases hi : i = 0 <;> by_cases hj : j = 0 <;> simp [hi, hj] <;> omega
theorem Vw.drop {h : Hp} {p : Option Addr} {l c : Nat} {us : List Tok} (v : Vw h p l c us) {k : Nat} (hk : k ≤ l) : Vw h (if c = k then p else p.map fun a => a.add (k * 4)) (l - k) (c - k) (us.drop k) := by
  have := v.len
  have := v.cap
  refine ⟨by rw [List.length_drop]; omega, by omega, fun i hi => ?_⟩
  rw [List.length_drop] at hi
  rw [if_neg (by omega)]
  obtain ⟨a, rfl, hc⟩ := v.cells (k + i) (by omega)
  refine ⟨_, rfl, ?_⟩
  rw [add_add, ← Nat.add_mul, List.getElem_drop]
  exact hc
theorem blkOf_if (p : Option Addr) (c k n : Nat) : blkOf (if c = k then p else p.map fun a => a.add n) = blkOf p := by
  split
  · rfl
  · exact blkOf_add p n
def argsPost (n : Nat) (ts : List Tok) (h : Hp) (v : Value) (h' : Hp) : Prop :=
  Ext h h' ∧ match argsA n ts with
  | .error a => v = .tuple #[.slice none 0 0, .int .i64 a, .int .i64 20]
  | .ok l => ∃ p c al, v = .tuple #[.slice p al.length c, .int .i64 0, .int .i64 0] ∧ Args h' h.size 23 35 p c al ∧ al.map In.ts = l
abbrev argCs : List Comp := [(false, [.slice 0]), (false, [.int .i64]), (false, [.int .i64]), (false, [.slice 0]), (false, [.int .i64])]
def argI (n : Nat) (us : List Tok) (h : Hp) (x : HVs (flat argCs)) (m : Nat) (h' : Hp) : Prop :=
  ∃ (i : Nat) (dn : List In) (cu : In), x.2.2.2.2.1 = (i : Int) ∧ i ≤ us.length ∧ m = us.length - i ∧ Ext h h' ∧ x.2.2.2.1.2.1 = dn.length + 1 ∧ Args h' h.size 23 35 x.2.2.2.1.1 x.2.2.2.1.2.2 (dn ++ [cu]) ∧
    argsS n us [] [] = argsS n (us.drop i) (dn.map In.ts) cu.ts ∧ dn.length ≤ i ∧ cu.ts.length ≤ i
theorem tokZ : (Tryd.prog.info? 35).map (fun i => (i.zero, i.size, i.bytes)) = some (some (.agg #[.int .i64 0, .string ⟨#[]⟩, .int .u32 0, .int .i64 0]), 4, 40) := by kernel_rfl
theorem slZ : (Tryd.prog.info? 23).map (fun i => (i.zero, i.size, i.bytes)) = some (some (.slice none 0 0), 1, 24) := by kernel_rfl
theorem und38 : Tryd.prog.underlying 38 = some (.slice 23) := by kernel_rfl
theorem und23 : Tryd.prog.underlying 23 = some (.slice 35) := by kernel_rfl
theorem arguments_hc (s : ByteArray) {h : Hp} {pp : Option Addr} {ll cc : Nat} {us : List Tok} (hu : us.length ≤ 2 ^ 40) (sl : Vw h pp ll cc us) :
    HC Tryd.prog 73 #[.string s, .slice pp ll cc] h (argsPost s.size us h) := by
  refine hcr_of (args := [.string s, .slice pp ll cc]) mixed Tryd.func73 (by kernel_rfl) (t_line_arguments_eq s pp ll cc) ?_
  unfold t_line_arguments
  have hll : ll = us.length := sl.len
  refine cond_mk (fun g1 => ?_) (fun g1 => ?_)
  · have g1 : (ll : Int) = 0 := eq_of_beq g1
    have : us = [] := List.eq_nil_of_length_eq_zero (by omega)
    subst this
    exact ⟨Ch.refl _ _, none, 0, [], rfl, Args.nil _ _ _ _, rfl⟩
  have g1 : (ll : Int) ≠ 0 := ne_of_beq_false g1
  have hne : us ≠ [] := fun hh => by rw [hh] at hll; simp at hll; omega
  refine lit_of (e := 23) (cells := [.slice none 0 0]) und38 slZ (by omega) (by omega) (by kernel_rfl) ?_
  intro h1 b1 e1 z1
  have A1 : Args h1 h.size 23 35 (some ⟨h.size, 0, none⟩) 1 ([] ++ [⟨none, 0, 0, []⟩]) := by
    refine ⟨⟨rfl, by simp [In.val], h.size, [], [], rfl, Nat.le_refl _, ⟨by simp, by omega⟩, ?_, rfl⟩, ?_, ?_, by simp⟩
    · simpa [In.val] using b1
    · intro a ha
      have ha : a = ⟨none, 0, 0, []⟩ := by simpa using ha
      subst ha
      exact SL.nil _ _ _ _
    · intro a ha i hi
      have ha : a = ⟨none, 0, 0, []⟩ := by simpa using ha
      subst ha
      simp [blkOf] at hi
  refine loop_of (cs := argCs) (argI s.size us h) ((none, 0, 0), (0 : Int), (0 : Int), (some ⟨h.size, 0, none⟩, 1, 1), (0 : Int), ()) us.length rfl
    ⟨0, [], ⟨none, 0, 0, []⟩, rfl, by omega, by omega, e1, rfl, A1, rfl, by simp, by simp⟩ ?_
  clear A1 b1 e1 z1 h1
  rintro ⟨⟨p5, l6, l7⟩, n8, n9, ⟨p10, l11, l12⟩, n13, ⟨⟩⟩ m h2 ⟨i, dn, cu, hi, hile, rfl, e2, hl11, A, hrec, hdn, hcu⟩
  simp only at hi hl11 A
  subst hi hl11
  dsimp only [argCs, flat, unc, unc1, List.nil_append, List.cons_append]
  have hlen : (dn ++ [cu]).length = dn.length + 1 := by simp
  have hwl : IntKind.wrap .i64 (((dn.length + 1 : Nat) : Int) - 1) = (dn.length : Int) := by rw [wrap_i64 (by omega) (by omega)]; omega
  rw [hwl]
  have hlast : ∀ {hh : Hp} {p' : Option Addr} {c' : Nat}, Args hh h.size 23 35 p' c' (dn ++ [cu]) → ∃ a, p' = some a ∧ cellsAt hh (a.add (dn.length * 1)) 0 [.slice cu.p cu.l cu.c] := by
    intro hh p' c' A'
    obtain ⟨a, ha, hc⟩ := A'.out.cells (i := dn.length) (by simp)
    refine ⟨a, ha, ?_⟩
    have : ((dn ++ [cu]).map In.val)[dn.length]'(by simp) = [.slice cu.p cu.l cu.c] := by simp [In.val]
    rw [this] at hc
    exact hc
  have hcul : cu.l = cu.ts.length := by have := (A.inn cu (by simp)).1; rw [this, List.length_map]
  refine cond_mk (fun g2 => ?_) (fun g2 => ?_)
  · have g2 := of_decide_eq_true g2
    have hlt : i < us.length := by omega
    obtain ⟨a, rfl, hcell⟩ := (sl.keep e2 (by simp)).cells i hlt
    have hdr : us.drop i = us[i] :: us.drop (i + 1) := List.drop_eq_getElem_cons hlt
    rw [hdr] at hrec
    generalize us[i] = t at hcell hrec
    refine need_of ⟨by omega, by omega⟩ (osome_mk rfl ?_)
    rw [show Int.toNat (i : Int) = i by omega]
    refine loads_of ((t.kind : Int), t.text, (t.num : Int), (t.at_ : Int), ()) hcell ?_
    dsimp only [flat, unc, unc1, List.nil_append, List.cons_append]
    refine newB ?_
    intro h3 b3 e3 z3
    refine stores_of b3 rfl (by simp) ?_
    intro h4 b4 k4 z4
    have b4 : Box h4 h2.size 35 (enc t) := b4
    have e24 : Ext h2 h4 := Ch.trans e3 k4 (fun j hj hjl => by simp at hj; omega)
    have A4 := A.keep e24 (by simp) (by simp)
    have hld : ∀ {hh : Hp} {L : Lp} {K : Value → Hp → Prop} {kk : Int → ByteArray → Int → Int → T}, Ext h4 hh → kk t.kind t.text t.num t.at_ L K hh → T.loads (⟨h2.size, 0, none⟩ : Addr) [.int .i64, .string, .int .u32, .int .i64] kk L K hh := by
      intro hh L K kk e hk
      exact loads_box (b4.keep e (by simp)) ((t.kind : Int), t.text, (t.num : Int), (t.at_ : Int), ()) rfl hk
    refine join_of (cs := [(false, [.bool])]) (fun y h' => y.1 = (isS t 58 || (isS t 44 && decide (cu.ts = []))) ∧ Ext h4 h') ?_ ?_
    · refine hld (Ch.refl _ _) ?_
      refine call_boolx (is_hc t 58 h4) ?_
      intro h5 e5
      refine cond_mk (fun g3 => ?_) (fun g3 => ?_)
      · exact meet_mk (cs := [(false, [.bool])]) (true, ()) rfl rfl ⟨by rw [g3]; rfl, e5⟩
      · refine hld e5 ?_
        refine call_boolx (is_hc t 44 h5) ?_
        intro h6 e6
        refine cond_mk (fun g4 => ?_) (fun g4 => ?_)
        · obtain ⟨a', ha', hc'⟩ := hlast (A4.keep (e5.trans e6) (by simp) (by simp))
          refine need_of ⟨by omega, by omega⟩ (osome_mk ha' ?_)
          rw [show Int.toNat (dn.length : Int) = dn.length by omega]
          refine loads_of ((cu.p, cu.l, cu.c), ()) hc' ?_
          dsimp only [flat, unc, unc1, List.nil_append, List.cons_append]
          refine meet_mk (cs := [(false, [.bool])]) (((cu.l : Int) == 0), ()) rfl rfl ⟨?_, e5.trans e6⟩
          show ((cu.l : Int) == 0) = _
          rw [g3, g4, Bool.false_or, Bool.true_and, hcul]
          by_cases hh : cu.ts = []
          · rw [hh]; rfl
          · have : cu.ts.length ≠ 0 := fun h0 => hh (List.eq_nil_of_length_eq_zero h0)
            rw [decide_eq_false hh]
            simp only [beq_eq_false_iff_ne, ne_eq]
            omega
        · exact meet_mk (cs := [(false, [.bool])]) (false, ()) rfl rfl ⟨by rw [g3, g4]; rfl, e5.trans e6⟩
    · rintro ⟨b20, ⟨⟩⟩ h5 ⟨hb20, e5⟩
      simp only at hb20
      subst hb20
      dsimp only [flat, unc, unc1, List.nil_append, List.cons_append]
      have e25 := e2.trans (e24.trans e5)
      refine cond_mk (fun g3 => ?_) (fun g3 => ?_)
      · rw [add_box]
        refine loads_box (b4.keep e5 (by simp)) ((t.at_ : Int), ()) rfl ?_
        refine ⟨⟨(b4.keep e5 (by simp)).cells _ rfl, trivial⟩, ?_⟩
        refine ⟨e25, ?_⟩
        have : argsA s.size us = .error t.at_ := by
          unfold argsA
          rw [if_neg hne, hrec]
          unfold argsS
          rw [if_pos g3]
        rw [this]
      · rw [show argsS s.size (t :: us.drop (i + 1)) (dn.map In.ts) cu.ts = if isS t 44 = true then argsS s.size (us.drop (i + 1)) (dn.map In.ts ++ [cu.ts]) [] else argsS s.size (us.drop (i + 1)) (dn.map In.ts) (cu.ts ++ [t]) by
          conv => lhs; unfold argsS
          rw [if_neg (by rw [g3]; simp)]] at hrec
        refine hld e5 ?_
        refine call_boolx (is_hc t 44 h5) ?_
        intro h6 e6
        have hw : IntKind.wrap .i64 ((i : Int) + 1) = ((i + 1 : Nat) : Int) := by rw [wrap_i64 (by omega) (by omega)]; omega
        have A6 := A4.keep (e5.trans e6) (by simp) (by simp)
        have e26 : Ext h h6 := e25.trans e6
        have hs6 := e26.size
        refine cond_mk (fun g4 => ?_) (fun g4 => ?_)
        · rw [if_pos g4] at hrec
          refine push_of (e := 23) (vs := [.slice none 0 0]) und38 slZ rfl (by omega) (by omega) (by kernel_rfl) rfl rfl (by rw [← hlen]; exact A6.out) hs6 (by omega) (by omega) ?_
          intro p' c' h7 o7 k7 hp7
          refine again_mk (cs := argCs) ((p5, l6, l7), n8, n9, (p', dn.length + 1 + 1, c'), ((i + 1 : Nat) : Int), ()) (us.length - (i + 1)) rfl (by omega) (by rw [hw]; rfl) ?_
          refine ⟨i + 1, dn ++ [cu], ⟨none, 0, 0, []⟩, rfl, by omega, rfl, ?_, by simp, A6.snoc hs6 (by rw [hlen]; exact o7) k7 hp7 (SL.nil _ _ _ _) (by simp [blkOf]) (by simp [blkOf]), ?_, by simp; omega, by simp⟩
          · exact Ch.trans e26 k7 (fun j hj hjl => by have := (A6.out.blk hj).1; omega)
          · rw [hrec, List.map_append]; rfl
        · rw [if_neg (by rw [g4]; simp)] at hrec
          obtain ⟨a', rfl, hc'⟩ := hlast A6
          refine need_of ⟨by omega, by omega⟩ (osome_mk rfl ?_)
          rw [show Int.toNat (dn.length : Int) = dn.length by omega]
          refine loads_of ((cu.p, cu.l, cu.c), ()) hc' ?_
          dsimp only [flat, unc, unc1, List.nil_append, List.cons_append]
          refine hld (e5.trans e6) ?_
          have ab : a'.block ∈ blkOf (some a') := by simp [blkOf]
          refine push_st (e := 35) (vs := enc t) und23 tokZ rfl (by omega) (by omega) (by kernel_rfl) rfl rfl (A6.inn cu (by simp)) hs6 (by omega) (by omega) (fun h' e => ⟨cellsAt_keep e (by simp) _ _ hc', trivial⟩) ?_
          intro p7 c7 h7 o7 k7 hp7
          have hch7 : h2.size ∉ blkOf cu.p := fun hh => by have := ((A.inn cu (by simp)).blk hh).2; omega
          refine ⟨⟨((b4.keep (e5.trans e6) (by simp)).keep k7 hch7).cells _ rfl, trivial⟩, ?_⟩
          refine need_of ⟨by omega, by omega⟩ (osome_mk rfl ?_)
          have o6 := A6.out.keep' k7 (fun j hj hh => A6.po cu (by simp) j hh hj)
          refine o6.store (P := Tryd.prog) (i := dn.length) (by simp) (vs := [.slice p7 (cu.l + 1) c7]) rfl rfl rfl ?_
          intro h8 o8 k8 z8
          refine again_mk (cs := argCs) ((p5, l6, l7), n8, n9, (some a', dn.length + 1, l12), ((i + 1 : Nat) : Int), ()) (us.length - (i + 1)) rfl (by omega) (by rw [hw]; rfl) ?_
          refine ⟨i + 1, dn, ⟨p7, cu.l + 1, c7, cu.ts ++ [t]⟩, rfl, by omega, rfl, ?_, rfl, ?_, hrec, by omega, by simp; omega⟩
          · refine Ch.trans (Ch.trans e26 k7 (fun j hj hjl => by have := ((A6.inn cu (by simp)).blk hj).1; omega)) k8 (fun j hj hjl => by have := (A6.out.blk hj).1; omega)
          · exact A6.last (a' := ⟨p7, cu.l + 1, c7, cu.ts ++ [t]⟩) (by rw [List.map_append]; exact o7) k7 hp7 o8 k8
  · have g2 := of_decide_eq_false g2
    have hi : i = us.length := by omega
    subst hi
    rw [List.drop_length] at hrec
    obtain ⟨a', rfl, hc'⟩ := hlast A
    refine need_of ⟨by omega, by omega⟩ (osome_mk rfl ?_)
    rw [show Int.toNat (dn.length : Int) = dn.length by omega]
    refine loads_of ((cu.p, cu.l, cu.c), ()) hc' ?_
    dsimp only [flat, unc, unc1, List.nil_append, List.cons_append]
    have hA : argsA s.size us = if cu.ts = [] then .error s.size else .ok (dn.map In.ts ++ [cu.ts]) := by
      unfold argsA
      rw [if_neg hne, hrec]
      rfl
    refine cond_mk (fun g3 => ?_) (fun g3 => ?_)
    · have g3 : (cu.l : Int) = 0 := eq_of_beq g3
      refine ⟨e2, ?_⟩
      rw [hA, if_pos (List.eq_nil_of_length_eq_zero (by omega))]
    · have g3 : (cu.l : Int) ≠ 0 := ne_of_beq_false g3
      refine ⟨e2, ?_⟩
      rw [hA, if_neg (fun hh => by rw [hh] at hcul; simp at hcul; omega)]
      exact ⟨some a', l12, dn ++ [cu], by rw [hlen], A, by simp⟩
end Go.Sx
