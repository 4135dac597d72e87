/- Plain laws: blanks ahead and a remark behind change nothing but places. No condition. -/
import Derived.Test.YtpbjlnlekobodaaDoorLineA
set_option linter.unusedVariables false
set_option linter.unusedSimpArgs false
set_option linter.deprecated false
set_option maxRecDepth 100000
namespace Go.Sx
open Go.Proofs
theorem rowN_append0 {set D E : List UInt8} (hE : rowN E set = 0) : rowN (D ++ E) set = rowN D set := by
  rcases Nat.lt_or_ge (rowN D set) D.length with h | h
  · exact rowN_append_lt h
  · have := rowN_le D set
    rw [rowN_append_all (by omega), hE]; omega
theorem numL_append {D E : List UInt8} (hE : rowN E gluedL = 0) : numL (D ++ E) = numL D := by
  have h2 : (D ++ E).take 2 = [48, 120] ↔ D.take 2 = [48, 120] := by
    match D with
    | [] =>
      simp only [List.nil_append, List.take_nil]
      constructor
      · intro hh
        cases E with
        | nil => simp at hh
        | cons c E =>
          have := rowN_zero.1 hE c E rfl
          simp at hh
          rw [hh.1] at this
          exfalso; revert this; decide +kernel
      · intro hh; cases hh
    | [d] =>
      cases E with
      | nil => simp
      | cons c E =>
        have := rowN_zero.1 hE c E rfl
        constructor
        · intro hh
          simp at hh
          rw [hh.2] at this
          exfalso; revert this; decide +kernel
        · intro hh; simp at hh
    | d :: d' :: D => simp
  have hs : rowN (D ++ E) digitsL = rowN D digitsL := rowN_append0 (rowN_digits0 hE)
  have hr := rowN_le D digitsL
  by_cases h1 : D.take 2 = [48, 120]
  · have hlen : 2 ≤ D.length := by
      have := congrArg List.length h1
      rw [List.length_take] at this
      simp at this; omega
    have hd : (D ++ E).drop 2 = D.drop 2 ++ E := List.drop_append_of_le_length hlen
    have hh : rowN (D.drop 2 ++ E) hexesL = rowN (D.drop 2) hexesL := rowN_append0 (rowN_hexes0 hE)
    have hr2 := rowN_le (D.drop 2) hexesL
    unfold numL
    rw [if_pos (h2.2 h1), if_pos h1, hd, hh, List.take_append_of_le_length hr2]
  · unfold numL
    rw [if_neg (fun hh => h1 (h2.1 hh)), if_neg h1, hs, List.take_append_of_le_length hr]
    by_cases h3 : 1 < rowN D digitsL
    · have : (D ++ E).getD 0 0 = D.getD 0 0 := by
        cases D with
        | nil => simp at hr; omega
        | cons d D => rfl
      rw [this]
    · have e1 : (1 < rowN D digitsL ∧ (D ++ E).getD 0 0 = 48) ↔ (1 < rowN D digitsL ∧ D.getD 0 0 = 48) := by
        constructor <;> exact fun hh => (h3 hh.1).elim
      simp only [e1]
/-- What is wrong stays wrong before a remark. -/
theorem lexD_wrong {D u : List UInt8} (h : lexD D = .wrong) : lexD (D ++ (32 :: 59 :: u)) = .wrong := by
  have hE : rowN ((32 : UInt8) :: 59 :: u) gluedL = 0 := rfl
  cases D with
  | nil => cases h
  | cons d D =>
    have e0 : lexD ((d :: D) ++ (32 :: 59 :: u)) = (if d = 59 then .stop
      else if isLet d = true then
        if 32 < rowN ((d :: D) ++ (32 :: 59 :: u)) gluedL then .wrong else .tok 1 (rowN ((d :: D) ++ (32 :: 59 :: u)) gluedL) 0
      else if isDig d = true then
        if (numL ((d :: D) ++ (32 :: 59 :: u))).1 = 0 ∨ 0 < rowN (((d :: D) ++ (32 :: 59 :: u)).drop (numL ((d :: D) ++ (32 :: 59 :: u))).1) gluedL then .wrong else .tok 2 (numL ((d :: D) ++ (32 :: 59 :: u))).1 (numL ((d :: D) ++ (32 :: 59 :: u))).2
      else if d = 39 then
        if ((d :: D) ++ (32 :: 59 :: u)).length < 3 ∨ (((d :: D) ++ (32 :: 59 :: u)).getD 1 0).toNat < 32 ∨ 126 < (((d :: D) ++ (32 :: 59 :: u)).getD 1 0).toNat ∨ ((d :: D) ++ (32 :: 59 :: u)).getD 1 0 = 39 ∨ ((d :: D) ++ (32 :: 59 :: u)).getD 2 0 ≠ 39 then .wrong
        else .tok 2 3 (((d :: D) ++ (32 :: 59 :: u)).getD 1 0).toNat
      else if signsL.contains d = true then .tok 3 1 0
      else .wrong) := rfl
    rw [e0, rowN_append0 hE, numL_append hE]
    unfold lexD at h
    rw [if_neg (by simp), List.getD_cons_zero] at h
    by_cases h1 : d = 59
    · rw [if_pos h1] at h; cases h
    rw [if_neg h1] at h ⊢
    by_cases h2 : isLet d = true
    · rw [if_pos h2] at h ⊢
      by_cases h3 : 32 < rowN (d :: D) gluedL
      · rw [if_pos h3]
      · rw [if_neg h3] at h; cases h
    rw [if_neg h2] at h ⊢
    by_cases h3 : isDig d = true
    · rw [if_pos h3] at h ⊢
      by_cases h4 : (numL (d :: D)).1 = 0 ∨ 0 < rowN ((d :: D).drop (numL (d :: D)).1) gluedL
      · have hl := (numL_le (d :: D)).1
        rw [List.drop_append_of_le_length hl, rowN_append0 hE, if_pos h4]
      · rw [if_neg h4] at h; cases h
    rw [if_neg h3] at h ⊢
    by_cases h4 : d = 39
    · rw [if_pos h4] at h ⊢
      match D with
      | [] => rw [if_pos (.inr (.inr (.inr (.inr (by simp)))))]
      | [x] => rw [if_pos (.inr (.inr (.inr (.inr (by simp)))))]
      | x :: y :: D =>
        by_cases h5 : (d :: x :: y :: D).length < 3 ∨ ((d :: x :: y :: D).getD 1 0).toNat < 32 ∨ 126 < ((d :: x :: y :: D).getD 1 0).toNat ∨ (d :: x :: y :: D).getD 1 0 = 39 ∨ (d :: x :: y :: D).getD 2 0 ≠ 39
        · rcases h5 with h5 | h5
          · simp at h5; omega
          · rw [if_pos (.inr h5)]
        · rw [if_neg h5] at h; cases h
    rw [if_neg h4] at h ⊢
    by_cases h5 : signsL.contains d = true
    · rw [if_pos h5] at h; cases h
    · rw [if_neg h5]
/-- From a place on the first wrong byte stands there. -/
inductive Wr (s : ByteArray) : Nat → Nat → Prop where
  | here (k : Nat) : k ≤ s.size → lexD (s.data.toList.drop (k + rowN (s.data.toList.drop k) blanksL)) = .wrong → Wr s k (k + rowN (s.data.toList.drop k) blanksL)
  | tok (k kind n m a : Nat) : k ≤ s.size → lexD (s.data.toList.drop (k + rowN (s.data.toList.drop k) blanksL)) = .tok kind n m → Wr s (k + rowN (s.data.toList.drop k) blanksL + n) a → Wr s k a
theorem wr_lexF {s : ByteArray} {k a : Nat} (h : Wr s k a) : ∀ (f : Nat) (acc : List Tok), s.size - k < f → lexF s f k acc = ([], a, 20) := by
  have hsz : s.data.toList.length = s.size := by simp
  induction h with
  | here k hk hD =>
    intro f acc hf
    obtain ⟨f, rfl⟩ : ∃ f', f = f' + 1 := ⟨f - 1, by omega⟩
    have hst := lexStep_lexD hk
    rw [hD] at hst
    exact lexF_wrong hst
  | tok k kind n m a hk hD hc ih =>
    intro f acc hf
    obtain ⟨f, rfl⟩ : ∃ f', f = f' + 1 := ⟨f - 1, by omega⟩
    have hst := lexStep_lexD hk
    rw [hD] at hst
    obtain ⟨h1, h2⟩ := lexD_pos hD
    have ha := blank_le hk
    rw [List.length_drop] at h2
    rw [lexF_tok hst, ih f _ (by omega)]
theorem lexF_or {s : ByteArray} : ∀ (f k : Nat) (acc : List Tok), k ≤ s.size → s.size - k < f → (∃ ts, Chain s k ts) ∨ ∃ a, Wr s k a
  | 0, k, acc, hk, hf => by omega
  | f + 1, k, acc, hk, hf => by
    have ha := blank_le hk
    have hsz : s.data.toList.length = s.size := by simp
    cases hD : lexD (s.data.toList.drop (k + rowN (s.data.toList.drop k) blanksL)) with
    | stop => exact .inl ⟨_, .stop k hk hD⟩
    | wrong => exact .inr ⟨_, .here k hk hD⟩
    | tok kind n m =>
      obtain ⟨h1, h2⟩ := lexD_pos hD
      rw [List.length_drop] at h2
      rcases lexF_or (s := s) f (k + rowN (s.data.toList.drop k) blanksL + n) [] (by omega) (by omega) with ⟨ts, hc⟩ | ⟨a, hw⟩
      · exact .inl ⟨_, .tok k kind n m ts hk hD hc⟩
      · exact .inr ⟨a, .tok k kind n m a hk hD hw⟩
theorem lexS_or (s : ByteArray) : (∃ ts, Chain s 0 ts ∧ lexS s = (ts, 0, 0)) ∨ ∃ a, Wr s 0 a ∧ lexS s = ([], a, 20) := by
  rcases lexF_or (s := s) (s.size + 1) 0 [] (by omega) (by omega) with ⟨ts, hc⟩ | ⟨a, hw⟩
  · exact .inl ⟨ts, hc, chain_lexS hc⟩
  · exact .inr ⟨a, hw, wr_lexF hw _ _ (by omega)⟩
theorem wr_append {s s' : ByteArray} {u : List UInt8} (hs' : s'.data.toList = s.data.toList ++ (32 :: 59 :: u)) {k a : Nat} (h : Wr s k a) : Wr s' k a := by
  have hsz : s.data.toList.length = s.size := by simp
  have hsz' : s'.size = s.size + (u.length + 2) := by
    have := congrArg List.length hs'
    simp at this; omega
  have main : ∀ k, k ≤ s.size → lexD (s.data.toList.drop (k + rowN (s.data.toList.drop k) blanksL)) ≠ .stop → rowN (s'.data.toList.drop k) blanksL = rowN (s.data.toList.drop k) blanksL := by
    intro k hk hD
    have hr := rowN_le (s.data.toList.drop k) blanksL
    have hlt : rowN (s.data.toList.drop k) blanksL < (s.data.toList.drop k).length := by
      rcases Nat.lt_or_ge (rowN (s.data.toList.drop k) blanksL) (s.data.toList.drop k).length with h | h
      · exact h
      · rw [List.length_drop] at h
        rw [List.drop_eq_nil_of_le (by omega)] at hD
        exact (hD rfl).elim
    rw [hs', List.drop_append_of_le_length (by omega), rowN_append_lt hlt]
  induction h with
  | here k hk hD =>
    have e1 := main k hk (by rw [hD]; simp)
    have ha := blank_le hk
    have := Wr.here (s := s') k (by omega) (by
      rw [e1, hs', List.drop_append_of_le_length (by omega)]
      exact lexD_wrong hD)
    rw [e1] at this
    exact this
  | tok k kind n m a hk hD hc ih =>
    have e1 := main k hk (by rw [hD]; simp)
    obtain ⟨h1, h2⟩ := lexD_pos hD
    have ha := blank_le hk
    rw [List.length_drop] at h2
    refine Wr.tok k kind n m a (by omega) ?_ (by rw [e1]; exact ih)
    rw [e1, hs', List.drop_append_of_le_length (by omega)]
    conv => lhs; rw [← List.take_append_drop n (s.data.toList.drop _), List.append_assoc]
    exact (lexD_local hD (rowN_glued_append rfl)).1
/-- A token some places on. -/
def sh (n : Nat) (t : Tok) : Tok := ⟨t.kind, t.text, t.num, t.at_ + n⟩
theorem shift_drop {s s' : ByteArray} {P : List UInt8} (hs' : s'.data.toList = P ++ s.data.toList) (k : Nat) : s'.data.toList.drop (k + P.length) = s.data.toList.drop k := by
  rw [hs', Nat.add_comm, ← List.drop_drop, List.drop_left]
theorem chain_shift {s s' : ByteArray} {P : List UInt8} (hs' : s'.data.toList = P ++ s.data.toList) {k : Nat} {ts : List Tok} (h : Chain s k ts) : Chain s' (k + P.length) (ts.map (sh P.length)) := by
  have hd := shift_drop hs'
  have hsz' : s'.size = s.size + P.length := by
    have := congrArg List.length hs'
    simp at this; omega
  induction h with
  | stop k hk hD =>
    refine .stop _ (by omega) ?_
    rw [hd, show k + P.length + rowN (s.data.toList.drop k) blanksL = k + rowN (s.data.toList.drop k) blanksL + P.length by omega, hd]
    exact hD
  | tok k kind n m ts hk hD hc ih =>
    have e1 : k + P.length + rowN (s'.data.toList.drop (k + P.length)) blanksL = k + rowN (s.data.toList.drop k) blanksL + P.length := by rw [hd]; omega
    have := Chain.tok (s := s') (k + P.length) kind n m (ts.map (sh P.length)) (by omega) (by rw [e1, hd]; exact hD) (by rw [e1, show k + rowN (s.data.toList.drop k) blanksL + P.length + n = k + rowN (s.data.toList.drop k) blanksL + n + P.length by omega]; exact ih)
    rw [e1] at this
    have e2 : s'.extract (k + rowN (s.data.toList.drop k) blanksL + P.length) (k + rowN (s.data.toList.drop k) blanksL + P.length + n) = s.extract (k + rowN (s.data.toList.drop k) blanksL) (k + rowN (s.data.toList.drop k) blanksL + n) := by
      refine ba_ext ?_
      rw [ext_list, ext_list, hd]
      congr 1
      omega
    rw [e2] at this
    exact this
theorem wr_shift {s s' : ByteArray} {P : List UInt8} (hs' : s'.data.toList = P ++ s.data.toList) {k a : Nat} (h : Wr s k a) : Wr s' (k + P.length) (a + P.length) := by
  have hd := shift_drop hs'
  have hsz' : s'.size = s.size + P.length := by
    have := congrArg List.length hs'
    simp at this; omega
  induction h with
  | here k hk hD =>
    have e1 : k + P.length + rowN (s'.data.toList.drop (k + P.length)) blanksL = k + rowN (s.data.toList.drop k) blanksL + P.length := by rw [hd]; omega
    have := Wr.here (s := s') (k + P.length) (by omega) (by rw [e1, hd]; exact hD)
    rw [e1] at this
    exact this
  | tok k kind n m a hk hD hc ih =>
    have e1 : k + P.length + rowN (s'.data.toList.drop (k + P.length)) blanksL = k + rowN (s.data.toList.drop k) blanksL + P.length := by rw [hd]; omega
    exact Wr.tok (k + P.length) kind n m _ (by omega) (by rw [e1, hd]; exact hD) (by rw [e1, show k + rowN (s.data.toList.drop k) blanksL + P.length + n = k + rowN (s.data.toList.drop k) blanksL + n + P.length by omega]; exact ih)
/-- Blanks ahead. -/
theorem chain_blanks {s : ByteArray} {k : Nat} {ts : List Tok} (hk : k ≤ s.size) (hb : rowN s.data.toList blanksL = k + rowN (s.data.toList.drop k) blanksL) (h : Chain s k ts) : Chain s 0 ts := by
  have e : 0 + rowN (s.data.toList.drop 0) blanksL = k + rowN (s.data.toList.drop k) blanksL := by rw [List.drop_zero, hb, Nat.zero_add]
  cases h with
  | stop _ _ hD => exact .stop 0 (by omega) (by rw [e]; exact hD)
  | tok _ kind n m ts _ hD hc =>
    have := Chain.tok (s := s) 0 kind n m ts (by omega) (by rw [e]; exact hD) (by rw [e]; exact hc)
    rw [e] at this
    exact this
theorem wr_blanks {s : ByteArray} {k a : Nat} (hk : k ≤ s.size) (hb : rowN s.data.toList blanksL = k + rowN (s.data.toList.drop k) blanksL) (h : Wr s k a) : Wr s 0 a := by
  have e : 0 + rowN (s.data.toList.drop 0) blanksL = k + rowN (s.data.toList.drop k) blanksL := by rw [List.drop_zero, hb, Nat.zero_add]
  cases h with
  | here _ _ hD =>
    have := Wr.here (s := s) 0 (by omega) (by rw [e]; exact hD)
    rw [e] at this
    exact this
  | tok _ kind n m _ _ hD hc => exact Wr.tok (s := s) 0 kind n m a (by omega) (by rw [e]; exact hD) (by rw [e]; exact hc)
theorem isS_sh (n : Nat) (t : Tok) (c : UInt8) : isS (sh n t) c = isS t c := rfl
theorem argsS_sh (d n n' : Nat) : ∀ (ts : List Tok) (done : List (List Tok)) (cur : List Tok),
    (∃ r, argsS n ts done cur = .ok r ∧ argsS n' (ts.map (sh d)) (done.map (List.map (sh d))) (cur.map (sh d)) = .ok (r.map (List.map (sh d)))) ∨
    ∃ a a', argsS n ts done cur = .error a ∧ argsS n' (ts.map (sh d)) (done.map (List.map (sh d))) (cur.map (sh d)) = .error a' ∧ (a' = a + d ∨ (a = n ∧ a' = n'))
  | [], done, cur => by
    simp only [List.map_nil, argsS, List.map_eq_nil_iff]
    by_cases h : cur = []
    · rw [if_pos h, if_pos h]
      exact .inr ⟨_, _, rfl, rfl, .inr ⟨rfl, rfl⟩⟩
    · rw [if_neg h, if_neg h]
      exact .inl ⟨_, rfl, by simp⟩
  | t :: ts, done, cur => by
    have hdec : decide (cur.map (sh d) = []) = decide (cur = []) := by simp
    simp only [List.map_cons, argsS]
    by_cases h1 : (isS t 58 || (isS t 44 && decide (cur = []))) = true
    · rw [if_pos h1, if_pos (show (isS (sh d t) 58 || (isS (sh d t) 44 && decide (cur.map (sh d) = []))) = true by rw [hdec]; exact h1)]
      exact .inr ⟨_, _, rfl, rfl, .inl rfl⟩
    · rw [if_neg h1, if_neg (show ¬ (isS (sh d t) 58 || (isS (sh d t) 44 && decide (cur.map (sh d) = []))) = true by rw [hdec]; exact h1)]
      by_cases h2 : isS t 44 = true
      · rw [if_pos h2, if_pos (show isS (sh d t) 44 = true from h2)]
        have := argsS_sh d n n' ts (done ++ [cur]) []
        simpa using this
      · rw [if_neg h2, if_neg (show ¬ isS (sh d t) 44 = true from h2)]
        have := argsS_sh d n n' ts done (cur ++ [t])
        simpa using this
/-- Two lines that differ by blanks ahead and a remark behind. -/
def Spaced (d n n' : Nat) (r r' : Ln × Nat × Nat) : Prop :=
  (r.2.2 = 0 ∧ r'.2.2 = 0 ∧ r'.1.label = r.1.label ∧ r'.1.op = r.1.op ∧ r'.1.args = r.1.args.map (List.map (sh d))) ∨ (r.2.2 = 20 ∧ r'.2.2 = 20 ∧ (r'.2.1 = r.2.1 + d ∨ (r.2.1 = n ∧ r'.2.1 = n')))
theorem parseT_sh (d n n' : Nat) (lb : ByteArray) (us : List Tok) : Spaced d n n' (parseT n lb us) (parseT n' lb (us.map (sh d))) := by
  cases us with
  | nil => exact .inl ⟨rfl, rfl, rfl, rfl, rfl⟩
  | cons t us =>
    simp only [List.map_cons, parseT]
    by_cases h : t.kind ≠ 1
    · rw [if_pos h, if_pos (show (sh d t).kind ≠ 1 from h)]
      exact .inr ⟨rfl, rfl, .inl rfl⟩
    · rw [if_neg h, if_neg (show ¬ (sh d t).kind ≠ 1 from h)]
      have hA : (∃ r, argsA n us = .ok r ∧ argsA n' (us.map (sh d)) = .ok (r.map (List.map (sh d)))) ∨ ∃ a a', argsA n us = .error a ∧ argsA n' (us.map (sh d)) = .error a' ∧ (a' = a + d ∨ (a = n ∧ a' = n')) := by
        unfold argsA
        simp only [List.map_eq_nil_iff]
        by_cases h2 : us = []
        · rw [if_pos h2, if_pos h2]
          exact .inl ⟨_, rfl, rfl⟩
        · rw [if_neg h2, if_neg h2]
          have := argsS_sh d n n' us [] []
          simpa using this
      rcases hA with ⟨r, h1, h2⟩ | ⟨a, a', h1, h2, h3⟩
      · rw [h1, h2]
        exact .inl ⟨rfl, rfl, rfl, rfl, rfl⟩
      · rw [h1, h2]
        exact .inr ⟨rfl, rfl, h3⟩
theorem parseL_sh (d n n' : Nat) (ts : List Tok) : Spaced d n n' (parseL n ts) (parseL n' (ts.map (sh d))) := by
  have hlab : labB (ts.map (sh d)) = labB ts := by
    match ts with
    | [] => rfl
    | [_] => rfl
    | t :: u :: r => rfl
  unfold parseL
  rw [hlab]
  by_cases h : labB ts = true
  · rw [if_pos h, if_pos h]
    have e1 : (ts.map (sh d)).drop 2 = (ts.drop 2).map (sh d) := by rw [List.map_drop]
    have e2 : (((ts.map (sh d)).head?).map (·.text)).getD ⟨#[]⟩ = ((ts.head?).map (·.text)).getD ⟨#[]⟩ := by
      cases ts <;> rfl
    rw [e1, e2]
    exact parseT_sh d n n' _ _
  · rw [if_neg h, if_neg h]
    exact parseT_sh d n n' _ _
theorem parse_spaced {s s' : ByteArray} {u : List UInt8} (hs' : s'.data.toList = [9, 32, 32] ++ (s.data.toList ++ (32 :: 59 :: u))) : Spaced 3 s.size s'.size (parseS s) (parseS s') := by
  obtain ⟨m, hm⟩ : ∃ m : ByteArray, m.data.toList = s.data.toList ++ (32 :: 59 :: u) := ⟨⟨(s.data.toList ++ (32 :: 59 :: u)).toArray⟩, by simp⟩
  rw [← hm] at hs'
  have hsz' : 3 ≤ s'.size := by
    have := congrArg List.length hs'
    simp at this; omega
  have hbl : rowN s'.data.toList blanksL = 3 + rowN (s'.data.toList.drop 3) blanksL := by
    rw [hs']
    exact rowN_append_all (D := [9, 32, 32]) rfl
  rcases lexS_or s with ⟨ts, hc, he⟩ | ⟨a, hw, he⟩
  · have hc' := chain_blanks hsz' hbl (by simpa using chain_shift (P := [9, 32, 32]) hs' (chain_append hm hc))
    have he' := chain_lexS hc'
    have h1 : parseS s = parseL s.size ts := by unfold parseS; rw [he]; rfl
    have h2 : parseS s' = parseL s'.size (ts.map (sh 3)) := by unfold parseS; rw [he']; rfl
    rw [h1, h2]
    exact parseL_sh 3 _ _ ts
  · have hw' := wr_blanks hsz' hbl (by simpa using wr_shift (P := [9, 32, 32]) hs' (wr_append hm hw))
    have he' : lexS s' = ([], a + 3, 20) := wr_lexF hw' _ _ (by omega)
    have h1 : parseS s = (lnNil, a, 20) := by unfold parseS; rw [he]; rfl
    have h2 : parseS s' = (lnNil, a + 3, 20) := by unfold parseS; rw [he']; rfl
    rw [h1, h2]
    exact .inr ⟨rfl, rfl, .inl rfl⟩
theorem argsS_ne (n : Nat) : ∀ (ts : List Tok) (done : List (List Tok)) (cur : List Tok) (r : List (List Tok)), argsS n ts done cur = .ok r → (∀ l, l ∈ done → l ≠ []) → ∀ l, l ∈ r → l ≠ []
  | [], done, cur, r, h, hd => by
    simp only [argsS] at h
    split at h
    · cases h
    · rename_i hc
      injection h with h
      subst h
      intro l hl
      rcases List.mem_append.1 hl with hl | hl
      · exact hd l hl
      · have : l = cur := by simpa using hl
        subst this
        exact hc
  | t :: ts, done, cur, r, h, hd => by
    simp only [argsS] at h
    split at h
    · cases h
    · rename_i h0
      split at h
      · rename_i h1
        refine argsS_ne n ts _ _ r h fun l hl => ?_
        rcases List.mem_append.1 hl with hl | hl
        · exact hd l hl
        · have : l = cur := by simpa using hl
          subst this
          intro hh
          subst hh
          rw [h1] at h0
          simp at h0
      · exact argsS_ne n ts _ _ r h hd
theorem parseT_ne (n : Nat) (lb : ByteArray) (us : List Tok) : ∀ l, l ∈ (parseT n lb us).1.args → l ≠ [] := by
  cases us with
  | nil => simp [parseT]
  | cons t us =>
    simp only [parseT]
    split
    · simp [lnNil]
    · cases hA : argsA n us with
      | error a => simp [lnNil]
      | ok r =>
        unfold argsA at hA
        split at hA
        · injection hA with hA
          subst hA
          simp
        · exact argsS_ne n us [] [] r hA (by simp)
theorem parseS_ne (s : ByteArray) : ∀ l, l ∈ (parseS s).1.args → l ≠ [] := by
  unfold parseS
  split
  · simp [lnNil]
  · unfold parseL
    split
    · exact parseT_ne _ _ _
    · exact parseT_ne _ _ _
theorem chain_at {s : ByteArray} {k : Nat} {ts : List Tok} (h : Chain s k ts) : ∀ t, t ∈ ts → t.at_ ≤ s.size := by
  induction h with
  | stop k hk hD => simp
  | tok k kind n m ts hk hD hc ih =>
    intro t ht
    rcases List.mem_cons.1 ht with rfl | ht
    · exact blank_le hk
    · exact ih t ht
theorem argsS_all (P : Tok → Prop) (n : Nat) : ∀ (ts : List Tok) (done : List (List Tok)) (cur : List Tok) (r : List (List Tok)), argsS n ts done cur = .ok r → (∀ l, l ∈ done → ∀ t, t ∈ l → P t) → (∀ t, t ∈ cur → P t) → (∀ t, t ∈ ts → P t) → ∀ l, l ∈ r → ∀ t, t ∈ l → P t
  | [], done, cur, r, h, hd, hc, ht => by
    simp only [argsS] at h
    split at h
    · cases h
    · injection h with h
      subst h
      intro l hl
      rcases List.mem_append.1 hl with hl | hl
      · exact hd l hl
      · have : l = cur := by simpa using hl
        subst this
        exact hc
  | t :: ts, done, cur, r, h, hd, hc, ht => by
    simp only [argsS] at h
    split at h
    · cases h
    · split at h
      · refine argsS_all P n ts _ _ r h (fun l hl => ?_) (by simp) (fun x hx => ht x (by simp [hx]))
        rcases List.mem_append.1 hl with hl | hl
        · exact hd l hl
        · have : l = cur := by simpa using hl
          subst this
          exact hc
      · refine argsS_all P n ts _ _ r h hd (fun x hx => ?_) (fun x hx => ht x (by simp [hx]))
        rcases List.mem_append.1 hx with hx | hx
        · exact hc x hx
        · have : x = t := by simpa using hx
          subst this
          exact ht x (by simp)
theorem argsS_err (n N : Nat) (hn : n ≤ N) : ∀ (ts : List Tok) (done : List (List Tok)) (cur : List Tok) (a : Nat), argsS n ts done cur = .error a → (∀ t, t ∈ ts → t.at_ ≤ N) → a ≤ N
  | [], done, cur, a, h, ht => by
    simp only [argsS] at h
    split at h
    · injection h with h
      omega
    · cases h
  | t :: ts, done, cur, a, h, ht => by
    simp only [argsS] at h
    split at h
    · injection h with h
      subst h
      exact ht t (by simp)
    · split at h
      · exact argsS_err n N hn ts _ _ a h fun x hx => ht x (by simp [hx])
      · exact argsS_err n N hn ts _ _ a h fun x hx => ht x (by simp [hx])
theorem parseT_at (n N : Nat) (hn : n ≤ N) (lb : ByteArray) (us : List Tok) (h : ∀ t, t ∈ us → t.at_ ≤ N) : (parseT n lb us).2.1 ≤ N ∧ ∀ l, l ∈ (parseT n lb us).1.args → ∀ t, t ∈ l → t.at_ ≤ N := by
  cases us with
  | nil => exact ⟨Nat.zero_le _, by simp [parseT]⟩
  | cons t us =>
    have hus : ∀ x, x ∈ us → x.at_ ≤ N := fun x hx => h x (by simp [hx])
    simp only [parseT]
    split
    · exact ⟨h t (by simp), by simp [lnNil]⟩
    · cases hA : argsA n us with
      | error a =>
        refine ⟨?_, by simp [lnNil]⟩
        unfold argsA at hA
        split at hA
        · cases hA
        · exact argsS_err n N hn us [] [] a hA hus
      | ok r =>
        refine ⟨Nat.zero_le _, ?_⟩
        unfold argsA at hA
        split at hA
        · injection hA with hA
          subst hA
          simp
        · exact argsS_all (fun t => t.at_ ≤ N) n us [] [] r hA (by simp) (by simp) hus
theorem parseS_at (s : ByteArray) : (parseS s).2.1 ≤ s.size ∧ ∀ l, l ∈ (parseS s).1.args → ∀ t, t ∈ l → t.at_ ≤ s.size := by
  unfold parseS
  rcases lexS_or s with ⟨ts, hc, he⟩ | ⟨a, hw, he⟩
  · rw [he]
    have hat := chain_at hc
    show (parseL s.size ts).2.1 ≤ s.size ∧ _
    unfold parseL
    split
    · exact parseT_at _ _ (Nat.le_refl _) _ _ fun t ht => hat t (List.mem_of_mem_drop ht)
    · exact parseT_at _ _ (Nat.le_refl _) _ _ hat
  · rcases lexS_cases s with ⟨_, h2⟩ | ⟨b, hb, h2⟩
    · rw [he] at h2; cases h2
    · rw [he] at h2
      injection h2 with _ h2
      injection h2 with h2 _
      rw [he]
      exact ⟨by show a ≤ s.size; omega, by simp [lnNil]⟩
end Go.Sx
