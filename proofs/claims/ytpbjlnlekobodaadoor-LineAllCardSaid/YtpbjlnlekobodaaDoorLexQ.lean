/- Chains of tokens: a remark behind a text hides all, tokens with blanks between are read again. No condition. -/
import Derived.Test.YtpbjlnlekobodaaDoorLexGP
import Derived.Test.YtpbjlnlekobodaaDoorLexH
set_option linter.unusedVariables false
set_option linter.unusedSimpArgs false
set_option linter.deprecated false
set_option maxRecDepth 100000
namespace Go.Sx
open Go.Proofs
/-- The tokens from a place on, to the end. -/
inductive Chain (s : ByteArray) : Nat → List Tok → Prop where
  | stop (k : Nat) : k ≤ s.size → lexD (s.data.toList.drop (k + rowN (s.data.toList.drop k) blanksL)) = .stop → Chain s k []
  | tok (k kind n m : Nat) (ts : List Tok) : k ≤ s.size → lexD (s.data.toList.drop (k + rowN (s.data.toList.drop k) blanksL)) = .tok kind n m → Chain s (k + rowN (s.data.toList.drop k) blanksL + n) ts →
      Chain s k (⟨kind, s.extract (k + rowN (s.data.toList.drop k) blanksL) (k + rowN (s.data.toList.drop k) blanksL + n), m, k + rowN (s.data.toList.drop k) blanksL⟩ :: ts)
theorem blank_le {s : ByteArray} {k : Nat} (hk : k ≤ s.size) : k + rowN (s.data.toList.drop k) blanksL ≤ s.size := by
  have h1 := rowN_le (s.data.toList.drop k) blanksL
  rw [List.length_drop] at h1
  have hsz : s.data.toList.length = s.size := by simp
  omega
theorem lexStep_lexD {s : ByteArray} {k : Nat} (hk : k ≤ s.size) : lexStep s k = mkStep s (k + rowN (s.data.toList.drop k) blanksL) (lexD (s.data.toList.drop (k + rowN (s.data.toList.drop k) blanksL))) := by
  unfold lexStep
  exact lexAt_lexD s _ (blank_le hk)
theorem lexD_pos {D : List UInt8} {k n m : Nat} (h : lexD D = .tok k n m) : 0 < n ∧ n ≤ D.length := (lexD_local (E := []) h (.inl rfl)).2
theorem lexD_nil : lexD [] = .stop := rfl
theorem lexF_chain {s : ByteArray} : ∀ (f k : Nat) (acc : List Tok), k ≤ s.size → s.size - k < f →
    (∃ ts, Chain s k ts ∧ lexF s f k acc = (acc ++ ts, 0, 0)) ∨ (∃ a, a < s.size ∧ lexF s f k acc = ([], a, 20))
  | 0, k, acc, hk, hf => by omega
  | f + 1, k, acc, hk, hf => by
    have hst := lexStep_lexD hk
    have ha := blank_le hk
    have hsz : s.data.toList.length = s.size := by simp
    cases hD : lexD (s.data.toList.drop (k + rowN (s.data.toList.drop k) blanksL)) with
    | stop =>
      rw [hD] at hst
      exact .inl ⟨[], .stop k hk hD, by rw [lexF_stop hst, List.append_nil]⟩
    | wrong =>
      rw [hD] at hst
      refine .inr ⟨_, ?_, lexF_wrong hst⟩
      rcases Nat.lt_or_ge (k + rowN (s.data.toList.drop k) blanksL) s.size with h | h
      · exact h
      · rw [List.drop_eq_nil_of_le (by omega), lexD_nil] at hD; cases hD
    | tok kind n m =>
      rw [hD] at hst
      obtain ⟨h1, h2⟩ := lexD_pos hD
      rw [List.length_drop] at h2
      rcases lexF_chain (s := s) f (k + rowN (s.data.toList.drop k) blanksL + n) (acc ++ [⟨kind, s.extract (k + rowN (s.data.toList.drop k) blanksL) (k + rowN (s.data.toList.drop k) blanksL + n), m, k + rowN (s.data.toList.drop k) blanksL⟩]) (by omega) (by omega) with ⟨ts, hc, he⟩ | ⟨a, ha', he⟩
      · refine .inl ⟨_, .tok k kind n m ts hk hD hc, ?_⟩
        rw [lexF_tok hst, he, List.append_assoc, List.singleton_append]
      · exact .inr ⟨a, ha', by rw [lexF_tok hst, he]⟩
theorem chain_lexF {s : ByteArray} {k : Nat} {ts : List Tok} (h : Chain s k ts) : ∀ (f : Nat) (acc : List Tok), s.size - k < f → lexF s f k acc = (acc ++ ts, 0, 0) := by
  induction h with
  | stop k hk hD =>
    intro f acc hf
    obtain ⟨f, rfl⟩ : ∃ f', f = f' + 1 := ⟨f - 1, by omega⟩
    have hst := lexStep_lexD hk
    rw [hD] at hst
    rw [lexF_stop hst, List.append_nil]
  | tok k kind n m ts hk hD hc ih =>
    intro f acc hf
    obtain ⟨f, rfl⟩ : ∃ f', f = f' + 1 := ⟨f - 1, by omega⟩
    have hst := lexStep_lexD hk
    rw [hD] at hst
    obtain ⟨h1, h2⟩ := lexD_pos hD
    have ha := blank_le hk
    have hsz : s.data.toList.length = s.size := by simp
    rw [List.length_drop] at h2
    rw [lexF_tok hst, ih f _ (by omega), List.append_assoc, List.singleton_append]
theorem lexS_cases (s : ByteArray) : (Chain s 0 (lexS s).1 ∧ (lexS s).2 = (0, 0)) ∨ (∃ a, a < s.size ∧ lexS s = ([], a, 20)) := by
  rcases lexF_chain (s := s) (s.size + 1) 0 [] (by omega) (by omega) with ⟨ts, hc, he⟩ | ⟨a, ha, he⟩
  · refine .inl ?_
    unfold lexS
    rw [he]
    exact ⟨hc, rfl⟩
  · exact .inr ⟨a, ha, he⟩
theorem chain_lexS {s : ByteArray} {ts : List Tok} (h : Chain s 0 ts) : lexS s = (ts, 0, 0) := by
  unfold lexS
  rw [chain_lexF h _ _ (by omega)]; rfl
theorem ba_ext {s t : ByteArray} (h : s.data.toList = t.data.toList) : s = t := by
  cases s; cases t
  simp only at h
  congr 1
  exact Array.toList_inj.1 h
theorem rowN_append_lt {set D E : List UInt8} (h : rowN D set < D.length) : rowN (D ++ E) set = rowN D set := by
  unfold rowN at h ⊢
  induction D with
  | nil => simp at h
  | cons d D ih =>
    simp only [List.cons_append, List.takeWhile_cons] at h ⊢
    cases hd : set.contains d with
    | false => rfl
    | true =>
      rw [hd] at h
      simp only [if_true, List.length_cons] at h ⊢
      rw [ih (by omega)]
theorem rowN_append_all {set D E : List UInt8} (h : rowN D set = D.length) : rowN (D ++ E) set = D.length + rowN E set := by
  unfold rowN at h ⊢
  induction D with
  | nil => simp
  | cons d D ih =>
    simp only [List.cons_append, List.takeWhile_cons] at h ⊢
    cases hd : set.contains d with
    | false => rw [hd] at h; simp at h
    | true =>
      rw [hd] at h
      simp only [if_true, List.length_cons] at h ⊢
      rw [ih (by omega)]
      omega
theorem lexD_stop {D : List UInt8} (h : lexD D = .stop) : D = [] ∨ D.getD 0 0 = 59 := by
  unfold lexD at h
  by_cases h1 : D = []
  · exact .inl h1
  rw [if_neg h1] at h
  by_cases h2 : D.getD 0 0 = 59
  · exact .inr h2
  rw [if_neg h2] at h
  repeat' (split at h)
  all_goals cases h
theorem rowN_glued_append {D E : List UInt8} (hE : rowN E gluedL = 0) : rowN (D ++ E) gluedL = 0 ∨ rowN D gluedL ≠ 0 := by
  cases D with
  | nil => exact .inl (by simpa using hE)
  | cons d D =>
    by_cases h : gluedL.contains d = true
    · right
      unfold rowN
      rw [List.takeWhile_cons, h]
      simp
    · left
      refine rowN_zero.2 fun c r he => ?_
      injection he with a1 a2
      rw [← a1]
      simpa using h
/-- A remark behind a text's end hides all. -/
theorem chain_append {s s' : ByteArray} {u : List UInt8} (hs' : s'.data.toList = s.data.toList ++ (32 :: 59 :: u)) {k : Nat} {ts : List Tok} (h : Chain s k ts) : Chain s' k ts := by
  have hsz : s.data.toList.length = s.size := by simp
  have hsz' : s'.size = s.size + (u.length + 2) := by
    have := congrArg List.length hs'
    simp at this; omega
  induction h with
  | stop k hk hD =>
    refine .stop k (by omega) ?_
    have e0 : s'.data.toList.drop k = s.data.toList.drop k ++ (32 :: 59 :: u) := by rw [hs', List.drop_append_of_le_length (by omega)]
    rw [e0]
    have hr := rowN_le (s.data.toList.drop k) blanksL
    rcases Nat.lt_or_ge (rowN (s.data.toList.drop k) blanksL) (s.data.toList.drop k).length with h1 | h1
    · rw [rowN_append_lt h1]
      rw [List.length_drop] at h1
      rw [hs', List.drop_append_of_le_length (by omega)]
      rcases lexD_stop hD with h2 | h2
      · have := List.drop_eq_nil_iff.1 h2; omega
      · cases h3 : s.data.toList.drop (k + rowN (s.data.toList.drop k) blanksL) with
        | nil => have := List.drop_eq_nil_iff.1 h3; omega
        | cons d D =>
          rw [h3] at h2
          simp only [List.getD_cons_zero] at h2
          subst h2
          rfl
    · rw [rowN_append_all (by omega)]
      rw [show rowN ((32 : UInt8) :: 59 :: u) blanksL = 1 from rfl]
      rw [List.length_drop] at h1 ⊢
      rw [hs', show k + (s.data.toList.length - k + 1) = s.data.toList.length + 1 by omega, List.drop_append]
      rw [List.drop_eq_nil_of_le (by omega), show s.data.toList.length + 1 - s.data.toList.length = 1 by omega]
      rfl
  | tok k kind n m ts hk hD hc ih =>
    have hr := rowN_le (s.data.toList.drop k) blanksL
    obtain ⟨h1, h2⟩ := lexD_pos hD
    have hlt : rowN (s.data.toList.drop k) blanksL < (s.data.toList.drop k).length := by
      rw [List.length_drop] at h2 ⊢; omega
    have e1 : rowN (s'.data.toList.drop k) blanksL = rowN (s.data.toList.drop k) blanksL := by
      rw [hs', List.drop_append_of_le_length (by omega), rowN_append_lt hlt]
    rw [List.length_drop] at hlt h2
    have hD' : lexD (s'.data.toList.drop (k + rowN (s'.data.toList.drop k) blanksL)) = .tok kind n m := by
      rw [e1, hs', List.drop_append_of_le_length (by omega)]
      conv => lhs; rw [← List.take_append_drop n (s.data.toList.drop _), List.append_assoc]
      exact (lexD_local hD (rowN_glued_append rfl)).1
    have := Chain.tok (s := s') k kind n m ts (by omega) hD' (by rw [e1]; exact ih)
    rw [e1] at this
    have e2 : s'.extract (k + rowN (s.data.toList.drop k) blanksL) (k + rowN (s.data.toList.drop k) blanksL + n) = s.extract (k + rowN (s.data.toList.drop k) blanksL) (k + rowN (s.data.toList.drop k) blanksL + n) := by
      refine ba_ext ?_
      rw [ext_list, ext_list, hs', List.drop_append_of_le_length (by omega), List.take_append_of_le_length (by rw [List.length_drop]; omega)]
    rw [e2] at this
    exact this
/-- Texts with one blank behind each. -/
def joinL : List Tok → List UInt8
  | [] => []
  | t :: ts => t.text.data.toList ++ 32 :: joinL ts
/-- Alike but for the places. -/
def Alike (t u : Tok) : Prop := t.kind = u.kind ∧ t.text = u.text ∧ t.num = u.num
theorem lexD_blank {D : List UInt8} {k n m : Nat} (h : lexD D = .tok k n m) : rowN D blanksL = 0 := by
  refine rowN_zero.2 fun c r he => ?_
  subst he
  cases hb : blanksL.contains c with
  | false => rfl
  | true =>
    exfalso
    have hall := all_bytes (fun c => !blanksL.contains c || (!decide (c = 59) && !isLet c && !isDig c && !decide (c = 39) && !signsL.contains c)) (fun _ => true) (by decide +kernel) c
    simp only [hb, Bool.not_true, Bool.false_or, Bool.and_eq_true, Bool.not_eq_true', decide_eq_false_iff_not] at hall
    obtain ⟨⟨⟨⟨h1, h2⟩, h3⟩, h4⟩, h5⟩ := hall
    unfold lexD at h
    simp only [List.getD_cons_zero] at h
    rw [if_neg (by simp), if_neg h1, if_neg (by rw [h2]; simp), if_neg (by rw [h3]; simp), if_neg h4, if_neg (by rw [h5]; simp)] at h
    cases h
/-- Tokens with one blank between each two are read again. -/
theorem chain_join {s s' : ByteArray} {k : Nat} {ts : List Tok} (h : Chain s k ts) : ∀ (q : Nat) (B : List UInt8), (B = [] ∨ B = [32]) → q ≤ s'.size → s'.data.toList.drop q = B ++ joinL ts →
    ∃ us, Chain s' q us ∧ us.length = ts.length ∧ ∀ i (h1 : i < us.length) (h2 : i < ts.length), Alike us[i] ts[i] := by
  have hsz' : s'.data.toList.length = s'.size := by simp
  induction h with
  | stop k hk hD =>
    intro q B hB hq hJ
    refine ⟨[], .stop q hq ?_, rfl, fun i h1 _ => by simp at h1⟩
    have e1 : rowN (s'.data.toList.drop q) blanksL = (s'.data.toList.drop q).length := by
      rw [hJ]
      rcases hB with rfl | rfl <;> rfl
    rw [e1, List.length_drop, List.drop_eq_nil_of_le (by omega)]
    rfl
  | tok k kind n m ts hk hD hc ih =>
    intro q B hB hq hJ
    obtain ⟨h1, h2⟩ := lexD_pos hD
    generalize ha : k + rowN (s.data.toList.drop k) blanksL = a at *
    have eX : (s.extract a (a + n)).data.toList = (s.data.toList.drop a).take n := by rw [ext_list, show a + n - a = n by omega]
    have hJ' : s'.data.toList.drop q = B ++ ((s.data.toList.drop a).take n ++ 32 :: joinL ts) := by
      rw [hJ]
      show B ++ ((s.extract a (a + n)).data.toList ++ 32 :: joinL ts) = _
      rw [eX]
    have hloc := (lexD_local (E := 32 :: joinL ts) hD (.inl rfl)).1
    have hbl := lexD_blank hloc
    have e1 : rowN (s'.data.toList.drop q) blanksL = B.length := by
      rw [hJ', rowN_append_all (by rcases hB with rfl | rfl <;> rfl), hbl]; rfl
    have e2 : s'.data.toList.drop (q + B.length) = (s.data.toList.drop a).take n ++ 32 :: joinL ts := by
      rw [← List.drop_drop, hJ', List.drop_left]
    have hXl : ((s.data.toList.drop a).take n).length = n := by rw [List.length_take]; omega
    have e3 : s'.data.toList.drop (q + B.length + n) = [32] ++ joinL ts := by
      rw [← List.drop_drop, e2, List.drop_left' hXl]; rfl
    have hle : q + B.length + n ≤ s'.size := by
      have := congrArg List.length e3
      rw [List.length_drop] at this
      simp at this; omega
    obtain ⟨us, hu, hl, hs⟩ := ih (q + B.length + n) [32] (.inr rfl) hle e3
    have hD' : lexD (s'.data.toList.drop (q + rowN (s'.data.toList.drop q) blanksL)) = .tok kind n m := by rw [e1, e2]; exact hloc
    have := Chain.tok (s := s') q kind n m us hq hD' (by rw [e1]; exact hu)
    rw [e1] at this
    refine ⟨_, this, by simp [hl], ?_⟩
    intro i h3 h4
    cases i with
    | zero =>
      refine ⟨rfl, ba_ext ?_, rfl⟩
      show (s'.extract (q + B.length) (q + B.length + n)).data.toList = (s.extract a (a + n)).data.toList
      rw [eX, ext_list, e2, show q + B.length + n - (q + B.length) = n by omega, List.take_append_of_le_length (by omega), List.take_of_length_le (by omega)]
    | succ i => exact hs i (by simpa using h3) (by simpa using h4)
end Go.Sx
