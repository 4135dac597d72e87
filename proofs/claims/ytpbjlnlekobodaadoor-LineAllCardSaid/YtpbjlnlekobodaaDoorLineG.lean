/- Lines of a text: what strings.Cut at each line's end makes (the iterator's list) is what the reference's Lines makes; the calls over heaps. Condition: texts of at most 2 ^ 40 bytes. -/
import Derived.Test.YtpbjlnlekobodaaDoorLineC
import Derived.Test.YtpbjlnlekobodaaDoorLineW
import Derived.Test.YtpbjlnlekobodaaDoorRngA
set_option linter.unusedVariables false
set_option linter.unusedSimpArgs false
set_option linter.deprecated false
set_option maxRecDepth 100000
namespace Go.Sx
open Go.Proofs
/-- Lines, byte by byte: what has come of the current line, what is to come. -/
def linesB : List UInt8 → List UInt8 → List (List UInt8)
  | cur, [] => if cur = [] then [] else [cur]
  | cur, b :: l => if b = 10 then cur :: linesB [] l else linesB (cur ++ [b]) l
theorem linesB_end (cur : List UInt8) : linesB cur [] = if cur = [] then [] else [cur] := rfl
theorem linesB_cons (cur : List UInt8) (b : UInt8) (l : List UInt8) : linesB cur (b :: l) = if b = 10 then cur :: linesB [] l else linesB (cur ++ [b]) l := rfl
theorem linesB_cut : ∀ (l cur : List UInt8), linesB cur l = if Lib.index l [10] = -1 then (if cur ++ l = [] then [] else [cur ++ l]) else (cur ++ l.take (Lib.index l [10]).toNat) :: linesB [] (l.drop ((Lib.index l [10]).toNat + 1))
  | [], cur => by simp [linesB, Lib.index]
  | b :: l, cur => by
    have ih := linesB_cut l (cur ++ [b])
    have e1 : linesB cur (b :: l) = if b = 10 then cur :: linesB [] l else linesB (cur ++ [b]) l := rfl
    have e2 : Lib.index (b :: l) [10] = if List.isPrefixOf [10] (b :: l) then 0 else if Lib.index l [10] == -1 then -1 else Lib.index l [10] + 1 := rfl
    rw [e1, e2]
    by_cases hb : b = 10
    · subst hb
      simp
    · have hp : List.isPrefixOf [10] (b :: l) = false := by
        simp [List.isPrefixOf]; exact fun h => hb h.symm
      rw [if_neg hb, ih, hp]
      by_cases hi : Lib.index l [10] = -1
      · simp [hi]
      · have hg := Lib.index_ge l [10]
        have h1 : (Lib.index l [10] == -1) = false := by simpa using hi
        have h2 : ¬ Lib.index l [10] + 1 = -1 := by omega
        have h3 : (Lib.index l [10] + 1).toNat = (Lib.index l [10]).toNat + 1 := by omega
        simp only [hi, h1, if_false, Bool.false_eq_true, h2, h3, List.take_succ_cons, List.drop_succ_cons, List.append_assoc, List.singleton_append]
theorem cutB_lt (t : ByteArray) (ht : t.size ≠ 0) : (cutB t).size < t.size := by
  have hsz : t.data.toList.length = t.size := by simp
  have : (cutB t).size = (Lib.cut t.data.toList [10]).2.1.length := by simp [cutB, ByteArray.size]
  rw [this]
  unfold Lib.cut
  split
  · rw [List.length_drop]; simp; omega
  · simp; omega
/-- The iterator's texts are the lines. -/
theorem linesF_texts : ∀ (f n : Nat) (s : ByteArray), s.size < f → (linesF f n s).map (fun x => x.2.data.toList) = linesB [] s.data.toList
  | 0, _, _, h => by omega
  | f + 1, n, s, h => by
    unfold linesF
    by_cases h0 : s.size = 0
    · have : s.data.toList = [] := List.eq_nil_of_length_eq_zero (by simpa using h0)
      rw [if_pos h0, this]
      rfl
    · have hne : s.data.toList ≠ [] := fun e => h0 (by have := congrArg List.length e; simpa using this)
      have ih := linesF_texts f (n + 1) (cutB s) (by have := cutB_lt s h0; omega)
      rw [if_neg h0, List.map_cons, ih, linesB_cut s.data.toList []]
      have hg := Lib.index_ge s.data.toList [10]
      by_cases hi : Lib.index s.data.toList [10] = -1
      · have : ¬ 0 ≤ Lib.index s.data.toList [10] := by omega
        simp [hi, cutA, cutB, Lib.cut, linesB, hne]
      · have : 0 ≤ Lib.index s.data.toList [10] := by omega
        simp [hi, cutA, cutB, Lib.cut, this]
theorem linesF_num : ∀ (f n : Nat) (s : ByteArray) (k : Nat) (x : Nat × ByteArray), (linesF f n s)[k]? = some x → x.1 = n + k
  | 0, _, _, _, _, h => by simp [linesF] at h
  | f + 1, n, s, k, x, h => by
    unfold linesF at h
    split at h
    · simp at h
    · cases k with
      | zero => simp at h; rw [← h]; rfl
      | succ k =>
        simp at h
        rw [linesF_num f (n + 1) (cutB s) k x h]
        omega
/-- The lines of a text. -/
def lnS (s : ByteArray) : List ByteArray := (linesF (s.size + 1) 1 s).map (·.2)
theorem lnS_bytes (s : ByteArray) : (lnS s).map (·.data.toList) = linesB [] s.data.toList := by
  unfold lnS
  rw [List.map_map]
  exact linesF_texts _ _ _ (by omega)
theorem lnS_of {s : ByteArray} {l : List ByteArray} (h : l.map (·.data.toList) = linesB [] s.data.toList) : l = lnS s := by
  have h2 := h.trans (lnS_bytes s).symm
  have : ∀ (a b : List ByteArray), a.map (·.data.toList) = b.map (·.data.toList) → a = b := by
    intro a
    induction a with
    | nil => intro b hb; cases b with
      | nil => rfl
      | cons y b => simp at hb
    | cons x a ih => intro b hb; cases b with
      | nil => simp at hb
      | cons y b =>
        simp only [List.map_cons, List.cons.injEq] at hb
        rw [ih b hb.2, ba_ext hb.1]
  exact this _ _ h2
/-- The k-th that the iterator hands out. -/
theorem linesF_at {s : ByteArray} {pre : List (Nat × ByteArray)} {x : Nat × ByteArray} (h : pre ++ [x] <+: linesF (s.size + 1) 1 s) : x.1 = pre.length + 1 ∧ (lnS s)[pre.length]? = some x.2 := by
  obtain ⟨t, ht⟩ := h
  have : (linesF (s.size + 1) 1 s)[pre.length]? = some x := by rw [← ht]; simp
  refine ⟨?_, ?_⟩
  · rw [linesF_num _ _ _ _ _ this]; omega
  · unfold lnS; rw [List.getElem?_map, this]; rfl
theorem undS : Tryd.prog.underlying 44 = some (.slice 9) := by kernel_rfl
theorem strZS : (Tryd.prog.info? 9).map (fun i => (i.zero, i.size, i.bytes)) = some (some (.string ⟨#[]⟩), 1, 16) := by kernel_rfl
theorem all_hc (s : ByteArray) (h : Hp) : HC Tryd.prog 39 #[.string s] h fun v h' => v = .func (.func 76) #[] #[.pointer (some ⟨h.size, 0, none⟩)] ∧ Box h' h.size 9 [.string s] ∧ Ext h h' ∧ h'.size = h.size + 1 := by
  refine hcr_of (args := [.string s]) mixed Tryd.func39 (by kernel_rfl) (t_line_All_eq s) ?_
  unfold t_line_All
  refine newB ?_
  intro h1 b1 e1 z1
  exact ⟨rfl, b1, e1, z1⟩
theorem within_hc (n : Int) (h : Hp) : HC Tryd.prog 41 #[.int .i64 n, .int .i64 0, .int .i64 20] h fun v h' => (∃ k : Int, v = .int .i64 k ∧ 0 ≤ k ∧ k ≤ 20) ∧ h' = h := by
  refine hcr_of (args := [.int .i64 n, .int .i64 0, .int .i64 20]) mixed Tryd.func41 (by kernel_rfl) (t_spandrelbook_Within_eq n 0 20) ?_
  unfold t_spandrelbook_Within
  have e : IntKind.wrap .i64 (IntKind.wrap .i64 (20 - 0) + 1) = 21 := by decide
  rw [e]
  have hm1 : Int.tmod n 21 < 21 := Int.tmod_lt_of_pos n (by omega)
  have hm2 : -21 < Int.tmod n 21 := by have := Int.lt_tmod_of_pos n (show (0:Int) < 21 by omega); omega
  refine need_of (by decide) ?_
  have w : ∀ x : Int, -1000 ≤ x → x ≤ 1000 → IntKind.wrap .i64 x = x := fun x h1 h2 => wrap_i64 (by omega) (by omega)
  refine cond_mk (fun g => ?_) (fun g => ?_)
  · have g := of_decide_eq_true g
    refine ⟨⟨_, rfl, ?_⟩, rfl⟩
    rw [w _ (show -1000 ≤ Int.tmod n 21 + 20 by omega) (by omega), w _ (show -1000 ≤ Int.tmod n 21 + 20 - 0 by omega) (by omega), w _ (show -1000 ≤ Int.tmod n 21 + 20 - 0 + 1 by omega) (by omega), w _ (by omega) (by omega)]
    omega
  · have g := of_decide_eq_false g
    refine ⟨⟨_, rfl, ?_⟩, rfl⟩
    rw [w _ (by omega) (by omega)]
    omega
abbrev enS (x : ByteArray) : List Value := [.string x]
abbrev lnsCs : List Comp := [(false, [.slice 0]), (false, [.int .i64]), (false, [.int .i64])]
theorem lines_hc (s : ByteArray) (h : Hp) (hs : s.size ≤ 2 ^ 40) : HC Tryd.prog 40 #[.string s] h fun v h' => (∃ p c, v = .slice p (lnS s).length c ∧ SL h' h.size 9 1 p (lnS s).length c ((lnS s).map enS)) ∧ Ext h h' := by
  refine hcr_of (args := [.string s]) mixed Tryd.func40 (by kernel_rfl) (t_spandrelref3_Lines_eq s) ?_
  unfold t_spandrelref3_Lines
  have hsl : s.data.toList.length = s.size := by simp
  refine loop_of (cs := lnsCs) (fun x n h' => ∃ (from_ i : Nat) (out : List ByteArray) (p : Option Addr) (c : Nat), x = ((p, out.length, c), (from_ : Int), (i : Int), ()) ∧ n = s.size - i ∧ from_ ≤ i ∧ i ≤ s.size ∧ out.length ≤ i ∧
      SL h' h.size 9 1 p out.length c (out.map enS) ∧ Ext h h' ∧ out.map (·.data.toList) ++ linesB ((s.data.toList.drop from_).take (i - from_)) (s.data.toList.drop i) = linesB [] s.data.toList)
    ((none, 0, 0), (0 : Int), (0 : Int), ()) s.size rfl ⟨0, 0, [], none, 0, rfl, by omega, by omega, by omega, by simp, SL.nil _ _ _ _, Ch.refl _ _, by simp⟩ ?_
  rintro ⟨⟨p1, l2, l3⟩, n4, n5, ⟨⟩⟩ m h' ⟨from_, i, out, p, c, he, rfl, hfi, his, hoi, sl, ex, hl⟩
  obtain ⟨⟨rfl, rfl, rfl⟩, rfl, rfl, _⟩ := he
  dsimp only [flat, unc, unc1, List.nil_append, List.cons_append]
  have w : i < s.size → IntKind.wrap .i64 ((i : Int) + 1) = ((i + 1 : Nat) : Int) := fun hi => by rw [wrap_i64 (by omega) (by omega)]; omega
  refine cond_mk (fun g => ?_) (fun g => ?_)
  · have g := of_decide_eq_true g
    have hi : i < s.size := by omega
    refine need_of ⟨by omega, g⟩ ?_
    have hdr : s.data.toList.drop i = s.data.toList[i] :: s.data.toList.drop (i + 1) := by rw [List.drop_eq_getElem_cons]
    have hgd : sbyte s (i : Int) = ((s.data.toList[i]'(by omega)).toNat : Int) := by
      unfold sbyte
      rw [Int.toNat_natCast, List.getD_eq_getElem?_getD, List.getElem?_eq_getElem (by omega)]
      rfl
    refine cond_mk (fun g1 => ?_) (fun g1 => ?_)
    · have h10 : s.data.toList[i]'(by omega) = 10 := by
        have := eq_of_beq g1
        rw [hgd] at this
        exact UInt8.toNat_inj.1 (by have h : (10 : UInt8).toNat = 10 := rfl; omega)
      refine need_of ⟨by omega, by omega, by omega⟩ ?_
      refine push_of (vs := [.string (s.extract (Int.toNat (from_ : Int)) (Int.toNat (i : Int)))]) undS strZS rfl (by omega) (by omega) (by kernel_rfl) rfl rfl sl (by have := ex.size; omega) (by omega) (by omega) ?_
      intro p' c' h7 s7 k7 hp7
      have ex7 : Ext h h7 := Ch.trans ex k7 (fun j hj hl => by have := (sl.blk hj).1; omega)
      refine again_mk (cs := lnsCs) ((p', out.length + 1, c'), ((i + 1 : Nat) : Int), ((i + 1 : Nat) : Int), ()) (s.size - (i + 1)) rfl (by omega) (by rw [w hi]; rfl) ⟨i + 1, i + 1, out ++ [s.extract (Int.toNat (from_ : Int)) (Int.toNat (i : Int))], p', c', by rw [List.length_append]; rfl, rfl, by omega, by omega, by simp; omega, by simpa using s7, ex7, ?_⟩
      rw [hdr, h10, linesB_cons, if_pos rfl] at hl
      rw [← hl]
      simp
    · have h10 : ¬ s.data.toList[i]'(by omega) = 10 := by
        intro e
        rw [hgd, e] at g1
        revert g1; decide
      refine again_mk (cs := lnsCs) ((p1, out.length, l3), (from_ : Int), ((i + 1 : Nat) : Int), ()) (s.size - (i + 1)) rfl (by omega) (by rw [w hi]; rfl) ⟨from_, i + 1, out, p1, l3, rfl, rfl, by omega, by omega, by omega, sl, ex, ?_⟩
      rw [hdr, linesB_cons, if_neg h10] at hl
      rw [← hl]
      congr 2
      rw [show i + 1 - from_ = (i - from_) + 1 by omega, List.take_succ_eq_append_getElem (by rw [List.length_drop]; omega)]
      congr 1
      simp [show from_ + (i - from_) = i by omega]
  · have g := of_decide_eq_false g
    obtain rfl : i = s.size := by omega
    have hd : s.data.toList.drop s.size = [] := List.drop_of_length_le (by omega)
    rw [hd] at hl
    refine cond_mk (fun g1 => ?_) (fun g1 => ?_)
    · have g1 := of_decide_eq_true g1
      refine need_of ⟨by omega, by omega, by omega⟩ ?_
      refine push_of (vs := [.string (s.extract (Int.toNat (from_ : Int)) (Int.toNat (s.size : Int)))]) undS strZS rfl (by omega) (by omega) (by kernel_rfl) rfl rfl sl (by have := ex.size; omega) (by omega) (by omega) ?_
      intro p' c' h7 s7 k7 hp7
      have ex7 : Ext h h7 := Ch.trans ex k7 (fun j hj hl => by have := (sl.blk hj).1; omega)
      have hne : ¬ (s.data.toList.drop from_).take (s.size - from_) = [] := fun e => by have := congrArg List.length e; simp at this; omega
      have hlt : out ++ [s.extract (Int.toNat (from_ : Int)) (Int.toNat (s.size : Int))] = lnS s := by
        refine lnS_of ?_
        rw [← hl, linesB_end, if_neg hne]
        simp
      refine ⟨⟨p', c', ?_, ?_⟩, ex7⟩
      · rw [← hlt]; simp
      · rw [← hlt]; simpa using s7
    · have g1 := of_decide_eq_false g1
      have hf : from_ = s.size := by omega
      have hlt : out = lnS s := by
        refine lnS_of ?_
        rw [← hl, hf]
        simp [linesB]
      rw [← hlt]
      exact ⟨⟨p1, l3, rfl, sl⟩, ex⟩
end Go.Sx
